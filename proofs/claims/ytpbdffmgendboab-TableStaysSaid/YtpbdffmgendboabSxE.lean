/- '==' and '!=' of structs, by name. -/
import Derived.Test.YtpbdffmgendboabSxT
import Derived.Test.YtpbdffmgendboabWdE
namespace Go.Proofs.Ytpbdffmgendboab
open Go Go.RowKit
namespace Sx
def eqbM (a c b d : BitVec 128) : Bool := Wd.eqb a b && Wd.eqb c d
theorem eqbM_true {a c b d : BitVec 128} (h : a = b) (k : c = d) : eqbM a c b d = true := by subst h; subst k; unfold eqbM; rw [eqb_self, eqb_self]; rfl
theorem eqbM_ne {a c b d : BitVec 128} (h : ¬ (a = b ∧ c = d)) : eqbM a c b d = false := by
  unfold eqbM
  by_cases e : a = b
  · rw [eqb_ne (a := c) (b := d) (fun k => h ⟨e, k⟩), Bool.and_false]
  · rw [eqb_ne e, Bool.false_and]
section
variable {w : World} {x y : Operand}
theorem run_eq {P : Program} {T : TypeId} {a b : Array Value} {r : Bool} (hg : P.eqGuardType P.depth T = false) (h : (Op.equal T (.agg a) (.agg b)).run P w = .ok r w) :
    (do eqGuard .eql T x y (.agg a) (.agg b); binOp .eql T (.agg a) (.agg b) : Sem Value).run P w = .ok (.bool r) w := by
  have h1 : (eqGuard .eql T x y (.agg a) (.agg b)).run P w = .ok () w := by
    unfold eqGuard
    simp [hg]
  rw [Sem.run_bind, h1]
  show (binOp .eql T (.agg a) (.agg b)).run P w = _
  show (do Pure.pure (Value.bool (← Op.equal T (.agg a) (.agg b))) : Sem Value).run P w = _
  rw [Sem.run_bind, h]; rfl
theorem run_ne {P : Program} {T : TypeId} {a b : Array Value} {r : Bool} (hg : P.eqGuardType P.depth T = false) (h : (Op.equal T (.agg a) (.agg b)).run P w = .ok r w) :
    (do eqGuard .neq T x y (.agg a) (.agg b); binOp .neq T (.agg a) (.agg b) : Sem Value).run P w = .ok (.bool (!r)) w := by
  have h1 : (eqGuard .neq T x y (.agg a) (.agg b)).run P w = .ok () w := by
    unfold eqGuard
    simp [hg]
  rw [Sem.run_bind, h1]
  show (do Pure.pure (Value.bool (!(← Op.equal T (.agg a) (.agg b)))) : Sem Value).run P w = _
  rw [Sem.run_bind, h]; rfl
theorem gV : Try.prog.eqGuardType Try.prog.depth 24 = false := by kernel_rfl
theorem i_eqV {a b : BitVec 128} {r : Bool} (h : Wd.eqb a b = r) : (do eqGuard .eql 24 x y (.agg #[.int .u64 (Wd.hi a).toNat, .int .u64 (Wd.lo a).toNat]) (.agg #[.int .u64 (Wd.hi b).toNat, .int .u64 (Wd.lo b).toNat]); binOp .eql 24 (.agg #[.int .u64 (Wd.hi a).toNat, .int .u64 (Wd.lo a).toNat]) (.agg #[.int .u64 (Wd.hi b).toNat, .int .u64 (Wd.lo b).toNat]) : Sem Value).run Try.prog w = .ok (.bool r) w :=
  run_eq gV (by rw [← h]; exact Try.eqV w a b)
theorem i_neV {a b : BitVec 128} {r : Bool} (h : (!Wd.eqb a b) = r) : (do eqGuard .neq 24 x y (.agg #[.int .u64 (Wd.hi a).toNat, .int .u64 (Wd.lo a).toNat]) (.agg #[.int .u64 (Wd.hi b).toNat, .int .u64 (Wd.lo b).toNat]); binOp .neq 24 (.agg #[.int .u64 (Wd.hi a).toNat, .int .u64 (Wd.lo a).toNat]) (.agg #[.int .u64 (Wd.hi b).toNat, .int .u64 (Wd.lo b).toNat]) : Sem Value).run Try.prog w = .ok (.bool r) w := by
  rw [← h]; exact run_ne gV (Try.eqV w a b)

theorem eqU_raw (w : World) (d : Nat) (a b c e : Int) : (Op.equalIn (d + 2) 43 (.agg #[.int .u64 a, .int .u64 b]) (.agg #[.int .u64 c, .int .u64 e])).run Try.prog w = .ok (a == c && b == e) w := by
  simp [go_sem]
  by_cases h : a = c
  · by_cases k : b = e <;> simp [h, k, Result.andThen]
  · simp [h, Result.andThen]
theorem eqV_any (w : World) (d : Nat) (a b : BitVec 128) : (Op.equalIn (d + 2) 24 (.agg #[.int .u64 (Wd.hi a).toNat, .int .u64 (Wd.lo a).toNat]) (.agg #[.int .u64 (Wd.hi b).toNat, .int .u64 (Wd.lo b).toNat])).run Try.prog w = .ok (Wd.eqb a b) w := by
  rw [Try.eqV_raw w d, eqb_nat]
theorem eqU_any (w : World) (d : Nat) (a b : BitVec 128) : (Op.equalIn (d + 2) 43 (.agg #[.int .u64 (Wd.hi a).toNat, .int .u64 (Wd.lo a).toNat]) (.agg #[.int .u64 (Wd.hi b).toNat, .int .u64 (Wd.lo b).toNat])).run Try.prog w = .ok (Wd.eqb a b) w := by
  rw [eqU_raw w d, eqb_nat]
theorem gU : Try.prog.eqGuardType Try.prog.depth 43 = false := by kernel_rfl
theorem i_eqU {a b : BitVec 128} {r : Bool} (h : Wd.eqb a b = r) : (do eqGuard .eql 43 x y (.agg #[.int .u64 (Wd.hi a).toNat, .int .u64 (Wd.lo a).toNat]) (.agg #[.int .u64 (Wd.hi b).toNat, .int .u64 (Wd.lo b).toNat]); binOp .eql 43 (.agg #[.int .u64 (Wd.hi a).toNat, .int .u64 (Wd.lo a).toNat]) (.agg #[.int .u64 (Wd.hi b).toNat, .int .u64 (Wd.lo b).toNat]) : Sem Value).run Try.prog w = .ok (.bool r) w :=
  run_eq gU (by rw [← h]; exact eqU_any w 9998 a b)
theorem i_neU {a b : BitVec 128} {r : Bool} (h : (!Wd.eqb a b) = r) : (do eqGuard .neq 43 x y (.agg #[.int .u64 (Wd.hi a).toNat, .int .u64 (Wd.lo a).toNat]) (.agg #[.int .u64 (Wd.hi b).toNat, .int .u64 (Wd.lo b).toNat]); binOp .neq 43 (.agg #[.int .u64 (Wd.hi a).toNat, .int .u64 (Wd.lo a).toNat]) (.agg #[.int .u64 (Wd.hi b).toNat, .int .u64 (Wd.lo b).toNat]) : Sem Value).run Try.prog w = .ok (.bool r) w := by
  rw [← h]; exact run_ne gU (eqU_any w 9998 a b)
theorem exit_past {Q : Exit → Act → World → Prop} {a : Act} {id i : Nat} (hne : i ≠ id) (h : Q (.exit i) a w) : Exit.inBlock id Q (.exit i) a w := by
  show (if i = id then Q .normal a w else Q (.exit i) a w)
  rw [if_neg hne]; exact h
theorem i_rem {P : Program} {k : IntKind} {T : TypeId} {p q r : Nat} (h : p % q = r) (hq : q ≠ 0) : (do eqGuard .rem T x y (.int k p) (.int k q); binOp .rem T (.int k p) (.int k q) : Sem Value).run P w = .ok (.int k r) w := by
  have h1 : (Op.intDiv .rem k (p : Int) (q : Int)).run P w = .ok (.int k r) w := by
    unfold Op.intDiv
    rw [if_neg (by omega)]
    show Result.ok (Value.int k ((p : Int).tmod (q : Int))) w = _
    rw [← Int.ofNat_tmod, h]
  have h2 : (do eqGuard .rem T x y (.int k p) (.int k q); binOp .rem T (.int k p) (.int k q) : Sem Value).run P w = (Op.intDiv .rem k (p : Int) (q : Int)).run P w := by cases k <;> rfl
  rw [h2, h1]
theorem i_addN {P : Program} {k : IntKind} {T : TypeId} {p q r : Nat} (h : p + q = r) (hw : k.wrap (r : Int) = r) : (do eqGuard .add T x y (.int k p) (.int k q); binOp .add T (.int k p) (.int k q) : Sem Value).run P w = .ok (.int k r) w := by
  have h2 : (do eqGuard .add T x y (.int k p) (.int k q); binOp .add T (.int k p) (.int k q) : Sem Value).run P w = .ok (.int k (k.wrap ((p : Int) + (q : Int)))) w := by cases k <;> rfl
  rw [h2, show (p : Int) + (q : Int) = (r : Int) from by omega, hw]
theorem in_u8 (r : Nat) (h : r < 256) : IntKind.u8.wrap (r : Int) = r := by simp [IntKind.wrap, IntKind.signed, IntKind.bits]; omega
theorem in_i64 (r : Nat) (h : r < 9223372036854775808) : IntKind.i64.wrap (r : Int) = r := by rw [IntKind.wrap_i64]; omega
theorem c_u8_u64 (m : Nat) (h : m < 18446744073709551616) (k : IntKind) : (convert 5 22 (.int k m)).run Try.prog w = .ok (.int .u64 (BitVec.ofNat 64 m).toNat) w := by
  have h1 : (convert 5 22 (.int k m)).run Try.prog w = .ok (.int .u64 (IntKind.u64.wrap m)) w := by kernel_rfl
  rw [h1, IntKind.wrap_u64, BitVec.toNat_ofNat]
  congr 2
theorem i_shr64 {P : Program} {T : TypeId} (p : BitVec 64) (k : Nat) (hk : k ≤ 64) (kd : IntKind) : (do eqGuard .shr T x y (.int .u64 p.toNat) (.int kd k); binOp .shr T (.int .u64 p.toNat) (.int kd k) : Sem Value).run P w = .ok (.int .u64 (p >>> k).toNat) w := by
  have h1 : (Op.shift .shr .u64 (p.toNat : Int) kd (k : Int)).run P w = .ok (.int .u64 (p >>> k).toNat) w := by
    unfold Op.shift
    rw [if_neg (by omega)]
    have e : min (k : Int).toNat IntKind.u64.bits = k := by
      show min (k : Int).toNat 64 = k
      omega
    simp only [e]
    show Result.ok (Value.int .u64 ((p.toNat : Int).fdiv (2 ^ k))) w = _
    rw [Int.fdiv_eq_ediv_of_nonneg _ (by have : (0 : Int) < 2 ^ k := Int.pow_pos (by omega); omega), show ((2 : Int) ^ k) = ((2 ^ k : Nat) : Int) from by simp, shr64]
  have h2 : (do eqGuard .shr T x y (.int .u64 p.toNat) (.int kd k); binOp .shr T (.int .u64 p.toNat) (.int kd k) : Sem Value).run P w = (Op.shift .shr .u64 (p.toNat : Int) kd (k : Int)).run P w := rfl
  rw [h2, h1]
theorem i_shl64 {P : Program} {T : TypeId} (p : BitVec 64) (k : Nat) (hk : k ≤ 64) (kd : IntKind) : (do eqGuard .shl T x y (.int .u64 p.toNat) (.int kd k); binOp .shl T (.int .u64 p.toNat) (.int kd k) : Sem Value).run P w = .ok (.int .u64 (p <<< k).toNat) w := by
  have h1 : (Op.shift .shl .u64 (p.toNat : Int) kd (k : Int)).run P w = .ok (.int .u64 (p <<< k).toNat) w := by
    unfold Op.shift
    rw [if_neg (by omega)]
    have e : min (k : Int).toNat IntKind.u64.bits = k := by
      show min (k : Int).toNat 64 = k
      omega
    simp only [e]
    show Result.ok (Value.int .u64 (IntKind.u64.wrap ((p.toNat : Int) * (2 ^ k)))) w = _
    rw [IntKind.wrap_u64, show ((2 : Int) ^ k) = ((2 ^ k : Nat) : Int) from by simp, shl64]
  have h2 : (do eqGuard .shl T x y (.int .u64 p.toNat) (.int kd k); binOp .shl T (.int .u64 p.toNat) (.int kd k) : Sem Value).run P w = (Op.shift .shl .u64 (p.toNat : Int) kd (k : Int)).run P w := rfl
  rw [h2, h1]
theorem b_eq {a b r : Bool} (h : (a == b) = r) : (do eqGuard .eql 4 x y (.bool a) (.bool b); binOp .eql 4 (.bool a) (.bool b) : Sem Value).run Try.prog w = .ok (.bool r) w := by
  subst h; kernel_rfl
theorem b_ne {a b r : Bool} (h : (!(a == b)) = r) : (do eqGuard .neq 4 x y (.bool a) (.bool b); binOp .neq 4 (.bool a) (.bool b) : Sem Value).run Try.prog w = .ok (.bool r) w := by
  subst h; kernel_rfl
end
end Sx
end Go.Proofs.Ytpbdffmgendboab
