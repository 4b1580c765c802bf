/- '==' of half's states and of pairs of words, by name. -/
import Derived.Test.YtpbdffmgendboaaSxE
import Derived.Test.YtpbdffmgendboaaEq
import Derived.Test.YtpbdffmgendboaaHfPlain
namespace Go.Proofs.Ytpbdffmgendboaa
open Go Go.RowKit
namespace Sx
def eqbH (c : BitVec 128) (k0 k1 : BitVec 32) (b : Bool) (d : BitVec 128) (l0 l1 : BitVec 32) (e : Bool) : Bool := decide (c = d ∧ k0 = l0 ∧ k1 = l1 ∧ b = e)
theorem eqbH_true {x y : Hf.St} (h : x = y) : eqbH x.c x.k0 x.k1 x.b y.c y.k0 y.k1 y.b = true := by subst h; exact decide_eq_true ⟨rfl, rfl, rfl, rfl⟩
theorem eqbH_ne {x y : Hf.St} (h : x ≠ y) : eqbH x.c x.k0 x.k1 x.b y.c y.k0 y.k1 y.b = false := decide_eq_false (fun ⟨h0, h1, h2, h3⟩ => h (by cases x; cases y; simp_all))
def eqb2 (a b c d : BitVec 64) : Bool := decide (a = c ∧ b = d)
section
variable {w : World} {x y : Operand}
theorem eqH_any (w : World) (d : Nat) (c : BitVec 128) (k0 k1 : BitVec 32) (b : Bool) (e : BitVec 128) (l0 l1 : BitVec 32) (f : Bool) : (Op.equalIn (d + 3) 82 (.agg #[.int .u64 (Wd.hi c).toNat, .int .u64 (Wd.lo c).toNat, .int .u32 k0.toNat, .int .u32 k1.toNat, .bool b]) (.agg #[.int .u64 (Wd.hi e).toNat, .int .u64 (Wd.lo e).toNat, .int .u32 l0.toNat, .int .u32 l1.toNat, .bool f])).run Try.prog w = .ok (eqbH c k0 k1 b e l0 l1 f) w := by
  have hK : (Op.equalIn (d + 2) 80 (.agg #[.int .u32 k0.toNat, .int .u32 k1.toNat]) (.agg #[.int .u32 l0.toNat, .int .u32 l1.toNat])).run Try.prog w = .ok (eq2 k0.toNat k1.toNat l0.toNat l1.toNat) w :=
    run_eq_arr2 w d _ 78 .u32 _ _ _ _ (by kernel_rfl) (by kernel_rfl) Try.size_u32 Try.agg_u32
  have e1 : eqbH c k0 k1 b e l0 l1 f = (((((Wd.hi c).toNat : Int) == ((Wd.hi e).toNat : Int) && ((Wd.lo c).toNat : Int) == ((Wd.lo e).toNat : Int)) && eq2 k0.toNat k1.toNat l0.toNat l1.toNat) && (b == f)) := by
    rw [← eqb_nat]
    unfold eqbH Wd.eqb eq2
    rw [Bool.eq_iff_iff]
    simp only [decide_eq_true_eq, Bool.and_eq_true, beq_iff_eq]
    constructor
    · rintro ⟨rfl, rfl, rfl, rfl⟩; exact ⟨⟨rfl, rfl, rfl⟩, rfl⟩
    · rintro ⟨⟨rfl, h1, h2⟩, rfl⟩; exact ⟨rfl, BitVec.eq_of_toNat_eq (by omega), BitVec.eq_of_toNat_eq (by omega), rfl⟩
  rw [e1]
  simp [go_sem, hK]
  generalize eq2 (k0.toNat : Int) (k1.toNat : Int) (l0.toNat : Int) (l1.toNat : Int) = q
  generalize ((Wd.hi c).toNat : Int) = c0
  generalize ((Wd.lo c).toNat : Int) = c1
  generalize ((Wd.hi e).toNat : Int) = e0
  generalize ((Wd.lo e).toNat : Int) = e1
  by_cases p1 : c0 = e0
  · by_cases p2 : c1 = e1
    · cases q <;> cases b <;> cases f <;> simp [p1, p2, Result.andThen]
    · simp [p1, p2, Result.andThen]
  · simp [p1, Result.andThen]
theorem gH : Try.prog.eqGuardType Try.prog.depth 82 = false := by kernel_rfl
theorem i_eqH {c : BitVec 128} {k0 k1 : BitVec 32} {b : Bool} {e : BitVec 128} {l0 l1 : BitVec 32} {f : Bool} {r : Bool} (h : eqbH c k0 k1 b e l0 l1 f = r) : (do eqGuard .eql 82 x y (.agg #[.int .u64 (Wd.hi c).toNat, .int .u64 (Wd.lo c).toNat, .int .u32 k0.toNat, .int .u32 k1.toNat, .bool b]) (.agg #[.int .u64 (Wd.hi e).toNat, .int .u64 (Wd.lo e).toNat, .int .u32 l0.toNat, .int .u32 l1.toNat, .bool f]); binOp .eql 82 (.agg #[.int .u64 (Wd.hi c).toNat, .int .u64 (Wd.lo c).toNat, .int .u32 k0.toNat, .int .u32 k1.toNat, .bool b]) (.agg #[.int .u64 (Wd.hi e).toNat, .int .u64 (Wd.lo e).toNat, .int .u32 l0.toNat, .int .u32 l1.toNat, .bool f]) : Sem Value).run Try.prog w = .ok (.bool r) w :=
  run_eq gH (by rw [← h]; exact eqH_any w 9997 c k0 k1 b e l0 l1 f)
theorem i_neH {c : BitVec 128} {k0 k1 : BitVec 32} {b : Bool} {e : BitVec 128} {l0 l1 : BitVec 32} {f : Bool} {r : Bool} (h : (!eqbH c k0 k1 b e l0 l1 f) = r) : (do eqGuard .neq 82 x y (.agg #[.int .u64 (Wd.hi c).toNat, .int .u64 (Wd.lo c).toNat, .int .u32 k0.toNat, .int .u32 k1.toNat, .bool b]) (.agg #[.int .u64 (Wd.hi e).toNat, .int .u64 (Wd.lo e).toNat, .int .u32 l0.toNat, .int .u32 l1.toNat, .bool f]); binOp .neq 82 (.agg #[.int .u64 (Wd.hi c).toNat, .int .u64 (Wd.lo c).toNat, .int .u32 k0.toNat, .int .u32 k1.toNat, .bool b]) (.agg #[.int .u64 (Wd.hi e).toNat, .int .u64 (Wd.lo e).toNat, .int .u32 l0.toNat, .int .u32 l1.toNat, .bool f]) : Sem Value).run Try.prog w = .ok (.bool r) w := by
  rw [← h]; exact run_ne gH (eqH_any w 9997 c k0 k1 b e l0 l1 f)
theorem g2 : Try.prog.eqGuardType Try.prog.depth 101 = false := by kernel_rfl
theorem i_eq2 {a b c d : BitVec 64} {r : Bool} (h : eqb2 a b c d = r) : (do eqGuard .eql 101 x y (.agg #[.int .u64 a.toNat, .int .u64 b.toNat]) (.agg #[.int .u64 c.toNat, .int .u64 d.toNat]); binOp .eql 101 (.agg #[.int .u64 a.toNat, .int .u64 b.toNat]) (.agg #[.int .u64 c.toNat, .int .u64 d.toNat]) : Sem Value).run Try.prog w = .ok (.bool r) w := by
  refine run_eq g2 ?_
  have e : eqb2 a b c d = eq2 a.toNat b.toNat c.toNat d.toNat := by
    unfold eqb2 eq2
    apply decide_eq_decide.2
    constructor
    · rintro ⟨rfl, rfl⟩; exact ⟨rfl, rfl⟩
    · rintro ⟨h1, h2⟩; exact ⟨BitVec.eq_of_toNat_eq (by omega), BitVec.eq_of_toNat_eq (by omega)⟩
  rw [← h, e]
  exact run_eq_arr2 w 9998 _ 22 .u64 _ _ _ _ (by kernel_rfl) (by kernel_rfl) Try.size_u64 Try.agg_u64
end
end Sx
end Go.Proofs.Ytpbdffmgendboaa
