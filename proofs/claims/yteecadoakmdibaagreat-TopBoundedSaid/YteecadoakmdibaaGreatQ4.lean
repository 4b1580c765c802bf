/- What the proof of TopBounded leans on: part 4. -/
import Derived.Test.YteecadoakmdibaaGreatQ1
import Derived.Test.YteecadoakmdibaaGreatQ2
import Derived.Test.YteecadoakmdibaaGreatQ3
import Derived.RangeFuncNested
import Derived.RangeFuncBound
import Derived.RangeFuncCalls
import Derived.RangeFuncLeaves
set_option maxRecDepth 100000
set_option maxHeartbeats 4000000
namespace Go.Proofs.YteecadoakmdibaaGreat
open Go Go.RowKit
section
namespace Sx
def wideAt (ro : Option Nat) : Fence := { Fence.wide with round := ro }
def noDefer : Op → Bool
  | .defer _ => false
  | _ => true
section
variable {P : Program} {o : Oper} {a : Act} {w w0 : World} {ops : Array Oper} {rest : List Oper} {Q : Exit → Act → World → Prop} {n : Nat} {ro : Option Nat}
theorem inOp {next : Act → World → Prop} (hd : noDefer o.op = true) (h : o.wp P a w next Q) : o.wpIn (wideAt ro) n P a w next Q := by
  refine ⟨fun _ _ => trivial, ?_⟩
  have hs : o.semAt (wideAt ro).round a.eval = execOp a.eval o := Oper.semAt_eq ro a.eval o (fun c e => by rw [e] at hd; cases hd)
  rw [hs]
  unfold Oper.wp at h
  generalize (execOp a.eval o).run P w = r at h ⊢
  cases r with
  | ok x w' =>
    cases x with
    | value v => exact h
    | skip => exact h
    | defer d => exact h
    | enter f args => exact ⟨(fun e => by cases e), (callsIn_wide.2 h : CallsIn Fence.wide (n - 1) P f args w' _)⟩
    | row r args => exact ⟨(fun e => by cases e), fun c cs _ => let ⟨v, w'', r, s⟩ := h c cs; ⟨v, w'', r, stepsIn_wide.2 s⟩⟩
    | _ => exact h.elim
  | halt e w' =>
    cases e with
    | panic v => exact h
    | _ => exact h.elim
theorem inList (hQ : ¬ LetsOut Q) : ∀ (l : List Oper), l.all (fun o => noDefer o.op) = true → ∀ a w, wpList P ops Q l a w → wpListIn (wideAt ro) n P ops Q l a w
  | [], _, _, _, h => h
  | o :: l, hd, a, w, h => by
    rw [List.all_cons, Bool.and_eq_true] at hd
    unfold wpList at h
    unfold wpListIn
    split at h
    · rename_i hw
      rw [if_pos hw]
      rcases h with h | h
      · exact inOp hd.1 (Oper.wp_mono (inList hQ l hd.2) h)
      · exact absurd h.2 hQ
    · rename_i hw
      rw [if_neg hw]
      exact ⟨fun _ _ => trivial, inList hQ l hd.2 _ _ h⟩
theorem plainI {id : Nat} {l : List Oper} (hQ : ¬ LetsOut Q) (hd : l.all (fun o => noDefer o.op) = true) (h : wpList P l.toArray Q l a w) : (Code.region id l.toArray false).wpIn (wideAt ro) n P Q a w :=
  wpIn_region_lit (inList hQ l hd a w h)
theorem stepI {R : Value → World → Prop} (hd : noDefer o.op = true) (hg : Region.wanted o (yielded ops a.tmps) = true) (D : Does P o a w R) (h : ∀ x w', R x w' → wpListIn (wideAt ro) n P ops Q rest (a.put o.dst x) w') : wpListIn (wideAt ro) n P ops Q (o :: rest) a w := by
  unfold wpListIn
  rw [if_pos hg]
  refine inOp hd (Oper.wp_mono ?_ (D Q))
  rintro a' w' ⟨x, rfl, r⟩
  exact h x w' r
theorem svI {m : Nat} {kv : List (Nat × Value)} {d : Nat} {v : Value} (F : Fr m a kv) (D : Does P o a w (fun x w' => x = v ∧ w' = w)) (hg : Region.wanted o (yielded ops a.tmps) = true) (hd : o.dst = some d) (hn : d < m) (hk : noDefer o.op = true)
    (h : ∀ a', Fr m a' ((d, v) :: kv) → wpListIn (wideAt ro) n P ops Q rest a' w) : wpListIn (wideAt ro) n P ops Q (o :: rest) a w := by
  refine stepI hk hg D ?_
  rintro x w' ⟨rfl, rfl⟩
  rw [hd]
  exact h _ (F.put hn _)
theorem swI {m : Nat} {kv : List (Nat × Value)} {d : Nat} {v : Value} {R : World → Prop} (F : Fr m a kv) (D : Does P o a w (fun x w' => x = v ∧ R w')) (hg : Region.wanted o (yielded ops a.tmps) = true) (hd : o.dst = some d) (hn : d < m) (hk : noDefer o.op = true)
    (h : ∀ a' w', Fr m a' ((d, v) :: kv) → R w' → wpListIn (wideAt ro) n P ops Q rest a' w') : wpListIn (wideAt ro) n P ops Q (o :: rest) a w := by
  refine stepI hk hg D ?_
  rintro x w' ⟨rfl, r⟩
  rw [hd]
  exact h _ _ (F.put hn _) r
theorem yieldI {m : Nat} {kv : List (Nat × Value)} {d l : Nat} {c : Operand} {xs : Array Operand} {ts : Array TypeId} {vs : List Value} {R : Value → World → Prop} (F : Fr m a kv) (ho : o.op = .call { callee := .value c, args := xs, argTypes := ts }) (hc : ev kv c = some (.func (.yield l) #[] #[])) (hxs : xs.toList.map (ev kv) = vs.map some)
    (hy : YieldAt (wideAt ro) (n - 1) P l vs.toArray w fun e w' => ∃ v, e = .returned v ∧ R v w') (hg : Region.wanted o (yielded ops a.tmps) = true) (hd : o.dst = some d) (hn : d < m)
    (h : ∀ v a' w', Fr m a' ((d, v) :: kv) → R v w' → wpListIn (wideAt ro) n P ops Q rest a' w') : wpListIn (wideAt ro) n P ops Q (o :: rest) a w := by
  unfold wpListIn
  rw [if_pos hg]
  refine ⟨fun _ _ => trivial, ?_⟩
  have hs : o.semAt (wideAt ro).round a.eval = execOp a.eval o := Oper.semAt_eq ro a.eval o (fun c e => by rw [ho] at e; cases e)
  obtain ⟨fn, tmps, assign, body, hrun, hround⟩ := hy
  have hx : (execOp a.eval o).run P w = .ok (.round l fn tmps assign body) w := by
    unfold execOp; rw [ho]
    simp only [resolve, args_eq F hxs, F.ev hc, Deferred.ofValue]
    show (invoke (.fn (.yield l) #[]) (#[] ++ vs.toArray)).run P w = _
    rw [Array.empty_append]
    exact hrun
  rw [hs, hx]
  refine ⟨(fun e => by cases e), hround.mono ?_⟩
  rintro e w' ⟨v, rfl, r⟩
  rw [hd]
  exact h v _ _ (F.put hn _) r
theorem Own.from_ {B : Nat} {bs : List Bx} {rs : List Rx} {K : Nat → Option Obj} (h : Own w0 w bs rs K) {w' : World} {row : Option Nat} (hg : w.grownBy w' row) (hr : ∀ r, row = some r → B ≤ r ∧ ∃ o : Obj, w.heap[r]? = some o ∧ o.isCells = false) (hB : w0.heap.size ≤ B) (hK : ∀ k, K k = none) : Own w0 w' bs rs K := by
  have hr' : ∀ r, row = some r → ∃ o : Obj, w.heap[r]? = some o ∧ o.isCells = false := fun r e => (hr r e).2
  refine ⟨Below.grown h.below hg h.below.size (fun k e => Nat.le_trans hB (hr k e).1), fun i b vs hi => ?_, h.nd, fun i s hi ho => World.ownsRow.kept (h.row i s hi ho) hg ?_, h.rb, h.rr, fun k o hk => by rw [hK] at hk; cases hk⟩
  · obtain ⟨a1, a2, a3⟩ := h.box i b vs hi
    exact ⟨fun j u hj => ⟨cell_kept (a1 j u hj).1 hg hr', (frozen_kept (a1 j u hj).1 hg hr').trans (a1 j u hj).2⟩, a2, Nat.lt_of_lt_of_le a3 hg.size⟩
  · rcases (h.row i s hi ho).2 with ⟨e, _⟩ | ⟨g, cap, cur, e, _, hgg, _⟩
    · rw [e]; exact .inl rfl
    · rw [e]
      refine .inr (fun e' => ?_)
      obtain ⟨o, ho', hc⟩ := hr' g e'.symm
      rw [ho'] at hgg
      cases hgg; cases hc
def full (bs : List Bx) : Bool := bs.all fun b => match b with
  | (_, _, []) => false
  | _ => true
def beside (w0 W : World) (bs : List Bx) : Nat → Option Obj := fun k => if w0.heap.size ≤ k ∧ (bs.all fun b => b.2.1 != k) = true then W.heap[k]? else none
theorem beside_of {W : World} {bs : List Bx} {k : Nat} (h0 : w0.heap.size ≤ k) (hb : ∀ b ∈ bs, b.2.1 ≠ k) : beside w0 W bs k = W.heap[k]? := by
  unfold beside
  rw [if_pos ⟨h0, by rw [List.all_eq_true]; intro b hm; exact bne_iff_ne.2 (hb b hm)⟩]
theorem beside_some {W : World} {bs : List Bx} {k : Nat} {o : Obj} (h : beside w0 W bs k = some o) : W.heap[k]? = some o ∧ w0.heap.size ≤ k ∧ ∀ b ∈ bs, b.2.1 ≠ k := by
  unfold beside at h
  split at h
  · rename_i hc
    refine ⟨h, hc.1, fun b hm => ?_⟩
    have := hc.2
    rw [List.all_eq_true] at this
    exact bne_iff_ne.1 (this b hm)
  · cases h
theorem Own.lay {bs : List Bx} {rs : List Rx} (h : Own w0 w bs rs) : Own w0 w bs [] (beside w0 w bs) := by
  refine ⟨h.below, h.box, h.nd, fun i r hi => by simp at hi, fun i j b vs r hi hj => by simp at hj, fun i j g r s hi => by simp at hi, fun k o hk => ?_⟩
  obtain ⟨h1, h2, h3⟩ := beside_some hk
  exact ⟨h1, h2, fun i vs hi => h3 _ (List.mem_of_getElem? hi) rfl, fun i r hi => by simp at hi⟩
theorem Own.same {W : World} {bs bs' : List Bx} {rs : List Rx} (h : Own w0 w bs' rs (beside w0 W bs)) (hW : Below w0.heap.size w0 W) {k : Nat} (hk : k < W.heap.size) (hb : ∀ b ∈ bs, b.2.1 ≠ k) : w.heap[k]? = W.heap[k]? := by
  by_cases h0 : w0.heap.size ≤ k
  · obtain ⟨o, ho⟩ : ∃ o, W.heap[k]? = some o := ⟨_, Array.getElem?_eq_getElem hk⟩
    rw [ho]
    exact (h.kp k o ((beside_of h0 hb).trans ho)).1
  · rw [h.below.block k (by omega), hW.block k (by omega)]
theorem Own.grew {W : World} {bs bs' : List Bx} {rs : List Rx} (h : Own w0 w bs' rs (beside w0 W bs)) {l : Nat} {o : Obj} (hl : W.heap[l]? = some o) (h0 : w0.heap.size ≤ l) (hb : ∀ b ∈ bs, b.2.1 < l) : W.heap.size ≤ w.heap.size := by
  have hlt := kplt hl
  obtain ⟨o', ho⟩ : ∃ o, W.heap[W.heap.size - 1]? = some o := ⟨_, Array.getElem?_eq_getElem (by omega)⟩
  have := kplt (h.kp _ o' ((beside_of (by omega) (fun b hm => by have := hb b hm; omega)).trans ho)).1
  omega
theorem Own.keepsLaid {W : World} {bs bs' : List Bx} {rs : List Rx} (h : Own w0 w bs' rs (beside w0 W bs)) {B : Nat} (hs : W.heap.size ≤ w.heap.size) (hB : w0.heap.size ≤ B) (hb : ∀ b ∈ bs, b.2.1 < B) : KeepsFrom B W w :=
  ⟨hs, fun k o hk ho _ => (h.kp k o ((beside_of (by omega) (fun b hm => by have := hb b hm; omega)).trans ho)).1⟩
theorem Own.restore {W : World} {bs bs' : List Bx} {rs : List Rx} (h : Own w0 w bs' rs (beside w0 W bs)) (hW : Below w0.heap.size w0 W) (r : Rx) (hr : r.holds w0.heap.size W) (hb : ∀ b ∈ bs, r.v.ownBlock ≠ some b.2.1) : Own w0 w bs' (r :: rs) := by
  have hg : ∀ g, r.v.ownBlock = some g → ∃ o, beside w0 W bs g = some o := fun g e => by
    obtain ⟨h1, h2⟩ := hr.lt g e
    exact ⟨_, (beside_of h1 (fun b hm e' => hb b hm (by rw [e, e']))).trans (Array.getElem?_eq_getElem h2)⟩
  have hr' : r.holds w0.heap.size w := by
    refine ⟨hr.1, ?_⟩
    rcases hr.2 with hn | ⟨g, cap, cur, e, h1, h2, h3⟩
    · exact .inl hn
    · refine .inr ⟨g, cap, cur, e, h1, ?_, h3⟩
      rw [h.same hW (kplt h2) (fun b hm e' => hb b hm (by rw [e, ← e']; rfl))]; exact h2
  refine ⟨h.below, h.box, h.nd, fun i s hi ho => ?_, fun i j b vs s hi hj ho e => ?_, fun i j g s t hi hj hs ht e1 e2 => ?_, fun _ _ hk => by cases hk⟩
  · cases i with
    | zero => cases hi; exact hr'
    | succ i => exact h.row i s hi ho
  · cases j with
    | zero =>
      cases hj
      obtain ⟨o, ho'⟩ := hg b e
      exact (h.kp b o ho').2.2.1 i vs hi
    | succ j => exact h.rb i j b vs s hi hj ho e
  · cases i with
    | zero =>
      cases hi
      cases j with
      | zero => rfl
      | succ j =>
        obtain ⟨o, ho'⟩ := hg g e1
        exact absurd e2 ((h.kp g o ho').2.2.2 j t hj ht)
    | succ i =>
      cases j with
      | zero =>
        cases hj
        obtain ⟨o, ho'⟩ := hg g e2
        exact absurd e1 ((h.kp g o ho').2.2.2 i s hi hs)
      | succ j => exact congrArg (· + 1) (h.rr i j g s t hi hj hs ht e1 e2)
theorem grown_of_below {w' : World} (h : Below w.heap.size w w') : w.grownBy w' none := ⟨h.os, h.tape, h.output, h.size, fun k hk _ => h.block k hk⟩
end
end Sx
namespace Gf
theorem Rd.laid {w0 W w : World} {v : Value} {l : List (BitVec 64)} (h : Rd W v l) {bs bs' : List Sx.Bx} {rs : List Sx.Rx} (ho : Sx.Own w0 w bs' rs (Sx.beside w0 W bs)) (hW : Below w0.heap.size w0 W) (hb : ∀ b ∈ bs, v.ownBlock ≠ some b.2.1) : Rd w v l := by
  refine ⟨h.1, h.2.imp id ?_⟩
  rintro ⟨g, o, cap, rfl, hl, hc⟩
  refine ⟨g, o, cap, rfl, hl, fun k x hk => ?_⟩
  have hcell := hc k x hk
  rw [← hcell]
  refine World.cell?_of_block (ho.same hW (lt_cell hcell) (fun b hm e => hb b hm ?_))
  rw [e]; rfl
end Gf
end
def eq4 (a0 a1 a2 a3 b0 b1 b2 b3 : Int) : Bool := decide (a0 = b0 ∧ a1 = b1 ∧ a2 = b2 ∧ a3 = b3)
def eq2 (a0 a1 b0 b1 : Int) : Bool := decide (a0 = b0 ∧ a1 = b1)
theorem run_eq_arr4 {P : Program} (w : World) (d : Nat) (t e : TypeId) (k : IntKind) (a0 a1 a2 a3 b0 b1 b2 b3 : Int) (ht : P.underlying t = some (.array 4 e)) (he : P.underlying e = some (.int k))
    (hs : ∀ w, (sizeOf e).run P w = .ok 1 w) (ha : ∀ w, (isAgg e).run P w = .ok false w) :
    (Op.equalIn (d + 2) t (.agg #[.int k a0, .int k a1, .int k a2, .int k a3]) (.agg #[.int k b0, .int k b1, .int k b2, .int k b3])).run P w = .ok (eq4 a0 a1 a2 a3 b0 b1 b2 b3) w := by
  rw [Op.equalIn]
  simp only [Sem.run_bind, run_underlying ht, Result.andThen_ok, hs]
  simp [part, hs, ha, go_sem, run_equalIn_int _ _ _ _ _ _ _ he, List.range']
  unfold eq4
  by_cases h0 : a0 = b0 <;> by_cases h1 : a1 = b1 <;> by_cases h2 : a2 = b2 <;> by_cases h3 : a3 = b3 <;> simp [h0, h1, h2, h3]
theorem run_eq_arr2 {P : Program} (w : World) (d : Nat) (t e : TypeId) (k : IntKind) (a0 a1 b0 b1 : Int) (ht : P.underlying t = some (.array 2 e)) (he : P.underlying e = some (.int k))
    (hs : ∀ w, (sizeOf e).run P w = .ok 1 w) (ha : ∀ w, (isAgg e).run P w = .ok false w) :
    (Op.equalIn (d + 2) t (.agg #[.int k a0, .int k a1]) (.agg #[.int k b0, .int k b1])).run P w = .ok (eq2 a0 a1 b0 b1) w := by
  rw [Op.equalIn]
  simp only [Sem.run_bind, run_underlying ht, Result.andThen_ok, hs]
  simp [part, hs, ha, go_sem, run_equalIn_int _ _ _ _ _ _ _ he, List.range']
  unfold eq2
  by_cases h0 : a0 = b0 <;> by_cases h1 : a1 = b1 <;> simp [h0, h1]
theorem Tryz.size_u32 (w : World) : (sizeOf 29).run Tryz.prog w = .ok 1 w := by kernel_rfl
theorem Tryz.agg_u32 (w : World) : (isAgg 29).run Tryz.prog w = .ok false w := by kernel_rfl
theorem Tryz.size_u64 (w : World) : (sizeOf 22).run Tryz.prog w = .ok 1 w := by kernel_rfl
theorem Tryz.agg_u64 (w : World) : (isAgg 22).run Tryz.prog w = .ok false w := by kernel_rfl
@[go_sem] theorem Tryz.eq_block (w : World) (a0 a1 a2 a3 b0 b1 b2 b3 : Int) : (Op.equalIn 10000 325 (.agg #[.int .u32 a0, .int .u32 a1, .int .u32 a2, .int .u32 a3]) (.agg #[.int .u32 b0, .int .u32 b1, .int .u32 b2, .int .u32 b3])).run Tryz.prog w = .ok (eq4 a0 a1 a2 a3 b0 b1 b2 b3) w := run_eq_arr4 w 9998 _ 29 .u32 _ _ _ _ _ _ _ _ Tryz.underlying325 Tryz.underlying29 Tryz.size_u32 Tryz.agg_u32
@[go_sem] theorem Tryz.eq_a4u32 (w : World) (a0 a1 a2 a3 b0 b1 b2 b3 : Int) : (Op.equalIn 10000 324 (.agg #[.int .u32 a0, .int .u32 a1, .int .u32 a2, .int .u32 a3]) (.agg #[.int .u32 b0, .int .u32 b1, .int .u32 b2, .int .u32 b3])).run Tryz.prog w = .ok (eq4 a0 a1 a2 a3 b0 b1 b2 b3) w := run_eq_arr4 w 9998 _ 29 .u32 _ _ _ _ _ _ _ _ Tryz.underlying324 Tryz.underlying29 Tryz.size_u32 Tryz.agg_u32
@[go_sem] theorem Tryz.eq_key (w : World) (a0 a1 b0 b1 : Int) : (Op.equalIn 10000 31 (.agg #[.int .u32 a0, .int .u32 a1]) (.agg #[.int .u32 b0, .int .u32 b1])).run Tryz.prog w = .ok (eq2 a0 a1 b0 b1) w := run_eq_arr2 w 9998 _ 29 .u32 _ _ _ _ Tryz.underlying31 Tryz.underlying29 Tryz.size_u32 Tryz.agg_u32
@[go_sem] theorem Tryz.eq_a2u32 (w : World) (a0 a1 b0 b1 : Int) : (Op.equalIn 10000 30 (.agg #[.int .u32 a0, .int .u32 a1]) (.agg #[.int .u32 b0, .int .u32 b1])).run Tryz.prog w = .ok (eq2 a0 a1 b0 b1) w := run_eq_arr2 w 9998 _ 29 .u32 _ _ _ _ Tryz.underlying30 Tryz.underlying29 Tryz.size_u32 Tryz.agg_u32
@[go_sem] theorem Tryz.eq_xstate (w : World) (a0 a1 a2 a3 b0 b1 b2 b3 : Int) : (Op.equalIn 10000 24 (.agg #[.int .u64 a0, .int .u64 a1, .int .u64 a2, .int .u64 a3]) (.agg #[.int .u64 b0, .int .u64 b1, .int .u64 b2, .int .u64 b3])).run Tryz.prog w = .ok (eq4 a0 a1 a2 a3 b0 b1 b2 b3) w := run_eq_arr4 w 9998 _ 22 .u64 _ _ _ _ _ _ _ _ Tryz.underlying24 Tryz.underlying22 Tryz.size_u64 Tryz.agg_u64
@[go_sem] theorem Tryz.eq_a4u64 (w : World) (a0 a1 a2 a3 b0 b1 b2 b3 : Int) : (Op.equalIn 10000 23 (.agg #[.int .u64 a0, .int .u64 a1, .int .u64 a2, .int .u64 a3]) (.agg #[.int .u64 b0, .int .u64 b1, .int .u64 b2, .int .u64 b3])).run Tryz.prog w = .ok (eq4 a0 a1 a2 a3 b0 b1 b2 b3) w := run_eq_arr4 w 9998 _ 22 .u64 _ _ _ _ _ _ _ _ Tryz.underlying23 Tryz.underlying22 Tryz.size_u64 Tryz.agg_u64
section
namespace Sx
def eqb4 (a b c d e f g h : BitVec 64) : Bool := decide (a = e ∧ b = f ∧ c = g ∧ d = h)
theorem eqb4_nat (a b c d e f g h : BitVec 64) : eqb4 a b c d e f g h = eq4 a.toNat b.toNat c.toNat d.toNat e.toNat f.toNat g.toNat h.toNat := by
  unfold eqb4 eq4
  apply decide_eq_decide.2
  constructor
  · rintro ⟨rfl, rfl, rfl, rfl⟩; exact ⟨rfl, rfl, rfl, rfl⟩
  · rintro ⟨h1, h2, h3, h4⟩; exact ⟨BitVec.eq_of_toNat_eq (by omega), BitVec.eq_of_toNat_eq (by omega), BitVec.eq_of_toNat_eq (by omega), BitVec.eq_of_toNat_eq (by omega)⟩
section
variable {w : World} {x y : Operand}
theorem gX : Tryz.prog.eqGuardType Tryz.prog.depth 24 = false := by kernel_rfl
theorem g4 : Tryz.prog.eqGuardType Tryz.prog.depth 23 = false := by kernel_rfl
theorem eqX_any (w : World) (k : Nat) (a b c d e f g h : BitVec 64) : (Op.equalIn (k + 2) 24 (.agg #[.int .u64 a.toNat, .int .u64 b.toNat, .int .u64 c.toNat, .int .u64 d.toNat]) (.agg #[.int .u64 e.toNat, .int .u64 f.toNat, .int .u64 g.toNat, .int .u64 h.toNat])).run Tryz.prog w = .ok (eqb4 a b c d e f g h) w := by
  rw [eqb4_nat]
  exact run_eq_arr4 w k _ 22 .u64 _ _ _ _ _ _ _ _ (by kernel_rfl) (by kernel_rfl) Tryz.size_u64 Tryz.agg_u64
theorem i_neX {a b c d e f g h : BitVec 64} {r : Bool} (hr : (!eqb4 a b c d e f g h) = r) : (do eqGuard .neq 24 x y (.agg #[.int .u64 a.toNat, .int .u64 b.toNat, .int .u64 c.toNat, .int .u64 d.toNat]) (.agg #[.int .u64 e.toNat, .int .u64 f.toNat, .int .u64 g.toNat, .int .u64 h.toNat]); binOp .neq 24 (.agg #[.int .u64 a.toNat, .int .u64 b.toNat, .int .u64 c.toNat, .int .u64 d.toNat]) (.agg #[.int .u64 e.toNat, .int .u64 f.toNat, .int .u64 g.toNat, .int .u64 h.toNat]) : Sem Value).run Tryz.prog w = .ok (.bool r) w := by
  rw [← hr]; exact run_ne gX (eqX_any w 9998 a b c d e f g h)
end
end Sx
end
section
namespace Sx
def isM (P : Program) (t : TypeId) (name : String) (f : FuncId) : Prop := ∀ (args : Array Value) (w : World), (callMethod (.iface t (.agg #[])) name args).run P w = .ok (.enter f (#[.agg #[]] ++ args)) w
section
variable {P : Program} {ds : List Deferred} {w0 w : World} {a : Act} {o : Oper} {n : Nat} {kv : List (Nat × Value)} {bs : List Bx} {rs : List Rx} {K : Nat → Option Obj}
theorem d_mkI {T : TypeId} {x : Operand} {u v : Value} (F : Fr n a kv ds) (ho : o.op = .makeInterface T x) (hx : ev kv x = some u) (hr : (Instr.makeInterface T u).run P w = .ok v w) : Does P o a w (fun y w' => y = v ∧ w' = w) := by
  refine does_run ?_
  unfold execOp; rw [ho]
  simp only [F.ev hx]
  simp only [Sem.run_bind, hr, Result.andThen_ok]
  rfl
theorem run_callI {t : TypeId} {f : FuncId} {r : Operand} {name : String} {xs : Array Operand} {ts : Array TypeId} {vs : List Value} (hf : isM P t name f) (F : Fr n a kv ds) (ho : o.op = .call { callee := .invoke r name, args := xs, argTypes := ts }) (hr : ev kv r = some (.iface t (.agg #[]))) (hxs : xs.toList.map (ev kv) = vs.map some) :
    (execOp a.eval o).run P w = .ok (.enter f ((.agg #[] : Value) :: vs).toArray) w := by
  unfold execOp; rw [ho]
  simp only [resolve, args_eq F hxs, F.ev hr]
  have h := hf vs.toArray w
  show (invoke (.fn (.method name) #[]) (#[.iface t (.agg #[])] ++ vs.toArray)).run P w = _
  have e : invoke (.fn (.method name) #[]) (#[.iface t (.agg #[])] ++ vs.toArray) = callMethod (.iface t (.agg #[])) name vs.toArray := by simp [invoke]
  rw [e, h]
  simp
theorem d_callI {t : TypeId} {f : FuncId} {r : Operand} {name : String} {xs : Array Operand} {ts : Array TypeId} {vs : List Value} {v : Value} (hf : isM P t name f) (F : Fr n a kv ds) (H : Own w0 w bs rs K) (ho : o.op = .call { callee := .invoke r name, args := xs, argTypes := ts }) (hr : ev kv r = some (.iface t (.agg #[]))) (hxs : xs.toList.map (ev kv) = vs.map some)
    (hcl : Calls P f ((.agg #[] : Value) :: vs).toArray w fun e w' => e = .returned v ∧ Below w.heap.size w w') : Does P o a w (fun x w' => x = v ∧ Own w0 w' bs rs K) :=
  (does_enter (run_callI hf F ho hr hxs) hcl).mono fun _ _ h => ⟨h.1, H.call h.2⟩
end
end Sx
end
namespace Hf
structure St where
  c : BitVec 128
  k0 : BitVec 32
  k1 : BitVec 32
  b : Bool
def step (s : St) : St := ⟨if s.b then s.c + 1#128 else s.c, s.k0, s.k1, !s.b⟩
def back (s : St) : St := ⟨if s.b then s.c else s.c - 1#128, s.k0, s.k1, !s.b⟩
def odd (n : BitVec 128) : Bool := n.getLsbD 0
def pre (s : St) (n : BitVec 128) : St := if odd n then step s else s
def jump (s : St) (n : BitVec 128) : St := { pre s n with c := (pre s n).c + n >>> 1 }
theorem back_step (s : St) : back (step s) = s := by
  obtain ⟨c, k0, k1, b⟩ := s
  cases b <;> simp [back, step, BitVec.add_sub_cancel]
theorem odd_nat (n : BitVec 128) : odd n = decide (n.toNat % 2 = 1) := by
  unfold odd
  rw [BitVec.getLsbD, Nat.testBit_zero]
def pos (s : St) : Nat := 2 * s.c.toNat + s.b.toNat
def R : Nat := 680564733841876926926749214863536422912
theorem st_ext {s t : St} (h0 : s.k0 = t.k0) (h1 : s.k1 = t.k1) (hp : pos s = pos t) : s = t := by
  obtain ⟨c, k0, k1, b⟩ := s
  obtain ⟨c', k0', k1', b'⟩ := t
  simp only [pos] at h0 h1 hp
  subst h0; subst h1
  have hb : b = b' := by cases b <;> cases b' <;> simp at hp ⊢ <;> omega
  subst hb
  have hc : c = c' := BitVec.eq_of_toNat_eq (by omega)
  rw [hc]
theorem jump_k0 (s : St) (n : BitVec 128) : (jump s n).k0 = s.k0 := by simp only [jump, pre]; split <;> rfl
theorem jump_k1 (s : St) (n : BitVec 128) : (jump s n).k1 = s.k1 := by simp only [jump, pre]; split <;> rfl
theorem half_nat (n : BitVec 128) : (n >>> 1).toNat = n.toNat / 2 := by
  rw [BitVec.toNat_ushiftRight, Nat.shiftRight_eq_div_pow]
theorem step_pos (s : St) : pos (step s) = (pos s + 1) % R := by
  obtain ⟨c, k0, k1, b⟩ := s
  have := c.isLt
  cases b
  · simp [pos, step, R]; omega
  · simp [pos, step, R, BitVec.toNat_add]; omega
theorem jump_pos (s : St) (n : BitVec 128) : pos (jump s n) = (pos s + n.toNat) % R := by
  have hn := n.isLt
  have e : pos (jump s n) = (pos (pre s n) + 2 * (n.toNat / 2)) % R := by
    simp only [jump]
    generalize pre s n = t
    obtain ⟨c, k0, k1, b⟩ := t
    have := c.isLt
    simp only [pos, BitVec.toNat_add, half_nat, R]
    cases b <;> simp <;> omega
  rw [e, pre, odd_nat]
  by_cases h : n.toNat % 2 = 1
  · rw [if_pos (by simpa using h), step_pos]
    unfold R; omega
  · rw [if_neg (by simpa using h)]
    unfold R; omega
theorem jump_zero (s : St) : jump s 0#128 = s := by
  refine st_ext (jump_k0 _ _) (jump_k1 _ _) ?_
  rw [jump_pos]
  have : pos s < R := by
    obtain ⟨c, k0, k1, b⟩ := s
    have := c.isLt
    cases b <;> simp [pos, R] <;> omega
  show (pos s + 0) % R = pos s
  rw [Nat.add_zero, Nat.mod_eq_of_lt this]
end Hf
section
namespace Sx
section
variable {w : World} {x y : Operand}
end
end Sx
end
structure St where
  a : BitVec 64
  b : BitVec 64
  c : BitVec 64
  d : BitVec 64
  deriving DecidableEq
namespace Xo
theorem ext {x y : St} (h0 : x.a = y.a) (h1 : x.b = y.b) (h2 : x.c = y.c) (h3 : x.d = y.d) : x = y := by
  cases x; cases y; simp_all
def zero : St := ⟨0#64, 0#64, 0#64, 0#64⟩
def rotl (x : BitVec 64) (n : Nat) : BitVec 64 := x <<< n ||| x >>> (64 - n)
def word (s : St) : BitVec 64 := rotl (s.b * 5#64) 7 * 9#64
def step (s : St) : St := ⟨s.a ^^^ (s.d ^^^ s.b), s.b ^^^ (s.c ^^^ s.a), s.c ^^^ s.a ^^^ (s.b <<< 17), rotl (s.d ^^^ s.b) 45⟩
def solve (m : BitVec 64) : Nat → BitVec 64
  | 0 => m
  | k + 1 => m ^^^ (solve m k <<< 17)
def back (s : St) : St :=
  ⟨s.a ^^^ rotl s.d 19, solve (s.b ^^^ s.c) 4, s.c ^^^ (solve (s.b ^^^ s.c) 4 <<< 17) ^^^ (s.a ^^^ rotl s.d 19), rotl s.d 19 ^^^ solve (s.b ^^^ s.c) 4⟩
def add (s t : St) : St := ⟨s.a ^^^ t.a, s.b ^^^ t.b, s.c ^^^ t.c, s.d ^^^ t.d⟩
theorem rotl_bit (x : BitVec 64) (n i : Nat) (hn : n < 64) (hi : i < 64) : (rotl x n).getLsbD i = x.getLsbD (if i < n then i + (64 - n) else i - n) := by
  unfold rotl
  rw [BitVec.getLsbD_or, BitVec.getLsbD_shiftLeft, BitVec.getLsbD_ushiftRight]
  by_cases h : i < n
  · rw [if_pos h]; simp [h, Nat.add_comm]
  · rw [if_neg h, BitVec.getLsbD_of_ge x (64 - n + i) (by omega)]
    simp [h, hi]
theorem rotl_rotl (x : BitVec 64) (n m : Nat) (h : n + m = 64) (hn : 0 < n) (hm : 0 < m) : rotl (rotl x n) m = x := by
  apply BitVec.eq_of_getLsbD_eq
  intro i hi
  rw [rotl_bit _ _ _ (by omega) hi]
  split
  · rw [rotl_bit _ _ _ (by omega) (by omega), if_neg (by omega)]; congr 1; omega
  · rw [rotl_bit _ _ _ (by omega) (by omega), if_pos (by omega)]; congr 1; omega
theorem rotl_xor (x y : BitVec 64) (n : Nat) (hn : n < 64) : rotl (x ^^^ y) n = rotl x n ^^^ rotl y n := by
  apply BitVec.eq_of_getLsbD_eq
  intro i hi
  rw [BitVec.getLsbD_xor, rotl_bit _ _ _ hn hi, rotl_bit _ _ _ hn hi, rotl_bit _ _ _ hn hi, BitVec.getLsbD_xor]
theorem shl_shl (x : BitVec 64) (n m : Nat) : x <<< n <<< m = x <<< (n + m) := (BitVec.shiftLeft_add x n m).symm
theorem solve_of (b : BitVec 64) : solve (b ^^^ b <<< 17) 4 = b := by
  simp only [solve, BitVec.shiftLeft_xor_distrib, shl_shl]
  rw [show b <<< (17 + 17 + 17 + 17) = 0#64 from BitVec.shiftLeft_eq_zero (by omega), show b <<< (17 + 17 + 17 + 17 + 17) = 0#64 from BitVec.shiftLeft_eq_zero (by omega)]
  generalize b <<< 17 = p
  generalize b <<< (17 + 17) = q
  generalize b <<< (17 + 17 + 17) = r
  simp only [BitVec.xor_zero]
  rw [show b ^^^ p ^^^ (p ^^^ q ^^^ (q ^^^ r ^^^ r)) = (p ^^^ p) ^^^ (q ^^^ q) ^^^ (r ^^^ r) ^^^ b from by ac_rfl]
  simp
theorem xx (a e : BitVec 64) : a ^^^ e ^^^ e = a := by rw [BitVec.xor_assoc, BitVec.xor_self, BitVec.xor_zero]
theorem acx (b c a p : BitVec 64) : b ^^^ (c ^^^ a) ^^^ (c ^^^ a ^^^ p) = b ^^^ p := by
  rw [show b ^^^ (c ^^^ a) ^^^ (c ^^^ a ^^^ p) = (c ^^^ c) ^^^ (a ^^^ a) ^^^ (b ^^^ p) from by ac_rfl]; simp
theorem back_step (s : St) : back (step s) = s := by
  obtain ⟨a, b, c, d⟩ := s
  have hr : rotl (rotl (d ^^^ b) 45) 19 = d ^^^ b := rotl_rotl _ 45 19 rfl (by omega) (by omega)
  have hs : solve (b ^^^ (c ^^^ a) ^^^ (c ^^^ a ^^^ b <<< 17)) 4 = b := by
    rw [acx b c a (b <<< 17)]
    exact solve_of b
  show (⟨a ^^^ (d ^^^ b) ^^^ rotl (rotl (d ^^^ b) 45) 19, solve (b ^^^ (c ^^^ a) ^^^ (c ^^^ a ^^^ b <<< 17)) 4,
    c ^^^ a ^^^ b <<< 17 ^^^ solve (b ^^^ (c ^^^ a) ^^^ (c ^^^ a ^^^ b <<< 17)) 4 <<< 17 ^^^ (a ^^^ (d ^^^ b) ^^^ rotl (rotl (d ^^^ b) 45) 19),
    rotl (rotl (d ^^^ b) 45) 19 ^^^ solve (b ^^^ (c ^^^ a) ^^^ (c ^^^ a ^^^ b <<< 17)) 4⟩ : St) = ⟨a, b, c, d⟩
  rw [hr, hs, xx a (d ^^^ b), xx d b, xx (c ^^^ a) (b <<< 17), xx c a]
theorem step_add (s t : St) : step (add s t) = add (step s) (step t) := by
  obtain ⟨a, b, c, d⟩ := s
  obtain ⟨e, f, g, h⟩ := t
  show (⟨a ^^^ e ^^^ (d ^^^ h ^^^ (b ^^^ f)), b ^^^ f ^^^ (c ^^^ g ^^^ (a ^^^ e)), c ^^^ g ^^^ (a ^^^ e) ^^^ (b ^^^ f) <<< 17, rotl (d ^^^ h ^^^ (b ^^^ f)) 45⟩ : St) =
    ⟨a ^^^ (d ^^^ b) ^^^ (e ^^^ (h ^^^ f)), b ^^^ (c ^^^ a) ^^^ (f ^^^ (g ^^^ e)), c ^^^ a ^^^ b <<< 17 ^^^ (g ^^^ e ^^^ f <<< 17), rotl (d ^^^ b) 45 ^^^ rotl (h ^^^ f) 45⟩
  rw [← rotl_xor _ _ _ (by omega), BitVec.shiftLeft_xor_distrib]
  generalize b <<< 17 = p
  generalize f <<< 17 = q
  rw [show a ^^^ e ^^^ (d ^^^ h ^^^ (b ^^^ f)) = a ^^^ (d ^^^ b) ^^^ (e ^^^ (h ^^^ f)) from by ac_rfl, show b ^^^ f ^^^ (c ^^^ g ^^^ (a ^^^ e)) = b ^^^ (c ^^^ a) ^^^ (f ^^^ (g ^^^ e)) from by ac_rfl,
    show c ^^^ g ^^^ (a ^^^ e) ^^^ (p ^^^ q) = c ^^^ a ^^^ p ^^^ (g ^^^ e ^^^ q) from by ac_rfl, show d ^^^ h ^^^ (b ^^^ f) = d ^^^ b ^^^ (h ^^^ f) from by ac_rfl]
theorem add_comm (s t : St) : add s t = add t s := by
  unfold add
  rw [BitVec.xor_comm s.a, BitVec.xor_comm s.b, BitVec.xor_comm s.c, BitVec.xor_comm s.d]
theorem step_zero : step zero = zero := by decide
theorem step_inj {s t : St} (h : step s = step t) : s = t := by rw [← back_step s, h, back_step]
theorem step_ne (s : St) : step s = zero ↔ s = zero := ⟨fun h => step_inj (h.trans step_zero.symm), fun h => by rw [h, step_zero]⟩
def it : Nat → St → St
  | 0, s => s
  | n + 1, s => step (it n s)
theorem it_add (n m : Nat) (s : St) : it (n + m) s = it m (it n s) := by
  induction m with
  | zero => rfl
  | succ m ih => show step (it (n + m) s) = step (it m (it n s)); rw [ih]
theorem it_ne (n : Nat) (s : St) : it n s = zero ↔ s = zero := by
  induction n with
  | zero => rfl
  | succ n ih => show step (it n s) = zero ↔ _; rw [step_ne, ih]
theorem it_lin (n : Nat) (s t : St) : it n (add s t) = add (it n s) (it n t) := by
  induction n with
  | zero => rfl
  | succ n ih => show step (it n (add s t)) = _; rw [ih, step_add]; rfl
end Xo
section
structure Gs where
  k : Int
  m : BitVec 64
  x : St
  s : BitVec 128
  i : BitVec 128
  c : BitVec 128
  k0 : BitVec 32
  k1 : BitVec 32
  b : Bool
namespace Gs
def val (u : Gs) : Value := .agg #[.int .i64 u.k, .int .u64 (u.m.toNat : Nat), .int .u64 (u.x.a.toNat : Nat), .int .u64 (u.x.b.toNat : Nat), .int .u64 (u.x.c.toNat : Nat), .int .u64 (u.x.d.toNat : Nat), .int .u64 ((Wd.hi u.s).toNat : Nat), .int .u64 ((Wd.lo u.s).toNat : Nat), .int .u64 ((Wd.hi u.i).toNat : Nat), .int .u64 ((Wd.lo u.i).toNat : Nat), .int .u64 ((Wd.hi u.c).toNat : Nat), .int .u64 ((Wd.lo u.c).toNat : Nat), .int .u32 (u.k0.toNat : Nat), .int .u32 (u.k1.toNat : Nat), .bool u.b]
end Gs
namespace Sx
def eqbS (u v : Gs) : Bool := decide (u.k = v.k ∧ u.m = v.m ∧ u.x = v.x ∧ (u.s = v.s ∧ u.i = v.i) ∧ (u.c = v.c ∧ u.k0 = v.k0 ∧ u.k1 = v.k1 ∧ u.b = v.b))
theorem eqbS_self {u : Gs} : eqbS u u = true := decide_eq_true ⟨rfl, rfl, rfl, ⟨rfl, rfl⟩, rfl, rfl, rfl, rfl⟩
section
variable {w : World} {x y : Operand}
theorem eqS_any (w : World) (u v : Gs) : (Op.equalIn 10000 35 u.val v.val).run Tryz.prog w = .ok (eqbS u v) w := by
  obtain ⟨uk, um, ⟨a0, a1, a2, a3⟩, us, ui, uc, uk0, uk1, ub⟩ := u
  obtain ⟨vk, vm, ⟨b0, b1, b2, b3⟩, vs, vi, vc, vk0, vk1, vb⟩ := v
  have hX := eqX_any w 9997 a0 a1 a2 a3 b0 b1 b2 b3
  have hK : (Op.equalIn 9998 31 (.agg #[.int .u32 uk0.toNat, .int .u32 uk1.toNat]) (.agg #[.int .u32 vk0.toNat, .int .u32 vk1.toNat])).run Tryz.prog w = .ok (eq2 uk0.toNat uk1.toNat vk0.toNat vk1.toNat) w :=
    run_eq_arr2 w 9996 _ 29 .u32 _ _ _ _ (by kernel_rfl) (by kernel_rfl) Tryz.size_u32 Tryz.agg_u32
  unfold Gs.val
  have e : eqbS ⟨uk, um, ⟨a0, a1, a2, a3⟩, us, ui, uc, uk0, uk1, ub⟩ ⟨vk, vm, ⟨b0, b1, b2, b3⟩, vs, vi, vc, vk0, vk1, vb⟩ = ((((decide (uk = vk) && decide ((um.toNat : Int) = vm.toNat)) && eqb4 a0 a1 a2 a3 b0 b1 b2 b3) && ((((Wd.hi us).toNat : Int) == ((Wd.hi vs).toNat : Int) && ((Wd.lo us).toNat : Int) == ((Wd.lo vs).toNat : Int)) && (((Wd.hi ui).toNat : Int) == ((Wd.hi vi).toNat : Int) && ((Wd.lo ui).toNat : Int) == ((Wd.lo vi).toNat : Int)))) && (((((Wd.hi uc).toNat : Int) == ((Wd.hi vc).toNat : Int) && ((Wd.lo uc).toNat : Int) == ((Wd.lo vc).toNat : Int)) && eq2 uk0.toNat uk1.toNat vk0.toNat vk1.toNat) && (ub == vb))) := by
    rw [← eqb_nat, ← eqb_nat, ← eqb_nat]
    unfold eqbS eqb4 Wd.eqb eq2
    have hm : ((um.toNat : Int) = vm.toNat) ↔ um = vm := ⟨fun h => BitVec.eq_of_toNat_eq (by omega), fun h => by rw [h]⟩
    have h0 : ((uk0.toNat : Int) = vk0.toNat) ↔ uk0 = vk0 := ⟨fun h => BitVec.eq_of_toNat_eq (by omega), fun h => by rw [h]⟩
    have h1 : ((uk1.toNat : Int) = vk1.toNat) ↔ uk1 = vk1 := ⟨fun h => BitVec.eq_of_toNat_eq (by omega), fun h => by rw [h]⟩
    rw [Bool.eq_iff_iff]
    simp only [decide_eq_true_eq, Bool.and_eq_true, St.mk.injEq, hm, h0, h1, beq_iff_eq]
    constructor
    · rintro ⟨h1, h2, h3, h4, h5, h6, h7, h8⟩; exact ⟨⟨⟨⟨h1, h2⟩, h3⟩, h4⟩, ⟨h5, h6, h7⟩, h8⟩
    · rintro ⟨⟨⟨⟨h1, h2⟩, h3⟩, h4⟩, ⟨h5, h6, h7⟩, h8⟩; exact ⟨h1, h2, h3, h4, h5, h6, h7, h8⟩
  rw [e]
  simp only [Nat.reduceAdd] at hX
  simp [go_sem, hX, hK]
  generalize eqb4 a0 a1 a2 a3 b0 b1 b2 b3 = q1
  generalize eq2 (uk0.toNat : Int) (uk1.toNat : Int) (vk0.toNat : Int) (vk1.toNat : Int) = q2
  generalize ((um.toNat : Nat) : Int) = n1
  generalize ((vm.toNat : Nat) : Int) = n2
  generalize ((Wd.hi us).toNat : Int) = n3
  generalize ((Wd.hi vs).toNat : Int) = n4
  generalize ((Wd.lo us).toNat : Int) = n5
  generalize ((Wd.lo vs).toNat : Int) = n6
  generalize ((Wd.hi ui).toNat : Int) = n7
  generalize ((Wd.hi vi).toNat : Int) = n8
  generalize ((Wd.lo ui).toNat : Int) = n9
  generalize ((Wd.lo vi).toNat : Int) = n10
  generalize ((Wd.hi uc).toNat : Int) = n11
  generalize ((Wd.hi vc).toNat : Int) = n12
  generalize ((Wd.lo uc).toNat : Int) = n13
  generalize ((Wd.lo vc).toNat : Int) = n14
  by_cases p1 : uk = vk
  case neg => simp [p1, Result.andThen]
  by_cases p2 : n1 = n2
  case neg => simp [p1, p2, Result.andThen]
  cases q1
  case false => simp [p1, p2, Result.andThen]
  by_cases p3 : n3 = n4
  case neg => simp [p1, p2, p3, Result.andThen]
  by_cases p4 : n5 = n6
  case neg => simp [p1, p2, p3, p4, Result.andThen]
  by_cases p5 : n7 = n8
  case neg => simp [p1, p2, p3, p4, p5, Result.andThen]
  by_cases p6 : n9 = n10
  case neg => simp [p1, p2, p3, p4, p5, p6, Result.andThen]
  by_cases p7 : n11 = n12
  case neg => simp [p1, p2, p3, p4, p5, p6, p7, Result.andThen]
  by_cases p8 : n13 = n14
  case neg => simp [p1, p2, p3, p4, p5, p6, p7, p8, Result.andThen]
  cases q2 <;> cases ub <;> cases vb <;> simp [p1, p2, p3, p4, p5, p6, p7, p8, Result.andThen]
theorem gS : Tryz.prog.eqGuardType Tryz.prog.depth 35 = false := by kernel_rfl
theorem i_neS {u v : Gs} {r : Bool} (h : (!eqbS u v) = r) : (do eqGuard .neq 35 x y u.val v.val; binOp .neq 35 u.val v.val : Sem Value).run Tryz.prog w = .ok (.bool r) w := by
  rw [← h]; exact run_ne gS (eqS_any w u v)
end
end Sx
end
namespace Gf
def tb (f : Nat → Bool) (m : Nat) : Nat → List Bool
  | 0 => []
  | k + 1 => tb f m k ++ [f (m - 1 - k)]
theorem tb_len (f : Nat → Bool) (m : Nat) : ∀ k, (tb f m k).length = k
  | 0 => rfl
  | k + 1 => by unfold tb; rw [List.length_append, tb_len f m k]; rfl
def pwS (a p o : Nat) (b : Bool) : Nat := if b then md (clm (md (clm o o) p) a) p else md (clm o o) p
def pws (a p : Nat) (l : List Bool) : Nat := l.foldl (pwS a p) (md 1 p)
def pw (a p : Nat) (n : BitVec 128) : Nat := pws (md a p) p (tb n.getLsbD (Bi.len n) (Bi.len n))
theorem pws_snoc (a p : Nat) (l : List Bool) (b : Bool) : pws a p (l ++ [b]) = pwS a p (pws a p l) b := by unfold pws; rw [List.foldl_append]; rfl
theorem pwS_lim {p n : Nat} (hp : p ≠ 0) (h : p < lim n) (a o : Nat) (b : Bool) : pwS a p o b < lim n := by
  unfold pwS
  split
  · exact lim_md hp h _
  · exact lim_md hp h _
theorem pws_lim {p n : Nat} (hp : p ≠ 0) (h : p < lim n) (a : Nat) (l : List Bool) : pws a p l < lim n := by
  unfold pws
  suffices ∀ o, o < lim n → l.foldl (pwS a p) o < lim n from this _ (lim_md hp h _)
  induction l with
  | nil => exact fun o ho => ho
  | cons b l ih => exact fun o _ => ih _ (pwS_lim hp h a o b)
end Gf
namespace Sx
theorem Fr.setp {n : Nat} {a : Act} {kv : List (Nat × Value)} (F : Fr n a kv) {d : Nat} (hd : d < n) (v : Value) : Fr n { tmps := a.tmps.setIfInBounds d v, defers := [] } ((d, v) :: kv) := by
  have h := F.put hd v
  have e : (a.put (some d) v) = { tmps := a.tmps.setIfInBounds d v, defers := [] } := by
    have := F.defers
    cases a
    simp only [Act.put]
    simp only at this
    rw [this]
  rwa [e] at h
theorem put_defers (a : Act) (ds : List Deferred) (d : Option Tmp) (v : Value) : ({ a with defers := ds } : Act).put d v = { tmps := (a.put d v).tmps, defers := ds } := by cases d <;> rfl
theorem put_ds (a : Act) (d : Option Tmp) (v : Value) : (a.put d v).defers = a.defers := by cases d <;> rfl
theorem stepD {P : Program} {ops : Array Oper} {rest : List Oper} {o : Oper} {a : Act} {w : World} {Q : Exit → Act → World → Prop} {ds : List Deferred} {R : Value → World → Prop} (hg : Region.wanted o (yielded ops a.tmps) = true) (D : Does P o a w R)
    (h : ∀ x w', R x w' → wpList P ops Q rest { tmps := (a.put o.dst x).tmps, defers := ds } w') : wpList P ops Q (o :: rest) { tmps := a.tmps, defers := ds } w := by
  have D' := D (fun _ _ _ => False)
  unfold wpList
  rw [if_pos hg]
  refine .inl ?_
  unfold Oper.wp at D' ⊢
  have hev : ({ tmps := a.tmps, defers := ds } : Act).eval = a.eval := rfl
  rw [hev]
  generalize (execOp a.eval o).run P w = r at D' ⊢
  have key : ∀ v w', (∃ x, a.put o.dst v = a.put o.dst x ∧ R x w') → wpList P ops Q rest (({ tmps := a.tmps, defers := ds } : Act).put o.dst v) w' := fun v w' ⟨x, e, r⟩ => by
    have := put_defers a ds o.dst v
    rw [show ({ a with defers := ds } : Act) = { tmps := a.tmps, defers := ds } from rfl] at this
    rw [this, e]; exact h x w' r
  cases r with
  | ok x w' =>
    cases x with
    | value v => exact key v w' D'
    | skip => exact key undef w' D'
    | defer d =>
      obtain ⟨x, e, _⟩ := D'
      have e2 := congrArg Act.defers e
      rw [put_ds, put_ds] at e2
      exact absurd (congrArg List.length e2) (by simp)
    | enter f args =>
      refine Calls.mono D' ?_
      rintro (v | c | _) w'' h'
      · exact key v w'' h'
      · exact h'.elim
      · obtain ⟨_, _, h'⟩ := h'; exact h'.elim
    | row r args => exact Rows.mono D' fun v w'' h' => key v w'' h'
    | _ => exact D'.elim
  | halt e w' =>
    cases e with
    | panic v => exact D'.elim
    | _ => exact D'.elim
theorem svD {P : Program} {ops : Array Oper} {rest : List Oper} {o : Oper} {a : Act} {w : World} {Q : Exit → Act → World → Prop} {ds : List Deferred} {n : Nat} {kv : List (Nat × Value)} {d : Nat} {v : Value} (F : Fr n a kv) (D : Does P o a w (fun x w' => x = v ∧ w' = w)) (hg : Region.wanted o (yielded ops a.tmps) = true) (hd : o.dst = some d) (hn : d < n)
    (h : ∀ a', Fr n a' ((d, v) :: kv) → wpList P ops Q rest { tmps := a'.tmps, defers := ds } w) : wpList P ops Q (o :: rest) { tmps := a.tmps, defers := ds } w := by
  refine stepD hg D ?_
  rintro x w' ⟨rfl, rfl⟩
  rw [hd]
  exact h _ (F.put hn _)
theorem enterM {P : Program} {w : World} {f : FuncId} {fn : Func} {c : Code} {args : List Value} {R : Ending → World → Prop} {n : Nat} (hf : P.funcs[f]? = some fn) (hb : fn.body = some c) (hn : fn.ntmps = n) (hl : args.length ≤ n)
    (h : ∀ a, Fr n a (kvOf 0 args) → c.wp P (bodyPostM Fence.wide 6 P fn R) a w) : Calls P f args.toArray w R := by
  refine (callsIn_wide (n := 6)).1 (callsIn_of_wp_marks hf hb trivial (wpIn_wide.2 (h _ ?_)) rfl)
  have := Fr.start args n
  rw [show args.length + (n - args.length) = n from by omega] at this
  rw [hn]
  simpa using this
theorem ret2M {P : Program} {w : World} {a : Act} {n D : Nat} {kv : List (Nat × Value)} {fn : Func} {R : Ending → World → Prop} {r s : ResultVar} {v u : Value} (_F : Fr n a kv) (hrs : fn.results = #[r, s]) (hD : w.heap[D]? = some (.deferred (some []))) (h : resOf P a.tmps (w.putObj D (.deferred none)) r v) (h2 : resOf P a.tmps (w.putObj D (.deferred none)) s u)
    (hR : R (.returned (.tuple #[v, u])) (w.putObj D (.deferred none))) : bodyPostM Fence.wide 6 P fn R .ret { tmps := a.tmps, defers := [{ target := .collected D, args := #[] }] } w := by
  refine ⟨by simp, .inl ⟨D, _, rfl, run_takeDeferred hD, _, ?_, hR⟩⟩
  unfold resOf at h h2
  rw [results_eq, hrs]
  simp [Sem.run_bind, h, h2]
theorem ret0 {P : Program} {w : World} {a : Act} {n : Nat} {kv : List (Nat × Value)} {fn : Func} {R : Ending → World → Prop} (F : Fr n a kv) (hrs : fn.results = #[]) (hR : R (.returned (.tuple #[])) w) : bodyPost P fn R .ret a w := bodyPost_ret (results_none hrs _ _ _) F.defers hR
theorem end0 {P : Program} {w : World} {a : Act} {n : Nat} {kv : List (Nat × Value)} {fn : Func} {R : Ending → World → Prop} (F : Fr n a kv) (hrs : fn.results = #[]) (hR : R (.returned (.tuple #[])) w) : bodyPost P fn R .normal a w := bodyPost_end (results_none hrs _ _ _) F.defers hR
theorem Own.putD {w0 w : World} {bs : List Bx} {rs : List Rx} (h : Own w0 w bs rs) {D : Nat} {o o' : Obj} (hD : w.heap[D]? = some o) (hc : o.isCells = false) (h0 : w0.heap.size ≤ D) : Own w0 (w.putObj D o') bs rs :=
  h.from_ (B := w0.heap.size) (grownBy_putObj' w D o') (fun r e => by cases e; exact ⟨h0, _, hD, hc⟩) (Nat.le_refl _) (fun _ => rfl)
theorem bb {P : Program} {w0 w : World} {bs : List Bx} {rs : List Rx} {K : Nat → Option Obj} {f : FuncId} {args : Array Value} {mk : Nat → Value} {cs : List Value} (H : Own w0 w bs rs K) (h : Calls P f args w fun e w' => ∃ g, e = .returned (mk g) ∧ Own w w' [(true, g, cs)] []) :
    Calls P f args w fun e w' => ∃ y, e = .returned y ∧ ∃ g, y = mk g ∧ Own w0 w' ((true, g, cs) :: bs) rs K :=
  h.mono fun _ _ ⟨g, e, r⟩ => ⟨_, e, g, rfl, H.join r⟩
end Sx
section
namespace Xo
theorem add_assoc (s t u : St) : add (add s t) u = add s (add t u) := by unfold add; simp only [BitVec.xor_assoc]
theorem add_self (s : St) : add s s = zero := by unfold add zero; simp only [BitVec.xor_self]
theorem add_zero (s : St) : add s zero = s := by unfold add zero; simp only [BitVec.xor_zero]
theorem zero_add (s : St) : add zero s = s := by rw [add_comm, add_zero]
theorem add4 (a b c d : St) : add (add a b) (add c d) = add (add a c) (add b d) := by
  rw [add_assoc, add_assoc, ← add_assoc b c d, add_comm b c, add_assoc c b d]
theorem it_zero (n : Nat) : it n zero = zero := (it_ne n zero).2 rfl
theorem it_one (s : St) : it 1 s = step s := rfl
theorem it_comm (n m : Nat) (s : St) : it n (it m s) = it m (it n s) := by rw [← it_add, ← it_add, Nat.add_comm]
end Xo
namespace Xj
open Xo
def sum (p : Nat) (s : St) : Nat → St
  | 0 => zero
  | k + 1 => if p.testBit k then add (sum p s k) (it k s) else sum p s k
theorem sum_succ (p : Nat) (s : St) (k : Nat) : sum p s (k + 1) = if p.testBit k then add (sum p s k) (it k s) else sum p s k := rfl
def act (p : Nat) (s : St) : St := sum p s (p.log2 + 1)
theorem sum_up (p : Nat) (s : St) {m : Nat} : ∀ {n}, m ≤ n → (∀ k, m ≤ k → p.testBit k = false) → sum p s n = sum p s m := by
  intro n h hb
  induction n with
  | zero => rw [show m = 0 from by omega]
  | succ n ih =>
    by_cases e : m = n + 1
    · rw [e]
    · rw [sum_succ, if_neg (by rw [hb n (by omega)]; decide), ih (by omega)]
theorem bit_big {p m k : Nat} (h : p < 2 ^ m) (hk : m ≤ k) : p.testBit k = false := Nat.testBit_lt_two_pow (Nat.lt_of_lt_of_le h (Nat.pow_le_pow_right (by decide) hk))
theorem act_eq {p m : Nat} (s : St) (h : p < 2 ^ m) : sum p s m = act p s := by
  unfold act
  rcases Nat.le_total m (p.log2 + 1) with hl | hl
  · exact (sum_up p s hl (fun k hk => bit_big h hk)).symm
  · exact sum_up p s hl (fun k hk => bit_big Nat.lt_log2_self hk)
theorem key (x y : Bool) (A B C : St) : (if (x ^^ y) = true then add (add A B) C else add A B) = add (if x = true then add A C else A) (if y = true then add B C else B) := by
  cases x <;> cases y
  · rfl
  · exact add_assoc A B C
  · show add (add A B) C = add (add A C) B
    rw [add_assoc, add_comm B C, ← add_assoc]
  · show add A B = add (add A C) (add B C)
    rw [add4, add_self, add_zero]
theorem sum_xor (p q : Nat) (s : St) : ∀ n, sum (p ^^^ q) s n = add (sum p s n) (sum q s n)
  | 0 => (add_self zero).symm
  | n + 1 => by
    rw [sum_succ, sum_succ, sum_succ, sum_xor p q s n, Nat.testBit_xor]
    exact key _ _ _ _ _
theorem act_xor (p q : Nat) (s : St) : act (p ^^^ q) s = add (act p s) (act q s) := by
  have hp : p < 2 ^ (max p.log2 q.log2 + 1) := Nat.lt_of_lt_of_le Nat.lt_log2_self (Nat.pow_le_pow_right (by decide) (by omega))
  have hq : q < 2 ^ (max p.log2 q.log2 + 1) := Nat.lt_of_lt_of_le Nat.lt_log2_self (Nat.pow_le_pow_right (by decide) (by omega))
  rw [← act_eq s hp, ← act_eq s hq, ← act_eq s (Nat.xor_lt_two_pow hp hq), sum_xor]
theorem sum_lin (p : Nat) (s t : St) : ∀ n, sum p (add s t) n = add (sum p s n) (sum p t n)
  | 0 => (add_self zero).symm
  | n + 1 => by
    rw [sum_succ, sum_succ, sum_succ, sum_lin p s t n, it_lin]
    split
    · exact add4 _ _ _ _
    · rfl
theorem act_lin (p : Nat) (s t : St) : act p (add s t) = add (act p s) (act p t) := sum_lin p s t _
theorem sum_zero (p : Nat) : ∀ n, sum p zero n = zero
  | 0 => rfl
  | n + 1 => by rw [sum_succ, sum_zero p n, it_zero, add_zero]; split <;> rfl
theorem act_of_zero (p : Nat) : act p zero = zero := sum_zero p _
theorem sum_shl (p m : Nat) (s : St) : ∀ n, sum (p <<< m) s (m + n) = sum p (it m s) n
  | 0 => by
    show sum (p <<< m) s m = zero
    have : ∀ k, k ≤ m → sum (p <<< m) s k = zero := by
      intro k hk
      induction k with
      | zero => rfl
      | succ k ih => rw [sum_succ, if_neg (by rw [Nat.testBit_shiftLeft]; simp; omega), ih (by omega)]
    exact this m (Nat.le_refl _)
  | n + 1 => by
    rw [← Nat.add_assoc, sum_succ, sum_succ, sum_shl p m s n, Nat.testBit_shiftLeft, it_add]
    have : decide (m + n ≥ m) = true := decide_eq_true (by omega)
    rw [this, Bool.true_and, show m + n - m = n from by omega]
theorem act_shl (p m : Nat) (s : St) : act (p <<< m) s = act p (it m s) := by
  have h : p <<< m < 2 ^ (m + (p.log2 + 1)) := by
    rw [Nat.shiftLeft_eq, Nat.pow_add, Nat.mul_comm]
    exact Nat.mul_lt_mul_of_pos_left Nat.lt_log2_self (Nat.pow_pos (by decide))
  rw [← act_eq s h, sum_shl]; rfl
theorem act_0 (s : St) : act 0 s = zero := rfl
theorem act_1 (s : St) : act 1 s = s := zero_add s
theorem act_2 (s : St) : act (1 <<< 1) s = Xo.step s := by rw [act_shl, act_1]; rfl
theorem act_clm (p q : Nat) (s : St) : act (Gf.clm p q) s = act p (act q s) := by
  induction q using Nat.strongRecOn generalizing s with
  | ind q ih =>
    by_cases h : q = 0
    · subst h; rw [Gf.clm_zero, act_0, act_of_zero]
    · rw [Gf.clm_eq, act_xor, act_shl, ih (q / 2) (by omega)]
      have hq : act q s = add (if q % 2 = 1 then s else zero) (act (q / 2) (it 1 s)) := by
        conv => lhs; rw [Gf.half_xor q]
        rw [act_xor, act_shl]
        split
        · rw [act_1]
        · rw [act_0]
      rw [hq, act_lin]
      split
      · rfl
      · rw [act_0, act_of_zero]
def Kills (p : Nat) : Prop := p ≠ 0 ∧ ∀ s, act p s = zero
theorem act_md {p : Nat} (hk : Kills p) (a : Nat) (s : St) : act (Gf.md a p) s = act a s := by
  induction a using Nat.strongRecOn with
  | ind a ih =>
    by_cases h : p ≠ 0 ∧ a ≠ 0 ∧ p.log2 ≤ a.log2
    · rw [Gf.md_step h, ih _ (Gf.red_lt' h.1 h.2.1 h.2.2), act_xor, act_shl, hk.2, add_zero]
    · rw [Gf.md_end h]
def num (l : List Bool) : Nat := l.foldl (fun m b => 2 * m + b.toNat) 0
theorem num_snoc (l : List Bool) (b : Bool) : num (l ++ [b]) = 2 * num l + b.toNat := by unfold num; rw [List.foldl_append]; rfl
theorem act_pws {p : Nat} (hk : Kills p) {a : Nat} (ha : ∀ s, act a s = Xo.step s) (m : Nat) (f : Nat → Bool) (s : St) : ∀ k, act (Gf.pws a p (Gf.tb f m k)) s = it (num (Gf.tb f m k)) s := by
  intro k
  induction k generalizing s with
  | zero => show act (Gf.md 1 p) s = s; rw [act_md hk, act_1]
  | succ k ih =>
    show act (Gf.pws a p (Gf.tb f m k ++ [f (m - 1 - k)])) s = it (num (Gf.tb f m k ++ [f (m - 1 - k)])) s
    rw [Gf.pws_snoc, num_snoc]
    unfold Gf.pwS
    have h2 : ∀ s, act (Gf.md (Gf.clm (Gf.pws a p (Gf.tb f m k)) (Gf.pws a p (Gf.tb f m k))) p) s = it (2 * num (Gf.tb f m k)) s := fun s => by
      rw [act_md hk, act_clm, ih, ih, ← it_add, Nat.two_mul]
    cases f (m - 1 - k)
    · rw [if_neg (by decide), h2]; rfl
    · rw [if_pos rfl, act_md hk, act_clm, ha, h2, ← it_one s, ← it_add, Nat.add_comm 1]; rfl
theorem num_tb (n m : Nat) (hn : n < 2 ^ m) : ∀ k, k ≤ m → num (Gf.tb n.testBit m k) = n / 2 ^ (m - k)
  | 0, _ => by rw [Nat.sub_zero, Nat.div_eq_of_lt hn]; rfl
  | k + 1, h => by
    show num (Gf.tb n.testBit m k ++ [n.testBit (m - 1 - k)]) = _
    rw [num_snoc, num_tb n m hn k (by omega), show m - k = (m - (k + 1)) + 1 from by omega, Nat.pow_succ, ← Nat.div_div_eq_div_mul, show m - 1 - k = m - (k + 1) from by omega, Nat.testBit_eq_decide_div_mod_eq]
    generalize n / 2 ^ (m - (k + 1)) = q
    have : q % 2 = 0 ∨ q % 2 = 1 := by omega
    rcases this with e | e
    · rw [e]; simp; omega
    · rw [e]; simp; omega
theorem act_pw {p : Nat} (hk : Kills p) (n : BitVec 128) (s : St) : act (Gf.pw (1 <<< 1) p n) s = it n.toNat s := by
  unfold Gf.pw
  rw [act_pws hk (fun s => by rw [act_md hk, act_2])]
  have hl : n.toNat < 2 ^ Bi.len n := by
    apply Nat.lt_pow_two_of_testBit
    intro i hi
    rw [← BitVec.getLsbD]
    by_cases h : i < 128
    · exact Bi.lenN_above _ 128 i hi h
    · exact BitVec.getLsbD_of_ge _ _ (by omega)
  have h := num_tb n.toNat (Bi.len n) hl (Bi.len n) (Nat.le_refl _)
  rw [Nat.sub_self, Nat.pow_zero, Nat.div_one] at h
  exact congrArg (fun k => it k s) h
end Xj
end
section
namespace Xj
open Xo
def pwd (x : BitVec 64) (n : Nat) : BitVec 64 := BitVec.ofNat 64 (x.toNat % 2 ^ n)
theorem pwd_bit (x : BitVec 64) (n i : Nat) (hi : i < 64) : (pwd x n).getLsbD i = (decide (i < n) && x.getLsbD i) := by
  unfold pwd
  rw [BitVec.getLsbD_ofNat, Nat.testBit_mod_two_pow, decide_eq_true hi, Bool.true_and]; rfl
theorem pwd_zero (x : BitVec 64) : pwd x 0 = 0#64 := by unfold pwd; rw [Nat.pow_zero, Nat.mod_one]
theorem pwd_all (x : BitVec 64) {n : Nat} (h : 64 ≤ n) : pwd x n = x := by
  apply BitVec.eq_of_getLsbD_eq
  intro i hi
  rw [pwd_bit x n i hi, decide_eq_true (by omega), Bool.true_and]
theorem one_bit (n i : Nat) (hi : i < 64) : (1#64 <<< n).getLsbD i = decide (i = n) := by
  rw [BitVec.getLsbD_shiftLeft, decide_eq_true hi, Bool.true_and]
  by_cases h : i < n
  · rw [decide_eq_true h, decide_eq_false (by omega)]; rfl
  · rw [decide_eq_false h, Bool.not_false, Bool.true_and, BitVec.getLsbD_one]
    by_cases e : i = n
    · subst e; rw [Nat.sub_self]; simp
    · rw [decide_eq_false e, decide_eq_false (show ¬ i - n = 0 by omega)]; simp
theorem pwd_succ (x : BitVec 64) (n : Nat) : pwd x (n + 1) = if x.getLsbD n then pwd x n ^^^ (1#64 <<< n) else pwd x n := by
  apply BitVec.eq_of_getLsbD_eq
  intro i hi
  rw [pwd_bit x _ i hi]
  by_cases hb : x.getLsbD n = true
  · rw [if_pos hb, BitVec.getLsbD_xor, pwd_bit x n i hi, one_bit n i hi]
    by_cases e : i = n
    · subst e; simp [hb]
    · by_cases h : i < n
      · simp [h, e, show i < n + 1 by omega]
      · simp [h, e, show ¬ i < n + 1 by omega]
  · rw [if_neg hb, pwd_bit x n i hi]
    by_cases e : i = n
    · subst e; simp [Bool.eq_false_iff.2 hb]
    · by_cases h : i < n
      · simp [h, show i < n + 1 by omega]
      · simp [h, show ¬ i < n + 1 by omega]
def bas (i : Nat) : St := ⟨if i / 64 = 0 then 1#64 <<< (i % 64) else 0#64, if i / 64 = 1 then 1#64 <<< (i % 64) else 0#64, if i / 64 = 2 then 1#64 <<< (i % 64) else 0#64, if i / 64 = 3 then 1#64 <<< (i % 64) else 0#64⟩
def wrd (s : St) (k : Nat) : BitVec 64 := if k = 0 then s.a else if k = 1 then s.b else if k = 2 then s.c else s.d
def bit (s : St) (i : Nat) : Bool := (wrd s (i / 64)).getLsbD (i % 64)
def part (s : St) (n : Nat) : St := ⟨pwd s.a n, pwd s.b (n - 64), pwd s.c (n - 128), pwd s.d (n - 192)⟩
theorem ite_add (b : Bool) (x y : St) : (if b = true then x else y) = ⟨if b = true then x.a else y.a, if b = true then x.b else y.b, if b = true then x.c else y.c, if b = true then x.d else y.d⟩ := by cases b <;> rfl
theorem part_succ (s : St) {n : Nat} (h : n < 256) : part s (n + 1) = if bit s n then add (part s n) (bas n) else part s n := by
  have hq : n / 64 = 0 ∨ n / 64 = 1 ∨ n / 64 = 2 ∨ n / 64 = 3 := by omega
  unfold bit part bas add wrd
  rw [ite_add]
  rcases hq with e | e | e | e <;> rw [e]
  · have h1 : n % 64 = n := by omega
    rw [h1, pwd_succ s.a n, show n + 1 - 64 = 0 from by omega, show n - 64 = 0 from by omega, show n + 1 - 128 = 0 from by omega, show n - 128 = 0 from by omega, show n + 1 - 192 = 0 from by omega, show n - 192 = 0 from by omega]
    simp
  · have h1 : n % 64 = n - 64 := by omega
    rw [h1, show n + 1 - 64 = (n - 64) + 1 from by omega, pwd_succ s.b (n - 64), show n + 1 - 128 = 0 from by omega, show n - 128 = 0 from by omega, show n + 1 - 192 = 0 from by omega, show n - 192 = 0 from by omega, pwd_all s.a (show 64 ≤ n + 1 by omega), pwd_all s.a (show 64 ≤ n by omega)]
    simp
  · have h1 : n % 64 = n - 128 := by omega
    rw [h1, show n + 1 - 128 = (n - 128) + 1 from by omega, pwd_succ s.c (n - 128), show n + 1 - 192 = 0 from by omega, show n - 192 = 0 from by omega, pwd_all s.a (show 64 ≤ n + 1 by omega), pwd_all s.a (show 64 ≤ n by omega), pwd_all s.b (show 64 ≤ n + 1 - 64 by omega), pwd_all s.b (show 64 ≤ n - 64 by omega)]
    simp
  · have h1 : n % 64 = n - 192 := by omega
    rw [h1, show n + 1 - 192 = (n - 192) + 1 from by omega, pwd_succ s.d (n - 192), pwd_all s.a (show 64 ≤ n + 1 by omega), pwd_all s.a (show 64 ≤ n by omega), pwd_all s.b (show 64 ≤ n + 1 - 64 by omega), pwd_all s.b (show 64 ≤ n - 64 by omega), pwd_all s.c (show 64 ≤ n + 1 - 128 by omega), pwd_all s.c (show 64 ≤ n - 128 by omega)]
    simp
def comb (f : Nat → St) (s : St) : Nat → St
  | 0 => zero
  | i + 1 => if bit s i then add (comb f s i) (f i) else comb f s i
theorem comb_part (g : St → St) (hz : g zero = zero) (hg : ∀ x y, g (add x y) = add (g x) (g y)) (s : St) : ∀ n, n ≤ 256 → comb (fun i => g (bas i)) s n = g (part s n)
  | 0, _ => by
    unfold part
    rw [pwd_zero, pwd_zero, pwd_zero, pwd_zero]; exact hz.symm
  | n + 1, h => by
    rw [part_succ s (by omega)]
    show (if bit s n = true then add (comb _ s n) (g (bas n)) else comb _ s n) = _
    rw [comb_part g hz hg s n (by omega)]
    split
    · rw [hg]
    · rfl
theorem comb_all (g : St → St) (hz : g zero = zero) (hg : ∀ x y, g (add x y) = add (g x) (g y)) (s : St) : comb (fun i => g (bas i)) s 256 = g s := by
  rw [comb_part g hz hg s 256 (Nat.le_refl _)]
  unfold part
  rw [pwd_all _ (by decide), pwd_all _ (by decide), pwd_all _ (by decide), pwd_all _ (by decide)]
theorem comb_congr {f g : Nat → St} (s : St) : ∀ n, (∀ i, i < n → f i = g i) → comb f s n = comb g s n
  | 0, _ => rfl
  | n + 1, h => by
    show (if bit s n = true then add (comb f s n) (f n) else comb f s n) = (if bit s n = true then add (comb g s n) (g n) else comb g s n)
    rw [comb_congr s n (fun i hi => h i (by omega)), h n (by omega)]
theorem comb_zero (s : St) : ∀ n, comb (fun _ => zero) s n = zero
  | 0 => rfl
  | n + 1 => by
    show (if bit s n = true then add (comb _ s n) zero else comb _ s n) = zero
    rw [comb_zero s n, add_zero]; split <;> rfl
def M : Nat := 18446744073709551616
def ev : Nat → Nat → Nat → Nat → Nat → Nat → Nat → Nat → Nat → Nat → Bool
  | 0, _, _, _, _, _, oa, ob, oc, od => Nat.beq (Nat.lor (Nat.lor oa ob) (Nat.lor oc od)) 0
  | n + 1, p, a, b, c, d, oa, ob, oc, od =>
    bif Nat.beq (Nat.mod p 2) 1 then
      ev n (Nat.div p 2) (Nat.xor a (Nat.xor d b)) (Nat.xor b (Nat.xor c a)) (Nat.xor (Nat.xor c a) (Nat.mod (Nat.shiftLeft b 17) M)) (Nat.lor (Nat.mod (Nat.shiftLeft (Nat.xor d b) 45) M) (Nat.shiftRight (Nat.xor d b) 19)) (Nat.xor oa a) (Nat.xor ob b) (Nat.xor oc c) (Nat.xor od d)
    else
      ev n (Nat.div p 2) (Nat.xor a (Nat.xor d b)) (Nat.xor b (Nat.xor c a)) (Nat.xor (Nat.xor c a) (Nat.mod (Nat.shiftLeft b 17) M)) (Nat.lor (Nat.mod (Nat.shiftLeft (Nat.xor d b) 45) M) (Nat.shiftRight (Nat.xor d b) 19)) oa ob oc od
theorem sum_shift (p : Nat) (s : St) : ∀ n, sum p s (n + 1) = add (if p.testBit 0 then s else zero) (sum (p / 2) (Xo.step s) n)
  | 0 => by
    show (if p.testBit 0 = true then add zero s else zero) = add _ zero
    rw [add_zero, zero_add]
  | n + 1 => by
    rw [sum_succ p s (n + 1), sum_shift p s n, sum_succ (p / 2), Nat.testBit_succ, show it (n + 1) s = it n (Xo.step s) from (it_comm 1 n s)]
    split
    · rw [add_assoc]
    · rfl
theorem odd_bit (p : Nat) : Nat.beq (Nat.mod p 2) 1 = p.testBit 0 := by
  rw [Nat.testBit_zero]
  show Nat.beq (p % 2) 1 = _
  have : p % 2 = 0 ∨ p % 2 = 1 := by omega
  rcases this with e | e <;> rw [e] <;> rfl
theorem step_nat (s : St) : (Xo.step s).a.toNat = Nat.xor s.a.toNat (Nat.xor s.d.toNat s.b.toNat) ∧ (Xo.step s).b.toNat = Nat.xor s.b.toNat (Nat.xor s.c.toNat s.a.toNat) ∧
    (Xo.step s).c.toNat = Nat.xor (Nat.xor s.c.toNat s.a.toNat) (Nat.mod (Nat.shiftLeft s.b.toNat 17) M) ∧ (Xo.step s).d.toNat = Nat.lor (Nat.mod (Nat.shiftLeft (Nat.xor s.d.toNat s.b.toNat) 45) M) (Nat.shiftRight (Nat.xor s.d.toNat s.b.toNat) 19) := by
  refine ⟨?_, ?_, ?_, ?_⟩
  · show (s.a ^^^ (s.d ^^^ s.b)).toNat = _
    rw [BitVec.toNat_xor, BitVec.toNat_xor]; rfl
  · show (s.b ^^^ (s.c ^^^ s.a)).toNat = _
    rw [BitVec.toNat_xor, BitVec.toNat_xor]; rfl
  · show (s.c ^^^ s.a ^^^ (s.b <<< 17)).toNat = _
    rw [BitVec.toNat_xor, BitVec.toNat_xor, BitVec.toNat_shiftLeft]; rfl
  · show ((s.d ^^^ s.b) <<< 45 ||| (s.d ^^^ s.b) >>> 19).toNat = _
    rw [BitVec.toNat_or, BitVec.toNat_shiftLeft, BitVec.toNat_ushiftRight, BitVec.toNat_xor]; rfl
theorem ev_ok : ∀ (n p : Nat) (s o : St), ev n p s.a.toNat s.b.toNat s.c.toNat s.d.toNat o.a.toNat o.b.toNat o.c.toNat o.d.toNat = true → add o (sum p s n) = zero
  | 0, _, _, o, h => by
    have h' := Nat.eq_of_beq_eq_true h
    have h1 : (o.a.toNat ||| o.b.toNat) ||| (o.c.toNat ||| o.d.toNat) = 0 := h'
    rw [Nat.or_eq_zero_iff, Nat.or_eq_zero_iff, Nat.or_eq_zero_iff] at h1
    obtain ⟨⟨ha, hb⟩, hc, hd⟩ := h1
    show add o zero = zero
    rw [add_zero]
    exact Xo.ext (BitVec.eq_of_toNat_eq ha) (BitVec.eq_of_toNat_eq hb) (BitVec.eq_of_toNat_eq hc) (BitVec.eq_of_toNat_eq hd)
  | n + 1, p, s, o, h => by
    obtain ⟨e1, e2, e3, e4⟩ := step_nat s
    unfold ev at h
    rw [odd_bit, ← e1, ← e2, ← e3, ← e4] at h
    rw [sum_shift]
    cases hb : p.testBit 0
    · rw [hb] at h
      have := ev_ok n (p / 2) (Xo.step s) o h
      rw [if_neg (by decide), zero_add]; exact this
    · rw [hb] at h
      have := ev_ok n (p / 2) (Xo.step s) (add o s) (by
        show ev n (p / 2) _ _ _ _ (o.a ^^^ s.a).toNat (o.b ^^^ s.b).toNat (o.c ^^^ s.c).toNat (o.d ^^^ s.d).toNat = true
        rw [BitVec.toNat_xor, BitVec.toNat_xor, BitVec.toNat_xor, BitVec.toNat_xor]; exact h)
      rw [if_pos rfl, ← add_assoc]; exact this
def rule : Nat := 0x10003c03c3f3ecb1904b4edcf26259f850280002bcefd1a5e9d116f2bb0f0f001
def basN (i j : Nat) : Nat := bif Nat.beq (Nat.div i 64) j then Nat.shiftLeft 1 (Nat.mod i 64) else 0
def chk (i : Nat) : Bool := ev 257 rule (basN i 0) (basN i 1) (basN i 2) (basN i 3) 0 0 0 0
def allN (f : Nat → Bool) : Nat → Bool
  | 0 => true
  | n + 1 => and (f n) (allN f n)
theorem allN_at (f : Nat → Bool) : ∀ n, allN f n = true → ∀ i, i < n → f i = true
  | 0, _, i, hi => absurd hi (Nat.not_lt_zero i)
  | n + 1, h, i, hi => by
    have h' : (f n && allN f n) = true := h
    rw [Bool.and_eq_true] at h'
    by_cases e : i = n
    · rw [e]; exact h'.1
    · exact allN_at f n h'.2 i (by omega)
theorem chks_ok : allN chk 256 = true := by decide +kernel
theorem basN_eq (i j : Nat) : (if i / 64 = j then 1#64 <<< (i % 64) else 0#64).toNat = basN i j := by
  unfold basN
  have hb : Nat.beq (Nat.div i 64) j = decide (i / 64 = j) := by
    show Nat.beq (i / 64) j = _
    rw [Bool.eq_iff_iff, decide_eq_true_eq]
    exact ⟨Nat.eq_of_beq_eq_true, fun e => by rw [e]; exact Nat.beq_refl _⟩
  rw [hb]
  by_cases e : i / 64 = j
  · rw [if_pos e, decide_eq_true e]
    show _ = Nat.shiftLeft 1 (i % 64)
    have hm : i % 64 < 64 := Nat.mod_lt _ (by decide)
    rw [BitVec.toNat_shiftLeft, show (1#64).toNat = 1 from rfl]
    show 1 <<< (i % 64) % 2 ^ 64 = 1 <<< (i % 64)
    rw [Nat.one_shiftLeft]
    exact Nat.mod_eq_of_lt (Nat.pow_lt_pow_right (by decide) hm)
  · rw [if_neg e, decide_eq_false e]; rfl
theorem rule_bas (i : Nat) (h : i < 256) : act rule (bas i) = zero := by
  have hc := allN_at chk 256 chks_ok i h
  unfold chk at hc
  rw [← basN_eq, ← basN_eq, ← basN_eq, ← basN_eq] at hc
  have := ev_ok 257 rule (bas i) zero hc
  rw [zero_add] at this
  rw [← act_eq (m := 257) (bas i) (by decide +kernel)]
  exact this
theorem rule_kills : Kills rule := ⟨by decide, fun s => by
  rw [← comb_all (act rule) (act_of_zero rule) (act_lin rule) s, comb_congr s 256 (fun i hi => rule_bas i hi), comb_zero]⟩
end Xj
end
namespace Xj
def right (s : St) : Bool := !Sx.eqb4 s.a s.b s.c s.d 0#64 0#64 0#64 0#64
theorem right_ne {s : St} (h : right s = true) : s ≠ Xo.zero := by rintro rfl; cases h
theorem right_eq {s : St} (h : right s = false) : s = Xo.zero := by
  unfold right Sx.eqb4 at h
  have h := of_decide_eq_true (by simpa using h : decide (s.a = 0#64 ∧ s.b = 0#64 ∧ s.c = 0#64 ∧ s.d = 0#64) = true)
  exact Xo.ext h.1 h.2.1 h.2.2.1 h.2.2.2
def low (s : St) : Bool := (((s.a &&& 1#64).toNat : Int) == 1)
def bools (s : St) (n : Nat) : List Value := (List.range n).map fun k => .bool (low (Xo.it k s))
theorem bools_succ (s : St) (n : Nat) : bools s (n + 1) = bools s n ++ [.bool (low (Xo.it n s))] := by unfold bools; rw [List.range_succ, List.map_append]; rfl
end Xj
namespace Gf
theorem lim_of {p m n : Nat} (h : p < 2 ^ m) (hm : m ≤ 64 * n) : p < lim n := Nat.lt_of_lt_of_le h (Nat.pow_le_pow_right (by decide) hm)
end Gf
namespace Sx
theorem rr {P : Program} {w0 w : World} {bs : List Bx} {rs : List Rx} {K : Nat → Option Obj} {f : FuncId} {args : Array Value} {mk : Value → Value → Value} {C : Value → Value → List Rx} (H : Own w0 w bs rs K) (h : Calls P f args w fun e w' => ∃ c b : Value, e = .returned (mk c b) ∧ Own w w' [] (C c b)) :
    Calls P f args w fun e w' => ∃ y, e = .returned y ∧ ∃ c b, y = mk c b ∧ Own w0 w' bs (C c b ++ rs) K :=
  h.mono fun _ _ ⟨c, b, e, r⟩ => ⟨_, e, c, b, rfl, H.join r⟩
theorem srr {ds : List Deferred} {P : Program} {ops : Array Oper} {rest : List Oper} {o : Oper} {a : Act} {w : World} {n : Nat} {kv : List (Nat × Value)} {Q : Exit → Act → World → Prop} {d : Nat} {mk : Value → Value → Value} {R : Value → Value → World → Prop} (F : Fr n a kv ds) (D : Does P o a w (fun x w' => ∃ c b, x = mk c b ∧ R c b w')) (hg : Region.wanted o (yielded ops a.tmps) = true) (hd : o.dst = some d) (hn : d < n)
    (h : ∀ c b a' w', Fr n a' ((d, mk c b) :: kv) ds → R c b w' → wpList P ops Q rest a' w') : wpList P ops Q (o :: rest) a w := by
  refine step hg D ?_
  rintro x w' ⟨c, b, rfl, r⟩
  rw [hd]
  exact h c b _ _ (F.put hn _) r
end Sx
namespace Ms
def Rd (w : World) (v : Value) (f : Nat → Bool) (n : Nat) : Prop := n ≤ 2000 ∧ ∃ ad cap, v = .slice ad n cap ∧ ∀ k, k < n → ∃ g o, ad = some ⟨g, o, none⟩ ∧ w.cell? ⟨g, o + k, none⟩ = some (.bool (f k))
theorem Rd.below {w w' : World} {v : Value} {f : Nat → Bool} {n : Nat} (h : Rd w v f n) (hb : Below w.heap.size w w') : Rd w' v f n := by
  obtain ⟨h1, ad, cap, hv, hc⟩ := h
  refine ⟨h1, ad, cap, hv, fun k hk => ?_⟩
  obtain ⟨g, o, e, hcell⟩ := hc k hk
  exact ⟨g, o, e, keep_cell hb _ _ hcell⟩
theorem Rd.row {w : World} {lo : Nat} {E : TypeId} {v : Value} {f : Nat → Bool} {n : Nat} (h : w.ownsRow lo E 1 v n ((List.range n).map fun k => .bool (f k))) (hl : n ≤ 2000) : Rd w v f n := by
  refine ⟨hl, ?_⟩
  rcases row_form h with ⟨rfl, rfl⟩ | ⟨g, cap, rfl, _, _, _, _, hc⟩
  · exact ⟨none, 0, rfl, fun k hk => by omega⟩
  · exact ⟨some ⟨g, 0, none⟩, cap, rfl, fun k hk => ⟨g, 0, rfl, by rw [Nat.zero_add, hc k hk, List.getElem?_map, List.getElem?_range hk]; rfl⟩⟩
def wrong (f : Nat → Bool) (c i : Nat) : Nat → Bool
  | 0 => false
  | k + 1 => if (c.testBit k && f (i - k)) = true then !wrong f c i k else wrong f c i k
structure S where
  c : Nat
  b : Nat
  n : Nat
  ago : Nat
def start : S := ⟨1, 1, 0, 1⟩
def one (f : Nat → Bool) (i : Nat) (s : S) : S :=
  if wrong f s.c i (s.n + 1) = true then (if 2 * s.n ≤ i then ⟨s.c ^^^ s.b <<< s.ago, s.c, i + 1 - s.n, 1⟩ else ⟨s.c ^^^ s.b <<< s.ago, s.b, s.n, s.ago + 1⟩) else ⟨s.c, s.b, s.n, s.ago + 1⟩
def run (f : Nat → Bool) : Nat → S
  | 0 => start
  | i + 1 => one f i (run f i)
structure S.ok (s : S) (i : Nat) : Prop where
  c : s.c < 2 ^ (i + 1)
  b : s.b <<< s.ago < 2 ^ (i + 2)
  n : s.n ≤ i
  ago : s.ago ≤ i + 1
theorem start_ok : start.ok 0 := ⟨by decide, by decide, Nat.le_refl _, Nat.le_refl _⟩
theorem one_ok (f : Nat → Bool) {i : Nat} {s : S} (h : s.ok i) : (one f i s).ok (i + 1) := by
  have hc : s.c < 2 ^ (i + 1 + 1) := Nat.lt_of_lt_of_le h.c (Nat.pow_le_pow_right (by decide) (by omega))
  have hx : s.c ^^^ s.b <<< s.ago < 2 ^ (i + 1 + 1) := Nat.xor_lt_two_pow hc h.b
  have hb : s.b <<< (s.ago + 1) < 2 ^ (i + 1 + 2) := by
    rw [Nat.shiftLeft_succ, show i + 1 + 2 = (i + 2) + 1 from by omega, Nat.pow_succ]
    have := h.b
    omega
  have := h.n; have := h.ago
  unfold one
  split
  · split
    · refine ⟨hx, ?_, by show i + 1 - s.n ≤ i + 1; omega, by show 1 ≤ i + 1 + 1; omega⟩
      show s.c <<< 1 < 2 ^ (i + 1 + 2)
      rw [Nat.shiftLeft_eq, show i + 1 + 2 = (i + 1) + 1 + 1 from by omega, Nat.pow_succ 2 ((i + 1) + 1), Nat.pow_succ 2 (i + 1)]
      have := h.c
      omega
    · exact ⟨hx, hb, by show s.n ≤ i + 1; omega, by show s.ago + 1 ≤ i + 1 + 1; omega⟩
  · exact ⟨hc, hb, by show s.n ≤ i + 1; omega, by show s.ago + 1 ≤ i + 1 + 1; omega⟩
theorem run_ok (f : Nat → Bool) : ∀ i, (run f i).ok i
  | 0 => start_ok
  | i + 1 => one_ok f (run_ok f i)
theorem shl_le (a n : Nat) : a ≤ a <<< n := by rw [Nat.shiftLeft_eq]; exact Nat.le_mul_of_pos_right _ (Nat.pow_pos (by decide))
theorem S.ok.lens {s : S} {i : Nat} (h : s.ok i) (hi : i ≤ 2000) : (Gf.ws s.c).length ≤ 40 ∧ (Gf.ws s.b).length ≤ 40 ∧ (Gf.ws (s.b <<< s.ago)).length ≤ 40 ∧ (Gf.ws (s.c ^^^ s.b <<< s.ago)).length ≤ 40 := by
  have hp : ∀ p, p < 2 ^ (i + 2) → (Gf.ws p).length ≤ 40 := fun p hp => Gf.lim_len (Gf.lim_of hp (by omega))
  have hc := Nat.lt_of_lt_of_le h.c (Nat.pow_le_pow_right (by decide) (show i + 1 ≤ i + 2 by omega))
  exact ⟨hp _ hc, hp _ (Nat.lt_of_le_of_lt (shl_le _ _) h.b), hp _ h.b, hp _ (Nat.xor_lt_two_pow hc h.b)⟩
def rev (c n : Nat) : Nat → Nat
  | 0 => 0
  | k + 1 => if c.testBit (n - k) = true then rev c n k ^^^ 1 <<< k else rev c n k
theorem rev_lt (c n : Nat) : ∀ k, rev c n k < 2 ^ k
  | 0 => Nat.one_pos
  | k + 1 => by
    have h := Nat.lt_of_lt_of_le (rev_lt c n k) (Nat.pow_le_pow_right (by decide : 0 < 2) (Nat.le_succ k))
    show (if c.testBit (n - k) = true then rev c n k ^^^ 1 <<< k else rev c n k) < 2 ^ (k + 1)
    split
    · exact Nat.xor_lt_two_pow h (Gf.one_shl_lt (Nat.lt_succ_self k))
    · exact h
end Ms
open Sx in
theorem brot45_c (x : BitVec 64) (w0 : World) : Calls Tryz.prog 208 #[uN x, iI 45] w0 fun e w' => e = .returned (uN (Xo.rotl x 45)) ∧ Below w0.heap.size w0 w' := by
 refine En Tryz.func208 Tryz.ntmps208 fun A F => ?_
 have H := Sx.Own.start w0
 refine Sp fun _ kk => Av F fun A F => ?_
 refine Nl kk (Sp fun _ kk => Av F fun A F => ?_)
 refine Zv F (d_conv (v := iU 45) F rfl rfl (by kernel_rfl)) fun A F => ?_
 refine Zn (iU 45) F fun A F => ?_
 refine Av F fun A F => ?_
 refine Nl kk (Sp fun _ kk => ?_)
 iterate 2 (refine Av F ?_; intro A F)
 refine Zv F (Bn (uN (x <<< 45)) F rfl rfl rfl (i_shl64 x 45 (by decide) _)) fun A F => ?_
 iterate 2 (refine Av F ?_; intro A F)
 refine Zn (iU 19) F fun A F => ?_
 refine Zv F (Bn (uN (x >>> 19)) F rfl rfl rfl (i_shr64 x 19 (by decide) _)) fun A F => ?_
 refine Zv F (Bn (uN ((x <<< 45) ||| (x >>> 19))) F rfl rfl rfl (i_or64 (x <<< 45) (x >>> 19))) fun A F => ?_
 refine Av F fun A F => ?_
 refine Nl kk ?_
 refine Wr (ret1 F Tryz.results208 (res_tmp F rfl) (An ?_ H.below))
 rfl
abbrev L8 (x0 : St) : Value := .agg #[uN x0.a, uN x0.b, uN x0.c, uN x0.d]
abbrev L9 (x0 : St) : Value := .agg #[iU ((Xo.step x0).a.toNat), iU ((Xo.step x0).b.toNat), iU ((Xo.step x0).c.toNat), iU ((Xo.step x0).d.toNat)]
abbrev L10 (x0 : St) : List Value := [uN (x0.a ^^^ (x0.d ^^^ x0.b)), uN (x0.b ^^^ (x0.c ^^^ x0.a)), uN ((x0.c ^^^ x0.a) ^^^ (x0.b <<< 17)), uN (Xo.rotl (x0.d ^^^ x0.b) 45)]
open Sx in
theorem xstep_c (s : St) (w0 : World) : Calls Tryz.prog 204 #[(L8 s)] w0 fun e w' => e = .returned (L9 s) ∧ Below w0.heap.size w0 w' := by
 refine En Tryz.func204 Tryz.ntmps204 fun A F => ?_
 have H := Sx.Own.start w0
 refine Sp fun _ kk => Zb F (d_box F H rfl rfl [uN s.a, uN s.b, uN s.c, uN s.d] rfl) fun g1 A w F H => ?_
 refine Zb F (d_alloc H rfl [iU 0, iU 0, iU 0, iU 0] zero_24) fun g2 A w F H => ?_
 refine Nl kk (Sp fun _ kk => Zv F (d_iaddr (v := pT g1 1) F rfl rfl rfl (by kernel_rfl)) fun A F => ?_)
 refine Av F fun A F => ?_
 refine Zv F (Bn (uN (s.b <<< 17)) F rfl rfl rfl (i_shl64 s.b 17 (by decide) _)) fun A F => ?_
 refine Av F fun A F => ?_
 refine Nl kk (Sp fun _ kk => Zv F (d_iaddr (v := pT g1 2) F rfl rfl rfl (by kernel_rfl)) fun A F => ?_)
 refine Av F fun A F => ?_
 refine Zv F (d_iaddr (v := pT g1 0) F rfl rfl rfl (by kernel_rfl)) fun A F => ?_
 refine Av F fun A F => ?_
 refine Zv F (Bn (uN (s.c ^^^ s.a)) F rfl rfl rfl (i_xor64 s.c s.a)) fun A F => ?_
 refine Zv F (d_iaddr (v := pT g1 2) F rfl rfl rfl (by kernel_rfl)) fun A F => ?_
 refine Zs 1 [uN s.a, uN s.b, uN (s.c ^^^ s.a), uN s.d] sz_22 F H fun A w F H => ?_
 refine Nl kk (Sp fun _ kk => Zv F (d_iaddr (v := pT g1 3) F rfl rfl rfl (by kernel_rfl)) fun A F => ?_)
 refine Av F fun A F => ?_
 refine Zv F (d_iaddr (v := pT g1 1) F rfl rfl rfl (by kernel_rfl)) fun A F => ?_
 refine Av F fun A F => ?_
 refine Zv F (Bn (uN (s.d ^^^ s.b)) F rfl rfl rfl (i_xor64 s.d s.b)) fun A F => ?_
 refine Zv F (d_iaddr (v := pT g1 3) F rfl rfl rfl (by kernel_rfl)) fun A F => ?_
 refine Zs 1 [uN s.a, uN s.b, uN (s.c ^^^ s.a), uN (s.d ^^^ s.b)] sz_22 F H fun A w F H => ?_
 refine Nl kk (Sp fun _ kk => Zv F (d_iaddr (v := pT g1 1) F rfl rfl rfl (by kernel_rfl)) fun A F => ?_)
 refine Av F fun A F => ?_
 refine Zv F (d_iaddr (v := pT g1 2) F rfl rfl rfl (by kernel_rfl)) fun A F => ?_
 refine Av F fun A F => ?_
 refine Zv F (Bn (uN (s.b ^^^ (s.c ^^^ s.a))) F rfl rfl rfl (i_xor64 s.b (s.c ^^^ s.a))) fun A F => ?_
 refine Zv F (d_iaddr (v := pT g1 1) F rfl rfl rfl (by kernel_rfl)) fun A F => ?_
 refine Zs 1 [uN s.a, uN (s.b ^^^ (s.c ^^^ s.a)), uN (s.c ^^^ s.a), uN (s.d ^^^ s.b)] sz_22 F H fun A w F H => ?_
 refine Nl kk (Sp fun _ kk => Zv F (d_iaddr (v := pT g1 0) F rfl rfl rfl (by kernel_rfl)) fun A F => ?_)
 refine Av F fun A F => ?_
 refine Zv F (d_iaddr (v := pT g1 3) F rfl rfl rfl (by kernel_rfl)) fun A F => ?_
 refine Av F fun A F => ?_
 refine Zv F (Bn (uN (s.a ^^^ (s.d ^^^ s.b))) F rfl rfl rfl (i_xor64 s.a (s.d ^^^ s.b))) fun A F => ?_
 refine Zv F (d_iaddr (v := pT g1 0) F rfl rfl rfl (by kernel_rfl)) fun A F => ?_
 refine Zs 1 [uN (s.a ^^^ (s.d ^^^ s.b)), uN (s.b ^^^ (s.c ^^^ s.a)), uN (s.c ^^^ s.a), uN (s.d ^^^ s.b)] sz_22 F H fun A w F H => ?_
 refine Nl kk (Sp fun _ kk => Zv F (d_iaddr (v := pT g1 2) F rfl rfl rfl (by kernel_rfl)) fun A F => ?_)
 iterate 2 (refine Av F ?_; intro A F)
 refine Zv F (Bn (uN ((s.c ^^^ s.a) ^^^ (s.b <<< 17))) F rfl rfl rfl (i_xor64 (s.c ^^^ s.a) (s.b <<< 17))) fun A F => ?_
 refine Zv F (d_iaddr (v := pT g1 2) F rfl rfl rfl (by kernel_rfl)) fun A F => ?_
 refine Zs 1 [uN (s.a ^^^ (s.d ^^^ s.b)), uN (s.b ^^^ (s.c ^^^ s.a)), uN ((s.c ^^^ s.a) ^^^ (s.b <<< 17)), uN (s.d ^^^ s.b)] sz_22 F H fun A w F H => ?_
 refine Nl kk (Sp fun _ kk => Zv F (d_iaddr (v := pT g1 3) F rfl rfl rfl (by kernel_rfl)) fun A F => ?_)
 refine Av F fun A F => ?_
 refine Zw F (Dc if_208 F H (brot45_c (s.d ^^^ s.b) _)) fun A w F H => ?_
 refine Zv F (d_iaddr (v := pT g1 3) F rfl rfl rfl (by kernel_rfl)) fun A F => ?_
 refine Zs 1 (L10 s) sz_22 F H fun A w F H => ?_
 refine Nl kk (Sp fun _ kk => Av F fun A F => ?_)
 refine Zs 0 (L10 s) sz_24 F H fun A w F H => ?_
 refine Nl kk ?_
 refine Wr (ret1 F Tryz.results204 (res_row (i := 0) (xs := [uN (s.a ^^^ (s.d ^^^ s.b)), uN (s.b ^^^ (s.c ^^^ s.a)), uN ((s.c ^^^ s.a) ^^^ (s.b <<< 17)), uN (Xo.rotl (s.d ^^^ s.b) 45)]) rw_24 F H rfl rfl rfl rfl) (An ?_ H.below))
 rfl
open Sx in
theorem xright_c (s : St) (w0 : World) : Calls Tryz.prog 203 #[(L8 s)] w0 fun e w' => e = .returned (.bool (Xj.right s)) ∧ Below w0.heap.size w0 w' := by
 refine En Tryz.func203 Tryz.ntmps203 fun A F => ?_
 have H := Sx.Own.start w0
 refine Sp fun _ kk => Zb F (d_box F H rfl rfl [uN s.a, uN s.b, uN s.c, uN s.d] rfl) fun g1 A w F H => ?_
 refine Av F fun A F => ?_
 refine Nl kk (Sp fun _ kk => Av F fun A F => ?_)
 refine Zv F (d_build (qs := #[]) (v := .agg #[iU 0, iU 0, iU 0, iU 0]) F rfl rfl (by kernel_rfl)) fun A F => ?_
 refine Zv F (Bn (.bool (!(Sx.eqb4 s.a s.b s.c s.d 0#64 0#64 0#64 0#64))) F rfl rfl rfl (i_neX (a := s.a) (b := s.b) (c := s.c) (d := s.d) (e := 0#64) (f := 0#64) (g := 0#64) (h := 0#64) rfl)) fun A F => ?_
 refine Av F fun A F => ?_
 refine Nl kk ?_
 refine Wr (ret1 F Tryz.results203 (res_tmp F rfl) (An ?_ H.below))
 rfl
open Sx in
theorem xadd_c (s t : St) (w0 : World) : Calls Tryz.prog 211 #[(L8 s), (L8 t)] w0 fun e w' => e = .returned (.agg #[iU ((Xo.add s t).a.toNat), iU ((Xo.add s t).b.toNat), iU ((Xo.add s t).c.toNat), iU ((Xo.add s t).d.toNat)]) ∧ Below w0.heap.size w0 w' := by
 refine En Tryz.func211 Tryz.ntmps211 fun A F => ?_
 have H := Sx.Own.start w0
 refine Sp fun _ kk => Zb F (d_box F H rfl rfl [uN s.a, uN s.b, uN s.c, uN s.d] rfl) fun g1 A w F H => ?_
 refine Zb F (d_box F H rfl rfl [uN t.a, uN t.b, uN t.c, uN t.d] rfl) fun g2 A w F H => ?_
 refine Zb F (d_alloc H rfl [iU 0, iU 0, iU 0, iU 0] zero_24) fun g3 A w F H => ?_
 refine Nl kk (Sx.seq fun K2 hK2 => Sp fun _ kk => ?_)
 iterate 2 (refine Av F ?_; intro A F)
 refine Nl kk (wp_block (wp_loop_rounds 5 ?_))
 refine Rs ?_
 refine Sp fun _ kk => Av F fun A F => ?_
 refine Nl kk (Sx.seq fun K5 hK5 => condT F rfl (wp_skip (hK5 _ _ (Sx.seq fun K6 hK6 => wp_block (Sp fun _ kk => Av F fun A F => ?_)))))
 refine Zv F (d_index (v := uN t.a) F rfl rfl rfl (by kernel_rfl)) fun A F => ?_
 iterate 2 (refine Av F ?_; intro A F)
 refine Nl kk (Sx.plain ?_)
 refine Av F fun A F => ?_
 refine Zv F (d_iaddr (v := pT g1 0) F rfl rfl rfl (by kernel_rfl)) fun A F => ?_
 iterate 2 (refine Av F ?_; intro A F)
 refine Zv F (Bn (uN (s.a ^^^ t.a)) F rfl rfl rfl (i_xor64 s.a t.a)) fun A F => ?_
 refine Zv F (d_iaddr (v := pT g1 0) F rfl rfl rfl (by kernel_rfl)) fun A F => ?_
 refine Zs 2 [uN (s.a ^^^ t.a), uN s.b, uN s.c, uN s.d] sz_22 F H fun A w F H => ?_
 refine Sx.nil (hK6 _ _ (Sx.plain ?_))
 refine Zv F (Bn (iI 1) F rfl rfl rfl (i_addS (by decide))) fun A F => ?_
 refine Av F fun A F => ?_
 refine Sx.nil (Rs ?_)
 refine Sp fun _ kk => Av F fun A F => ?_
 refine Nl kk (Sx.seq fun K9 hK9 => condT F rfl (wp_skip (hK9 _ _ (Sx.seq fun K10 hK10 => wp_block (Sp fun _ kk => Av F fun A F => ?_)))))
 refine Zv F (d_index (v := uN t.b) F rfl rfl rfl (by kernel_rfl)) fun A F => ?_
 iterate 2 (refine Av F ?_; intro A F)
 refine Nl kk (Sx.plain ?_)
 refine Av F fun A F => ?_
 refine Zv F (d_iaddr (v := pT g1 1) F rfl rfl rfl (by kernel_rfl)) fun A F => ?_
 iterate 2 (refine Av F ?_; intro A F)
 refine Zv F (Bn (uN (s.b ^^^ t.b)) F rfl rfl rfl (i_xor64 s.b t.b)) fun A F => ?_
 refine Zv F (d_iaddr (v := pT g1 1) F rfl rfl rfl (by kernel_rfl)) fun A F => ?_
 refine Zs 2 [uN (s.a ^^^ t.a), uN (s.b ^^^ t.b), uN s.c, uN s.d] sz_22 F H fun A w F H => ?_
 refine Sx.nil (hK10 _ _ (Sx.plain ?_))
 refine Zv F (Bn (iI 2) F rfl rfl rfl (i_addS (by decide))) fun A F => ?_
 refine Av F fun A F => ?_
 refine Sx.nil (Rs ?_)
 refine Sp fun _ kk => Av F fun A F => ?_
 refine Nl kk (Sx.seq fun K13 hK13 => condT F rfl (wp_skip (hK13 _ _ (Sx.seq fun K14 hK14 => wp_block (Sp fun _ kk => Av F fun A F => ?_)))))
 refine Zv F (d_index (v := uN t.c) F rfl rfl rfl (by kernel_rfl)) fun A F => ?_
 iterate 2 (refine Av F ?_; intro A F)
 refine Nl kk (Sx.plain ?_)
 refine Av F fun A F => ?_
 refine Zv F (d_iaddr (v := pT g1 2) F rfl rfl rfl (by kernel_rfl)) fun A F => ?_
 iterate 2 (refine Av F ?_; intro A F)
 refine Zv F (Bn (uN (s.c ^^^ t.c)) F rfl rfl rfl (i_xor64 s.c t.c)) fun A F => ?_
 refine Zv F (d_iaddr (v := pT g1 2) F rfl rfl rfl (by kernel_rfl)) fun A F => ?_
 refine Zs 2 [uN (s.a ^^^ t.a), uN (s.b ^^^ t.b), uN (s.c ^^^ t.c), uN s.d] sz_22 F H fun A w F H => ?_
 refine Sx.nil (hK14 _ _ (Sx.plain ?_))
 refine Zv F (Bn (iI 3) F rfl rfl rfl (i_addS (by decide))) fun A F => ?_
 refine Av F fun A F => ?_
 refine Sx.nil (Rs ?_)
 refine Sp fun _ kk => Av F fun A F => ?_
 refine Nl kk (Sx.seq fun K17 hK17 => condT F rfl (wp_skip (hK17 _ _ (Sx.seq fun K18 hK18 => wp_block (Sp fun _ kk => Av F fun A F => ?_)))))
 refine Zv F (d_index (v := uN t.d) F rfl rfl rfl (by kernel_rfl)) fun A F => ?_
 iterate 2 (refine Av F ?_; intro A F)
 refine Nl kk (Sx.plain ?_)
 refine Av F fun A F => ?_
 refine Zv F (d_iaddr (v := pT g1 3) F rfl rfl rfl (by kernel_rfl)) fun A F => ?_
 iterate 2 (refine Av F ?_; intro A F)
 refine Zv F (Bn (uN (s.d ^^^ t.d)) F rfl rfl rfl (i_xor64 s.d t.d)) fun A F => ?_
 refine Zv F (d_iaddr (v := pT g1 3) F rfl rfl rfl (by kernel_rfl)) fun A F => ?_
 refine Zs 2 [uN (s.a ^^^ t.a), uN (s.b ^^^ t.b), uN (s.c ^^^ t.c), uN (s.d ^^^ t.d)] sz_22 F H fun A w F H => ?_
 refine Sx.nil (hK18 _ _ (Sx.plain ?_))
 refine Zv F (Bn (iI 4) F rfl rfl rfl (i_addS (by decide))) fun A F => ?_
 refine Av F fun A F => ?_
 refine Sx.nil (Rs ?_)
 refine Sp fun _ kk => Av F fun A F => ?_
 refine Nl kk (Sx.seq fun K21 hK21 => condF F rfl (wp_exit ?_))
 try dsimp only [Exit.then, Exit.jump, Exit.noGoto]
 refine exit_here (hK2 _ _ (Sp fun _ kk => Av F fun A F => ?_))
 refine Zs 0 [uN (s.a ^^^ t.a), uN (s.b ^^^ t.b), uN (s.c ^^^ t.c), uN (s.d ^^^ t.d)] sz_24 F H fun A w F H => ?_
 refine Nl kk ?_
 refine Wr (ret1 F Tryz.results211 (res_row (i := 0) (xs := [uN (s.a ^^^ t.a), uN (s.b ^^^ t.b), uN (s.c ^^^ t.c), uN (s.d ^^^ t.d)]) rw_24 F H rfl rfl rfl rfl) (An ?_ H.below))
 rfl
open Sx in
theorem xsteps_c (g : Nat) (w0 : World) : Calls Tryz.prog 226 #[pT g 0] w0 fun e w' => ∃ g1, e = .returned (.func (.func 235) #[] #[pT g1 0]) ∧ Sx.Own w0 w' [(true, g1, [pT g 0])] [] := by
 refine En Tryz.func226 Tryz.ntmps226 fun A F => ?_
 have H := Sx.Own.start w0
 refine Sp fun _ kk => Zb F (d_box F H rfl rfl [pT g 0] rfl) fun g1 A w F H => ?_
 refine Av F fun A F => ?_
 refine Nl kk (Sp fun _ kk => Zv F (d_mkFunc (fv := []) (cv := [pT g1 0]) F rfl rfl rfl) fun A F => ?_)
 refine Av F fun A F => ?_
 refine Nl kk (Wr (ret1 F Tryz.results226 (res_tmp F rfl) ?_))
 exact ⟨_, rfl, H⟩
abbrev L11 (x0 : St) : List Value := [iU ((Xo.step x0).a.toNat), iU ((Xo.step x0).b.toNat), iU ((Xo.step x0).c.toNat), iU ((Xo.step x0).d.toNat)]
open Sx in
theorem xsteps1_c (gp gs : Nat) (s : St) (w0 w : World) (bs : List Bx) (rs : List Rx) {K : Nat → Option Obj}  (H : Sx.Own w0 w ((true, gp, [pT gs 0]) :: (true, gs, [uN s.a, uN s.b, uN s.c, uN s.d]) :: bs) (rs) K) : Calls Tryz.prog 235 #[pT gp 0] w fun e w' => e = .returned (L8 s) ∧ ∃ _v : Value, Sx.Own w0 w' ((true, gp, [pT gs 0]) :: (true, gs, (L11 s)) :: bs) rs K := by
 refine En Tryz.func235 Tryz.ntmps235 fun A F => ?_
 refine Sp fun _ kk => Zb F (d_alloc H rfl [iU 0, iU 0, iU 0, iU 0] zero_24) fun g1 A w F H => ?_
 refine Nl kk (Sp fun _ kk => ?_)
 iterate 3 (refine Av F ?_; intro A F)
 refine Zb F (d_alloc H rfl [iU 0, iU 0, iU 0, iU 0] zero_24) fun g2 A w F H => ?_
 refine Zs 0 [uN s.a, uN s.b, uN s.c, uN s.d] sz_24 F H fun A w F H => ?_
 refine Nl kk (Sx.seq fun K3 hK3 => ?_)
 have F := F.tq [(0, pT gp 0), (1, pT g1 0), (3, pT gs 0), (4, pT gs 0), (5, (L8 s)), (2, pT g2 0)] rfl
 refine Dn F [some (pT gs 0), some (L8 s), some (L9 s), some (pT gs 0), none] (fun L A w => Sx.Own w0 w ((true, g2, [uN s.a, uN s.b, uN s.c, uN s.d]) :: (true, g1, [iU 0, iU 0, iU 0, iU 0]) :: (true, gp, [pT gs 0]) :: (true, gs, (cond (L 4) (L11 s) [uN s.a, uN s.b, uN s.c, uN s.d])) :: bs) (rs) K) H.drew ?_ ?_
 ·refine ⟨?_, ?_, ?_, ?_, ?_, trivial⟩
  ·exact SV (fun _ _ _ F H => Ld 2 one_299 F H)
  ·exact SV (fun _ _ _ F H => Lr 0 [uN s.a, uN s.b, uN s.c, uN s.d] rw_24 F H)
  ·intro L A w up hun hd F H
   have f4 : L 4 = false := up 4 2 rfl hun
   rw [f4] at H
   refine step_on rfl (Dc if_204 F H (xstep_c s _)) ?_
   rintro xv w' ⟨hx, H⟩
   exact ⟨Cs hx, (by show Sx.Own _ _ _ _ _; rw [show Inv.add L 2 4 = false from f4]; exact H)⟩
  ·exact Sa
  ·intro L A w up hun hd F H
   have f4 : L 4 = false := hun
   rw [f4] at H
   refine step_on rfl (d_store (i := 3) (xs := (L11 s)) (us := (L11 s)) sz_24 F H rfl rfl rfl rfl rfl rfl rfl (Nat.le_of_ble_eq_true rfl) rfl) ?_
   intro xv w' H
   exact ⟨Cn, H⟩
 ·intro L A w hL F H
  have t4 : L 4 = true := hL 4 rfl
  rw [t4] at H
  have F := F.tq [(1, pT g1 0), (2, pT g2 0)] rfl
  refine hK3 _ _ (Sp fun _ kk => Av F fun A F => ?_)
  refine Zs 1 [uN s.a, uN s.b, uN s.c, uN s.d] sz_24 F H fun A w F H => ?_
  refine Nl kk (Wr (ret1 F Tryz.results235 (res_row (i := 1) (xs := [uN s.a, uN s.b, uN s.c, uN s.d]) rw_24 F H rfl rfl rfl rfl) ?_))
  exact ⟨rfl, undef, H.tailB.tailB⟩
abbrev L12 (x0 : Nat) (x1 : St) : List Value := [iU ((Xo.it x0 x1).a.toNat), iU ((Xo.it x0 x1).b.toNat), iU ((Xo.it x0 x1).c.toNat), iU ((Xo.it x0 x1).d.toNat)]
abbrev L13 (x0 : Nat) (x1 : St) : List Value := [iU ((Xo.step (Xo.it x0 x1)).a.toNat), iU ((Xo.step (Xo.it x0 x1)).b.toNat), iU ((Xo.step (Xo.it x0 x1)).c.toNat), iU ((Xo.step (Xo.it x0 x1)).d.toNat)]
open Sx in
theorem xbits_c (s : St) (n : Nat) (hn : n ≤ 2000) (w0 : World) : Calls Tryz.prog 218 #[(L8 s), iI n] w0 fun e w' => ∃ v, e = .returned (.tuple #[v, iI 0]) ∧ w'.ownsRow w0.heap.size 4 1 v n (Xj.bools s n) ∧ Below w0.heap.size w0 w' := by
 refine En Tryz.func218 Tryz.ntmps218 fun A F => ?_
 have H := Sx.Own.start w0
 refine Sp fun _ kk => Zb F (d_box F H rfl rfl [uN s.a, uN s.b, uN s.c, uN s.d] rfl) fun g1 A w F H => ?_
 iterate 2 (refine Av F ?_; intro A F)
 refine Nl kk (Sx.seq fun K2 hK2 => Sp fun _ kk => Av F fun A F => ?_)
 refine Zv F (Bn bF F rfl rfl rfl (i_lt (decide_eq_false (by omega)))) fun A F => ?_
 iterate 2 (refine Av F ?_; intro A F)
 refine Zv F (Bn bF F rfl rfl rfl (i_gt (decide_eq_false (by omega)))) fun A F => ?_
 refine Av F fun A F => ?_
 refine Nl kk (condF F rfl (wp_skip (hK2 _ _ (Sp fun _ kk => Av F fun A F => ?_))))
 refine Nl kk (Sp fun _ kk => Zg (mk := fun g => .func (.func 235) #[] #[pT g 0]) F (d_callO (vs := [pT g1 0]) if_226 F rfl rfl (Sx.bb (mk := fun g => .func (.func 235) #[] #[pT g 0]) H (xsteps_c g1 _))) fun g2 A w F H => ?_)
 refine Av F fun A F => ?_
 refine Nl kk (Sx.seq fun K6 hK6 => Sp fun _ kk => ?_)
 iterate 2 (refine Av F ?_; intro A F)
 refine Nl kk (wp_block ?_)
 have H := Sx.Own.nilR H 4 1
 refine loop (fun q A w => ∃ (i : Nat) (u : Value), q = n - i ∧ i ≤ n ∧ Fr 28 A [(2, pT g1 0), (7, .func (.func 235) #[] #[pT g2 0]), (15, iI n), (6, u), (16, iI i)] ∧ Sx.Own w0 w [(true, g1, (L12 i s)), (true, g2, [pT g1 0])] [⟨true, u, 4, 1, i, (Xj.bools s i)⟩]) (n - 0) ⟨0, (nS), rfl, Nat.zero_le _, F.to ⟨rfl, rfl, rfl, rfl, rfl, trivial⟩, H.to' [1, 0] [0] (by decide) (by decide) rfl rfl⟩ ?_
 rintro q A w ⟨i, u, rfl, hi_i, F, H⟩
 by_cases hlt_i : i < n
 ·skip
  refine Sp fun _ kk => Zv F (Bn bT F rfl rfl rfl (i_lt (decide_eq_true (by omega)))) fun A F => ?_
  refine Nl kk (Sx.seq fun K9 hK9 => condT F rfl (wp_skip (hK9 _ _ (Sx.seq fun K10 hK10 => wp_block (Sx.plain ?_)))))
  iterate 2 (refine Av F ?_; intro A F)
  have H : Sx.Own w0 w [(true, g2, [pT g1 0]), (true, g1, (L12 i s))] [⟨true, u, 4, 1, i, (Xj.bools s i)⟩] := H.to' [1, 0] [0] (by decide) (by decide) rfl rfl
  refine Sx.so (x := .agg #[iU ((Xo.it i s).a.toNat), iU ((Xo.it i s).b.toNat), iU ((Xo.it i s).c.toNat), iU ((Xo.it i s).d.toNat)]) F (d_callCO (fv := []) (vs := []) (cv := [pT g2 0]) if_235 F rfl rfl rfl (Sx.oo (xsteps1_c g2 g1 (Xo.it i s) _ _ _ _ H))) (wanted_none rfl _) rfl (by decide) (fun v1 A w F (H : Sx.Own w0 _ [(true, g2, [pT g1 0]), (true, g1, (L13 i s))] [⟨true, u, 4, 1, i, (Xj.bools s i)⟩]) => ?_)
  refine Zv F (d_index (v := iU ((Xo.it i s).a.toNat)) F rfl rfl rfl (by kernel_rfl)) fun A F => ?_
  refine Zv F (Bn (uN (((Xo.it i s).a) &&& 1#64)) F rfl rfl rfl (i_and64 ((Xo.it i s).a) 1#64)) fun A F => ?_
  refine Zv F (Bn (.bool (((((Xo.it i s).a) &&& 1#64).toNat : Int) == 1)) F rfl rfl rfl (i_eq rfl)) fun A F => ?_
  refine Zg (mk := fun g => sL g 0 1 1) F (d_lit (qs := #[(0, .bool (((((Xo.it i s).a) &&& 1#64).toNat : Int) == 1))]) (cs := #[.bool (((((Xo.it i s).a) &&& 1#64).toNat : Int) == 1)]) (E := 4) F H rfl rfl (fun _ => by kernel_rfl)) fun g3 A w F H => ?_
  refine Zr (mk := fun v => v) F (d_append (i := 0) (j := 0) el_285 F H rfl rfl rfl rfl rfl rfl rfl rfl (by omega) (by decide)) fun v2 A w F H => ?_
  refine Av F fun A F => ?_
  refine Sx.nil (hK10 _ _ (Sx.plain ?_))
  refine Zv F (Bn (iI (i + 1 : Nat)) F rfl rfl rfl (i_addN rfl (in_i64 _ (by omega)))) fun A F => ?_
  refine Av F fun A F => ?_
  refine Sx.nil ?_
  try dsimp only [Exit.then, Exit.noGoto]
  rw [show (Xj.bools s i ++ [Value.bool ((((Xo.it i s).a &&& 1#64).toNat : Int) == 1)]) = Xj.bools s (i + 1) from (Xj.bools_succ s i).symm] at H
  exact ⟨n - (i + 1), by omega, i + 1, v2, rfl, by omega, F.to ⟨rfl, rfl, rfl, rfl, rfl, trivial⟩, H.to' [2, 1] [0] (by decide) (by decide) rfl rfl⟩
 ·have hie_i : n = i := by omega
  subst hie_i
  refine Sp fun _ kk => Zv F (Bn bF F rfl rfl rfl (i_lt (by simp))) fun A F => ?_
  refine Nl kk (Sx.seq fun K12 hK12 => condF F rfl (wp_exit ?_))
  try dsimp only [Exit.then, Exit.jump, Exit.noGoto]
  refine exit_here (hK6 _ _ (Sp fun _ kk => ?_))
  iterate 3 (refine Av F ?_; intro A F)
  refine Nl kk (Wr (ret2 F Tryz.results218 (res_tmp F rfl) (res_tmp F rfl) ?_))
  exact ⟨_, rfl, H.row 0 _ rfl rfl, H.below⟩
namespace Dv
def num (r lo : BitVec 64) : Nat := r.toNat * 18446744073709551616 + lo.toNat
def q (r lo : BitVec 64) : BitVec 64 := BitVec.ofNat 64 (num r lo / 10)
def m (r lo : BitVec 64) : BitVec 64 := BitVec.ofNat 64 (num r lo % 10)
theorem zero (r lo : BitVec 64) (h : r.toNat = 0) : lo / 10#64 = q r lo ∧ lo % 10#64 = m r lo := by
  have hl := lo.isLt
  have e : num r lo = lo.toNat := by unfold num; rw [h]; omega
  constructor
  · apply BitVec.eq_of_toNat_eq; rw [BitVec.toNat_udiv, show (10#64).toNat = 10 from rfl, q, BitVec.toNat_ofNat, e]; omega
  · apply BitVec.eq_of_toNat_eq; rw [BitVec.toNat_umod, show (10#64).toNat = 10 from rfl, m, BitVec.toNat_ofNat, e]; omega
end Dv
namespace Wd
end Wd
open Sx in
theorem wlen_c (da : BitVec 128) (w0 : World) : Calls Tryz.prog 136 #[.agg #[uH da, uL da]] w0 fun e w' => e = .returned (iI (Bi.len da)) ∧ Below w0.heap.size w0 w' := by
 refine En Tryz.func136 Tryz.ntmps136 fun A F => ?_
 have H := Sx.Own.start w0
 refine Sp fun _ kk => Zb F (d_box F H rfl rfl [uH da, uL da] rfl) fun g1 A w F H => ?_
 refine Av F fun A F => ?_
 refine Nl kk ?_
 by_cases he : 0 < (Wd.hi da).toNat
 ·skip
  refine Sx.seq fun K2 hK2 => Sp fun _ kk => ?_
  iterate 2 (refine Av F ?_; intro A F)
  refine Zv F (Bn bT F rfl rfl rfl (i_gt (decide_eq_true (by omega)))) fun A F => ?_
  refine Nl kk (condT F rfl (Sp fun _ kk => ?_))
  iterate 2 (refine Av F ?_; intro A F)
  refine Zw F (Dc if_156 F H (blen_c (Wd.hi da) _)) fun A w F H => ?_
  refine Zv F (Bn (iI (64 + Ln.len64 (Wd.hi da) : Nat)) F rfl rfl rfl (i_addN rfl (in_i64 _ (by have := Ln.len64_le (Wd.hi da); omega)))) fun A F => ?_
  refine Av F fun A F => ?_
  refine Nl kk (wp_ret ?_)
  try dsimp only [Exit.then, Exit.inBlock, Exit.jump]
  refine ret1 F Tryz.results136 (res_tmp F rfl) ⟨?_, H.below⟩
  rw [Ln.len_big da he]
 ·skip
  refine Sx.seq fun K5 hK5 => Sp fun _ kk => ?_
  iterate 2 (refine Av F ?_; intro A F)
  refine Zv F (Bn bF F rfl rfl rfl (i_gt (decide_eq_false (by omega)))) fun A F => ?_
  refine Nl kk (condF F rfl (wp_skip (hK5 _ _ (Sp fun _ kk => ?_))))
  iterate 2 (refine Av F ?_; intro A F)
  refine Zw F (Dc if_156 F H (blen_c (Wd.lo da) _)) fun A w F H => ?_
  refine Av F fun A F => ?_
  refine Nl kk (wp_ret ?_)
  try dsimp only [Exit.then, Exit.inBlock, Exit.jump]
  refine ret1 F Tryz.results136 (res_tmp F rfl) ⟨?_, H.below⟩
  rw [Ln.len_small da (by omega)]
open Sx in
theorem grounds_c (x : BitVec 128) (w0 : World) : Calls Tryz.prog 231 #[.agg #[uH x, uL x]] w0 fun e w' => e = .returned (iI (Bi.len x)) ∧ Below w0.heap.size w0 w' := by
 refine En Tryz.func231 Tryz.ntmps231 fun A F => ?_
 have H := Sx.Own.start w0
 refine Sp fun _ kk => Zb F (d_box F H rfl rfl [uH x, uL x] rfl) fun g1 A w F H => ?_
 refine Av F fun A F => ?_
 refine Nl kk (Sp fun _ kk => Av F fun A F => ?_)
 refine Zw F (Dc if_136 F H (wlen_c x _)) fun A w F H => ?_
 refine Av F fun A F => ?_
 refine Nl kk ?_
 refine Wr (ret1 F Tryz.results231 (res_tmp F rfl) (An ?_ H.below))
 rfl
open Sx in
theorem gbits_c (x : BitVec 128) (w0 : World) : Calls Tryz.prog 222 #[.agg #[uH x, uL x]] w0 fun e w' => ∃ g, e = .returned (.func (.func 230) #[] #[pT g 0]) ∧ Sx.Own w0 w' [(true, g, [uH x, uL x])] [] := by
 refine En Tryz.func222 Tryz.ntmps222 fun A F => ?_
 have H := Sx.Own.start w0
 refine Sp fun _ kk => Zb F (d_box F H rfl rfl [uH x, uL x] rfl) fun g1 A w F H => ?_
 refine Av F fun A F => ?_
 refine Nl kk (Sp fun _ kk => Zv F (d_mkFunc (fv := []) (cv := [pT g1 0]) F rfl rfl rfl) fun A F => ?_)
 refine Av F fun A F => ?_
 refine Nl kk (Wr (ret1 F Tryz.results222 (res_tmp F rfl) ?_))
 exact ⟨_, rfl, H⟩
def Gf.KpB (nb : Nat) (W W' : World) : Prop := W'.cell? ⟨nb, 0, none⟩ = W.cell? ⟨nb, 0, none⟩ ∧ W'.cell? ⟨nb, 0 + 1, none⟩ = W.cell? ⟨nb, 0 + 1, none⟩ ∧ W.heap.size ≤ W'.heap.size
open Sx in
theorem gbits_stops (nb : Nat) (x : BitVec 128) (w : World) (hc0 : w.cell? ⟨nb, 0, none⟩ = some (uH x)) (hc1 : w.cell? ⟨nb, 0 + 1, none⟩ = some (uL x)) (d : Nat) : SeqStopsK (Sx.wideAt none) d Tryz.prog 230 #[pT nb 0] (fun b : Bool => #[iI (b.toNat : Nat)]) (Gf.KpB nb) (fun xs => xs = Gf.tb x.getLsbD (Bi.len x) (Bi.len x)) (fun _ => True) (Bi.len x) w := by
 intro l J Jx W hW hJ hJx hY h0
 refine callsIn_wide.2 ?_
 have e0 : (#[.func (.yield l) #[] #[]] ++ #[pT nb 0] : Array Value) = [.func (.yield l) #[] #[], pT nb 0].toArray := rfl
 rw [e0]
 have c0 := keep_cell hW _ _ hc0
 have c1 := keep_cell hW _ _ hc1
 refine En Tryz.func230 Tryz.ntmps230 fun A F => ?_
 obtain ⟨w0, hw0⟩ : ∃ q, W = q := ⟨_, rfl⟩
 rw [hw0] at c0 c1 h0 hJ ⊢
 have H := Sx.Own.start w0
 have hln := Bi.len_le x
 refine Sp fun _ kk => Zv F (d_loadF2 rw_26 F H rfl rfl c0 c1) fun A F => ?_
 refine Zw F (Dc if_231 F H (grounds_c x _)) fun A w F H => ?_
 refine Zv F (Bn (iI (((Bi.len x) : Int) - 1)) F rfl rfl rfl (i_subS (in64 _ (by omega)))) fun A F => ?_
 refine Av F fun A F => ?_
 refine Nl kk ?_
 have c0 := keep_cell H.below _ _ c0
 have c1 := keep_cell H.below _ _ c1
 have h0 := hJ _ _ _ none h0 (Sx.grown_of_below H.below) (fun r e => by cases e)
 have hbase := H.below.size
 clear H hW
 refine wp_block (loop (fun q A w => ∃ (m : Nat), q = m ∧ m ≤ Bi.len x ∧ w0.heap.size ≤ w.heap.size ∧ J (Gf.tb x.getLsbD (Bi.len x) (Bi.len x - m)) w ∧ w.cell? ⟨nb, 0, none⟩ = some (uH x) ∧ w.cell? ⟨nb, 0 + 1, none⟩ = some (uL x) ∧ Fr 17 A [(0, .func (.yield l) #[] #[]), (1, pT nb 0), (3, iI ((m : Int) - 1))]) (Bi.len x) ⟨Bi.len x, rfl, Nat.le_refl _, hbase, by rw [Nat.sub_self]; exact h0, c0, c1, F.to ⟨rfl, rfl, rfl, trivial⟩⟩ ?_)
 clear c0 c1 h0 F hbase
 rintro q A w1 ⟨m, rfl, hm, hsz, hJs, c0, c1, F⟩
 have H := Sx.Own.start w1
 by_cases hm0 : q = 0
 ·subst hm0
  refine Sx.seq fun K1 hK1 => Sp fun _ kk => ?_
  iterate 2 (refine Av F ?_; intro A F)
  refine Nl kk (condF F rfl (wp_exit ?_))
  try dsimp only [Exit.then, Exit.jump, Exit.noGoto]
  refine exit_here ?_
  refine Sx.end0 F Tryz.results230 ⟨⟨_, rfl⟩, .inl ⟨_, rfl, ?_⟩⟩
  rw [Nat.sub_zero] at hJs; exact hJs
 ·obtain ⟨m, rfl⟩ : ∃ m, q = m + 1 := ⟨q - 1, by omega⟩
  have em : (((m + 1 : Nat) : Int) - 1) = (m : Int) := by omega
  rw [em] at F
  refine Sx.seq fun K2 hK2 => Sp fun _ kk => Av F fun A F => ?_
  refine Zv F (Bn bT F rfl rfl rfl (i_ge (decide_eq_true (by omega)))) fun A F => ?_
  refine Nl kk (condT F rfl (wp_skip (hK2 _ _ (Sx.seq fun K4 hK4 => wp_block (Sx.seq fun K5 hK5 => (wpIn_wide (n := d)).1 ?_)))))
  show Code.wpIn (Sx.wideAt none) _ _ _ _ _ _
  refine wpIn_region_lit ?_
  refine Sx.svI F (d_move F (Or.inl rfl) rfl) (wanted_none rfl _) rfl (by decide) rfl (fun A F => ?_)
  refine Sx.svI F (d_loadF2 rw_26 F H rfl rfl c0 c1) (wanted_none rfl _) rfl (by decide) rfl (fun A F => ?_)
  refine Sx.svI F (d_move F (Or.inl rfl) rfl) (wanted_none rfl _) rfl (by decide) rfl (fun A F => ?_)
  refine Sx.swI F (d_call (vs := [.agg #[uH x, uL x], iI m]) (v := iI (Wd.bit x m)) if_232 F H rfl rfl (wbit_c x m (by omega) _)) (wanted_none rfl _) rfl (by decide) rfl (fun A w2 F H => ?_)
  have hJ2 : J (Gf.tb x.getLsbD (Bi.len x) (Bi.len x - (m + 1))) w2 := hJ _ _ _ none hJs (Sx.grown_of_below H.below) (fun r e => by cases e)
  have c0 := keep_cell H.below _ _ c0
  have c1 := keep_cell H.below _ _ c1
  have hsz2 := H.below.size
  have hy := hY _ (x.getLsbD m) _ hJ2 (by rw [Gf.tb_len]; omega)
  refine Sx.yieldI (vs := [iI (Wd.bit x m : Nat)]) (R := fun v W' => (v = bT ∧ J (Gf.tb x.getLsbD (Bi.len x) (Bi.len x - (m + 1)) ++ [x.getLsbD m]) W' ∧ Gf.KpB nb w2 W') ∨ (v = bF ∧ Jx (Gf.tb x.getLsbD (Bi.len x) (Bi.len x - (m + 1)) ++ [x.getLsbD m]) W')) F rfl rfl rfl (hy.mono ?_) (wanted_none rfl _) rfl (by decide) ?_
  ·rintro e w' (⟨rfl, h1, h2⟩ | ⟨rfl, h1⟩)
   ·exact ⟨_, rfl, .inl ⟨rfl, h1, h2⟩⟩
   ·exact ⟨_, rfl, .inr ⟨rfl, h1⟩⟩
  rintro v A w3 F hR
  have htb : Gf.tb x.getLsbD (Bi.len x) (Bi.len x - (m + 1)) ++ [x.getLsbD m] = Gf.tb x.getLsbD (Bi.len x) (Bi.len x - m) := by rw [show Bi.len x - m = (Bi.len x - (m + 1)) + 1 from by omega]; show _ = _ ++ [x.getLsbD (Bi.len x - 1 - (Bi.len x - (m + 1)))]; rw [show Bi.len x - 1 - (Bi.len x - (m + 1)) = m from by omega]
  rw [htb] at hR
  rcases hR with ⟨rfl, hJ3, hk⟩ | ⟨rfl, hJ3⟩
  ·have H := Sx.Own.start w3
   refine Sx.svI F (d_un (v := bF) F rfl rfl rfl) (wanted_none rfl _) rfl (by decide) rfl (fun A F => ?_)
   refine wpListIn_nil ?_
   refine hK5 _ _ (condF F rfl (wp_skip (hK4 _ _ (Sx.plain ?_))))
   refine Av F fun A F => ?_
   refine Zv F (Bn (iI ((m : Int) - 1)) F rfl rfl rfl (i_subS (in64 _ (by omega)))) fun A F => ?_
   refine Av F fun A F => ?_
   refine Sx.nil ?_
   try dsimp only [Exit.then, Exit.noGoto]
   exact ⟨m, by omega, m, rfl, by omega, by have := hk.2.2; omega, hJ3, hk.1.trans c0, hk.2.1.trans c1, F.to ⟨rfl, rfl, rfl, trivial⟩⟩
  ·have H := Sx.Own.start w3
   refine Sx.svI F (d_un (v := bT) F rfl rfl rfl) (wanted_none rfl _) rfl (by decide) rfl (fun A F => ?_)
   refine wpListIn_nil ?_
   refine hK5 _ _ (condT F rfl (wp_ret ?_))
   try dsimp only [Exit.then, Exit.inBlock, Exit.jump, Exit.noGoto]
   exact ret0 F Tryz.results230 ⟨⟨_, rfl⟩, .inr ⟨_, trivial, hJ3⟩⟩
open Sx in
theorem gsq_1 (la : List (BitVec 64)) (ada : Option Addr) (capa : Nat) (lb : List (BitVec 64)) (adb : Option Addr) (capb : Nat) (hsa : la.length ≤ 10) (hsb : lb.length ≤ 10) (hq : Gf.val lb ≠ 0) (w0 : World) (hra : Gf.Rd w0 (.slice ada la.length capa) la) (hrb : Gf.Rd w0 (.slice adb lb.length capb) lb) : Calls Tryz.prog 223 #[.slice ada la.length capa, .slice adb lb.length capb] w0 fun e w' => ∃ v, e = .returned (v) ∧ w'.ownsRow w0.heap.size 22 1 v (Gf.ws (Gf.md (Gf.clm (Gf.val la) (Gf.val la)) (Gf.val lb))).length (Gf.cells (Gf.ws (Gf.md (Gf.clm (Gf.val la) (Gf.val la)) (Gf.val lb)))) ∧ Below w0.heap.size w0 w' := by
 have fewa := hra.few
 have fewb := hrb.few
 have hca := hra.at
 have hcb := hrb.at
 have hlm := Gf.lim_len (Gf.lim_clm (Gf.len_lim hsa) (Gf.len_lim hsa))
 refine En Tryz.func223 Tryz.ntmps223 fun A F => ?_
 have H := Sx.Own.start w0
 refine Sp fun _ kk => Av F fun A F => ?_
 refine Nl kk (Sp fun _ kk => Av F fun A F => ?_)
 refine Zr (mk := fun v => v) F (d_callR (vs := [.slice ada la.length capa]) (mk := fun v => v) if_233 F H rfl rfl (gsquare_c _ la (Gf.val la) rfl (by omega) _ ((hra).below H.below))) fun v1 A w F H => ?_
 refine Av F fun A F => ?_
 refine Zr (mk := fun v => .tuple #[v, iI 0]) F (d_callR (vs := [v1, .slice adb lb.length capb]) (mk := fun v => .tuple #[v, iI 0]) if_221 F H rfl rfl (gmod_c _ _ (Gf.ws (Gf.clm (Gf.val la) (Gf.val la))) lb (Gf.clm (Gf.val la) (Gf.val la)) (Gf.val lb) (Gf.val_ws _) rfl (by omega) (by omega) (hq) _ (Gf.Rd.row (H.row 0 _ rfl rfl) rfl rfl (by omega)) ((hrb).below H.below))) fun v2 A w F H => ?_
 iterate 5 (refine Av F ?_; intro A F)
 refine Nl kk (Sp fun _ kk => ?_)
 iterate 2 (refine Av F ?_; intro A F)
 refine Nl kk (Wr (ret1 F Tryz.results223 (res_tmp F rfl) ?_))
 exact ⟨_, rfl, H.row 0 _ rfl rfl, H.below⟩
theorem gsq_c  (va : Value) (vb : Value) (la : List (BitVec 64)) (lb : List (BitVec 64)) (Pa : Nat) (Pb : Nat) (hpa : Gf.val la = Pa) (hpb : Gf.val lb = Pb) (hsa : la.length ≤ 10) (hsb : lb.length ≤ 10) (hq : Pb ≠ 0) (w : World) (ha : Gf.Rd w va la) (hb : Gf.Rd w vb lb) : Calls Tryz.prog 223 #[va, vb] w fun e w' => ∃ v, e = .returned (v) ∧ w'.ownsRow w.heap.size 22 1 v (Gf.ws (Gf.md (Gf.clm Pa Pa) Pb)).length (Gf.cells (Gf.ws (Gf.md (Gf.clm Pa Pa) Pb))) ∧ Below w.heap.size w w' := by
 obtain ⟨ada, capa, rfl⟩ := ha.form
 subst hpa
 obtain ⟨adb, capb, rfl⟩ := hb.form
 subst hpb
 exact gsq_1  la ada capa lb adb capb hsa hsb hq w ha hb
open Sx in
theorem gpow_1 (la : List (BitVec 64)) (ada : Option Addr) (capa : Nat) (lc : List (BitVec 64)) (adc : Option Addr) (capc : Nat) (x : BitVec 128) (hsa : la.length ≤ 10) (hsc : lc.length ≤ 10) (hq : Gf.val lc ≠ 0) (w0 : World) (hra : Gf.Rd w0 (.slice ada la.length capa) la) (hrc : Gf.Rd w0 (.slice adc lc.length capc) lc) : Calls Tryz.prog 216 #[.slice ada la.length capa, .agg #[uH x, uL x], .slice adc lc.length capc] w0 fun e w' => ∃ v, e = .returned (.tuple #[v, iI 0]) ∧ w'.ownsRow w0.heap.size 22 1 v (Gf.ws (Gf.pw (Gf.val la) (Gf.val lc) x)).length (Gf.cells (Gf.ws (Gf.pw (Gf.val la) (Gf.val lc) x))) ∧ Below w0.heap.size w0 w' := by
 have fewa := hra.few
 have fewc := hrc.few
 have hca := hra.at
 have hcc := hrc.at
 have hlc : Gf.val lc < Gf.lim 10 := Gf.len_lim hsc
 have hla := Gf.lim_len (Gf.lim_md hq hlc (Gf.val la))
 have hl1 := Gf.lim_len (Gf.lim_md hq hlc (1 <<< 0))
 have hl0 := Gf.lim_len (Gf.lim_one (n := 0) (m := 1) (by decide))
 refine Sx.enterM (args := [.slice ada la.length capa, .agg #[uH x, uL x], .slice adc lc.length capc]) Tryz.func216 rfl Tryz.ntmps216 (Nat.le_of_ble_eq_true rfl) (fun A F => ?_)
 have H := Sx.Own.start w0
 refine Sp fun _ kk => Zb F (d_box F H rfl rfl [.slice ada la.length capa] rfl) fun g1 A w F H => ?_
 refine Zb F (d_box F H rfl rfl [uH x, uL x] rfl) fun g2 A w F H => ?_
 refine Zb F (d_box F H rfl rfl [.slice adc lc.length capc] rfl) fun g3 A w F H => ?_
 iterate 2 (refine Av F ?_; intro A F)
 refine Nl kk (Sp fun _ kk => ?_)
 iterate 2 (refine Av F ?_; intro A F)
 refine Zr (mk := fun v => .tuple #[v, iI 0]) F (d_callR (vs := [.slice ada la.length capa, .slice adc lc.length capc]) (mk := fun v => .tuple #[v, iI 0]) if_221 F H rfl rfl (gmod_c _ _ la lc (Gf.val la) (Gf.val lc) rfl rfl (by omega) (by omega) (hq) _ ((hra).below H.below) ((hrc).below H.below))) fun v1 A w F (H : Sx.Own w0 _ [(true, g3, [.slice adc lc.length capc]), (true, g2, [uH x, uL x]), (true, g1, [.slice ada la.length capa])] (L7 v1 la lc)) => ?_
 iterate 3 (refine Av F ?_; intro A F)
 refine Zt F (d_store (i := 2) (xs := [v1]) (us := [v1]) sz_274 F H rfl rfl rfl (by obtain ⟨_, _, hv0⟩ := Sx.len_of (k := (Gf.ws (Gf.md (Gf.val la) (Gf.val lc))).length) (v := v1) (rowEq (H.row 0 _ rfl rfl) rfl rfl rfl rfl rfl); rw [hv0]; rfl) rfl (by obtain ⟨_, _, hv0⟩ := Sx.len_of (k := (Gf.ws (Gf.md (Gf.val la) (Gf.val lc))).length) (v := v1) (rowEq (H.row 0 _ rfl rfl) rfl rfl rfl rfl rfl); rw [hv0]; rfl) rfl (Nat.le_of_ble_eq_true rfl) rfl) fun A w F (H : Sx.Own w0 _ [(true, g3, [.slice adc lc.length capc]), (true, g2, [uH x, uL x]), (true, g1, [v1])] (L7 v1 la lc)) => ?_
 refine Av F fun A F => ?_
 refine Nl kk (Sx.seq fun K3 hK3 => Sp fun _ kk => ?_)
 iterate 2 (refine Av F ?_; intro A F)
 refine Nl kk (condF F rfl (wp_skip (hK3 _ _ (Sx.seq fun K5 hK5 => ?_))))
 have F := F.tq [(0, .slice ada la.length capa), (1, .agg #[uH x, uL x]), (2, .slice adc lc.length capc), (3, pT g1 0), (4, pT g2 0), (5, pT g3 0), (6, nS), (7, iI 0), (13, .slice ada la.length capa), (14, .slice adc lc.length capc), (15, .tuple #[v1, iI 0]), (12, .tuple #[v1, iI 0]), (16, v1), (17, iI 0), (8, iI 0), (18, iI 0), (19, bF)] rfl
 refine Dn F [none, some (.slice adc lc.length capc), none, none, none, some (iI 0), none, none, some (iI 0)] (fun L A w => ∃ v2 : Value, ∃ v3 : Value, ∃ g4 : Nat, (L 0 = true → A.eval (.tmp 22) = v2) ∧ (L 2 = true → A.eval (.tmp 24) = .tuple #[v3, iI 0]) ∧ (L 3 = true → A.eval (.tmp 21) = .tuple #[v3, iI 0]) ∧ (L 4 = true → A.eval (.tmp 25) = v3) ∧ (L 6 = true → A.eval (.tmp 9) = pT g4 0) ∧ Sx.Own w0 w [(true, g3, [.slice adc lc.length capc]), (true, g2, [uH x, uL x]), (true, g1, [v1]), (L 6, g4, (cond (L 7) [v3] [nS]))] [⟨true, v1, 22, 1, (Gf.ws (Gf.md (Gf.val la) (Gf.val lc))).length, (Gf.cells (Gf.ws (Gf.md (Gf.val la) (Gf.val lc))))⟩, ⟨L 0, v2, 22, 1, (Gf.ws (1 <<< 0)).length, (Gf.cells (Gf.ws (1 <<< 0)))⟩, ⟨L 2, v3, 22, 1, (Gf.ws (Gf.md (1 <<< 0) (Gf.val lc))).length, (Gf.cells (Gf.ws (Gf.md (1 <<< 0) (Gf.val lc))))⟩]) ⟨undef, undef, 0, (fun h => by cases h), (fun h => by cases h), (fun h => by cases h), (fun h => by cases h), (fun h => by cases h), H.drew.pad [(false, 0, [nS])] rfl [⟨false, undef, 22, 1, (Gf.ws (1 <<< 0)).length, (Gf.cells (Gf.ws (1 <<< 0)))⟩, ⟨false, undef, 22, 1, (Gf.ws (Gf.md (1 <<< 0) (Gf.val lc))).length, (Gf.cells (Gf.ws (Gf.md (1 <<< 0) (Gf.val lc))))⟩] rfl⟩ ?_ ?_
 ·refine ⟨?_, ?_, ?_, ?_, ?_, ?_, ?_, ?_, ?_, trivial⟩
  ·intro L A w up hun hd F ⟨v2, v3, g4, p0, p2, p3, p4, p6, H⟩
   have f0 : L 0 = false := hun
   have f2 : L 2 = false := up 2 0 rfl hun
   have f3 : L 3 = false := up 3 2 rfl f2
   have f4 : L 4 = false := up 4 3 rfl f3
   have f7 : L 7 = false := up 7 0 rfl hun
   rw [f0, f2, f7] at H
   refine step_on rfl (d_callR_at 1 (vs := [iI 0]) (mk := fun v => v) if_217 F H rfl rfl (gx_c 0 (by omega) _)) ?_
   rintro xv w' ⟨v', hx, H⟩
   exact ⟨Cn, ⟨v', v3, g4, (fun _ => (Sx.put_same F (by decide) _).trans hx), Nf f2, Nf f3, Nf f4, Pk p6, (by show Sx.Own _ _ _ _; rw [show Inv.add L 0 2 = false from f2, show Inv.add L 0 7 = false from f7]; exact H)⟩⟩
  ·intro L A w up hun hd F ⟨v2, v3, g4, p0, p2, p3, p4, p6, H⟩
   have f2 : L 2 = false := up 2 1 rfl hun
   have f3 : L 3 = false := up 3 2 rfl f2
   have f4 : L 4 = false := up 4 3 rfl f3
   have f7 : L 7 = false := up 7 1 rfl hun
   have Hj := H; rw [f2, f7] at Hj
   refine step_on rfl (Ld 0 one_274 F Hj) ?_
   rintro xv w' ⟨hx, rfl⟩
   exact ⟨Cs hx, ⟨v2, v3, g4, Pk p0, Nf f2, Nf f3, Nf f4, Pk p6, H⟩⟩
  ·intro L A w up hun hd F ⟨v2, v3, g4, p0, p2, p3, p4, p6, H⟩
   have t0 : L 0 = true := hd 0 rfl
   have f2 : L 2 = false := hun
   have f3 : L 3 = false := up 3 2 rfl hun
   have f4 : L 4 = false := up 4 3 rfl f3
   have f7 : L 7 = false := up 7 2 rfl hun
   rw [t0, f2, f7] at H
   have F := Fr.add F (p0 t0)
   refine step_on rfl (d_callR_at 2 (vs := [v2, .slice adc lc.length capc]) (mk := fun v => .tuple #[v, iI 0]) if_221 F H rfl rfl (gmod_c _ _ (Gf.ws (1 <<< 0)) lc (1 <<< 0) (Gf.val lc) (Gf.val_ws _) rfl (by omega) (by omega) (hq) _ (Gf.Rd.row (H.row 1 _ rfl rfl) rfl rfl (by omega)) ((hrc).below H.below))) ?_
   rintro xv w' ⟨v', hx, H⟩
   exact ⟨Cn, ⟨v2, v', g4, Pk p0, (fun _ => (Sx.put_same F (by decide) _).trans hx), Nf f3, Nf f4, Pk p6, (by show Sx.Own _ _ _ _; rw [show Inv.add L 2 0 = true from t0, show Inv.add L 2 7 = false from f7]; exact H)⟩⟩
  ·intro L A w up hun hd F ⟨v2, v3, g4, p0, p2, p3, p4, p6, H⟩
   have t0 : L 0 = true := by
    cases hb : L 0 with
    | true => rfl
    | false =>
     have hb2 := up 2 0 rfl hb
     rw [hd 2 rfl] at hb2; cases hb2
   have t2 : L 2 = true := hd 2 rfl
   have f3 : L 3 = false := hun
   have f4 : L 4 = false := up 4 3 rfl hun
   have f7 : L 7 = false := up 7 3 rfl hun
   have Hj := H; rw [t0, t2, f7] at Hj
   have F := Fr.add F (p0 t0)
   have F := Fr.add F (p2 t2)
   refine step_on rfl (d_move F (Or.inl rfl) rfl) ?_
   rintro xv w' ⟨hx, rfl⟩
   exact ⟨Cn, ⟨v2, v3, g4, Pk p0, Pk p2, (fun _ => (Sx.put_same F (by decide) _).trans hx), Nf f4, Pk p6, H⟩⟩
  ·intro L A w up hun hd F ⟨v2, v3, g4, p0, p2, p3, p4, p6, H⟩
   have t0 : L 0 = true := by
    cases hb : L 0 with
    | true => rfl
    | false =>
     have hb2 := up 2 0 rfl hb
     have hb3 := up 3 2 rfl hb2
     rw [hd 3 rfl] at hb3; cases hb3
   have t2 : L 2 = true := by
    cases hb : L 2 with
    | true => rfl
    | false =>
     have hb3 := up 3 2 rfl hb
     rw [hd 3 rfl] at hb3; cases hb3
   have t3 : L 3 = true := hd 3 rfl
   have f4 : L 4 = false := hun
   have f7 : L 7 = false := up 7 4 rfl hun
   have Hj := H; rw [t0, t2, f7] at Hj
   have F := Fr.add F (p0 t0)
   have F := Fr.add F (p2 t2)
   have F := Fr.add F (p3 t3)
   refine step_on rfl (d_extract (v := v3) F rfl rfl rfl) ?_
   rintro xv w' ⟨hx, rfl⟩
   exact ⟨Cn, ⟨v2, v3, g4, Pk p0, Pk p2, Pk p3, (fun _ => (Sx.put_same F (by decide) _).trans hx), Pk p6, H⟩⟩
  ·intro L A w up hun hd F ⟨v2, v3, g4, p0, p2, p3, p4, p6, H⟩
   have t0 : L 0 = true := by
    cases hb : L 0 with
    | true => rfl
    | false =>
     have hb2 := up 2 0 rfl hb
     have hb3 := up 3 2 rfl hb2
     rw [hd 3 rfl] at hb3; cases hb3
   have t2 : L 2 = true := by
    cases hb : L 2 with
    | true => rfl
    | false =>
     have hb3 := up 3 2 rfl hb
     rw [hd 3 rfl] at hb3; cases hb3
   have t3 : L 3 = true := hd 3 rfl
   have Hj := H; rw [t0, t2] at Hj
   have F := Fr.add F (p0 t0)
   have F := Fr.add F (p2 t2)
   have F := Fr.add F (p3 t3)
   refine step_on rfl (d_extract (v := iI 0) F rfl rfl rfl) ?_
   rintro xv w' ⟨hx, rfl⟩
   exact ⟨Cs hx, ⟨v2, v3, g4, Pk p0, Pk p2, Pk p3, Pk p4, Pk p6, H⟩⟩
  ·intro L A w up hun hd F ⟨v2, v3, g4, p0, p2, p3, p4, p6, H⟩
   have f6 : L 6 = false := hun
   have f7 : L 7 = false := up 7 6 rfl hun
   rw [f6, f7] at H
   refine step_on rfl (d_alloc_at H rfl 3 [nS] zero_274) ?_
   rintro xv w' ⟨g', hx, H⟩
   exact ⟨Cn, ⟨v2, v3, g', Pk p0, Pk p2, Pk p3, Pk p4, (fun _ => (Sx.put_same F (by decide) _).trans hx), (by show Sx.Own _ _ _ _; rw [show Inv.add L 6 7 = false from f7]; exact H)⟩⟩
  ·intro L A w up hun hd F ⟨v2, v3, g4, p0, p2, p3, p4, p6, H⟩
   have t0 : L 0 = true := hd 0 rfl
   have t2 : L 2 = true := hd 2 rfl
   have t3 : L 3 = true := hd 3 rfl
   have t4 : L 4 = true := hd 4 rfl
   have t6 : L 6 = true := hd 6 rfl
   have f7 : L 7 = false := hun
   rw [t0, t2, t6, f7] at H
   have F := Fr.add F (p0 t0)
   have F := Fr.add F (p2 t2)
   have F := Fr.add F (p3 t3)
   have F := Fr.add F (p4 t4)
   have F := Fr.add F (p6 t6)
   refine step_on rfl (d_store (i := 3) (xs := [v3]) (us := [v3]) sz_274 F H rfl rfl rfl (by obtain ⟨_, _, hv0⟩ := Sx.len_of (k := (Gf.ws (Gf.md (1 <<< 0) (Gf.val lc))).length) (v := v3) (rowEq (H.row 2 _ rfl rfl) rfl rfl rfl rfl rfl); rw [hv0]; rfl) rfl (by obtain ⟨_, _, hv0⟩ := Sx.len_of (k := (Gf.ws (Gf.md (1 <<< 0) (Gf.val lc))).length) (v := v3) (rowEq (H.row 2 _ rfl rfl) rfl rfl rfl rfl rfl); rw [hv0]; rfl) rfl (Nat.le_of_ble_eq_true rfl) rfl) ?_
   intro xv w' H
   exact ⟨Cn, ⟨v2, v3, g4, p0, p2, p3, p4, p6, (by show Sx.Own _ _ _ _; rw [show Inv.add L 7 0 = true from t0, show Inv.add L 7 2 = true from t2, show Inv.add L 7 6 = true from t6]; exact H)⟩⟩
  ·intro L A w up hun hd F ⟨v2, v3, g4, p0, p2, p3, p4, p6, H⟩
   have t0 : L 0 = true := hd 0 rfl
   have t2 : L 2 = true := hd 2 rfl
   have t3 : L 3 = true := hd 3 rfl
   have t4 : L 4 = true := hd 4 rfl
   have t6 : L 6 = true := hd 6 rfl
   have t7 : L 7 = true := hd 7 rfl
   have Hj := H; rw [t0, t2, t6, t7] at Hj
   have F := Fr.add F (p0 t0)
   have F := Fr.add F (p2 t2)
   have F := Fr.add F (p3 t3)
   have F := Fr.add F (p4 t4)
   have F := Fr.add F (p6 t6)
   refine step_on rfl (d_move F (Or.inr rfl) rfl) ?_
   rintro xv w' ⟨hx, rfl⟩
   exact ⟨Cs hx, ⟨v2, v3, g4, Pk p0, Pk p2, Pk p3, Pk p4, Pk p6, H⟩⟩
 ·intro L A w hL F ⟨v2, v3, g4, p0, p2, p3, p4, p6, H⟩
  have t0 : L 0 = true := hL 0 rfl
  have t2 : L 2 = true := hL 2 rfl
  have t3 : L 3 = true := hL 3 rfl
  have t4 : L 4 = true := hL 4 rfl
  have t6 : L 6 = true := hL 6 rfl
  have t7 : L 7 = true := hL 7 rfl
  rw [t0, t2, t6, t7] at H
  have F := Fr.add F (p0 t0)
  have F := Fr.add F (p2 t2)
  have F := Fr.add F (p3 t3)
  have F := Fr.add F (p4 t4)
  have F := Fr.add F (p6 t6)
  have F := F.tq [(3, pT g1 0), (4, pT g2 0), (5, pT g3 0), (6, nS), (7, iI 0), (9, pT g4 0)] rfl
  refine hK5 _ _ (Sx.seq fun K6 hK6 => Sp fun _ kk => Av F fun A F => ?_)
  refine Zg (mk := fun g => .func (.func 230) #[] #[pT g 0]) F (d_callO (vs := [.agg #[uH x, uL x]]) if_222 F rfl rfl (Sx.bb (mk := fun g => .func (.func 230) #[] #[pT g 0]) H (gbits_c x _))) fun g5 A w F (H : Sx.Own w0 _ [(true, g5, [uH x, uL x]), (true, g3, [.slice adc lc.length capc]), (true, g2, [uH x, uL x]), (true, g1, [v1]), (true, g4, [v3])] [⟨true, v1, 22, 1, (Gf.ws (Gf.md (Gf.val la) (Gf.val lc))).length, (Gf.cells (Gf.ws (Gf.md (Gf.val la) (Gf.val lc))))⟩, ⟨true, v2, 22, 1, (Gf.ws (1 <<< 0)).length, (Gf.cells (Gf.ws (1 <<< 0)))⟩, ⟨true, v3, 22, 1, (Gf.ws (Gf.md (1 <<< 0) (Gf.val lc))).length, (Gf.cells (Gf.ws (Gf.md (1 <<< 0) (Gf.val lc))))⟩]) => ?_
  refine Nl kk (wp_block ?_)
  have H : Sx.Own w0 w [(true, g1, [v1]), (true, g2, [uH x, uL x]), (true, g3, [.slice adc lc.length capc]), (true, g4, [v3]), (true, g5, [uH x, uL x])] [⟨true, v1, 22, 1, (Gf.ws (Gf.md (Gf.val la) (Gf.val lc))).length, (Gf.cells (Gf.ws (Gf.md (Gf.val la) (Gf.val lc))))⟩, ⟨true, v3, 22, 1, (Gf.ws (Gf.pws (Gf.md (Gf.val la) (Gf.val lc)) (Gf.val lc) [])).length, (Gf.cells (Gf.ws (Gf.pws (Gf.md (Gf.val la) (Gf.val lc)) (Gf.val lc) [])))⟩] := H.to' [3, 2, 1, 4, 0] [0, 2] (by decide) (by decide) rfl rfl
  have F := F.to (kv' := [(3, pT g1 0), (4, pT g2 0), (5, pT g3 0), (9, pT g4 0), (28, .func (.func 230) #[] #[pT g5 0])]) ⟨rfl, rfl, rfl, rfl, rfl, trivial⟩
  obtain ⟨w1, hw1⟩ : ∃ q, w = q := ⟨_, rfl⟩
  rw [hw1] at H ⊢
  have hbx : ∀ b ∈ ([(true, g1, [v1]), (true, g2, [uH x, uL x]), (true, g3, [.slice adc lc.length capc]), (true, g4, [v3]), (true, g5, [uH x, uL x])] : List Bx), b.2.1 < w1.heap.size ∧ w0.heap.size ≤ b.2.1 := by
   intro b hb
   obtain ⟨i, hi⟩ := List.getElem?_of_mem hb
   have hon : b.1 = true := by revert hb; simp only [List.mem_cons, List.not_mem_nil, or_false]; rintro (rfl | rfl | rfl | rfl | rfl) <;> rfl
   obtain ⟨on, g, vs⟩ := b
   cases hon
   have := H.box i g vs hi
   exact ⟨this.2.2, this.2.1⟩
  have hnb := H.box 4 g5 _ rfl
  have c0 := (hnb.1 0 _ rfl).1
  have c1 := (hnb.1 1 _ rfl).1
  have hb0 := H.below.size
  refine (wpIn_wide (n := 6)).1 ?_
  show Code.wpIn (Sx.wideAt none) _ _ _ _ _ _
  refine wpIn_rangeFunc_ownH (α := Bool) rfl (by decide) (gf := 230) (lb := #[pT g5 0]) (F.get 28 _ rfl) trivial if_230 (gbits_stops g5 x w1 c0 c1 5) ?kt ?kb (Below.refl _ _) (fun _ => rfl)
   (fun pre W => ∃ ov : Value, Sx.Own w0 W [(true, g1, [v1]), (true, g2, [uH x, uL x]), (true, g3, [.slice adc lc.length capc]), (true, g4, [ov]), (true, g5, [uH x, uL x])] [⟨true, v1, 22, 1, (Gf.ws (Gf.md (Gf.val la) (Gf.val lc))).length, (Gf.cells (Gf.ws (Gf.md (Gf.val la) (Gf.val lc))))⟩, ⟨true, ov, 22, 1, (Gf.ws (Gf.pws (Gf.md (Gf.val la) (Gf.val lc)) (Gf.val lc) pre)).length, (Gf.cells (Gf.ws (Gf.pws (Gf.md (Gf.val la) (Gf.val lc)) (Gf.val lc) pre)))⟩]) (fun _ _ _ => False) ?hI (fun _ _ _ _ _ h _ _ => h.elim) ⟨v3, H⟩ (fun (bt : Bool) a' _ => Fr 43 a' ((11, iI (bt.toNat : Nat)) :: [(3, pT g1 0), (4, pT g2 0), (5, pT g3 0), (9, pT g4 0), (28, .func (.func 230) #[] #[pT g5 0])])) (fun _ _ _ _ _ _ h _ _ => h) ?assign ?body ?done ?stop
  case kt => exact fun h k => ⟨k.1.trans h.1, k.2.1.trans h.2.1, Nat.le_trans h.2.2 k.2.2⟩
  case kb => exact fun W l o o' hl _ _ _ => ⟨World.cell?_of_block (World.putObj_heap_other (show g5 ≠ l by have := hnb.2.2; omega)), World.cell?_of_block (World.putObj_heap_other (show g5 ≠ l by have := hnb.2.2; omega)), by simp⟩
  case hI => exact fun s W W' row ⟨ov, h⟩ hg hr => ⟨ov, h.from_ hg hr hb0 (fun _ => rfl)⟩
  case stop => exact fun D c pre W _ _ h _ => h.elim
  case assign =>
   intro l pre bt W K hi hK
   show Code.wpIn (Sx.wideAt (some l)) _ _ _ _ _ _
   refine Sx.plainI (fun ⟨_, _, h⟩ => h) rfl ?_
   have F := F.setp (d := 29) (by decide) (iI (bt.toNat : Nat))
   have hz : (#[29].zip #[Value.int .i64 (bt.toNat : Nat)]) = [(29, Value.int .i64 (bt.toNat : Nat))].toArray := by simp
   rw [hz, List.foldl_toArray, List.foldl_cons, List.foldl_nil]
   dsimp only
   refine Av F fun A F => ?_
   refine Sx.nil ?_
   exact hK _ _ (KeepsFrom.refl _ _) ⟨rfl, rfl, Nat.le_refl _⟩ hi (F.to ⟨rfl, rfl, rfl, rfl, rfl, rfl, trivial⟩)
  case body =>
   rintro l pre bt a' W hl ⟨r, hr⟩ ⟨ov, HW⟩ F hlt
   show Code.wpIn (Sx.wideAt (some l)) _ _ _ _ _ _
   have hWb := HW.below
   have hbne : ∀ b ∈ ([(true, g1, [v1]), (true, g2, [uH x, uL x]), (true, g3, [.slice adc lc.length capc]), (true, g4, [ov]), (true, g5, [uH x, uL x])] : List Bx), b.2.1 < w1.heap.size := by
    intro b hb
    simp only [List.mem_cons, List.not_mem_nil, or_false] at hb hbx
    rcases hb with rfl | rfl | rfl | rfl | rfl
    ·exact (hbx _ (.inl rfl)).1
    ·exact (hbx _ (.inr (.inl rfl))).1
    ·exact (hbx _ (.inr (.inr (.inl rfl)))).1
    ·exact (hbx (true, g4, [v3]) (.inr (.inr (.inr (.inl rfl))))).1
    ·exact (hbx _ (.inr (.inr (.inr (.inr rfl))))).1
   have hrb : ∀ v : Value, (∃ (j : Nat) (r : Rx), ([⟨true, v1, 22, 1, (Gf.ws (Gf.md (Gf.val la) (Gf.val lc))).length, (Gf.cells (Gf.ws (Gf.md (Gf.val la) (Gf.val lc))))⟩, ⟨true, ov, 22, 1, (Gf.ws (Gf.pws (Gf.md (Gf.val la) (Gf.val lc)) (Gf.val lc) pre)).length, (Gf.cells (Gf.ws (Gf.pws (Gf.md (Gf.val la) (Gf.val lc)) (Gf.val lc) pre)))⟩] : List Rx)[j]? = some r ∧ r.on = true ∧ r.v = v) → ∀ b ∈ ([(true, g1, [v1]), (true, g2, [uH x, uL x]), (true, g3, [.slice adc lc.length capc]), (true, g4, [ov]), (true, g5, [uH x, uL x])] : List Bx), v.ownBlock ≠ some b.2.1 := by
    rintro v ⟨j, r, hj, hon, rfl⟩ b hb e
    obtain ⟨i, hi⟩ := List.getElem?_of_mem hb
    have hon' : b.1 = true := by revert hb; simp only [List.mem_cons, List.not_mem_nil, or_false]; rintro (rfl | rfl | rfl | rfl | rfl) <;> rfl
    obtain ⟨on, g, vs⟩ := b
    cases hon'
    exact HW.rb i j g vs r hi hj hon e
   have hpl := Gf.pws_lim hq hlc (Gf.md (Gf.val la) (Gf.val lc)) pre
   have hlo := Gf.lim_len hpl
   have hla' := Gf.lim_len (Gf.lim_md hq hlc (Gf.val la))
   have hRA : Gf.Rd W v1 (Gf.ws (Gf.md (Gf.val la) (Gf.val lc))) := Gf.Rd.row (HW.row 0 _ rfl rfl) rfl rfl (by omega)
   have hRO : Gf.Rd W ov (Gf.ws (Gf.pws (Gf.md (Gf.val la) (Gf.val lc)) (Gf.val lc) pre)) := Gf.Rd.row (HW.row 1 _ rfl rfl) rfl rfl (by omega)
   have H := HW.lay
   have hp1 := Gf.lim_clm hpl hpl
   have hpm := Gf.lim_len (Gf.lim_md hq hlc (Gf.clm (Gf.pws (Gf.md (Gf.val la) (Gf.val lc)) (Gf.val lc) pre) (Gf.pws (Gf.md (Gf.val la) (Gf.val lc)) (Gf.val lc) pre)))
   refine wpIn_block ?_
   refine wpIn_seq_k (fun K8 hK8 => ?_)
   refine Sx.plainI (fun ⟨_, _, h⟩ => h) rfl ?_
   iterate 2 (refine Av F ?_; intro A F)
   refine Zr (mk := fun v => v) F (d_callR (vs := [ov, .slice adc lc.length capc]) (mk := fun v => v) if_223 F H rfl rfl (gsq_c _ _ (Gf.ws (Gf.pws (Gf.md (Gf.val la) (Gf.val lc)) (Gf.val lc) pre)) lc (Gf.pws (Gf.md (Gf.val la) (Gf.val lc)) (Gf.val lc) pre) (Gf.val lc) (Gf.val_ws _) rfl (by omega) (by omega) (hq) _ (hRO.laid H hWb (hrb _ ⟨1, _, rfl, rfl, rfl⟩)) ((hrc).below H.below))) fun v4 A w F (H : Sx.Own w0 _ [(true, g1, [v1]), (true, g2, [uH x, uL x]), (true, g3, [.slice adc lc.length capc]), (true, g4, [ov]), (true, g5, [uH x, uL x])] [⟨true, v4, 22, 1, (Gf.ws (Gf.md (Gf.clm (Gf.pws (Gf.md (Gf.val la) (Gf.val lc)) (Gf.val lc) pre) (Gf.pws (Gf.md (Gf.val la) (Gf.val lc)) (Gf.val lc) pre)) (Gf.val lc))).length, (Gf.cells (Gf.ws (Gf.md (Gf.clm (Gf.pws (Gf.md (Gf.val la) (Gf.val lc)) (Gf.val lc) pre) (Gf.pws (Gf.md (Gf.val la) (Gf.val lc)) (Gf.val lc) pre)) (Gf.val lc))))⟩] (Sx.beside w0 W [(true, g1, [v1]), (true, g2, [uH x, uL x]), (true, g3, [.slice adc lc.length capc]), (true, g4, [ov]), (true, g5, [uH x, uL x])])) => ?_
   refine Zt F (d_store (i := 3) (xs := [v4]) (us := [v4]) sz_274 F H rfl rfl rfl (by obtain ⟨_, _, hv0⟩ := Sx.len_of (k := (Gf.ws (Gf.md (Gf.clm (Gf.pws (Gf.md (Gf.val la) (Gf.val lc)) (Gf.val lc) pre) (Gf.pws (Gf.md (Gf.val la) (Gf.val lc)) (Gf.val lc) pre)) (Gf.val lc))).length) (v := v4) (rowEq (H.row 0 _ rfl rfl) rfl rfl rfl rfl rfl); rw [hv0]; rfl) rfl (by obtain ⟨_, _, hv0⟩ := Sx.len_of (k := (Gf.ws (Gf.md (Gf.clm (Gf.pws (Gf.md (Gf.val la) (Gf.val lc)) (Gf.val lc) pre) (Gf.pws (Gf.md (Gf.val la) (Gf.val lc)) (Gf.val lc) pre)) (Gf.val lc))).length) (v := v4) (rowEq (H.row 0 _ rfl rfl) rfl rfl rfl rfl rfl); rw [hv0]; rfl) rfl (Nat.le_of_ble_eq_true rfl) rfl) fun A w F (H : Sx.Own w0 _ [(true, g1, [v1]), (true, g2, [uH x, uL x]), (true, g3, [.slice adc lc.length capc]), (true, g4, [v4]), (true, g5, [uH x, uL x])] [⟨true, v4, 22, 1, (Gf.ws (Gf.md (Gf.clm (Gf.pws (Gf.md (Gf.val la) (Gf.val lc)) (Gf.val lc) pre) (Gf.pws (Gf.md (Gf.val la) (Gf.val lc)) (Gf.val lc) pre)) (Gf.val lc))).length, (Gf.cells (Gf.ws (Gf.md (Gf.clm (Gf.pws (Gf.md (Gf.val la) (Gf.val lc)) (Gf.val lc) pre) (Gf.pws (Gf.md (Gf.val la) (Gf.val lc)) (Gf.val lc) pre)) (Gf.val lc))))⟩] (Sx.beside w0 W [(true, g1, [v1]), (true, g2, [uH x, uL x]), (true, g3, [.slice adc lc.length capc]), (true, g4, [ov]), (true, g5, [uH x, uL x])])) => ?_
   refine Sx.nil (hK8 _ _ ?_)
   cases bt
   ·skip
    refine wpIn_seq_k (fun K9 hK9 => ?_)
    refine Sx.plainI (fun ⟨_, _, h⟩ => h) rfl ?_
    refine Av F fun A F => ?_
    refine Zv F (Bn bF F rfl rfl rfl (i_eq rfl)) fun A F => ?_
    refine Sx.nil (hK9 _ _ (wpIn_cond_false (F.ev rfl) ?_))
    refine wpIn_skip ?_
    try dsimp only [Exit.then, Exit.inBlock, Exit.noGoto]
    have hgr := H.grew hr (by omega) (fun b hb => Nat.lt_of_lt_of_le (hbne b hb) hl)
    have h4 := (H.box 4 g5 _ rfl).1
    have h4' := (HW.box 4 g5 _ rfl).1
    have hst := Gf.pws_snoc (Gf.md (Gf.val la) (Gf.val lc)) (Gf.val lc) pre false
    unfold Gf.pwS at hst
    rw [if_neg (by decide)] at hst
    refine ⟨H.keepsLaid hgr hb0 hbne, ⟨((h4 0 _ rfl).1).trans ((h4' 0 _ rfl).1).symm, ((h4 1 _ rfl).1).trans ((h4' 1 _ rfl).1).symm, hgr⟩, v4, ?_⟩
    have H2 := H.restore hWb _ (HW.row 0 _ rfl rfl) (hrb _ ⟨0, _, rfl, rfl, rfl⟩)
    rw [hst]
    exact H2.to' [0, 1, 2, 3, 4] [0, 1] (by decide) (by decide) rfl rfl
   ·skip
    refine wpIn_seq_k (fun K10 hK10 => ?_)
    refine Sx.plainI (fun ⟨_, _, h⟩ => h) rfl ?_
    refine Av F fun A F => ?_
    refine Zv F (Bn bT F rfl rfl rfl (i_eq rfl)) fun A F => ?_
    refine Sx.nil (hK10 _ _ (wpIn_cond_true (F.ev rfl) ?_))
    refine Sx.plainI (fun ⟨_, _, h⟩ => h) rfl ?_
    iterate 3 (refine Av F ?_; intro A F)
    refine Zr (mk := fun v => .tuple #[v, iI 0]) F (d_callR (vs := [v4, v1, .slice adc lc.length capc]) (mk := fun v => .tuple #[v, iI 0]) if_224 F H rfl rfl (gmulmod_c _ _ _ (Gf.ws (Gf.md (Gf.clm (Gf.pws (Gf.md (Gf.val la) (Gf.val lc)) (Gf.val lc) pre) (Gf.pws (Gf.md (Gf.val la) (Gf.val lc)) (Gf.val lc) pre)) (Gf.val lc))) (Gf.ws (Gf.md (Gf.val la) (Gf.val lc))) lc (Gf.md (Gf.clm (Gf.pws (Gf.md (Gf.val la) (Gf.val lc)) (Gf.val lc) pre) (Gf.pws (Gf.md (Gf.val la) (Gf.val lc)) (Gf.val lc) pre)) (Gf.val lc)) (Gf.md (Gf.val la) (Gf.val lc)) (Gf.val lc) (Gf.val_ws _) (Gf.val_ws _) rfl (by omega) (by omega) (by omega) (hq) _ (Gf.Rd.row (H.row 0 _ rfl rfl) rfl rfl (by omega)) (hRA.laid H hWb (hrb _ ⟨0, _, rfl, rfl, rfl⟩)) ((hrc).below H.below))) fun v5 A w F (H : Sx.Own w0 _ [(true, g1, [v1]), (true, g2, [uH x, uL x]), (true, g3, [.slice adc lc.length capc]), (true, g4, [v4]), (true, g5, [uH x, uL x])] [⟨true, v5, 22, 1, (Gf.ws (Gf.md (Gf.clm (Gf.md (Gf.clm (Gf.pws (Gf.md (Gf.val la) (Gf.val lc)) (Gf.val lc) pre) (Gf.pws (Gf.md (Gf.val la) (Gf.val lc)) (Gf.val lc) pre)) (Gf.val lc)) (Gf.md (Gf.val la) (Gf.val lc))) (Gf.val lc))).length, (Gf.cells (Gf.ws (Gf.md (Gf.clm (Gf.md (Gf.clm (Gf.pws (Gf.md (Gf.val la) (Gf.val lc)) (Gf.val lc) pre) (Gf.pws (Gf.md (Gf.val la) (Gf.val lc)) (Gf.val lc) pre)) (Gf.val lc)) (Gf.md (Gf.val la) (Gf.val lc))) (Gf.val lc))))⟩, ⟨true, v4, 22, 1, (Gf.ws (Gf.md (Gf.clm (Gf.pws (Gf.md (Gf.val la) (Gf.val lc)) (Gf.val lc) pre) (Gf.pws (Gf.md (Gf.val la) (Gf.val lc)) (Gf.val lc) pre)) (Gf.val lc))).length, (Gf.cells (Gf.ws (Gf.md (Gf.clm (Gf.pws (Gf.md (Gf.val la) (Gf.val lc)) (Gf.val lc) pre) (Gf.pws (Gf.md (Gf.val la) (Gf.val lc)) (Gf.val lc) pre)) (Gf.val lc))))⟩] (Sx.beside w0 W [(true, g1, [v1]), (true, g2, [uH x, uL x]), (true, g3, [.slice adc lc.length capc]), (true, g4, [ov]), (true, g5, [uH x, uL x])])) => ?_
    iterate 3 (refine Av F ?_; intro A F)
    refine Zt F (d_store (i := 3) (xs := [v5]) (us := [v5]) sz_274 F H rfl rfl rfl (by obtain ⟨_, _, hv0⟩ := Sx.len_of (k := (Gf.ws (Gf.md (Gf.clm (Gf.md (Gf.clm (Gf.pws (Gf.md (Gf.val la) (Gf.val lc)) (Gf.val lc) pre) (Gf.pws (Gf.md (Gf.val la) (Gf.val lc)) (Gf.val lc) pre)) (Gf.val lc)) (Gf.md (Gf.val la) (Gf.val lc))) (Gf.val lc))).length) (v := v5) (rowEq (H.row 0 _ rfl rfl) rfl rfl rfl rfl rfl); rw [hv0]; rfl) rfl (by obtain ⟨_, _, hv0⟩ := Sx.len_of (k := (Gf.ws (Gf.md (Gf.clm (Gf.md (Gf.clm (Gf.pws (Gf.md (Gf.val la) (Gf.val lc)) (Gf.val lc) pre) (Gf.pws (Gf.md (Gf.val la) (Gf.val lc)) (Gf.val lc) pre)) (Gf.val lc)) (Gf.md (Gf.val la) (Gf.val lc))) (Gf.val lc))).length) (v := v5) (rowEq (H.row 0 _ rfl rfl) rfl rfl rfl rfl rfl); rw [hv0]; rfl) rfl (Nat.le_of_ble_eq_true rfl) rfl) fun A w F (H : Sx.Own w0 _ [(true, g1, [v1]), (true, g2, [uH x, uL x]), (true, g3, [.slice adc lc.length capc]), (true, g4, [v5]), (true, g5, [uH x, uL x])] [⟨true, v5, 22, 1, (Gf.ws (Gf.md (Gf.clm (Gf.md (Gf.clm (Gf.pws (Gf.md (Gf.val la) (Gf.val lc)) (Gf.val lc) pre) (Gf.pws (Gf.md (Gf.val la) (Gf.val lc)) (Gf.val lc) pre)) (Gf.val lc)) (Gf.md (Gf.val la) (Gf.val lc))) (Gf.val lc))).length, (Gf.cells (Gf.ws (Gf.md (Gf.clm (Gf.md (Gf.clm (Gf.pws (Gf.md (Gf.val la) (Gf.val lc)) (Gf.val lc) pre) (Gf.pws (Gf.md (Gf.val la) (Gf.val lc)) (Gf.val lc) pre)) (Gf.val lc)) (Gf.md (Gf.val la) (Gf.val lc))) (Gf.val lc))))⟩, ⟨true, v4, 22, 1, (Gf.ws (Gf.md (Gf.clm (Gf.pws (Gf.md (Gf.val la) (Gf.val lc)) (Gf.val lc) pre) (Gf.pws (Gf.md (Gf.val la) (Gf.val lc)) (Gf.val lc) pre)) (Gf.val lc))).length, (Gf.cells (Gf.ws (Gf.md (Gf.clm (Gf.pws (Gf.md (Gf.val la) (Gf.val lc)) (Gf.val lc) pre) (Gf.pws (Gf.md (Gf.val la) (Gf.val lc)) (Gf.val lc) pre)) (Gf.val lc))))⟩] (Sx.beside w0 W [(true, g1, [v1]), (true, g2, [uH x, uL x]), (true, g3, [.slice adc lc.length capc]), (true, g4, [ov]), (true, g5, [uH x, uL x])])) => ?_
    refine Sx.nil ?_
    try dsimp only [Exit.then, Exit.inBlock, Exit.noGoto]
    have hgr := H.grew hr (by omega) (fun b hb => Nat.lt_of_lt_of_le (hbne b hb) hl)
    have h4 := (H.box 4 g5 _ rfl).1
    have h4' := (HW.box 4 g5 _ rfl).1
    have hst := Gf.pws_snoc (Gf.md (Gf.val la) (Gf.val lc)) (Gf.val lc) pre true
    unfold Gf.pwS at hst
    rw [if_pos rfl] at hst
    refine ⟨H.keepsLaid hgr hb0 hbne, ⟨((h4 0 _ rfl).1).trans ((h4' 0 _ rfl).1).symm, ((h4 1 _ rfl).1).trans ((h4' 1 _ rfl).1).symm, hgr⟩, v5, ?_⟩
    have H2 := H.restore hWb _ (HW.row 0 _ rfl rfl) (hrb _ ⟨0, _, rfl, rfl, rfl⟩)
    rw [hst]
    exact H2.to' [0, 1, 2, 3, 4] [0, 1] (by decide) (by decide) rfl rfl
  case done =>
   rintro D ys W hD rfl ⟨ov, H⟩ hK
   rw [F.defers]
   refine hK6 _ _ (Sp fun _ kk => Sx.svD F (d_load1 (i := 3) (v := ov) one_274 F H rfl rfl rfl rfl) (wanted_none rfl _) rfl (by decide) (fun A F => ?_))
   refine Sx.svD F (d_move F (Or.inr rfl) rfl) (wanted_none rfl _) rfl (by decide) (fun A F => ?_)
   refine Sx.svD F (d_move F (Or.inr rfl) rfl) (wanted_none rfl _) rfl (by decide) (fun A F => ?_)
   refine Nl kk (wp_ret ?_)
   try dsimp only [Exit.then, Exit.inBlock, Exit.jump, Exit.noGoto]
   have H := H.putD (o' := .deferred none) hK rfl (by omega)
   exact Sx.ret2M F Tryz.results216 hK (res_tmp (v := ov) F rfl) (res_tmp (v := iI 0) F rfl) ⟨_, rfl, H.row 1 _ rfl rfl, H.below⟩
theorem gpow_c (va vc : Value) (la lc : List (BitVec 64)) (Pa Pc : Nat) (hpa : Gf.val la = Pa) (hpc : Gf.val lc = Pc) (x : BitVec 128) (hsa : la.length ≤ 10) (hsc : lc.length ≤ 10) (hq : Pc ≠ 0) (w : World) (ha : Gf.Rd w va la) (hc : Gf.Rd w vc lc) : Calls Tryz.prog 216 #[va, .agg #[uH x, uL x], vc] w fun e w' => ∃ v, e = .returned (.tuple #[v, iI 0]) ∧ w'.ownsRow w.heap.size 22 1 v (Gf.ws (Gf.pw Pa Pc x)).length (Gf.cells (Gf.ws (Gf.pw Pa Pc x))) ∧ Below w.heap.size w w' := by
 obtain ⟨ada, capa, rfl⟩ := ha.form
 obtain ⟨adc, capc, rfl⟩ := hc.form
 subst hpa; subst hpc
 exact gpow_1 la ada capa lc adc capc x hsa hsc hq w ha hc
open Sx in
theorem gpowx_1 (x : BitVec 128) (lc : List (BitVec 64)) (adc : Option Addr) (capc : Nat) (hsc : lc.length ≤ 10) (hq : Gf.val lc ≠ 0) (w0 : World) (hrc : Gf.Rd w0 (.slice adc lc.length capc) lc) : Calls Tryz.prog 212 #[.agg #[uH x, uL x], .slice adc lc.length capc] w0 fun e w' => ∃ v, e = .returned (.tuple #[v, iI 0]) ∧ w'.ownsRow w0.heap.size 22 1 v (Gf.ws (Gf.pw (1 <<< 1) (Gf.val lc) x)).length (Gf.cells (Gf.ws (Gf.pw (1 <<< 1) (Gf.val lc) x))) ∧ Below w0.heap.size w0 w' := by
 have fewc := hrc.few
 have hcc := hrc.at
 have hl1 := Gf.lim_len (Gf.lim_one (n := 1) (m := 1) (by decide))
 refine En Tryz.func212 Tryz.ntmps212 fun A F => ?_
 have H := Sx.Own.start w0
 refine Sp fun _ kk => Zb F (d_box F H rfl rfl [uH x, uL x] rfl) fun g1 A w F H => ?_
 iterate 2 (refine Av F ?_; intro A F)
 refine Nl kk (Sx.seq fun K2 hK2 => ?_)
 have F := F.tq [(0, .agg #[uH x, uL x]), (1, .slice adc lc.length capc), (2, pT g1 0)] rfl
 refine Dn F [none, some (.agg #[uH x, uL x]), some (.slice adc lc.length capc), none, none, some (iI 0), none, some (iI 0)] (fun L A w => ∃ v1 : Value, ∃ v2 : Value, (L 0 = true → A.eval (.tmp 6) = v1) ∧ (L 3 = true → A.eval (.tmp 9) = .tuple #[v2, iI 0]) ∧ (L 4 = true → A.eval (.tmp 10) = v2) ∧ (L 6 = true → A.eval (.tmp 4) = v2) ∧ Sx.Own w0 w [(true, g1, [uH x, uL x])] [⟨L 0, v1, 22, 1, (Gf.ws (1 <<< 1)).length, (Gf.cells (Gf.ws (1 <<< 1)))⟩, ⟨L 3, v2, 22, 1, (Gf.ws (Gf.pw (1 <<< 1) (Gf.val lc) x)).length, (Gf.cells (Gf.ws (Gf.pw (1 <<< 1) (Gf.val lc) x)))⟩]) ⟨undef, undef, (fun h => by cases h), (fun h => by cases h), (fun h => by cases h), (fun h => by cases h), H.drew.pad [] rfl [⟨false, undef, 22, 1, (Gf.ws (1 <<< 1)).length, (Gf.cells (Gf.ws (1 <<< 1)))⟩, ⟨false, undef, 22, 1, (Gf.ws (Gf.pw (1 <<< 1) (Gf.val lc) x)).length, (Gf.cells (Gf.ws (Gf.pw (1 <<< 1) (Gf.val lc) x)))⟩] rfl⟩ ?_ ?_
 ·refine ⟨?_, ?_, ?_, ?_, ?_, ?_, ?_, ?_, trivial⟩
  ·intro L A w up hun hd F ⟨v1, v2, p0, p3, p4, p6, H⟩
   have f0 : L 0 = false := hun
   have f3 : L 3 = false := up 3 0 rfl hun
   have f4 : L 4 = false := up 4 3 rfl f3
   have f6 : L 6 = false := up 6 0 rfl hun
   rw [f0, f3] at H
   refine step_on rfl (d_callR_at 0 (vs := [iI 1]) (mk := fun v => v) if_217 F H rfl rfl (gx_c 1 (by omega) _)) ?_
   rintro xv w' ⟨v', hx, H⟩
   exact ⟨Cn, ⟨v', v2, (fun _ => (Sx.put_same F (by decide) _).trans hx), Nf f3, Nf f4, Nf f6, (by show Sx.Own _ _ _ _; rw [show Inv.add L 0 3 = false from f3]; exact H)⟩⟩
  ·intro L A w up hun hd F ⟨v1, v2, p0, p3, p4, p6, H⟩
   have f3 : L 3 = false := up 3 1 rfl hun
   have f4 : L 4 = false := up 4 3 rfl f3
   have f6 : L 6 = false := up 6 1 rfl hun
   have Hj := H; rw [f3] at Hj
   refine step_on rfl (Lr 0 [uH x, uL x] rw_26 F Hj) ?_
   rintro xv w' ⟨hx, rfl⟩
   exact ⟨Cs hx, ⟨v1, v2, Pk p0, Nf f3, Nf f4, Nf f6, H⟩⟩
  ·intro L A w up hun hd F ⟨v1, v2, p0, p3, p4, p6, H⟩
   have f3 : L 3 = false := up 3 2 rfl hun
   have f4 : L 4 = false := up 4 3 rfl f3
   have f6 : L 6 = false := up 6 2 rfl hun
   have Hj := H; rw [f3] at Hj
   refine step_on rfl (d_move F (Or.inl rfl) rfl) ?_
   rintro xv w' ⟨hx, rfl⟩
   exact ⟨Cs hx, ⟨v1, v2, Pk p0, Nf f3, Nf f4, Nf f6, H⟩⟩
  ·intro L A w up hun hd F ⟨v1, v2, p0, p3, p4, p6, H⟩
   have t0 : L 0 = true := hd 0 rfl
   have f3 : L 3 = false := hun
   have f4 : L 4 = false := up 4 3 rfl hun
   have f6 : L 6 = false := up 6 3 rfl hun
   rw [t0, f3] at H
   have F := Fr.add F (p0 t0)
   refine step_on rfl (d_callR_at 1 (vs := [v1, .agg #[uH x, uL x], .slice adc lc.length capc]) (mk := fun v => .tuple #[v, iI 0]) if_216 F H rfl rfl (gpow_c _ _ (Gf.ws (1 <<< 1)) lc (1 <<< 1) (Gf.val lc) (Gf.val_ws _) rfl x (by omega) (by omega) (hq) _ (Gf.Rd.row (H.row 0 _ rfl rfl) rfl rfl (by omega)) ((hrc).below H.below))) ?_
   rintro xv w' ⟨v', hx, H⟩
   exact ⟨Cn, ⟨v1, v', Pk p0, (fun _ => (Sx.put_same F (by decide) _).trans hx), Nf f4, Nf f6, (by show Sx.Own _ _ _ _; rw [show Inv.add L 3 0 = true from t0]; exact H)⟩⟩
  ·intro L A w up hun hd F ⟨v1, v2, p0, p3, p4, p6, H⟩
   have t0 : L 0 = true := by
    cases hb : L 0 with
    | true => rfl
    | false =>
     have hb3 := up 3 0 rfl hb
     rw [hd 3 rfl] at hb3; cases hb3
   have t3 : L 3 = true := hd 3 rfl
   have f4 : L 4 = false := hun
   have f6 : L 6 = false := up 6 4 rfl hun
   have Hj := H; rw [t0, t3] at Hj
   have F := Fr.add F (p0 t0)
   have F := Fr.add F (p3 t3)
   refine step_on rfl (d_extract (v := v2) F rfl rfl rfl) ?_
   rintro xv w' ⟨hx, rfl⟩
   exact ⟨Cn, ⟨v1, v2, Pk p0, Pk p3, (fun _ => (Sx.put_same F (by decide) _).trans hx), Nf f6, H⟩⟩
  ·intro L A w up hun hd F ⟨v1, v2, p0, p3, p4, p6, H⟩
   have t0 : L 0 = true := by
    cases hb : L 0 with
    | true => rfl
    | false =>
     have hb3 := up 3 0 rfl hb
     rw [hd 3 rfl] at hb3; cases hb3
   have t3 : L 3 = true := hd 3 rfl
   have f6 : L 6 = false := up 6 5 rfl hun
   have Hj := H; rw [t0, t3] at Hj
   have F := Fr.add F (p0 t0)
   have F := Fr.add F (p3 t3)
   refine step_on rfl (d_extract (v := iI 0) F rfl rfl rfl) ?_
   rintro xv w' ⟨hx, rfl⟩
   exact ⟨Cs hx, ⟨v1, v2, Pk p0, Pk p3, Pk p4, Nf f6, H⟩⟩
  ·intro L A w up hun hd F ⟨v1, v2, p0, p3, p4, p6, H⟩
   have t0 : L 0 = true := hd 0 rfl
   have t3 : L 3 = true := hd 3 rfl
   have t4 : L 4 = true := hd 4 rfl
   have f6 : L 6 = false := hun
   have Hj := H; rw [t0, t3] at Hj
   have F := Fr.add F (p0 t0)
   have F := Fr.add F (p3 t3)
   have F := Fr.add F (p4 t4)
   refine step_on rfl (d_move F (Or.inr rfl) rfl) ?_
   rintro xv w' ⟨hx, rfl⟩
   exact ⟨Cn, ⟨v1, v2, Pk p0, Pk p3, Pk p4, (fun _ => (Sx.put_same F (by decide) _).trans hx), H⟩⟩
  ·intro L A w up hun hd F ⟨v1, v2, p0, p3, p4, p6, H⟩
   have t0 : L 0 = true := hd 0 rfl
   have t3 : L 3 = true := hd 3 rfl
   have t4 : L 4 = true := hd 4 rfl
   have t6 : L 6 = true := hd 6 rfl
   have Hj := H; rw [t0, t3] at Hj
   have F := Fr.add F (p0 t0)
   have F := Fr.add F (p3 t3)
   have F := Fr.add F (p4 t4)
   have F := Fr.add F (p6 t6)
   refine step_on rfl (d_move F (Or.inr rfl) rfl) ?_
   rintro xv w' ⟨hx, rfl⟩
   exact ⟨Cs hx, ⟨v1, v2, Pk p0, Pk p3, Pk p4, Pk p6, H⟩⟩
 ·intro L A w hL F ⟨v1, v2, p0, p3, p4, p6, H⟩
  have t0 : L 0 = true := hL 0 rfl
  have t3 : L 3 = true := hL 3 rfl
  have t4 : L 4 = true := hL 4 rfl
  have t6 : L 6 = true := hL 6 rfl
  rw [t0, t3] at H
  have F := Fr.add F (p0 t0)
  have F := Fr.add F (p3 t3)
  have F := Fr.add F (p4 t4)
  have F := Fr.add F (p6 t6)
  have F := F.tq [(4, v2), (5, iI 0)] rfl
  refine hK2 _ _ (Wr (ret2 F Tryz.results212 (res_tmp F rfl) (res_tmp F rfl) ?_))
  exact ⟨_, rfl, H.row 1 _ rfl rfl, H.below⟩
theorem gpowx_c (vc : Value) (lc : List (BitVec 64)) (Pc : Nat) (hpc : Gf.val lc = Pc) (x : BitVec 128) (hsc : lc.length ≤ 10) (hq : Pc ≠ 0) (w : World) (hc : Gf.Rd w vc lc) : Calls Tryz.prog 212 #[.agg #[uH x, uL x], vc] w fun e w' => ∃ v, e = .returned (.tuple #[v, iI 0]) ∧ w'.ownsRow w.heap.size 22 1 v (Gf.ws (Gf.pw (1 <<< 1) Pc x)).length (Gf.cells (Gf.ws (Gf.pw (1 <<< 1) Pc x))) ∧ Below w.heap.size w w' := by
 obtain ⟨adc, capc, rfl⟩ := hc.form
 subst hpc
 exact gpowx_1 x lc adc capc hsc hq w hc
end Go.Proofs.YteecadoakmdibaaGreat
