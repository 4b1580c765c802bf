/- A table that is read; small laws on rows. -/
import Derived.Test.YtpbdffmgendboabSl8
import Derived.Test.YtpbdffmgendboabSxE
namespace Go.Proofs.Ytpbdffmgendboab
open Go Go.RowKit
namespace Tb
def Rd (w : World) (v : Value) (l : List R) : Prop := ∃ ad cap, v = .slice ad l.length cap ∧ ∀ k r, l[k]? = some r → ∃ g o, ad = some ⟨g, o, none⟩ ∧ w.cell? ⟨g, o + k * 2, none⟩ = some (.int .i64 r.1) ∧ w.cell? ⟨g, o + k * 2 + 1, none⟩ = some (.int .u64 (r.2.toNat : Nat))
theorem Rd.lift {w w' : World} {v : Value} {l : List R} (h : Rd w v l) (hb : Below w.heap.size w w') : Rd w' v l := by
  obtain ⟨ad, cap, rfl, hc⟩ := h
  refine ⟨ad, cap, rfl, fun k r hk => ?_⟩
  obtain ⟨g, o, e, h1, h2⟩ := hc k r hk
  exact ⟨g, o, e, (hb.cell (p := ⟨g, o + k * 2, none⟩) (lt_cell h1)).trans h1, (hb.cell (p := ⟨g, o + k * 2 + 1, none⟩) (lt_cell h2)).trans h2⟩
theorem Rd.row {w : World} {lo : Nat} {E : TypeId} {v : Value} {l : List R} (h : w.ownsRow lo E 2 v l.length (cells l)) : Rd w v l := by
  rcases h.2 with ⟨rfl, e⟩ | ⟨g, cap, cur, rfl, _⟩
  · rw [List.length_eq_zero_iff] at e
    subst e
    exact ⟨none, 0, rfl, fun k r hk => by simp at hk⟩
  · refine ⟨_, cap, rfl, fun k r hk => ?_⟩
    have hkl := (List.getElem?_eq_some_iff.1 hk).1
    obtain ⟨a1, a2⟩ := cells_at l k r hk
    exact ⟨g, 0, rfl, by rw [Nat.zero_add, World.ownsRow.cellAt h _ (by omega), a1], by rw [Nat.zero_add, World.ownsRow.cellAt h _ (by omega), a2]⟩
def See (w : World) (tb : Nat) (s : S) : Prop := ∃ v, w.cell? ⟨tb, 0, none⟩ = some v ∧ w.cell? ⟨tb, 1, none⟩ = some (.int .i64 s.n) ∧ Rd w v s.l
theorem See.lift {w w' : World} {tb : Nat} {s : S} (h : See w tb s) (hb : Below w.heap.size w w') : See w' tb s := by
  obtain ⟨v, h1, h2, h3⟩ := h
  exact ⟨v, (hb.cell (p := ⟨tb, 0, none⟩) (lt_cell h1)).trans h1, (hb.cell (p := ⟨tb, 1, none⟩) (lt_cell h2)).trans h2, h3.lift hb⟩
theorem See.own {K : Nat → Option Obj} {w0 w : World} {bs : List Sx.Bx} {rs : List Sx.Rx} {i j tb : Nat} {v : Value} {E : TypeId} {s : S} (H : Sx.Own w0 w bs rs K) (hi : bs[i]? = some (true, tb, [v, .int .i64 s.n])) (hj : rs[j]? = some ⟨true, v, E, 2, s.l.length, cells s.l⟩) : See w tb s := by
  have hb := (H.box i tb _ hi).1
  have hr : w.ownsRow w0.heap.size E 2 v s.l.length (cells s.l) := H.row j _ hj rfl
  exact ⟨v, (hb 0 _ rfl).1, (hb 1 _ rfl).1, Rd.row hr⟩
def hs (l : List R) : List Value := l.map fun r => .int .i64 r.1
theorem hs_snoc {l : List R} {i : Nat} {r : R} (h : l[i]? = some r) : hs (l.take i) ++ [.int .i64 r.1] = hs (l.take (i + 1)) := by
  unfold hs
  rw [List.take_add_one, h, Option.toList_some, List.map_append]; rfl
theorem hit_true {h : Int} {l : List R} (e : hit h l = true) : ∃ r, l[pos h l]? = some r ∧ r.1 = h := by
  unfold hit at e
  split at e
  · rename_i r hr; exact ⟨r, hr, by simpa using e⟩
  · cases e
theorem hit_at {h : Int} {l : List R} {i : Nat} {r : R} (hp : pos h l = i) (hr : l[i]? = some r) : hit h l = (r.1 == h) := by
  unfold hit; rw [hp, hr]
theorem hit_end {h : Int} {l : List R} (hp : pos h l = l.length) : hit h l = false := by
  unfold hit; rw [hp, List.getElem?_eq_none (Nat.le_refl _)]
def S.doh (s : S) (d h : Int) : Int := if d = 0 then s.addh else if d = 1 then (if s.has h then 1 else 0) else 0
def S.doe (s : S) (d h : Int) : Int := if d = 0 then s.adde else if d = 1 then 0 else if d = 2 then s.laye h else if d = 3 then s.goese h else 0
def S.act (s : S) (d h : Int) (x : BitVec 64) : S := if d = 0 then s.add x else if d = 1 then s.drop h else if d = 2 then s.lay h x else if d = 3 then s.goes h else s
theorem S.ok.act {s : S} (o : s.ok) (d h : Int) (x : BitVec 64) : (s.act d h x).ok := by
  unfold S.act
  split
  · exact o.add x
  · split
    · exact o.drop h
    · split
      · exact o.lay h x
      · split
        · exact o.goes h
        · exact o
end Tb
namespace Sx
section
variable {P : Program} {w : World}
theorem i_shr1 {x y : Operand} {T : TypeId} {p : Nat} : (do eqGuard .shr T x y (.int .u64 (p : Int)) (.int .u64 1); binOp .shr T (.int .u64 (p : Int)) (.int .u64 1) : Sem Value).run P w = .ok (.int .u64 ((p / 2 : Nat) : Int)) w := by
  have h1 : (Op.shift .shr .u64 (p : Int) .u64 1).run P w = .ok (.int .u64 ((p / 2 : Nat) : Int)) w := by
    simp [Op.shift, IntKind.bits]
    rw [Int.fdiv_eq_ediv_of_nonneg _ (by decide)]
  simp [eqGuard, binOp, h1, go_sem]
end
def sw2 : Nat → Nat
  | 0 => 1
  | 1 => 0
  | k + 2 => k + 2
theorem sw2_inj : ∀ {i j : Nat}, sw2 i = sw2 j → i = j
  | 0, 0, _ => rfl
  | 1, 1, _ => rfl
  | 0, 1, h => by cases h
  | 1, 0, h => by cases h
  | 0, j + 2, h => by have : 1 = j + 2 := h
                      omega
  | 1, j + 2, h => by have : 0 = j + 2 := h
                      omega
  | i + 2, 0, h => by have : i + 2 = 1 := h
                      omega
  | i + 2, 1, h => by have : i + 2 = 0 := h
                      omega
  | i + 2, j + 2, h => h
theorem Own.swapB {K : Nat → Option Obj} {w0 w : World} {p q : Bx} {bs : List Bx} {rs : List Rx} (h : Own w0 w (p :: q :: bs) rs K) : Own w0 w (q :: p :: bs) rs K := by
  have sel : ∀ i, (q :: p :: bs)[i]? = (p :: q :: bs)[sw2 i]? := fun i => match i with
    | 0 => rfl
    | 1 => rfl
    | k + 2 => rfl
  exact ⟨h.below, fun i b vs hi => h.box (sw2 i) b vs (by rw [← sel]; exact hi), fun i j b vs us hi hj => sw2_inj (h.nd (sw2 i) (sw2 j) b vs us (by rw [← sel]; exact hi) (by rw [← sel]; exact hj)), h.row, fun i j b vs r hi hj ho => h.rb (sw2 i) j b vs r (by rw [← sel]; exact hi) hj ho, h.rr, fun k o hk => by
    obtain ⟨a, b, c, d⟩ := h.kp k o hk
    exact ⟨a, b, fun i vs hi => c (sw2 i) vs (by rw [← sel]; exact hi), d⟩⟩
theorem d_callD {o : Oper} {a : Act} {n : Nat} {kv : List (Nat × Value)} {w : World} {P : Program} {f : FuncId} {xs : Array Operand} {ts : Array TypeId} {vs : List Value} {v : Value} {R : World → Prop} (hf : isFn P f) (F : Fr n a kv) (ho : o.op = .call { callee := .value (.func f), args := xs, argTypes := ts }) (hxs : xs.toList.map (ev kv) = vs.map some)
    (hc : Calls P f vs.toArray w fun e w' => e = .returned v ∧ R w') : Does P o a w (fun x w' => x = v ∧ R w') := does_enter (by rw [run_call F ho hxs]; exact hf _ w) hc
variable {w : World}
theorem c_int_uint (m : Nat) (h : m < 18446744073709551616) : (convert 3 110 (.int .i64 m)).run Try.prog w = .ok (.int .u64 m) w := by
  have h1 : (convert 3 110 (.int .i64 m)).run Try.prog w = .ok (.int .u64 (IntKind.u64.wrap m)) w := by kernel_rfl
  rw [h1, IntKind.wrap_u64, show (m : Int) % 18446744073709551616 = m from by omega]
theorem c_uint_int (m : Nat) (h : m < 9223372036854775808) : (convert 110 3 (.int .u64 m)).run Try.prog w = .ok (.int .i64 m) w := by
  have h1 : (convert 110 3 (.int .u64 m)).run Try.prog w = .ok (.int .i64 (IntKind.i64.wrap m)) w := by kernel_rfl
  rw [h1, in_i64 m h]
end Sx
end Go.Proofs.Ytpbdffmgendboab
