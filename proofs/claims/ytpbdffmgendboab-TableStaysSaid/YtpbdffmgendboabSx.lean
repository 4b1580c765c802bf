/- A walk by knowledge: what stands in the slots, and which blocks are the call's own. -/
import Derived.Test.YtpbdffmgendboabKit
import Derived.Test.YtpbdffmgendboabInv
import Derived.Deep.MidRow
import Derived.ScopeJumps
import Derived.Deep.LoopGhost
namespace Go.Proofs.Ytpbdffmgendboab
open Go Go.RowKit

namespace Sx
section
variable {P : Program} {ops : Array Oper} {Q : Exit → Act → World → Prop} {w0 w : World} {a : Act} {o : Oper} {rest : List Oper} {K : Nat → Option Obj}

/- the call's own blocks: is it there, its number, its cells; its own slices: is it there, the value, the elements' type and size, how many, the cells -/
abbrev Bx := Bool × Nat × List Value
structure Rx where
  on : Bool
  v : Value
  E : TypeId
  z : Nat
  n : Nat
  xs : List Value
def Rx.holds (r : Rx) (lo : Nat) (w : World) : Prop := w.ownsRow lo r.E r.z r.v r.n r.xs
structure Own (w0 w : World) (bs : List Bx) (rs : List Rx) (K : Nat → Option Obj := fun _ => none) : Prop where
  below : Below w0.heap.size w0 w
  box : ∀ (i b : Nat) (vs : List Value), bs[i]? = some (true, b, vs) → BoxAt w b vs ∧ w0.heap.size ≤ b ∧ b < w.heap.size
  nd : ∀ (i j b : Nat) (vs us : List Value), bs[i]? = some (true, b, vs) → bs[j]? = some (true, b, us) → i = j
  row : ∀ (i : Nat) (r : Rx), rs[i]? = some r → r.on = true → r.holds w0.heap.size w
  rb : ∀ (i j b : Nat) (vs : List Value) (r : Rx), bs[i]? = some (true, b, vs) → rs[j]? = some r → r.on = true → r.v.ownBlock ≠ some b
  rr : ∀ (i j g : Nat) (r s : Rx), rs[i]? = some r → rs[j]? = some s → r.on = true → s.on = true → r.v.ownBlock = some g → s.v.ownBlock = some g → i = j
  kp : ∀ (k : Nat) (o : Obj), K k = some o → w.heap[k]? = some o ∧ w0.heap.size ≤ k ∧ (∀ (i : Nat) (vs : List Value), bs[i]? ≠ some (true, k, vs)) ∧ (∀ (i : Nat) (r : Rx), rs[i]? = some r → r.on = true → r.v.ownBlock ≠ some k)
theorem kplt {w : World} {k : Nat} {o : Obj} (h : w.heap[k]? = some o) : k < w.heap.size := (Array.getElem?_eq_some_iff.1 h).1
theorem Own.start (w : World) : Own w w [] [] := ⟨Below.refl _ _, by simp, by simp, by simp, by simp, by simp, fun _ _ hk => by simp at hk⟩
theorem Own.drew {bs : List Bx} {rs : List Rx} (h : Own w0 w bs rs K) : Own w0 w.drew bs rs K := ⟨h.below.drew, h.box, h.nd, h.row, h.rb, h.rr, h.kp⟩
theorem Own.call {bs : List Bx} {rs : List Rx} (h : Own w0 w bs rs K) {w' : World} (hb : Below w.heap.size w w') : Own w0 w' bs rs K := by
  refine ⟨h.below.trans (hb.mono h.below.size), fun i b vs hi => ?_, h.nd, fun i r hi ho => owns_below (h.row i r hi ho) hb, h.rb, h.rr, fun k o hk => by
    obtain ⟨a, b, c, d⟩ := h.kp k o hk
    exact ⟨(hb.block k (kplt a)).trans a, b, c, d⟩⟩
  obtain ⟨h1, h2, h3⟩ := h.box i b vs hi
  exact ⟨h1.lift (fun hl => hb.block _ hl), h2, Nat.lt_of_lt_of_le h3 hb.size⟩
theorem newBox (w : World) (cs : Array Value) (t : TypeId) : BoxAt (w.alloc (.cells cs t)) w.heap.size cs.toList := fun j u hj => by
  refine ⟨?_, World.frozen?_alloc_new w cs t j⟩
  rw [World.cell?_alloc_new]; simpa using hj
theorem set_some {α : Type} {l : List α} {i j : Nat} {x y : α} (h : (l.set i x)[j]? = some y) : (j = i ∧ y = x) ∨ (j ≠ i ∧ l[j]? = some y) := by
  rw [List.getElem?_set] at h
  split at h
  · rename_i e
    split at h
    · exact .inl ⟨e.symm, (Option.some.inj h).symm⟩
    · cases h
  · rename_i e
    exact .inr ⟨fun h => e h.symm, h⟩
theorem Own.rowLt {bs : List Bx} {rs : List Rx} (h : Own w0 w bs rs K) {i : Nat} {r : Rx} (hi : rs[i]? = some r) (ho : r.on = true) {g : Nat} (hg : r.v.ownBlock = some g) : w0.heap.size ≤ g ∧ g < w.heap.size :=
  (h.row i r hi ho).lt g hg
/-- a new block at a place that was not there yet -/
theorem Own.fresh {bs : List Bx} {rs : List Rx} (h : Own w0 w bs rs K) (i : Nat) (cs : Array Value) (t : TypeId) : Own w0 (w.alloc (.cells cs t)) (bs.set i (true, w.heap.size, cs.toList)) rs K := by
  refine ⟨h.below.alloc h.below.size _, fun j b vs hj => ?_, fun j k b vs us hj hk => ?_, fun j r hj ho => (h.row j r hj ho).alloc _, fun j k b vs r hj hk ho hg => ?_, h.rr, fun k o hk => by
    obtain ⟨a, b, c, d⟩ := h.kp k o hk
    refine ⟨(((Below.refl w.heap.size w).alloc (Nat.le_refl _) _).block k (kplt a)).trans a, b, fun q vs hq => ?_, d⟩
    rcases set_some hq with ⟨_, e⟩ | ⟨_, hq⟩
    · cases e; exact absurd (kplt a) (Nat.lt_irrefl _)
    · exact c q vs hq⟩
  · rcases set_some hj with ⟨_, e⟩ | ⟨_, hj⟩
    · cases e; exact ⟨newBox w cs t, h.below.size, by simp⟩
    · obtain ⟨h1, h2, h3⟩ := h.box j b vs hj
      exact ⟨h1.lift (Below.heap_alloc w _ _), h2, by simp; omega⟩
  · rcases set_some hj with ⟨e1, e⟩ | ⟨_, hj⟩ <;> rcases set_some hk with ⟨e2, e'⟩ | ⟨_, hk⟩
    · omega
    · cases e; exact absurd (h.box k _ _ hk).2.2 (Nat.lt_irrefl _)
    · cases e'; exact absurd (h.box j _ _ hj).2.2 (Nat.lt_irrefl _)
    · exact h.nd j k b vs us hj hk
  · rcases set_some hj with ⟨_, e⟩ | ⟨_, hj⟩
    · cases e; exact absurd (h.rowLt hk ho hg).2 (Nat.lt_irrefl _)
    · exact h.rb j k b vs r hj hk ho hg
theorem Own.padF {bs : List Bx} {rs : List Rx} (h : Own w0 w bs rs K) (p : Bx) (hp : p.1 = false) : Own w0 w (p :: bs) rs K := by
  have key : ∀ {i b : Nat} {vs : List Value}, (p :: bs)[i]? = some (true, b, vs) → ∃ j, i = j + 1 ∧ bs[j]? = some (true, b, vs) := by
    intro i b vs hi
    cases i with
    | zero => simp at hi; subst hi; cases hp
    | succ i => exact ⟨i, rfl, by simpa using hi⟩
  refine ⟨h.below, fun i b vs hi => ?_, fun i j b vs us hi hj => ?_, h.row, fun i j b vs r hi hj => ?_, h.rr, fun k o hk => by
    obtain ⟨a, b, c, d⟩ := h.kp k o hk
    refine ⟨a, b, fun q vs hq => ?_, d⟩
    cases q with
    | zero => simp at hq; subst hq; cases hp
    | succ q => exact c q vs (by simpa using hq)⟩
  · obtain ⟨j, _, hj⟩ := key hi; exact h.box j b vs hj
  · obtain ⟨k, rfl, hk⟩ := key hi; obtain ⟨l, rfl, hl⟩ := key hj; rw [h.nd k l b vs us hk hl]
  · obtain ⟨k, _, hk⟩ := key hi; exact h.rb k j b vs r hk hj
theorem Own.cons {bs : List Bx} {rs : List Rx} (h : Own w0 w bs rs K) (cs : Array Value) (t : TypeId) : Own w0 (w.alloc (.cells cs t)) ((true, w.heap.size, cs.toList) :: bs) rs K :=
  (h.padF (false, 0, []) rfl).fresh 0 cs t
theorem Own.range {bs : List Bx} {rs : List Rx} (h : Own w0 w bs rs K) {i b : Nat} {vs : List Value} (hi : bs[i]? = some (true, b, vs)) (k : Nat) {xs : List Value} (hx : (vs.drop k).take xs.length = xs) : w.rangeAt b k xs := by
  intro j v hj
  refine ((h.box i b vs hi).1 (k + j) v ?_).1
  rw [← hx] at hj
  rw [List.getElem?_take] at hj
  split at hj
  · rwa [List.getElem?_drop] at hj
  · cases hj
theorem setCells_size (b : Nat) : ∀ (xs : List Value) (k : Nat) (w : World), (w.setCells b k xs).heap.size = w.heap.size
  | [], _, _ => rfl
  | v :: r, k, w => by rw [World.setCells, setCells_size b r]; simp [World.setCell]
theorem setCells_block (b : Nat) : ∀ (xs : List Value) (k : Nat) (w : World) (j : Nat), j ≠ b → (w.setCells b k xs).heap[j]? = w.heap[j]?
  | [], _, _, _, _ => rfl
  | v :: r, k, w, j, h => by rw [World.setCells, setCells_block b r _ _ j h, Below.heap_setCell _ _ _ _ h]
theorem setCells_grown (b : Nat) (xs : List Value) (k : Nat) (w : World) : w.grownBy (w.setCells b k xs) (some b) := by
  refine ⟨?_, ?_, ?_, by rw [setCells_size]; exact Nat.le_refl _, fun j _ hj => setCells_block b xs k w j (fun e => hj (by rw [e]))⟩
  all_goals
    induction xs generalizing k w with
    | nil => rfl
    | cons v r ih => rw [World.setCells, ih]; rfl
theorem below_setCells {B : Nat} (b : Nat) (hb : B ≤ b) : ∀ (xs : List Value) (k : Nat) (w w0 : World), Below B w0 w → Below B w0 (w.setCells b k xs)
  | [], _, _, _, h => h
  | v :: r, k, w, w0, h => by rw [World.setCells]; exact below_setCells b hb r _ _ _ (h.setCell (by exact hb) _)
def splice (vs : List Value) (k : Nat) (xs : List Value) : List Value := vs.take k ++ (xs ++ vs.drop (k + xs.length))
theorem there_of {b : Nat} {vs : List Value} (h : BoxAt w b vs) (k n : Nat) (hk : k + n ≤ vs.length) : w.there b k n := by
  intro j hj
  have e : vs[k + j]? = some vs[k + j] := List.getElem?_eq_getElem (by omega)
  obtain ⟨h1, h2⟩ := h (k + j) _ e
  exact ⟨by rw [h1]; rfl, h2⟩
theorem box_set {b : Nat} {vs : List Value} (h : BoxAt w b vs) (k : Nat) (xs : List Value) (hk : k + xs.length ≤ vs.length) : BoxAt (w.setCells b k xs) b (splice vs k xs) := by
  have ht := there_of h k xs.length hk
  intro j u hj
  have e1 : (vs.take k).length = k := by simp; omega
  refine ⟨?_, ?_⟩
  · unfold splice at hj
    by_cases h1 : j < k
    · rw [List.getElem?_append_left (by omega), List.getElem?_take, if_pos h1] at hj
      rw [World.cell?_setCells_out b xs k w ⟨b, j, none⟩ (fun _ _ => Or.inl h1)]
      exact (h j u hj).1
    · rw [List.getElem?_append_right (by omega), e1] at hj
      by_cases h2 : j - k < xs.length
      · rw [List.getElem?_append_left h2] at hj
        obtain ⟨hl', hv⟩ := List.getElem?_eq_some_iff.1 hj
        have := World.cell?_setCells_in b xs k w (fun i hi => (ht i hi).1) (j - k) hl'
        rw [show k + (j - k) = j from by omega] at this
        rw [this, hv]
      · rw [List.getElem?_append_right (by omega), List.getElem?_drop, show k + xs.length + (j - k - xs.length) = j from by omega] at hj
        rw [World.cell?_setCells_out b xs k w ⟨b, j, none⟩ (fun _ _ => Or.inr (by show k + xs.length ≤ j; omega))]
        exact (h j u hj).1
  · have hjl : j < vs.length := by
      have := (List.getElem?_eq_some_iff.1 hj).1
      unfold splice at this
      simp at this
      omega
    rw [World.frozen?_setCells]
    exact (h j _ (List.getElem?_eq_getElem hjl)).2
theorem Own.store {bs : List Bx} {rs : List Rx} (h : Own w0 w bs rs K) {i b : Nat} {vs : List Value} (hi : bs[i]? = some (true, b, vs)) (k : Nat) (xs : List Value) (hk : k + xs.length ≤ vs.length) : Own w0 (w.setCells b k xs) (bs.set i (true, b, splice vs k xs)) rs K := by
  obtain ⟨a1, a2, a3⟩ := h.box i b vs hi
  refine ⟨below_setCells b a2 xs k w w0 h.below, fun j c us hj => ?_, fun j l c vs' us hj hl => ?_, fun j r hj ho => ?_, fun j l c us r hj hl ho => ?_, h.rr, fun q o hq => by
    obtain ⟨x, y, c, d⟩ := h.kp q o hq
    have hqb : q ≠ b := fun e => c i vs (by rw [e]; exact hi)
    refine ⟨(setCells_block b xs k w q hqb).trans x, y, fun j us hj => ?_, d⟩
    rcases set_some hj with ⟨_, e⟩ | ⟨_, hj⟩
    · cases e; exact hqb rfl
    · exact c j us hj⟩
  · rcases set_some hj with ⟨_, e⟩ | ⟨hne, hj⟩
    · cases e; exact ⟨box_set a1 k xs hk, a2, by rw [setCells_size]; exact a3⟩
    · obtain ⟨h1, h2, h3⟩ := h.box j c us hj
      have hcb : c ≠ b := fun e => hne (h.nd j i c us vs hj (by rw [e]; exact hi))
      exact ⟨h1.lift (fun _ => setCells_block b xs k w _ hcb), h2, by rw [setCells_size]; exact h3⟩
  · rcases set_some hj with ⟨e1, e⟩ | ⟨hne, hj⟩ <;> rcases set_some hl with ⟨e2, e'⟩ | ⟨hne', hl⟩
    · omega
    · cases e; exact absurd (h.nd l i b us vs hl hi) hne'
    · cases e'; exact absurd (h.nd j i b vs' vs hj hi) hne
    · exact h.nd j l c vs' us hj hl
  · exact World.ownsRow.kept (h.row j r hj ho) (setCells_grown b xs k w) (Or.inr (h.rb i j b vs r hi hj ho))
  · rcases set_some hj with ⟨_, e⟩ | ⟨_, hj⟩
    · cases e; exact h.rb i l b vs r hi hl ho
    · exact h.rb j l c us r hj hl ho
/- slices -/
theorem Own.padR {bs : List Bx} {rs : List Rx} (h : Own w0 w bs rs K) (p : Rx) (hp : p.on = false) : Own w0 w bs (p :: rs) K := by
  have key : ∀ {i : Nat} {r : Rx}, (p :: rs)[i]? = some r → r.on = true → ∃ j, i = j + 1 ∧ rs[j]? = some r := by
    intro i r hi ho
    cases i with
    | zero => simp at hi; subst hi; rw [hp] at ho; cases ho
    | succ i => exact ⟨i, rfl, by simpa using hi⟩
  refine ⟨h.below, h.box, h.nd, fun i r hi ho => ?_, fun i j b vs r hi hj ho => ?_, fun i j g r s hi hj ho hs => ?_, fun k o hk => by
    obtain ⟨a, b, c, d⟩ := h.kp k o hk
    refine ⟨a, b, c, fun i r hi ho => ?_⟩
    obtain ⟨j, _, hj⟩ := key hi ho
    exact d j r hj ho⟩
  · obtain ⟨j, _, hj⟩ := key hi ho; exact h.row j r hj ho
  · obtain ⟨k, _, hk⟩ := key hj ho; exact h.rb i k b vs r hi hk ho
  · obtain ⟨k, rfl, hk⟩ := key hi ho; obtain ⟨l, rfl, hl⟩ := key hj hs
    exact fun h1 h2 => by rw [h.rr k l g r s hk hl ho hs h1 h2]
/-- a slice of new blocks, at a place that was not there yet -/
theorem Own.freshR {bs : List Bx} {rs : List Rx} (h : Own w0 w bs rs K) {w' : World} (hb : Below w.heap.size w w') (i : Nat) (r : Rx) (hr : r.holds w.heap.size w') : Own w0 w' bs (rs.set i r) K := by
  have h' := h.call hb
  have lo : ∀ g, r.v.ownBlock = some g → w.heap.size ≤ g := fun g hg => (hr.lt g hg).1
  refine ⟨h'.below, h'.box, h'.nd, fun j s hj ho => ?_, fun j k b vs s hj hk ho hg => ?_, fun j k g s u hj hk ho hu h1 h2 => ?_, fun k o hk => by
    obtain ⟨a, b, c, d⟩ := h'.kp k o hk
    refine ⟨a, b, c, fun q s hq ho hs => ?_⟩
    rcases set_some hq with ⟨_, e⟩ | ⟨_, hq⟩
    · subst e; have := lo k hs; have := kplt (h.kp k o hk).1; omega
    · exact d q s hq ho hs⟩
  · rcases set_some hj with ⟨_, e⟩ | ⟨_, hj⟩
    · subst e; exact owns_mono hr h.below.size
    · exact h'.row j s hj ho
  · rcases set_some hk with ⟨_, e⟩ | ⟨_, hk⟩
    · subst e; have := lo b hg; have := (h.box j b vs hj).2.2; omega
    · exact h'.rb j k b vs s hj hk ho hg
  · rcases set_some hj with ⟨e1, e⟩ | ⟨_, hj'⟩ <;> rcases set_some hk with ⟨e2, e'⟩ | ⟨_, hk'⟩
    · omega
    · subst e; have := lo g h1; have := (h.rowLt hk' hu h2).2; omega
    · subst e'; have := lo g h2; have := (h.rowLt hj' ho h1).2; omega
    · exact h'.rr j k g s u hj' hk' ho hu h1 h2
theorem Own.consR {bs : List Bx} {rs : List Rx} (h : Own w0 w bs rs K) {w' : World} (hb : Below w.heap.size w w') (r : Rx) (hr : r.holds w.heap.size w') : Own w0 w' bs (r :: rs) K :=
  (h.padR ⟨false, undef, 0, 0, 0, []⟩ rfl).freshR hb 0 r hr
theorem Own.nilR {bs : List Bx} {rs : List Rx} (h : Own w0 w bs rs K) (E : TypeId) (z : Nat) : Own w0 w bs (⟨true, .slice none 0 0, E, z, 0, []⟩ :: rs) K :=
  h.consR (Below.refl _ _) _ (World.ownsRow_nil _ _ _ _)
/-- a slice that has grown -/
theorem Own.grow {bs : List Bx} {rs : List Rx} (h : Own w0 w bs rs K) {w' : World} {i : Nat} {r r' : Rx} (hi : rs[i]? = some r) (ho : r.on = true) (hr : r'.holds w0.heap.size w') (hg : w.grownBy w' r.v.ownBlock)
    (hat : r'.v.ownBlock = r.v.ownBlock ∨ r'.v.ownBlock = some w.heap.size) : Own w0 w' bs (rs.set i r') K := by
  refine ⟨Below.grown h.below hg h.below.size (fun k e => (h.rowLt hi ho e).1), fun j b vs hj => ?_, h.nd, fun j s hj hs => ?_, fun j k b vs s hj hk hs hgb => ?_, fun j k g s u hj hk hs hu h1 h2 => ?_, fun k o hk => by
    obtain ⟨a, b, c, d⟩ := h.kp k o hk
    refine ⟨(hg.block k (kplt a) (fun e => d i r hi ho e.symm)).trans a, b, c, fun q s hq hs e => ?_⟩
    rcases set_some hq with ⟨_, e'⟩ | ⟨_, hq⟩
    · subst e'
      rcases hat with h1 | h1
      · exact d i r hi ho (h1 ▸ e)
      · rw [h1] at e; cases e; exact absurd (kplt a) (Nat.lt_irrefl _)
    · exact d q s hq hs e⟩
  · obtain ⟨h1, h2, h3⟩ := h.box j b vs hj
    exact ⟨h1.lift (fun hl => hg.block _ hl (fun e => h.rb j i b vs r hj hi ho e.symm)), h2, Nat.lt_of_lt_of_le h3 hg.size⟩
  · rcases set_some hj with ⟨_, e⟩ | ⟨hne, hj⟩
    · subst e; exact hr
    · refine World.ownsRow.kept (h.row j s hj hs) hg ?_
      cases hb : s.v.ownBlock with
      | none => exact .inl rfl
      | some g => exact .inr (fun e => hne (h.rr j i g s r hj hi hs ho hb e.symm))
  · rcases set_some hk with ⟨_, e⟩ | ⟨_, hk⟩
    · subst e
      rcases hat with e | e
      · exact h.rb j i b vs r hj hi ho (e ▸ hgb)
      · rw [e] at hgb; cases hgb; exact absurd (h.box j _ vs hj).2.2 (Nat.lt_irrefl _)
    · exact h.rb j k b vs s hj hk hs hgb
  · have new : ∀ {k : Nat} {u : Rx}, k ≠ i → rs[k]? = some u → u.on = true → u.v.ownBlock = some g → r'.v.ownBlock = some g → False := by
      intro k u hne hk hu h2 h1
      rcases hat with e | e
      · exact hne (h.rr k i g u r hk hi hu ho h2 (e ▸ h1))
      · rw [e] at h1; cases h1; exact absurd (h.rowLt hk hu h2).2 (Nat.lt_irrefl _)
    rcases set_some hj with ⟨e1, e⟩ | ⟨n1, hj'⟩ <;> rcases set_some hk with ⟨e2, e'⟩ | ⟨n2, hk'⟩
    · omega
    · subst e; exact (new n2 hk' hu h2 h1).elim
    · subst e'; exact (new n1 hj' hs h1 h2).elim
    · exact h.rr j k g s u hj' hk' hs hu h1 h2
/-- boxes and slices chosen anew -/
theorem Own.to' {bs : List Bx} {rs : List Rx} (h : Own w0 w bs rs K) (is js : List Nat) {cs : List Bx} {ts : List Rx} (hn : is.Nodup) (hm : js.Nodup) (hc : is.map (fun i => bs[i]?) = cs.map some) (ht : js.map (fun i => rs[i]?) = ts.map some) : Own w0 w cs ts K := by
  have sel : ∀ {α : Type} {ls : List Nat} {xs ys : List α}, ls.map (fun i => xs[i]?) = ys.map some → ∀ {i : Nat} {p : α}, ys[i]? = some p → ∃ j, ls[i]? = some j ∧ xs[j]? = some p := by
    intro α ls xs ys hc i p hp
    have h1 : (ys.map some)[i]? = some (some p) := by rw [List.getElem?_map, hp]; rfl
    rw [← hc, List.getElem?_map] at h1
    cases hj : ls[i]? with
    | none => rw [hj] at h1; cases h1
    | some j => rw [hj] at h1; exact ⟨j, rfl, Option.some.inj h1⟩
  have inj : ∀ {ls : List Nat}, ls.Nodup → ∀ {i j k : Nat}, ls[i]? = some k → ls[j]? = some k → i = j := by
    intro ls nd i j k hi hj
    exact (List.getElem?_inj (List.getElem?_eq_some_iff.1 hi).1 nd).1 (hi.trans hj.symm)
  refine ⟨h.below, fun i b vs hi => ?_, fun i j b vs us hi hj => ?_, fun i r hi ho => ?_, fun i j b vs r hi hj ho => ?_, fun i j g r s hi hj ho hs h1 h2 => ?_, fun k o hk => by
    obtain ⟨a, b, c, d⟩ := h.kp k o hk
    refine ⟨a, b, fun i vs hi => ?_, fun i r hi ho => ?_⟩
    · obtain ⟨j, _, hj⟩ := sel hc hi; exact c j vs hj
    · obtain ⟨j, _, hj⟩ := sel ht hi; exact d j r hj ho⟩
  · obtain ⟨j, _, hj⟩ := sel hc hi; exact h.box j b vs hj
  · obtain ⟨k, hk, hbk⟩ := sel hc hi
    obtain ⟨l, hl, hbl⟩ := sel hc hj
    have e := h.nd k l b vs us hbk hbl
    subst e
    exact inj hn hk hl
  · obtain ⟨j, _, hj⟩ := sel ht hi; exact h.row j r hj ho
  · obtain ⟨k, _, hk⟩ := sel hc hi; obtain ⟨l, _, hl⟩ := sel ht hj; exact h.rb k l b vs r hk hl ho
  · obtain ⟨k, hk, hrk⟩ := sel ht hi; obtain ⟨l, hl, hrl⟩ := sel ht hj
    have e := h.rr k l g r s hrk hrl ho hs h1 h2
    subst e
    exact inj hm hk hl

/- what stands in the slots -/
def lk : List (Nat × Value) → Nat → Option Value
  | [], _ => none
  | (k, v) :: r, d => cond (Nat.beq k d) (some v) (lk r d)
structure Fr (n : Nat) (a : Act) (kv : List (Nat × Value)) : Prop where
  size : a.tmps.size = n
  defers : a.defers = []
  get : ∀ d v, lk kv d = some v → a.eval (.tmp d) = v
def ev (kv : List (Nat × Value)) : Operand → Option Value
  | .tmp t => lk kv t
  | .const v => some v
  | .global g => some (.pointer (some ⟨g, 0, none⟩))
  | .func f => some (.func (.func f) #[] #[])
theorem Fr.ev {n : Nat} {kv : List (Nat × Value)} (h : Fr n a kv) {x : Operand} {v : Value} (hx : ev kv x = some v) : a.eval x = v := by
  cases x with
  | tmp t => exact h.get t v hx
  | const c => exact Option.some.inj hx
  | global g => exact Option.some.inj hx
  | func f => exact Option.some.inj hx
theorem Fr.put {n : Nat} {kv : List (Nat × Value)} (h : Fr n a kv) {d : Nat} (hd : d < n) (x : Value) : Fr n (a.put (some d) x) ((d, x) :: kv) := by
  refine ⟨by simp [Act.put, h.size], h.defers, fun k v hk => ?_⟩
  have hs := h.size
  unfold lk at hk
  cases hb : Nat.beq d k with
  | true =>
    rw [hb] at hk
    obtain rfl := Nat.eq_of_beq_eq_true hb
    obtain rfl := Option.some.inj hk
    simp [Act.eval, Act.put, hs, hd]
  | false =>
    rw [hb] at hk
    have hne : d ≠ k := fun e => by rw [e, Nat.beq_refl] at hb; cases hb
    rw [Act.eval_put (fun d' hd' e => hne (by cases hd'; cases e; rfl))]
    exact h.get k v hk
theorem Fr.put0 {n : Nat} {kv : List (Nat × Value)} (h : Fr n a kv) (x : Value) : Fr n (a.put none x) kv := h
theorem Fr.sub {n : Nat} {kv kv' : List (Nat × Value)} (h : Fr n a kv) (hs : ∀ p ∈ kv', lk kv p.1 = some p.2) : Fr n a kv' := by
  refine ⟨h.size, h.defers, fun d v hd => h.get d v ?_⟩
  clear h
  induction kv' with
  | nil => cases hd
  | cons p r ih =>
    obtain ⟨k, u⟩ := p
    unfold lk at hd
    cases hb : Nat.beq k d with
    | true =>
      rw [hb] at hd
      obtain rfl := Nat.eq_of_beq_eq_true hb
      rw [← hd]; exact hs _ (List.mem_cons_self ..)
    | false =>
      rw [hb] at hd
      exact ih (fun p hp => hs p (List.mem_cons_of_mem _ hp)) hd
def kvOf : Nat → List Value → List (Nat × Value)
  | _, [] => []
  | k, v :: r => (k, v) :: kvOf (k + 1) r
theorem lk_kvOf : ∀ (l : List Value) (k d : Nat) (v : Value), lk (kvOf k l) d = some v → k ≤ d ∧ l[d - k]? = some v
  | [], _, _, _, h => by cases h
  | u :: r, k, d, v, h => by
    unfold kvOf lk at h
    cases hb : Nat.beq k d with
    | true =>
      rw [hb] at h
      obtain rfl := Nat.eq_of_beq_eq_true hb
      exact ⟨Nat.le_refl _, by rw [Nat.sub_self]; exact h⟩
    | false =>
      rw [hb] at h
      obtain ⟨h1, h2⟩ := lk_kvOf r (k + 1) d v h
      refine ⟨by omega, ?_⟩
      rw [show d - k = (d - (k + 1)) + 1 from by omega]
      simpa using h2
theorem Fr.start (args : List Value) (n : Nat) : Fr (args.length + (n - args.length)) { tmps := args.toArray ++ Array.replicate (n - args.length) undef, defers := [] } (kvOf 0 args) := by
  refine ⟨by simp, rfl, fun d v h => ?_⟩
  obtain ⟨_, h2⟩ := lk_kvOf args 0 d v h
  rw [Nat.sub_zero] at h2
  have hl := (List.getElem?_eq_some_iff.1 h2)
  obtain ⟨hl, hv⟩ := hl
  have : (args.toArray ++ Array.replicate (n - args.length) undef)[d]? = some v := by
    rw [Array.getElem?_append_left (by simpa using hl)]
    simpa using h2
  unfold Act.eval
  simp only [Array.getD_eq_getD_getElem?, this, Option.getD_some]

/-- The body entered. -/
theorem enter {f : FuncId} {fn : Func} {c : Code} {args : List Value} {R : Ending → World → Prop} {n : Nat} (hf : P.funcs[f]? = some fn) (hb : fn.body = some c) (hn : fn.ntmps = n) (hl : args.length ≤ n)
    (h : ∀ a, Fr n a (kvOf 0 args) → c.wp P (bodyPost P fn R) a w) : Calls P f args.toArray w R := by
  refine calls_of_wp hf hb (h _ ?_)
  have := Fr.start args n
  rw [show args.length + (n - args.length) = n from by omega] at this
  rw [hn]
  simpa using this

/- what an operation does: what it leaves in its slot, and the world -/
def Does (P : Program) (o : Oper) (a : Act) (w : World) (R : Value → World → Prop) : Prop :=
  ∀ Q, o.wp P a w (fun a' w' => ∃ x, a' = a.put o.dst x ∧ R x w') Q
theorem Does.mono {R R' : Value → World → Prop} (h : Does P o a w R) (hr : ∀ x w', R x w' → R' x w') : Does P o a w R' :=
  fun Q => Oper.wp_mono (fun _ _ ⟨x, e, r⟩ => ⟨x, e, hr _ _ r⟩) (h Q)
theorem does_run {v : Value} {w' : World} (hr : (execOp a.eval o).run P w = .ok (.value v) w') : Does P o a w (fun x w'' => x = v ∧ w'' = w') := by
  intro Q
  unfold Oper.wp
  rw [hr]
  exact ⟨v, rfl, rfl, rfl⟩
theorem does_skip {w' : World} (hr : (execOp a.eval o).run P w = .ok .skip w') : Does P o a w (fun _ w'' => w'' = w') := by
  intro Q
  unfold Oper.wp
  rw [hr]
  exact ⟨undef, rfl, rfl⟩
theorem does_enter {f : FuncId} {args : Array Value} {v : Value} {R : World → Prop} (hr : (execOp a.eval o).run P w = .ok (.enter f args) w) (hc : Calls P f args w fun e w' => e = .returned v ∧ R w') :
    Does P o a w (fun x w' => x = v ∧ R w') := by
  intro Q
  unfold Oper.wp
  rw [hr]
  refine hc.mono ?_
  rintro e w' ⟨rfl, h⟩
  exact ⟨v, rfl, rfl, h⟩

/- a plain region -/
theorem nil (h : Q .normal a w) : wpList P ops Q [] a w := h
theorem wanted_none (hg : o.guard = none) (f : Nat → Option Bool) : Region.wanted o f = true := by unfold Region.wanted; rw [hg]
theorem wanted_on {j : Nat} {f : Nat → Option Bool} {b want : Bool} (hg : o.guard = some (j, want)) (hy : f j = some b) (hb : b = want) : Region.wanted o f = true := by unfold Region.wanted; rw [hg]; simp [hy, hb]
theorem wanted_off {j : Nat} {f : Nat → Option Bool} {b want : Bool} (hg : o.guard = some (j, want)) (hy : f j = some b) (hb : b = !want) : Region.wanted o f = false := by unfold Region.wanted; rw [hg]; subst hb; cases want <;> simp [hy]
theorem step {R : Value → World → Prop} (hg : Region.wanted o (yielded ops a.tmps) = true) (D : Does P o a w R) (h : ∀ x w', R x w' → wpList P ops Q rest (a.put o.dst x) w') : wpList P ops Q (o :: rest) a w := by
  unfold wpList
  rw [if_pos hg]
  refine .inl (Oper.wp_mono ?_ (D Q))
  rintro a' w' ⟨x, rfl, r⟩
  exact h x w' r
/-- it leaves a value; the world stays -/
theorem sv {n : Nat} {kv : List (Nat × Value)} {d : Nat} {v : Value} (F : Fr n a kv) (D : Does P o a w (fun x w' => x = v ∧ w' = w)) (hg : Region.wanted o (yielded ops a.tmps) = true) (hd : o.dst = some d) (hn : d < n)
    (h : ∀ a', Fr n a' ((d, v) :: kv) → wpList P ops Q rest a' w) : wpList P ops Q (o :: rest) a w := by
  refine step hg D ?_
  rintro x w' ⟨rfl, rfl⟩
  rw [hd]
  exact h _ (F.put hn _)
/-- it leaves a value and a world -/
theorem sw {n : Nat} {kv : List (Nat × Value)} {d : Nat} {v : Value} {R : World → Prop} (F : Fr n a kv) (D : Does P o a w (fun x w' => x = v ∧ R w')) (hg : Region.wanted o (yielded ops a.tmps) = true) (hd : o.dst = some d) (hn : d < n)
    (h : ∀ a' w', Fr n a' ((d, v) :: kv) → R w' → wpList P ops Q rest a' w') : wpList P ops Q (o :: rest) a w := by
  refine step hg D ?_
  rintro x w' ⟨rfl, r⟩
  rw [hd]
  exact h _ _ (F.put hn _) r
/-- a new block -/
theorem sb {n : Nat} {kv : List (Nat × Value)} {d : Nat} {R : Nat → World → Prop} (F : Fr n a kv) (D : Does P o a w (fun x w' => ∃ g, x = .pointer (some ⟨g, 0, none⟩) ∧ R g w')) (hg : Region.wanted o (yielded ops a.tmps) = true) (hd : o.dst = some d) (hn : d < n)
    (h : ∀ g a' w', Fr n a' ((d, .pointer (some ⟨g, 0, none⟩)) :: kv) → R g w' → wpList P ops Q rest a' w') : wpList P ops Q (o :: rest) a w := by
  refine step hg D ?_
  rintro x w' ⟨g, rfl, r⟩
  rw [hd]
  exact h g _ _ (F.put hn _) r
/-- a value that hangs on a new block -/
theorem sg {n : Nat} {kv : List (Nat × Value)} {d : Nat} {mk : Nat → Value} {R : Nat → World → Prop} (F : Fr n a kv) (D : Does P o a w (fun x w' => ∃ g, x = mk g ∧ R g w')) (hg : Region.wanted o (yielded ops a.tmps) = true) (hd : o.dst = some d) (hn : d < n)
    (h : ∀ g a' w', Fr n a' ((d, mk g) :: kv) → R g w' → wpList P ops Q rest a' w') : wpList P ops Q (o :: rest) a w := by
  refine step hg D ?_
  rintro x w' ⟨g, rfl, r⟩
  rw [hd]
  exact h g _ _ (F.put hn _) r
/-- a store -/
theorem ss {n : Nat} {kv : List (Nat × Value)} {R : World → Prop} (F : Fr n a kv) (D : Does P o a w (fun _ w' => R w')) (hg : Region.wanted o (yielded ops a.tmps) = true) (hd : o.dst = none)
    (h : ∀ a' w', Fr n a' kv → R w' → wpList P ops Q rest a' w') : wpList P ops Q (o :: rest) a w := by
  refine step hg D ?_
  intro x w' r
  rw [hd]
  exact h _ _ (F.put0 _) r

theorem guard_known {n : Nat} {kv : List (Nat × Value)} {j d : Nat} {b : Bool} (F : Fr n a kv) (hd : ((ops[j]?).bind (·.dst)) = some d) (hb : lk kv d = some (.bool b)) : yielded ops a.tmps j = some b := by
  have h : a.tmps.getD d undef = .bool b := F.get d _ hb
  unfold yielded
  rw [hd]
  simp only [Option.bind_some]
  cases ht : a.tmps[d]? with
  | none => rw [Array.getD_eq_getD_getElem?, ht] at h; cases h
  | some x => rw [Array.getD_eq_getD_getElem?, ht] at h; simp only [Option.getD_some] at h; rw [h]
/-- not wanted -/
theorem su {n : Nat} {kv : List (Nat × Value)} {d : Nat} (F : Fr n a kv) (hg : Region.wanted o (yielded ops a.tmps) = false) (hd : o.dst = some d) (hn : d < n) (h : ∀ a', Fr n a' ((d, undef) :: kv) → wpList P ops Q rest a' w) : wpList P ops Q (o :: rest) a w := by
  unfold wpList
  rw [if_neg (by rw [hg]; simp), hd]
  exact h _ (F.put hn _)
theorem su0 {n : Nat} {kv : List (Nat × Value)} (F : Fr n a kv) (hg : Region.wanted o (yielded ops a.tmps) = false) (hd : o.dst = none) (h : ∀ a', Fr n a' kv → wpList P ops Q rest a' w) : wpList P ops Q (o :: rest) a w := by
  unfold wpList
  rw [if_neg (by rw [hg]; simp), hd]
  exact h _ (F.put0 _)

/- the operations -/
theorem d_box {n : Nat} {kv : List (Nat × Value)} {bs : List Bx} {rs : List Rx} {T : TypeId} {x : Operand} {v : Value} (F : Fr n a kv) (H : Own w0 w bs rs K) (ho : o.op = .box T x) (hx : ev kv x = some v) (cs : List Value) (hc : v.cells.toList = cs) :
    Does P o a w (fun x w' => ∃ g, x = .pointer (some ⟨g, 0, none⟩) ∧ Own w0 w' ((true, g, cs) :: bs) rs K) := by
  have hr : (execOp a.eval o).run P w = .ok (.value (.pointer (some ⟨w.heap.size, 0, none⟩))) (w.alloc (.cells v.cells T)) := by
    unfold execOp; rw [ho]; simp only [F.ev hx]; rfl
  refine (does_run hr).mono ?_
  rintro x w' ⟨rfl, rfl⟩
  refine ⟨_, rfl, ?_⟩
  have := H.cons v.cells T
  rw [hc] at this
  exact this
def zeroIs (P : Program) (T : TypeId) (cs : List Value) : Prop := ∃ z : Value, z.cells.toList = cs ∧ ∀ w : World, (zeroValue T).run P w = .ok z w
theorem run_alloc' {T : TypeId} {z : Value} (hz : ∀ w : World, (zeroValue T).run P w = .ok z w) (w : World) : (Instr.alloc T true (.tuple #[])).run P w = .ok (.pointer (some ⟨w.heap.size, 0, none⟩)) (w.alloc (.cells z.cells T)) := by
  unfold Instr.alloc
  rw [Sem.run_bind, hz w]
  rfl
theorem d_alloc {bs : List Bx} {rs : List Rx} {T : TypeId} (H : Own w0 w bs rs K) (ho : o.op = .alloc T) (cs : List Value) (hz : zeroIs P T cs) :
    Does P o a w (fun x w' => ∃ g, x = .pointer (some ⟨g, 0, none⟩) ∧ Own w0 w' ((true, g, cs) :: bs) rs K) := by
  obtain ⟨z, hzc, hz⟩ := hz
  have hr : (execOp a.eval o).run P w = .ok (.value (.pointer (some ⟨w.heap.size, 0, none⟩))) (w.alloc (.cells z.cells T)) := by
    unfold execOp; rw [ho]; simp only [Sem.run_bind, run_alloc' hz w]; rfl
  refine (does_run hr).mono ?_
  rintro x w' ⟨rfl, rfl⟩
  refine ⟨_, rfl, ?_⟩
  have := H.cons z.cells T
  rw [hzc] at this
  exact this
/-- an alloc of which a place is kept -/
theorem d_alloc_at {bs : List Bx} {rs : List Rx} {T : TypeId} (H : Own w0 w bs rs K) (ho : o.op = .alloc T) (i : Nat) (cs : List Value) (hz : zeroIs P T cs) :
    Does P o a w (fun x w' => ∃ g, x = .pointer (some ⟨g, 0, none⟩) ∧ Own w0 w' (bs.set i (true, g, cs)) rs K) := by
  obtain ⟨z, hzc, hz⟩ := hz
  have hr : (execOp a.eval o).run P w = .ok (.value (.pointer (some ⟨w.heap.size, 0, none⟩))) (w.alloc (.cells z.cells T)) := by
    unfold execOp; rw [ho]; simp only [Sem.run_bind, run_alloc' hz w]; rfl
  refine (does_run hr).mono ?_
  rintro x w' ⟨rfl, rfl⟩
  refine ⟨_, rfl, ?_⟩
  have := H.fresh i z.cells T
  rw [hzc] at this
  exact this
/-- a type of rows or structs, of so many cells -/
def rowT (P : Program) (T : TypeId) (n : Nat) : Prop := (P.underlying T).map TypeDesc.isRow = some true ∧ (P.info? T).map (·.size) = some n
theorem rowT.row {T : TypeId} {n : Nat} (h : rowT P T n) : (∃ d, P.underlying T = some d ∧ d.isRow = true) ∧ (P.info? T).map (·.size) = some n := ⟨Option.map_eq_some_iff.1 h.1, h.2⟩
/-- a type of one cell -/
def oneT (P : Program) (T : TypeId) : Prop := (∀ w : World, (isAgg T).run P w = .ok false w) ∧ (P.info? T).map (·.size) = some 1
theorem d_load {n : Nat} {kv : List (Nat × Value)} {bs : List Bx} {rs : List Rx} {T m : Nat} {x : Operand} {b k i : Nat} {vs xs : List Value} (hT : rowT P T m) (F : Fr n a kv) (H : Own w0 w bs rs K) (ho : o.op = .load T x) (hx : ev kv x = some (.pointer (some ⟨b, k, none⟩)))
    (hi : bs[i]? = some (true, b, vs)) (hxs : (vs.drop k).take m = xs) (hl : xs.length = m) : Does P o a w (fun x w' => x = .agg xs.toArray ∧ w' = w) := by
  obtain ⟨⟨d, hu, hd⟩, hs⟩ := hT.row
  refine does_run ?_
  have hr := run_loadAt_mid (P := P) w b k T xs d (H.range hi k (by rw [hl, hxs])) hu hd (by rw [hs, hl])
  unfold execOp; rw [ho]; simp only [F.ev hx, Sem.run_bind, hr]; rfl
theorem run_loadVar1 {T : TypeId} (hT : oneT P T) {b k : Nat} {v : Value} (hc : w.cell? ⟨b, k, none⟩ = some v) : (loadVar T ⟨b, k, none⟩).run P w = .ok v w := by
  unfold loadVar
  rw [Sem.run_bind, hT.1 w]
  simp only [Result.andThen_ok, Bool.false_eq_true, if_false]
  rw [run_load, hc]
theorem d_load1 {n : Nat} {kv : List (Nat × Value)} {bs : List Bx} {rs : List Rx} {T : Nat} {x : Operand} {b k i : Nat} {vs : List Value} {v : Value} (hT : oneT P T) (F : Fr n a kv) (H : Own w0 w bs rs K) (ho : o.op = .load T x) (hx : ev kv x = some (.pointer (some ⟨b, k, none⟩)))
    (hi : bs[i]? = some (true, b, vs)) (hv : vs[k]? = some v) : Does P o a w (fun x w' => x = v ∧ w' = w) := by
  refine does_run ?_
  have hc := ((H.box i b vs hi).1 k v hv).1
  have hr : (Instr.loadAt T (.pointer (some ⟨b, k, none⟩))).run P w = .ok v w := by
    simp only [Instr.loadAt, Instr.sureAddr, Sem.run_bind, Sem.run_pure, Result.andThen_ok, run_loadVar1 hT hc]
  unfold execOp; rw [ho]; simp only [F.ev hx, Sem.run_bind, hr]; rfl
def ones (xs : List Value) : Bool := xs.all (·.oneCell')
theorem d_store {n : Nat} {kv : List (Nat × Value)} {bs : List Bx} {rs : List Rx} {T : Nat} {x y : Operand} {b k i : Nat} {vs xs : List Value} {m : Nat} {v : Value} (hT : (P.info? T).map (·.size) = some m) (F : Fr n a kv) (H : Own w0 w bs rs K) (ho : o.op = .store T x y) (hx : ev kv x = some (.pointer (some ⟨b, k, none⟩)))
    (hy : ev kv y = some v) (hc : v.cells.toList = xs) (hm : xs.length = m) (h1 : ones xs = true) (hi : bs[i]? = some (true, b, vs)) (hk : k + m ≤ vs.length) {us : List Value} (hu : splice vs k xs = us) : Does P o a w (fun _ w' => Own w0 w' (bs.set i (true, b, us)) rs K) := by
  have ht := there_of (H.box i b vs hi).1 k m hk
  have hsz : v.cells.size = m := by rw [← hm, ← hc]; simp
  have hr : (storeVar T ⟨b, k, none⟩ v).run P w = .ok () (w.setCells b k xs) := by
    have := run_storeCells_cells (P := P) b k xs 0 w (fun j hj => by simpa using (ht j (by omega)).1) (fun j hj => by simpa using (ht j (by omega)).2) (fun u hu => List.all_eq_true.1 h1 u hu)
    simp only [Nat.add_zero] at this
    cases hq : P.info? T with
    | none => simp [hq] at hT
    | some i =>
      have hs : v.cells.size = i.size := by simp [hq] at hT; omega
      simp [storeVar, sizeOf, typeInfo, hq, hs, hc, this]
  have hr' : (execOp a.eval o).run P w = .ok .skip (w.setCells b k xs) := by
    unfold execOp; rw [ho]
    simp only [F.ev hx, F.ev hy, Instr.storeAt, Instr.sureAddr, Sem.run_bind, Sem.run_pure, Result.andThen_ok, hr]
  refine (does_skip hr').mono ?_
  rintro x w' rfl
  have := H.store hi k xs (by omega)
  rw [hu] at this
  exact this
/-- what only computes -/
theorem d_pure {v : Value} (hr : (execOp a.eval o).run P w = .ok (.value v) w) : Does P o a w (fun x w' => x = v ∧ w' = w) := does_run hr
theorem d_bin {n : Nat} {kv : List (Nat × Value)} {op : BinOp} {T yT : TypeId} {x y : Operand} {vx vy v : Value} (F : Fr n a kv) (ho : o.op = .binOp op T x y yT) (hx : ev kv x = some vx) (hy : ev kv y = some vy)
    (hr : (do eqGuard op T x y vx vy; binOp op T vx vy : Sem Value).run P w = .ok v w) : Does P o a w (fun x w' => x = v ∧ w' = w) := by
  refine does_run ?_
  unfold execOp; rw [ho]; simp only [F.ev hx, F.ev hy]
  rw [Sem.run_bind, hr]; rfl
theorem d_un {n : Nat} {kv : List (Nat × Value)} {op : UnOp} {T : TypeId} {x : Operand} {vx v : Value} (F : Fr n a kv) (ho : o.op = .unOp op T x) (hx : ev kv x = some vx) (hr : (Op.unary op vx).run P w = .ok v w) : Does P o a w (fun x w' => x = v ∧ w' = w) := by
  refine does_run ?_
  unfold execOp; rw [ho]; simp only [F.ev hx]
  rw [Sem.run_bind, hr]; rfl
theorem d_conv {n : Nat} {kv : List (Nat × Value)} {S T : TypeId} {x : Operand} {vx v : Value} (F : Fr n a kv) (ho : o.op = .convert S T x) (hx : ev kv x = some vx) (hr : (convert S T vx).run P w = .ok v w) : Does P o a w (fun x w' => x = v ∧ w' = w) := by
  refine does_run ?_
  unfold execOp; rw [ho]; simp only [F.ev hx]
  rw [Sem.run_bind, hr]; rfl
theorem d_field {n : Nat} {kv : List (Nat × Value)} {T k : Nat} {x : Operand} {vx v : Value} (F : Fr n a kv) (ho : o.op = .field T x k) (hx : ev kv x = some vx) (hr : (Instr.field T vx k).run P w = .ok v w) : Does P o a w (fun x w' => x = v ∧ w' = w) := by
  refine does_run ?_
  unfold execOp; rw [ho]; simp only [F.ev hx]
  rw [Sem.run_bind, hr]; rfl
theorem d_faddr {n : Nat} {kv : List (Nat × Value)} {T k : Nat} {x : Operand} {vx v : Value} (F : Fr n a kv) (ho : o.op = .fieldAddr T x k) (hx : ev kv x = some vx) (hr : (Instr.fieldAt T vx k).run P w = .ok v w) : Does P o a w (fun x w' => x = v ∧ w' = w) := by
  refine does_run ?_
  unfold execOp; rw [ho]; simp only [F.ev hx]
  rw [Sem.run_bind, hr]; rfl
theorem d_index {n : Nat} {kv : List (Nat × Value)} {T : Nat} {x y : Operand} {vx vy v : Value} (F : Fr n a kv) (ho : o.op = .index T x y) (hx : ev kv x = some vx) (hy : ev kv y = some vy) (hr : (Instr.index T vx vy).run P w = .ok v w) : Does P o a w (fun x w' => x = v ∧ w' = w) := by
  refine does_run ?_
  unfold execOp; rw [ho]; simp only [F.ev hx, F.ev hy]
  rw [Sem.run_bind, hr]; rfl
theorem d_iaddr {n : Nat} {kv : List (Nat × Value)} {T : Nat} {x y : Operand} {vx vy v : Value} (F : Fr n a kv) (ho : o.op = .indexAddr T x y) (hx : ev kv x = some vx) (hy : ev kv y = some vy) (hr : (Instr.indexAt T vx vy).run P w = .ok v w) : Does P o a w (fun x w' => x = v ∧ w' = w) := by
  refine does_run ?_
  unfold execOp; rw [ho]; simp only [F.ev hx, F.ev hy]
  rw [Sem.run_bind, hr]; rfl
theorem d_extract {n : Nat} {kv : List (Nat × Value)} {k : Nat} {x : Operand} {vs : Array Value} {v : Value} (F : Fr n a kv) (ho : o.op = .extract x k) (hx : ev kv x = some (.tuple vs)) (hv : vs[k]? = some v) : Does P o a w (fun x w' => x = v ∧ w' = w) := by
  refine does_run ?_
  unfold execOp; rw [ho]; simp only [F.ev hx, Instr.extract, hv]
  rfl
theorem d_move {n : Nat} {kv : List (Nat × Value)} {x : Operand} {v : Value} (F : Fr n a kv) (ho : o.op = .move x ∨ o.op = .assign x) (hx : ev kv x = some v) : Does P o a w (fun x w' => x = v ∧ w' = w) := by
  refine does_run ?_
  rcases ho with ho | ho <;> (unfold execOp; rw [ho]; simp only [F.ev hx]; rfl)
theorem parts_eq {n : Nat} {kv : List (Nat × Value)} {ps : Array (Nat × Operand)} {qs : Array (Nat × Value)} (F : Fr n a kv) (hp : ps.toList.map (fun p => (ev kv p.2).map (fun v => (p.1, v))) = qs.toList.map some) : (ps.map fun (i, x) => (i, a.eval x)) = qs := by
  apply Array.ext'
  rw [Array.toList_map]
  generalize ps.toList = l at hp
  generalize qs.toList = r at hp
  induction l generalizing r with
  | nil => cases r with
    | nil => rfl
    | cons _ _ => simp at hp
  | cons p l ih => cases r with
    | nil => simp at hp
    | cons q r =>
      simp only [List.map_cons, List.cons.injEq] at hp ⊢
      obtain ⟨h1, h2⟩ := hp
      refine ⟨?_, ih r h2⟩
      cases hv : ev kv p.2 with
      | none => rw [hv] at h1; cases h1
      | some u => rw [hv] at h1; rw [F.ev hv]; exact Option.some.inj h1
theorem d_build {n : Nat} {kv : List (Nat × Value)} {T : Nat} {ps : Array (Nat × Operand)} {qs : Array (Nat × Value)} {v : Value} (F : Fr n a kv) (ho : o.op = .build T ps) (hp : ps.toList.map (fun p => (ev kv p.2).map (fun v => (p.1, v))) = qs.toList.map some) (hr : (Instr.build T qs).run P w = .ok v w) :
    Does P o a w (fun x w' => x = v ∧ w' = w) := by
  have e : ps.map (fun p => (p.1, a.eval p.2)) = qs := by
    apply Array.ext'
    rw [Array.toList_map]
    generalize ps.toList = l at hp
    generalize qs.toList = r at hp
    clear hr
    induction l generalizing r with
    | nil => cases r with
      | nil => rfl
      | cons _ _ => simp at hp
    | cons p l ih => cases r with
      | nil => simp at hp
      | cons q r =>
        simp only [List.map_cons, List.cons.injEq] at hp ⊢
        obtain ⟨h1, h2⟩ := hp
        refine ⟨?_, ih r h2⟩
        cases hv : ev kv p.2 with
        | none => rw [hv] at h1; cases h1
        | some u => rw [hv] at h1; rw [F.ev hv]; exact Option.some.inj h1
  refine does_run ?_
  unfold execOp; rw [ho]
  show (do let x ← Instr.build T (ps.map fun (i, x) => (i, a.eval x)); Pure.pure (Next.value x) : Sem Next).run P w = _
  rw [show (ps.map fun (i, x) => (i, a.eval x)) = qs from e, Sem.run_bind, hr]; rfl
theorem args_eq {n : Nat} {kv : List (Nat × Value)} (F : Fr n a kv) {xs : Array Operand} {vs : List Value} (h : xs.toList.map (ev kv) = vs.map some) : xs.map a.eval = vs.toArray := by
  apply Array.ext'
  rw [Array.toList_map]
  generalize xs.toList = l at h
  show _ = vs
  induction l generalizing vs with
  | nil => cases vs with
    | nil => rfl
    | cons _ _ => simp at h
  | cons p l ih => cases vs with
    | nil => simp at h
    | cons q r =>
      simp only [List.map_cons, List.cons.injEq] at h ⊢
      exact ⟨F.ev h.1, ih h.2⟩
/-- a function of the program's own -/
def isFn (P : Program) (f : FuncId) : Prop := ∀ (args : Array Value) (w : World), (callFunc f args).run P w = .ok (.enter f args) w
theorem run_call {n : Nat} {kv : List (Nat × Value)} {f : FuncId} {xs : Array Operand} {ts : Array TypeId} {vs : List Value} (F : Fr n a kv) (ho : o.op = .call { callee := .value (.func f), args := xs, argTypes := ts }) (hxs : xs.toList.map (ev kv) = vs.map some) :
    execOp a.eval o = callFunc f vs.toArray := by
  unfold execOp; rw [ho]
  simp only [resolve, args_eq F hxs, Act.eval, Deferred.ofValue]
  show invoke (.fn (.func f) #[]) (#[] ++ vs.toArray) = _
  simp [invoke]
theorem d_call {n : Nat} {kv : List (Nat × Value)} {bs : List Bx} {rs : List Rx} {f : FuncId} {xs : Array Operand} {ts : Array TypeId} {vs : List Value} {v : Value} (hf : isFn P f) (F : Fr n a kv) (H : Own w0 w bs rs K) (ho : o.op = .call { callee := .value (.func f), args := xs, argTypes := ts }) (hxs : xs.toList.map (ev kv) = vs.map some)
    (hc : Calls P f vs.toArray w fun e w' => e = .returned v ∧ Below w.heap.size w w') : Does P o a w (fun x w' => x = v ∧ Own w0 w' bs rs K) := by
  refine (does_enter (by rw [run_call F ho hxs]; exact hf _ w) hc).mono ?_
  rintro x w' ⟨rfl, h⟩
  exact ⟨rfl, H.call h⟩
/-- of a call that leaves the world as it is -/
theorem d_callq {n : Nat} {kv : List (Nat × Value)} {f : FuncId} {xs : Array Operand} {ts : Array TypeId} {vs : List Value} {v : Value} (hf : isFn P f) (F : Fr n a kv) (ho : o.op = .call { callee := .value (.func f), args := xs, argTypes := ts }) (hxs : xs.toList.map (ev kv) = vs.map some)
    (hc : Calls P f vs.toArray w fun e w' => e = .returned v ∧ w = w') : Does P o a w (fun x w' => x = v ∧ w' = w) := by
  refine (does_enter (by rw [run_call F ho hxs]; exact hf _ w) hc).mono ?_
  rintro x w' ⟨rfl, h⟩
  exact ⟨rfl, h.symm⟩
/-- of a function of the model's own -/
theorem d_ext {n : Nat} {kv : List (Nat × Value)} {f : FuncId} {xs : Array Operand} {ts : Array TypeId} {vs : List Value} {v : Value} (F : Fr n a kv) (ho : o.op = .call { callee := .value (.func f), args := xs, argTypes := ts }) (hxs : xs.toList.map (ev kv) = vs.map some)
    (hc : (callFunc f vs.toArray).run P w = .ok (.value v) w) : Does P o a w (fun x w' => x = v ∧ w' = w) :=
  does_run (by rw [run_call F ho hxs, hc])

/- a region that draws its order -/
/-- what one waits for -/
def up (l : List Oper) (j : Nat) : List Nat := match l[j]? with | some o => Inv.waits o | none => []
def depkv (l : List Oper) (C : List (Option Value)) : List Nat → List (Nat × Value)
  | [] => []
  | j :: r => match (l[j]?).bind (·.dst), C[j]? with
    | some d, some (some c) => (d, c) :: depkv l C r
    | _, _ => depkv l C r
def dsts (l : List Oper) : List Nat := l.filterMap (·.dst)
def nodupB : List Nat → Bool
  | [] => true
  | d :: r => !r.contains d && nodupB r
/-- the slots of a region are new, and each one's own -/
def slotsOk (n : Nat) (kv : List (Nat × Value)) (l : List Oper) : Bool := nodupB (dsts l) && (dsts l).all fun d => decide (d < n) && (lk kv d).isNone
/-- what is known of the frame -/
structure Kn (n : Nat) (kv : List (Nat × Value)) (l : List Oper) (C : List (Option Value)) (L : Nat → Bool) (a : Act) : Prop where
  fr : Fr n a kv
  get : ∀ (j : Nat) (o : Oper) (c : Value) (d : Nat), l[j]? = some o → o.dst = some d → C[j]? = some (some c) → L j = true → a.eval (.tmp d) = c
theorem Fr.add {n : Nat} {kv : List (Nat × Value)} (h : Fr n a kv) {d : Nat} {v : Value} (hv : a.eval (.tmp d) = v) : Fr n a ((d, v) :: kv) := by
  refine ⟨h.size, h.defers, fun k u hk => ?_⟩
  unfold lk at hk
  cases hb : Nat.beq d k with
  | true => rw [hb] at hk; obtain rfl := Nat.eq_of_beq_eq_true hb; rw [hv]; exact Option.some.inj hk
  | false => rw [hb] at hk; exact h.get k u hk
theorem Kn.deps {n : Nat} {kv : List (Nat × Value)} {l : List Oper} {C : List (Option Value)} {L : Nat → Bool} (h : Kn n kv l C L a) : ∀ (js : List Nat), (∀ j ∈ js, L j = true) → Fr n a (depkv l C js ++ kv)
  | [], _ => h.fr
  | j :: r, hj => by
    have ih := h.deps r (fun k hk => hj k (List.mem_cons_of_mem _ hk))
    unfold depkv
    split
    · rename_i d c hd hc
      obtain ⟨o, ho, hod⟩ := Option.bind_eq_some_iff.1 hd
      exact Fr.add ih (h.get j o c d ho hod hc (hj j (List.mem_cons_self ..)))
    · exact ih
theorem nodupB_spec : ∀ {l : List Nat}, nodupB l = true → l.Nodup
  | [], _ => List.nodup_nil
  | d :: r, h => by
    simp only [nodupB, Bool.and_eq_true, Bool.not_eq_true'] at h
    exact List.nodup_cons.2 ⟨by simpa using h.1, nodupB_spec h.2⟩
theorem dsts_inj : ∀ {l : List Oper}, (dsts l).Nodup → ∀ {i j : Nat} {o p : Oper} {d : Nat}, l[i]? = some o → l[j]? = some p → o.dst = some d → p.dst = some d → i = j
  | [], _, i, j, o, p, d, h, _, _, _ => by simp at h
  | x :: l, hn, i, j, o, p, d, hi, hj, ho, hp => by
    have mem : ∀ {k : Nat} {q : Oper}, l[k]? = some q → q.dst = some d → d ∈ dsts l := fun hk hq => List.mem_filterMap.2 ⟨_, List.mem_of_getElem? hk, hq⟩
    cases i with
    | zero => cases j with
      | zero => rfl
      | succ j =>
        simp at hi hj
        subst hi
        unfold dsts at hn
        rw [List.filterMap_cons_some ho] at hn
        exact absurd (mem hj hp) (List.nodup_cons.1 hn).1
    | succ i => cases j with
      | zero =>
        simp at hi hj
        subst hj
        unfold dsts at hn
        rw [List.filterMap_cons_some hp] at hn
        exact absurd (mem hi ho) (List.nodup_cons.1 hn).1
      | succ j =>
        simp at hi hj
        have hn' : (dsts l).Nodup := by
          unfold dsts at hn ⊢
          cases hx : x.dst with
          | none => rwa [List.filterMap_cons_none hx] at hn
          | some e => rw [List.filterMap_cons_some hx] at hn; exact (List.nodup_cons.1 hn).2
        rw [dsts_inj hn' hi hj ho hp]
theorem Kn.put {n : Nat} {kv : List (Nat × Value)} {l : List Oper} {C : List (Option Value)} {L : Nat → Bool} (hs : slotsOk n kv l = true) (h : Kn n kv l C L a) {i : Nat} {x : Value} (hi : l[i]? = some o) (hx : ∀ c, C[i]? = some (some c) → x = c) :
    Kn n kv l C (Inv.add L i) (a.put o.dst x) := by
  unfold slotsOk at hs
  rw [Bool.and_eq_true] at hs
  have hnd := nodupB_spec hs.1
  cases hd : o.dst with
  | none =>
    refine ⟨h.fr, fun j p c d hj hp hc hL => ?_⟩
    rw [Inv.add_eq] at hL
    simp only [Bool.or_eq_true, beq_iff_eq] at hL
    rcases hL with rfl | hL
    · rw [hi] at hj; cases hj; rw [hd] at hp; cases hp
    · exact h.get j p c d hj hp hc hL
  | some e =>
    have hmem : e ∈ dsts l := List.mem_filterMap.2 ⟨_, List.mem_of_getElem? hi, hd⟩
    have h2 := List.all_eq_true.1 hs.2 e hmem
    rw [Bool.and_eq_true] at h2
    have hen : e < n := by simpa using h2.1
    have hnone : lk kv e = none := by simpa using h2.2
    refine ⟨⟨by simp [Act.put, h.fr.size], h.fr.defers, fun k v hk => ?_⟩, fun j p c d hj hp hc hL => ?_⟩
    · rw [Act.eval_put (fun d' hd' he => by cases hd'; cases he; rw [hnone] at hk; cases hk)]
      exact h.fr.get k v hk
    · by_cases hji : j = i
      · subst hji
        rw [hi] at hj; cases hj
        rw [hd] at hp; cases hp
        have := (h.fr.put hen x).get e x (by unfold lk; rw [Nat.beq_refl]; rfl)
        rw [this]; exact hx c hc
      · have hne : e ≠ d := fun he => hji (dsts_inj hnd hj hi hp (he ▸ hd))
        rw [Inv.add_eq, beq_false_of_ne hji, Bool.false_or] at hL
        rw [Act.eval_put (fun d' hd' he => by cases hd'; cases he; exact hne rfl)]
        exact h.get j p c d hj hp hc hL

/-- One operation of the region, by what is known when it comes up. -/
def StepAt (P : Program) (n : Nat) (kv : List (Nat × Value)) (l : List Oper) (C : List (Option Value)) (S : (Nat → Bool) → Act → World → Prop) (o : Oper) (i : Nat) : Prop :=
  ∀ (L : Nat → Bool) (a : Act) (w : World), (∀ j k, (up l j).contains k = true → L k = false → L j = false) → L i = false → (∀ j, (Inv.waits o).contains j = true → L j = true) → Fr n a (depkv l C (Inv.waits o) ++ kv) → S L a w →
    ∃ W : Bool, Region.wanted o (yielded l.toArray a.tmps) = W ∧ if W = true then Does P o a w (fun x w' => (∀ c, C[i]? = some (some c) → x = c) ∧ S (Inv.add L i) (a.put o.dst x) w') else (∀ c, C[i]? = some (some c) → undef = c) ∧ S (Inv.add L i) (a.put o.dst undef) w
def Steps (T : Oper → Nat → Prop) : List Oper → Nat → Prop
  | [], _ => True
  | o :: l, i => T o i ∧ Steps T l (i + 1)
theorem Steps.get {T : Oper → Nat → Prop} : ∀ {l : List Oper} {k : Nat}, Steps T l k → ∀ {i : Nat} {o : Oper}, l[i]? = some o → T o (k + i)
  | [], _, _, i, o, h => by simp at h
  | a :: l, k, ⟨h1, h2⟩, i, o, h => by
    cases i with
    | zero => simp at h; subst h; exact h1
    | succ i => have := Steps.get h2 (i := i) (o := o) (by simpa using h); rwa [show k + 1 + i = k + (i + 1) from by omega] at this
theorem drawn {n id : Nat} {kv : List (Nat × Value)} {l : List Oper} (F : Fr n a kv) (hm : P.follows .mixedOrders = true) (he : Inv.early l = true) (hs : slotsOk n kv l = true) (C : List (Option Value)) (S : (Nat → Bool) → Act → World → Prop)
    (h0 : S (fun _ => false) a w.drew) (steps : Steps (StepAt P n kv l C S) l 0)
    (fin : ∀ L a w, (∀ i, Nat.blt i l.length = true → L i = true) → Fr n a (depkv l C (List.range l.length) ++ kv) → S L a w → Q .normal a w) :
    (Code.region id l.toArray true).wp P Q a w := by
  refine wp_region_any hm ?_
  refine Inv.any_inv he (fun L a w => Kn n kv l C L a ∧ S L a w) ?_ ?_ _ _ (fun _ => false) _ _ (by simp) ?_ ?_ ?_ ⟨⟨F, fun j o c d _ _ _ h => by cases h⟩, h0⟩
  · rintro L a w i o ho hC hi hd ⟨hk, hS⟩
    have st := steps.get ho
    rw [Nat.zero_add] at st
    obtain ⟨W, hW, st⟩ := st L a w (fun j k hjk hk' => by
      cases hj : L j with
      | false => rfl
      | true =>
        unfold up at hjk
        cases hl : l[j]? with
        | none => rw [hl] at hjk; cases hjk
        | some oj =>
          rw [hl] at hjk
          have := hC j oj (by simpa using hl) hj k (by simpa using hjk)
          rw [this] at hk'; cases hk') hi (fun j hj => hd j (by simpa using hj)) (hk.deps _ hd) hS
    unfold wpOp
    simp only [List.getElem?_toArray, ho]
    rw [hW]
    cases W with
    | true =>
      simp only [if_true] at st ⊢
      refine .inl (Oper.wp_mono ?_ (st Q))
      rintro a' w' ⟨x, rfl, hx, hS'⟩
      exact ⟨hk.put hs ho hx, hS'⟩
    | false =>
      simp only [Bool.false_eq_true, if_false] at st ⊢
      exact ⟨hk.put hs ho st.1, st.2⟩
  · rintro L a w hL ⟨hk, hS⟩
    refine fin L a w (fun i hi => hL i (by simpa [Nat.blt_eq] using hi)) (hk.deps _ (fun j hj => hL j (by simpa using hj))) hS
  · exact Nat.le_trans List.countP_le_length (by simp)
  · intro j; simp [Array.getD]
  · intro k ok _ h; cases h
theorem step_on {R : Value → World → Prop} {C : List (Option Value)} {S : World → Value → Prop} {i : Nat} {f : Nat → Option Bool} {X : Prop} (hg : o.guard = none) (D : Does P o a w R) (h : ∀ x w', R x w' → (∀ c, C[i]? = some (some c) → x = c) ∧ S w' x) :
    ∃ W : Bool, Region.wanted o f = W ∧ if W = true then Does P o a w (fun x w' => (∀ c, C[i]? = some (some c) → x = c) ∧ S w' x) else X :=
  ⟨true, wanted_none hg f, by simp only [if_true]; exact D.mono h⟩

/- ways -/
theorem seq {x y : Code} (h : ∀ K : Act → World → Prop, (∀ a w, y.wp P Q a w → K a w) → x.wp P (Exit.then K Q) a w) : (Code.seq x y).wp P Q a w := wp_seq_k h
theorem condT {n : Nat} {kv : List (Nat × Value)} {c : Operand} {x y : Code} (F : Fr n a kv) (hc : ev kv c = some (.bool true)) (h : x.wp P Q a w) : (Code.cond c x y).wp P Q a w := wp_cond_true (F.ev hc) h
theorem condF {n : Nat} {kv : List (Nat × Value)} {c : Operand} {x y : Code} (F : Fr n a kv) (hc : ev kv c = some (.bool false)) (h : y.wp P Q a w) : (Code.cond c x y).wp P Q a w := wp_cond_false (F.ev hc) h
theorem plain {id : Nat} {l : List Oper} (h : wpList P l.toArray Q l a w) : (Code.region id l.toArray false).wp P Q a w := wp_region_lit h

/- results -/
def resG (tmps : Array Value) : ResultVar → Sem Value
  | .tmp t => Pure.pure (tmps.getD t undef)
  | .cell a t => do loadVar t (← asAddr (tmps.getD a undef))
theorem results_eq (fn : Func) (tmps : Array Value) : results fn tmps = (do let vs ← fn.results.mapM (resG tmps); Pure.pure (if h : vs.size = 1 then vs[0] else .tuple vs)) := by
  unfold results
  congr 2
def resOf (P : Program) (tmps : Array Value) (w : World) (r : ResultVar) (v : Value) : Prop := (resG tmps r).run P w = .ok v w
theorem res_tmp {n : Nat} {kv : List (Nat × Value)} {t : Nat} {v : Value} (F : Fr n a kv) (h : lk kv t = some v) : resOf P a.tmps w (.tmp t) v := by
  have := F.get t v h
  unfold resOf resG
  unfold Act.eval at this
  simp only [this]
  rfl
theorem res_row {n : Nat} {kv : List (Nat × Value)} {bs : List Bx} {rs : List Rx} {t T m b k i : Nat} {vs xs : List Value} (hT : rowT P T m) (F : Fr n a kv) (H : Own w0 w bs rs K) (h : lk kv t = some (.pointer (some ⟨b, k, none⟩)))
    (hi : bs[i]? = some (true, b, vs)) (hxs : (vs.drop k).take m = xs) (hl : xs.length = m) : resOf P a.tmps w (.cell t T) (.agg xs.toArray) := by
  obtain ⟨⟨d, hu, hd⟩, hs⟩ := hT.row
  have hg := F.get t _ h
  have hr := run_loadVar_mid (P := P) w b k T xs d (H.range hi k (by rw [hl, hxs])) hu hd (by rw [hs, hl])
  unfold resOf resG
  unfold Act.eval at hg
  simp only [hg, asAddr, Sem.run_bind, Sem.run_pure, Result.andThen_ok, hr]
theorem res_one {n : Nat} {kv : List (Nat × Value)} {bs : List Bx} {rs : List Rx} {t T b k i : Nat} {vs : List Value} {v : Value} (hT : oneT P T) (F : Fr n a kv) (H : Own w0 w bs rs K) (h : lk kv t = some (.pointer (some ⟨b, k, none⟩)))
    (hi : bs[i]? = some (true, b, vs)) (hv : vs[k]? = some v) : resOf P a.tmps w (.cell t T) v := by
  have hg := F.get t _ h
  have hc := ((H.box i b vs hi).1 k v hv).1
  unfold resOf resG
  unfold Act.eval at hg
  simp only [hg, asAddr, Sem.run_bind, Sem.run_pure, Result.andThen_ok, run_loadVar1 hT hc]
theorem ret1 {n : Nat} {kv : List (Nat × Value)} {fn : Func} {R : Ending → World → Prop} {r : ResultVar} {v : Value} (F : Fr n a kv) (hrs : fn.results = #[r]) (h : resOf P a.tmps w r v) (hR : R (.returned v) w) : bodyPost P fn R .ret a w := by
  refine ⟨F.defers, v, ?_, hR⟩
  unfold resOf at h
  rw [results_eq, hrs]
  simp [Sem.run_bind, h]
theorem ret2 {n : Nat} {kv : List (Nat × Value)} {fn : Func} {R : Ending → World → Prop} {r s : ResultVar} {v u : Value} (F : Fr n a kv) (hrs : fn.results = #[r, s]) (h : resOf P a.tmps w r v) (h2 : resOf P a.tmps w s u) (hR : R (.returned (.tuple #[v, u])) w) : bodyPost P fn R .ret a w := by
  refine ⟨F.defers, _, ?_, hR⟩
  unfold resOf at h h2
  rw [results_eq, hrs]
  simp [Sem.run_bind, h, h2]
theorem ret3 {n : Nat} {kv : List (Nat × Value)} {fn : Func} {R : Ending → World → Prop} {r s t : ResultVar} {v u x : Value} (F : Fr n a kv) (hrs : fn.results = #[r, s, t]) (h : resOf P a.tmps w r v) (h2 : resOf P a.tmps w s u) (h3 : resOf P a.tmps w t x) (hR : R (.returned (.tuple #[v, u, x])) w) : bodyPost P fn R .ret a w := by
  refine ⟨F.defers, _, ?_, hR⟩
  unfold resOf at h h2 h3
  rw [results_eq, hrs]
  simp [Sem.run_bind, h, h2, h3]
/- loops and labels -/
def SubKv (kv : List (Nat × Value)) : List (Nat × Value) → Prop
  | [] => True
  | (d, v) :: r => lk kv d = some v ∧ SubKv kv r
theorem Fr.to {n : Nat} {kv : List (Nat × Value)} (h : Fr n a kv) {kv' : List (Nat × Value)} (hs : SubKv kv kv') : Fr n a kv' := by
  refine h.sub (fun p hp => ?_)
  clear h
  induction kv' with
  | nil => cases hp
  | cons q r ih =>
    rcases List.mem_cons.1 hp with rfl | hp
    · exact hs.1
    · exact ih hs.2 hp
theorem loop {c : Code} (I : Nat → Act → World → Prop) (n₀ : Nat) (h₀ : I n₀ a w)
    (round : ∀ n a w, I n a w → c.wp P (Exit.then (fun a' w' => ∃ n', n' < n ∧ I n' a' w') Q) a w) : (Code.loop c).wp P Q a w := wp_loop_ghost I n₀ h₀ round
theorem scope {c rest : Code} (l : Nat) (I : Nat → Act → World → Prop) (hf : findLabel c l = some (Code.skip.seq rest))
    (pass : ∀ n a w, I n a w → rest.wp P (Exit.jump l (fun a' w' => ∃ n', n' < n ∧ I n' a' w') Q) a w)
    (first : (∀ n a w, I n a w → rest.wp P (Exit.jump l (fun a' w' => ∃ n', I n' a' w') Q) a w) → c.wp P (Exit.jump l (fun a' w' => ∃ n', I n' a' w') Q) a w) : (Code.scope c).wp P Q a w := by
  refine wp_scope_jumps l (fun a w => ∃ n, I n a w) (fun a w => leastOf (fun n => I n a w)) hf (first fun n a w h => Code.wp_mono (fun e a' w' k => ?_) (pass n a w h)) (fun a w h => wp_seq (wp_skip (Code.wp_mono (fun e a' w' k => ?_) (pass _ a w (leastOf_spec h).1))))
  · cases e <;> first | exact k | exact ⟨k.1, k.2.imp fun _ h => h.2⟩
  · cases e with
    | goto l' =>
      obtain ⟨e, n', hlt, hI'⟩ := k
      exact ⟨e, ⟨n', hI'⟩, Nat.lt_of_le_of_lt ((leastOf_spec ⟨n', hI'⟩).2 n' hI') hlt⟩
    | normal => exact k
    | exit id => exact k
    | ret => exact k
    | panic ch => exact k
    | outgrown => exact k
theorem exit_here {id : Nat} (h : Q .normal a w) : Exit.inBlock id Q (.exit id) a w := by
  show (if id = id then Q .normal a w else Q (.exit id) a w)
  rw [if_pos rfl]; exact h
theorem put_ne {d e : Nat} (hne : Nat.beq d e = false) (x : Value) : (a.put (some d) x).eval (.tmp e) = a.eval (.tmp e) :=
  Act.eval_put (fun d' hd' he => by cases hd'; cases he; rw [Nat.beq_refl] at hne; cases hne)
theorem put_same {n : Nat} {kv : List (Nat × Value)} (F : Fr n a kv) {d : Nat} (hd : d < n) (x : Value) : (a.put (some d) x).eval (.tmp d) = x :=
  (F.put hd x).get d x (by unfold lk; rw [Nat.beq_refl]; rfl)

/- integers -/
theorem i_add64 {x y : Operand} {T : TypeId} (p q : BitVec 64) : (do eqGuard .add T x y (.int .u64 p.toNat) (.int .u64 q.toNat); binOp .add T (.int .u64 p.toNat) (.int .u64 q.toNat) : Sem Value).run P w = .ok (.int .u64 (p + q).toNat) w := by
  show Result.ok (Value.int .u64 (IntKind.u64.wrap ((p.toNat : Int) + (q.toNat : Int)))) w = _
  rw [IntKind.wrap_u64, add64]
theorem i_sub64 {x y : Operand} {T : TypeId} (p q : BitVec 64) : (do eqGuard .sub T x y (.int .u64 p.toNat) (.int .u64 q.toNat); binOp .sub T (.int .u64 p.toNat) (.int .u64 q.toNat) : Sem Value).run P w = .ok (.int .u64 (p - q).toNat) w := by
  show Result.ok (Value.int .u64 (IntKind.u64.wrap ((p.toNat : Int) - (q.toNat : Int)))) w = _
  rw [IntKind.wrap_u64, sub64]
theorem i_mul64 {x y : Operand} {T : TypeId} (p q : BitVec 64) : (do eqGuard .mul T x y (.int .u64 p.toNat) (.int .u64 q.toNat); binOp .mul T (.int .u64 p.toNat) (.int .u64 q.toNat) : Sem Value).run P w = .ok (.int .u64 (p * q).toNat) w := by
  show Result.ok (Value.int .u64 (IntKind.u64.wrap ((p.toNat : Int) * (q.toNat : Int)))) w = _
  rw [IntKind.wrap_u64, mul64]
theorem i_xor64 {x y : Operand} {T : TypeId} (p q : BitVec 64) : (do eqGuard .xor T x y (.int .u64 p.toNat) (.int .u64 q.toNat); binOp .xor T (.int .u64 p.toNat) (.int .u64 q.toNat) : Sem Value).run P w = .ok (.int .u64 (p ^^^ q).toNat) w := by
  rw [← xor64]; rfl
theorem i_or64 {x y : Operand} {T : TypeId} (p q : BitVec 64) : (do eqGuard .or T x y (.int .u64 p.toNat) (.int .u64 q.toNat); binOp .or T (.int .u64 p.toNat) (.int .u64 q.toNat) : Sem Value).run P w = .ok (.int .u64 (p ||| q).toNat) w := by
  rw [← or64]; rfl
theorem i_and64 {x y : Operand} {T : TypeId} (p q : BitVec 64) : (do eqGuard .and T x y (.int .u64 p.toNat) (.int .u64 q.toNat); binOp .and T (.int .u64 p.toNat) (.int .u64 q.toNat) : Sem Value).run P w = .ok (.int .u64 (p &&& q).toNat) w := by
  rw [← and64]; rfl
theorem i_eq {k : IntKind} {x y : Operand} {T : TypeId} {p q : Int} {r : Bool} (h : (p == q) = r) : (do eqGuard .eql T x y (.int k p) (.int k q); binOp .eql T (.int k p) (.int k q) : Sem Value).run P w = .ok (.bool r) w := by
  subst h; cases k <;> rfl
theorem i_ne {k : IntKind} {x y : Operand} {T : TypeId} {p q : Int} {r : Bool} (h : (p != q) = r) : (do eqGuard .neq T x y (.int k p) (.int k q); binOp .neq T (.int k p) (.int k q) : Sem Value).run P w = .ok (.bool r) w := by
  subst h; cases k <;> rfl
theorem i_lt {k : IntKind} {x y : Operand} {T : TypeId} {p q : Int} {r : Bool} (h : decide (p < q) = r) : (do eqGuard .lss T x y (.int k p) (.int k q); binOp .lss T (.int k p) (.int k q) : Sem Value).run P w = .ok (.bool r) w := by
  subst h; cases k <;> rfl
theorem i_le {k : IntKind} {x y : Operand} {T : TypeId} {p q : Int} {r : Bool} (h : decide (p ≤ q) = r) : (do eqGuard .leq T x y (.int k p) (.int k q); binOp .leq T (.int k p) (.int k q) : Sem Value).run P w = .ok (.bool r) w := by
  subst h; cases k <;> rfl
theorem i_gt {k : IntKind} {x y : Operand} {T : TypeId} {p q : Int} {r : Bool} (h : decide (p > q) = r) : (do eqGuard .gtr T x y (.int k p) (.int k q); binOp .gtr T (.int k p) (.int k q) : Sem Value).run P w = .ok (.bool r) w := by
  subst h; cases k <;> rfl
theorem i_ge {k : IntKind} {x y : Operand} {T : TypeId} {p q : Int} {r : Bool} (h : decide (p ≥ q) = r) : (do eqGuard .geq T x y (.int k p) (.int k q); binOp .geq T (.int k p) (.int k q) : Sem Value).run P w = .ok (.bool r) w := by
  subst h; cases k <;> rfl
theorem i_addS {x y : Operand} {T : TypeId} {p q r : Int} (h : IntKind.i64.wrap (p + q) = r) : (do eqGuard .add T x y (.int .i64 p) (.int .i64 q); binOp .add T (.int .i64 p) (.int .i64 q) : Sem Value).run P w = .ok (.int .i64 r) w := by
  subst h; rfl
theorem i_subS {x y : Operand} {T : TypeId} {p q r : Int} (h : IntKind.i64.wrap (p - q) = r) : (do eqGuard .sub T x y (.int .i64 p) (.int .i64 q); binOp .sub T (.int .i64 p) (.int .i64 q) : Sem Value).run P w = .ok (.int .i64 r) w := by
  subst h; rfl
theorem i_mulS {x y : Operand} {T : TypeId} {p q r : Int} (h : IntKind.i64.wrap (p * q) = r) : (do eqGuard .mul T x y (.int .i64 p) (.int .i64 q); binOp .mul T (.int .i64 p) (.int .i64 q) : Sem Value).run P w = .ok (.int .i64 r) w := by
  subst h; rfl
theorem in64 (z : Int) (h : -9223372036854775808 ≤ z ∧ z ≤ 9223372036854775807) : IntKind.i64.wrap z = z := by rw [IntKind.wrap_i64]; omega
theorem b_not {b : Bool} : (Op.unary .not (.bool b)).run P w = .ok (.bool (!b)) w := rfl
theorem Own.pad {bs : List Bx} {rs : List Rx} (h : Own w0 w bs rs K) (ps : List Bx) (hp : (ps.all fun p => !p.1) = true) (qs : List Rx) (hq : (qs.all fun p => !p.on) = true) : Own w0 w (bs ++ ps) (rs ++ qs) K := by
  have key : ∀ {i b : Nat} {vs : List Value}, (bs ++ ps)[i]? = some (true, b, vs) → bs[i]? = some (true, b, vs) := by
    intro i b vs hi
    by_cases hl : i < bs.length
    · rwa [List.getElem?_append_left hl] at hi
    · rw [List.getElem?_append_right (by omega)] at hi
      have := List.all_eq_true.1 hp _ (List.mem_of_getElem? hi)
      simp at this
  have key2 : ∀ {i : Nat} {r : Rx}, (rs ++ qs)[i]? = some r → r.on = true → rs[i]? = some r := by
    intro i r hi ho
    by_cases hl : i < rs.length
    · rwa [List.getElem?_append_left hl] at hi
    · rw [List.getElem?_append_right (by omega)] at hi
      have := List.all_eq_true.1 hq _ (List.mem_of_getElem? hi)
      simp [ho] at this
  exact ⟨h.below, fun i b vs hi => h.box i b vs (key hi), fun i j b vs us hi hj => h.nd i j b vs us (key hi) (key hj), fun i r hi ho => h.row i r (key2 hi ho) ho, fun i j b vs r hi hj ho => h.rb i j b vs r (key hi) (key2 hj ho) ho, fun i j g r s hi hj ho hs => h.rr i j g r s (key2 hi ho) (key2 hj hs) ho hs, fun k o hk => by
    obtain ⟨a, b, c, d⟩ := h.kp k o hk
    exact ⟨a, b, fun i vs hi => c i vs (key hi), fun i r hi ho => d i r (key2 hi ho) ho⟩⟩
theorem step_ong {R : Value → World → Prop} {C : List (Option Value)} {S : World → Value → Prop} {i j : Nat} {f : Nat → Option Bool} {b want : Bool} {X : Prop} (hg : o.guard = some (j, want)) (hy : f j = some b) (hb : b = want) (D : Does P o a w R) (h : ∀ x w', R x w' → (∀ c, C[i]? = some (some c) → x = c) ∧ S w' x) :
    ∃ W : Bool, Region.wanted o f = W ∧ if W = true then Does P o a w (fun x w' => (∀ c, C[i]? = some (some c) → x = c) ∧ S w' x) else X :=
  ⟨true, by unfold Region.wanted; rw [hg]; simp [hy, hb], by simp only [if_true]; exact D.mono h⟩
theorem step_off {j : Nat} {f : Nat → Option Bool} {b want : Bool} {X Y : Prop} (hg : o.guard = some (j, want)) (hy : f j = some b) (hb : b = !want) (h : Y) :
    ∃ W : Bool, Region.wanted o f = W ∧ if W = true then X else Y :=
  ⟨false, by unfold Region.wanted; rw [hg]; subst hb; cases want <;> simp [hy], by simp only [Bool.false_eq_true, if_false]; exact h⟩
theorem d_pickT {n : Nat} {kv : List (Nat × Value)} {c x y : Operand} {v : Value} (F : Fr n a kv) (ho : o.op = .pick c x y) (hc : ev kv c = some (.bool true)) (hx : ev kv x = some v) : Does P o a w (fun x w' => x = v ∧ w' = w) := by
  refine does_run ?_
  unfold execOp; rw [ho]; simp only [F.ev hc, F.ev hx]
  rfl
theorem d_pickF {n : Nat} {kv : List (Nat × Value)} {c x y : Operand} {v : Value} (F : Fr n a kv) (ho : o.op = .pick c x y) (hc : ev kv c = some (.bool false)) (hy : ev kv y = some v) : Does P o a w (fun x w' => x = v ∧ w' = w) := by
  refine does_run ?_
  unfold execOp; rw [ho]; simp only [F.ev hc, F.ev hy]
  rfl
end
end Sx
end Go.Proofs.Ytpbdffmgendboab
