/- A region that draws its order, walked once: each operation once, by what is known of those that it waits for. -/
import Derived.Test.YtpbdffmgendboabKit
namespace Go.Proofs.Ytpbdffmgendboab
open Go Go.RowKit

namespace Inv
section
variable {P : Program} {ops : Array Oper} {Q : Exit → Act → World → Prop}

def binds' (e : Edge) : Bool := Region.binds .any e
/-- the operations that one waits for -/
def waits (o : Oper) : List Nat := (o.after.toList.filter binds').map (·.on)
/-- each waits for earlier ones alone -/
def early (l : List Oper) : Bool := (l.zipIdx).all fun p => (waits p.1).all fun j => decide (j < p.2)

/-- what has come up brings along what it waits for -/
def Closed (ops : Array Oper) (L : Nat → Bool) : Prop := ∀ i o, ops[i]? = some o → L i = true → ∀ j ∈ waits o, L j = true

theorem ready_iff {listed : Array Bool} {i : Nat} (hs : listed.size = ops.size) : i ∈ Region.ready .any ops listed ↔
    i < ops.size ∧ listed.getD i false = false ∧ ∃ o, ops[i]? = some o ∧ ∀ j ∈ waits o, listed.getD j false = true := by
  unfold Region.ready
  simp only [List.mem_filter, List.mem_range, Bool.and_eq_true, Bool.not_eq_true']
  constructor
  · rintro ⟨hi, h1, h2⟩
    have e : ops[i]? = some ops[i] := Array.getElem?_eq_getElem hi
    refine ⟨hi, ?_, ops[i], e, ?_⟩
    · have hi' : i < listed.size := by omega
      simp only [Array.getD, hi', dif_pos] at h1 ⊢
      exact h1
    · rw [e] at h2
      simp only [Option.map_some, Option.getD_some, Array.all_eq_true_iff_forall_mem] at h2
      intro j hj
      unfold waits at hj
      obtain ⟨ed, hed, rfl⟩ := List.mem_map.1 hj
      obtain ⟨hm, hb⟩ := List.mem_filter.1 hed
      have := h2 ed (by simpa using hm)
      unfold binds' at hb
      simpa [hb] using this
  · rintro ⟨hi, h1, o, ho, h2⟩
    refine ⟨hi, ?_, ?_⟩
    · have hi' : i < listed.size := by omega
      simp only [Array.getD, hi', dif_pos] at h1 ⊢
      exact h1
    · rw [ho]
      simp only [Option.map_some, Option.getD_some, Array.all_eq_true_iff_forall_mem]
      intro ed hed
      cases hb : Region.binds .any ed with
      | false => rfl
      | true =>
        simp only [Bool.not_true, Bool.false_or]
        exact h2 _ (List.mem_map.2 ⟨ed, List.mem_filter.2 ⟨by simpa using hed, hb⟩, rfl⟩)

theorem early_spec {l : List Oper} (h : early l = true) {i : Nat} {o : Oper} (ho : l[i]? = some o) : ∀ j ∈ waits o, j < i := by
  unfold early at h
  rw [List.all_eq_true] at h
  have hm : (o, i) ∈ l.zipIdx := by
    rw [List.mem_zipIdx_iff_getElem?]; exact ho
  have := h _ hm
  rw [List.all_eq_true] at this
  exact fun j hj => by simpa using this j hj

/-- where none can come up any more, all have come up -/
theorem all_of_none {l : List Oper} (he : early l = true) {listed : Array Bool} (hs : listed.size = l.toArray.size) (hr : Region.ready .any l.toArray listed = []) :
    ∀ i, i < l.toArray.size → listed.getD i false = true := by
  intro i
  induction i using Nat.strongRecOn with
  | _ i ih =>
    intro hi
    cases hb : listed.getD i false with
    | true => rfl
    | false =>
      exfalso
      have hl : i < l.length := by simpa using hi
      have ho : l[i]? = some l[i] := List.getElem?_eq_getElem hl
      have : i ∈ Region.ready .any l.toArray listed := (ready_iff hs).2 ⟨hi, hb, l[i], by simp, fun j hj => ih j (early_spec he ho j hj) (by have := early_spec he ho j hj; omega)⟩
      rw [hr] at this
      cases this

def left (listed : Array Bool) : Nat := listed.toList.countP (· == false)
theorem left_set {listed : Array Bool} {i : Nat} (hi : i < listed.size) (h : listed.getD i false = false) : left (listed.setIfInBounds i true) < left listed := by
  obtain ⟨l⟩ := listed
  simp only [left, List.setIfInBounds_toArray] at *
  simp only [List.size_toArray] at hi
  have h' : l[i] = false := by
    have h2 := h
    simp [Array.getD, hi] at h2
    exact h2
  clear h
  induction l generalizing i with
  | nil => simp at hi
  | cons b l ih =>
    cases i with
    | zero =>
      simp only [List.getElem_cons_zero] at h'
      subst h'
      simp [List.countP_cons]
    | succ i =>
      simp only [List.getElem_cons_succ] at h'
      have := ih (i := i) (by simpa using hi) h'
      simp only [List.set_cons_succ, List.countP_cons]
      omega
theorem left_zero {listed : Array Bool} (h : left listed = 0) (i : Nat) (hi : i < listed.size) : listed.getD i false = true := by
  obtain ⟨l⟩ := listed
  simp only [left] at h
  rw [List.countP_eq_zero] at h
  simp only [List.size_toArray] at hi
  have := h l[i] (List.getElem_mem hi)
  simp only [Array.getD, List.size_toArray, hi, dif_pos]
  simpa using this

theorem getD_set (listed : Array Bool) (i j : Nat) (hi : i < listed.size) : (listed.setIfInBounds i true).getD j false = (j == i || listed.getD j false) := by
  by_cases h : j = i
  · subst h; simp [hi]
  · rw [beq_false_of_ne h, Bool.false_or]
    by_cases hj : j < listed.size
    · simp [hj, Array.getElem_setIfInBounds, Ne.symm h]
    · simp [hj]

def add (L : Nat → Bool) (i : Nat) : Nat → Bool := fun j => cond (Nat.beq j i) true (L j)
theorem add_eq (L : Nat → Bool) (i j : Nat) : add L i j = (j == i || L j) := by
  unfold add
  by_cases h : j = i
  · subst h; simp
  · have : Nat.beq j i = false := by
      cases hb : Nat.beq j i with
      | false => rfl
      | true => exact absurd (Nat.eq_of_beq_eq_true hb) h
    rw [this, beq_false_of_ne h]; rfl
/-- The relation I, of what has come up, of the frame and of the world, is handed on by each operation. -/
theorem any_inv {l : List Oper} (he : early l = true) (I : (Nat → Bool) → Act → World → Prop)
    (step : ∀ L a w i o, l[i]? = some o → Closed l.toArray L → L i = false → (∀ j ∈ waits o, L j = true) → I L a w →
      wpOp P l.toArray Q i (fun a' w' => I (add L i) a' w') a w)
    (fin : ∀ L a w, (∀ i, i < l.length → L i = true) → I L a w → Q .normal a w) :
    ∀ (fuel : Nat) (listed : Array Bool) (L : Nat → Bool) (a : Act) (w : World), listed.size = l.toArray.size → left listed ≤ fuel → (∀ j, L j = listed.getD j false) → Closed l.toArray L → I L a w → wpAny P .any l.toArray Q fuel listed a w := by
  intro fuel
  induction fuel with
  | zero =>
    intro listed L a w hs hf hL hC h
    have all : ∀ i, i < l.toArray.size → listed.getD i false = true := fun i hi => left_zero (by omega) i (by omega)
    refine ⟨?_, fin L a w (fun i hi => by rw [hL]; exact all i (by simpa using hi)) h⟩
    rw [List.eq_nil_iff_forall_not_mem]
    intro i hi
    obtain ⟨h1, h2, _⟩ := (ready_iff hs).1 hi
    rw [all i h1] at h2
    cases h2
  | succ fuel ih =>
    intro listed L a w hs hf hL hC h
    refine ⟨fun hr => fin L a w (fun i hi => by rw [hL]; exact all_of_none he hs hr i (by simpa using hi)) h, fun i hi => ?_⟩
    obtain ⟨h1, h2, o, ho, h3⟩ := (ready_iff hs).1 hi
    have ho' : l[i]? = some o := by simpa using ho
    refine wpOp_mono (fun a' w' h' => ?_) (step L a w i o ho' hC (by rw [hL]; exact h2) (fun j hj => by rw [hL]; exact h3 j hj) h)
    refine ih _ _ a' w' (by simpa using hs) ?_ ?_ ?_ h'
    · have := left_set (listed := listed) (i := i) (by omega) h2
      omega
    · intro j
      rw [getD_set _ _ _ (by omega), add_eq, hL]
    · intro k ok hk hLk j hj
      rw [add_eq] at hLk ⊢
      simp only [Bool.or_eq_true, beq_iff_eq] at hLk ⊢
      rcases hLk with rfl | hLk
      · rw [ho] at hk
        obtain rfl := Option.some.inj hk
        exact .inr (by rw [hL]; exact h3 j hj)
      · exact .inr (hC k ok hk hLk j hj)

end
end Inv
end Go.Proofs.Ytpbdffmgendboab
