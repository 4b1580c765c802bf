/- Tables of handles, in plain Lean. -/
import Derived.Test.YtpbdffmgendboabSl7
namespace Go.Proofs.Ytpbdffmgendboab
open Go Go.RowKit
namespace Tb
abbrev R := Int × BitVec 64
structure S where
  l : List R
  n : Int
def cells : List R → List Value
  | [] => []
  | r :: l => .int .i64 r.1 :: .int .u64 r.2.toNat :: cells l
theorem cells_len : ∀ l, (cells l).length = l.length * 2
  | [] => rfl
  | _ :: l => by rw [cells, List.length_cons, List.length_cons, cells_len l, List.length_cons]; omega
theorem cells_app : ∀ l m, cells (l ++ m) = cells l ++ cells m
  | [], _ => rfl
  | r :: l, m => by rw [List.cons_append, cells, cells, cells_app l m]; rfl
theorem cells_snoc (l : List R) (r : R) : cells l ++ [.int .i64 r.1, .int .u64 r.2.toNat] = cells (l ++ [r]) := by rw [cells_app]; rfl
theorem cells_take : ∀ (l : List R) (k : Nat), (cells l).take (k * 2) = cells (l.take k)
  | l, 0 => by simp [cells]
  | [], k + 1 => by simp [cells]
  | r :: l, k + 1 => by
    rw [show (k + 1) * 2 = k * 2 + 1 + 1 from by omega, cells, List.take_succ_cons, List.take_succ_cons, cells_take l k, List.take_succ_cons]; rfl
theorem cells_drop : ∀ (l : List R) (k : Nat), (cells l).drop (k * 2) = cells (l.drop k)
  | l, 0 => rfl
  | [], k + 1 => by simp [cells]
  | r :: l, k + 1 => by
    rw [show (k + 1) * 2 = k * 2 + 1 + 1 from by omega, cells, List.drop_succ_cons, List.drop_succ_cons, cells_drop l k, List.drop_succ_cons]
theorem cells_at : ∀ (l : List R) (k : Nat) (r : R), l[k]? = some r → (cells l)[k * 2]? = some (.int .i64 r.1) ∧ (cells l)[k * 2 + 1]? = some (.int .u64 (r.2.toNat : Nat))
  | [], k, r, h => by simp at h
  | a :: l, 0, r, h => by
    have e : a = r := Option.some.inj h
    subst e; exact ⟨rfl, rfl⟩
  | a :: l, k + 1, r, h => by
    rw [show (k + 1) * 2 = k * 2 + 1 + 1 from by omega]
    exact cells_at l k r h
theorem cells_set : ∀ (l : List R) (k : Nat) (r : R) (x : BitVec 64), l[k]? = some r → (cells l).set (k * 2 + 1) (.int .u64 (x.toNat : Nat)) = cells (l.set k (r.1, x))
  | [], k, r, x, h => by simp at h
  | a :: l, 0, r, x, h => by
    have e : a = r := Option.some.inj h
    subst e; rfl
  | a :: l, k + 1, r, x, h => by
    rw [show (k + 1) * 2 + 1 = k * 2 + 1 + 1 + 1 from by omega, cells, List.set_cons_succ, List.set_cons_succ, cells_set l k r x h, List.set_cons_succ]; rfl
theorem ones : ∀ l, Sx.ones (cells l) = true
  | [] => rfl
  | _ :: l => ones l
/-- a table that may be -/
structure S.ok (s : S) : Prop where
  few : s.l.length ≤ 16
  rise : s.l.Pairwise (fun a b => a.1 < b.1)
  low : ∀ r ∈ s.l, 0 ≤ r.1 ∧ r.1 < s.n
  n0 : 0 ≤ s.n
  n1 : s.n ≤ 2147483647
def S.laye (s : S) (h : Int) : Int := if s.l.length = 16 then 5 else if h < s.n ∨ 2147483647 ≤ h then 1 else 0
def S.lay (s : S) (h : Int) (x : BitVec 64) : S := if s.laye h = 0 then ⟨s.l ++ [(h, x)], h + 1⟩ else s
def S.adde (s : S) : Int := if s.l.length = 16 then 5 else if s.n = 2147483647 then 10 else 0
def S.addh (s : S) : Int := if s.adde = 0 then s.n else 0
def S.add (s : S) (x : BitVec 64) : S := s.lay s.n x
def S.goese (s : S) (m : Int) : Int := if m < s.n ∨ 2147483647 < m then 1 else 0
def S.goes (s : S) (m : Int) : S := if s.goese m = 0 then ⟨s.l, m⟩ else s
def S.has (s : S) (h : Int) : Bool := s.l.any (fun r => r.1 == h)
def S.val (s : S) (h : Int) : BitVec 64 := ((s.l.find? (fun r => r.1 == h)).map (·.2)).getD 0#64
def S.drop (s : S) (h : Int) : S := ⟨s.l.filter (fun r => r.1 != h), s.n⟩
theorem lay_full {s : S} {h : Int} (x : BitVec 64) (e : s.l.length = 16) : s.laye h = 5 ∧ s.lay h x = s := by
  have e1 : s.laye h = 5 := if_pos e
  exact ⟨e1, by unfold S.lay; rw [e1]; rfl⟩
theorem lay_arg {s : S} {h : Int} (x : BitVec 64) (e : s.l.length ≠ 16) (k : h < s.n ∨ 2147483647 ≤ h) : s.laye h = 1 ∧ s.lay h x = s := by
  have e1 : s.laye h = 1 := by unfold S.laye; rw [if_neg e, if_pos k]
  exact ⟨e1, by unfold S.lay; rw [e1]; rfl⟩
theorem lay_good {s : S} {h : Int} (x : BitVec 64) (e : s.l.length ≠ 16) (k : ¬ (h < s.n ∨ 2147483647 ≤ h)) : s.laye h = 0 ∧ s.lay h x = ⟨s.l ++ [(h, x)], h + 1⟩ := by
  have e1 : s.laye h = 0 := by unfold S.laye; rw [if_neg e, if_neg k]
  exact ⟨e1, by unfold S.lay; rw [e1]; rfl⟩
theorem S.ok.lay {s : S} (o : s.ok) (h : Int) (x : BitVec 64) : (s.lay h x).ok := by
  by_cases e : s.l.length = 16
  · rw [(lay_full x e).2]; exact o
  · by_cases k : h < s.n ∨ 2147483647 ≤ h
    · rw [(lay_arg x e k).2]; exact o
    · rw [(lay_good x e k).2]
      have := o.few; have := o.n0
      refine ⟨?_, ?_, fun r hr => ?_, ?_, ?_⟩
      · rw [List.length_append, List.length_singleton]; omega
      · rw [List.pairwise_append]
        refine ⟨o.rise, List.pairwise_singleton _ _, fun a ha b hb => ?_⟩
        rw [List.mem_singleton] at hb
        subst hb
        have := (o.low a ha).2
        show a.1 < h
        omega
      · rcases List.mem_append.1 hr with hr | hr
        · have := o.low r hr; show 0 ≤ r.1 ∧ r.1 < h + 1; omega
        · rw [List.mem_singleton] at hr; subst hr; show 0 ≤ h ∧ h < h + 1; omega
      · show 0 ≤ h + 1; omega
      · show h + 1 ≤ 2147483647; omega
theorem S.ok.add {s : S} (o : s.ok) (x : BitVec 64) : (s.add x).ok := o.lay _ _
theorem S.ok.goes {s : S} (o : s.ok) (m : Int) : (s.goes m).ok := by
  unfold S.goes
  by_cases k : m < s.n ∨ 2147483647 < m
  · rw [if_neg (by unfold S.goese; rw [if_pos k]; decide)]; exact o
  · rw [if_pos (by unfold S.goese; rw [if_neg k])]
    have := o.n0
    exact ⟨o.few, o.rise, fun r hr => by have := o.low r hr; show 0 ≤ r.1 ∧ r.1 < m; omega, by show 0 ≤ m; omega, by show m ≤ 2147483647; omega⟩
theorem S.ok.drop {s : S} (o : s.ok) (h : Int) : (s.drop h).ok :=
  ⟨Nat.le_trans (List.length_filter_le _ _) o.few, o.rise.filter _, fun r hr => o.low r (List.mem_filter.1 hr).1, o.n0, o.n1⟩
def S.new : S := ⟨[], 0⟩
theorem S.ok.new : S.new.ok := ⟨by decide, List.Pairwise.nil, fun r hr => (by cases hr), by decide, by decide⟩
theorem add_cases {s : S} (o : s.ok) (x : BitVec 64) : (s.l.length = 16 ∧ s.adde = 5 ∧ s.addh = 0 ∧ s.add x = s) ∨ (s.l.length ≠ 16 ∧ s.n = 2147483647 ∧ s.adde = 10 ∧ s.addh = 0 ∧ s.add x = s) ∨ (s.l.length ≠ 16 ∧ s.n < 2147483647 ∧ s.adde = 0 ∧ s.addh = s.n ∧ s.laye s.n = 0) := by
  have h1 := o.n1
  by_cases e : s.l.length = 16
  · have a : s.adde = 5 := if_pos e
    exact .inl ⟨e, a, by unfold S.addh; rw [a]; rfl, (lay_full x e).2⟩
  · by_cases k : s.n = 2147483647
    · have a : s.adde = 10 := by unfold S.adde; rw [if_neg e, if_pos k]
      exact .inr (.inl ⟨e, k, a, by unfold S.addh; rw [a]; rfl, (lay_arg x e (.inr (by omega))).2⟩)
    · have a : s.adde = 0 := by unfold S.adde; rw [if_neg e, if_neg k]
      exact .inr (.inr ⟨e, by omega, a, by unfold S.addh; rw [a]; rfl, (lay_good x e (by omega)).1⟩)
/-- how many handles are less -/
def pos (h : Int) : List R → Nat
  | [] => 0
  | r :: l => if r.1 < h then pos h l + 1 else 0
theorem pos_le (h : Int) : ∀ l, pos h l ≤ l.length
  | [] => Nat.le_refl _
  | r :: l => by
    unfold pos
    split
    · have := pos_le h l; rw [List.length_cons]; omega
    · exact Nat.zero_le _
theorem pos_of (h : Int) : ∀ (l : List R) (i : Nat), i ≤ l.length → (∀ k r, l[k]? = some r → k < i → r.1 < h) → (∀ k r, l[k]? = some r → i ≤ k → ¬ r.1 < h) → pos h l = i
  | [], i, hi, _, _ => by have : i = 0 := by simpa using hi
                          subst this; rfl
  | a :: l, 0, _, _, h2 => by unfold pos; rw [if_neg (h2 0 a rfl (Nat.le_refl _))]
  | a :: l, i + 1, hi, h1, h2 => by
    unfold pos
    rw [if_pos (h1 0 a rfl (by omega)), pos_of h l i (by rw [List.length_cons] at hi; omega) (fun k r hk hki => h1 (k + 1) r hk (by omega)) (fun k r hk hki => h2 (k + 1) r hk (by omega))]
theorem rise_at {l : List R} (hr : l.Pairwise (fun a b => a.1 < b.1)) {i j : Nat} {a b : R} (hi : l[i]? = some a) (hj : l[j]? = some b) (h : i < j) : a.1 < b.1 := by
  obtain ⟨h1, e1⟩ := List.getElem?_eq_some_iff.1 hi
  obtain ⟨h2, e2⟩ := List.getElem?_eq_some_iff.1 hj
  subst e1; subst e2
  exact List.pairwise_iff_getElem.1 hr i j h1 h2 h
theorem below {l : List R} (hr : l.Pairwise (fun a b => a.1 < b.1)) (h : Int) {m : Nat} {a : R} (hm : l[m]? = some a) (ha : a.1 < h) : ∀ k r, l[k]? = some r → k < m + 1 → r.1 < h := fun k r hk hkm => by
  rcases Nat.lt_or_ge k m with q | q
  · have := rise_at hr hk hm q; omega
  · have : k = m := by omega
    subst this; rw [hk] at hm; cases hm; exact ha
theorem above {l : List R} (hr : l.Pairwise (fun a b => a.1 < b.1)) (h : Int) {m : Nat} {a : R} (hm : l[m]? = some a) (ha : ¬ a.1 < h) : ∀ k r, l[k]? = some r → m ≤ k → ¬ r.1 < h := fun k r hk hkm => by
  rcases Nat.lt_or_ge m k with q | q
  · have := rise_at hr hm hk q; omega
  · have : k = m := by omega
    subst this; rw [hk] at hm; cases hm; exact ha
/-- is the row at the handle's place the handle's? -/
def hit (h : Int) (l : List R) : Bool := match l[pos h l]? with
  | some r => r.1 == h
  | none => false
theorem hit_pos : ∀ {l : List R} (_ : l.Pairwise (fun a b => a.1 < b.1)) (h : Int), hit h l = l.any (fun r => r.1 == h)
  | [], _, h => rfl
  | a :: l, hr, h => by
    rw [List.pairwise_cons] at hr
    rw [List.any_cons]
    by_cases k : a.1 < h
    · have e : hit h (a :: l) = hit h l := by
        unfold hit
        rw [show pos h (a :: l) = pos h l + 1 from by show (if a.1 < h then _ else _) = _; rw [if_pos k]]; rfl
      rw [e, hit_pos hr.2 h, show (a.1 == h) = false from beq_false_of_ne (by omega), Bool.false_or]
    · have e : hit h (a :: l) = (a.1 == h) := by
        unfold hit
        rw [show pos h (a :: l) = 0 from by show (if a.1 < h then _ else _) = _; rw [if_neg k]]; rfl
      rw [e]
      have : l.any (fun r => r.1 == h) = false := by
        rw [List.any_eq_false]
        intro r hrm
        have := hr.1 r hrm
        simp only [beq_iff_eq]; omega
      rw [this, Bool.or_false]
theorem val_pos : ∀ {l : List R} (_ : l.Pairwise (fun a b => a.1 < b.1)) (h : Int) {r : R}, l[pos h l]? = some r → r.1 = h → l.find? (fun r => r.1 == h) = some r
  | [], _, h, r, e, _ => by cases e
  | a :: l, hr, h, r, e, er => by
    rw [List.pairwise_cons] at hr
    by_cases k : a.1 < h
    · rw [show pos h (a :: l) = pos h l + 1 from by show (if a.1 < h then _ else _) = _; rw [if_pos k]] at e
      rw [List.find?_cons_of_neg (by simp only [beq_iff_eq]; omega)]
      exact val_pos hr.2 h e er
    · rw [show pos h (a :: l) = 0 from by show (if a.1 < h then _ else _) = _; rw [if_neg k]] at e
      have : a = r := Option.some.inj e
      subst this
      rw [List.find?_cons_of_pos (by simpa using er)]
theorem filter_pos : ∀ {l : List R} (_ : l.Pairwise (fun a b => a.1 < b.1)) (h : Int) {r : R}, l[pos h l]? = some r → r.1 = h → l.take (pos h l) ++ l.drop (pos h l + 1) = l.filter (fun r => r.1 != h)
  | [], _, h, r, e, _ => by cases e
  | a :: l, hr, h, r, e, er => by
    rw [List.pairwise_cons] at hr
    by_cases k : a.1 < h
    · have p : pos h (a :: l) = pos h l + 1 := by show (if a.1 < h then _ else _) = _; rw [if_pos k]
      rw [p] at e ⊢
      rw [List.take_succ_cons, List.drop_succ_cons, List.cons_append, List.filter_cons_of_pos (by simp only [bne_iff_ne]; omega), filter_pos hr.2 h e er]
    · have p : pos h (a :: l) = 0 := by show (if a.1 < h then _ else _) = _; rw [if_neg k]
      rw [p] at e ⊢
      have : a = r := Option.some.inj e
      subst this
      rw [List.take_zero, List.nil_append, List.drop_succ_cons, List.drop_zero, List.filter_cons_of_neg (by simp [er])]
      symm
      rw [List.filter_eq_self]
      intro b hb
      have := hr.1 b hb
      simp only [bne_iff_ne]; omega
theorem filter_none {l : List R} (h : Int) (e : l.any (fun r => r.1 == h) = false) : l.filter (fun r => r.1 != h) = l := by
  rw [List.filter_eq_self]
  intro r hr
  have := List.any_eq_false.1 e r hr
  simpa using this
theorem find_none {l : List R} (h : Int) (e : l.any (fun r => r.1 == h) = false) : l.find? (fun r => r.1 == h) = none := by
  rw [List.find?_eq_none]
  intro r hr
  exact List.any_eq_false.1 e r hr
/-- the comparison that a table makes -/
def clamp (h : Int) : Int := min (max h (-1)) 2147483647
theorem clamp_lt {r h : Int} (h0 : 0 ≤ r) (h1 : r < 2147483647) : r - clamp h < 0 ↔ r < h := by unfold clamp; omega
theorem clamp_eq {r h : Int} (h0 : 0 ≤ r) (h1 : r < 2147483647) : r - clamp h = 0 ↔ r = h := by unfold clamp; omega
theorem clamp_le (h : Int) : -1 ≤ clamp h ∧ clamp h ≤ 2147483647 := by unfold clamp; omega
end Tb
end Go.Proofs.Ytpbdffmgendboab
