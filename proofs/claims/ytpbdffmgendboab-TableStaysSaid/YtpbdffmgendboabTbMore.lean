/- Copies of tables; lists of numbers that are read. -/
import Derived.Test.YtpbdffmgendboabTbSee
namespace Go.Proofs.Ytpbdffmgendboab
open Go Go.RowKit
namespace Tb
theorem cells_cut : ∀ (l : List R) (j : Nat) (u : Value), (cells l)[j]? = some u → ∃ k r, l[k]? = some r ∧ (j = k * 2 ∧ u = .int .i64 r.1 ∨ j = k * 2 + 1 ∧ u = .int .u64 (r.2.toNat : Nat))
  | [], j, u, h => by simp [cells] at h
  | a :: l, 0, u, h => ⟨0, a, rfl, .inl ⟨rfl, (Option.some.inj h).symm⟩⟩
  | a :: l, 1, u, h => ⟨0, a, rfl, .inr ⟨rfl, (Option.some.inj h).symm⟩⟩
  | a :: l, j + 2, u, h => by
    obtain ⟨k, r, h1, h2⟩ := cells_cut l j u h
    exact ⟨k + 1, r, h1, by rcases h2 with ⟨e, h2⟩ | ⟨e, h2⟩; exact .inl ⟨by omega, h2⟩; exact .inr ⟨by omega, h2⟩⟩
theorem src {w : World} {ad : Option Addr} {l : List R} (h : ∀ k r, l[k]? = some r → ∃ g o, ad = some ⟨g, o, none⟩ ∧ w.cell? ⟨g, o + k * 2, none⟩ = some (.int .i64 r.1) ∧ w.cell? ⟨g, o + k * 2 + 1, none⟩ = some (.int .u64 (r.2.toNat : Nat)))
    {a : Addr} (ha : ad = some a) : ∀ j u, (cells l)[j]? = some u → w.cell? (a.add j) = some u := fun j u hj => by
  obtain ⟨k, r, hk, hc⟩ := cells_cut l j u hj
  obtain ⟨g, o, e, h1, h2⟩ := h k r hk
  rw [ha] at e
  cases e
  rw [Addr.add_mid]
  rcases hc with ⟨e, e'⟩ | ⟨e, e'⟩
  · rw [e, e']; exact h1
  · rw [e, e', ← Nat.add_assoc]; exact h2
def S.map (s : S) (f : BitVec 64 → BitVec 64) : S := ⟨s.l.map (fun r => (r.1, f r.2)), s.n⟩
theorem S.ok.map {s : S} (o : s.ok) (f : BitVec 64 → BitVec 64) : (s.map f).ok := by
  refine ⟨by unfold S.map; rw [List.length_map]; exact o.few, ?_, fun r hr => ?_, o.n0, o.n1⟩
  · unfold S.map; rw [List.pairwise_map]; exact o.rise
  · unfold S.map at hr
    obtain ⟨q, hq, rfl⟩ := List.mem_map.1 hr
    exact o.low q hq
def upto (f : BitVec 64 → BitVec 64) (l : List R) (i : Nat) : List R := (l.take i).map (fun r => (r.1, f r.2)) ++ l.drop i
theorem upto_zero (f : BitVec 64 → BitVec 64) (l : List R) : upto f l 0 = l := rfl
theorem upto_all (f : BitVec 64 → BitVec 64) (l : List R) : upto f l l.length = l.map (fun r => (r.1, f r.2)) := by
  unfold upto; rw [List.take_of_length_le (Nat.le_refl _), List.drop_of_length_le (Nat.le_refl _), List.append_nil]
theorem upto_at (f : BitVec 64 → BitVec 64) {l : List R} {i : Nat} {r : R} (h : l[i]? = some r) : (upto f l i)[i]? = some r := by
  have hl := (List.getElem?_eq_some_iff.1 h).1
  unfold upto
  rw [List.getElem?_append_right (by rw [List.length_map, List.length_take]; omega), List.length_map, List.length_take, Nat.min_eq_left (by omega), Nat.sub_self, List.getElem?_drop]; exact h
theorem upto_set (f : BitVec 64 → BitVec 64) {l : List R} {i : Nat} {r : R} (h : l[i]? = some r) : (cells (upto f l i)).set (i * 2 + 1) (.int .u64 ((f r.2).toNat : Nat)) = cells (upto f l (i + 1)) := by
  have hl := (List.getElem?_eq_some_iff.1 h).1
  rw [cells_set _ i r (f r.2) (upto_at f h)]
  congr 1
  unfold upto
  rw [List.set_append_right _ _ (by rw [List.length_map, List.length_take]; omega), List.length_map, List.length_take, Nat.min_eq_left (by omega), Nat.sub_self, List.take_add_one, h, Option.toList_some, List.map_append, List.append_assoc]
  have e : l.drop i = r :: l.drop (i + 1) := by rw [List.drop_eq_getElem_cons hl]; congr 1; exact Option.some.inj ((List.getElem?_eq_getElem hl).symm.trans h)
  rw [e, List.set_cons_zero]; rfl
/-- numbers that are read -/
def iv (l : List Int) : List Value := l.map fun z => .int .i64 z
theorem hs_iv (l : List R) : hs l = iv (l.map (·.1)) := by unfold hs iv; rw [List.map_map]; rfl
def RdI (w : World) (v : Value) (l : List Int) : Prop := l.length ≤ 1000000 ∧ ∃ ad cap, v = .slice ad l.length cap ∧ ∀ k, k < l.length → ∃ g o, ad = some ⟨g, o, none⟩ ∧ w.cell? ⟨g, o + k, none⟩ = some (.int .i64 (l.getD k 0))
theorem RdI.row {w : World} {lo : Nat} {E : TypeId} {v : Value} {l : List Int} {m : Nat} {xs : List Value} (h : w.ownsRow lo E 1 v m xs) (e : xs = iv l) (hl : l.length ≤ 1000000) : RdI w v l := by
  subst e
  have hm : l.length = m := by have := h.1; unfold iv at this; rw [List.length_map] at this; omega
  subst hm
  refine ⟨hl, ?_⟩
  rcases h.2 with ⟨rfl, e⟩ | ⟨g, cap, cur, rfl, _⟩
  · exact ⟨none, 0, by rw [e], fun k hk => absurd hk (by omega)⟩
  · refine ⟨_, cap, rfl, fun k hk => ⟨g, 0, rfl, ?_⟩⟩
    rw [Nat.zero_add, World.ownsRow.cellAt h k (by omega)]
    unfold iv
    rw [List.getElem?_map, List.getElem?_eq_getElem hk, List.getD_eq_getElem?_getD, List.getElem?_eq_getElem hk]; rfl
theorem RdI.lift {w w' : World} {v : Value} {l : List Int} (h : RdI w v l) (hb : Below w.heap.size w w') : RdI w' v l := by
  obtain ⟨hl, ad, cap, rfl, hc⟩ := h
  refine ⟨hl, ad, cap, rfl, fun k hk => ?_⟩
  obtain ⟨g, o, e, h1⟩ := hc k hk
  exact ⟨g, o, e, (hb.cell (p := ⟨g, o + k, none⟩) (lt_cell h1)).trans h1⟩
def kept (h : Int) (l : List R) (i : Nat) : List R := (l.take i).filter (fun r => r.1 != h)
theorem kept_yes {h : Int} {l : List R} {i : Nat} {r : R} (hr : l[i]? = some r) (hn : r.1 ≠ h) : kept h l (i + 1) = kept h l i ++ [r] := by
  unfold kept
  rw [List.take_add_one, hr, Option.toList_some, List.filter_append, List.filter_cons_of_pos (by simpa using hn)]; rfl
theorem kept_no {h : Int} {l : List R} {i : Nat} {r : R} (hr : l[i]? = some r) (hn : r.1 = h) : kept h l (i + 1) = kept h l i := by
  unfold kept
  rw [List.take_add_one, hr, Option.toList_some, List.filter_append, List.filter_cons_of_neg (by simp [hn])]; simp
theorem kept_len (h : Int) (l : List R) (i : Nat) : (kept h l i).length ≤ i := by
  unfold kept
  exact Nat.le_trans (List.length_filter_le _ _) (by rw [List.length_take]; omega)
theorem kept_all (h : Int) (l : List R) : kept h l l.length = l.filter (fun r => r.1 != h) := by
  unfold kept; rw [List.take_of_length_le (Nat.le_refl _)]
theorem kept_has (s : S) (h : Int) : decide (((kept h s.l s.l.length).length : Int) < (s.l.length : Int)) = s.has h := by
  rw [kept_all]
  unfold S.has
  cases e : s.l.any (fun r => r.1 == h)
  · rw [filter_none h e]; exact decide_eq_false (by omega)
  · apply decide_eq_true
    obtain ⟨r, hr, hq⟩ := List.any_eq_true.1 e
    have := List.length_filter_lt_length_iff_exists (p := fun r : R => r.1 != h) (l := s.l) |>.2 ⟨r, hr, by simpa using hq⟩
    omega
theorem find_first (h : Int) : ∀ (l : List R) (i : Nat) (r : R), l[i]? = some r → r.1 = h → (∀ k q, l[k]? = some q → k < i → q.1 ≠ h) → l.find? (fun r => r.1 == h) = some r ∧ l.any (fun r => r.1 == h) = true
  | [], i, r, e, _, _ => by simp at e
  | a :: l, 0, r, e, er, _ => by
    have e' : a = r := Option.some.inj e
    subst e'
    exact ⟨List.find?_cons_of_pos (by simpa using er), by rw [List.any_cons, beq_iff_eq.2 er, Bool.true_or]⟩
  | a :: l, i + 1, r, e, er, hn => by
    have ha := hn 0 a rfl (by omega)
    obtain ⟨h1, h2⟩ := find_first h l i r e er (fun k q hk hki => hn (k + 1) q hk (by omega))
    exact ⟨by rw [List.find?_cons_of_neg (by simpa using ha)]; exact h1, by rw [List.any_cons, h2, Bool.or_true]⟩
theorem any_none (h : Int) {l : List R} (hn : ∀ k q, l[k]? = some q → k < l.length → q.1 ≠ h) : l.any (fun r => r.1 == h) = false := by
  rw [List.any_eq_false]
  intro r hr
  obtain ⟨k, hk⟩ := List.mem_iff_getElem?.1 hr
  have := hn k r hk (List.getElem?_eq_some_iff.1 hk).1
  simpa using this
/-- so many times 1 -/
def adds (s : S) : Nat → S
  | 0 => s
  | k + 1 => (adds s k).add 1#64
theorem adds_ok {s : S} (o : s.ok) : ∀ k, (adds s k).ok
  | 0 => o
  | k + 1 => (adds_ok o k).add _
end Tb
namespace Sx
section
variable {P : Program} {w0 w : World} {a : Act} {o : Oper} {n : Nat} {kv : List (Nat × Value)} {bs : List Bx} {rs : List Rx} {K : Nat → Option Obj}
theorem d_loadR2 {T : TypeId} {x : Operand} {b k i cap m z : Nat} {E : TypeId} {xs : List Value} {c0 c1 : Value} (hT : rowT P T 2) (F : Fr n a kv) (H : Own w0 w bs rs K) (ho : o.op = .load T x) (hx : ev kv x = some (.pointer (some ⟨b, k, none⟩)))
    (hi : rs[i]? = some ⟨true, .slice (some ⟨b, 0, none⟩) m cap, E, z, m, xs⟩) (h0 : xs[k]? = some c0) (h1 : xs[k + 1]? = some c1) : Does P o a w (fun x w' => x = .agg #[c0, c1] ∧ w' = w) := by
  obtain ⟨⟨d, hu, hd⟩, hs⟩ := hT.row
  have hr0 : w.ownsRow w0.heap.size E z (.slice (some ⟨b, 0, none⟩) m cap) m xs := H.row i _ hi rfl
  have l0 : w.cell? ⟨b, k, none⟩ = some c0 := (World.ownsRow.cellAt hr0 k (by have := (List.getElem?_eq_some_iff.1 h0).1; rw [hr0.1] at this; exact this)).trans h0
  have l1 : w.cell? ⟨b, k + 1, none⟩ = some c1 := (World.ownsRow.cellAt hr0 (k + 1) (by have := (List.getElem?_eq_some_iff.1 h1).1; rw [hr0.1] at this; exact this)).trans h1
  refine does_run ?_
  have hr := run_loadAt_mid (P := P) w b k T [c0, c1] d (fun j u hj => by
    match j, hj with
    | 0, hj => rw [← Option.some.inj hj]; exact l0
    | 1, hj => rw [← Option.some.inj hj]; exact l1
    | j + 2, hj => cases hj) hu hd (by rw [hs]; rfl)
  unfold execOp; rw [ho]; simp only [F.ev hx, Sem.run_bind, hr]; rfl
theorem Own.dropR2 {p q : Rx} (h : Own w0 w bs (p :: q :: rs) K) : Own w0 w bs (p :: rs) K := by
  have sel : ∀ i, (p :: rs)[i]? = (p :: q :: rs)[if i = 0 then 0 else i + 1]? := fun i => match i with
    | 0 => rfl
    | k + 1 => rfl
  exact ⟨h.below, h.box, h.nd, fun i r hi ho => h.row (if i = 0 then 0 else i + 1) r (by rw [← sel]; exact hi) ho, fun i j b vs r hi hj ho => h.rb i (if j = 0 then 0 else j + 1) b vs r hi (by rw [← sel]; exact hj) ho,
    fun i j g r s hi hj ho hs h1 h2 => by
      have := h.rr (if i = 0 then 0 else i + 1) (if j = 0 then 0 else j + 1) g r s (by rw [← sel]; exact hi) (by rw [← sel]; exact hj) ho hs h1 h2
      split at this <;> split at this <;> omega, fun k o hk => by
    obtain ⟨a, b, c, d⟩ := h.kp k o hk
    exact ⟨a, b, c, fun i r hi ho => d (if i = 0 then 0 else i + 1) r (by rw [← sel]; exact hi) ho⟩⟩
theorem Own.offB (h : Own w0 w bs rs K) (i : Nat) (p : Bx) (hp : p.1 = false) : Own w0 w (bs.set i p) rs K := by
  have key : ∀ {j b : Nat} {vs : List Value}, (bs.set i p)[j]? = some (true, b, vs) → bs[j]? = some (true, b, vs) := by
    intro j b vs hj
    rcases set_some hj with ⟨_, e⟩ | ⟨_, e⟩
    · rw [← e] at hp; cases hp
    · exact e
  exact ⟨h.below, fun j b vs hj => h.box j b vs (key hj), fun j k b vs us hj hk => h.nd j k b vs us (key hj) (key hk), h.row, fun j k b vs r hj hk ho => h.rb j k b vs r (key hj) hk ho, h.rr, fun k o hk => by
    obtain ⟨a, b, c, d⟩ := h.kp k o hk
    exact ⟨a, b, fun j vs hj => c j vs (key hj), d⟩⟩
theorem d_appendF {s x : Operand} {t E : TypeId} {z bytes i m k c : Nat} {v : Value} {xs news : List Value} {ad : Addr} (hT : elemT P t E z bytes) (F : Fr n a kv) (H : Own w0 w bs rs K) (ho : o.op = .call { callee := .builtin .append, args := #[s, x], argTypes := #[t, t] })
    (hs : ev kv s = some v) (hx : ev kv x = some (.slice (some ad) m c)) (hi : rs[i]? = some ⟨true, v, E, z, k, xs⟩) (hl : news.length = m * z) (hn : ∀ j u, news[j]? = some u → w0.cell? (ad.add j) = some u) (h1 : ones news = true) (hz : Nat.ble 1 z = true)
    (h63 : k + m ≤ 1000000) (hb : bytes ≤ 1000) : Does P o a w (fun y w' => ∃ v, y = v ∧ Own w0 w' bs (rs.set i ⟨true, v, E, z, k + m, xs ++ news⟩) K) := by
  obtain ⟨ht, hinf⟩ := hT
  cases hq : P.info? E with
  | none => rw [hq] at hinf; cases hinf
  | some inf =>
    rw [hq] at hinf
    simp only [Option.map_some, Option.some.injEq, Prod.mk.injEq] at hinf
    obtain ⟨hz1, hz2, hz3⟩ := hinf
    cases hzv : inf.zero with
    | none => rw [hzv] at hz1; cases hz1
    | some zv =>
      rw [hzv] at hz1
      simp only [Option.map_some, Option.some.injEq] at hz1
      have hown : w.ownsRow w0.heap.size E z v k xs := H.row i _ hi rfl
      obtain ⟨v', w', hr, h2, h3, _, h5⟩ := run_append_own_at (P := P) w w0.heap.size t o.type E inf zv z bytes ht hq hzv hz2 hz3 hz1 (Nat.le_of_ble_eq_true hz) v k xs hown ad m c news hl
        (fun j u hu => (H.below.cell (lt_cell (hn j u hu))).trans (hn j u hu)) (fun u hu => List.all_eq_true.1 h1 u hu) (by unfold maxLen; omega) (by have := Nat.mul_le_mul h63 hb; omega) H.below.size
      refine (does_run (v := v') (w' := w') ?_).mono ?_
      · unfold execOp
        simp only [ho, resolve, invoke, builtin, Sem.run_bind, Sem.run_pure, Result.andThen_ok, List.map_toArray, List.map_cons, List.map_nil, F.ev hs, F.ev hx, hr]
      · rintro y w'' ⟨rfl, rfl⟩
        exact ⟨_, rfl, H.grow hi rfl (r' := ⟨true, y, E, z, k + m, xs ++ news⟩) h2 h3 h5⟩
end
end Sx
end Go.Proofs.Ytpbdffmgendboab
