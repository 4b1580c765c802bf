/- What a map holds beside a table. -/
import Derived.Test.YtpbdffmgendboabMp
import Derived.Test.YtpbdffmgendboabActPlain
namespace Go.Proofs.Ytpbdffmgendboab
open Go Go.RowKit
namespace Tb
theorem MapIs.new : MapIs (.map #[] 0) [] := ⟨_, _, rfl, rfl⟩
/-- handles that are gone -/
def Gone (s : S) (gl : List Int) : Prop := ∀ g ∈ gl, g < s.n ∧ s.has g = false
theorem Gone.new : Gone S.new [] := fun _ h => by cases h
theorem has_iff {s : S} {h : Int} : s.has h = false ↔ ∀ r ∈ s.l, r.1 ≠ h := by
  unfold S.has
  rw [List.any_eq_false]
  exact ⟨fun k r hr e => k r hr (beq_iff_eq.2 e), fun k r hr e => k r hr (beq_iff_eq.1 e)⟩
theorem has_of {s : S} {r : R} (hr : r ∈ s.l) : s.has r.1 = true := by
  cases e : s.has r.1
  · exact absurd rfl (has_iff.1 e r hr)
  · rfl
theorem has_big {s : S} (o : s.ok) {h : Int} (k : s.n ≤ h) : s.has h = false := has_iff.2 fun r hr e => by
  have := (o.low r hr).2
  omega
theorem Gone.not_mem {s : S} {gl : List Int} (g : Gone s gl) {h : Int} (k : s.n ≤ h) : ¬ h ∈ gl := fun m => by
  have := (g h m).1
  omega
theorem Gone.not_has {s : S} {gl : List Int} (g : Gone s gl) {h : Int} (k : s.has h = true) : ¬ h ∈ gl := fun m => by
  have := (g h m).2
  rw [k] at this; cases this
theorem lay_ge {s : S} {h : Int} (e : s.laye h = 0) : s.l.length ≠ 16 ∧ ¬ (h < s.n ∨ 2147483647 ≤ h) := by
  unfold S.laye at e
  split at e
  · cases e
  · split at e
    · cases e
    · exact ⟨by assumption, by assumption⟩
theorem Gone.lay {s : S} {gl : List Int} (g : Gone s gl) {h : Int} (x : BitVec 64) (e : s.laye h = 0) : Gone (s.lay h x) gl := by
  obtain ⟨h1, h2⟩ := lay_ge e
  rw [(lay_good x h1 h2).2]
  intro k hk
  have := (g k hk).1
  refine ⟨by show k < h + 1; omega, has_iff.2 fun r hr => ?_⟩
  rcases List.mem_append.1 hr with hr | hr
  · exact has_iff.1 (g k hk).2 r hr
  · rw [List.mem_singleton] at hr
    subst hr
    show h ≠ k
    omega
theorem hm_lay {s : S} {h : Int} (x : BitVec 64) (e : s.laye h = 0) : hm s.l ++ [(h, .int .u64 (x.toNat : Nat))] = hm (s.lay h x).l := by
  obtain ⟨h1, h2⟩ := lay_ge e
  rw [(lay_good x h1 h2).2]
  unfold hm
  rw [List.map_append]; rfl
theorem drop_none {s : S} {h : Int} (e : s.has h = false) : s.drop h = s := by
  show (⟨s.l.filter (fun r => r.1 != h), s.n⟩ : S) = s
  rw [filter_none h e]
theorem Gone.drop {s : S} {gl : List Int} (o : s.ok) (g : Gone s gl) {h : Int} (e : s.has h = true) : Gone (s.drop h) (gl ++ [h]) := by
  intro k hk
  rcases List.mem_append.1 hk with hk | hk
  · exact ⟨(g k hk).1, has_iff.2 fun r hr => has_iff.1 (g k hk).2 r (List.mem_filter.1 hr).1⟩
  · rw [List.mem_singleton] at hk
    subst hk
    refine ⟨?_, has_iff.2 fun r hr => by have := (List.mem_filter.1 hr).2; exact bne_iff_ne.1 this⟩
    unfold S.has at e
    rw [List.any_eq_true] at e
    obtain ⟨r, hr, hq⟩ := e
    rw [← beq_iff_eq.1 hq]
    exact (o.low r hr).2
theorem goes_l (s : S) (m : Int) : (s.goes m).l = s.l := by unfold S.goes; split <;> rfl
theorem Gone.goes {s : S} {gl : List Int} (g : Gone s gl) (m : Int) : Gone (s.goes m) gl := by
  by_cases h : m < s.n ∨ 2147483647 < m
  · have e : s.goese m = 1 := if_pos h
    unfold S.goes; rw [e, if_neg (by decide)]; exact g
  · have e : s.goese m = 0 := if_neg h
    unfold S.goes; rw [e, if_pos rfl]
    intro k hk
    have := g k hk
    refine ⟨?_, this.2⟩
    show k < m
    omega
theorem hm_drop {s : S} (o : s.ok) (h : Int) : (hm s.l).eraseP (fun q => h == q.1) = hm (s.drop h).l := hm_erase o.rise h
theorem gm_snoc (l : List Int) (h : Int) : gm l ++ [(h, .int .i64 1)] = gm (l ++ [h]) := by unfold gm; rw [List.map_append]; rfl
theorem mem_of {l : List R} {i : Nat} {r : R} (h : l[i]? = some r) : r ∈ l := List.mem_of_getElem? h
theorem hs_at {l : List R} {i : Nat} {r : R} (h : l[i]? = some r) : (hs l)[i]? = some (.int .i64 r.1) := by unfold hs; rw [List.getElem?_map, h]; rfl
end Tb
end Go.Proofs.Ytpbdffmgendboab
