/- philox.steps: so many pairs of closures over so many keys. -/
import Derived.Test.YtpbdffmgendboaaPhB
namespace Go.Proofs.Ytpbdffmgendboaa
open Go Go.RowKit

def fnF (b : Nat) : Value := .func (.func 85) #[] #[.pointer (some ⟨b, 0, none⟩)]
def fnB (b : Nat) : Value := .func (.func 87) #[] #[.pointer (some ⟨b, 0, none⟩)]
def fl (B : Nat → Nat) (n : Nat) : List Value := (List.range n).flatMap fun i => [fnF (B i), fnB (B i)]
theorem fl_succ (B : Nat → Nat) (n : Nat) : fl B (n + 1) = fl B n ++ [fnF (B n), fnB (B n)] := by simp [fl, List.range_succ]
theorem fl_congr (B B' : Nat → Nat) (n : Nat) (h : ∀ i, i < n → B i = B' i) : fl B n = fl B' n := by
  unfold fl
  rw [List.flatMap_def, List.flatMap_def, List.map_congr_left]
  intro i hi
  rw [h i (List.mem_range.1 hi)]
theorem fl_length (B : Nat → Nat) (n : Nat) : (fl B n).length = n * 2 := by
  induction n with
  | zero => rfl
  | succ n ih => rw [fl_succ, List.length_append, ih]; simp; omega
theorem fl_at (B : Nat → Nat) (n : Nat) : ∀ i, i < n → (fl B n)[2 * i]? = some (fnF (B i)) ∧ (fl B n)[2 * i + 1]? = some (fnB (B i)) := by
  induction n with
  | zero => intro i h; omega
  | succ n ih =>
    intro i h
    rw [fl_succ]
    by_cases hi : i < n
    · rw [List.getElem?_append_left (by rw [fl_length]; omega), List.getElem?_append_left (by rw [fl_length]; omega)]
      exact ih i hi
    · obtain rfl : i = n := by omega
      rw [List.getElem?_append_right (by rw [fl_length]; omega), List.getElem?_append_right (by rw [fl_length]; omega), fl_length]
      constructor
      · rw [show 2 * i - i * 2 = 0 from by omega]; rfl
      · rw [show 2 * i + 1 - i * 2 = 1 from by omega]; rfl

/- the keys' own blocks -/
def Keys (w : World) (lo : Nat) (k : Key) (B : Nat → Nat) (n : Nat) : Prop :=
  ∀ i, i < n → lo ≤ B i ∧ w.heap[B i]? = some (.cells #[.int .u32 (Ph.keyAt i k).a.toNat, .int .u32 (Ph.keyAt i k).b.toNat] 80 (0, 0))

def StepRow (w : World) (lo : Nat) (k : Key) (n : Nat) (v : Value) : Prop :=
  ∃ B, Keys w lo k B n ∧ w.ownsRow lo 138 2 v n (fl B n)
def StepsPost (w : World) (k : Key) (n : Nat) (e : Ending) (w' : World) : Prop :=
  ∃ v, e = .returned (.tuple #[v, .int .i64 0]) ∧ StepRow w' (w.heap.size + 1) k n v ∧ Below w.heap.size w w'

theorem keys_mid {lo n : Nat} {k : Key} {B : Nat → Nat} {w w' : World} (h : Keys w lo k B n) (hm : Mid lo w w') : Keys w' lo k B n := by
  intro i hi
  obtain ⟨hl, hh⟩ := h i hi
  refine ⟨hl, ?_⟩
  rw [hm.block _ hl (Array.getElem?_eq_some_iff.1 hh).1]
  exact hh
/- a round: a key's block is laid, and a row of two closures is appended -/
theorem keys_step {lo j : Nat} {k : Key} {B : Nat → Nat} {wr W2 w1 : World} {v : Value} {y : Key} {xs : List Value} (hk : Keys wr lo k B j) (hown : wr.ownsRow lo 138 2 v j xs) (hlo : lo ≤ wr.heap.size)
    (hy : Ph.keyAt j k = y) (o : Obj) (hW : W2 = (wr.alloc (.cells #[.int .u32 y.a.toNat, .int .u32 y.b.toNat] 80)).alloc o) (hg : W2.grownBy w1 v.ownBlock) :
    Keys w1 lo k (fun i => if i = j then wr.heap.size else B i) (j + 1) := by
  intro i hi
  by_cases hij : i = j
  · subst hij
    simp only [eq_self, if_true]
    refine ⟨hlo, ?_⟩
    rw [hg.block _ (by rw [hW]; simp; omega) (fun e => by have := (hown.lt _ e.symm).2; omega), hW, Below.heap_alloc _ _ _ (by simp), hy]
    show (wr.heap.push _)[wr.heap.size]? = _
    simp
  · simp only [if_neg hij]
    obtain ⟨hl, hh⟩ := hk i (by omega)
    have hlt := (Array.getElem?_eq_some_iff.1 hh).1
    refine ⟨hl, ?_⟩
    rw [hg.block _ (by rw [hW]; simp; omega) ?_, hW, Below.heap_alloc _ _ _ (by simp; omega), Below.heap_alloc _ _ _ hlt]
    · exact hh
    · intro e
      rcases hown.2 with ⟨rfl, _⟩ | ⟨g, cap, cur, rfl, _, hgg, _⟩
      · simp [Value.ownBlock] at e
      · simp [Value.ownBlock] at e
        rw [e] at hh
        rw [hgg] at hh
        simp at hh

theorem Try.infoStep : (Try.prog.info? 138).map (fun i => (i.zero, i.size, i.bytes)) = some (some (.agg #[.nilFunc, .nilFunc]), 2, 16) := by kernel_rfl

theorem steps_no (r : Int) (h : r < 0 ∨ 100 < r) (k0 k1 : BitVec 32) (w : World) :
    Calls Try.prog 84 #[.agg #[.int .u32 k0.toNat, .int .u32 k1.toNat], .int .i64 r] w fun e w' =>
      e = .returned (.tuple #[.slice none 0 0, .int .i64 1]) ∧ Below w.heap.size w w' := by
  rcases h with h | h
  · go_enter Try.func84, Try.ntmps84
    go_wp2
    go_ret2
    exact ⟨rfl, by (repeat' (first | (with_reducible exact Below.refl _ _) | (with_reducible assumption) | (with_reducible refine Below.alloc ?_ ?_ _) | (with_reducible refine Below.drew ?_) | (with_reducible refine below_drewN ?_ _) | (with_reducible refine Below.setCell ?_ ?_ _) | (with_reducible refine Below.trans ?_ (Below.mono (by assumption) ?_)) | go_size))⟩
  · go_enter Try.func84, Try.ntmps84
    have h0 : ¬ r < 0 := by omega
    go_wp2
    go_ret2
    exact ⟨rfl, by (repeat' (first | (with_reducible exact Below.refl _ _) | (with_reducible assumption) | (with_reducible refine Below.alloc ?_ ?_ _) | (with_reducible refine Below.drew ?_) | (with_reducible refine below_drewN ?_ _) | (with_reducible refine Below.setCell ?_ ?_ _) | (with_reducible refine Below.trans ?_ (Below.mono (by assumption) ?_)) | go_size))⟩

set_option maxRecDepth 100000 in
theorem steps_ok (n : Nat) (hn : n ≤ 100) (k0 k1 : BitVec 32) (w : World) :
    Calls Try.prog 84 #[.agg #[.int .u32 k0.toNat, .int .u32 k1.toNat], .int .i64 n] w (StepsPost w ⟨k0, k1⟩ n) := by
  obtain ⟨i0, hi, hi0, hi1, hi2⟩ := info_parts Try.infoStep
  have h0 : ¬ (n : Int) < 0 := by omega
  have h1 : ¬ (100 : Int) < n := by omega
  go_enter Try.func84, Try.ntmps84
  go_wp2
  go_loopw [6, 15] (fun v i wr => ∃ (j : Nat) (y : Key) (B : Nat → Nat), j ≤ n ∧ i = .int .i64 j ∧ Hid (Ph.keyAt j ⟨k0, k1⟩ = y) ∧
      Box2 wr w.heap.size (.int .u32 y.a.toNat) (.int .u32 y.b.toNat) ∧ wr.ownsRow (w.heap.size + 1) 138 2 v j (fl B j) ∧ Hid (Keys wr (w.heap.size + 1) ⟨k0, k1⟩ B j) ∧
      w.heap.size + 1 ≤ wr.heap.size ∧ Below w.heap.size w wr) (fun _ i _ => n - (intOf i).toNat)
  case atStart =>
    exact ⟨0, ⟨k0, k1⟩, fun _ => 0, by omega, rfl, Lib.hid rfl, ⟨by go_simp, by go_simp⟩, World.ownsRow_nil _ _ _ _, Lib.hid (fun i h => by omega), by simp, by (repeat' (first | (with_reducible exact Below.refl _ _) | (with_reducible assumption) | (with_reducible refine Below.alloc ?_ ?_ _) | (with_reducible refine Below.drew ?_) | (with_reducible refine below_drewN ?_ _) | (with_reducible refine Below.setCell ?_ ?_ _) | (with_reducible refine Below.trans ?_ (Below.mono (by assumption) ?_)) | go_size))⟩
  case round =>
    obtain ⟨j, ⟨y0, y1⟩, B, hj, rfl, hy, ⟨⟨d0, d1⟩, ⟨g0, g1⟩⟩, hown, hkeys, hz, hb⟩ := hrel
    by_cases hlt : j < n
    · go_wp2_with (at_builtin; refine wpList_append_own _ rfl _ _ 133 rfl (w.heap.size + 1) 138 i0 (.agg #[.nilFunc, .nilFunc]) 2 16 Try.underlying133 hi hi0 hi1 hi2 rfl (by decide) _ _ _ rfl ((hown.alloc _).alloc _) ⟨wr.heap.size + 1, 0, none⟩ 1 1 [fnF wr.heap.size, fnB wr.heap.size] rfl rfl ?c1 ?c2 ?c3 ?c4 ?c5 ?_)
      case c1 => exact fun _ _ h => h
      case c2 => exact ⟨rfl, rfl⟩
      case c3 => unfold maxLen; omega
      case c4 => omega
      case c5 => exact (by first | omega | (simp; done) | (simp; omega))
      · intro v' w1 hown' hgrow _
        have K := keys_step hkeys.out hown hz hy.out _ rfl hgrow
        have hb1 : Below w.heap.size w w1 := Below.grown (by (repeat' (first | (with_reducible exact Below.refl _ _) | (with_reducible assumption) | (with_reducible refine Below.alloc ?_ ?_ _) | (with_reducible refine Below.drew ?_) | (with_reducible refine below_drewN ?_ _) | (with_reducible refine Below.setCell ?_ ?_ _) | (with_reducible refine Below.trans ?_ (Below.mono (by assumption) ?_)) | go_size))) hgrow (by simp; omega) (fun k e => by have := (hown.lt _ e).1; omega)
        have hz1 : wr.heap.size + 1 + 1 ≤ w1.heap.size := by have := hgrow.size; simp at this; omega
        have e0 : w1.cell? ⟨w.heap.size, 0, none⟩ = some (.int .u32 y0.toNat) := hgrow.cell (Mid.cell (lo := 0) (by (repeat' (first | (with_reducible exact Mid.refl _ _) | (with_reducible assumption) | (with_reducible refine Mid.alloc ?_ _) | (with_reducible refine Mid.drew ?_) | (with_reducible refine Mid.drewN ?_ _) | (with_reducible refine Mid.setCell ?_ ?_ _) | (with_reducible refine Mid.below ?_ (by assumption)) | go_size))) (Nat.zero_le _) (by first | omega | (simp; done) | (simp; omega)) d0) (fun e => by have := (hown.lt _ e.symm).1; simp at this; omega)
        have e1 : w1.cell? ⟨w.heap.size, 1, none⟩ = some (.int .u32 y1.toNat) := hgrow.cell (Mid.cell (lo := 0) (by (repeat' (first | (with_reducible exact Mid.refl _ _) | (with_reducible assumption) | (with_reducible refine Mid.alloc ?_ _) | (with_reducible refine Mid.drew ?_) | (with_reducible refine Mid.drewN ?_ _) | (with_reducible refine Mid.setCell ?_ ?_ _) | (with_reducible refine Mid.below ?_ (by assumption)) | go_size))) (Nat.zero_le _) (by first | omega | (simp; done) | (simp; omega)) d1) (fun e => by have := (hown.lt _ e.symm).1; simp at this; omega)
        have fr (o : Nat) : w1.frozen? ⟨w.heap.size, o, none⟩ = wr.frozen? ⟨w.heap.size, o, none⟩ := by
          refine World.frozen?_of_block ?_
          rw [hgrow.block _ (by simp; omega) (fun e => by have := (hown.lt _ e.symm).1; simp at this; omega), Below.heap_alloc _ _ _ (by simp; omega), Below.heap_alloc _ _ _ (by simp; omega)]
        have f0 := (fr 0).trans g0
        have f1 := (fr 1).trans g1
        have hown2 : w1.ownsRow (w.heap.size + 1) 138 2 v' (j + 1) (fl (fun i => if i = j then wr.heap.size else B i) (j + 1)) := by
          rw [fl_succ, if_pos rfl, fl_congr _ B j (fun i hi => if_neg (by omega))]; exact hown'
        have KH := Lib.hid K
        have OH := Lib.hid hown2
        clear K hown' hown2 hgrow hown hkeys fr hb
        go_wp2_with fail
        refine (next_c _ _ _).mono ?_
        rintro e w2 ⟨rfl, hb2⟩
        have hz2 := hb2.size; (try simp at hz2)
        have kc2w_heap_size_0 : w2.cell? ⟨w.heap.size, 0, none⟩ = some (.int .u32 y0.toNat) := (hb2.cell (p := ⟨w.heap.size, 0, none⟩) (by first | omega | (simp; done) | (simp; omega))).trans (by (first | (with_reducible assumption) | (repeat' (first | (with_reducible assumption) | (with_reducible refine keep_drew ?_) | (with_reducible refine keepf_drew ?_) | (with_reducible refine keep_alloc' (by first | omega | (simp; done) | (simp; omega)) ?_) | (with_reducible refine keepf_alloc' (by first | omega | (simp; done) | (simp; omega)) ?_) | (with_reducible refine keep_set (by dsimp only; omega) ?_) | (go_simp; done))))); have kf2w_heap_size_0 : w2.frozen? ⟨w.heap.size, 0, none⟩ = false := (hb2.frozen (p := ⟨w.heap.size, 0, none⟩) (by first | omega | (simp; done) | (simp; omega))).trans (by (first | (with_reducible assumption) | (repeat' (first | (with_reducible assumption) | (with_reducible refine keep_drew ?_) | (with_reducible refine keepf_drew ?_) | (with_reducible refine keep_alloc' (by first | omega | (simp; done) | (simp; omega)) ?_) | (with_reducible refine keepf_alloc' (by first | omega | (simp; done) | (simp; omega)) ?_) | (with_reducible refine keep_set (by dsimp only; omega) ?_) | (go_simp; done))))); have kc2w_heap_size_1 : w2.cell? ⟨w.heap.size, 1, none⟩ = some (.int .u32 y1.toNat) := (hb2.cell (p := ⟨w.heap.size, 1, none⟩) (by first | omega | (simp; done) | (simp; omega))).trans (by (first | (with_reducible assumption) | (repeat' (first | (with_reducible assumption) | (with_reducible refine keep_drew ?_) | (with_reducible refine keepf_drew ?_) | (with_reducible refine keep_alloc' (by first | omega | (simp; done) | (simp; omega)) ?_) | (with_reducible refine keepf_alloc' (by first | omega | (simp; done) | (simp; omega)) ?_) | (with_reducible refine keep_set (by dsimp only; omega) ?_) | (go_simp; done))))); have kf2w_heap_size_1 : w2.frozen? ⟨w.heap.size, 1, none⟩ = false := (hb2.frozen (p := ⟨w.heap.size, 1, none⟩) (by first | omega | (simp; done) | (simp; omega))).trans (by (first | (with_reducible assumption) | (repeat' (first | (with_reducible assumption) | (with_reducible refine keep_drew ?_) | (with_reducible refine keepf_drew ?_) | (with_reducible refine keep_alloc' (by first | omega | (simp; done) | (simp; omega)) ?_) | (with_reducible refine keepf_alloc' (by first | omega | (simp; done) | (simp; omega)) ?_) | (with_reducible refine keep_set (by dsimp only; omega) ?_) | (go_simp; done)))))
        go_wp2
        go_roundw
        case rel =>
          refine ⟨j + 1, Ph.next ⟨y0, y1⟩, _, by omega, by go_num, Lib.hid ?_, ⟨by go_simp, by go_simp⟩, Mid.owns (lo := w.heap.size + 1) ?_ (Nat.le_refl _) OH.out, Lib.hid (keys_mid KH.out ?_), ?_, ?_⟩
          · rw [Ph.keyAt_succ, hy.out]
          · (repeat' (first | (with_reducible exact Mid.refl _ _) | (with_reducible assumption) | (with_reducible refine Mid.alloc ?_ _) | (with_reducible refine Mid.drew ?_) | (with_reducible refine Mid.drewN ?_ _) | (with_reducible refine Mid.setCell ?_ ?_ _) | (with_reducible refine Mid.below ?_ (by assumption)) | go_size))
          · (repeat' (first | (with_reducible exact Mid.refl _ _) | (with_reducible assumption) | (with_reducible refine Mid.alloc ?_ _) | (with_reducible refine Mid.drew ?_) | (with_reducible refine Mid.drewN ?_ _) | (with_reducible refine Mid.setCell ?_ ?_ _) | (with_reducible refine Mid.below ?_ (by assumption)) | go_size))
          · simp; omega
          · (repeat' (first | (with_reducible exact Below.refl _ _) | (with_reducible assumption) | (with_reducible refine Below.alloc ?_ ?_ _) | (with_reducible refine Below.drew ?_) | (with_reducible refine below_drewN ?_ _) | (with_reducible refine Below.setCell ?_ ?_ _) | (with_reducible refine Below.trans ?_ (Below.mono (by assumption) ?_)) | go_size))
        case measure => simp [intOf]; omega
    · obtain rfl : j = n := by omega
      go_wp2
      go_ret2
      exact ⟨_, rfl, ⟨B, hkeys.out, hown⟩, hb⟩
end Go.Proofs.Ytpbdffmgendboaa
