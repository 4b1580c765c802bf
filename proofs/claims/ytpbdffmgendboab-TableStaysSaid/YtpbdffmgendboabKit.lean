/- Small lemmas on endings, BitVec and the walk's integers. -/
import Derived.Test.YtpbdffmgendboabProg
import Derived.WalkKit
import Derived.Deep.QuietTactic
import Derived.BigQuiet
import Derived.WalkSpells
import Derived.Outline
import Derived.Lib.Hide
import Derived.Handy
import Derived.Laws.EntriesVeiled
import Derived.Deep.RegionWith
import Derived.Deep.LoopGhost
import Derived.WalkSmall
namespace Go.Proofs.Ytpbdffmgendboab
open Go Go.RowKit

/- for the walk: an old cell and an old mark behind a new block -/
@[go_sem] theorem cell_past (w : World) (o : Obj) (a : Addr) (h : (w.cell? a).isSome = true) : (w.alloc o).cell? a = w.cell? a := by
  refine World.cell?_alloc_old w o a (fun e => ?_)
  simp [World.cell?, e] at h
@[go_sem] theorem frozen_past (w : World) (o : Obj) (a : Addr) (h : (w.cell? a).isSome = true) : (w.alloc o).frozen? a = w.frozen? a := by
  refine World.frozen?_alloc_old w o a (fun e => ?_)
  simp [World.cell?, e] at h

theorem frozen_drew (w : World) (a : Addr) : w.drew.frozen? a = w.frozen? a := rfl
theorem ret_int {k : IntKind} {a b : Int} (h : a = b) : Ending.returned (.int k a) = .returned (.int k b) := by rw [h]
theorem agg2_eq {k : IntKind} {a0 a1 b0 b1 : Int} (h0 : a0 = b0) (h1 : a1 = b1) : Value.agg #[.int k a0, .int k a1] = .agg #[.int k b0, .int k b1] := by rw [h0, h1]
theorem agg4_eq {k : IntKind} {a0 a1 a2 a3 b0 b1 b2 b3 : Int} (h0 : a0 = b0) (h1 : a1 = b1) (h2 : a2 = b2) (h3 : a3 = b3) :
    Value.agg #[.int k a0, .int k a1, .int k a2, .int k a3] = .agg #[.int k b0, .int k b1, .int k b2, .int k b3] := by rw [h0, h1, h2, h3]
theorem ret_agg2 {k : IntKind} {a0 a1 b0 b1 : Int} (h0 : a0 = b0) (h1 : a1 = b1) : Ending.returned (.agg #[.int k a0, .int k a1]) = .returned (.agg #[.int k b0, .int k b1]) := by rw [h0, h1]
theorem ret_agg4 {k : IntKind} {a0 a1 a2 a3 b0 b1 b2 b3 : Int} (h0 : a0 = b0) (h1 : a1 = b1) (h2 : a2 = b2) (h3 : a3 = b3) :
    Ending.returned (.agg #[.int k a0, .int k a1, .int k a2, .int k a3]) = .returned (.agg #[.int k b0, .int k b1, .int k b2, .int k b3]) := by rw [h0, h1, h2, h3]

/- 32 bits -/
theorem xor32 (a b : BitVec 32) : bits .xor .u32 (a.toNat : Int) (b.toNat : Int) = ((a ^^^ b).toNat : Int) := by
  show IntKind.u32.wrap ((BitVec.ofInt 32 (a.toNat : Int) ^^^ BitVec.ofInt 32 (b.toNat : Int)).toNat : Int) = _
  rw [BitVec.ofInt_natCast, BitVec.ofInt_natCast, BitVec.ofNat_toNat, BitVec.ofNat_toNat, BitVec.setWidth_eq, BitVec.setWidth_eq, IntKind.wrap_u32]
  have := (a ^^^ b).isLt
  omega
theorem add32 (a b : BitVec 32) : ((a.toNat : Int) + (b.toNat : Int)) % 4294967296 = ((a + b).toNat : Int) := by
  rw [BitVec.toNat_add]; omega
theorem mul32 (a b : BitVec 32) : ((a.toNat : Int) * (b.toNat : Int)) % 4294967296 = ((a * b).toNat : Int) := by
  rw [BitVec.toNat_mul, Int.natCast_emod, Int.natCast_mul]; rfl
theorem sub32 (a b : BitVec 32) : ((a.toNat : Int) - (b.toNat : Int)) % 4294967296 = ((a - b).toNat : Int) := by
  rw [BitVec.toNat_sub]; have := a.isLt; have := b.isLt; omega
theorem w32 (z : Int) : z % 4294967296 = ((BitVec.ofInt 32 z).toNat : Int) := by
  rw [BitVec.toNat_ofInt]; omega
theorem w64 (z : Int) : z % 18446744073709551616 = ((BitVec.ofInt 64 z).toNat : Int) := by
  rw [BitVec.toNat_ofInt]; omega
theorem oi_sub {n : Nat} (x y : Int) : BitVec.ofInt n (x - y) = BitVec.ofInt n x - BitVec.ofInt n y := by
  rw [Int.sub_eq_add_neg, BitVec.ofInt_add, BitVec.ofInt_neg, BitVec.sub_eq_add_neg]
theorem oi_toNat {n : Nat} (x : BitVec n) : BitVec.ofInt n (x.toNat : Int) = x := by simp
/- 64 bits -/
theorem xor64 (a b : BitVec 64) : bits .xor .u64 (a.toNat : Int) (b.toNat : Int) = ((a ^^^ b).toNat : Int) := by
  show IntKind.u64.wrap ((BitVec.ofInt 64 (a.toNat : Int) ^^^ BitVec.ofInt 64 (b.toNat : Int)).toNat : Int) = _
  rw [BitVec.ofInt_natCast, BitVec.ofInt_natCast, BitVec.ofNat_toNat, BitVec.ofNat_toNat, BitVec.setWidth_eq, BitVec.setWidth_eq, IntKind.wrap_u64]
  have := (a ^^^ b).isLt
  omega
theorem or64 (a b : BitVec 64) : bits .or .u64 (a.toNat : Int) (b.toNat : Int) = ((a ||| b).toNat : Int) := by
  show IntKind.u64.wrap ((BitVec.ofInt 64 (a.toNat : Int) ||| BitVec.ofInt 64 (b.toNat : Int)).toNat : Int) = _
  rw [BitVec.ofInt_natCast, BitVec.ofInt_natCast, BitVec.ofNat_toNat, BitVec.ofNat_toNat, BitVec.setWidth_eq, BitVec.setWidth_eq, IntKind.wrap_u64]
  have := (a ||| b).isLt
  omega
theorem and64 (a b : BitVec 64) : bits .and .u64 (a.toNat : Int) (b.toNat : Int) = ((a &&& b).toNat : Int) := by
  show IntKind.u64.wrap ((BitVec.ofInt 64 (a.toNat : Int) &&& BitVec.ofInt 64 (b.toNat : Int)).toNat : Int) = _
  rw [BitVec.ofInt_natCast, BitVec.ofInt_natCast, BitVec.ofNat_toNat, BitVec.ofNat_toNat, BitVec.setWidth_eq, BitVec.setWidth_eq, IntKind.wrap_u64]
  have := (a &&& b).isLt
  omega
theorem add64 (a b : BitVec 64) : ((a.toNat : Int) + (b.toNat : Int)) % 18446744073709551616 = ((a + b).toNat : Int) := by
  rw [BitVec.toNat_add]; omega
theorem mul64 (a b : BitVec 64) : ((a.toNat : Int) * (b.toNat : Int)) % 18446744073709551616 = ((a * b).toNat : Int) := by
  rw [BitVec.toNat_mul, Int.natCast_emod, Int.natCast_mul]; rfl
theorem sub64 (a b : BitVec 64) : ((a.toNat : Int) - (b.toNat : Int)) % 18446744073709551616 = ((a - b).toNat : Int) := by
  rw [BitVec.toNat_sub]; have := a.isLt; have := b.isLt; omega
theorem shl64 (a : BitVec 64) (n : Nat) : ((a.toNat : Int) * ((2 ^ n : Nat) : Int)) % 18446744073709551616 = ((a <<< n).toNat : Int) := by
  rw [BitVec.toNat_shiftLeft, Nat.shiftLeft_eq, Int.natCast_emod, Int.natCast_mul]; rfl
theorem shr64 (a : BitVec 64) (n : Nat) : ((a.toNat : Int) / ((2 ^ n : Nat) : Int)) = ((a >>> n).toNat : Int) := by
  rw [BitVec.toNat_ushiftRight, Nat.shiftRight_eq_div_pow, Int.natCast_ediv]

/- a contract's value, written otherwise -/
theorem Calls.val {P : Program} {f : FuncId} {args args' : Array Value} {w : World} {v v' : Value} {B : World → Prop} (c : Calls P f args w fun e w' => e = .returned v ∧ B w') (ha : args = args') (hv : v = v') :
    Calls P f args' w fun e w' => e = .returned v' ∧ B w' := by
  subst ha; subst hv; exact c
/- behind a contract -/
theorem quiet_eq {P : Program} {f : FuncId} {args : Array Value} {w : World} {n : Nat} {v : Value}
    (h : Calls P f args (w.drewN n) fun e w' => e = .returned v ∧ w.drewN n = w') : Calls P f args (w.drewN n) fun e w'' => e = .returned v ∧ ∃ m, w'' = w.drewN m :=
  h.mono fun _ _ ⟨he, hm⟩ => ⟨he, n, hm.symm⟩
theorem bcell {W w1 : World} (hb : Below W.heap.size W w1) : (∀ b o, b < W.heap.size → w1.cell? ⟨b, o, none⟩ = W.cell? ⟨b, o, none⟩) ∧ (∀ b o, b < W.heap.size → w1.frozen? ⟨b, o, none⟩ = W.frozen? ⟨b, o, none⟩) :=
  ⟨fun b o h => hb.cell (p := ⟨b, o, none⟩) h, fun b o h => hb.frozen (p := ⟨b, o, none⟩) h⟩

theorem lt_cell {W : World} {a : Addr} {v : Value} (h : W.cell? a = some v) : a.block < W.heap.size := by
  unfold World.cell? at h
  by_cases hb : a.block < W.heap.size
  · exact hb
  · rw [Array.getElem?_eq_none (by omega)] at h; simp at h
theorem keep_cell {W w1 : World} (hb : Below W.heap.size W w1) : ∀ (a : Addr) (v : Value), W.cell? a = some v → w1.cell? a = some v :=
  fun a _ h => (hb.cell (lt_cell h)).trans h
/- variables of two and of four cells, in blocks of the call's own -/
def Box2 (w : World) (b : Nat) (v0 v1 : Value) : Prop :=
  (w.cell? ⟨b, 0, none⟩ = some v0 ∧ w.cell? ⟨b, 1, none⟩ = some v1) ∧ (w.frozen? ⟨b, 0, none⟩ = false ∧ w.frozen? ⟨b, 1, none⟩ = false)
def Box4 (w : World) (b : Nat) (v0 v1 v2 v3 : Value) : Prop :=
  (w.cell? ⟨b, 0, none⟩ = some v0 ∧ w.cell? ⟨b, 1, none⟩ = some v1 ∧ w.cell? ⟨b, 2, none⟩ = some v2 ∧ w.cell? ⟨b, 3, none⟩ = some v3) ∧
  (w.frozen? ⟨b, 0, none⟩ = false ∧ w.frozen? ⟨b, 1, none⟩ = false ∧ w.frozen? ⟨b, 2, none⟩ = false ∧ w.frozen? ⟨b, 3, none⟩ = false)

/- what lies from block lo on stays as it was -/
structure Mid (lo : Nat) (w w' : World) : Prop where
  size : w.heap.size ≤ w'.heap.size
  block : ∀ b, lo ≤ b → b < w.heap.size → w'.heap[b]? = w.heap[b]?
theorem Mid.refl (lo : Nat) (w : World) : Mid lo w w := ⟨Nat.le_refl _, fun _ _ _ => rfl⟩
theorem Mid.trans {lo : Nat} {a b c : World} (h : Mid lo a b) (k : Mid lo b c) : Mid lo a c :=
  ⟨Nat.le_trans h.size k.size, fun i hl hi => (k.block i hl (Nat.lt_of_lt_of_le hi h.size)).trans (h.block i hl hi)⟩
theorem Mid.mono {lo hi : Nat} {a b : World} (h : Mid lo a b) (hl : lo ≤ hi) : Mid hi a b := ⟨h.size, fun i hi' hs => h.block i (Nat.le_trans hl hi') hs⟩
theorem Mid.alloc {lo : Nat} {a w : World} (h : Mid lo a w) (o : Obj) : Mid lo a (w.alloc o) :=
  h.trans ⟨by simp, fun k _ hk => Below.heap_alloc _ _ _ hk⟩
theorem Mid.setCell {lo : Nat} {a w : World} (h : Mid lo a w) {p : Addr} (hp : p.block < lo) (u : Value) : Mid lo a (w.setCell p u) :=
  h.trans ⟨by simp [World.setCell], fun k hl hk => Below.heap_setCell _ _ _ _ (by omega)⟩
theorem Mid.drew {lo : Nat} {a w : World} (h : Mid lo a w) : Mid lo a w.drew := ⟨h.size, h.block⟩
theorem Mid.drewN {lo : Nat} {a w : World} (h : Mid lo a w) (n : Nat) : Mid lo a (w.drewN n) := ⟨h.size, h.block⟩
theorem Mid.below {lo : Nat} {a w w' : World} (h : Mid lo a w) (hb : Below w.heap.size w w') : Mid lo a w' :=
  h.trans ⟨hb.size, fun k _ hk => hb.block k hk⟩
theorem Mid.cell {lo : Nat} {w w' : World} (h : Mid lo w w') {p : Addr} {v : Value} (hl : lo ≤ p.block) (hs : p.block < w.heap.size) (hv : w.cell? p = some v) : w'.cell? p = some v :=
  (World.cell?_of_block (h.block _ hl hs)).trans hv
theorem Mid.owns {lo base size n : Nat} {e : TypeId} {v : Value} {xs : List Value} {w w' : World} (h : Mid lo w w') (hl : lo ≤ base) (ho : w.ownsRow base e size v n xs) : w'.ownsRow base e size v n xs := by
  refine ⟨ho.1, ?_⟩
  rcases ho.2 with hn | ⟨g, cap, cur, rfl, hb, hgg, rest⟩
  · exact .inl hn
  · refine .inr ⟨g, cap, cur, rfl, hb, ?_, rest⟩
    rw [h.block g (Nat.le_trans hl hb) (Array.getElem?_eq_some_iff.1 hgg).1]
    exact hgg

/- one block of the caller's is written, nothing else -/
theorem gb_trans {a b c : World} {row : Option Nat} (h : a.grownBy b row) (k : b.grownBy c row) : a.grownBy c row :=
  ⟨k.os.trans h.os, k.tape.trans h.tape, k.output.trans h.output, Nat.le_trans h.size k.size, fun i hi hn => (k.block i (Nat.lt_of_lt_of_le hi h.size) hn).trans (h.block i hi hn)⟩
theorem gb_alloc {a w : World} {row : Option Nat} (h : a.grownBy w row) (o : Obj) : a.grownBy (w.alloc o) row := gb_trans h (World.grownBy_alloc w o row)
theorem gb_drew {a w : World} {row : Option Nat} (h : a.grownBy w row) : a.grownBy w.drew row := ⟨h.os, h.tape, h.output, h.size, h.block⟩
theorem gb_drewN {a w : World} {row : Option Nat} (h : a.grownBy w row) (n : Nat) : a.grownBy (w.drewN n) row := gb_trans h ⟨rfl, rfl, rfl, Nat.le_refl _, fun _ _ _ => rfl⟩
theorem gb_below {a w w' : World} {row : Option Nat} (h : a.grownBy w row) (hb : Below w.heap.size w w') : a.grownBy w' row :=
  gb_trans h ⟨hb.os, hb.tape, hb.output, hb.size, fun i hi _ => hb.block i hi⟩
theorem gb_set {a w : World} {b : Nat} (h : a.grownBy w (some b)) {p : Addr} (hp : p.block = b ∨ a.heap.size ≤ p.block) (u : Value) : a.grownBy (w.setCell p u) (some b) := by
  refine ⟨h.os, h.tape, h.output, by simpa [World.setCell] using h.size, fun i hi hn => (Below.heap_setCell _ _ _ _ ?_).trans (h.block i hi hn)⟩
  intro e
  rcases hp with hp | hp
  · exact hn (by rw [e, hp])
  · omega
theorem keep_frozen {W w1 : World} (hb : Below W.heap.size W w1) : ∀ (a : Addr), (W.cell? a).isSome = true → w1.frozen? a = W.frozen? a := by
  intro a h
  obtain ⟨v, hv⟩ := Option.isSome_iff_exists.1 h
  exact hb.frozen (lt_cell hv)
theorem gb_cell {w w' : World} {row : Option Nat} (hg : w.grownBy w' row) {a : Addr} {v : Value} (h : w.cell? a = some v) (hne : some a.block ≠ row) : w'.cell? a = some v := hg.cell h hne
theorem gb_frozen {w w' : World} {row : Option Nat} (hg : w.grownBy w' row) {a : Addr} {v : Value} (h : w.cell? a = some v) (hne : some a.block ≠ row) : w'.frozen? a = w.frozen? a :=
  World.frozen?_of_block (hg.block _ (lt_cell h) hne)

/- the call's own boxes: block, cells; none frozen -/
def BoxAt (w : World) (b : Nat) (vs : List Value) : Prop := ∀ j u, vs[j]? = some u → w.cell? ⟨b, j, none⟩ = some u ∧ w.frozen? ⟨b, j, none⟩ = false
def Boxes (w : World) (bs : List (Nat × List Value)) : Prop := ∀ p, p ∈ bs → BoxAt w p.1 p.2
theorem Boxes.nil (w : World) : Boxes w [] := fun _ h => by cases h
theorem Boxes.cons {w : World} {b : Nat} {vs : List Value} {bs : List (Nat × List Value)} (h : BoxAt w b vs) (k : Boxes w bs) : Boxes w ((b, vs) :: bs) := by
  intro p hp
  rcases List.mem_cons.1 hp with rfl | hp
  · exact h
  · exact k p hp
theorem Boxes.head {w : World} {b : Nat} {vs : List Value} {bs : List (Nat × List Value)} (h : Boxes w ((b, vs) :: bs)) : BoxAt w b vs := h _ (List.mem_cons_self ..)
theorem Boxes.tail {w : World} {p : Nat × List Value} {bs : List (Nat × List Value)} (h : Boxes w (p :: bs)) : Boxes w bs := fun q hq => h q (List.mem_cons_of_mem _ hq)
theorem box1 {w : World} {b : Nat} {v0 : Value} (h : w.cell? ⟨b, 0, none⟩ = some v0) (f : w.frozen? ⟨b, 0, none⟩ = false) : BoxAt w b [v0] := by
  intro j u hj
  match j, hj with
  | 0, hj => exact ⟨by simpa [h] using hj, f⟩
theorem box2 {w : World} {b : Nat} {v0 v1 : Value} (h : w.cell? ⟨b, 0, none⟩ = some v0 ∧ w.cell? ⟨b, 1, none⟩ = some v1) (f : w.frozen? ⟨b, 0, none⟩ = false ∧ w.frozen? ⟨b, 1, none⟩ = false) : BoxAt w b [v0, v1] := by
  intro j u hj
  match j, hj with
  | 0, hj => exact ⟨by simpa [h.1] using hj, f.1⟩
  | 1, hj => exact ⟨by simpa [h.2] using hj, f.2⟩
theorem box4 {w : World} {b : Nat} {v0 v1 v2 v3 : Value} (h : w.cell? ⟨b, 0, none⟩ = some v0 ∧ w.cell? ⟨b, 1, none⟩ = some v1 ∧ w.cell? ⟨b, 2, none⟩ = some v2 ∧ w.cell? ⟨b, 3, none⟩ = some v3)
    (f : w.frozen? ⟨b, 0, none⟩ = false ∧ w.frozen? ⟨b, 1, none⟩ = false ∧ w.frozen? ⟨b, 2, none⟩ = false ∧ w.frozen? ⟨b, 3, none⟩ = false) : BoxAt w b [v0, v1, v2, v3] := by
  intro j u hj
  match j, hj with
  | 0, hj => exact ⟨by simpa [h.1] using hj, f.1⟩
  | 1, hj => exact ⟨by simpa [h.2.1] using hj, f.2.1⟩
  | 2, hj => exact ⟨by simpa [h.2.2.1] using hj, f.2.2.1⟩
  | 3, hj => exact ⟨by simpa [h.2.2.2] using hj, f.2.2.2⟩
theorem box5 {w : World} {b : Nat} {v0 v1 v2 v3 v4 : Value} (h : w.cell? ⟨b, 0, none⟩ = some v0 ∧ w.cell? ⟨b, 1, none⟩ = some v1 ∧ w.cell? ⟨b, 2, none⟩ = some v2 ∧ w.cell? ⟨b, 3, none⟩ = some v3 ∧ w.cell? ⟨b, 4, none⟩ = some v4)
    (f : w.frozen? ⟨b, 0, none⟩ = false ∧ w.frozen? ⟨b, 1, none⟩ = false ∧ w.frozen? ⟨b, 2, none⟩ = false ∧ w.frozen? ⟨b, 3, none⟩ = false ∧ w.frozen? ⟨b, 4, none⟩ = false) : BoxAt w b [v0, v1, v2, v3, v4] := by
  intro j u hj
  match j, hj with
  | 0, hj => exact ⟨by simpa [h.1] using hj, f.1⟩
  | 1, hj => exact ⟨by simpa [h.2.1] using hj, f.2.1⟩
  | 2, hj => exact ⟨by simpa [h.2.2.1] using hj, f.2.2.1⟩
  | 3, hj => exact ⟨by simpa [h.2.2.2.1] using hj, f.2.2.2.1⟩
  | 4, hj => exact ⟨by simpa [h.2.2.2.2] using hj, f.2.2.2.2⟩
theorem BoxAt.lift {w w' : World} {b : Nat} {vs : List Value} (h : BoxAt w b vs) (hb : b < w.heap.size → w'.heap[b]? = w.heap[b]?) : BoxAt w' b vs := by
  intro j u hj
  obtain ⟨hc, hf⟩ := h j u hj
  have e := hb (lt_cell hc)
  exact ⟨(World.cell?_of_block (w := w) (w' := w') (a := ⟨b, j, none⟩) e).trans hc, (World.frozen?_of_block (w := w) (w' := w') (a := ⟨b, j, none⟩) e).trans hf⟩
theorem Boxes.below {w w' : World} {bs : List (Nat × List Value)} (h : Boxes w bs) (hb : Below w.heap.size w w') : Boxes w' bs := fun p hp => (h p hp).lift (hb.block _)
theorem Boxes.alloc {w : World} {bs : List (Nat × List Value)} (h : Boxes w bs) (o : Obj) : Boxes (w.alloc o) bs := fun p hp => (h p hp).lift (Below.heap_alloc w o _)
theorem Boxes.drewN {w : World} {bs : List (Nat × List Value)} (h : Boxes w bs) (n : Nat) : Boxes (w.drewN n) bs := h
theorem Boxes.drew {w : World} {bs : List (Nat × List Value)} (h : Boxes w bs) : Boxes w.drew bs := h
theorem Boxes.grown {w w' : World} {row : Option Nat} {bs : List (Nat × List Value)} (h : Boxes w bs) (hg : w.grownBy w' row) (hn : ∀ p, p ∈ bs → some p.1 ≠ row) : Boxes w' bs :=
  fun p hp => (h p hp).lift (fun hl => hg.block _ hl (hn p hp))
theorem Boxes.setCell {w : World} {bs : List (Nat × List Value)} (h : Boxes w bs) (a : Addr) (u : Value) (hn : ∀ p, p ∈ bs → p.1 ≠ a.block) : Boxes (w.setCell a u) bs :=
  fun p hp => (h p hp).lift (fun _ => Below.heap_setCell w a u _ (hn p hp))
/-- The boxes lie below a row's base. -/
theorem Boxes.appended {w w' : World} {bs : List (Nat × List Value)} {lo size n : Nat} {e : TypeId} {v : Value} {xs : List Value} (h : Boxes w bs) (ho : w.ownsRow lo e size v n xs) (hg : w.grownBy w' v.ownBlock) (hn : ∀ p, p ∈ bs → p.1 < lo) : Boxes w' bs :=
  h.grown hg (fun p hp e => by have := (ho.lt _ e.symm).1; have := hn p hp; omega)
theorem owns_mono {w : World} {lo hi size n : Nat} {e : TypeId} {v : Value} {xs : List Value} (h : w.ownsRow hi e size v n xs) (hl : lo ≤ hi) : w.ownsRow lo e size v n xs := by
  refine ⟨h.1, ?_⟩
  rcases h.2 with hn | ⟨g, cap, cur, hv, hg, rest⟩
  · exact .inl hn
  · exact .inr ⟨g, cap, cur, hv, by omega, rest⟩
theorem owns_below {w w' : World} {lo size n : Nat} {e : TypeId} {v : Value} {xs : List Value} (h : w.ownsRow lo e size v n xs) (hb : Below w.heap.size w w') : w'.ownsRow lo e size v n xs :=
  Mid.owns (lo := 0) ((Mid.refl 0 w).below hb) (Nat.zero_le _) h
theorem owns_grown {w w' : World} {lo size n b : Nat} {e : TypeId} {v : Value} {xs : List Value} (h : w.ownsRow lo e size v n xs) (hg : w.grownBy w' (some b)) (hb : b < lo) : w'.ownsRow lo e size v n xs :=
  h.kept hg (by
    cases hv : v.ownBlock with
    | none => exact .inl rfl
    | some k => exact .inr (fun e => by have := (h.lt k hv).1; cases e; omega))
theorem below_gb {B : Nat} {a w w' : World} {b : Nat} (h : Below B a w) (hg : w.grownBy w' (some b)) (hB : B ≤ w.heap.size) (hb : B ≤ b) : Below B a w' :=
  h.grown hg hB (fun k e => by cases e; exact hb)
end Go.Proofs.Ytpbdffmgendboab
