/- What the proof of TopBounded leans on: part 1. -/
import Derived.Test.YteecadoakmdibaaGreatProg
import Derived.WalkKit
import Derived.Deep.QuietTactic
import Derived.BigQuiet
import Derived.WalkSpells
import Derived.Outline
import Derived.Lib.Hide
import Derived.Handy
import Derived.Laws.EntriesVeiled
import Derived.Deep.RegionWith
import Derived.Deep.LoopGhost
import Derived.WalkSmall
import Derived.Test.YteecadoakmdibaaGreatRows
import Derived.ProofKit
import Derived.OpenShut
import Derived.Deep.MidRow
import Derived.ScopeJumps
import Derived.Laws.AppendOwnNone
import Derived.Maps.AppendAt
set_option maxRecDepth 100000
set_option maxHeartbeats 4000000
namespace Go.Proofs.YteecadoakmdibaaGreat
open Go Go.RowKit
@[go_sem] theorem cell_past (w : World) (o : Obj) (a : Addr) (h : (w.cell? a).isSome = true) : (w.alloc o).cell? a = w.cell? a := by
  refine World.cell?_alloc_old w o a (fun e => ?_)
  simp [World.cell?, e] at h
@[go_sem] theorem frozen_past (w : World) (o : Obj) (a : Addr) (h : (w.cell? a).isSome = true) : (w.alloc o).frozen? a = w.frozen? a := by
  refine World.frozen?_alloc_old w o a (fun e => ?_)
  simp [World.cell?, e] at h
theorem ret_int {k : IntKind} {a b : Int} (h : a = b) : Ending.returned (.int k a) = .returned (.int k b) := by rw [h]
theorem ret_agg2 {k : IntKind} {a0 a1 b0 b1 : Int} (h0 : a0 = b0) (h1 : a1 = b1) : Ending.returned (.agg #[.int k a0, .int k a1]) = .returned (.agg #[.int k b0, .int k b1]) := by rw [h0, h1]
theorem ret_agg4 {k : IntKind} {a0 a1 a2 a3 b0 b1 b2 b3 : Int} (h0 : a0 = b0) (h1 : a1 = b1) (h2 : a2 = b2) (h3 : a3 = b3) :
    Ending.returned (.agg #[.int k a0, .int k a1, .int k a2, .int k a3]) = .returned (.agg #[.int k b0, .int k b1, .int k b2, .int k b3]) := by rw [h0, h1, h2, h3]
theorem xor32 (a b : BitVec 32) : bits .xor .u32 (a.toNat : Int) (b.toNat : Int) = ((a ^^^ b).toNat : Int) := by
  show IntKind.u32.wrap ((BitVec.ofInt 32 (a.toNat : Int) ^^^ BitVec.ofInt 32 (b.toNat : Int)).toNat : Int) = _
  rw [BitVec.ofInt_natCast, BitVec.ofInt_natCast, BitVec.ofNat_toNat, BitVec.ofNat_toNat, BitVec.setWidth_eq, BitVec.setWidth_eq, IntKind.wrap_u32]
  have := (a ^^^ b).isLt
  omega
theorem add32 (a b : BitVec 32) : ((a.toNat : Int) + (b.toNat : Int)) % 4294967296 = ((a + b).toNat : Int) := by
  rw [BitVec.toNat_add]; omega
theorem mul32 (a b : BitVec 32) : ((a.toNat : Int) * (b.toNat : Int)) % 4294967296 = ((a * b).toNat : Int) := by
  rw [BitVec.toNat_mul, Int.natCast_emod, Int.natCast_mul]; rfl
theorem w64 (z : Int) : z % 18446744073709551616 = ((BitVec.ofInt 64 z).toNat : Int) := by
  rw [BitVec.toNat_ofInt]; omega
theorem oi_sub {n : Nat} (x y : Int) : BitVec.ofInt n (x - y) = BitVec.ofInt n x - BitVec.ofInt n y := by
  rw [Int.sub_eq_add_neg, BitVec.ofInt_add, BitVec.ofInt_neg, BitVec.sub_eq_add_neg]
theorem oi_toNat {n : Nat} (x : BitVec n) : BitVec.ofInt n (x.toNat : Int) = x := by simp
theorem xor64 (a b : BitVec 64) : bits .xor .u64 (a.toNat : Int) (b.toNat : Int) = ((a ^^^ b).toNat : Int) := by
  show IntKind.u64.wrap ((BitVec.ofInt 64 (a.toNat : Int) ^^^ BitVec.ofInt 64 (b.toNat : Int)).toNat : Int) = _
  rw [BitVec.ofInt_natCast, BitVec.ofInt_natCast, BitVec.ofNat_toNat, BitVec.ofNat_toNat, BitVec.setWidth_eq, BitVec.setWidth_eq, IntKind.wrap_u64]
  have := (a ^^^ b).isLt
  omega
theorem or64 (a b : BitVec 64) : bits .or .u64 (a.toNat : Int) (b.toNat : Int) = ((a ||| b).toNat : Int) := by
  show IntKind.u64.wrap ((BitVec.ofInt 64 (a.toNat : Int) ||| BitVec.ofInt 64 (b.toNat : Int)).toNat : Int) = _
  rw [BitVec.ofInt_natCast, BitVec.ofInt_natCast, BitVec.ofNat_toNat, BitVec.ofNat_toNat, BitVec.setWidth_eq, BitVec.setWidth_eq, IntKind.wrap_u64]
  have := (a ||| b).isLt
  omega
theorem and64 (a b : BitVec 64) : bits .and .u64 (a.toNat : Int) (b.toNat : Int) = ((a &&& b).toNat : Int) := by
  show IntKind.u64.wrap ((BitVec.ofInt 64 (a.toNat : Int) &&& BitVec.ofInt 64 (b.toNat : Int)).toNat : Int) = _
  rw [BitVec.ofInt_natCast, BitVec.ofInt_natCast, BitVec.ofNat_toNat, BitVec.ofNat_toNat, BitVec.setWidth_eq, BitVec.setWidth_eq, IntKind.wrap_u64]
  have := (a &&& b).isLt
  omega
theorem add64 (a b : BitVec 64) : ((a.toNat : Int) + (b.toNat : Int)) % 18446744073709551616 = ((a + b).toNat : Int) := by
  rw [BitVec.toNat_add]; omega
theorem mul64 (a b : BitVec 64) : ((a.toNat : Int) * (b.toNat : Int)) % 18446744073709551616 = ((a * b).toNat : Int) := by
  rw [BitVec.toNat_mul, Int.natCast_emod, Int.natCast_mul]; rfl
theorem sub64 (a b : BitVec 64) : ((a.toNat : Int) - (b.toNat : Int)) % 18446744073709551616 = ((a - b).toNat : Int) := by
  rw [BitVec.toNat_sub]; have := a.isLt; have := b.isLt; omega
theorem shl64 (a : BitVec 64) (n : Nat) : ((a.toNat : Int) * ((2 ^ n : Nat) : Int)) % 18446744073709551616 = ((a <<< n).toNat : Int) := by
  rw [BitVec.toNat_shiftLeft, Nat.shiftLeft_eq, Int.natCast_emod, Int.natCast_mul]; rfl
theorem shr64 (a : BitVec 64) (n : Nat) : ((a.toNat : Int) / ((2 ^ n : Nat) : Int)) = ((a >>> n).toNat : Int) := by
  rw [BitVec.toNat_ushiftRight, Nat.shiftRight_eq_div_pow, Int.natCast_ediv]
theorem Calls.val {P : Program} {f : FuncId} {args args' : Array Value} {w : World} {v v' : Value} {B : World → Prop} (c : Calls P f args w fun e w' => e = .returned v ∧ B w') (ha : args = args') (hv : v = v') :
    Calls P f args' w fun e w' => e = .returned v' ∧ B w' := by
  subst ha; subst hv; exact c
theorem lt_cell {W : World} {a : Addr} {v : Value} (h : W.cell? a = some v) : a.block < W.heap.size := by
  unfold World.cell? at h
  by_cases hb : a.block < W.heap.size
  · exact hb
  · rw [Array.getElem?_eq_none (by omega)] at h; simp at h
theorem keep_cell {W w1 : World} (hb : Below W.heap.size W w1) : ∀ (a : Addr) (v : Value), W.cell? a = some v → w1.cell? a = some v :=
  fun a _ h => (hb.cell (lt_cell h)).trans h
def Box2 (w : World) (b : Nat) (v0 v1 : Value) : Prop :=
  (w.cell? ⟨b, 0, none⟩ = some v0 ∧ w.cell? ⟨b, 1, none⟩ = some v1) ∧ (w.frozen? ⟨b, 0, none⟩ = false ∧ w.frozen? ⟨b, 1, none⟩ = false)
def Box4 (w : World) (b : Nat) (v0 v1 v2 v3 : Value) : Prop :=
  (w.cell? ⟨b, 0, none⟩ = some v0 ∧ w.cell? ⟨b, 1, none⟩ = some v1 ∧ w.cell? ⟨b, 2, none⟩ = some v2 ∧ w.cell? ⟨b, 3, none⟩ = some v3) ∧
  (w.frozen? ⟨b, 0, none⟩ = false ∧ w.frozen? ⟨b, 1, none⟩ = false ∧ w.frozen? ⟨b, 2, none⟩ = false ∧ w.frozen? ⟨b, 3, none⟩ = false)
structure Mid (lo : Nat) (w w' : World) : Prop where
  size : w.heap.size ≤ w'.heap.size
  block : ∀ b, lo ≤ b → b < w.heap.size → w'.heap[b]? = w.heap[b]?
theorem Mid.refl (lo : Nat) (w : World) : Mid lo w w := ⟨Nat.le_refl _, fun _ _ _ => rfl⟩
theorem Mid.trans {lo : Nat} {a b c : World} (h : Mid lo a b) (k : Mid lo b c) : Mid lo a c :=
  ⟨Nat.le_trans h.size k.size, fun i hl hi => (k.block i hl (Nat.lt_of_lt_of_le hi h.size)).trans (h.block i hl hi)⟩
theorem Mid.mono {lo hi : Nat} {a b : World} (h : Mid lo a b) (hl : lo ≤ hi) : Mid hi a b := ⟨h.size, fun i hi' hs => h.block i (Nat.le_trans hl hi') hs⟩
theorem Mid.alloc {lo : Nat} {a w : World} (h : Mid lo a w) (o : Obj) : Mid lo a (w.alloc o) :=
  h.trans ⟨by simp, fun k _ hk => Below.heap_alloc _ _ _ hk⟩
theorem Mid.setCell {lo : Nat} {a w : World} (h : Mid lo a w) {p : Addr} (hp : p.block < lo) (u : Value) : Mid lo a (w.setCell p u) :=
  h.trans ⟨by simp [World.setCell], fun k hl hk => Below.heap_setCell _ _ _ _ (by omega)⟩
theorem Mid.drew {lo : Nat} {a w : World} (h : Mid lo a w) : Mid lo a w.drew := ⟨h.size, h.block⟩
theorem Mid.drewN {lo : Nat} {a w : World} (h : Mid lo a w) (n : Nat) : Mid lo a (w.drewN n) := ⟨h.size, h.block⟩
theorem Mid.below {lo : Nat} {a w w' : World} (h : Mid lo a w) (hb : Below w.heap.size w w') : Mid lo a w' :=
  h.trans ⟨hb.size, fun k _ hk => hb.block k hk⟩
theorem Mid.cell {lo : Nat} {w w' : World} (h : Mid lo w w') {p : Addr} {v : Value} (hl : lo ≤ p.block) (hs : p.block < w.heap.size) (hv : w.cell? p = some v) : w'.cell? p = some v :=
  (World.cell?_of_block (h.block _ hl hs)).trans hv
theorem Mid.owns {lo base size n : Nat} {e : TypeId} {v : Value} {xs : List Value} {w w' : World} (h : Mid lo w w') (hl : lo ≤ base) (ho : w.ownsRow base e size v n xs) : w'.ownsRow base e size v n xs := by
  refine ⟨ho.1, ?_⟩
  rcases ho.2 with hn | ⟨g, cap, cur, rfl, hb, hgg, rest⟩
  · exact .inl hn
  · refine .inr ⟨g, cap, cur, rfl, hb, ?_, rest⟩
    rw [h.block g (Nat.le_trans hl hb) (Array.getElem?_eq_some_iff.1 hgg).1]
    exact hgg
def BoxAt (w : World) (b : Nat) (vs : List Value) : Prop := ∀ j u, vs[j]? = some u → w.cell? ⟨b, j, none⟩ = some u ∧ w.frozen? ⟨b, j, none⟩ = false
def Boxes (w : World) (bs : List (Nat × List Value)) : Prop := ∀ p, p ∈ bs → BoxAt w p.1 p.2
theorem Boxes.nil (w : World) : Boxes w [] := fun _ h => by cases h
theorem Boxes.cons {w : World} {b : Nat} {vs : List Value} {bs : List (Nat × List Value)} (h : BoxAt w b vs) (k : Boxes w bs) : Boxes w ((b, vs) :: bs) := by
  intro p hp
  rcases List.mem_cons.1 hp with rfl | hp
  · exact h
  · exact k p hp
theorem BoxAt.lift {w w' : World} {b : Nat} {vs : List Value} (h : BoxAt w b vs) (hb : b < w.heap.size → w'.heap[b]? = w.heap[b]?) : BoxAt w' b vs := by
  intro j u hj
  obtain ⟨hc, hf⟩ := h j u hj
  have e := hb (lt_cell hc)
  exact ⟨(World.cell?_of_block (w := w) (w' := w') (a := ⟨b, j, none⟩) e).trans hc, (World.frozen?_of_block (w := w) (w' := w') (a := ⟨b, j, none⟩) e).trans hf⟩
theorem Boxes.below {w w' : World} {bs : List (Nat × List Value)} (h : Boxes w bs) (hb : Below w.heap.size w w') : Boxes w' bs := fun p hp => (h p hp).lift (hb.block _)
theorem Boxes.alloc {w : World} {bs : List (Nat × List Value)} (h : Boxes w bs) (o : Obj) : Boxes (w.alloc o) bs := fun p hp => (h p hp).lift (Below.heap_alloc w o _)
theorem Boxes.drewN {w : World} {bs : List (Nat × List Value)} (h : Boxes w bs) (n : Nat) : Boxes (w.drewN n) bs := h
theorem Boxes.drew {w : World} {bs : List (Nat × List Value)} (h : Boxes w bs) : Boxes w.drew bs := h
theorem Boxes.grown {w w' : World} {row : Option Nat} {bs : List (Nat × List Value)} (h : Boxes w bs) (hg : w.grownBy w' row) (hn : ∀ p, p ∈ bs → some p.1 ≠ row) : Boxes w' bs :=
  fun p hp => (h p hp).lift (fun hl => hg.block _ hl (hn p hp))
theorem Boxes.setCell {w : World} {bs : List (Nat × List Value)} (h : Boxes w bs) (a : Addr) (u : Value) (hn : ∀ p, p ∈ bs → p.1 ≠ a.block) : Boxes (w.setCell a u) bs :=
  fun p hp => (h p hp).lift (fun _ => Below.heap_setCell w a u _ (hn p hp))
theorem owns_mono {w : World} {lo hi size n : Nat} {e : TypeId} {v : Value} {xs : List Value} (h : w.ownsRow hi e size v n xs) (hl : lo ≤ hi) : w.ownsRow lo e size v n xs := by
  refine ⟨h.1, ?_⟩
  rcases h.2 with hn | ⟨g, cap, cur, hv, hg, rest⟩
  · exact .inl hn
  · exact .inr ⟨g, cap, cur, hv, by omega, rest⟩
theorem owns_below {w w' : World} {lo size n : Nat} {e : TypeId} {v : Value} {xs : List Value} (h : w.ownsRow lo e size v n xs) (hb : Below w.heap.size w w') : w'.ownsRow lo e size v n xs :=
  Mid.owns (lo := 0) ((Mid.refl 0 w).below hb) (Nat.zero_le _) h
section
open Go Go.RowKit Go.ChangeShapes Go.WideShapes Go.ChangeAt
theorem Tryz.laidOut : laidOutB Tryz.prog = true := by kernel_rfl
theorem Tryz.own : ownKnob Tryz.prog.godebug = none := by kernel_rfl
theorem trodAll_below {H : Type} {enc : TypeId × Value → H} {P : Program} (hl : laidOutB P = true) {W W' : World} (hb : Below W.heap.size W W') : ∀ (ts : List TypeId) (_ : ts.all (fun t => P.readableRec t && decide (t < P.types.size)) = true)
    (vs : List Value) (ds : List (DataW H)) (ps : List MemPlace), DataW.TrodAll enc P W 0 (fun _ => true) true ts vs ds ps → (∀ x ∈ ps, x.block < W.heap.size) →
    DataW.TrodAll enc P W' 0 (fun b => decide (b < W.heap.size)) true ts vs ds ps
  | [], _, vs, ds, ps, h, _ => by
    cases vs <;> cases ds <;> first | exact h | exact (False.elim h)
  | t :: ts, hts, vs, ds, ps, h, hlt => by
    simp only [List.all_cons, Bool.and_eq_true, decide_eq_true_eq] at hts
    cases vs with
    | nil => cases ds <;> exact False.elim h
    | cons v vs =>
      cases ds with
      | nil => exact False.elim h
      | cons d ds =>
        obtain ⟨p, q, h1, h2, rfl⟩ := h
        exact ⟨p, q, Below.trod hl hts.1.1 hts.1.2 h1 hb (fun x hx => hlt x (List.mem_append_left _ hx)),
          trodAll_below hl hb ts hts.2 vs ds q h2 (fun x hx => hlt x (List.mem_append_right _ hx)), rfl⟩
theorem law_post {H : Type} {enc : TypeId × Value → H} {P : Program} (hl : laidOutB P = true) {f : Func} {s : ChangeSpec} {W W' : World} {args : Array Value} {ds gs : List (DataW H)} {before : List MemPlace} {tb : TypeId}
    (hv : s.vars = []) (hW : DataW.Whole enc P f.params.toList s.vars false W args.toList ds gs before) (hb : Below W.heap.size W W')
    (hts : f.params.toList.all (fun t => P.readableRec t && decide (t < P.types.size)) = true) (hr : f.resultTypes = #[tb]) (htb : P.underlying tb = some .bool)
    (h1 : (s.fn H (ds ++ gs)).results = [.lit (.bool true)]) (h2 : (s.fn H (ds ++ gs)).args = ds) (h3 : (s.fn H (ds ++ gs)).vars = []) :
    s.post enc P f false true false false W args (.bool true) W' := by
  have hW' := hW
  obtain ⟨p, q, hA, hV, rfl, _, _⟩ := hW
  have hq : gs = [] ∧ q = [] := by
    rw [hv] at hV
    cases gs with
    | nil => exact ⟨rfl, hV⟩
    | cons g gs => exact False.elim hV
  obtain ⟨rfl, rfl⟩ := hq
  have hlt : ∀ x ∈ p, x.block < W.heap.size := fun x hx => hW'.lt x (by simpa using hx)
  refine ⟨ds, [], p ++ [], [], p, [], hW', ?_, ?_, ?_, hb.frame _, fun h => by cases h⟩
  · rw [h1, hr]
    exact trodAll_cons_mk (shut_bool htb _) trodAll_mk0
  · rw [h2]
    exact trodAll_below hl hb _ hts _ _ _ hA hlt
  · rw [h3, hv]
    rfl
theorem cell_u64 {P : Program} {W : World} {r : Reach} {b : Nat} {u : TypeId} {c : Value} (hu : P.underlying u = some (.int .u64)) (h : Cell.okWide P W r b u c) : ∃ x : BitVec 64, c = .int .u64 x.toNat := by
  have h' : Value.okWide P W r b u c := by unfold Value.okWide; rw [hu]; exact h
  obtain ⟨n, rfl⟩ := okWide_int hu h'
  simp only [Cell.okWide, Cell.ok, hu, IntKind.has, IntKind.min, IntKind.max] at h
  refine ⟨BitVec.ofInt 64 n, ?_⟩
  have h0 : 0 ≤ n ∧ n ≤ 18446744073709551615 := by simpa [IntKind.signed, IntKind.bits] using h.2
  rw [← w64, Int.emod_eq_of_lt h0.1 (by omega)]
theorem cell_u8 {P : Program} {W : World} {r : Reach} {b : Nat} {u : TypeId} {c : Value} (hu : P.underlying u = some (.int .u8)) (h : Cell.okWide P W r b u c) : ∃ x : Nat, x < 256 ∧ c = .int .u8 x := by
  have h' : Value.okWide P W r b u c := by unfold Value.okWide; rw [hu]; exact h
  obtain ⟨n, rfl⟩ := okWide_int hu h'
  simp only [Cell.okWide, Cell.ok, hu, IntKind.has, IntKind.min, IntKind.max] at h
  have h0 : 0 ≤ n ∧ n ≤ 255 := by simpa [IntKind.signed, IntKind.bits] using h.2
  exact ⟨n.toNat, by omega, by rw [Int.toNat_of_nonneg h0.1]⟩
theorem as_cell {P : Program} {W : World} {r : Reach} {b : Nat} {u : TypeId} {c : Value} {k : IntKind} (hu : P.underlying u = some (.int k)) (h : Value.okWide P W r b u c) : Cell.okWide P W r b u c := by
  unfold Value.okWide at h; rw [hu] at h; exact h
theorem open_cells {P : Program} {W : World} {r : Reach} {b : Nat} {t : TypeId} {v : Value} {ts : List TypeId} (hagg : (match P.underlying t with | some (.struct _) | some (.array _ _) => true | _ => false) = true)
    (hts : P.cellTypes P.depth t = some ts) (hn : P.cellsOf t = ts.length) (h : Value.okWide P W r b t v) :
    ∃ cs : Array Value, v = .agg cs ∧ cs.size = ts.length ∧ ∀ (i : Nat) (u : TypeId), ts[i]? = some u → ∃ c, cs[i]? = some c ∧ Cell.okWide P W r b u c := by
  have h' : ∃ cs, v = .agg cs ∧ cs.size = P.cellsOf t ∧ Row.okWide P W r b t cs := by
    unfold Value.okWide at h
    split at hagg <;> simp_all
  obtain ⟨cs, rfl, hs, ts', hts', _, hc⟩ := h'
  rw [hts] at hts'
  obtain rfl := Option.some.inj hts'
  refine ⟨cs, rfl, hs.trans hn, fun i u hu => ?_⟩
  have hi : i < ts.length := (List.getElem?_eq_some_iff.1 hu).1
  have hi' : i < cs.size := by omega
  obtain ⟨u', hu', hok⟩ := hc i cs[i] (Array.getElem?_eq_getElem hi')
  rw [Nat.mod_eq_of_lt hi, hu] at hu'
  obtain rfl := Option.some.inj hu'
  exact ⟨_, Array.getElem?_eq_getElem hi', hok⟩
theorem arr2 {cs : Array Value} {c0 c1 : Value} (hs : cs.size = 2) (h0 : cs[0]? = some c0) (h1 : cs[1]? = some c1) : cs = #[c0, c1] := by
  apply Array.ext (by simpa using hs)
  intro i hi hi'
  match i, hi with
  | 0, hi => have := Array.getElem?_eq_getElem hi; rw [h0] at this; simpa using (Option.some.inj this).symm
  | 1, hi => have := Array.getElem?_eq_getElem hi; rw [h1] at this; simpa using (Option.some.inj this).symm
  | n + 2, hi => omega
end
namespace Wd
def hi (x : BitVec 128) : BitVec 64 := (x >>> 64).setWidth 64
def lo (x : BitVec 128) : BitVec 64 := x.setWidth 64
def mk (h l : BitVec 64) : BitVec 128 := h ++ l
theorem lo_nat (x : BitVec 128) : (lo x).toNat = x.toNat % 18446744073709551616 := by
  simp [lo, BitVec.toNat_setWidth]
theorem hi_nat (x : BitVec 128) : (hi x).toNat = x.toNat / 18446744073709551616 := by
  have := x.isLt
  simp only [hi, BitVec.toNat_setWidth, BitVec.toNat_ushiftRight, Nat.shiftRight_eq_div_pow]
  omega
theorem mk_nat (h l : BitVec 64) : (mk h l).toNat = h.toNat * 18446744073709551616 + l.toNat := by
  simp only [mk, BitVec.toNat_append]
  rw [← Nat.shiftLeft_add_eq_or_of_lt l.isLt, Nat.shiftLeft_eq]
theorem hi_mk (h l : BitVec 64) : hi (mk h l) = h := BitVec.eq_of_toNat_eq (by rw [hi_nat, mk_nat]; have := l.isLt; omega)
theorem lo_mk (h l : BitVec 64) : lo (mk h l) = l := BitVec.eq_of_toNat_eq (by rw [lo_nat, mk_nat]; have := l.isLt; omega)
theorem mk_eta (x : BitVec 128) : mk (hi x) (lo x) = x := BitVec.eq_of_toNat_eq (by rw [mk_nat, hi_nat, lo_nat]; omega)
theorem ext {x y : BitVec 128} (h : hi x = hi y) (l : lo x = lo y) : x = y := by rw [← mk_eta x, h, l, mk_eta]
def over (a b : BitVec 128) : Bool := decide (340282366920938463463374607431768211456 ≤ a.toNat + b.toNat)
def less (a b : BitVec 128) : Bool := decide (a.toNat < b.toNat)
def cy (a b : BitVec 128) : Nat := ((lo a).toNat + (lo b).toNat) / 18446744073709551616
def cy2 (a b : BitVec 128) : Nat := ((hi a).toNat + (hi b).toNat + cy a b) / 18446744073709551616
theorem cy_le (a b : BitVec 128) : cy a b ≤ 1 := by
  have := (lo a).isLt; have := (lo b).isLt; unfold cy; omega
theorem add_lo (a b : BitVec 128) : ((lo a).toNat + (lo b).toNat) % 18446744073709551616 = (lo (a + b)).toNat := by
  rw [lo_nat, lo_nat, lo_nat, BitVec.toNat_add]; omega
theorem add_hi (a b : BitVec 128) : ((hi a).toNat + (hi b).toNat + cy a b) % 18446744073709551616 = (hi (a + b)).toNat := by
  unfold cy
  rw [lo_nat, lo_nat, hi_nat, hi_nat, hi_nat, BitVec.toNat_add]; omega
theorem add_over (a b : BitVec 128) : decide (0 < cy2 a b) = over a b := by
  have := a.isLt; have := b.isLt
  unfold cy2 cy over
  rw [lo_nat, lo_nat, hi_nat, hi_nat]
  apply decide_eq_decide.2
  omega
def bw (a b : BitVec 128) : Nat := if (lo a).toNat < (lo b).toNat then 1 else 0
def bw2 (a b : BitVec 128) : Nat := if (hi a).toNat < (hi b).toNat + bw a b then 1 else 0
theorem bw_le (a b : BitVec 128) : bw a b ≤ 1 := by unfold bw; split <;> omega
theorem sub_lo (a b : BitVec 128) : ((lo a).toNat + 18446744073709551616 - (lo b).toNat) % 18446744073709551616 = (lo (a - b)).toNat := by
  have := a.isLt; have := b.isLt
  rw [lo_nat, lo_nat, lo_nat, BitVec.toNat_sub]; omega
theorem sub_hi (a b : BitVec 128) : ((hi a).toNat + 18446744073709551616 - (hi b).toNat - bw a b) % 18446744073709551616 = (hi (a - b)).toNat := by
  have := a.isLt; have := b.isLt
  unfold bw
  rw [lo_nat, lo_nat, hi_nat, hi_nat, hi_nat, BitVec.toNat_sub]
  split <;> omega
theorem sub_less (a b : BitVec 128) : decide (0 < bw2 a b) = less a b := by
  have := a.isLt; have := b.isLt
  unfold bw2 bw less
  rw [lo_nat, lo_nat, hi_nat, hi_nat]
  apply decide_eq_decide.2
  split <;> split <;> omega
def full (x y : BitVec 64) : BitVec 128 := x.setWidth 128 * y.setWidth 128
theorem full_nat (x y : BitVec 64) : (full x y).toNat = x.toNat * y.toNat := by
  have hx := x.isLt; have hy := y.isLt
  have h : x.toNat * y.toNat < 2 ^ 128 := by
    have := Nat.mul_lt_mul'' hx hy
    rwa [← Nat.pow_add] at this
  rw [full, BitVec.toNat_mul, BitVec.toNat_setWidth, BitVec.toNat_setWidth, Nat.mod_eq_of_lt (a := x.toNat) (by omega), Nat.mod_eq_of_lt (a := y.toNat) (by omega), Nat.mod_eq_of_lt h]
theorem full_hi (x y : BitVec 64) : x.toNat * y.toNat / 18446744073709551616 = (hi (full x y)).toNat := by rw [hi_nat, full_nat]
theorem full_lo (x y : BitVec 64) : x.toNat * y.toNat % 18446744073709551616 = (lo (full x y)).toNat := by rw [lo_nat, full_nat]
theorem nat_split (x : BitVec 128) : x.toNat = (hi x).toNat * 18446744073709551616 + (lo x).toNat := by rw [hi_nat, lo_nat]; omega
theorem mul_expand (ah al bh bl B : Nat) : (ah * B + al) * (bh * B + bl) = ah * bh * (B * B) + ((ah * bl + al * bh) * B + al * bl) := by
  simp only [Nat.mul_add, Nat.add_mul]
  simp only [Nat.add_assoc]
  rw [show ah * B * (bh * B) = ah * bh * (B * B) from by ac_rfl, show al * (bh * B) = al * bh * B from by ac_rfl, show ah * B * bl = ah * bl * B from by ac_rfl]
  omega
theorem mul_parts (a b : BitVec 128) : (a * b).toNat = (((hi a).toNat * (lo b).toNat + (lo a).toNat * (hi b).toNat) * 18446744073709551616 + (lo a).toNat * (lo b).toNat) % 340282366920938463463374607431768211456 := by
  rw [BitVec.toNat_mul, nat_split a, nat_split b, mul_expand]
  rw [show (18446744073709551616 * 18446744073709551616 : Nat) = 2 ^ 128 from by decide]
  exact Nat.mul_add_mod_self_right _ _ _
theorem mul_lo (a b : BitVec 128) : lo (full (lo a) (lo b)) = lo (a * b) := by
  apply BitVec.eq_of_toNat_eq
  rw [lo_nat, lo_nat, full_nat, mul_parts]
  generalize (lo a).toNat * (lo b).toNat = p
  generalize (hi a).toNat * (lo b).toNat + (lo a).toNat * (hi b).toNat = q
  omega
theorem mul_hi (a b : BitVec 128) : hi (full (lo a) (lo b)) + (hi a * lo b + lo a * hi b) = hi (a * b) := by
  apply BitVec.eq_of_toNat_eq
  rw [BitVec.toNat_add, BitVec.toNat_add, BitVec.toNat_mul, BitVec.toNat_mul, hi_nat (full _ _), hi_nat (a * b), full_nat, mul_parts]
  generalize (lo a).toNat * (lo b).toNat = p
  generalize (hi a).toNat * (lo b).toNat = q
  generalize (lo a).toNat * (hi b).toNat = r
  omega
end Wd
set_option maxRecDepth 100000 in
theorem open_u128 {W : World} {r : Reach} {b : Nat} {v : Value} (h : Value.okWide Tryz.prog W r b 26 v) : ∃ x : BitVec 128, v = .agg #[.int .u64 (Wd.hi x).toNat, .int .u64 (Wd.lo x).toNat] := by
  obtain ⟨cs, rfl, hs, hc⟩ := open_cells (ts := [22, 22]) (by rw [Tryz.underlying26]) (by kernel_rfl) (by kernel_rfl) h
  obtain ⟨c0, e0, k0⟩ := hc 0 _ rfl
  obtain ⟨c1, e1, k1⟩ := hc 1 _ rfl
  obtain ⟨x0, rfl⟩ := cell_u64 Tryz.underlying22 k0
  obtain ⟨x1, rfl⟩ := cell_u64 Tryz.underlying22 k1
  have hv := congrArg Value.agg (arr2 hs e0 e1)
  have g1 : x0 = Wd.hi (Wd.mk x0 x1) := (Wd.hi_mk x0 x1).symm
  have g2 : x1 = Wd.lo (Wd.mk x0 x1) := (Wd.lo_mk x0 x1).symm
  generalize Wd.mk x0 x1 = y at g1 g2
  subst g1; subst g2
  exact ⟨y, hv⟩
namespace Gf
theorem shr_lt {p : Nat} (h : p ≠ 0) : p >>> 64 < p := by
  rw [Nat.shiftRight_eq_div_pow]; exact Nat.div_lt_self (by omega) (by decide)
def ws (p : Nat) : List (BitVec 64) := if h : p = 0 then [] else BitVec.ofNat 64 p :: ws (p >>> 64)
  termination_by p
  decreasing_by exact shr_lt h
theorem ws_zero : ws 0 = [] := by rw [ws, dif_pos rfl]
theorem ws_pos {p : Nat} (h : p ≠ 0) : ws p = BitVec.ofNat 64 p :: ws (p >>> 64) := by rw [ws, dif_neg h]
def val : List (BitVec 64) → Nat
  | [] => 0
  | x :: l => 2 ^ 64 * val l + x.toNat
theorem val_shr (x : BitVec 64) (l : List (BitVec 64)) : val (x :: l) >>> 64 = val l := by
  rw [Nat.shiftRight_eq_div_pow]
  show (2 ^ 64 * val l + x.toNat) / 2 ^ 64 = val l
  have := x.isLt
  omega
theorem val_low (x : BitVec 64) (l : List (BitVec 64)) : BitVec.ofNat 64 (val (x :: l)) = x := by
  apply BitVec.eq_of_toNat_eq
  rw [BitVec.toNat_ofNat]
  show (2 ^ 64 * val l + x.toNat) % 2 ^ 64 = x.toNat
  have := x.isLt
  omega
theorem val_ws (p : Nat) : val (ws p) = p := by
  induction p using Nat.strongRecOn with
  | ind p ih =>
    by_cases h : p = 0
    · subst h; rw [ws_zero]; rfl
    · rw [ws_pos h]
      show 2 ^ 64 * val (ws (p >>> 64)) + (BitVec.ofNat 64 p).toNat = p
      rw [ih _ (shr_lt h), BitVec.toNat_ofNat, Nat.shiftRight_eq_div_pow]
      omega
theorem val_bit (l : List (BitVec 64)) (i : Nat) : (val l).testBit i = (l.getD (i / 64) 0#64).toNat.testBit (i % 64) := by
  induction l generalizing i with
  | nil => simp [val]
  | cons x l ih =>
    show (2 ^ 64 * val l + x.toNat).testBit i = _
    rw [Nat.testBit_two_pow_mul_add _ x.isLt]
    by_cases h : i < 64
    · rw [if_pos h, Nat.div_eq_of_lt h, Nat.mod_eq_of_lt h]; rfl
    · rw [if_neg h, ih (i - 64)]
      have e : i / 64 = (i - 64) / 64 + 1 := by omega
      have e' : i % 64 = (i - 64) % 64 := by omega
      rw [e, e', List.getD_cons_succ]
theorem val_eq {l : List (BitVec 64)} {p : Nat} (h : ∀ i, (l.getD (i / 64) 0#64).toNat.testBit (i % 64) = p.testBit i) : val l = p := Nat.eq_of_testBit_eq fun i => by rw [val_bit, h]
theorem val_zero : ∀ (l : List (BitVec 64)), (∀ k, l.getD k 0#64 = 0#64) → val l = 0
  | [], _ => rfl
  | x :: l, h => by
    show 2 ^ 64 * val l + x.toNat = 0
    rw [val_zero l (fun k => by have := h (k + 1); rwa [List.getD_cons_succ] at this)]
    have := h 0
    rw [List.getD_cons_zero] at this
    rw [this]; rfl
theorem zero_val : ∀ (l : List (BitVec 64)) (k : Nat), val l = 0 → l.getD k 0#64 = 0#64
  | [], _, _ => rfl
  | x :: l, k, h => by
    have h' : 2 ^ 64 * val l + x.toNat = 0 := h
    cases k with
    | zero => rw [List.getD_cons_zero]; apply BitVec.eq_of_toNat_eq; show x.toNat = 0; omega
    | succ k => rw [List.getD_cons_succ]; exact zero_val l k (by omega)
theorem own_of : ∀ (l : List (BitVec 64)) (n : Nat), n ≤ l.length → (∀ k, n ≤ k → l.getD k 0#64 = 0#64) → (n = 0 ∨ l.getD (n - 1) 0#64 ≠ 0#64) → l.take n = ws (val l)
  | [], n, h, _, _ => by
    have : n = 0 := by simpa using h
    subst this; rw [show val [] = 0 from rfl, ws_zero]; rfl
  | x :: l, 0, _, h, _ => by rw [val_zero _ (fun k => h k (Nat.zero_le _)), ws_zero]; rfl
  | x :: l, m + 1, hm, h, h0 => by
    have hl : l.take m = ws (val l) := own_of l m (by simpa using hm) (fun k hk => by have := h (k + 1) (by omega); rwa [List.getD_cons_succ] at this) (by
      cases m with
      | zero => exact .inl rfl
      | succ m => rcases h0 with h0 | h0
                  · cases h0
                  · right; rwa [show m + 1 + 1 - 1 = (m + 1 - 1) + 1 from by omega, List.getD_cons_succ] at h0)
    have hv : val (x :: l) ≠ 0 := by
      intro e
      rcases h0 with h0 | h0
      · cases h0
      · exact h0 (zero_val _ _ e)
    rw [ws_pos hv, val_low, val_shr, ← hl]; rfl
theorem ws_own (p : Nat) : (ws p).length = 0 ∨ (ws p).getD ((ws p).length - 1) 0#64 ≠ 0#64 := by
  induction p using Nat.strongRecOn with
  | ind p ih =>
    by_cases h : p = 0
    · subst h; rw [ws_zero]; exact .inl rfl
    · right
      rw [ws_pos h, List.length_cons, Nat.add_sub_cancel]
      rcases ih _ (shr_lt h) with e | e
      · rw [e, List.getD_cons_zero]
        have e0 : ws (p >>> 64) = [] := List.length_eq_zero_iff.1 e
        have e1 : p >>> 64 = 0 := by rw [← val_ws (p >>> 64), e0]; rfl
        intro e2
        have e3 := congrArg BitVec.toNat e2
        rw [BitVec.toNat_ofNat, Nat.shiftRight_eq_div_pow] at *
        have : (0#64).toNat = 0 := rfl
        omega
      · have hl : (ws (p >>> 64)).length ≠ 0 := by
          intro e0
          rw [List.length_eq_zero_iff.1 e0] at e
          exact e rfl
        rw [show (ws (p >>> 64)).length = ((ws (p >>> 64)).length - 1) + 1 from by omega, List.getD_cons_succ]
        exact e
def deg (p : Nat) : Int := if p = 0 then -1 else (p.log2 : Nat)
theorem log2_shr {p : Nat} (h : 2 ^ 64 ≤ p) : p.log2 = 64 + (p >>> 64).log2 := by
  have h0 : p ≠ 0 := by have : (0 : Nat) < 2 ^ 64 := by decide
                        omega
  have hq : p >>> 64 ≠ 0 := by rw [Nat.shiftRight_eq_div_pow]; have := Nat.div_pos h (by decide : 0 < 2 ^ 64); omega
  have a1 : 2 ^ (64 + (p >>> 64).log2) ≤ p := by
    have := (Nat.le_log2 hq).1 (Nat.le_refl _)
    rw [Nat.shiftRight_eq_div_pow] at this ⊢
    rw [Nat.pow_add]
    exact Nat.le_trans (Nat.mul_le_mul_left _ this) (Nat.mul_div_le p (2 ^ 64))
  have a2 : p < 2 ^ (64 + (p >>> 64).log2 + 1) := by
    have := (Nat.log2_lt hq).1 (Nat.lt_succ_self _)
    rw [Nat.shiftRight_eq_div_pow] at this ⊢
    rw [Nat.add_assoc, Nat.pow_add, Nat.mul_comm]
    exact Nat.lt_mul_of_div_lt this (by decide)
  have b1 := (Nat.le_log2 h0).2 a1
  have b2 := (Nat.log2_lt h0).2 a2
  omega
theorem ws_small {p : Nat} (h0 : p ≠ 0) (h : p < 2 ^ 64) : ws p = [BitVec.ofNat 64 p] := by
  rw [ws_pos h0, show p >>> 64 = 0 from by rw [Nat.shiftRight_eq_div_pow]; exact Nat.div_eq_of_lt h, ws_zero]
theorem log2_ws {p : Nat} (h : p ≠ 0) : p.log2 = 64 * ((ws p).length - 1) + ((ws p).getD ((ws p).length - 1) 0#64).toNat.log2 := by
  induction p using Nat.strongRecOn with
  | ind p ih =>
    by_cases hs : p < 2 ^ 64
    · rw [ws_small h hs]
      show p.log2 = 64 * 0 + (BitVec.ofNat 64 p).toNat.log2
      rw [BitVec.toNat_ofNat, Nat.mod_eq_of_lt hs]; omega
    · have hq : p >>> 64 ≠ 0 := by rw [Nat.shiftRight_eq_div_pow]; have := Nat.div_pos (Nat.le_of_not_lt hs) (by decide : 0 < 2 ^ 64); omega
      rw [log2_shr (Nat.le_of_not_lt hs), ih _ (shr_lt h) hq, ws_pos h, List.length_cons, Nat.add_sub_cancel]
      have hl : (ws (p >>> 64)).length ≠ 0 := by rw [ws_pos hq, List.length_cons]; omega
      rw [show (ws (p >>> 64)).length = ((ws (p >>> 64)).length - 1) + 1 from by omega, List.getD_cons_succ, Nat.add_sub_cancel]
      omega
theorem ws_len_le {p n : Nat} (h : p < 2 ^ (64 * n)) : (ws p).length ≤ n := by
  by_cases h0 : p = 0
  · subst h0; rw [ws_zero]; exact Nat.zero_le _
  · have := log2_ws h0
    have h2 := (Nat.log2_lt h0).2 h
    omega
theorem lt_len (p : Nat) : p < 2 ^ (64 * (ws p).length) := by
  induction p using Nat.strongRecOn with
  | ind p ih =>
    by_cases h : p = 0
    · subst h; exact Nat.pow_pos (by decide)
    · rw [ws_pos h, List.length_cons]
      have := ih _ (shr_lt h)
      generalize (ws (p >>> 64)).length = m at *
      rw [Nat.shiftRight_eq_div_pow] at this
      rw [Nat.mul_add, Nat.mul_one, Nat.pow_add]
      exact Nat.lt_mul_of_div_lt this (by decide)
theorem getD_out {l : List (BitVec 64)} {k : Nat} (h : l.length ≤ k) : l.getD k 0#64 = 0#64 := by
  rw [List.getD_eq_getElem?_getD, List.getElem?_eq_none h]; rfl
def get (l : List (BitVec 64)) (k : Int) : BitVec 64 := if k < 0 then 0#64 else l.getD k.toNat 0#64
theorem get_nat (l : List (BitVec 64)) (k : Nat) : get l (k : Int) = l.getD k 0#64 := by unfold get; rw [if_neg (by omega)]; rfl
theorem get_out {l : List (BitVec 64)} {k : Int} (h : k < 0 ∨ (l.length : Int) ≤ k) : get l k = 0#64 := by
  unfold get
  split
  · rfl
  · rw [getD_out]; omega
theorem getD_map {f : Nat → BitVec 64} {n k : Nat} : ((List.range n).map f).getD k 0#64 = if k < n then f k else 0#64 := by
  rw [List.getD_eq_getElem?_getD, List.getElem?_map]
  by_cases h : k < n
  · rw [if_pos h, List.getElem?_range h]; rfl
  · rw [if_neg h, List.getElem?_eq_none (by rw [List.length_range]; omega)]; rfl
theorem zero_bit (j : Nat) : (0#64).toNat.testBit j = false := Nat.zero_testBit j
theorem val_add (a b : List (BitVec 64)) {n : Nat} (ha : a.length ≤ n) (hb : b.length ≤ n) : val ((List.range n).map fun i : Nat => get a i ^^^ get b i) = val a ^^^ val b := val_eq fun i => by
  rw [getD_map, Nat.testBit_xor, val_bit, val_bit]
  by_cases h : i / 64 < n
  · rw [if_pos h, get_nat, get_nat, BitVec.toNat_xor, Nat.testBit_xor]
  · rw [if_neg h, getD_out (l := a) (by omega), getD_out (l := b) (by omega), zero_bit]; rfl
theorem shl_bit (x : BitVec 64) (n j : Nat) (hj : j < 64) : (x <<< n).toNat.testBit j = (decide (n ≤ j) && x.toNat.testBit (j - n)) := by
  rw [← BitVec.getLsbD, BitVec.getLsbD_shiftLeft]
  by_cases h : n ≤ j
  · simp [h, hj, Nat.not_lt.2 h, BitVec.getLsbD]
  · simp [h, Nat.lt_of_not_le h]
theorem shr_bit (x : BitVec 64) (n j : Nat) : (x >>> n).toNat.testBit j = x.toNat.testBit (n + j) := by
  rw [← BitVec.getLsbD, BitVec.getLsbD_ushiftRight]; rfl
theorem big_bit (x : BitVec 64) {j : Nat} (h : 64 ≤ j) : x.toNat.testBit j = false := Nat.testBit_lt_two_pow (Nat.lt_of_lt_of_le x.isLt (Nat.pow_le_pow_right (by decide) h))
theorem val_up (a : List (BitVec 64)) (n : Nat) : val ((List.range (a.length + n / 64 + 1)).map fun i : Nat => get a ((i : Int) - (n / 64 : Nat)) <<< (n % 64) ||| get a ((i : Int) - (n / 64 : Nat) - 1) >>> (64 - n % 64)) = val a <<< n := val_eq fun j => by
  rw [getD_map, Nat.testBit_shiftLeft]
  have hm : j % 64 < 64 := Nat.mod_lt _ (by decide)
  by_cases hj : n ≤ j
  · rw [val_bit]
    simp only [hj, decide_true, Bool.true_and]
    by_cases hi : j / 64 < a.length + n / 64 + 1
    · rw [if_pos hi, BitVec.toNat_or, Nat.testBit_or, shl_bit _ _ _ hm, shr_bit]
      by_cases ht : n % 64 ≤ j % 64
      · have e1 : (j - n) / 64 = j / 64 - n / 64 := by omega
        have e2 : (j - n) % 64 = j % 64 - n % 64 := by omega
        rw [big_bit _ (show 64 ≤ 64 - n % 64 + j % 64 by omega), Bool.or_false, e1, e2]
        have e3 : ((j / 64 : Nat) : Int) - ((n / 64 : Nat) : Int) = ((j / 64 - n / 64 : Nat) : Int) := by omega
        rw [e3, get_nat]
        simp [ht]
      · have e1 : (j - n) / 64 = j / 64 - n / 64 - 1 := by omega
        have e2 : (j - n) % 64 = 64 - n % 64 + j % 64 := by omega
        have e3 : ((j / 64 : Nat) : Int) - ((n / 64 : Nat) : Int) - 1 = ((j / 64 - n / 64 - 1 : Nat) : Int) := by omega
        rw [e1, e2, e3, get_nat]
        simp [ht]
    · rw [if_neg hi, zero_bit, getD_out (by omega), zero_bit]
  · simp only [hj, decide_false, Bool.false_and]
    by_cases hi : j / 64 < a.length + n / 64 + 1
    · rw [if_pos hi, BitVec.toNat_or, Nat.testBit_or, shl_bit _ _ _ hm, shr_bit]
      by_cases ht : n % 64 ≤ j % 64
      · rw [big_bit _ (show 64 ≤ 64 - n % 64 + j % 64 by omega), Bool.or_false, get_out (.inl (by omega)), zero_bit, Bool.and_false]
      · rw [get_out (k := ((j / 64 : Nat) : Int) - ((n / 64 : Nat) : Int) - 1) (.inl (by omega)), zero_bit, Bool.or_false]
        simp [ht]
    · rw [if_neg hi, zero_bit]
end Gf
namespace Gf
theorem shl_xor (a b n : Nat) : (a ^^^ b) <<< n = a <<< n ^^^ b <<< n := Nat.eq_of_testBit_eq fun i => by
  simp only [Nat.testBit_xor, Nat.testBit_shiftLeft]
  cases decide (i ≥ n) <;> simp
theorem shl_zero (n : Nat) : (0 : Nat) <<< n = 0 := Nat.zero_shiftLeft n
theorem shl_shl (a m n : Nat) : (a <<< m) <<< n = a <<< (m + n) := (Nat.shiftLeft_add a m n).symm
def clm (a b : Nat) : Nat := if h : b = 0 then 0 else (if b % 2 = 1 then a else 0) ^^^ (clm a (b / 2)) <<< 1
  termination_by b
  decreasing_by omega
theorem clm_zero (a : Nat) : clm a 0 = 0 := by rw [clm, dif_pos rfl]
theorem clm_eq (a b : Nat) : clm a b = (if b % 2 = 1 then a else 0) ^^^ (clm a (b / 2)) <<< 1 := by
  by_cases h : b = 0
  · subst h; rw [clm_zero]; simp [clm_zero]
  · rw [clm, dif_neg h]
theorem xor4 (a b c d : Nat) : (a ^^^ b) ^^^ (c ^^^ d) = (a ^^^ c) ^^^ (b ^^^ d) := by
  rw [Nat.xor_assoc, Nat.xor_assoc]; congr 1; rw [← Nat.xor_assoc, Nat.xor_comm b c, Nat.xor_assoc]
theorem clm_xor_left (a a' b : Nat) : clm (a ^^^ a') b = clm a b ^^^ clm a' b := by
  induction b using Nat.strongRecOn with
  | ind b ih =>
    by_cases h : b = 0
    · subst h; rw [clm_zero, clm_zero, clm_zero]; rfl
    · rw [clm_eq (a ^^^ a'), clm_eq a b, clm_eq a' b, ih (b / 2) (by omega), shl_xor, xor4]
      split
      · rfl
      · rfl
theorem clm_shl_left (a b n : Nat) : clm (a <<< n) b = clm a b <<< n := by
  induction b using Nat.strongRecOn with
  | ind b ih =>
    by_cases h : b = 0
    · subst h; rw [clm_zero, clm_zero, shl_zero]
    · rw [clm_eq (a <<< n), clm_eq a b, ih (b / 2) (by omega), shl_xor, shl_shl, shl_shl, Nat.add_comm n 1]
      split
      · rfl
      · rw [shl_zero]
theorem clm_xor_right (a b b' : Nat) : clm a (b ^^^ b') = clm a b ^^^ clm a b' := by
  induction b using Nat.strongRecOn generalizing b' with
  | ind b ih =>
    by_cases h : b = 0
    · subst h; rw [clm_zero, Nat.zero_xor, Nat.zero_xor]
    · rw [clm_eq a (b ^^^ b'), clm_eq a b, clm_eq a b', Nat.xor_div_two, ih (b / 2) (by omega), shl_xor, xor4]
      congr 1
      have := @Nat.xor_mod_two_eq_one b b'
      by_cases h1 : b % 2 = 1 <;> by_cases h2 : b' % 2 = 1
      · rw [if_neg (by rw [this]; simp [h1, h2]), if_pos h1, if_pos h2, Nat.xor_self]
      · rw [if_pos (by rw [this]; simp [h1, h2]), if_pos h1, if_neg h2, Nat.xor_zero]
      · rw [if_pos (by rw [this]; simp [h1, h2]), if_neg h1, if_pos h2, Nat.zero_xor]
      · rw [if_neg (by rw [this]; simp [h1, h2]), if_neg h1, if_neg h2, Nat.zero_xor]
theorem clm_dbl (a c : Nat) : clm a (2 * c) = clm a c <<< 1 := by
  rw [clm_eq, if_neg (by omega), Nat.zero_xor, show 2 * c / 2 = c from by omega]
theorem clm_shl_right (a b n : Nat) : clm a (b <<< n) = clm a b <<< n := by
  induction n with
  | zero => rfl
  | succ n ih =>
    rw [Nat.shiftLeft_succ, clm_dbl, ih, shl_shl]
theorem clm_one (a : Nat) : clm a 1 = a := by rw [clm_eq, if_pos rfl, show 1 / 2 = 0 from rfl, clm_zero, shl_zero, Nat.xor_zero]
theorem zero_clm (b : Nat) : clm 0 b = 0 := by
 induction b using Nat.strongRecOn with
 | ind b ih =>
  by_cases h : b = 0
  ·subst h; exact clm_zero 0
  ·rw [clm_eq, ih (b / 2) (by omega), shl_zero]; simp
theorem half_xor (b : Nat) : b = (if b % 2 = 1 then 1 else 0) ^^^ (b / 2) <<< 1 := Nat.eq_of_testBit_eq fun i => by
  rw [Nat.testBit_xor, Nat.testBit_shiftLeft]
  cases i with
  | zero =>
    by_cases h : b % 2 = 1
    · simp [h]
    · simp [h]
  | succ i =>
    rw [Nat.testBit_succ]
    by_cases h : b % 2 = 1
    · rw [if_pos h]; simp [Nat.testBit_succ]
    · rw [if_neg h]; simp
theorem one_clm (b : Nat) : clm 1 b = b := by
  induction b using Nat.strongRecOn with
  | ind b ih =>
    by_cases h : b = 0
    · subst h; exact clm_zero 1
    · rw [clm_eq, ih (b / 2) (by omega)]; exact (half_xor b).symm
theorem clm_comm (a b : Nat) : clm a b = clm b a := by
  induction a using Nat.strongRecOn generalizing b with
  | ind a ih =>
    by_cases h : a = 0
    · subst h; rw [zero_clm, clm_zero]
    · rw [clm_eq b a, ← ih (a / 2) (by omega) b, ← clm_shl_left]
      conv => lhs; rw [half_xor a]
      rw [clm_xor_left]
      congr 1
      split
      · exact one_clm b
      · exact zero_clm b
theorem val_xor (x : BitVec 64) (l : List (BitVec 64)) : val (x :: l) = x.toNat ^^^ val l <<< 64 := Nat.eq_of_testBit_eq fun i => by
  show (2 ^ 64 * val l + x.toNat).testBit i = _
  rw [Nat.testBit_two_pow_mul_add _ x.isLt, Nat.testBit_xor, Nat.testBit_shiftLeft]
  by_cases h : i < 64
  · rw [if_pos h]; simp [Nat.not_le.2 h]
  · rw [if_neg h, big_bit x (Nat.le_of_not_lt h)]; simp [Nat.le_of_not_lt h]
theorem val_set : ∀ (l : List (BitVec 64)) (j : Nat) (v : BitVec 64), j < l.length → val (l.set j (l.getD j 0#64 ^^^ v)) = val l ^^^ v.toNat <<< (64 * j)
  | [], _, _, h => absurd h (Nat.not_lt_zero _)
  | x :: l, 0, v, _ => by
    rw [List.set_cons_zero, List.getD_cons_zero, val_xor, val_xor, BitVec.toNat_xor, Nat.mul_zero, Nat.shiftLeft_zero, Nat.xor_assoc, Nat.xor_assoc, Nat.xor_comm v.toNat]
  | x :: l, j + 1, v, h => by
    have h' : j < l.length := Nat.lt_of_succ_lt_succ h
    rw [List.set_cons_succ, List.getD_cons_succ, val_xor, val_set l j v h', val_xor, shl_xor, shl_shl, Nat.xor_assoc, Nat.mul_succ]
theorem val_take : ∀ (l : List (BitVec 64)) (k : Nat), k < l.length → val (l.take (k + 1)) = val (l.take k) ^^^ (l.getD k 0#64).toNat <<< (64 * k)
  | [], _, h => by cases h
  | x :: l, 0, _ => by
    show val [x] = 0 ^^^ x.toNat <<< 0
    rw [val_xor, show val [] = 0 from rfl, shl_zero, Nat.zero_xor, Nat.xor_zero, Nat.shiftLeft_zero]
  | x :: l, k + 1, h => by
    have h' : k < l.length := Nat.lt_of_succ_lt_succ h
    rw [List.take_succ_cons, val_xor, val_take l k h', List.take_succ_cons, val_xor, shl_xor, shl_shl, ← Nat.xor_assoc, List.getD_cons_succ, Nat.mul_succ]
def wd (a b : BitVec 64) : Nat → BitVec 64 × BitVec 64
  | 0 => (0#64, 0#64)
  | n + 1 => if (b >>> n) &&& 1#64 = 1#64 then ((wd a b n).1 ^^^ a >>> (64 - n), (wd a b n).2 ^^^ a <<< n) else wd a b n
theorem wd_succ (a b : BitVec 64) (n : Nat) : wd a b (n + 1) = if (b >>> n) &&& 1#64 = 1#64 then ((wd a b n).1 ^^^ a >>> (64 - n), (wd a b n).2 ^^^ a <<< n) else wd a b n := rfl
theorem bit_one (b : BitVec 64) (n : Nat) : ((b >>> n) &&& 1#64 = 1#64) ↔ b.toNat.testBit n = true := by
  rw [← BitVec.toNat_inj, BitVec.toNat_and, BitVec.toNat_ushiftRight, show (1#64).toNat = 1 from rfl, Nat.and_one_is_mod, Nat.testBit, Nat.one_and_eq_mod_two]
  simp
theorem mod_succ (b n : Nat) : b % 2 ^ (n + 1) = b % 2 ^ n ^^^ (if b.testBit n then 1 <<< n else 0) := Nat.eq_of_testBit_eq fun i => by
  rw [Nat.testBit_mod_two_pow, Nat.testBit_xor, Nat.testBit_mod_two_pow]
  by_cases h1 : i < n
  · have : i < n + 1 := by omega
    have h3 : ¬ n ≤ i := by omega
    split <;> simp [h1, this, h3, Nat.testBit_shiftLeft]
  · by_cases h2 : i = n
    · subst h2
      by_cases hb : b.testBit i = true
      · rw [if_pos hb]; simp [hb, Nat.testBit_shiftLeft]
      · rw [if_neg hb]; simp [hb]
    · have h3 : ¬ i < n + 1 := by omega
      have h4 : n ≤ i := by omega
      have h5 : i - n ≠ 0 := by omega
      split
      · simp only [h1, h3, decide_false, Bool.false_and, Bool.false_xor, Nat.testBit_shiftLeft, h4, decide_true, Bool.true_and, ge_iff_le]
        rw [Nat.testBit_lt_two_pow (x := 1) (Nat.one_lt_two_pow h5)]
      · simp [h1, h3]
theorem split64 (a : BitVec 64) {n : Nat} (hn : n < 64) : a.toNat <<< n = (a <<< n).toNat ^^^ (a >>> (64 - n)).toNat <<< 64 := Nat.eq_of_testBit_eq fun i => by
  rw [Nat.testBit_xor, Nat.testBit_shiftLeft, Nat.testBit_shiftLeft]
  by_cases h : i < 64
  · rw [shl_bit _ _ _ h]; simp [Nat.not_le.2 h]
  · have h1 : 64 ≤ i := by omega
    have h2 : n ≤ i := by omega
    rw [big_bit (a <<< n) h1, shr_bit, show 64 - n + (i - 64) = i - n from by omega]
    simp [h1, h2]
theorem wd_val (a b : BitVec 64) : ∀ n, n ≤ 64 → (wd a b n).2.toNat ^^^ (wd a b n).1.toNat <<< 64 = clm a.toNat (b.toNat % 2 ^ n)
  | 0, _ => by
    rw [Nat.pow_zero, Nat.mod_one, clm_zero]
    show (0 : Nat) ^^^ 0 <<< 64 = 0
    rw [shl_zero]; rfl
  | n + 1, h => by
    have ih := wd_val a b n (by omega)
    rw [mod_succ, clm_xor_right, ← ih]
    rw [wd_succ]
    by_cases hb : b.toNat.testBit n = true
    · rw [if_pos ((bit_one b n).2 hb), if_pos hb, clm_shl_right, clm_one, split64 a (by omega)]
      show (_ ^^^ _ : BitVec 64).toNat ^^^ (_ ^^^ _ : BitVec 64).toNat <<< 64 = _
      rw [BitVec.toNat_xor, BitVec.toNat_xor, shl_xor, xor4]
    · rw [if_neg (fun e => hb ((bit_one b n).1 e)), if_neg hb, clm_zero, Nat.xor_zero]
theorem wd_all (a b : BitVec 64) : (wd a b 64).2.toNat ^^^ (wd a b 64).1.toNat <<< 64 = clm a.toNat b.toNat := by
  rw [wd_val a b 64 (Nat.le_refl _), Nat.mod_eq_of_lt b.isLt]
def addw (out : List (BitVec 64)) (j : Nat) (x y : BitVec 64) : List (BitVec 64) :=
  (out.set j (out.getD j 0#64 ^^^ (wd x y 64).2)).set (j + 1) ((out.set j (out.getD j 0#64 ^^^ (wd x y 64).2)).getD (j + 1) 0#64 ^^^ (wd x y 64).1)
theorem addw_len (out : List (BitVec 64)) (j : Nat) (x y : BitVec 64) : (addw out j x y).length = out.length := by unfold addw; rw [List.length_set, List.length_set]
theorem addw_val {out : List (BitVec 64)} {j : Nat} (x y : BitVec 64) (h : j + 1 < out.length) : val (addw out j x y) = val out ^^^ clm x.toNat y.toNat <<< (64 * j) := by
  unfold addw
  rw [val_set _ _ _ (by rw [List.length_set]; exact h), val_set _ _ _ (by omega), Nat.xor_assoc]
  congr 1
  rw [← wd_all, shl_xor, shl_shl, show 64 + 64 * j = 64 * (j + 1) from by omega]
def mulRow (b : List (BitVec 64)) (x : BitVec 64) (i : Nat) : Nat → List (BitVec 64) → List (BitVec 64)
  | 0, out => out
  | k + 1, out => addw (mulRow b x i k out) (i + k) x (b.getD k 0#64)
theorem mulRow_len (b : List (BitVec 64)) (x : BitVec 64) (i : Nat) : ∀ k out, (mulRow b x i k out).length = out.length
  | 0, _ => rfl
  | k + 1, out => by unfold mulRow; rw [addw_len, mulRow_len b x i k out]
theorem mulRow_val {b : List (BitVec 64)} {x : BitVec 64} {i : Nat} {out : List (BitVec 64)} (h : i + b.length < out.length) : ∀ k, k ≤ b.length → val (mulRow b x i k out) = val out ^^^ clm x.toNat (val (b.take k)) <<< (64 * i)
  | 0, _ => by rw [List.take_zero, show val [] = 0 from rfl, clm_zero, shl_zero, Nat.xor_zero]; rfl
  | k + 1, hk => by
    unfold mulRow
    rw [addw_val _ _ (by rw [mulRow_len]; omega), mulRow_val h k (by omega), val_take b k (by omega), clm_xor_right, clm_shl_right, shl_xor, shl_shl, Nat.xor_assoc, show 64 * (i + k) = 64 * k + 64 * i from by omega]
def mulRows (a b : List (BitVec 64)) : Nat → List (BitVec 64)
  | 0 => List.replicate (a.length + b.length) 0#64
  | i + 1 => if a.getD i 0#64 = 0#64 then mulRows a b i else mulRow b (a.getD i 0#64) i b.length (mulRows a b i)
theorem mulRows_succ (a b : List (BitVec 64)) (i : Nat) : mulRows a b (i + 1) = if a.getD i 0#64 = 0#64 then mulRows a b i else mulRow b (a.getD i 0#64) i b.length (mulRows a b i) := rfl
theorem mulRows_len (a b : List (BitVec 64)) : ∀ i, (mulRows a b i).length = a.length + b.length
  | 0 => List.length_replicate ..
  | i + 1 => by
    rw [mulRows_succ]
    split
    · exact mulRows_len a b i
    · rw [mulRow_len, mulRows_len a b i]
theorem val_replicate : ∀ n, val (List.replicate n 0#64) = 0
  | 0 => rfl
  | n + 1 => by rw [List.replicate_succ, val_xor, val_replicate n]; rfl
theorem mulRows_val (a b : List (BitVec 64)) : ∀ i, i ≤ a.length → val (mulRows a b i) = clm (val (a.take i)) (val b)
  | 0, _ => by rw [List.take_zero, show val [] = 0 from rfl, zero_clm]; exact val_replicate _
  | i + 1, h => by
    rw [val_take a i (by omega), clm_xor_left, clm_shl_left, ← mulRows_val a b i (by omega), mulRows_succ]
    split
    · rename_i e
      rw [e, show (0#64).toNat = 0 from rfl, zero_clm, shl_zero, Nat.xor_zero]
    · rw [mulRow_val (by rw [mulRows_len]; omega) b.length (Nat.le_refl _), List.take_length]
def sqw : List (BitVec 64) → List (BitVec 64)
  | [] => []
  | x :: l => (wd x x 64).2 :: (wd x x 64).1 :: sqw l
theorem sqw_len : ∀ l, (sqw l).length = 2 * l.length
  | [] => rfl
  | x :: l => by unfold sqw; rw [List.length_cons, List.length_cons, sqw_len l, List.length_cons]; omega
theorem clm_sq (a b : Nat) : clm (a ^^^ b) (a ^^^ b) = clm a a ^^^ clm b b := by
  rw [clm_xor_left, clm_xor_right, clm_xor_right, clm_comm b a, Nat.xor_assoc]
  congr 1
  rw [← Nat.xor_assoc, Nat.xor_self, Nat.zero_xor]
theorem sqw_cons (x : BitVec 64) (l : List (BitVec 64)) : sqw (x :: l) = (wd x x 64).2 :: (wd x x 64).1 :: sqw l := rfl
theorem sqw_val : ∀ l, val (sqw l) = clm (val l) (val l)
  | [] => by
    show 0 = clm 0 0
    rw [clm_zero]
  | x :: l => by
    rw [sqw_cons, val_xor, val_xor, sqw_val l, shl_xor, ← Nat.xor_assoc, wd_all, val_xor, clm_sq, clm_shl_left, clm_shl_right]
theorem sqw_app : ∀ (l : List (BitVec 64)) (x : BitVec 64), sqw (l ++ [x]) = sqw l ++ [(wd x x 64).2, (wd x x 64).1]
  | [], _ => rfl
  | y :: l, x => by rw [List.cons_append, sqw_cons, sqw_cons, sqw_app l x]; rfl
def sqf (l : List (BitVec 64)) (i : Nat) : List (BitVec 64) := sqw (l.take i) ++ List.replicate (2 * (l.length - i)) 0#64
theorem sqf_len (l : List (BitVec 64)) {i : Nat} (h : i ≤ l.length) : (sqf l i).length = 2 * l.length := by
  unfold sqf; rw [List.length_append, sqw_len, List.length_take, List.length_replicate]; omega
theorem sqf_zero (l : List (BitVec 64)) : List.replicate (2 * l.length) 0#64 = sqf l 0 := by unfold sqf; rw [List.take_zero]; rfl
theorem sqf_all (l : List (BitVec 64)) : sqf l l.length = sqw l := by unfold sqf; rw [List.take_length, Nat.sub_self]; exact List.append_nil _
theorem sq_set {l : List (BitVec 64)} {i : Nat} {x : BitVec 64} (h : l[i]? = some x) : ((sqf l i).set (2 * i + 1) (wd x x 64).1).set (2 * i) (wd x x 64).2 = sqf l (i + 1) := by
  have hi := (List.getElem?_eq_some_iff.1 h).1
  have hs : (sqw (l.take i)).length = 2 * i := by rw [sqw_len, List.length_take]; omega
  have ht : l.take (i + 1) = l.take i ++ [x] := by rw [List.take_add_one, h]; rfl
  unfold sqf
  rw [ht, sqw_app, show 2 * (l.length - i) = (2 * (l.length - (i + 1)) + 1) + 1 from by omega, List.replicate_succ, List.replicate_succ]
  rw [List.set_append_right _ _ (by omega), List.set_append_right _ _ (by omega), hs, show 2 * i + 1 - 2 * i = 1 from by omega, Nat.sub_self, List.append_assoc]
  rfl
theorem top_bit {p : Nat} (h : p ≠ 0) : p.testBit p.log2 = true := by
  rw [Nat.testBit_eq_decide_div_mod_eq]
  have a := (Nat.le_log2 h).1 (Nat.le_refl _)
  have b := (Nat.log2_lt h).1 (Nat.lt_succ_self _)
  rw [Nat.pow_succ] at b
  have : p / 2 ^ p.log2 = 1 := Nat.div_eq_of_lt_le (by omega) (by omega)
  rw [this]; rfl
theorem red_lt {a p : Nat} (hp : p ≠ 0) (ha : a ≠ 0) (h : p.log2 ≤ a.log2) : a ^^^ p <<< (a.log2 - p.log2) < 2 ^ a.log2 := by
  apply Nat.lt_pow_two_of_testBit
  intro i hi
  rw [Nat.testBit_xor, Nat.testBit_shiftLeft]
  by_cases e : i = a.log2
  · subst e
    rw [top_bit ha, show a.log2 - (a.log2 - p.log2) = p.log2 from by omega, top_bit hp]
    simp
  · rw [Nat.testBit_lt_two_pow (Nat.lt_of_lt_of_le (Nat.lt_log2_self (n := a)) (Nat.pow_le_pow_right (by decide) (by omega)))]
    rw [Nat.testBit_lt_two_pow (x := p) (Nat.lt_of_lt_of_le (Nat.lt_log2_self (n := p)) (Nat.pow_le_pow_right (by decide) (by omega)))]
    simp
theorem red_lt' {a p : Nat} (hp : p ≠ 0) (ha : a ≠ 0) (h : p.log2 ≤ a.log2) : a ^^^ p <<< (a.log2 - p.log2) < a := Nat.lt_of_lt_of_le (red_lt hp ha h) ((Nat.le_log2 ha).1 (Nat.le_refl _))
def dm (a p q : Nat) : Nat × Nat := if h : p ≠ 0 ∧ a ≠ 0 ∧ p.log2 ≤ a.log2 then dm (a ^^^ p <<< (a.log2 - p.log2)) p (q ^^^ 1 <<< (a.log2 - p.log2)) else (q, a)
  termination_by a
  decreasing_by exact red_lt' h.1 h.2.1 h.2.2
def md (a p : Nat) : Nat := (dm a p 0).2
theorem dm_step {a p : Nat} (q : Nat) (h : p ≠ 0 ∧ a ≠ 0 ∧ p.log2 ≤ a.log2) : dm a p q = dm (a ^^^ p <<< (a.log2 - p.log2)) p (q ^^^ 1 <<< (a.log2 - p.log2)) := by rw [dm, dif_pos h]
theorem dm_end {a p : Nat} (q : Nat) (h : ¬ (p ≠ 0 ∧ a ≠ 0 ∧ p.log2 ≤ a.log2)) : dm a p q = (q, a) := by rw [dm, dif_neg h]
theorem dm_rest (p : Nat) : ∀ a q q', (dm a p q).2 = (dm a p q').2 := by
  intro a
  induction a using Nat.strongRecOn with
  | ind a ih =>
    intro q q'
    by_cases h : p ≠ 0 ∧ a ≠ 0 ∧ p.log2 ≤ a.log2
    · rw [dm_step q h, dm_step q' h]; exact ih _ (red_lt' h.1 h.2.1 h.2.2) _ _
    · rw [dm_end q h, dm_end q' h]
theorem md_step {a p : Nat} (h : p ≠ 0 ∧ a ≠ 0 ∧ p.log2 ≤ a.log2) : md a p = md (a ^^^ p <<< (a.log2 - p.log2)) p := by
  unfold md; rw [dm_step 0 h]; exact dm_rest p _ _ _
theorem md_end {a p : Nat} (h : ¬ (p ≠ 0 ∧ a ≠ 0 ∧ p.log2 ≤ a.log2)) : md a p = a := by unfold md; rw [dm_end 0 h]
theorem md_deg {p : Nat} (hp : p ≠ 0) (a : Nat) : md a p = 0 ∨ (md a p).log2 < p.log2 := by
  induction a using Nat.strongRecOn with
  | ind a ih =>
    by_cases h : p ≠ 0 ∧ a ≠ 0 ∧ p.log2 ≤ a.log2
    · rw [md_step h]; exact ih _ (red_lt' h.1 h.2.1 h.2.2)
    · rw [md_end h]
      by_cases ha : a = 0
      · exact .inl ha
      · right; apply Nat.lt_of_not_le; exact fun k => h ⟨hp, ha, k⟩
theorem md_lt {p : Nat} (hp : p ≠ 0) (a : Nat) : md a p < 2 ^ p.log2 := by
  rcases md_deg hp a with h | h
  · rw [h]; exact Nat.pow_pos (by decide)
  · by_cases h0 : md a p = 0
    · rw [h0]; exact Nat.pow_pos (by decide)
    · exact (Nat.log2_lt h0).1 h
theorem deg_le {a p : Nat} (hp : p ≠ 0) : 0 ≤ deg a - deg p ↔ (p ≠ 0 ∧ a ≠ 0 ∧ p.log2 ≤ a.log2) := by
  unfold deg
  rw [if_neg hp]
  by_cases h : a = 0
  · rw [if_pos h]; constructor
    · intro k; omega
    · intro k; exact absurd h k.2.1
  · rw [if_neg h]; constructor
    · intro k; exact ⟨hp, h, by omega⟩
    · intro k; have := k.2.2; omega
end Gf
section
namespace Inv
section
variable {P : Program} {ops : Array Oper} {Q : Exit → Act → World → Prop}
def binds' (e : Edge) : Bool := Region.binds .any e
def waits (o : Oper) : List Nat := (o.after.toList.filter binds').map (·.on)
def early (l : List Oper) : Bool := (l.zipIdx).all fun p => (waits p.1).all fun j => decide (j < p.2)
def Closed (ops : Array Oper) (L : Nat → Bool) : Prop := ∀ i o, ops[i]? = some o → L i = true → ∀ j ∈ waits o, L j = true
theorem ready_iff {listed : Array Bool} {i : Nat} (hs : listed.size = ops.size) : i ∈ Region.ready .any ops listed ↔
    i < ops.size ∧ listed.getD i false = false ∧ ∃ o, ops[i]? = some o ∧ ∀ j ∈ waits o, listed.getD j false = true := by
  unfold Region.ready
  simp only [List.mem_filter, List.mem_range, Bool.and_eq_true, Bool.not_eq_true']
  constructor
  · rintro ⟨hi, h1, h2⟩
    have e : ops[i]? = some ops[i] := Array.getElem?_eq_getElem hi
    refine ⟨hi, ?_, ops[i], e, ?_⟩
    · have hi' : i < listed.size := by omega
      simp only [Array.getD, hi', dif_pos] at h1 ⊢
      exact h1
    · rw [e] at h2
      simp only [Option.map_some, Option.getD_some, Array.all_eq_true_iff_forall_mem] at h2
      intro j hj
      unfold waits at hj
      obtain ⟨ed, hed, rfl⟩ := List.mem_map.1 hj
      obtain ⟨hm, hb⟩ := List.mem_filter.1 hed
      have := h2 ed (by simpa using hm)
      unfold binds' at hb
      simpa [hb] using this
  · rintro ⟨hi, h1, o, ho, h2⟩
    refine ⟨hi, ?_, ?_⟩
    · have hi' : i < listed.size := by omega
      simp only [Array.getD, hi', dif_pos] at h1 ⊢
      exact h1
    · rw [ho]
      simp only [Option.map_some, Option.getD_some, Array.all_eq_true_iff_forall_mem]
      intro ed hed
      cases hb : Region.binds .any ed with
      | false => rfl
      | true =>
        simp only [Bool.not_true, Bool.false_or]
        exact h2 _ (List.mem_map.2 ⟨ed, List.mem_filter.2 ⟨by simpa using hed, hb⟩, rfl⟩)
theorem early_spec {l : List Oper} (h : early l = true) {i : Nat} {o : Oper} (ho : l[i]? = some o) : ∀ j ∈ waits o, j < i := by
  unfold early at h
  rw [List.all_eq_true] at h
  have hm : (o, i) ∈ l.zipIdx := by
    rw [List.mem_zipIdx_iff_getElem?]; exact ho
  have := h _ hm
  rw [List.all_eq_true] at this
  exact fun j hj => by simpa using this j hj
theorem all_of_none {l : List Oper} (he : early l = true) {listed : Array Bool} (hs : listed.size = l.toArray.size) (hr : Region.ready .any l.toArray listed = []) :
    ∀ i, i < l.toArray.size → listed.getD i false = true := by
  intro i
  induction i using Nat.strongRecOn with
  | _ i ih =>
    intro hi
    cases hb : listed.getD i false with
    | true => rfl
    | false =>
      exfalso
      have hl : i < l.length := by simpa using hi
      have ho : l[i]? = some l[i] := List.getElem?_eq_getElem hl
      have : i ∈ Region.ready .any l.toArray listed := (ready_iff hs).2 ⟨hi, hb, l[i], by simp, fun j hj => ih j (early_spec he ho j hj) (by have := early_spec he ho j hj; omega)⟩
      rw [hr] at this
      cases this
def left (listed : Array Bool) : Nat := listed.toList.countP (· == false)
theorem left_set {listed : Array Bool} {i : Nat} (hi : i < listed.size) (h : listed.getD i false = false) : left (listed.setIfInBounds i true) < left listed := by
  obtain ⟨l⟩ := listed
  simp only [left, List.setIfInBounds_toArray] at *
  simp only [List.size_toArray] at hi
  have h' : l[i] = false := by
    have h2 := h
    simp [Array.getD, hi] at h2
    exact h2
  clear h
  induction l generalizing i with
  | nil => simp at hi
  | cons b l ih =>
    cases i with
    | zero =>
      simp only [List.getElem_cons_zero] at h'
      subst h'
      simp [List.countP_cons]
    | succ i =>
      simp only [List.getElem_cons_succ] at h'
      have := ih (i := i) (by simpa using hi) h'
      simp only [List.set_cons_succ, List.countP_cons]
      omega
theorem left_zero {listed : Array Bool} (h : left listed = 0) (i : Nat) (hi : i < listed.size) : listed.getD i false = true := by
  obtain ⟨l⟩ := listed
  simp only [left] at h
  rw [List.countP_eq_zero] at h
  simp only [List.size_toArray] at hi
  have := h l[i] (List.getElem_mem hi)
  simp only [Array.getD, List.size_toArray, hi, dif_pos]
  simpa using this
theorem getD_set (listed : Array Bool) (i j : Nat) (hi : i < listed.size) : (listed.setIfInBounds i true).getD j false = (j == i || listed.getD j false) := by
  by_cases h : j = i
  · subst h; simp [hi]
  · rw [beq_false_of_ne h, Bool.false_or]
    by_cases hj : j < listed.size
    · simp [hj, Array.getElem_setIfInBounds, Ne.symm h]
    · simp [hj]
def add (L : Nat → Bool) (i : Nat) : Nat → Bool := fun j => cond (Nat.beq j i) true (L j)
theorem add_eq (L : Nat → Bool) (i j : Nat) : add L i j = (j == i || L j) := by
  unfold add
  by_cases h : j = i
  · subst h; simp
  · have : Nat.beq j i = false := by
      cases hb : Nat.beq j i with
      | false => rfl
      | true => exact absurd (Nat.eq_of_beq_eq_true hb) h
    rw [this, beq_false_of_ne h]; rfl
theorem any_inv {l : List Oper} (he : early l = true) (I : (Nat → Bool) → Act → World → Prop)
    (step : ∀ L a w i o, l[i]? = some o → Closed l.toArray L → L i = false → (∀ j ∈ waits o, L j = true) → I L a w →
      wpOp P l.toArray Q i (fun a' w' => I (add L i) a' w') a w)
    (fin : ∀ L a w, (∀ i, i < l.length → L i = true) → I L a w → Q .normal a w) :
    ∀ (fuel : Nat) (listed : Array Bool) (L : Nat → Bool) (a : Act) (w : World), listed.size = l.toArray.size → left listed ≤ fuel → (∀ j, L j = listed.getD j false) → Closed l.toArray L → I L a w → wpAny P .any l.toArray Q fuel listed a w := by
  intro fuel
  induction fuel with
  | zero =>
    intro listed L a w hs hf hL hC h
    have all : ∀ i, i < l.toArray.size → listed.getD i false = true := fun i hi => left_zero (by omega) i (by omega)
    refine ⟨?_, fin L a w (fun i hi => by rw [hL]; exact all i (by simpa using hi)) h⟩
    rw [List.eq_nil_iff_forall_not_mem]
    intro i hi
    obtain ⟨h1, h2, _⟩ := (ready_iff hs).1 hi
    rw [all i h1] at h2
    cases h2
  | succ fuel ih =>
    intro listed L a w hs hf hL hC h
    refine ⟨fun hr => fin L a w (fun i hi => by rw [hL]; exact all_of_none he hs hr i (by simpa using hi)) h, fun i hi => ?_⟩
    obtain ⟨h1, h2, o, ho, h3⟩ := (ready_iff hs).1 hi
    have ho' : l[i]? = some o := by simpa using ho
    refine wpOp_mono (fun a' w' h' => ?_) (step L a w i o ho' hC (by rw [hL]; exact h2) (fun j hj => by rw [hL]; exact h3 j hj) h)
    refine ih _ _ a' w' (by simpa using hs) ?_ ?_ ?_ h'
    · have := left_set (listed := listed) (i := i) (by omega) h2
      omega
    · intro j
      rw [getD_set _ _ _ (by omega), add_eq, hL]
    · intro k ok hk hLk j hj
      rw [add_eq] at hLk ⊢
      simp only [Bool.or_eq_true, beq_iff_eq] at hLk ⊢
      rcases hLk with rfl | hLk
      · rw [ho] at hk
        obtain rfl := Option.some.inj hk
        exact .inr (by rw [hL]; exact h3 j hj)
      · exact .inr (hC k ok hk hLk j hj)
end
end Inv
end
section
namespace Sx
section
variable {P : Program} {ds : List Deferred} {ops : Array Oper} {Q : Exit → Act → World → Prop} {w0 w : World} {a : Act} {o : Oper} {rest : List Oper} {K : Nat → Option Obj}
abbrev Bx := Bool × Nat × List Value
structure Rx where
  on : Bool
  v : Value
  E : TypeId
  z : Nat
  n : Nat
  xs : List Value
def Rx.holds (r : Rx) (lo : Nat) (w : World) : Prop := w.ownsRow lo r.E r.z r.v r.n r.xs
structure Own (w0 w : World) (bs : List Bx) (rs : List Rx) (K : Nat → Option Obj := fun _ => none) : Prop where
  below : Below w0.heap.size w0 w
  box : ∀ (i b : Nat) (vs : List Value), bs[i]? = some (true, b, vs) → BoxAt w b vs ∧ w0.heap.size ≤ b ∧ b < w.heap.size
  nd : ∀ (i j b : Nat) (vs us : List Value), bs[i]? = some (true, b, vs) → bs[j]? = some (true, b, us) → i = j
  row : ∀ (i : Nat) (r : Rx), rs[i]? = some r → r.on = true → r.holds w0.heap.size w
  rb : ∀ (i j b : Nat) (vs : List Value) (r : Rx), bs[i]? = some (true, b, vs) → rs[j]? = some r → r.on = true → r.v.ownBlock ≠ some b
  rr : ∀ (i j g : Nat) (r s : Rx), rs[i]? = some r → rs[j]? = some s → r.on = true → s.on = true → r.v.ownBlock = some g → s.v.ownBlock = some g → i = j
  kp : ∀ (k : Nat) (o : Obj), K k = some o → w.heap[k]? = some o ∧ w0.heap.size ≤ k ∧ (∀ (i : Nat) (vs : List Value), bs[i]? ≠ some (true, k, vs)) ∧ (∀ (i : Nat) (r : Rx), rs[i]? = some r → r.on = true → r.v.ownBlock ≠ some k)
theorem kplt {w : World} {k : Nat} {o : Obj} (h : w.heap[k]? = some o) : k < w.heap.size := (Array.getElem?_eq_some_iff.1 h).1
theorem Own.start (w : World) : Own w w [] [] := ⟨Below.refl _ _, by simp, by simp, by simp, by simp, by simp, fun _ _ hk => by simp at hk⟩
theorem Own.drew {bs : List Bx} {rs : List Rx} (h : Own w0 w bs rs K) : Own w0 w.drew bs rs K := ⟨h.below.drew, h.box, h.nd, h.row, h.rb, h.rr, h.kp⟩
theorem Own.call {bs : List Bx} {rs : List Rx} (h : Own w0 w bs rs K) {w' : World} (hb : Below w.heap.size w w') : Own w0 w' bs rs K := by
  refine ⟨h.below.trans (hb.mono h.below.size), fun i b vs hi => ?_, h.nd, fun i r hi ho => owns_below (h.row i r hi ho) hb, h.rb, h.rr, fun k o hk => by
    obtain ⟨a, b, c, d⟩ := h.kp k o hk
    exact ⟨(hb.block k (kplt a)).trans a, b, c, d⟩⟩
  obtain ⟨h1, h2, h3⟩ := h.box i b vs hi
  exact ⟨h1.lift (fun hl => hb.block _ hl), h2, Nat.lt_of_lt_of_le h3 hb.size⟩
theorem newBox (w : World) (cs : Array Value) (t : TypeId) : BoxAt (w.alloc (.cells cs t)) w.heap.size cs.toList := fun j u hj => by
  refine ⟨?_, World.frozen?_alloc_new w cs t j⟩
  rw [World.cell?_alloc_new]; simpa using hj
theorem set_some {α : Type} {l : List α} {i j : Nat} {x y : α} (h : (l.set i x)[j]? = some y) : (j = i ∧ y = x) ∨ (j ≠ i ∧ l[j]? = some y) := by
  rw [List.getElem?_set] at h
  split at h
  · rename_i e
    split at h
    · exact .inl ⟨e.symm, (Option.some.inj h).symm⟩
    · cases h
  · rename_i e
    exact .inr ⟨fun h => e h.symm, h⟩
theorem Own.rowLt {bs : List Bx} {rs : List Rx} (h : Own w0 w bs rs K) {i : Nat} {r : Rx} (hi : rs[i]? = some r) (ho : r.on = true) {g : Nat} (hg : r.v.ownBlock = some g) : w0.heap.size ≤ g ∧ g < w.heap.size :=
  (h.row i r hi ho).lt g hg
theorem Own.fresh {bs : List Bx} {rs : List Rx} (h : Own w0 w bs rs K) (i : Nat) (cs : Array Value) (t : TypeId) : Own w0 (w.alloc (.cells cs t)) (bs.set i (true, w.heap.size, cs.toList)) rs K := by
  refine ⟨h.below.alloc h.below.size _, fun j b vs hj => ?_, fun j k b vs us hj hk => ?_, fun j r hj ho => (h.row j r hj ho).alloc _, fun j k b vs r hj hk ho hg => ?_, h.rr, fun k o hk => by
    obtain ⟨a, b, c, d⟩ := h.kp k o hk
    refine ⟨(((Below.refl w.heap.size w).alloc (Nat.le_refl _) _).block k (kplt a)).trans a, b, fun q vs hq => ?_, d⟩
    rcases set_some hq with ⟨_, e⟩ | ⟨_, hq⟩
    · cases e; exact absurd (kplt a) (Nat.lt_irrefl _)
    · exact c q vs hq⟩
  · rcases set_some hj with ⟨_, e⟩ | ⟨_, hj⟩
    · cases e; exact ⟨newBox w cs t, h.below.size, by simp⟩
    · obtain ⟨h1, h2, h3⟩ := h.box j b vs hj
      exact ⟨h1.lift (Below.heap_alloc w _ _), h2, by simp; omega⟩
  · rcases set_some hj with ⟨e1, e⟩ | ⟨_, hj⟩ <;> rcases set_some hk with ⟨e2, e'⟩ | ⟨_, hk⟩
    · omega
    · cases e; exact absurd (h.box k _ _ hk).2.2 (Nat.lt_irrefl _)
    · cases e'; exact absurd (h.box j _ _ hj).2.2 (Nat.lt_irrefl _)
    · exact h.nd j k b vs us hj hk
  · rcases set_some hj with ⟨_, e⟩ | ⟨_, hj⟩
    · cases e; exact absurd (h.rowLt hk ho hg).2 (Nat.lt_irrefl _)
    · exact h.rb j k b vs r hj hk ho hg
theorem Own.padF {bs : List Bx} {rs : List Rx} (h : Own w0 w bs rs K) (p : Bx) (hp : p.1 = false) : Own w0 w (p :: bs) rs K := by
  have key : ∀ {i b : Nat} {vs : List Value}, (p :: bs)[i]? = some (true, b, vs) → ∃ j, i = j + 1 ∧ bs[j]? = some (true, b, vs) := by
    intro i b vs hi
    cases i with
    | zero => simp at hi; subst hi; cases hp
    | succ i => exact ⟨i, rfl, by simpa using hi⟩
  refine ⟨h.below, fun i b vs hi => ?_, fun i j b vs us hi hj => ?_, h.row, fun i j b vs r hi hj => ?_, h.rr, fun k o hk => by
    obtain ⟨a, b, c, d⟩ := h.kp k o hk
    refine ⟨a, b, fun q vs hq => ?_, d⟩
    cases q with
    | zero => simp at hq; subst hq; cases hp
    | succ q => exact c q vs (by simpa using hq)⟩
  · obtain ⟨j, _, hj⟩ := key hi; exact h.box j b vs hj
  · obtain ⟨k, rfl, hk⟩ := key hi; obtain ⟨l, rfl, hl⟩ := key hj; rw [h.nd k l b vs us hk hl]
  · obtain ⟨k, _, hk⟩ := key hi; exact h.rb k j b vs r hk hj
theorem Own.cons {bs : List Bx} {rs : List Rx} (h : Own w0 w bs rs K) (cs : Array Value) (t : TypeId) : Own w0 (w.alloc (.cells cs t)) ((true, w.heap.size, cs.toList) :: bs) rs K :=
  (h.padF (false, 0, []) rfl).fresh 0 cs t
theorem Own.range {bs : List Bx} {rs : List Rx} (h : Own w0 w bs rs K) {i b : Nat} {vs : List Value} (hi : bs[i]? = some (true, b, vs)) (k : Nat) {xs : List Value} (hx : (vs.drop k).take xs.length = xs) : w.rangeAt b k xs := by
  intro j v hj
  refine ((h.box i b vs hi).1 (k + j) v ?_).1
  rw [← hx] at hj
  rw [List.getElem?_take] at hj
  split at hj
  · rwa [List.getElem?_drop] at hj
  · cases hj
theorem setCells_size (b : Nat) : ∀ (xs : List Value) (k : Nat) (w : World), (w.setCells b k xs).heap.size = w.heap.size
  | [], _, _ => rfl
  | v :: r, k, w => by rw [World.setCells, setCells_size b r]; simp [World.setCell]
theorem setCells_block (b : Nat) : ∀ (xs : List Value) (k : Nat) (w : World) (j : Nat), j ≠ b → (w.setCells b k xs).heap[j]? = w.heap[j]?
  | [], _, _, _, _ => rfl
  | v :: r, k, w, j, h => by rw [World.setCells, setCells_block b r _ _ j h, Below.heap_setCell _ _ _ _ h]
theorem setCells_grown (b : Nat) (xs : List Value) (k : Nat) (w : World) : w.grownBy (w.setCells b k xs) (some b) := by
  refine ⟨?_, ?_, ?_, by rw [setCells_size]; exact Nat.le_refl _, fun j _ hj => setCells_block b xs k w j (fun e => hj (by rw [e]))⟩
  all_goals
    induction xs generalizing k w with
    | nil => rfl
    | cons v r ih => rw [World.setCells, ih]; rfl
theorem below_setCells {B : Nat} (b : Nat) (hb : B ≤ b) : ∀ (xs : List Value) (k : Nat) (w w0 : World), Below B w0 w → Below B w0 (w.setCells b k xs)
  | [], _, _, _, h => h
  | v :: r, k, w, w0, h => by rw [World.setCells]; exact below_setCells b hb r _ _ _ (h.setCell (by exact hb) _)
def splice (vs : List Value) (k : Nat) (xs : List Value) : List Value := vs.take k ++ (xs ++ vs.drop (k + xs.length))
theorem there_of {b : Nat} {vs : List Value} (h : BoxAt w b vs) (k n : Nat) (hk : k + n ≤ vs.length) : w.there b k n := by
  intro j hj
  have e : vs[k + j]? = some vs[k + j] := List.getElem?_eq_getElem (by omega)
  obtain ⟨h1, h2⟩ := h (k + j) _ e
  exact ⟨by rw [h1]; rfl, h2⟩
theorem box_set {b : Nat} {vs : List Value} (h : BoxAt w b vs) (k : Nat) (xs : List Value) (hk : k + xs.length ≤ vs.length) : BoxAt (w.setCells b k xs) b (splice vs k xs) := by
  have ht := there_of h k xs.length hk
  intro j u hj
  have e1 : (vs.take k).length = k := by simp; omega
  refine ⟨?_, ?_⟩
  · unfold splice at hj
    by_cases h1 : j < k
    · rw [List.getElem?_append_left (by omega), List.getElem?_take, if_pos h1] at hj
      rw [World.cell?_setCells_out b xs k w ⟨b, j, none⟩ (fun _ _ => Or.inl h1)]
      exact (h j u hj).1
    · rw [List.getElem?_append_right (by omega), e1] at hj
      by_cases h2 : j - k < xs.length
      · rw [List.getElem?_append_left h2] at hj
        obtain ⟨hl', hv⟩ := List.getElem?_eq_some_iff.1 hj
        have := World.cell?_setCells_in b xs k w (fun i hi => (ht i hi).1) (j - k) hl'
        rw [show k + (j - k) = j from by omega] at this
        rw [this, hv]
      · rw [List.getElem?_append_right (by omega), List.getElem?_drop, show k + xs.length + (j - k - xs.length) = j from by omega] at hj
        rw [World.cell?_setCells_out b xs k w ⟨b, j, none⟩ (fun _ _ => Or.inr (by show k + xs.length ≤ j; omega))]
        exact (h j u hj).1
  · have hjl : j < vs.length := by
      have := (List.getElem?_eq_some_iff.1 hj).1
      unfold splice at this
      simp at this
      omega
    rw [World.frozen?_setCells]
    exact (h j _ (List.getElem?_eq_getElem hjl)).2
theorem Own.store {bs : List Bx} {rs : List Rx} (h : Own w0 w bs rs K) {i b : Nat} {vs : List Value} (hi : bs[i]? = some (true, b, vs)) (k : Nat) (xs : List Value) (hk : k + xs.length ≤ vs.length) : Own w0 (w.setCells b k xs) (bs.set i (true, b, splice vs k xs)) rs K := by
  obtain ⟨a1, a2, a3⟩ := h.box i b vs hi
  refine ⟨below_setCells b a2 xs k w w0 h.below, fun j c us hj => ?_, fun j l c vs' us hj hl => ?_, fun j r hj ho => ?_, fun j l c us r hj hl ho => ?_, h.rr, fun q o hq => by
    obtain ⟨x, y, c, d⟩ := h.kp q o hq
    have hqb : q ≠ b := fun e => c i vs (by rw [e]; exact hi)
    refine ⟨(setCells_block b xs k w q hqb).trans x, y, fun j us hj => ?_, d⟩
    rcases set_some hj with ⟨_, e⟩ | ⟨_, hj⟩
    · cases e; exact hqb rfl
    · exact c j us hj⟩
  · rcases set_some hj with ⟨_, e⟩ | ⟨hne, hj⟩
    · cases e; exact ⟨box_set a1 k xs hk, a2, by rw [setCells_size]; exact a3⟩
    · obtain ⟨h1, h2, h3⟩ := h.box j c us hj
      have hcb : c ≠ b := fun e => hne (h.nd j i c us vs hj (by rw [e]; exact hi))
      exact ⟨h1.lift (fun _ => setCells_block b xs k w _ hcb), h2, by rw [setCells_size]; exact h3⟩
  · rcases set_some hj with ⟨e1, e⟩ | ⟨hne, hj⟩ <;> rcases set_some hl with ⟨e2, e'⟩ | ⟨hne', hl⟩
    · omega
    · cases e; exact absurd (h.nd l i b us vs hl hi) hne'
    · cases e'; exact absurd (h.nd j i b vs' vs hj hi) hne
    · exact h.nd j l c vs' us hj hl
  · exact World.ownsRow.kept (h.row j r hj ho) (setCells_grown b xs k w) (Or.inr (h.rb i j b vs r hi hj ho))
  · rcases set_some hj with ⟨_, e⟩ | ⟨_, hj⟩
    · cases e; exact h.rb i l b vs r hi hl ho
    · exact h.rb j l c us r hj hl ho
theorem Own.padR {bs : List Bx} {rs : List Rx} (h : Own w0 w bs rs K) (p : Rx) (hp : p.on = false) : Own w0 w bs (p :: rs) K := by
  have key : ∀ {i : Nat} {r : Rx}, (p :: rs)[i]? = some r → r.on = true → ∃ j, i = j + 1 ∧ rs[j]? = some r := by
    intro i r hi ho
    cases i with
    | zero => simp at hi; subst hi; rw [hp] at ho; cases ho
    | succ i => exact ⟨i, rfl, by simpa using hi⟩
  refine ⟨h.below, h.box, h.nd, fun i r hi ho => ?_, fun i j b vs r hi hj ho => ?_, fun i j g r s hi hj ho hs => ?_, fun k o hk => by
    obtain ⟨a, b, c, d⟩ := h.kp k o hk
    refine ⟨a, b, c, fun i r hi ho => ?_⟩
    obtain ⟨j, _, hj⟩ := key hi ho
    exact d j r hj ho⟩
  · obtain ⟨j, _, hj⟩ := key hi ho; exact h.row j r hj ho
  · obtain ⟨k, _, hk⟩ := key hj ho; exact h.rb i k b vs r hi hk ho
  · obtain ⟨k, rfl, hk⟩ := key hi ho; obtain ⟨l, rfl, hl⟩ := key hj hs
    exact fun h1 h2 => by rw [h.rr k l g r s hk hl ho hs h1 h2]
theorem Own.freshR {bs : List Bx} {rs : List Rx} (h : Own w0 w bs rs K) {w' : World} (hb : Below w.heap.size w w') (i : Nat) (r : Rx) (hr : r.holds w.heap.size w') : Own w0 w' bs (rs.set i r) K := by
  have h' := h.call hb
  have lo : ∀ g, r.v.ownBlock = some g → w.heap.size ≤ g := fun g hg => (hr.lt g hg).1
  refine ⟨h'.below, h'.box, h'.nd, fun j s hj ho => ?_, fun j k b vs s hj hk ho hg => ?_, fun j k g s u hj hk ho hu h1 h2 => ?_, fun k o hk => by
    obtain ⟨a, b, c, d⟩ := h'.kp k o hk
    refine ⟨a, b, c, fun q s hq ho hs => ?_⟩
    rcases set_some hq with ⟨_, e⟩ | ⟨_, hq⟩
    · subst e; have := lo k hs; have := kplt (h.kp k o hk).1; omega
    · exact d q s hq ho hs⟩
  · rcases set_some hj with ⟨_, e⟩ | ⟨_, hj⟩
    · subst e; exact owns_mono hr h.below.size
    · exact h'.row j s hj ho
  · rcases set_some hk with ⟨_, e⟩ | ⟨_, hk⟩
    · subst e; have := lo b hg; have := (h.box j b vs hj).2.2; omega
    · exact h'.rb j k b vs s hj hk ho hg
  · rcases set_some hj with ⟨e1, e⟩ | ⟨_, hj'⟩ <;> rcases set_some hk with ⟨e2, e'⟩ | ⟨_, hk'⟩
    · omega
    · subst e; have := lo g h1; have := (h.rowLt hk' hu h2).2; omega
    · subst e'; have := lo g h2; have := (h.rowLt hj' ho h1).2; omega
    · exact h'.rr j k g s u hj' hk' ho hu h1 h2
theorem Own.consR {bs : List Bx} {rs : List Rx} (h : Own w0 w bs rs K) {w' : World} (hb : Below w.heap.size w w') (r : Rx) (hr : r.holds w.heap.size w') : Own w0 w' bs (r :: rs) K :=
  (h.padR ⟨false, undef, 0, 0, 0, []⟩ rfl).freshR hb 0 r hr
theorem Own.nilR {bs : List Bx} {rs : List Rx} (h : Own w0 w bs rs K) (E : TypeId) (z : Nat) : Own w0 w bs (⟨true, .slice none 0 0, E, z, 0, []⟩ :: rs) K :=
  h.consR (Below.refl _ _) _ (World.ownsRow_nil _ _ _ _)
theorem Own.grow {bs : List Bx} {rs : List Rx} (h : Own w0 w bs rs K) {w' : World} {i : Nat} {r r' : Rx} (hi : rs[i]? = some r) (ho : r.on = true) (hr : r'.holds w0.heap.size w') (hg : w.grownBy w' r.v.ownBlock)
    (hat : r'.v.ownBlock = r.v.ownBlock ∨ r'.v.ownBlock = some w.heap.size) : Own w0 w' bs (rs.set i r') K := by
  refine ⟨Below.grown h.below hg h.below.size (fun k e => (h.rowLt hi ho e).1), fun j b vs hj => ?_, h.nd, fun j s hj hs => ?_, fun j k b vs s hj hk hs hgb => ?_, fun j k g s u hj hk hs hu h1 h2 => ?_, fun k o hk => by
    obtain ⟨a, b, c, d⟩ := h.kp k o hk
    refine ⟨(hg.block k (kplt a) (fun e => d i r hi ho e.symm)).trans a, b, c, fun q s hq hs e => ?_⟩
    rcases set_some hq with ⟨_, e'⟩ | ⟨_, hq⟩
    · subst e'
      rcases hat with h1 | h1
      · exact d i r hi ho (h1 ▸ e)
      · rw [h1] at e; cases e; exact absurd (kplt a) (Nat.lt_irrefl _)
    · exact d q s hq hs e⟩
  · obtain ⟨h1, h2, h3⟩ := h.box j b vs hj
    exact ⟨h1.lift (fun hl => hg.block _ hl (fun e => h.rb j i b vs r hj hi ho e.symm)), h2, Nat.lt_of_lt_of_le h3 hg.size⟩
  · rcases set_some hj with ⟨_, e⟩ | ⟨hne, hj⟩
    · subst e; exact hr
    · refine World.ownsRow.kept (h.row j s hj hs) hg ?_
      cases hb : s.v.ownBlock with
      | none => exact .inl rfl
      | some g => exact .inr (fun e => hne (h.rr j i g s r hj hi hs ho hb e.symm))
  · rcases set_some hk with ⟨_, e⟩ | ⟨_, hk⟩
    · subst e
      rcases hat with e | e
      · exact h.rb j i b vs r hj hi ho (e ▸ hgb)
      · rw [e] at hgb; cases hgb; exact absurd (h.box j _ vs hj).2.2 (Nat.lt_irrefl _)
    · exact h.rb j k b vs s hj hk hs hgb
  · have new : ∀ {k : Nat} {u : Rx}, k ≠ i → rs[k]? = some u → u.on = true → u.v.ownBlock = some g → r'.v.ownBlock = some g → False := by
      intro k u hne hk hu h2 h1
      rcases hat with e | e
      · exact hne (h.rr k i g u r hk hi hu ho h2 (e ▸ h1))
      · rw [e] at h1; cases h1; exact absurd (h.rowLt hk hu h2).2 (Nat.lt_irrefl _)
    rcases set_some hj with ⟨e1, e⟩ | ⟨n1, hj'⟩ <;> rcases set_some hk with ⟨e2, e'⟩ | ⟨n2, hk'⟩
    · omega
    · subst e; exact (new n2 hk' hu h2 h1).elim
    · subst e'; exact (new n1 hj' hs h1 h2).elim
    · exact h.rr j k g s u hj' hk' hs hu h1 h2
theorem Own.to' {bs : List Bx} {rs : List Rx} (h : Own w0 w bs rs K) (is js : List Nat) {cs : List Bx} {ts : List Rx} (hn : is.Nodup) (hm : js.Nodup) (hc : is.map (fun i => bs[i]?) = cs.map some) (ht : js.map (fun i => rs[i]?) = ts.map some) : Own w0 w cs ts K := by
  have sel : ∀ {α : Type} {ls : List Nat} {xs ys : List α}, ls.map (fun i => xs[i]?) = ys.map some → ∀ {i : Nat} {p : α}, ys[i]? = some p → ∃ j, ls[i]? = some j ∧ xs[j]? = some p := by
    intro α ls xs ys hc i p hp
    have h1 : (ys.map some)[i]? = some (some p) := by rw [List.getElem?_map, hp]; rfl
    rw [← hc, List.getElem?_map] at h1
    cases hj : ls[i]? with
    | none => rw [hj] at h1; cases h1
    | some j => rw [hj] at h1; exact ⟨j, rfl, Option.some.inj h1⟩
  have inj : ∀ {ls : List Nat}, ls.Nodup → ∀ {i j k : Nat}, ls[i]? = some k → ls[j]? = some k → i = j := by
    intro ls nd i j k hi hj
    exact (List.getElem?_inj (List.getElem?_eq_some_iff.1 hi).1 nd).1 (hi.trans hj.symm)
  refine ⟨h.below, fun i b vs hi => ?_, fun i j b vs us hi hj => ?_, fun i r hi ho => ?_, fun i j b vs r hi hj ho => ?_, fun i j g r s hi hj ho hs h1 h2 => ?_, fun k o hk => by
    obtain ⟨a, b, c, d⟩ := h.kp k o hk
    refine ⟨a, b, fun i vs hi => ?_, fun i r hi ho => ?_⟩
    · obtain ⟨j, _, hj⟩ := sel hc hi; exact c j vs hj
    · obtain ⟨j, _, hj⟩ := sel ht hi; exact d j r hj ho⟩
  · obtain ⟨j, _, hj⟩ := sel hc hi; exact h.box j b vs hj
  · obtain ⟨k, hk, hbk⟩ := sel hc hi
    obtain ⟨l, hl, hbl⟩ := sel hc hj
    have e := h.nd k l b vs us hbk hbl
    subst e
    exact inj hn hk hl
  · obtain ⟨j, _, hj⟩ := sel ht hi; exact h.row j r hj ho
  · obtain ⟨k, _, hk⟩ := sel hc hi; obtain ⟨l, _, hl⟩ := sel ht hj; exact h.rb k l b vs r hk hl ho
  · obtain ⟨k, hk, hrk⟩ := sel ht hi; obtain ⟨l, hl, hrl⟩ := sel ht hj
    have e := h.rr k l g r s hrk hrl ho hs h1 h2
    subst e
    exact inj hm hk hl
def lk : List (Nat × Value) → Nat → Option Value
  | [], _ => none
  | (k, v) :: r, d => cond (Nat.beq k d) (some v) (lk r d)
structure Fr (n : Nat) (a : Act) (kv : List (Nat × Value)) (ds : List Deferred := []) : Prop where
  size : a.tmps.size = n
  defers : a.defers = ds
  get : ∀ d v, lk kv d = some v → a.eval (.tmp d) = v
def ev (kv : List (Nat × Value)) : Operand → Option Value
  | .tmp t => lk kv t
  | .const v => some v
  | .global g => some (.pointer (some ⟨g, 0, none⟩))
  | .func f => some (.func (.func f) #[] #[])
theorem Fr.ev {n : Nat} {kv : List (Nat × Value)} (h : Fr n a kv ds) {x : Operand} {v : Value} (hx : ev kv x = some v) : a.eval x = v := by
  cases x with
  | tmp t => exact h.get t v hx
  | const c => exact Option.some.inj hx
  | global g => exact Option.some.inj hx
  | func f => exact Option.some.inj hx
theorem Fr.put {n : Nat} {kv : List (Nat × Value)} (h : Fr n a kv ds) {d : Nat} (hd : d < n) (x : Value) : Fr n (a.put (some d) x) ((d, x) :: kv) ds := by
  refine ⟨by simp [Act.put, h.size], h.defers, fun k v hk => ?_⟩
  have hs := h.size
  unfold lk at hk
  cases hb : Nat.beq d k with
  | true =>
    rw [hb] at hk
    obtain rfl := Nat.eq_of_beq_eq_true hb
    obtain rfl := Option.some.inj hk
    simp [Act.eval, Act.put, hs, hd]
  | false =>
    rw [hb] at hk
    have hne : d ≠ k := fun e => by rw [e, Nat.beq_refl] at hb; cases hb
    rw [Act.eval_put (fun d' hd' e => hne (by cases hd'; cases e; rfl))]
    exact h.get k v hk
theorem Fr.put0 {n : Nat} {kv : List (Nat × Value)} (h : Fr n a kv ds) (x : Value) : Fr n (a.put none x) kv ds := h
theorem Fr.sub {n : Nat} {kv kv' : List (Nat × Value)} (h : Fr n a kv ds) (hs : ∀ p ∈ kv', lk kv p.1 = some p.2) : Fr n a kv' ds := by
  refine ⟨h.size, h.defers, fun d v hd => h.get d v ?_⟩
  clear h
  induction kv' with
  | nil => cases hd
  | cons p r ih =>
    obtain ⟨k, u⟩ := p
    unfold lk at hd
    cases hb : Nat.beq k d with
    | true =>
      rw [hb] at hd
      obtain rfl := Nat.eq_of_beq_eq_true hb
      rw [← hd]; exact hs _ (List.mem_cons_self ..)
    | false =>
      rw [hb] at hd
      exact ih (fun p hp => hs p (List.mem_cons_of_mem _ hp)) hd
def kvOf : Nat → List Value → List (Nat × Value)
  | _, [] => []
  | k, v :: r => (k, v) :: kvOf (k + 1) r
theorem lk_kvOf : ∀ (l : List Value) (k d : Nat) (v : Value), lk (kvOf k l) d = some v → k ≤ d ∧ l[d - k]? = some v
  | [], _, _, _, h => by cases h
  | u :: r, k, d, v, h => by
    unfold kvOf lk at h
    cases hb : Nat.beq k d with
    | true =>
      rw [hb] at h
      obtain rfl := Nat.eq_of_beq_eq_true hb
      exact ⟨Nat.le_refl _, by rw [Nat.sub_self]; exact h⟩
    | false =>
      rw [hb] at h
      obtain ⟨h1, h2⟩ := lk_kvOf r (k + 1) d v h
      refine ⟨by omega, ?_⟩
      rw [show d - k = (d - (k + 1)) + 1 from by omega]
      simpa using h2
theorem Fr.start (args : List Value) (n : Nat) : Fr (args.length + (n - args.length)) { tmps := args.toArray ++ Array.replicate (n - args.length) undef, defers := [] } (kvOf 0 args) := by
  refine ⟨by simp, rfl, fun d v h => ?_⟩
  obtain ⟨_, h2⟩ := lk_kvOf args 0 d v h
  rw [Nat.sub_zero] at h2
  have hl := (List.getElem?_eq_some_iff.1 h2)
  obtain ⟨hl, hv⟩ := hl
  have : (args.toArray ++ Array.replicate (n - args.length) undef)[d]? = some v := by
    rw [Array.getElem?_append_left (by simpa using hl)]
    simpa using h2
  unfold Act.eval
  simp only [Array.getD_eq_getD_getElem?, this, Option.getD_some]
theorem enter {f : FuncId} {fn : Func} {c : Code} {args : List Value} {R : Ending → World → Prop} {n : Nat} (hf : P.funcs[f]? = some fn) (hb : fn.body = some c) (hn : fn.ntmps = n) (hl : args.length ≤ n)
    (h : ∀ a, Fr n a (kvOf 0 args) → c.wp P (bodyPost P fn R) a w) : Calls P f args.toArray w R := by
  refine calls_of_wp hf hb (h _ ?_)
  have := Fr.start args n
  rw [show args.length + (n - args.length) = n from by omega] at this
  rw [hn]
  simpa using this
def Does (P : Program) (o : Oper) (a : Act) (w : World) (R : Value → World → Prop) : Prop :=
  ∀ Q, o.wp P a w (fun a' w' => ∃ x, a' = a.put o.dst x ∧ R x w') Q
theorem Does.mono {R R' : Value → World → Prop} (h : Does P o a w R) (hr : ∀ x w', R x w' → R' x w') : Does P o a w R' :=
  fun Q => Oper.wp_mono (fun _ _ ⟨x, e, r⟩ => ⟨x, e, hr _ _ r⟩) (h Q)
theorem does_run {v : Value} {w' : World} (hr : (execOp a.eval o).run P w = .ok (.value v) w') : Does P o a w (fun x w'' => x = v ∧ w'' = w') := by
  intro Q
  unfold Oper.wp
  rw [hr]
  exact ⟨v, rfl, rfl, rfl⟩
theorem does_skip {w' : World} (hr : (execOp a.eval o).run P w = .ok .skip w') : Does P o a w (fun _ w'' => w'' = w') := by
  intro Q
  unfold Oper.wp
  rw [hr]
  exact ⟨undef, rfl, rfl⟩
theorem does_enter {f : FuncId} {args : Array Value} {v : Value} {R : World → Prop} (hr : (execOp a.eval o).run P w = .ok (.enter f args) w) (hc : Calls P f args w fun e w' => e = .returned v ∧ R w') :
    Does P o a w (fun x w' => x = v ∧ R w') := by
  intro Q
  unfold Oper.wp
  rw [hr]
  refine hc.mono ?_
  rintro e w' ⟨rfl, h⟩
  exact ⟨v, rfl, rfl, h⟩
theorem nil (h : Q .normal a w) : wpList P ops Q [] a w := h
theorem wanted_none (hg : o.guard = none) (f : Nat → Option Bool) : Region.wanted o f = true := by unfold Region.wanted; rw [hg]
theorem wanted_on {j : Nat} {f : Nat → Option Bool} {b want : Bool} (hg : o.guard = some (j, want)) (hy : f j = some b) (hb : b = want) : Region.wanted o f = true := by unfold Region.wanted; rw [hg]; simp [hy, hb]
theorem wanted_off {j : Nat} {f : Nat → Option Bool} {b want : Bool} (hg : o.guard = some (j, want)) (hy : f j = some b) (hb : b = !want) : Region.wanted o f = false := by unfold Region.wanted; rw [hg]; subst hb; cases want <;> simp [hy]
theorem step {R : Value → World → Prop} (hg : Region.wanted o (yielded ops a.tmps) = true) (D : Does P o a w R) (h : ∀ x w', R x w' → wpList P ops Q rest (a.put o.dst x) w') : wpList P ops Q (o :: rest) a w := by
  unfold wpList
  rw [if_pos hg]
  refine .inl (Oper.wp_mono ?_ (D Q))
  rintro a' w' ⟨x, rfl, r⟩
  exact h x w' r
theorem sv {n : Nat} {kv : List (Nat × Value)} {d : Nat} {v : Value} (F : Fr n a kv ds) (D : Does P o a w (fun x w' => x = v ∧ w' = w)) (hg : Region.wanted o (yielded ops a.tmps) = true) (hd : o.dst = some d) (hn : d < n)
    (h : ∀ a', Fr n a' ((d, v) :: kv) ds → wpList P ops Q rest a' w) : wpList P ops Q (o :: rest) a w := by
  refine step hg D ?_
  rintro x w' ⟨rfl, rfl⟩
  rw [hd]
  exact h _ (F.put hn _)
theorem sw {n : Nat} {kv : List (Nat × Value)} {d : Nat} {v : Value} {R : World → Prop} (F : Fr n a kv ds) (D : Does P o a w (fun x w' => x = v ∧ R w')) (hg : Region.wanted o (yielded ops a.tmps) = true) (hd : o.dst = some d) (hn : d < n)
    (h : ∀ a' w', Fr n a' ((d, v) :: kv) ds → R w' → wpList P ops Q rest a' w') : wpList P ops Q (o :: rest) a w := by
  refine step hg D ?_
  rintro x w' ⟨rfl, r⟩
  rw [hd]
  exact h _ _ (F.put hn _) r
theorem sb {n : Nat} {kv : List (Nat × Value)} {d : Nat} {R : Nat → World → Prop} (F : Fr n a kv ds) (D : Does P o a w (fun x w' => ∃ g, x = .pointer (some ⟨g, 0, none⟩) ∧ R g w')) (hg : Region.wanted o (yielded ops a.tmps) = true) (hd : o.dst = some d) (hn : d < n)
    (h : ∀ g a' w', Fr n a' ((d, .pointer (some ⟨g, 0, none⟩)) :: kv) ds → R g w' → wpList P ops Q rest a' w') : wpList P ops Q (o :: rest) a w := by
  refine step hg D ?_
  rintro x w' ⟨g, rfl, r⟩
  rw [hd]
  exact h g _ _ (F.put hn _) r
theorem sg {n : Nat} {kv : List (Nat × Value)} {d : Nat} {mk : Nat → Value} {R : Nat → World → Prop} (F : Fr n a kv ds) (D : Does P o a w (fun x w' => ∃ g, x = mk g ∧ R g w')) (hg : Region.wanted o (yielded ops a.tmps) = true) (hd : o.dst = some d) (hn : d < n)
    (h : ∀ g a' w', Fr n a' ((d, mk g) :: kv) ds → R g w' → wpList P ops Q rest a' w') : wpList P ops Q (o :: rest) a w := by
  refine step hg D ?_
  rintro x w' ⟨g, rfl, r⟩
  rw [hd]
  exact h g _ _ (F.put hn _) r
theorem ss {n : Nat} {kv : List (Nat × Value)} {R : World → Prop} (F : Fr n a kv ds) (D : Does P o a w (fun _ w' => R w')) (hg : Region.wanted o (yielded ops a.tmps) = true) (hd : o.dst = none)
    (h : ∀ a' w', Fr n a' kv ds → R w' → wpList P ops Q rest a' w') : wpList P ops Q (o :: rest) a w := by
  refine step hg D ?_
  intro x w' r
  rw [hd]
  exact h _ _ (F.put0 _) r
theorem guard_known {n : Nat} {kv : List (Nat × Value)} {j d : Nat} {b : Bool} (F : Fr n a kv ds) (hd : ((ops[j]?).bind (·.dst)) = some d) (hb : lk kv d = some (.bool b)) : yielded ops a.tmps j = some b := by
  have h : a.tmps.getD d undef = .bool b := F.get d _ hb
  unfold yielded
  rw [hd]
  simp only [Option.bind_some]
  cases ht : a.tmps[d]? with
  | none => rw [Array.getD_eq_getD_getElem?, ht] at h; cases h
  | some x => rw [Array.getD_eq_getD_getElem?, ht] at h; simp only [Option.getD_some] at h; rw [h]
theorem su {n : Nat} {kv : List (Nat × Value)} {d : Nat} (F : Fr n a kv ds) (hg : Region.wanted o (yielded ops a.tmps) = false) (hd : o.dst = some d) (hn : d < n) (h : ∀ a', Fr n a' ((d, undef) :: kv) ds → wpList P ops Q rest a' w) : wpList P ops Q (o :: rest) a w := by
  unfold wpList
  rw [if_neg (by rw [hg]; simp), hd]
  exact h _ (F.put hn _)
theorem d_box {n : Nat} {kv : List (Nat × Value)} {bs : List Bx} {rs : List Rx} {T : TypeId} {x : Operand} {v : Value} (F : Fr n a kv ds) (H : Own w0 w bs rs K) (ho : o.op = .box T x) (hx : ev kv x = some v) (cs : List Value) (hc : v.cells.toList = cs) :
    Does P o a w (fun x w' => ∃ g, x = .pointer (some ⟨g, 0, none⟩) ∧ Own w0 w' ((true, g, cs) :: bs) rs K) := by
  have hr : (execOp a.eval o).run P w = .ok (.value (.pointer (some ⟨w.heap.size, 0, none⟩))) (w.alloc (.cells v.cells T)) := by
    unfold execOp; rw [ho]; simp only [F.ev hx]; rfl
  refine (does_run hr).mono ?_
  rintro x w' ⟨rfl, rfl⟩
  refine ⟨_, rfl, ?_⟩
  have := H.cons v.cells T
  rw [hc] at this
  exact this
def zeroIs (P : Program) (T : TypeId) (cs : List Value) : Prop := ∃ z : Value, z.cells.toList = cs ∧ ∀ w : World, (zeroValue T).run P w = .ok z w
theorem run_alloc' {T : TypeId} {z : Value} (hz : ∀ w : World, (zeroValue T).run P w = .ok z w) (w : World) : (Instr.alloc T true (.tuple #[])).run P w = .ok (.pointer (some ⟨w.heap.size, 0, none⟩)) (w.alloc (.cells z.cells T)) := by
  unfold Instr.alloc
  rw [Sem.run_bind, hz w]
  rfl
theorem d_alloc {bs : List Bx} {rs : List Rx} {T : TypeId} (H : Own w0 w bs rs K) (ho : o.op = .alloc T) (cs : List Value) (hz : zeroIs P T cs) :
    Does P o a w (fun x w' => ∃ g, x = .pointer (some ⟨g, 0, none⟩) ∧ Own w0 w' ((true, g, cs) :: bs) rs K) := by
  obtain ⟨z, hzc, hz⟩ := hz
  have hr : (execOp a.eval o).run P w = .ok (.value (.pointer (some ⟨w.heap.size, 0, none⟩))) (w.alloc (.cells z.cells T)) := by
    unfold execOp; rw [ho]; simp only [Sem.run_bind, run_alloc' hz w]; rfl
  refine (does_run hr).mono ?_
  rintro x w' ⟨rfl, rfl⟩
  refine ⟨_, rfl, ?_⟩
  have := H.cons z.cells T
  rw [hzc] at this
  exact this
theorem d_alloc_at {bs : List Bx} {rs : List Rx} {T : TypeId} (H : Own w0 w bs rs K) (ho : o.op = .alloc T) (i : Nat) (cs : List Value) (hz : zeroIs P T cs) :
    Does P o a w (fun x w' => ∃ g, x = .pointer (some ⟨g, 0, none⟩) ∧ Own w0 w' (bs.set i (true, g, cs)) rs K) := by
  obtain ⟨z, hzc, hz⟩ := hz
  have hr : (execOp a.eval o).run P w = .ok (.value (.pointer (some ⟨w.heap.size, 0, none⟩))) (w.alloc (.cells z.cells T)) := by
    unfold execOp; rw [ho]; simp only [Sem.run_bind, run_alloc' hz w]; rfl
  refine (does_run hr).mono ?_
  rintro x w' ⟨rfl, rfl⟩
  refine ⟨_, rfl, ?_⟩
  have := H.fresh i z.cells T
  rw [hzc] at this
  exact this
def rowT (P : Program) (T : TypeId) (n : Nat) : Prop := (P.underlying T).map TypeDesc.isRow = some true ∧ (P.info? T).map (·.size) = some n
theorem rowT.row {T : TypeId} {n : Nat} (h : rowT P T n) : (∃ d, P.underlying T = some d ∧ d.isRow = true) ∧ (P.info? T).map (·.size) = some n := ⟨Option.map_eq_some_iff.1 h.1, h.2⟩
def oneT (P : Program) (T : TypeId) : Prop := (∀ w : World, (isAgg T).run P w = .ok false w) ∧ (P.info? T).map (·.size) = some 1
theorem d_load {n : Nat} {kv : List (Nat × Value)} {bs : List Bx} {rs : List Rx} {T m : Nat} {x : Operand} {b k i : Nat} {vs xs : List Value} (hT : rowT P T m) (F : Fr n a kv ds) (H : Own w0 w bs rs K) (ho : o.op = .load T x) (hx : ev kv x = some (.pointer (some ⟨b, k, none⟩)))
    (hi : bs[i]? = some (true, b, vs)) (hxs : (vs.drop k).take m = xs) (hl : xs.length = m) : Does P o a w (fun x w' => x = .agg xs.toArray ∧ w' = w) := by
  obtain ⟨⟨d, hu, hd⟩, hs⟩ := hT.row
  refine does_run ?_
  have hr := run_loadAt_mid (P := P) w b k T xs d (H.range hi k (by rw [hl, hxs])) hu hd (by rw [hs, hl])
  unfold execOp; rw [ho]; simp only [F.ev hx, Sem.run_bind, hr]; rfl
theorem run_loadVar1 {T : TypeId} (hT : oneT P T) {b k : Nat} {v : Value} (hc : w.cell? ⟨b, k, none⟩ = some v) : (loadVar T ⟨b, k, none⟩).run P w = .ok v w := by
  unfold loadVar
  rw [Sem.run_bind, hT.1 w]
  simp only [Result.andThen_ok, Bool.false_eq_true, if_false]
  rw [run_load, hc]
theorem d_load1 {n : Nat} {kv : List (Nat × Value)} {bs : List Bx} {rs : List Rx} {T : Nat} {x : Operand} {b k i : Nat} {vs : List Value} {v : Value} (hT : oneT P T) (F : Fr n a kv ds) (H : Own w0 w bs rs K) (ho : o.op = .load T x) (hx : ev kv x = some (.pointer (some ⟨b, k, none⟩)))
    (hi : bs[i]? = some (true, b, vs)) (hv : vs[k]? = some v) : Does P o a w (fun x w' => x = v ∧ w' = w) := by
  refine does_run ?_
  have hc := ((H.box i b vs hi).1 k v hv).1
  have hr : (Instr.loadAt T (.pointer (some ⟨b, k, none⟩))).run P w = .ok v w := by
    simp only [Instr.loadAt, Instr.sureAddr, Sem.run_bind, Sem.run_pure, Result.andThen_ok, run_loadVar1 hT hc]
  unfold execOp; rw [ho]; simp only [F.ev hx, Sem.run_bind, hr]; rfl
def ones (xs : List Value) : Bool := xs.all (·.oneCell')
theorem d_store {n : Nat} {kv : List (Nat × Value)} {bs : List Bx} {rs : List Rx} {T : Nat} {x y : Operand} {b k i : Nat} {vs xs : List Value} {m : Nat} {v : Value} (hT : (P.info? T).map (·.size) = some m) (F : Fr n a kv ds) (H : Own w0 w bs rs K) (ho : o.op = .store T x y) (hx : ev kv x = some (.pointer (some ⟨b, k, none⟩)))
    (hy : ev kv y = some v) (hc : v.cells.toList = xs) (hm : xs.length = m) (h1 : ones xs = true) (hi : bs[i]? = some (true, b, vs)) (hk : k + m ≤ vs.length) {us : List Value} (hu : splice vs k xs = us) : Does P o a w (fun _ w' => Own w0 w' (bs.set i (true, b, us)) rs K) := by
  have ht := there_of (H.box i b vs hi).1 k m hk
  have hsz : v.cells.size = m := by rw [← hm, ← hc]; simp
  have hr : (storeVar T ⟨b, k, none⟩ v).run P w = .ok () (w.setCells b k xs) := by
    have := run_storeCells_cells (P := P) b k xs 0 w (fun j hj => by simpa using (ht j (by omega)).1) (fun j hj => by simpa using (ht j (by omega)).2) (fun u hu => List.all_eq_true.1 h1 u hu)
    simp only [Nat.add_zero] at this
    cases hq : P.info? T with
    | none => simp [hq] at hT
    | some i =>
      have hs : v.cells.size = i.size := by simp [hq] at hT; omega
      simp [storeVar, sizeOf, typeInfo, hq, hs, hc, this]
  have hr' : (execOp a.eval o).run P w = .ok .skip (w.setCells b k xs) := by
    unfold execOp; rw [ho]
    simp only [F.ev hx, F.ev hy, Instr.storeAt, Instr.sureAddr, Sem.run_bind, Sem.run_pure, Result.andThen_ok, hr]
  refine (does_skip hr').mono ?_
  rintro x w' rfl
  have := H.store hi k xs (by omega)
  rw [hu] at this
  exact this
theorem d_bin {n : Nat} {kv : List (Nat × Value)} {op : BinOp} {T yT : TypeId} {x y : Operand} {vx vy v : Value} (F : Fr n a kv ds) (ho : o.op = .binOp op T x y yT) (hx : ev kv x = some vx) (hy : ev kv y = some vy)
    (hr : (do eqGuard op T x y vx vy; binOp op T vx vy : Sem Value).run P w = .ok v w) : Does P o a w (fun x w' => x = v ∧ w' = w) := by
  refine does_run ?_
  unfold execOp; rw [ho]; simp only [F.ev hx, F.ev hy]
  rw [Sem.run_bind, hr]; rfl
theorem d_un {n : Nat} {kv : List (Nat × Value)} {op : UnOp} {T : TypeId} {x : Operand} {vx v : Value} (F : Fr n a kv ds) (ho : o.op = .unOp op T x) (hx : ev kv x = some vx) (hr : (Op.unary op vx).run P w = .ok v w) : Does P o a w (fun x w' => x = v ∧ w' = w) := by
  refine does_run ?_
  unfold execOp; rw [ho]; simp only [F.ev hx]
  rw [Sem.run_bind, hr]; rfl
theorem d_conv {n : Nat} {kv : List (Nat × Value)} {S T : TypeId} {x : Operand} {vx v : Value} (F : Fr n a kv ds) (ho : o.op = .convert S T x) (hx : ev kv x = some vx) (hr : (convert S T vx).run P w = .ok v w) : Does P o a w (fun x w' => x = v ∧ w' = w) := by
  refine does_run ?_
  unfold execOp; rw [ho]; simp only [F.ev hx]
  rw [Sem.run_bind, hr]; rfl
theorem d_field {n : Nat} {kv : List (Nat × Value)} {T k : Nat} {x : Operand} {vx v : Value} (F : Fr n a kv ds) (ho : o.op = .field T x k) (hx : ev kv x = some vx) (hr : (Instr.field T vx k).run P w = .ok v w) : Does P o a w (fun x w' => x = v ∧ w' = w) := by
  refine does_run ?_
  unfold execOp; rw [ho]; simp only [F.ev hx]
  rw [Sem.run_bind, hr]; rfl
theorem d_faddr {n : Nat} {kv : List (Nat × Value)} {T k : Nat} {x : Operand} {vx v : Value} (F : Fr n a kv ds) (ho : o.op = .fieldAddr T x k) (hx : ev kv x = some vx) (hr : (Instr.fieldAt T vx k).run P w = .ok v w) : Does P o a w (fun x w' => x = v ∧ w' = w) := by
  refine does_run ?_
  unfold execOp; rw [ho]; simp only [F.ev hx]
  rw [Sem.run_bind, hr]; rfl
theorem d_index {n : Nat} {kv : List (Nat × Value)} {T : Nat} {x y : Operand} {vx vy v : Value} (F : Fr n a kv ds) (ho : o.op = .index T x y) (hx : ev kv x = some vx) (hy : ev kv y = some vy) (hr : (Instr.index T vx vy).run P w = .ok v w) : Does P o a w (fun x w' => x = v ∧ w' = w) := by
  refine does_run ?_
  unfold execOp; rw [ho]; simp only [F.ev hx, F.ev hy]
  rw [Sem.run_bind, hr]; rfl
theorem d_iaddr {n : Nat} {kv : List (Nat × Value)} {T : Nat} {x y : Operand} {vx vy v : Value} (F : Fr n a kv ds) (ho : o.op = .indexAddr T x y) (hx : ev kv x = some vx) (hy : ev kv y = some vy) (hr : (Instr.indexAt T vx vy).run P w = .ok v w) : Does P o a w (fun x w' => x = v ∧ w' = w) := by
  refine does_run ?_
  unfold execOp; rw [ho]; simp only [F.ev hx, F.ev hy]
  rw [Sem.run_bind, hr]; rfl
theorem d_extract {n : Nat} {kv : List (Nat × Value)} {k : Nat} {x : Operand} {vs : Array Value} {v : Value} (F : Fr n a kv ds) (ho : o.op = .extract x k) (hx : ev kv x = some (.tuple vs)) (hv : vs[k]? = some v) : Does P o a w (fun x w' => x = v ∧ w' = w) := by
  refine does_run ?_
  unfold execOp; rw [ho]; simp only [F.ev hx, Instr.extract, hv]
  rfl
theorem d_move {n : Nat} {kv : List (Nat × Value)} {x : Operand} {v : Value} (F : Fr n a kv ds) (ho : o.op = .move x ∨ o.op = .assign x) (hx : ev kv x = some v) : Does P o a w (fun x w' => x = v ∧ w' = w) := by
  refine does_run ?_
  rcases ho with ho | ho <;> (unfold execOp; rw [ho]; simp only [F.ev hx]; rfl)
theorem parts_eq {n : Nat} {kv : List (Nat × Value)} {ps : Array (Nat × Operand)} {qs : Array (Nat × Value)} (F : Fr n a kv ds) (hp : ps.toList.map (fun p => (ev kv p.2).map (fun v => (p.1, v))) = qs.toList.map some) : (ps.map fun (i, x) => (i, a.eval x)) = qs := by
  apply Array.ext'
  rw [Array.toList_map]
  generalize ps.toList = l at hp
  generalize qs.toList = r at hp
  induction l generalizing r with
  | nil => cases r with
    | nil => rfl
    | cons _ _ => simp at hp
  | cons p l ih => cases r with
    | nil => simp at hp
    | cons q r =>
      simp only [List.map_cons, List.cons.injEq] at hp ⊢
      obtain ⟨h1, h2⟩ := hp
      refine ⟨?_, ih r h2⟩
      cases hv : ev kv p.2 with
      | none => rw [hv] at h1; cases h1
      | some u => rw [hv] at h1; rw [F.ev hv]; exact Option.some.inj h1
theorem d_build {n : Nat} {kv : List (Nat × Value)} {T : Nat} {ps : Array (Nat × Operand)} {qs : Array (Nat × Value)} {v : Value} (F : Fr n a kv ds) (ho : o.op = .build T ps) (hp : ps.toList.map (fun p => (ev kv p.2).map (fun v => (p.1, v))) = qs.toList.map some) (hr : (Instr.build T qs).run P w = .ok v w) :
    Does P o a w (fun x w' => x = v ∧ w' = w) := by
  have e : ps.map (fun p => (p.1, a.eval p.2)) = qs := by
    apply Array.ext'
    rw [Array.toList_map]
    generalize ps.toList = l at hp
    generalize qs.toList = r at hp
    clear hr
    induction l generalizing r with
    | nil => cases r with
      | nil => rfl
      | cons _ _ => simp at hp
    | cons p l ih => cases r with
      | nil => simp at hp
      | cons q r =>
        simp only [List.map_cons, List.cons.injEq] at hp ⊢
        obtain ⟨h1, h2⟩ := hp
        refine ⟨?_, ih r h2⟩
        cases hv : ev kv p.2 with
        | none => rw [hv] at h1; cases h1
        | some u => rw [hv] at h1; rw [F.ev hv]; exact Option.some.inj h1
  refine does_run ?_
  unfold execOp; rw [ho]
  show (do let x ← Instr.build T (ps.map fun (i, x) => (i, a.eval x)); Pure.pure (Next.value x) : Sem Next).run P w = _
  rw [show (ps.map fun (i, x) => (i, a.eval x)) = qs from e, Sem.run_bind, hr]; rfl
theorem args_eq {n : Nat} {kv : List (Nat × Value)} (F : Fr n a kv ds) {xs : Array Operand} {vs : List Value} (h : xs.toList.map (ev kv) = vs.map some) : xs.map a.eval = vs.toArray := by
  apply Array.ext'
  rw [Array.toList_map]
  generalize xs.toList = l at h
  show _ = vs
  induction l generalizing vs with
  | nil => cases vs with
    | nil => rfl
    | cons _ _ => simp at h
  | cons p l ih => cases vs with
    | nil => simp at h
    | cons q r =>
      simp only [List.map_cons, List.cons.injEq] at h ⊢
      exact ⟨F.ev h.1, ih h.2⟩
def isFn (P : Program) (f : FuncId) : Prop := ∀ (args : Array Value) (w : World), (callFunc f args).run P w = .ok (.enter f args) w
theorem run_call {n : Nat} {kv : List (Nat × Value)} {f : FuncId} {xs : Array Operand} {ts : Array TypeId} {vs : List Value} (F : Fr n a kv ds) (ho : o.op = .call { callee := .value (.func f), args := xs, argTypes := ts }) (hxs : xs.toList.map (ev kv) = vs.map some) :
    execOp a.eval o = callFunc f vs.toArray := by
  unfold execOp; rw [ho]
  simp only [resolve, args_eq F hxs, Act.eval, Deferred.ofValue]
  show invoke (.fn (.func f) #[]) (#[] ++ vs.toArray) = _
  simp [invoke]
theorem d_call {n : Nat} {kv : List (Nat × Value)} {bs : List Bx} {rs : List Rx} {f : FuncId} {xs : Array Operand} {ts : Array TypeId} {vs : List Value} {v : Value} (hf : isFn P f) (F : Fr n a kv ds) (H : Own w0 w bs rs K) (ho : o.op = .call { callee := .value (.func f), args := xs, argTypes := ts }) (hxs : xs.toList.map (ev kv) = vs.map some)
    (hc : Calls P f vs.toArray w fun e w' => e = .returned v ∧ Below w.heap.size w w') : Does P o a w (fun x w' => x = v ∧ Own w0 w' bs rs K) := by
  refine (does_enter (by rw [run_call F ho hxs]; exact hf _ w) hc).mono ?_
  rintro x w' ⟨rfl, h⟩
  exact ⟨rfl, H.call h⟩
theorem d_callq {n : Nat} {kv : List (Nat × Value)} {f : FuncId} {xs : Array Operand} {ts : Array TypeId} {vs : List Value} {v : Value} (hf : isFn P f) (F : Fr n a kv ds) (ho : o.op = .call { callee := .value (.func f), args := xs, argTypes := ts }) (hxs : xs.toList.map (ev kv) = vs.map some)
    (hc : Calls P f vs.toArray w fun e w' => e = .returned v ∧ w = w') : Does P o a w (fun x w' => x = v ∧ w' = w) := by
  refine (does_enter (by rw [run_call F ho hxs]; exact hf _ w) hc).mono ?_
  rintro x w' ⟨rfl, h⟩
  exact ⟨rfl, h.symm⟩
def up (l : List Oper) (j : Nat) : List Nat := match l[j]? with | some o => Inv.waits o | none => []
def depkv (l : List Oper) (C : List (Option Value)) : List Nat → List (Nat × Value)
  | [] => []
  | j :: r => match (l[j]?).bind (·.dst), C[j]? with
    | some d, some (some c) => (d, c) :: depkv l C r
    | _, _ => depkv l C r
def dsts (l : List Oper) : List Nat := l.filterMap (·.dst)
def nodupB : List Nat → Bool
  | [] => true
  | d :: r => !r.contains d && nodupB r
def slotsOk (n : Nat) (kv : List (Nat × Value)) (l : List Oper) : Bool := nodupB (dsts l) && (dsts l).all fun d => decide (d < n) && (lk kv d).isNone
structure Kn (n : Nat) (kv : List (Nat × Value)) (l : List Oper) (C : List (Option Value)) (L : Nat → Bool) (a : Act) (ds : List Deferred := []) : Prop where
  fr : Fr n a kv ds
  get : ∀ (j : Nat) (o : Oper) (c : Value) (d : Nat), l[j]? = some o → o.dst = some d → C[j]? = some (some c) → L j = true → a.eval (.tmp d) = c
theorem Fr.add {n : Nat} {kv : List (Nat × Value)} (h : Fr n a kv ds) {d : Nat} {v : Value} (hv : a.eval (.tmp d) = v) : Fr n a ((d, v) :: kv) ds := by
  refine ⟨h.size, h.defers, fun k u hk => ?_⟩
  unfold lk at hk
  cases hb : Nat.beq d k with
  | true => rw [hb] at hk; obtain rfl := Nat.eq_of_beq_eq_true hb; rw [hv]; exact Option.some.inj hk
  | false => rw [hb] at hk; exact h.get k u hk
theorem Kn.deps {n : Nat} {kv : List (Nat × Value)} {l : List Oper} {C : List (Option Value)} {L : Nat → Bool} (h : Kn n kv l C L a ds) : ∀ (js : List Nat), (∀ j ∈ js, L j = true) → Fr n a (depkv l C js ++ kv) ds
  | [], _ => h.fr
  | j :: r, hj => by
    have ih := h.deps r (fun k hk => hj k (List.mem_cons_of_mem _ hk))
    unfold depkv
    split
    · rename_i d c hd hc
      obtain ⟨o, ho, hod⟩ := Option.bind_eq_some_iff.1 hd
      exact Fr.add ih (h.get j o c d ho hod hc (hj j (List.mem_cons_self ..)))
    · exact ih
theorem nodupB_spec : ∀ {l : List Nat}, nodupB l = true → l.Nodup
  | [], _ => List.nodup_nil
  | d :: r, h => by
    simp only [nodupB, Bool.and_eq_true, Bool.not_eq_true'] at h
    exact List.nodup_cons.2 ⟨by simpa using h.1, nodupB_spec h.2⟩
theorem dsts_inj : ∀ {l : List Oper}, (dsts l).Nodup → ∀ {i j : Nat} {o p : Oper} {d : Nat}, l[i]? = some o → l[j]? = some p → o.dst = some d → p.dst = some d → i = j
  | [], _, i, j, o, p, d, h, _, _, _ => by simp at h
  | x :: l, hn, i, j, o, p, d, hi, hj, ho, hp => by
    have mem : ∀ {k : Nat} {q : Oper}, l[k]? = some q → q.dst = some d → d ∈ dsts l := fun hk hq => List.mem_filterMap.2 ⟨_, List.mem_of_getElem? hk, hq⟩
    cases i with
    | zero => cases j with
      | zero => rfl
      | succ j =>
        simp at hi hj
        subst hi
        unfold dsts at hn
        rw [List.filterMap_cons_some ho] at hn
        exact absurd (mem hj hp) (List.nodup_cons.1 hn).1
    | succ i => cases j with
      | zero =>
        simp at hi hj
        subst hj
        unfold dsts at hn
        rw [List.filterMap_cons_some hp] at hn
        exact absurd (mem hi ho) (List.nodup_cons.1 hn).1
      | succ j =>
        simp at hi hj
        have hn' : (dsts l).Nodup := by
          unfold dsts at hn ⊢
          cases hx : x.dst with
          | none => rwa [List.filterMap_cons_none hx] at hn
          | some e => rw [List.filterMap_cons_some hx] at hn; exact (List.nodup_cons.1 hn).2
        rw [dsts_inj hn' hi hj ho hp]
theorem Kn.put {n : Nat} {kv : List (Nat × Value)} {l : List Oper} {C : List (Option Value)} {L : Nat → Bool} (hs : slotsOk n kv l = true) (h : Kn n kv l C L a ds) {i : Nat} {x : Value} (hi : l[i]? = some o) (hx : ∀ c, C[i]? = some (some c) → x = c) :
    Kn n kv l C (Inv.add L i) (a.put o.dst x) ds := by
  unfold slotsOk at hs
  rw [Bool.and_eq_true] at hs
  have hnd := nodupB_spec hs.1
  cases hd : o.dst with
  | none =>
    refine ⟨h.fr, fun j p c d hj hp hc hL => ?_⟩
    rw [Inv.add_eq] at hL
    simp only [Bool.or_eq_true, beq_iff_eq] at hL
    rcases hL with rfl | hL
    · rw [hi] at hj; cases hj; rw [hd] at hp; cases hp
    · exact h.get j p c d hj hp hc hL
  | some e =>
    have hmem : e ∈ dsts l := List.mem_filterMap.2 ⟨_, List.mem_of_getElem? hi, hd⟩
    have h2 := List.all_eq_true.1 hs.2 e hmem
    rw [Bool.and_eq_true] at h2
    have hen : e < n := by simpa using h2.1
    have hnone : lk kv e = none := by simpa using h2.2
    refine ⟨⟨by simp [Act.put, h.fr.size], h.fr.defers, fun k v hk => ?_⟩, fun j p c d hj hp hc hL => ?_⟩
    · rw [Act.eval_put (fun d' hd' he => by cases hd'; cases he; rw [hnone] at hk; cases hk)]
      exact h.fr.get k v hk
    · by_cases hji : j = i
      · subst hji
        rw [hi] at hj; cases hj
        rw [hd] at hp; cases hp
        have := (h.fr.put hen x).get e x (by unfold lk; rw [Nat.beq_refl]; rfl)
        rw [this]; exact hx c hc
      · have hne : e ≠ d := fun he => hji (dsts_inj hnd hj hi hp (he ▸ hd))
        rw [Inv.add_eq, beq_false_of_ne hji, Bool.false_or] at hL
        rw [Act.eval_put (fun d' hd' he => by cases hd'; cases he; exact hne rfl)]
        exact h.get j p c d hj hp hc hL
def StepAt (P : Program) (n : Nat) (kv : List (Nat × Value)) (l : List Oper) (C : List (Option Value)) (S : (Nat → Bool) → Act → World → Prop) (o : Oper) (i : Nat) (ds : List Deferred := []) : Prop :=
  ∀ (L : Nat → Bool) (a : Act) (w : World), (∀ j k, (up l j).contains k = true → L k = false → L j = false) → L i = false → (∀ j, (Inv.waits o).contains j = true → L j = true) → Fr n a (depkv l C (Inv.waits o) ++ kv) ds → S L a w →
    ∃ W : Bool, Region.wanted o (yielded l.toArray a.tmps) = W ∧ if W = true then Does P o a w (fun x w' => (∀ c, C[i]? = some (some c) → x = c) ∧ S (Inv.add L i) (a.put o.dst x) w') else (∀ c, C[i]? = some (some c) → undef = c) ∧ S (Inv.add L i) (a.put o.dst undef) w
def Steps (T : Oper → Nat → Prop) : List Oper → Nat → Prop
  | [], _ => True
  | o :: l, i => T o i ∧ Steps T l (i + 1)
theorem Steps.get {T : Oper → Nat → Prop} : ∀ {l : List Oper} {k : Nat}, Steps T l k → ∀ {i : Nat} {o : Oper}, l[i]? = some o → T o (k + i)
  | [], _, _, i, o, h => by simp at h
  | a :: l, k, ⟨h1, h2⟩, i, o, h => by
    cases i with
    | zero => simp at h; subst h; exact h1
    | succ i => have := Steps.get h2 (i := i) (o := o) (by simpa using h); rwa [show k + 1 + i = k + (i + 1) from by omega] at this
theorem drawn {n id : Nat} {kv : List (Nat × Value)} {l : List Oper} (F : Fr n a kv ds) (hm : P.follows .mixedOrders = true) (he : Inv.early l = true) (hs : slotsOk n kv l = true) (C : List (Option Value)) (S : (Nat → Bool) → Act → World → Prop)
    (h0 : S (fun _ => false) a w.drew) (steps : Steps (fun o i => StepAt P n kv l C S o i ds) l 0)
    (fin : ∀ L a w, (∀ i, Nat.blt i l.length = true → L i = true) → Fr n a (depkv l C (List.range l.length) ++ kv) ds → S L a w → Q .normal a w) :
    (Code.region id l.toArray true).wp P Q a w := by
  refine wp_region_any hm ?_
  refine Inv.any_inv he (fun L a w => Kn n kv l C L a ds ∧ S L a w) ?_ ?_ _ _ (fun _ => false) _ _ (by simp) ?_ ?_ ?_ ⟨⟨F, fun j o c d _ _ _ h => by cases h⟩, h0⟩
  · rintro L a w i o ho hC hi hd ⟨hk, hS⟩
    have st := steps.get ho
    rw [Nat.zero_add] at st
    obtain ⟨W, hW, st⟩ := st L a w (fun j k hjk hk' => by
      cases hj : L j with
      | false => rfl
      | true =>
        unfold up at hjk
        cases hl : l[j]? with
        | none => rw [hl] at hjk; cases hjk
        | some oj =>
          rw [hl] at hjk
          have := hC j oj (by simpa using hl) hj k (by simpa using hjk)
          rw [this] at hk'; cases hk') hi (fun j hj => hd j (by simpa using hj)) (hk.deps _ hd) hS
    unfold wpOp
    simp only [List.getElem?_toArray, ho]
    rw [hW]
    cases W with
    | true =>
      simp only [if_true] at st ⊢
      refine .inl (Oper.wp_mono ?_ (st Q))
      rintro a' w' ⟨x, rfl, hx, hS'⟩
      exact ⟨hk.put hs ho hx, hS'⟩
    | false =>
      simp only [Bool.false_eq_true, if_false] at st ⊢
      exact ⟨hk.put hs ho st.1, st.2⟩
  · rintro L a w hL ⟨hk, hS⟩
    refine fin L a w (fun i hi => hL i (by simpa [Nat.blt_eq] using hi)) (hk.deps _ (fun j hj => hL j (by simpa using hj))) hS
  · exact Nat.le_trans List.countP_le_length (by simp)
  · intro j; simp [Array.getD]
  · intro k ok _ h; cases h
theorem step_on {R : Value → World → Prop} {C : List (Option Value)} {S : World → Value → Prop} {i : Nat} {f : Nat → Option Bool} {X : Prop} (hg : o.guard = none) (D : Does P o a w R) (h : ∀ x w', R x w' → (∀ c, C[i]? = some (some c) → x = c) ∧ S w' x) :
    ∃ W : Bool, Region.wanted o f = W ∧ if W = true then Does P o a w (fun x w' => (∀ c, C[i]? = some (some c) → x = c) ∧ S w' x) else X :=
  ⟨true, wanted_none hg f, by simp only [if_true]; exact D.mono h⟩
theorem seq {x y : Code} (h : ∀ K : Act → World → Prop, (∀ a w, y.wp P Q a w → K a w) → x.wp P (Exit.then K Q) a w) : (Code.seq x y).wp P Q a w := wp_seq_k h
theorem condT {n : Nat} {kv : List (Nat × Value)} {c : Operand} {x y : Code} (F : Fr n a kv ds) (hc : ev kv c = some (.bool true)) (h : x.wp P Q a w) : (Code.cond c x y).wp P Q a w := wp_cond_true (F.ev hc) h
theorem condF {n : Nat} {kv : List (Nat × Value)} {c : Operand} {x y : Code} (F : Fr n a kv ds) (hc : ev kv c = some (.bool false)) (h : y.wp P Q a w) : (Code.cond c x y).wp P Q a w := wp_cond_false (F.ev hc) h
theorem plain {id : Nat} {l : List Oper} (h : wpList P l.toArray Q l a w) : (Code.region id l.toArray false).wp P Q a w := wp_region_lit h
def resG (tmps : Array Value) : ResultVar → Sem Value
  | .tmp t => Pure.pure (tmps.getD t undef)
  | .cell a t => do loadVar t (← asAddr (tmps.getD a undef))
theorem results_eq (fn : Func) (tmps : Array Value) : results fn tmps = (do let vs ← fn.results.mapM (resG tmps); Pure.pure (if h : vs.size = 1 then vs[0] else .tuple vs)) := by
  unfold results
  congr 2
def resOf (P : Program) (tmps : Array Value) (w : World) (r : ResultVar) (v : Value) : Prop := (resG tmps r).run P w = .ok v w
theorem res_tmp {n : Nat} {kv : List (Nat × Value)} {t : Nat} {v : Value} (F : Fr n a kv ds) (h : lk kv t = some v) : resOf P a.tmps w (.tmp t) v := by
  have := F.get t v h
  unfold resOf resG
  unfold Act.eval at this
  simp only [this]
  rfl
theorem res_row {n : Nat} {kv : List (Nat × Value)} {bs : List Bx} {rs : List Rx} {t T m b k i : Nat} {vs xs : List Value} (hT : rowT P T m) (F : Fr n a kv ds) (H : Own w0 w bs rs K) (h : lk kv t = some (.pointer (some ⟨b, k, none⟩)))
    (hi : bs[i]? = some (true, b, vs)) (hxs : (vs.drop k).take m = xs) (hl : xs.length = m) : resOf P a.tmps w (.cell t T) (.agg xs.toArray) := by
  obtain ⟨⟨d, hu, hd⟩, hs⟩ := hT.row
  have hg := F.get t _ h
  have hr := run_loadVar_mid (P := P) w b k T xs d (H.range hi k (by rw [hl, hxs])) hu hd (by rw [hs, hl])
  unfold resOf resG
  unfold Act.eval at hg
  simp only [hg, asAddr, Sem.run_bind, Sem.run_pure, Result.andThen_ok, hr]
theorem res_one {n : Nat} {kv : List (Nat × Value)} {bs : List Bx} {rs : List Rx} {t T b k i : Nat} {vs : List Value} {v : Value} (hT : oneT P T) (F : Fr n a kv ds) (H : Own w0 w bs rs K) (h : lk kv t = some (.pointer (some ⟨b, k, none⟩)))
    (hi : bs[i]? = some (true, b, vs)) (hv : vs[k]? = some v) : resOf P a.tmps w (.cell t T) v := by
  have hg := F.get t _ h
  have hc := ((H.box i b vs hi).1 k v hv).1
  unfold resOf resG
  unfold Act.eval at hg
  simp only [hg, asAddr, Sem.run_bind, Sem.run_pure, Result.andThen_ok, run_loadVar1 hT hc]
theorem ret1 {n : Nat} {kv : List (Nat × Value)} {fn : Func} {R : Ending → World → Prop} {r : ResultVar} {v : Value} (F : Fr n a kv) (hrs : fn.results = #[r]) (h : resOf P a.tmps w r v) (hR : R (.returned v) w) : bodyPost P fn R .ret a w := by
  refine ⟨F.defers, v, ?_, hR⟩
  unfold resOf at h
  rw [results_eq, hrs]
  simp [Sem.run_bind, h]
theorem ret2 {n : Nat} {kv : List (Nat × Value)} {fn : Func} {R : Ending → World → Prop} {r s : ResultVar} {v u : Value} (F : Fr n a kv) (hrs : fn.results = #[r, s]) (h : resOf P a.tmps w r v) (h2 : resOf P a.tmps w s u) (hR : R (.returned (.tuple #[v, u])) w) : bodyPost P fn R .ret a w := by
  refine ⟨F.defers, _, ?_, hR⟩
  unfold resOf at h h2
  rw [results_eq, hrs]
  simp [Sem.run_bind, h, h2]
theorem ret3 {n : Nat} {kv : List (Nat × Value)} {fn : Func} {R : Ending → World → Prop} {r s t : ResultVar} {v u x : Value} (F : Fr n a kv) (hrs : fn.results = #[r, s, t]) (h : resOf P a.tmps w r v) (h2 : resOf P a.tmps w s u) (h3 : resOf P a.tmps w t x) (hR : R (.returned (.tuple #[v, u, x])) w) : bodyPost P fn R .ret a w := by
  refine ⟨F.defers, _, ?_, hR⟩
  unfold resOf at h h2 h3
  rw [results_eq, hrs]
  simp [Sem.run_bind, h, h2, h3]
def SubKv (kv : List (Nat × Value)) : List (Nat × Value) → Prop
  | [] => True
  | (d, v) :: r => lk kv d = some v ∧ SubKv kv r
theorem Fr.to {n : Nat} {kv : List (Nat × Value)} (h : Fr n a kv ds) {kv' : List (Nat × Value)} (hs : SubKv kv kv') : Fr n a kv' ds := by
  refine h.sub (fun p hp => ?_)
  clear h
  induction kv' with
  | nil => cases hp
  | cons q r ih =>
    rcases List.mem_cons.1 hp with rfl | hp
    · exact hs.1
    · exact ih hs.2 hp
theorem loop {c : Code} (I : Nat → Act → World → Prop) (n₀ : Nat) (h₀ : I n₀ a w)
    (round : ∀ n a w, I n a w → c.wp P (Exit.then (fun a' w' => ∃ n', n' < n ∧ I n' a' w') Q) a w) : (Code.loop c).wp P Q a w := wp_loop_ghost I n₀ h₀ round
theorem scope {c rest : Code} (l : Nat) (I : Nat → Act → World → Prop) (hf : findLabel c l = some (Code.skip.seq rest))
    (pass : ∀ n a w, I n a w → rest.wp P (Exit.jump l (fun a' w' => ∃ n', n' < n ∧ I n' a' w') Q) a w)
    (first : (∀ n a w, I n a w → rest.wp P (Exit.jump l (fun a' w' => ∃ n', I n' a' w') Q) a w) → c.wp P (Exit.jump l (fun a' w' => ∃ n', I n' a' w') Q) a w) : (Code.scope c).wp P Q a w := by
  refine wp_scope_jumps l (fun a w => ∃ n, I n a w) (fun a w => leastOf (fun n => I n a w)) hf (first fun n a w h => Code.wp_mono (fun e a' w' k => ?_) (pass n a w h)) (fun a w h => wp_seq (wp_skip (Code.wp_mono (fun e a' w' k => ?_) (pass _ a w (leastOf_spec h).1))))
  · cases e <;> first | exact k | exact ⟨k.1, k.2.imp fun _ h => h.2⟩
  · cases e with
    | goto l' =>
      obtain ⟨e, n', hlt, hI'⟩ := k
      exact ⟨e, ⟨n', hI'⟩, Nat.lt_of_le_of_lt ((leastOf_spec ⟨n', hI'⟩).2 n' hI') hlt⟩
    | normal => exact k
    | exit id => exact k
    | ret => exact k
    | panic ch => exact k
    | outgrown => exact k
theorem exit_here {id : Nat} (h : Q .normal a w) : Exit.inBlock id Q (.exit id) a w := by
  show (if id = id then Q .normal a w else Q (.exit id) a w)
  rw [if_pos rfl]; exact h
theorem put_ne {d e : Nat} (hne : Nat.beq d e = false) (x : Value) : (a.put (some d) x).eval (.tmp e) = a.eval (.tmp e) :=
  Act.eval_put (fun d' hd' he => by cases hd'; cases he; rw [Nat.beq_refl] at hne; cases hne)
theorem put_same {n : Nat} {kv : List (Nat × Value)} (F : Fr n a kv ds) {d : Nat} (hd : d < n) (x : Value) : (a.put (some d) x).eval (.tmp d) = x :=
  (F.put hd x).get d x (by unfold lk; rw [Nat.beq_refl]; rfl)
theorem i_add64 {x y : Operand} {T : TypeId} (p q : BitVec 64) : (do eqGuard .add T x y (.int .u64 p.toNat) (.int .u64 q.toNat); binOp .add T (.int .u64 p.toNat) (.int .u64 q.toNat) : Sem Value).run P w = .ok (.int .u64 (p + q).toNat) w := by
  show Result.ok (Value.int .u64 (IntKind.u64.wrap ((p.toNat : Int) + (q.toNat : Int)))) w = _
  rw [IntKind.wrap_u64, add64]
theorem i_mul64 {x y : Operand} {T : TypeId} (p q : BitVec 64) : (do eqGuard .mul T x y (.int .u64 p.toNat) (.int .u64 q.toNat); binOp .mul T (.int .u64 p.toNat) (.int .u64 q.toNat) : Sem Value).run P w = .ok (.int .u64 (p * q).toNat) w := by
  show Result.ok (Value.int .u64 (IntKind.u64.wrap ((p.toNat : Int) * (q.toNat : Int)))) w = _
  rw [IntKind.wrap_u64, mul64]
theorem i_xor64 {x y : Operand} {T : TypeId} (p q : BitVec 64) : (do eqGuard .xor T x y (.int .u64 p.toNat) (.int .u64 q.toNat); binOp .xor T (.int .u64 p.toNat) (.int .u64 q.toNat) : Sem Value).run P w = .ok (.int .u64 (p ^^^ q).toNat) w := by
  rw [← xor64]; rfl
theorem i_or64 {x y : Operand} {T : TypeId} (p q : BitVec 64) : (do eqGuard .or T x y (.int .u64 p.toNat) (.int .u64 q.toNat); binOp .or T (.int .u64 p.toNat) (.int .u64 q.toNat) : Sem Value).run P w = .ok (.int .u64 (p ||| q).toNat) w := by
  rw [← or64]; rfl
theorem i_and64 {x y : Operand} {T : TypeId} (p q : BitVec 64) : (do eqGuard .and T x y (.int .u64 p.toNat) (.int .u64 q.toNat); binOp .and T (.int .u64 p.toNat) (.int .u64 q.toNat) : Sem Value).run P w = .ok (.int .u64 (p &&& q).toNat) w := by
  rw [← and64]; rfl
theorem i_eq {k : IntKind} {x y : Operand} {T : TypeId} {p q : Int} {r : Bool} (h : (p == q) = r) : (do eqGuard .eql T x y (.int k p) (.int k q); binOp .eql T (.int k p) (.int k q) : Sem Value).run P w = .ok (.bool r) w := by
  subst h; cases k <;> rfl
theorem i_ne {k : IntKind} {x y : Operand} {T : TypeId} {p q : Int} {r : Bool} (h : (p != q) = r) : (do eqGuard .neq T x y (.int k p) (.int k q); binOp .neq T (.int k p) (.int k q) : Sem Value).run P w = .ok (.bool r) w := by
  subst h; cases k <;> rfl
theorem i_lt {k : IntKind} {x y : Operand} {T : TypeId} {p q : Int} {r : Bool} (h : decide (p < q) = r) : (do eqGuard .lss T x y (.int k p) (.int k q); binOp .lss T (.int k p) (.int k q) : Sem Value).run P w = .ok (.bool r) w := by
  subst h; cases k <;> rfl
theorem i_le {k : IntKind} {x y : Operand} {T : TypeId} {p q : Int} {r : Bool} (h : decide (p ≤ q) = r) : (do eqGuard .leq T x y (.int k p) (.int k q); binOp .leq T (.int k p) (.int k q) : Sem Value).run P w = .ok (.bool r) w := by
  subst h; cases k <;> rfl
theorem i_gt {k : IntKind} {x y : Operand} {T : TypeId} {p q : Int} {r : Bool} (h : decide (p > q) = r) : (do eqGuard .gtr T x y (.int k p) (.int k q); binOp .gtr T (.int k p) (.int k q) : Sem Value).run P w = .ok (.bool r) w := by
  subst h; cases k <;> rfl
theorem i_ge {k : IntKind} {x y : Operand} {T : TypeId} {p q : Int} {r : Bool} (h : decide (p ≥ q) = r) : (do eqGuard .geq T x y (.int k p) (.int k q); binOp .geq T (.int k p) (.int k q) : Sem Value).run P w = .ok (.bool r) w := by
  subst h; cases k <;> rfl
theorem i_addS {x y : Operand} {T : TypeId} {p q r : Int} (h : IntKind.i64.wrap (p + q) = r) : (do eqGuard .add T x y (.int .i64 p) (.int .i64 q); binOp .add T (.int .i64 p) (.int .i64 q) : Sem Value).run P w = .ok (.int .i64 r) w := by
  subst h; rfl
theorem i_subS {x y : Operand} {T : TypeId} {p q r : Int} (h : IntKind.i64.wrap (p - q) = r) : (do eqGuard .sub T x y (.int .i64 p) (.int .i64 q); binOp .sub T (.int .i64 p) (.int .i64 q) : Sem Value).run P w = .ok (.int .i64 r) w := by
  subst h; rfl
theorem i_mulS {x y : Operand} {T : TypeId} {p q r : Int} (h : IntKind.i64.wrap (p * q) = r) : (do eqGuard .mul T x y (.int .i64 p) (.int .i64 q); binOp .mul T (.int .i64 p) (.int .i64 q) : Sem Value).run P w = .ok (.int .i64 r) w := by
  subst h; rfl
theorem in64 (z : Int) (h : -9223372036854775808 ≤ z ∧ z ≤ 9223372036854775807) : IntKind.i64.wrap z = z := by rw [IntKind.wrap_i64]; omega
theorem Own.pad {bs : List Bx} {rs : List Rx} (h : Own w0 w bs rs K) (ps : List Bx) (hp : (ps.all fun p => !p.1) = true) (qs : List Rx) (hq : (qs.all fun p => !p.on) = true) : Own w0 w (bs ++ ps) (rs ++ qs) K := by
  have key : ∀ {i b : Nat} {vs : List Value}, (bs ++ ps)[i]? = some (true, b, vs) → bs[i]? = some (true, b, vs) := by
    intro i b vs hi
    by_cases hl : i < bs.length
    · rwa [List.getElem?_append_left hl] at hi
    · rw [List.getElem?_append_right (by omega)] at hi
      have := List.all_eq_true.1 hp _ (List.mem_of_getElem? hi)
      simp at this
  have key2 : ∀ {i : Nat} {r : Rx}, (rs ++ qs)[i]? = some r → r.on = true → rs[i]? = some r := by
    intro i r hi ho
    by_cases hl : i < rs.length
    · rwa [List.getElem?_append_left hl] at hi
    · rw [List.getElem?_append_right (by omega)] at hi
      have := List.all_eq_true.1 hq _ (List.mem_of_getElem? hi)
      simp [ho] at this
  exact ⟨h.below, fun i b vs hi => h.box i b vs (key hi), fun i j b vs us hi hj => h.nd i j b vs us (key hi) (key hj), fun i r hi ho => h.row i r (key2 hi ho) ho, fun i j b vs r hi hj ho => h.rb i j b vs r (key hi) (key2 hj ho) ho, fun i j g r s hi hj ho hs => h.rr i j g r s (key2 hi ho) (key2 hj hs) ho hs, fun k o hk => by
    obtain ⟨a, b, c, d⟩ := h.kp k o hk
    exact ⟨a, b, fun i vs hi => c i vs (key hi), fun i r hi ho => d i r (key2 hi ho) ho⟩⟩
theorem step_ong {R : Value → World → Prop} {C : List (Option Value)} {S : World → Value → Prop} {i j : Nat} {f : Nat → Option Bool} {b want : Bool} {X : Prop} (hg : o.guard = some (j, want)) (hy : f j = some b) (hb : b = want) (D : Does P o a w R) (h : ∀ x w', R x w' → (∀ c, C[i]? = some (some c) → x = c) ∧ S w' x) :
    ∃ W : Bool, Region.wanted o f = W ∧ if W = true then Does P o a w (fun x w' => (∀ c, C[i]? = some (some c) → x = c) ∧ S w' x) else X :=
  ⟨true, by unfold Region.wanted; rw [hg]; simp [hy, hb], by simp only [if_true]; exact D.mono h⟩
theorem step_off {j : Nat} {f : Nat → Option Bool} {b want : Bool} {X Y : Prop} (hg : o.guard = some (j, want)) (hy : f j = some b) (hb : b = !want) (h : Y) :
    ∃ W : Bool, Region.wanted o f = W ∧ if W = true then X else Y :=
  ⟨false, by unfold Region.wanted; rw [hg]; subst hb; cases want <;> simp [hy], by simp only [Bool.false_eq_true, if_false]; exact h⟩
theorem d_pickT {n : Nat} {kv : List (Nat × Value)} {c x y : Operand} {v : Value} (F : Fr n a kv ds) (ho : o.op = .pick c x y) (hc : ev kv c = some (.bool true)) (hx : ev kv x = some v) : Does P o a w (fun x w' => x = v ∧ w' = w) := by
  refine does_run ?_
  unfold execOp; rw [ho]; simp only [F.ev hc, F.ev hx]
  rfl
theorem d_pickF {n : Nat} {kv : List (Nat × Value)} {c x y : Operand} {v : Value} (F : Fr n a kv ds) (ho : o.op = .pick c x y) (hc : ev kv c = some (.bool false)) (hy : ev kv y = some v) : Does P o a w (fun x w' => x = v ∧ w' = w) := by
  refine does_run ?_
  unfold execOp; rw [ho]; simp only [F.ev hc, F.ev hy]
  rfl
end
end Sx
end
def u64v (x : BitVec 64) : Value := .int .u64 x.toNat
def u64s (l : List (BitVec 64)) : List Value := l.map u64v
def bools (l : List Bool) : List Value := l.map Value.bool
theorem u64s_snoc (l : List (BitVec 64)) (x : BitVec 64) : u64s (l ++ [x]) = u64s l ++ [.int .u64 x.toNat] := by simp [u64s, u64v]
theorem row_form {w : World} {lo : Nat} {e : TypeId} {v : Value} {n : Nat} {xs : List Value} (h : w.ownsRow lo e 1 v n xs) :
    (v = .slice none 0 0 ∧ n = 0) ∨ (∃ g cap, v = .slice (some ⟨g, 0, none⟩) n cap ∧ lo ≤ g ∧ g < w.heap.size ∧ n ≤ cap ∧ cap ≤ maxLen ∧ ∀ j, j < n → w.cell? ⟨g, j, none⟩ = xs[j]?) := by
  rcases h.2 with hn | ⟨g, cap, cur, rfl, hg, hh, hc, hm, _⟩
  · exact .inl hn
  · exact .inr ⟨g, cap, rfl, hg, (Array.getElem?_eq_some_iff.1 hh).1, hc, hm, fun j hj => World.ownsRow.cellAt h j (by omega)⟩

section
namespace Sx
section
variable {P : Program} {ds : List Deferred} {ops : Array Oper} {Q : Exit → Act → World → Prop} {w0 w : World} {a : Act} {o : Oper} {rest : List Oper} {n : Nat} {kv : List (Nat × Value)} {bs : List Bx} {rs : List Rx} {K : Nat → Option Obj}
theorem sr {d : Nat} {mk : Value → Value} {R : Value → World → Prop} (F : Fr n a kv ds) (D : Does P o a w (fun x w' => ∃ v, x = mk v ∧ R v w')) (hg : Region.wanted o (yielded ops a.tmps) = true) (hd : o.dst = some d) (hn : d < n)
    (h : ∀ v a' w', Fr n a' ((d, mk v) :: kv) ds → R v w' → wpList P ops Q rest a' w') : wpList P ops Q (o :: rest) a w := by
  refine step hg D ?_
  rintro x w' ⟨v, rfl, r⟩
  rw [hd]
  exact h v _ _ (F.put hn _) r
theorem does_calls {f : FuncId} {args : Array Value} {R : Value → World → Prop} (hr : (execOp a.eval o).run P w = .ok (.enter f args) w) (hc : Calls P f args w fun e w' => ∃ x, e = .returned x ∧ R x w') : Does P o a w R := by
  intro Q
  unfold Oper.wp
  rw [hr]
  refine hc.mono ?_
  rintro e w' ⟨x, rfl, h⟩
  exact ⟨x, rfl, h⟩
theorem d_callR {f : FuncId} {xs : Array Operand} {ts : Array TypeId} {vs : List Value} {mk : Value → Value} {E : TypeId} {z m : Nat} {cs : List Value} (hf : isFn P f) (F : Fr n a kv ds) (H : Own w0 w bs rs K) (ho : o.op = .call { callee := .value (.func f), args := xs, argTypes := ts }) (hxs : xs.toList.map (ev kv) = vs.map some)
    (hc : Calls P f vs.toArray w fun e w' => ∃ v, e = .returned (mk v) ∧ w'.ownsRow w.heap.size E z v m cs ∧ Below w.heap.size w w') : Does P o a w (fun x w' => ∃ v, x = mk v ∧ Own w0 w' bs (⟨true, v, E, z, m, cs⟩ :: rs) K) := by
  refine does_calls (by rw [run_call F ho hxs]; exact hf _ w) (hc.mono ?_)
  rintro e w' ⟨v, rfl, h1, h2⟩
  exact ⟨_, rfl, v, rfl, H.consR h2 ⟨true, v, E, z, m, cs⟩ h1⟩
theorem d_callR_at {f : FuncId} {xs : Array Operand} {ts : Array TypeId} {vs : List Value} {mk : Value → Value} {E : TypeId} {z m : Nat} {cs : List Value} (i : Nat) (hf : isFn P f) (F : Fr n a kv ds) (H : Own w0 w bs rs K) (ho : o.op = .call { callee := .value (.func f), args := xs, argTypes := ts }) (hxs : xs.toList.map (ev kv) = vs.map some)
    (hc : Calls P f vs.toArray w fun e w' => ∃ v, e = .returned (mk v) ∧ w'.ownsRow w.heap.size E z v m cs ∧ Below w.heap.size w w') : Does P o a w (fun x w' => ∃ v, x = mk v ∧ Own w0 w' bs (rs.set i ⟨true, v, E, z, m, cs⟩) K) := by
  refine does_calls (by rw [run_call F ho hxs]; exact hf _ w) (hc.mono ?_)
  rintro e w' ⟨v, rfl, h1, h2⟩
  exact ⟨_, rfl, v, rfl, H.freshR h2 i ⟨true, v, E, z, m, cs⟩ h1⟩
theorem d_lit {T m : Nat} {ps : Array (Nat × Operand)} {qs : Array (Nat × Value)} {cs : Array Value} {E : TypeId} (F : Fr n a kv ds) (H : Own w0 w bs rs K) (ho : o.op = .buildSlice T m ps) (hp : ps.toList.map (fun p => (ev kv p.2).map (fun v => (p.1, v))) = qs.toList.map some)
    (hr : ∀ w : World, (Instr.buildSlice T m qs).run P w = .ok (.slice (some ⟨w.heap.size, 0, none⟩) m m) (w.alloc (.cells cs E))) :
    Does P o a w (fun x w' => ∃ g, x = .slice (some ⟨g, 0, none⟩) m m ∧ Own w0 w' ((true, g, cs.toList) :: bs) rs K) := by
  refine (does_run (v := .slice (some ⟨w.heap.size, 0, none⟩) m m) (w' := w.alloc (.cells cs E)) ?_).mono ?_
  · unfold execOp; rw [ho]
    show (do let x ← Instr.buildSlice T m (ps.map fun (i, x) => (i, a.eval x)); Pure.pure (Next.value x) : Sem Next).run P w = _
    rw [parts_eq F hp, Sem.run_bind, hr w]; rfl
  · rintro x w' ⟨rfl, rfl⟩
    exact ⟨_, rfl, H.cons cs E⟩
theorem d_litR {T m : Nat} {ps : Array (Nat × Operand)} {qs : Array (Nat × Value)} {cs : Array Value} {E : TypeId} {z : Nat} (F : Fr n a kv ds) (H : Own w0 w bs rs K) (ho : o.op = .buildSlice T m ps) (hp : ps.toList.map (fun p => (ev kv p.2).map (fun v => (p.1, v))) = qs.toList.map some)
    (hr : ∀ w : World, (Instr.buildSlice T m qs).run P w = .ok (.slice (some ⟨w.heap.size, 0, none⟩) m m) (w.alloc (.cells cs E))) (hs : cs.size = m * z) (hm : m ≤ 1000000) :
    Does P o a w (fun x w' => ∃ v, x = v ∧ Own w0 w' bs (⟨true, v, E, z, m, cs.toList⟩ :: rs) K) := by
  refine (does_run (v := .slice (some ⟨w.heap.size, 0, none⟩) m m) (w' := w.alloc (.cells cs E)) ?_).mono ?_
  · unfold execOp; rw [ho]
    show (do let x ← Instr.buildSlice T m (ps.map fun (i, x) => (i, a.eval x)); Pure.pure (Next.value x) : Sem Next).run P w = _
    rw [parts_eq F hp, Sem.run_bind, hr w]; rfl
  · rintro x w' ⟨rfl, rfl⟩
    refine ⟨_, rfl, H.consR ((Below.refl _ _).alloc (Nat.le_refl _) _) ⟨true, _, E, z, m, cs.toList⟩ ⟨by simpa using hs, .inr ⟨w.heap.size, m, cs, rfl, Nat.le_refl _, heap_alloc_new w _, Nat.le_refl _, by unfold maxLen; omega, hs, ?_⟩⟩⟩
    rw [List.take_of_length_le (by simp [hs])]
theorem d_litR_at (i : Nat) {T m : Nat} {ps : Array (Nat × Operand)} {qs : Array (Nat × Value)} {cs : Array Value} {E : TypeId} {z : Nat} (F : Fr n a kv ds) (H : Own w0 w bs rs K) (ho : o.op = .buildSlice T m ps) (hp : ps.toList.map (fun p => (ev kv p.2).map (fun v => (p.1, v))) = qs.toList.map some)
    (hr : ∀ w : World, (Instr.buildSlice T m qs).run P w = .ok (.slice (some ⟨w.heap.size, 0, none⟩) m m) (w.alloc (.cells cs E))) (hs : cs.size = m * z) (hm : m ≤ 1000000) :
    Does P o a w (fun x w' => ∃ v, x = v ∧ Own w0 w' bs (rs.set i ⟨true, v, E, z, m, cs.toList⟩) K) := by
  refine (does_run (v := .slice (some ⟨w.heap.size, 0, none⟩) m m) (w' := w.alloc (.cells cs E)) ?_).mono ?_
  · unfold execOp; rw [ho]
    show (do let x ← Instr.buildSlice T m (ps.map fun (i, x) => (i, a.eval x)); Pure.pure (Next.value x) : Sem Next).run P w = _
    rw [parts_eq F hp, Sem.run_bind, hr w]; rfl
  · rintro x w' ⟨rfl, rfl⟩
    refine ⟨_, rfl, H.freshR ((Below.refl _ _).alloc (Nat.le_refl _) _) i ⟨true, _, E, z, m, cs.toList⟩ ⟨by simpa using hs, .inr ⟨w.heap.size, m, cs, rfl, Nat.le_refl _, heap_alloc_new w _, Nat.le_refl _, by unfold maxLen; omega, hs, ?_⟩⟩⟩
    rw [List.take_of_length_le (by simp [hs])]
def elemT (P : Program) (t E : TypeId) (z bytes : Nat) : Prop := P.underlying t = some (.slice E) ∧ (P.info? E).map (fun i => (i.zero.map (·.cells.size), i.size, i.bytes)) = some (some z, z, bytes)
theorem d_append {s x : Operand} {t E : TypeId} {z bytes i j g m k c : Nat} {v : Value} {xs news : List Value} (hT : elemT P t E z bytes) (F : Fr n a kv ds) (H : Own w0 w bs rs K) (ho : o.op = .call { callee := .builtin .append, args := #[s, x], argTypes := #[t, t] })
    (hs : ev kv s = some v) (hx : ev kv x = some (.slice (some ⟨g, 0, none⟩) m c)) (hi : rs[i]? = some ⟨true, v, E, z, k, xs⟩) (hj : bs[j]? = some (true, g, news)) (hl : news.length = m * z) (h1 : ones news = true) (hz : Nat.ble 1 z = true)
    (h63 : k + m ≤ 1000000) (hb : bytes ≤ 1000) : Does P o a w (fun y w' => ∃ v, y = v ∧ Own w0 w' bs (rs.set i ⟨true, v, E, z, k + m, xs ++ news⟩) K) := by
  obtain ⟨ht, hinf⟩ := hT
  cases hq : P.info? E with
  | none => rw [hq] at hinf; cases hinf
  | some inf =>
    rw [hq] at hinf
    simp only [Option.map_some, Option.some.injEq, Prod.mk.injEq] at hinf
    obtain ⟨hz1, hz2, hz3⟩ := hinf
    cases hzv : inf.zero with
    | none => rw [hzv] at hz1; cases hz1
    | some zv =>
      rw [hzv] at hz1
      simp only [Option.map_some, Option.some.injEq] at hz1
      have hown : w.ownsRow w0.heap.size E z v k xs := H.row i _ hi rfl
      have hbox := (H.box j g news hj).1
      obtain ⟨v', w', hr, h2, h3, _, h5⟩ := run_append_own_at (P := P) w w0.heap.size t o.type E inf zv z bytes ht hq hzv hz2 hz3 hz1 (Nat.le_of_ble_eq_true hz) v k xs hown ⟨g, 0, none⟩ m c news hl
        (fun j u hu => by rw [Addr.add_mid, Nat.zero_add]; exact (hbox j u hu).1) (fun u hu => List.all_eq_true.1 h1 u hu) (by unfold maxLen; omega) (by have := Nat.mul_le_mul h63 hb; omega) H.below.size
      refine (does_run (v := v') (w' := w') ?_).mono ?_
      · unfold execOp
        simp only [ho, resolve, invoke, builtin, Sem.run_bind, Sem.run_pure, Result.andThen_ok, List.map_toArray, List.map_cons, List.map_nil, F.ev hs, F.ev hx, hr]
      · rintro y w'' ⟨rfl, rfl⟩
        exact ⟨_, rfl, H.grow hi rfl (r' := ⟨true, y, E, z, k + m, xs ++ news⟩) h2 h3 h5⟩
theorem len_of {lo : Nat} {E : TypeId} {z k : Nat} {v : Value} {xs : List Value} (h : w.ownsRow lo E z v k xs) : ∃ ad cap, v = .slice ad k cap := by
  rcases h.2 with ⟨rfl, rfl⟩ | ⟨g, cap, cur, rfl, _⟩
  · exact ⟨none, 0, rfl⟩
  · exact ⟨some ⟨g, 0, none⟩, cap, rfl⟩
theorem d_len {x : Operand} {t E : TypeId} {z bytes i k : Nat} {v : Value} {xs : List Value} (hT : elemT P t E z bytes) (F : Fr n a kv ds) (H : Own w0 w bs rs K) (ho : o.op = .call { callee := .builtin .len, args := #[x], argTypes := #[t] })
    (hx : ev kv x = some v) (hi : rs[i]? = some ⟨true, v, E, z, k, xs⟩) : Does P o a w (fun y w' => y = .int .i64 k ∧ w' = w) := by
  obtain ⟨ad, cap, hv⟩ := len_of (H.row i _ hi rfl)
  simp only at hv
  subst hv
  refine does_run ?_
  have hr : (Builtin.len_ #[t] o.type #[.slice ad k cap]).run P w = .ok (.int .i64 k) w := by
    simp [Builtin.len_, run_underlying hT.1, goInt]
  unfold execOp
  simp only [ho, resolve, invoke, builtin, Sem.run_bind, Sem.run_pure, Result.andThen_ok, List.map_toArray, List.map_cons, List.map_nil, F.ev hx, hr]
theorem rowEq {r : Rx} {lo : Nat} {v : Value} {E : TypeId} {z m : Nat} {ys : List Value} (h : r.holds lo w) (hv : r.v = v) (hE : r.E = E) (hz : r.z = z) (hm : r.n = m) (e : r.xs = ys) : w.ownsRow lo E z v m ys := by
  subst hv; subst hE; subst hz; subst hm; subst e; exact h
theorem Own.open {i k : Nat} {E : TypeId} {z : Nat} {v : Value} {xs : List Value} (H : Own w0 w bs rs K) (hi : rs[i]? = some ⟨true, v, E, z, k, xs⟩) (hk : 0 < k) : ∃ g cap, v = .slice (some ⟨g, 0, none⟩) k cap ∧ k ≤ cap ∧ cap ≤ maxLen := by
  rcases (H.row i _ hi rfl).2 with ⟨_, h0⟩ | ⟨g, cap, cur, hv, _, _, hc, hm, _⟩
  · simp only at h0; omega
  · exact ⟨g, cap, hv, hc, hm⟩
end
end Sx
end
end Go.Proofs.YteecadoakmdibaaGreat
