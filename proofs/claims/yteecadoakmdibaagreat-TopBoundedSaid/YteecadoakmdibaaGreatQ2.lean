/- What the proof of TopBounded leans on: part 2. -/
import Derived.Test.YteecadoakmdibaaGreatQ1
import Derived.Lib.Mul64
import Derived.Laws.Bits64b
import Derived.Laws.Externs
import Derived.Deep.RegionHeld3
import Derived.Deep.OwnRows
import Derived.Laws.OwnMore
import Derived.Laws.BytesString
import Derived.Laws.Concat
import Derived.Laws.Closers25
import Derived.Lib.SliceRun
set_option maxRecDepth 100000
set_option maxHeartbeats 4000000
namespace Go.Proofs.YteecadoakmdibaaGreat
open Go Go.RowKit
section
abbrev iI (n : Int) : Value := .int .i64 n
abbrev iU (n : Int) : Value := .int .u64 n
abbrev iW (n : Int) : Value := .int .u32 n
abbrev iB (n : Int) : Value := .int .u8 n
abbrev uN (x : BitVec 64) : Value := .int .u64 (x.toNat : Nat)
abbrev uH (x : BitVec 128) : Value := .int .u64 ((Wd.hi x).toNat : Nat)
abbrev uL (x : BitVec 128) : Value := .int .u64 ((Wd.lo x).toNat : Nat)
abbrev wN (x : BitVec 32) : Value := .int .u32 (x.toNat : Nat)
abbrev pT (g o : Nat) : Value := .pointer (some ⟨g, o, none⟩)
abbrev sL (g o n c : Nat) : Value := .slice (some ⟨g, o, none⟩) n c
abbrev nS : Value := .slice none 0 0
abbrev nP : Value := .pointer none
abbrev bT : Value := .bool true
abbrev bF : Value := .bool false
abbrev If (f : FuncId) : Prop := Sx.isFn Tryz.prog f
abbrev Cq (f : FuncId) (args : Array Value) (w : World) (R : Value → World → Prop) : Prop := Calls Tryz.prog f args w fun e w' => ∃ x, e = .returned x ∧ R x w'
abbrev Bt (g : Nat) (xs : List Value) : Sx.Bx := (true, g, xs)
abbrev Cr (f : FuncId) (args : Array Value) (w0 w : World) (V : Value) (bs : List Sx.Bx) (rs : List Sx.Rx) (K : Nat → Option Obj) : Prop := Cq f args w fun x w' => x = V ∧ Sx.Own w0 w' bs rs K
namespace Sx
structure FaC (P : Program) (T k : Nat) : Type where
  off : Nat
  h : ∀ (b o : Nat) (w : World), (Instr.fieldAt T (.pointer (some ⟨b, o, none⟩)) k).run P w = .ok (.pointer (some ⟨b, o + off, none⟩)) w
structure OneC (P : Program) (T : Nat) : Type where
  h : oneT P T
structure RowC (P : Program) (T : Nat) : Type where
  m : Nat
  h : rowT P T m
end Sx
section
open Sx
variable {P : Program} {ds : List Deferred} {ops : Array Oper} {Q : Exit → Act → World → Prop} {w0 w : World} {a : Act} {o : Oper} {rest : List Oper} {n : Nat} {kv : List (Nat × Value)} {bs : List Bx} {rs : List Rx} {K : Nat → Option Obj} {d : Nat}
theorem Zv {v : Value} (F : Fr n a kv ds) (D : Does P o a w (fun x w' => x = v ∧ w' = w)) (h : ∀ a', Fr n a' ((d, v) :: kv) ds → wpList P ops Q rest a' w) (hg : Region.wanted o (yielded ops a.tmps) = true := by
      first
      | exact Sx.wanted_none rfl _
      | exact Sx.wanted_on rfl (Sx.guard_known ‹Sx.Fr _ _ _ _› rfl rfl) rfl) (hd : o.dst = some d := by rfl) (hn : d < n := by decide) : wpList P ops Q (o :: rest) a w := sv F D hg hd hn h
theorem Zn {op : BinOp} {T yT : TypeId} {x y : Operand} {vx vy : Value} (v : Value) (F : Fr n a kv ds) (h : ∀ a', Fr n a' ((d, v) :: kv) ds → wpList P ops Q rest a' w) (ho : o.op = .binOp op T x y yT := by rfl) (hx : ev kv x = some vx := by rfl) (hy : ev kv y = some vy := by rfl) (hr : (do eqGuard op T x y vx vy; binOp op T vx vy : Sem Value).run P w = .ok v w := by kernel_rfl) (hg : Region.wanted o (yielded ops a.tmps) = true := by
      first
      | exact Sx.wanted_none rfl _
      | exact Sx.wanted_on rfl (Sx.guard_known ‹Sx.Fr _ _ _ _› rfl rfl) rfl) (hd : o.dst = some d := by rfl) (hn : d < n := by decide) : wpList P ops Q (o :: rest) a w := sv F (d_bin F ho hx hy hr) hg hd hn h
theorem Do {f : FuncId} {xs : Array Operand} {ts : Array TypeId} {vs : List Value} {R : Value → World → Prop} (hf : isFn P f) (F : Fr n a kv ds) (hc : Calls P f vs.toArray w fun e w' => ∃ x, e = .returned x ∧ R x w') (ho : o.op = .call { callee := .value (.func f), args := xs, argTypes := ts } := by rfl) (hxs : xs.toList.map (ev kv) = vs.map some := by rfl) : Does P o a w R := does_calls (by rw [run_call F ho hxs]; exact hf _ w) hc
theorem Zy {R : Value → World → Prop} (F : Fr n a kv ds) (D : Does P o a w R) (h : ∀ x w', R x w' → ∀ a', Fr n a' kv ds → wpList P ops Q rest a' w') (hg : Region.wanted o (yielded ops a.tmps) = true := by
      first
      | exact Sx.wanted_none rfl _
      | exact Sx.wanted_on rfl (Sx.guard_known ‹Sx.Fr _ _ _ _› rfl rfl) rfl) (hd : o.dst = none := by rfl) : wpList P ops Q (o :: rest) a w := by
  refine Sx.step hg D ?_
  intro x w' r
  rw [hd]
  exact h x w' r _ (F.put0 _)
theorem Zw {v : Value} {R : World → Prop} (F : Fr n a kv ds) (D : Does P o a w (fun x w' => x = v ∧ R w')) (h : ∀ a' w', Fr n a' ((d, v) :: kv) ds → R w' → wpList P ops Q rest a' w') (hg : Region.wanted o (yielded ops a.tmps) = true := by
      first
      | exact Sx.wanted_none rfl _
      | exact Sx.wanted_on rfl (Sx.guard_known ‹Sx.Fr _ _ _ _› rfl rfl) rfl) (hd : o.dst = some d := by rfl) (hn : d < n := by decide) : wpList P ops Q (o :: rest) a w := sw F D hg hd hn h
theorem Zb {R : Nat → World → Prop} (F : Fr n a kv ds) (D : Does P o a w (fun x w' => ∃ g, x = .pointer (some ⟨g, 0, none⟩) ∧ R g w')) (h : ∀ g a' w', Fr n a' ((d, .pointer (some ⟨g, 0, none⟩)) :: kv) ds → R g w' → wpList P ops Q rest a' w') (hg : Region.wanted o (yielded ops a.tmps) = true := by
      first
      | exact Sx.wanted_none rfl _
      | exact Sx.wanted_on rfl (Sx.guard_known ‹Sx.Fr _ _ _ _› rfl rfl) rfl) (hd : o.dst = some d := by rfl) (hn : d < n := by decide) : wpList P ops Q (o :: rest) a w := sb F D hg hd hn h
theorem Zt {R : World → Prop} (F : Fr n a kv ds) (D : Does P o a w (fun _ w' => R w')) (h : ∀ a' w', Fr n a' kv ds → R w' → wpList P ops Q rest a' w') (hg : Region.wanted o (yielded ops a.tmps) = true := by
      first
      | exact Sx.wanted_none rfl _
      | exact Sx.wanted_on rfl (Sx.guard_known ‹Sx.Fr _ _ _ _› rfl rfl) rfl) (hd : o.dst = none := by rfl) : wpList P ops Q (o :: rest) a w := ss F D hg hd h
theorem Ld {T : Nat} {x : Operand} {b k : Nat} (i : Nat) {vs : List Value} {v : Value} (hT : oneT P T) (F : Fr n a kv ds) (H : Own w0 w bs rs K) (ho : o.op = .load T x := by rfl) (hx : ev kv x = some (.pointer (some ⟨b, k, none⟩)) := by rfl) (hi : bs[i]? = some (true, b, vs) := by rfl) (hv : vs[k]? = some v := by rfl) : Does P o a w (fun x w' => x = v ∧ w' = w) := d_load1 hT F H ho hx hi hv
theorem Lr {T m : Nat} {x : Operand} {b k : Nat} (i : Nat) {vs : List Value} (xs : List Value) (hT : rowT P T m) (F : Fr n a kv ds) (H : Own w0 w bs rs K) (ho : o.op = .load T x := by rfl) (hx : ev kv x = some (.pointer (some ⟨b, k, none⟩)) := by rfl) (hi : bs[i]? = some (true, b, vs) := by rfl) (hxs : (vs.drop k).take m = xs := by rfl) (hl : xs.length = m := by rfl) : Does P o a w (fun x w' => x = .agg xs.toArray ∧ w' = w) := d_load hT F H ho hx hi hxs hl
theorem Fd {T k : Nat} {x : Operand} {vx v : Value} (F : Fr n a kv ds) (hr : (Instr.fieldAt T vx k).run P w = .ok v w) (ho : o.op = .fieldAddr T x k := by rfl) (hx : ev kv x = some vx := by rfl) : Does P o a w (fun x w' => x = v ∧ w' = w) := d_faddr F ho hx hr
theorem Bn {op : BinOp} {T yT : TypeId} {x y : Operand} {vx vy : Value} (v : Value) (F : Fr n a kv ds) (ho : o.op = .binOp op T x y yT) (hx : ev kv x = some vx) (hy : ev kv y = some vy) (hr : (do eqGuard op T x y vx vy; binOp op T vx vy : Sem Value).run P w = .ok v w) : Does P o a w (fun x w' => x = v ∧ w' = w) := d_bin F ho hx hy hr
theorem afa {T k b f : Nat} {x : Operand} [C : Inhabited (FaC P T k)] (F : Fr n a kv ds) (ho : o.op = .fieldAddr T x k) (hx : ev kv x = some (.pointer (some ⟨b, f, none⟩))) : Does P o a w (fun x w' => x = .pointer (some ⟨b, f + C.default.off, none⟩) ∧ w' = w) := d_faddr F ho hx (C.default.h b f w)
theorem al1 {T b k : Nat} {x : Operand} [C : Inhabited (OneC P T)] {i : Nat} {vs : List Value} {v : Value} (F : Fr n a kv ds) (H : Own w0 w bs rs K) (ho : o.op = .load T x) (hx : ev kv x = some (.pointer (some ⟨b, k, none⟩))) (hi : bs[i]? = some (true, b, vs)) (hv : vs[k]? = some v) : Does P o a w (fun x w' => x = v ∧ w' = w) := d_load1 C.default.h F H ho hx hi hv
theorem al2 {T b k : Nat} {x : Operand} [C : Inhabited (RowC P T)] {i : Nat} {vs : List Value} (F : Fr n a kv ds) (H : Own w0 w bs rs K) (ho : o.op = .load T x) (hx : ev kv x = some (.pointer (some ⟨b, k, none⟩))) (hi : bs[i]? = some (true, b, vs)) (hl : ((vs.drop k).take C.default.m).length = C.default.m) : Does P o a w (fun x w' => x = .agg ((vs.drop k).take C.default.m).toArray ∧ w' = w) := d_load C.default.h F H ho hx hi rfl hl
theorem Av {v : Value} (F : Fr n a kv ds) (h : ∀ a', Fr n a' ((d, v) :: kv) ds → wpList P ops Q rest a' w)
    (D : Does P o a w (fun x w' => x = v ∧ w' = w) := by
      first
      | exact Sx.d_move ‹Sx.Fr _ _ _ _› (Or.inl rfl) rfl
      | exact Sx.d_move ‹Sx.Fr _ _ _ _› (Or.inr rfl) rfl
      | exact afa ‹Sx.Fr _ _ _ _› rfl rfl
      | exact Sx.d_extract ‹Sx.Fr _ _ _ _› rfl rfl rfl
      | exact al1 (i := 0) ‹Sx.Fr _ _ _ _› ‹Sx.Own _ _ _ _ _› rfl rfl rfl rfl
      | exact al1 (i := 1) ‹Sx.Fr _ _ _ _› ‹Sx.Own _ _ _ _ _› rfl rfl rfl rfl
      | exact al1 (i := 2) ‹Sx.Fr _ _ _ _› ‹Sx.Own _ _ _ _ _› rfl rfl rfl rfl
      | exact al1 (i := 3) ‹Sx.Fr _ _ _ _› ‹Sx.Own _ _ _ _ _› rfl rfl rfl rfl
      | exact al1 (i := 4) ‹Sx.Fr _ _ _ _› ‹Sx.Own _ _ _ _ _› rfl rfl rfl rfl
      | exact al1 (i := 5) ‹Sx.Fr _ _ _ _› ‹Sx.Own _ _ _ _ _› rfl rfl rfl rfl
      | exact al1 (i := 6) ‹Sx.Fr _ _ _ _› ‹Sx.Own _ _ _ _ _› rfl rfl rfl rfl
      | exact al2 (i := 0) ‹Sx.Fr _ _ _ _› ‹Sx.Own _ _ _ _ _› rfl rfl rfl rfl
      | exact al2 (i := 1) ‹Sx.Fr _ _ _ _› ‹Sx.Own _ _ _ _ _› rfl rfl rfl rfl
      | exact al2 (i := 2) ‹Sx.Fr _ _ _ _› ‹Sx.Own _ _ _ _ _› rfl rfl rfl rfl
      | exact al2 (i := 3) ‹Sx.Fr _ _ _ _› ‹Sx.Own _ _ _ _ _› rfl rfl rfl rfl
      | exact al2 (i := 4) ‹Sx.Fr _ _ _ _› ‹Sx.Own _ _ _ _ _› rfl rfl rfl rfl
      | exact al2 (i := 5) ‹Sx.Fr _ _ _ _› ‹Sx.Own _ _ _ _ _› rfl rfl rfl rfl
      | exact al2 (i := 6) ‹Sx.Fr _ _ _ _› ‹Sx.Own _ _ _ _ _› rfl rfl rfl rfl
      | exact Sx.d_bin ‹Sx.Fr _ _ _ _› rfl rfl rfl (Sx.i_eq rfl)
      | exact Sx.d_bin ‹Sx.Fr _ _ _ _› rfl rfl rfl (Sx.i_ne rfl)
      | exact Sx.d_bin ‹Sx.Fr _ _ _ _› rfl rfl rfl (Sx.i_lt rfl)
      | exact Sx.d_bin ‹Sx.Fr _ _ _ _› rfl rfl rfl (Sx.i_le rfl)
      | exact Sx.d_bin ‹Sx.Fr _ _ _ _› rfl rfl rfl (Sx.i_gt rfl)
      | exact Sx.d_bin ‹Sx.Fr _ _ _ _› rfl rfl rfl (Sx.i_ge rfl)
      | exact Sx.d_pickT ‹Sx.Fr _ _ _ _› rfl rfl rfl
      | exact Sx.d_pickF ‹Sx.Fr _ _ _ _› rfl rfl rfl
      | exact Sx.d_nil ‹Sx.Fr _ _ _ _› rfl rfl)
    (hg : Region.wanted o (yielded ops a.tmps) = true := by
      first
      | exact Sx.wanted_none rfl _
      | exact Sx.wanted_on rfl (Sx.guard_known ‹Sx.Fr _ _ _ _› rfl rfl) rfl)
    (hd : o.dst = some d := by rfl) (hn : d < n := by decide) : wpList P ops Q (o :: rest) a w := sv F D hg hd hn h
theorem Zs {T m : Nat} {x y : Operand} {b k : Nat} (i : Nat) {vs xs : List Value} {v : Value} (us : List Value) (hT : (P.info? T).map (·.size) = some m) (F : Fr n a kv ds) (H : Own w0 w bs rs K) (h : ∀ a' w', Fr n a' kv ds → Own w0 w' (bs.set i (true, b, us)) rs K → wpList P ops Q rest a' w')
    (ho : o.op = .store T x y := by rfl) (hx : ev kv x = some (.pointer (some ⟨b, k, none⟩)) := by rfl) (hy : ev kv y = some v := by rfl) (hc : v.cells.toList = xs := by rfl) (hm : xs.length = m := by rfl) (h1 : ones xs = true := by rfl) (hi : bs[i]? = some (true, b, vs) := by rfl) (hk : Nat.ble (k + m) vs.length = true := by rfl) (hu : splice vs k xs = us := by rfl)
    (hg : Region.wanted o (yielded ops a.tmps) = true := by
      first
      | exact Sx.wanted_none rfl _
      | exact Sx.wanted_on rfl (Sx.guard_known ‹Sx.Fr _ _ _ _› rfl rfl) rfl)
    (hd : o.dst = none := by rfl) : wpList P ops Q (o :: rest) a w := ss F (d_store hT F H ho hx hy hc hm h1 hi (Nat.le_of_ble_eq_true hk) hu) hg hd h
theorem Sp {id : Nat} {l : List Oper} {y : Code} (h : ∀ K : Act → World → Prop, (∀ a w, y.wp P Q a w → K a w) → wpList P l.toArray (Exit.then K Q) l a w) : (Code.seq (Code.region id l.toArray false) y).wp P Q a w := seq fun K hK => plain (h K hK)
theorem Nl {K' : Act → World → Prop} {R : Act → World → Prop} (k : ∀ a w, R a w → K' a w) (h : R a w) : wpList P ops (Exit.then K' Q) [] a w := nil (k _ _ h)
theorem Sx.Fr.tq (h : Fr n a kv ds) (kv' : List (Nat × Value)) (e : kv'.map (fun p => lk kv p.1) = kv'.map (fun p => some p.2)) : Fr n a kv' ds := h.sub fun p hp => by
  have := List.map_inj_left.1 e p hp
  exact this
theorem Pk {c : Prop} {e d : Nat} {x v : Value} (p : c → a.eval (.tmp e) = v) (hne : Nat.beq d e = false := by rfl) : c → (a.put (some d) x).eval (.tmp e) = v := fun h => (put_ne hne x).trans (p h)
theorem Nf {b : Bool} {X : Prop} (f : b = false) : b = true → X := fun h => by rw [f] at h; cases h
theorem Nt {b : Bool} {X : Prop} (f : b = true) : b = false → X := fun h => by rw [f] at h; cases h
theorem Cs {x v : Value} {l : Option (Option Value)} (hx : x = v) (hl : l = some (some v) := by rfl) : ∀ c, l = some (some c) → x = c := fun c hc => by rw [hl] at hc; exact hx.trans (Option.some.inj (Option.some.inj hc))
theorem Cn {x : Value} {l : Option (Option Value)} (hl : l = some none := by rfl) : ∀ c, l = some (some c) → x = c := fun c hc => by rw [hl] at hc; cases hc
theorem Cu {x : Value} {l : Option (Option Value)} (hl : l = some (some x) := by rfl) : ∀ c, l = some (some c) → x = c := fun c hc => by rw [hl] at hc; exact Option.some.inj (Option.some.inj hc)
theorem Dc {f : FuncId} {xs : Array Operand} {ts : Array TypeId} {vs : List Value} {v : Value} (hf : isFn P f) (F : Fr n a kv ds) (H : Own w0 w bs rs K) (hc : Calls P f vs.toArray w fun e w' => e = .returned v ∧ Below w.heap.size w w') (ho : o.op = .call { callee := .value (.func f), args := xs, argTypes := ts } := by rfl) (hxs : xs.toList.map (ev kv) = vs.map some := by rfl) : Does P o a w (fun x w' => x = v ∧ Own w0 w' bs rs K) := d_call hf F H ho hxs hc
theorem Zx {R : Value → World → Prop} (F : Fr n a kv ds) (D : Does P o a w R) (h : ∀ x w', R x w' → ∀ a', Fr n a' ((d, x) :: kv) ds → wpList P ops Q rest a' w') (hg : Region.wanted o (yielded ops a.tmps) = true := by
      first
      | exact Sx.wanted_none rfl _
      | exact Sx.wanted_on rfl (Sx.guard_known ‹Sx.Fr _ _ _ _› rfl rfl) rfl) (hd : o.dst = some d := by rfl) (hn : d < n := by decide) : wpList P ops Q (o :: rest) a w := by
  refine Sx.step hg D ?_
  intro x w' r
  rw [hd]
  exact h x w' r _ (F.put hn _)
theorem Zr {mk : Value → Value} {R : Value → World → Prop} (F : Fr n a kv ds) (D : Does P o a w (fun x w' => ∃ v, x = mk v ∧ R v w')) (h : ∀ v a' w', Fr n a' ((d, mk v) :: kv) ds → R v w' → wpList P ops Q rest a' w') (hg : Region.wanted o (yielded ops a.tmps) = true := by
      first
      | exact Sx.wanted_none rfl _
      | exact Sx.wanted_on rfl (Sx.guard_known ‹Sx.Fr _ _ _ _› rfl rfl) rfl) (hd : o.dst = some d := by rfl) (hn : d < n := by decide) : wpList P ops Q (o :: rest) a w := sr F D hg hd hn h
theorem Zg {mk : Nat → Value} {R : Nat → World → Prop} (F : Fr n a kv ds) (D : Does P o a w (fun x w' => ∃ g, x = mk g ∧ R g w')) (h : ∀ g a' w', Fr n a' ((d, mk g) :: kv) ds → R g w' → wpList P ops Q rest a' w') (hg : Region.wanted o (yielded ops a.tmps) = true := by
      first
      | exact Sx.wanted_none rfl _
      | exact Sx.wanted_on rfl (Sx.guard_known ‹Sx.Fr _ _ _ _› rfl rfl) rfl) (hd : o.dst = some d := by rfl) (hn : d < n := by decide) : wpList P ops Q (o :: rest) a w := sg F D hg hd hn h
theorem En {f : FuncId} {fn : Func} {c : Code} {args : List Value} {R : Ending → World → Prop} {n : Nat} (hf : P.funcs[f]? = some fn) (hn : fn.ntmps = n) (h : ∀ a, Fr n a (kvOf 0 args) → c.wp P (bodyPost P fn R) a w) (hb : fn.body = some c := by rfl) (hl : Nat.ble args.length n = true := by rfl) : Calls P f args.toArray w R := enter hf hb hn (Nat.le_of_ble_eq_true hl) h
theorem Dv {u v : Value} (D : Does P o a w (fun x w' => x = u ∧ w' = w)) (e : u = v) : Does P o a w (fun x w' => x = v ∧ w' = w) := by subst e; exact D
theorem An {x y : Prop} (h : x) (g : y) : x ∧ y := ⟨h, g⟩
theorem Rs {c : Code} {m : Nat} (h : c.wp P (Exit.then (Code.rounds P c Q m) Q) a w) : Code.rounds P c Q (m + 1) a w := h
theorem Wr {R : Exit → Act → World → Prop} (h : R .ret a w) (e : R .ret a w → Q .ret a w := by (intro h; (try dsimp only [Exit.then, Exit.inBlock, Exit.jump, Exit.noGoto]); exact h)) : (Code.ret).wp P Q a w := wp_ret (e h)
theorem Dn {id : Nat} {l : List Oper} (F : Fr n a kv ds) (C : List (Option Value)) (S : (Nat → Bool) → Act → World → Prop) (h0 : S (fun _ => false) a w.drew) (steps : Sx.Steps (fun o i => StepAt P n kv l C S o i ds) l 0)
    (fin : ∀ L a w, (∀ i, Nat.blt i l.length = true → L i = true) → Fr n a (depkv l C (List.range l.length) ++ kv) ds → S L a w → Q .normal a w) (hm : P.follows .mixedOrders = true := by kernel_rfl) (he : Inv.early l = true := by kernel_rfl) (hs : slotsOk n kv l = true := by kernel_rfl) : (Code.region id l.toArray true).wp P Q a w := drawn F hm he hs C S h0 steps fin
theorem SV {l : List Oper} {C : List (Option Value)} {S : (Nat → Bool) → Act → World → Prop} {i : Nat} {v : Value} (D : ∀ (L : Nat → Bool) (a : Act) (w : World), Fr n a (depkv l C (Inv.waits o) ++ kv) ds → S L a w → Does P o a w (fun x w' => x = v ∧ w' = w))
    (hS : ∀ (L : Nat → Bool) (a : Act) (w : World) (x : Value), S L a w → S (Inv.add L i) (a.put o.dst x) w := by exact fun _ _ _ _ h => h) (hg : o.guard = none := by rfl) (hC : C[i]? = some (some v) := by rfl) : StepAt P n kv l C S o i ds :=
  fun L a w _ _ _ F hSt => ⟨true, wanted_none hg _, by
    simp only [if_true]
    refine (D L a w F hSt).mono ?_
    rintro x w' ⟨rfl, rfl⟩
    exact ⟨fun c hc => by rw [hC] at hc; exact Option.some.inj (Option.some.inj hc), hS L a _ _ hSt⟩⟩
theorem Sa {l : List Oper} {C : List (Option Value)} {S : (Nat → Bool) → Act → World → Prop} {i : Nat} {v : Value} (hg : o.guard = none := by rfl) (hC : C[i]? = some (some v) := by rfl)
    (D : ∀ (L : Nat → Bool) (a : Act) (w : World), Fr n a (depkv l C (Inv.waits o) ++ kv) ds → S L a w → Does P o a w (fun x w' => x = v ∧ w' = w) := by
      intro L a w F H
      first
      | exact Sx.d_move ‹Sx.Fr _ _ _ _› (Or.inl rfl) rfl
      | exact Sx.d_move ‹Sx.Fr _ _ _ _› (Or.inr rfl) rfl
      | exact Dv (afa ‹Sx.Fr _ _ _ _› rfl rfl) rfl
      | exact Sx.d_bin ‹Sx.Fr _ _ _ _› rfl rfl rfl (Sx.i_mul64 _ _)
      | exact Sx.d_bin ‹Sx.Fr _ _ _ _› rfl rfl rfl (Sx.i_add64 _ _)
      | exact Sx.d_extract ‹Sx.Fr _ _ _ _› rfl rfl rfl
      | exact Sx.d_bin ‹Sx.Fr _ _ _ _› rfl rfl rfl (Sx.i_eq rfl)
      | exact Sx.d_bin ‹Sx.Fr _ _ _ _› rfl rfl rfl (Sx.i_ne rfl)
      | exact Sx.d_bin ‹Sx.Fr _ _ _ _› rfl rfl rfl (Sx.i_lt rfl)
      | exact Sx.d_bin ‹Sx.Fr _ _ _ _› rfl rfl rfl (Sx.i_le rfl)
      | exact Sx.d_bin ‹Sx.Fr _ _ _ _› rfl rfl rfl (Sx.i_gt rfl)
      | exact Sx.d_bin ‹Sx.Fr _ _ _ _› rfl rfl rfl (Sx.i_ge rfl)
      | exact Sx.d_pickT ‹Sx.Fr _ _ _ _› rfl rfl rfl
      | exact Sx.d_pickF ‹Sx.Fr _ _ _ _› rfl rfl rfl
      | exact Sx.d_nil ‹Sx.Fr _ _ _ _› rfl rfl)
    (hS : ∀ (L : Nat → Bool) (a : Act) (w : World) (x : Value), S L a w → S (Inv.add L i) (a.put o.dst x) w := by exact fun _ _ _ _ h => h) : StepAt P n kv l C S o i ds := SV D hS hg hC
theorem SVg {l : List Oper} {C : List (Option Value)} {S : (Nat → Bool) → Act → World → Prop} {i j d : Nat} {b : Bool} {v : Value} (D : ∀ (L : Nat → Bool) (a : Act) (w : World), Fr n a (depkv l C (Inv.waits o) ++ kv) ds → S L a w → Does P o a w (fun x w' => x = v ∧ w' = w))
    (hS : ∀ (L : Nat → Bool) (a : Act) (w : World) (x : Value), S L a w → S (Inv.add L i) (a.put o.dst x) w := by exact fun _ _ _ _ h => h) (hg : o.guard = some (j, b) := by rfl) (hd : ((l[j]?).bind (·.dst)) = some d := by rfl) (hb : lk (depkv l C (Inv.waits o) ++ kv) d = some (.bool b) := by rfl) (hC : C[i]? = some (some v) := by rfl) : StepAt P n kv l C S o i ds :=
  fun L a w _ _ _ F hSt => ⟨true, wanted_on hg (guard_known (d := d) F (by simpa using hd) hb) rfl, by
    simp only [if_true]
    refine (D L a w F hSt).mono ?_
    rintro x w' ⟨rfl, rfl⟩
    exact ⟨fun c hc => by rw [hC] at hc; exact Option.some.inj (Option.some.inj hc), hS L a _ _ hSt⟩⟩
theorem SO {l : List Oper} {C : List (Option Value)} {S : (Nat → Bool) → Act → World → Prop} {i j d : Nat} {b want : Bool}
    (hS : ∀ (L : Nat → Bool) (a : Act) (w : World) (x : Value), S L a w → S (Inv.add L i) (a.put o.dst x) w := by exact fun _ _ _ _ h => h) (hg : o.guard = some (j, want) := by rfl) (hd : ((l[j]?).bind (·.dst)) = some d := by rfl) (hb : lk (depkv l C (Inv.waits o) ++ kv) d = some (.bool b) := by rfl) (hw : b = !want := by rfl) (hC : C[i]? = some (some undef) := by rfl) : StepAt P n kv l C S o i ds :=
  fun L a w _ _ _ F hSt => ⟨false, wanted_off hg (guard_known (d := d) F (by simpa using hd) hb) hw, by
    simp only [Bool.false_eq_true, if_false]
    exact ⟨fun c hc => by rw [hC] at hc; exact Option.some.inj (Option.some.inj hc), hS L a w undef hSt⟩⟩
end
end
namespace Wd
theorem lo_bit (x : BitVec 128) (i : Nat) (h : i < 64) : (lo x).getLsbD i = x.getLsbD i := by
  simp [lo, BitVec.getLsbD_setWidth, h]
theorem hi_bit (x : BitVec 128) (i : Nat) (h : i < 64) : (hi x).getLsbD i = x.getLsbD (64 + i) := by
  simp [hi, BitVec.getLsbD_setWidth, BitVec.getLsbD_ushiftRight, h]
theorem right_big_hi (a : BitVec 128) (n : Nat) (h : 64 ≤ n) : hi (a >>> n) = 0#64 := by
  apply BitVec.eq_of_getLsbD_eq
  intro i hi'
  rw [hi_bit _ _ hi', BitVec.getLsbD_ushiftRight, BitVec.getLsbD_of_ge _ _ (by omega)]; simp
theorem right_big_lo (a : BitVec 128) (n : Nat) (h : 64 ≤ n) : lo (a >>> n) = hi a >>> (min n 128 - 64) := by
  apply BitVec.eq_of_getLsbD_eq
  intro i hi'
  rw [lo_bit _ _ hi', BitVec.getLsbD_ushiftRight, BitVec.getLsbD_ushiftRight]
  by_cases hs : min n 128 - 64 + i < 64
  · rw [hi_bit _ _ hs]; congr 1; omega
  · rw [BitVec.getLsbD_of_ge _ _ (by omega), BitVec.getLsbD_of_ge _ _ (by omega)]
theorem right_hi (a : BitVec 128) (n : Nat) (h : n < 64) : hi (a >>> n) = hi a >>> n := by
  apply BitVec.eq_of_getLsbD_eq
  intro i hi'
  rw [hi_bit _ _ hi', BitVec.getLsbD_ushiftRight, BitVec.getLsbD_ushiftRight]
  by_cases hs : n + i < 64
  · rw [hi_bit _ _ hs]; congr 1; omega
  · rw [BitVec.getLsbD_of_ge _ _ (by omega), BitVec.getLsbD_of_ge _ _ (by omega)]
theorem right_lo (a : BitVec 128) (n : Nat) (h0 : 0 < n) (h : n < 64) : lo (a >>> n) = lo a >>> n ||| hi a <<< (64 - n) := by
  apply BitVec.eq_of_getLsbD_eq
  intro i hi'
  rw [lo_bit _ _ hi', BitVec.getLsbD_ushiftRight, BitVec.getLsbD_or, BitVec.getLsbD_ushiftRight, BitVec.getLsbD_shiftLeft]
  by_cases hs : n + i < 64
  · rw [lo_bit _ _ hs]
    have : decide (i < 64 - n) = true := by simp; omega
    simp [this]
  · rw [BitVec.getLsbD_of_ge (lo a) _ (by omega), hi_bit _ _ (by omega)]
    have : decide (i < 64 - n) = false := by simp; omega
    simp only [this, decide_eq_true hi', Bool.false_or, Bool.not_false, Bool.and_self, Bool.true_and]
    congr 1; omega
theorem left_big_lo (a : BitVec 128) (n : Nat) (h : 64 ≤ n) : lo (a <<< n) = 0#64 := by
  apply BitVec.eq_of_getLsbD_eq
  intro i hi'
  rw [lo_bit _ _ hi', BitVec.getLsbD_shiftLeft]
  have : decide (i < n) = true := by simp; omega
  simp [this]
theorem left_big_hi (a : BitVec 128) (n : Nat) (h : 64 ≤ n) : hi (a <<< n) = lo a <<< (min n 128 - 64) := by
  apply BitVec.eq_of_getLsbD_eq
  intro i hi'
  rw [hi_bit _ _ hi', BitVec.getLsbD_shiftLeft, BitVec.getLsbD_shiftLeft]
  by_cases hs : 64 + i < n
  · have e1 : decide (64 + i < n) = true := by simpa using hs
    have e2 : decide (i < min n 128 - 64) = true := by simp; omega
    simp [e1, e2]
  · have e1 : decide (64 + i < n) = false := by simpa using hs
    have e2 : decide (i < min n 128 - 64) = false := by simp; omega
    rw [lo_bit _ _ (by omega)]
    simp only [e1, e2, decide_eq_true hi', decide_eq_true (show 64 + i < 128 from by omega), Bool.not_false, Bool.and_self, Bool.true_and]
    congr 1; omega
theorem left_lo (a : BitVec 128) (n : Nat) (h : n < 64) : lo (a <<< n) = lo a <<< n := by
  apply BitVec.eq_of_getLsbD_eq
  intro i hi'
  rw [lo_bit _ _ hi', BitVec.getLsbD_shiftLeft, BitVec.getLsbD_shiftLeft, lo_bit _ _ (by omega)]
  simp [hi', show i < 128 from by omega]
theorem left_hi (a : BitVec 128) (n : Nat) (h0 : 0 < n) (h : n < 64) : hi (a <<< n) = hi a <<< n ||| lo a >>> (64 - n) := by
  apply BitVec.eq_of_getLsbD_eq
  intro i hi'
  rw [hi_bit _ _ hi', BitVec.getLsbD_shiftLeft, BitVec.getLsbD_or, BitVec.getLsbD_ushiftRight, BitVec.getLsbD_shiftLeft]
  have e0 : decide (64 + i < n) = false := by simp; omega
  have e1 : decide (64 + i < 128) = true := by simp; omega
  by_cases hs : i < n
  · have e2 : decide (i < n) = true := by simpa using hs
    rw [lo_bit _ _ (by omega)]
    simp only [e0, e1, e2, Bool.not_false, Bool.not_true, Bool.and_false, Bool.false_and, Bool.false_or, Bool.and_self, Bool.true_and]
    congr 1; omega
  · have e2 : decide (i < n) = false := by simpa using hs
    rw [hi_bit _ _ (by omega), BitVec.getLsbD_of_ge (lo a) _ (by omega)]
    simp only [e0, e1, e2, decide_eq_true hi', Bool.not_false, Bool.and_self, Bool.true_and, Bool.or_false]
    congr 1; omega
def bit (a : BitVec 128) (i : Nat) : Nat := (a.getLsbD i).toNat
theorem bit_is (a : BitVec 128) (i : Nat) : (lo (a >>> i)).toNat % 2 = bit a i := by
  have e : (lo (a >>> i)).getLsbD 0 = a.getLsbD i := by rw [lo_bit _ _ (by omega), BitVec.getLsbD_ushiftRight]; rfl
  unfold bit
  rw [← e, BitVec.getLsbD, Nat.testBit_zero]
  rcases Nat.mod_two_eq_zero_or_one (lo (a >>> i)).toNat with h | h <;> simp [h]
end Wd
section
@[go_sem] theorem Tryz.fld128_0 (h l : Value) (w : World) : (Instr.field 26 (.agg #[h, l]) 0).run Tryz.prog w = .ok h w := by kernel_rfl
@[go_sem] theorem Tryz.fld128_1 (h l : Value) (w : World) : (Instr.field 26 (.agg #[h, l]) 1).run Tryz.prog w = .ok l w := by kernel_rfl
namespace M64
theorem maskN (a : Nat) (ha : a < 18446744073709551616) : bits .and .u64 (a : Int) 4294967295 = ((a % 4294967296 : Nat) : Int) := by
  have h := bits_and_u64_nat a 4294967295 ha (by omega)
  have e : a &&& 4294967295 = a % 4294967296 := Nat.and_two_pow_sub_one_eq_mod a 32
  rw [e] at h
  exact h
theorem divN (a : Nat) : (a : Int) / 4294967296 = ((a / 4294967296 : Nat) : Int) := by omega
theorem mulN (a b : Nat) : (a : Int) * (b : Int) = ((a * b : Nat) : Int) := (Int.natCast_mul a b).symm
theorem addN (a b : Nat) : (a : Int) + (b : Int) = ((a + b : Nat) : Int) := (Int.natCast_add a b).symm
theorem wrapN (a : Nat) (ha : a < 18446744073709551616) : IntKind.u64.wrap (a : Int) = (a : Int) := by rw [IntKind.wrap_u64]; omega
theorem wrapM (a : Nat) : IntKind.u64.wrap (a : Int) = ((a % 18446744073709551616 : Nat) : Int) := by rw [IntKind.wrap_u64]; omega
end M64
set_option maxHeartbeats 1000000 in
theorem mul64_c (x y : Nat) (hx : x < 18446744073709551616) (hy : y < 18446744073709551616) (w : World) :
    Calls Tryz.prog 85 #[.int .u64 x, .int .u64 y] w fun e w' => e = .returned (.tuple #[.int .u64 ((x * y / 18446744073709551616 : Nat) : Int), .int .u64 ((x * y % 18446744073709551616 : Nat) : Int)]) ∧ w = w' := by
  obtain ⟨bd, bt, bw, hhi⟩ := Lib.mul64_hi x y hx hy
  have ba := Lib.half_mul_le (a := x / 4294967296) (b := y / 4294967296) (by omega) (by omega)
  have bb := Lib.half_mul_le (a := x / 4294967296) (b := y % 4294967296) (by omega) (by omega)
  have bc := Lib.half_mul_le (a := x % 4294967296) (b := y / 4294967296) (by omega) (by omega)
  have ba' : x / 4294967296 * (y / 4294967296) < 18446744073709551616 := by omega
  have bb' : x / 4294967296 * (y % 4294967296) < 18446744073709551616 := by omega
  have bc' : x % 4294967296 * (y / 4294967296) < 18446744073709551616 := by omega
  have bh1 : x / 4294967296 * (y / 4294967296) + (x / 4294967296 * (y % 4294967296) + x % 4294967296 * (y % 4294967296) / 4294967296) / 4294967296 < 18446744073709551616 := by omega
  have bh : x / 4294967296 * (y / 4294967296) + (x / 4294967296 * (y % 4294967296) + x % 4294967296 * (y % 4294967296) / 4294967296) / 4294967296 + ((x / 4294967296 * (y % 4294967296) + x % 4294967296 * (y % 4294967296) / 4294967296) % 4294967296 + x % 4294967296 * (y / 4294967296)) / 4294967296 < 18446744073709551616 := by omega
  go_enter Tryz.func85, Tryz.ntmps85
  go_wp2
  simp only [M64.maskN x hx, M64.maskN y hy, M64.divN, M64.mulN, M64.addN, M64.wrapN _ bd, M64.wrapN _ bb', M64.wrapN _ bt, M64.maskN _ bt, M64.wrapN _ bc', M64.wrapN _ bw, M64.wrapN _ ba', M64.wrapN _ bh1, M64.wrapN _ bh, M64.wrapM (x * y)]
  rw [hhi]
  go_ret2
  exact ⟨rfl, rfl⟩
theorem mulw_c (x y : BitVec 64) (w : World) :
    Calls Tryz.prog 85 #[.int .u64 x.toNat, .int .u64 y.toNat] w fun e w' => e = .returned (.tuple #[.int .u64 (Wd.hi (Wd.full x y)).toNat, .int .u64 (Wd.lo (Wd.full x y)).toNat]) ∧ w = w' :=
  Calls.val (mul64_c x.toNat y.toNat x.isLt y.isLt w) rfl (by rw [← Wd.full_hi, ← Wd.full_lo])
theorem wof_c (n : BitVec 64) (w : World) :
    Calls Tryz.prog 15 #[.int .u64 n.toNat] w fun e w' => e = .returned (.agg #[.int .u64 0, .int .u64 n.toNat]) ∧ Below w.heap.size w w' := by
  go_enter Tryz.func15, Tryz.ntmps15
  go_wp2
  refine bodyPost_ret (v := .agg #[.int .u64 0, .int .u64 n.toNat]) (by simp [results, Tryz.results15, go_sem, *]) rfl ?_
  exact ⟨rfl, by (repeat' (first | (with_reducible exact Below.refl _ _) | (with_reducible assumption) | (with_reducible refine Below.alloc ?_ ?_ _) | (with_reducible refine Below.drew ?_) | (with_reducible refine below_drewN ?_ _) | (with_reducible refine Below.setCell ?_ ?_ _) | (with_reducible refine Below.trans ?_ (Below.mono (by assumption) ?_)) | go_size))⟩
def Wd.of (n : BitVec 64) : BitVec 128 := Wd.mk 0#64 n
theorem wofV_c (n : BitVec 64) (w : World) :
    Calls Tryz.prog 15 #[.int .u64 n.toNat] w fun e w' => e = .returned (.agg #[.int .u64 (Wd.hi (Wd.of n)).toNat, .int .u64 (Wd.lo (Wd.of n)).toNat]) ∧ Below w.heap.size w w' :=
  Calls.val (wof_c n w) rfl (by rw [Wd.of, Wd.hi_mk, Wd.lo_mk]; rfl)
theorem wfull_c (x y : BitVec 64) (w : World) :
    Calls Tryz.prog 57 #[.int .u64 x.toNat, .int .u64 y.toNat] w fun e w' => e = .returned (.agg #[.int .u64 (Wd.hi (Wd.full x y)).toNat, .int .u64 (Wd.lo (Wd.full x y)).toNat]) ∧ Below w.heap.size w w' := by
  go_enter Tryz.func57, Tryz.ntmps57
  go_wp2_with fail
  refine (mulw_c _ _ _).mono ?_
  rintro e w' ⟨rfl, rfl⟩
  go_wp2
  refine bodyPost_ret (v := .agg #[.int .u64 (Wd.hi (Wd.full x y)).toNat, .int .u64 (Wd.lo (Wd.full x y)).toNat]) (by simp [results, Tryz.results57, go_sem, *]) rfl ?_
  exact ⟨rfl, by (repeat' (first | (with_reducible exact Below.refl _ _) | (with_reducible assumption) | (with_reducible refine Below.alloc ?_ ?_ _) | (with_reducible refine Below.drew ?_) | (with_reducible refine below_drewN ?_ _) | (with_reducible refine Below.setCell ?_ ?_ _) | (with_reducible refine Below.trans ?_ (Below.mono (by assumption) ?_)) | go_size))⟩
theorem wmulw (x y : BitVec 64) : IntKind.u64.wrap ((x.toNat : Int) * (y.toNat : Int)) = ((x * y).toNat : Int) := by rw [IntKind.wrap_u64, mul64]
theorem waddw (x y : BitVec 64) : IntKind.u64.wrap ((x.toNat : Int) + (y.toNat : Int)) = ((x + y).toNat : Int) := by rw [IntKind.wrap_u64, add64]
attribute [local go_sem] wmulw waddw
set_option maxRecDepth 100000 in
theorem wmul_c (a b : BitVec 128) (w : World) :
    Calls Tryz.prog 192 #[.agg #[.int .u64 (Wd.hi a).toNat, .int .u64 (Wd.lo a).toNat], .agg #[.int .u64 (Wd.hi b).toNat, .int .u64 (Wd.lo b).toNat]] w fun e w' => e = .returned (.agg #[.int .u64 (Wd.hi (a * b)).toNat, .int .u64 (Wd.lo (a * b)).toNat]) ∧ Below w.heap.size w w' := by
  have M := Lib.hid (Wd.mul_hi a b)
  go_enter Tryz.func192, Tryz.ntmps192
  go_wp2_with fail
  refine (wfull_c _ _ _).mono ?_
  rintro e w1 ⟨rfl, hb1⟩
  have hz1 := hb1.size; (try simp at hz1)
  have kc1w_heap_size_0 : w1.cell? ⟨w.heap.size, 0, none⟩ = some (.int .u64 (Wd.hi a).toNat) := (hb1.cell (p := ⟨w.heap.size, 0, none⟩) (by first | omega | (simp; done) | (simp; omega))).trans (by (first | (with_reducible assumption) | (repeat' (first | (with_reducible assumption) | (with_reducible refine keep_drew ?_) | (with_reducible refine keepf_drew ?_) | (with_reducible refine keep_alloc' (by first | omega | (simp; done) | (simp; omega)) ?_) | (with_reducible refine keepf_alloc' (by first | omega | (simp; done) | (simp; omega)) ?_) | (with_reducible refine keep_set (by dsimp only; omega) ?_) | (go_simp; done))))); have kf1w_heap_size_0 : w1.frozen? ⟨w.heap.size, 0, none⟩ = false := (hb1.frozen (p := ⟨w.heap.size, 0, none⟩) (by first | omega | (simp; done) | (simp; omega))).trans (by (first | (with_reducible assumption) | (repeat' (first | (with_reducible assumption) | (with_reducible refine keep_drew ?_) | (with_reducible refine keepf_drew ?_) | (with_reducible refine keep_alloc' (by first | omega | (simp; done) | (simp; omega)) ?_) | (with_reducible refine keepf_alloc' (by first | omega | (simp; done) | (simp; omega)) ?_) | (with_reducible refine keep_set (by dsimp only; omega) ?_) | (go_simp; done))))); have kc1w_heap_size_1 : w1.cell? ⟨w.heap.size, 1, none⟩ = some (.int .u64 (Wd.lo a).toNat) := (hb1.cell (p := ⟨w.heap.size, 1, none⟩) (by first | omega | (simp; done) | (simp; omega))).trans (by (first | (with_reducible assumption) | (repeat' (first | (with_reducible assumption) | (with_reducible refine keep_drew ?_) | (with_reducible refine keepf_drew ?_) | (with_reducible refine keep_alloc' (by first | omega | (simp; done) | (simp; omega)) ?_) | (with_reducible refine keepf_alloc' (by first | omega | (simp; done) | (simp; omega)) ?_) | (with_reducible refine keep_set (by dsimp only; omega) ?_) | (go_simp; done))))); have kf1w_heap_size_1 : w1.frozen? ⟨w.heap.size, 1, none⟩ = false := (hb1.frozen (p := ⟨w.heap.size, 1, none⟩) (by first | omega | (simp; done) | (simp; omega))).trans (by (first | (with_reducible assumption) | (repeat' (first | (with_reducible assumption) | (with_reducible refine keep_drew ?_) | (with_reducible refine keepf_drew ?_) | (with_reducible refine keep_alloc' (by first | omega | (simp; done) | (simp; omega)) ?_) | (with_reducible refine keepf_alloc' (by first | omega | (simp; done) | (simp; omega)) ?_) | (with_reducible refine keep_set (by dsimp only; omega) ?_) | (go_simp; done)))))
  have kc1w_heap_size___1_0 : w1.cell? ⟨w.heap.size + 1, 0, none⟩ = some (.int .u64 (Wd.hi b).toNat) := (hb1.cell (p := ⟨w.heap.size + 1, 0, none⟩) (by first | omega | (simp; done) | (simp; omega))).trans (by (first | (with_reducible assumption) | (repeat' (first | (with_reducible assumption) | (with_reducible refine keep_drew ?_) | (with_reducible refine keepf_drew ?_) | (with_reducible refine keep_alloc' (by first | omega | (simp; done) | (simp; omega)) ?_) | (with_reducible refine keepf_alloc' (by first | omega | (simp; done) | (simp; omega)) ?_) | (with_reducible refine keep_set (by dsimp only; omega) ?_) | (go_simp; done))))); have kf1w_heap_size___1_0 : w1.frozen? ⟨w.heap.size + 1, 0, none⟩ = false := (hb1.frozen (p := ⟨w.heap.size + 1, 0, none⟩) (by first | omega | (simp; done) | (simp; omega))).trans (by (first | (with_reducible assumption) | (repeat' (first | (with_reducible assumption) | (with_reducible refine keep_drew ?_) | (with_reducible refine keepf_drew ?_) | (with_reducible refine keep_alloc' (by first | omega | (simp; done) | (simp; omega)) ?_) | (with_reducible refine keepf_alloc' (by first | omega | (simp; done) | (simp; omega)) ?_) | (with_reducible refine keep_set (by dsimp only; omega) ?_) | (go_simp; done))))); have kc1w_heap_size___1_1 : w1.cell? ⟨w.heap.size + 1, 1, none⟩ = some (.int .u64 (Wd.lo b).toNat) := (hb1.cell (p := ⟨w.heap.size + 1, 1, none⟩) (by first | omega | (simp; done) | (simp; omega))).trans (by (first | (with_reducible assumption) | (repeat' (first | (with_reducible assumption) | (with_reducible refine keep_drew ?_) | (with_reducible refine keepf_drew ?_) | (with_reducible refine keep_alloc' (by first | omega | (simp; done) | (simp; omega)) ?_) | (with_reducible refine keepf_alloc' (by first | omega | (simp; done) | (simp; omega)) ?_) | (with_reducible refine keep_set (by dsimp only; omega) ?_) | (go_simp; done))))); have kf1w_heap_size___1_1 : w1.frozen? ⟨w.heap.size + 1, 1, none⟩ = false := (hb1.frozen (p := ⟨w.heap.size + 1, 1, none⟩) (by first | omega | (simp; done) | (simp; omega))).trans (by (first | (with_reducible assumption) | (repeat' (first | (with_reducible assumption) | (with_reducible refine keep_drew ?_) | (with_reducible refine keepf_drew ?_) | (with_reducible refine keep_alloc' (by first | omega | (simp; done) | (simp; omega)) ?_) | (with_reducible refine keepf_alloc' (by first | omega | (simp; done) | (simp; omega)) ?_) | (with_reducible refine keep_set (by dsimp only; omega) ?_) | (go_simp; done)))))
  have kc1w_heap_size___2_0 : w1.cell? ⟨w.heap.size + 2, 0, none⟩ = some (.int .u64 0) := (hb1.cell (p := ⟨w.heap.size + 2, 0, none⟩) (by first | omega | (simp; done) | (simp; omega))).trans (by (first | (with_reducible assumption) | (repeat' (first | (with_reducible assumption) | (with_reducible refine keep_drew ?_) | (with_reducible refine keepf_drew ?_) | (with_reducible refine keep_alloc' (by first | omega | (simp; done) | (simp; omega)) ?_) | (with_reducible refine keepf_alloc' (by first | omega | (simp; done) | (simp; omega)) ?_) | (with_reducible refine keep_set (by dsimp only; omega) ?_) | (go_simp; done))))); have kf1w_heap_size___2_0 : w1.frozen? ⟨w.heap.size + 2, 0, none⟩ = false := (hb1.frozen (p := ⟨w.heap.size + 2, 0, none⟩) (by first | omega | (simp; done) | (simp; omega))).trans (by (first | (with_reducible assumption) | (repeat' (first | (with_reducible assumption) | (with_reducible refine keep_drew ?_) | (with_reducible refine keepf_drew ?_) | (with_reducible refine keep_alloc' (by first | omega | (simp; done) | (simp; omega)) ?_) | (with_reducible refine keepf_alloc' (by first | omega | (simp; done) | (simp; omega)) ?_) | (with_reducible refine keep_set (by dsimp only; omega) ?_) | (go_simp; done))))); have kc1w_heap_size___2_1 : w1.cell? ⟨w.heap.size + 2, 1, none⟩ = some (.int .u64 0) := (hb1.cell (p := ⟨w.heap.size + 2, 1, none⟩) (by first | omega | (simp; done) | (simp; omega))).trans (by (first | (with_reducible assumption) | (repeat' (first | (with_reducible assumption) | (with_reducible refine keep_drew ?_) | (with_reducible refine keepf_drew ?_) | (with_reducible refine keep_alloc' (by first | omega | (simp; done) | (simp; omega)) ?_) | (with_reducible refine keepf_alloc' (by first | omega | (simp; done) | (simp; omega)) ?_) | (with_reducible refine keep_set (by dsimp only; omega) ?_) | (go_simp; done))))); have kf1w_heap_size___2_1 : w1.frozen? ⟨w.heap.size + 2, 1, none⟩ = false := (hb1.frozen (p := ⟨w.heap.size + 2, 1, none⟩) (by first | omega | (simp; done) | (simp; omega))).trans (by (first | (with_reducible assumption) | (repeat' (first | (with_reducible assumption) | (with_reducible refine keep_drew ?_) | (with_reducible refine keepf_drew ?_) | (with_reducible refine keep_alloc' (by first | omega | (simp; done) | (simp; omega)) ?_) | (with_reducible refine keepf_alloc' (by first | omega | (simp; done) | (simp; omega)) ?_) | (with_reducible refine keep_set (by dsimp only; omega) ?_) | (go_simp; done)))))
  go_wp2
  refine bodyPost_ret (v := .agg #[.int .u64 (Wd.hi (a * b)).toNat, .int .u64 (Wd.lo (a * b)).toNat]) (by simp [results, Tryz.results192, go_sem, *]; exact ⟨by rw [mul64, mul64, waddw, waddw, M.out], by rw [Wd.mul_lo]⟩) rfl ?_
  exact ⟨rfl, by (repeat' (first | (with_reducible exact Below.refl _ _) | (with_reducible assumption) | (with_reducible refine Below.alloc ?_ ?_ _) | (with_reducible refine Below.drew ?_) | (with_reducible refine below_drewN ?_ _) | (with_reducible refine Below.setCell ?_ ?_ _) | (with_reducible refine Below.trans ?_ (Below.mono (by assumption) ?_)) | go_size))⟩
def run_add (P : Program) (f : FuncId) : Prop := ∀ (x y c : Nat) (_ : c ≤ 1) (w : World),
    (callFunc f #[.int .u64 x, .int .u64 y, .int .u64 c]).run P w = .ok (.value (.tuple #[.int .u64 (((x + y + c) % 18446744073709551616 : Nat) : Int), .int .u64 (((x + y + c) / 18446744073709551616 : Nat) : Int)])) w
theorem radd : run_add Tryz.prog 40 := by
  intro x y c hc w
  rw [run_callFunc_extern Tryz.func40 (by kernel_rfl) (by kernel_rfl) (by kernel_rfl) (e := add64Entry) (by kernel_rfl), run_add64 x y c (by omega) (by omega) (by omega) (by omega)]
  simp only [Result.andThen]
  congr 5 <;> omega
theorem radd0 (a b : BitVec 128) (w : World) : (callFunc 40 #[.int .u64 (Wd.lo a).toNat, .int .u64 (Wd.lo b).toNat, .int .u64 0]).run Tryz.prog w = .ok (.value (.tuple #[.int .u64 (Wd.lo (a + b)).toNat, .int .u64 (Wd.cy a b : Nat)])) w := by
  have h := radd (Wd.lo a).toNat (Wd.lo b).toNat 0 (by omega) w
  rw [Nat.add_zero, Wd.add_lo] at h
  exact h
theorem radd1 (a b : BitVec 128) (w : World) : (callFunc 40 #[.int .u64 (Wd.hi a).toNat, .int .u64 (Wd.hi b).toNat, .int .u64 (Wd.cy a b : Nat)]).run Tryz.prog w = .ok (.value (.tuple #[.int .u64 (Wd.hi (a + b)).toNat, .int .u64 (Wd.cy2 a b : Nat)])) w := by
  have h := radd (Wd.hi a).toNat (Wd.hi b).toNat (Wd.cy a b) (Wd.cy_le a b) w
  rw [Wd.add_hi] at h
  exact h
set_option maxRecDepth 100000 in
theorem wadd_c (a b : BitVec 128) (w : World) :
    Calls Tryz.prog 14 #[.agg #[.int .u64 (Wd.hi a).toNat, .int .u64 (Wd.lo a).toNat], .agg #[.int .u64 (Wd.hi b).toNat, .int .u64 (Wd.lo b).toNat]] w fun e w' => e = .returned (.tuple #[.agg #[.int .u64 (Wd.hi (a + b)).toNat, .int .u64 (Wd.lo (a + b)).toNat], .bool (Wd.over a b)]) ∧ Below w.heap.size w w' := by
  have r0 := radd0 a b
  have r1 := radd1 a b
  have ho := Wd.add_over a b
  go_enter Tryz.func14, Tryz.ntmps14
  go_wp2_with (first | simp only [r0] | simp only [r1])
  refine bodyPost_ret (v := .tuple #[.agg #[.int .u64 (Wd.hi (a + b)).toNat, .int .u64 (Wd.lo (a + b)).toNat], .bool (Wd.over a b)]) (by simp [results, Tryz.results14, go_sem, *]) rfl ?_
  exact ⟨rfl, by (repeat' (first | (with_reducible exact Below.refl _ _) | (with_reducible assumption) | (with_reducible refine Below.alloc ?_ ?_ _) | (with_reducible refine Below.drew ?_) | (with_reducible refine below_drewN ?_ _) | (with_reducible refine Below.setCell ?_ ?_ _) | (with_reducible refine Below.trans ?_ (Below.mono (by assumption) ?_)) | go_size))⟩
def subEntry : Array Value → Sem Value := fun args => do
  let (x, y, b) ← Extern.MathBitsCarry.three "Sub64" args
  pure (Extern.MathBitsCarry.pair ((x + Extern.MathBitsCarry.m64 - y - b) % Extern.MathBitsCarry.m64) (if x < y + b then 1 else 0))
theorem rsub (x y b : Nat) (hb : b ≤ 1) (w : World) :
    (callFunc 161 #[.int .u64 x, .int .u64 y, .int .u64 b]).run Tryz.prog w = .ok (.value (.tuple #[.int .u64 (((x + 18446744073709551616 - y - b) % 18446744073709551616 : Nat) : Int), .int .u64 ((if x < y + b then 1 else 0 : Nat) : Int)])) w := by
  rw [run_callFunc_extern Tryz.func161 (by kernel_rfl) (by kernel_rfl) (by kernel_rfl) (e := subEntry) (by kernel_rfl)]
  have : b = 0 ∨ b = 1 := by omega
  rcases this with rfl | rfl <;> rfl
theorem rsub0 (a b : BitVec 128) (w : World) : (callFunc 161 #[.int .u64 (Wd.lo a).toNat, .int .u64 (Wd.lo b).toNat, .int .u64 0]).run Tryz.prog w = .ok (.value (.tuple #[.int .u64 (Wd.lo (a - b)).toNat, .int .u64 (Wd.bw a b : Nat)])) w := by
  have h := rsub (Wd.lo a).toNat (Wd.lo b).toNat 0 (by omega) w
  rw [Nat.sub_zero, Wd.sub_lo, Nat.add_zero] at h
  exact h
theorem rsub1 (a b : BitVec 128) (w : World) : (callFunc 161 #[.int .u64 (Wd.hi a).toNat, .int .u64 (Wd.hi b).toNat, .int .u64 (Wd.bw a b : Nat)]).run Tryz.prog w = .ok (.value (.tuple #[.int .u64 (Wd.hi (a - b)).toNat, .int .u64 (Wd.bw2 a b : Nat)])) w := by
  have h := rsub (Wd.hi a).toNat (Wd.hi b).toNat (Wd.bw a b) (Wd.bw_le a b) w
  rw [Wd.sub_hi] at h
  exact h
set_option maxRecDepth 100000 in
theorem wsub_c (a b : BitVec 128) (w : World) :
    Calls Tryz.prog 155 #[.agg #[.int .u64 (Wd.hi a).toNat, .int .u64 (Wd.lo a).toNat], .agg #[.int .u64 (Wd.hi b).toNat, .int .u64 (Wd.lo b).toNat]] w fun e w' => e = .returned (.tuple #[.agg #[.int .u64 (Wd.hi (a - b)).toNat, .int .u64 (Wd.lo (a - b)).toNat], .bool (Wd.less a b)]) ∧ Below w.heap.size w w' := by
  have r0 := rsub0 a b
  have r1 := rsub1 a b
  have ho := Wd.sub_less a b
  go_enter Tryz.func155, Tryz.ntmps155
  go_wp2_with (first | simp only [r0] | simp only [r1])
  refine bodyPost_ret (v := .tuple #[.agg #[.int .u64 (Wd.hi (a - b)).toNat, .int .u64 (Wd.lo (a - b)).toNat], .bool (Wd.less a b)]) (by simp [results, Tryz.results155, go_sem, *]) rfl ?_
  exact ⟨rfl, by (repeat' (first | (with_reducible exact Below.refl _ _) | (with_reducible assumption) | (with_reducible refine Below.alloc ?_ ?_ _) | (with_reducible refine Below.drew ?_) | (with_reducible refine below_drewN ?_ _) | (with_reducible refine Below.setCell ?_ ?_ _) | (with_reducible refine Below.trans ?_ (Below.mono (by assumption) ?_)) | go_size))⟩
end
theorem shrk (a : BitVec 64) (n : Nat) : ((a.toNat : Int) / 2 ^ n) = ((a >>> n).toNat : Int) := by
  rw [show ((2 : Int) ^ n) = ((2 ^ n : Nat) : Int) from by simp, shr64]
theorem shlk (a : BitVec 64) (n : Nat) : IntKind.u64.wrap ((a.toNat : Int) * 2 ^ n) = ((a <<< n).toNat : Int) := by
  rw [IntKind.wrap_u64, show ((2 : Int) ^ n) = ((2 ^ n : Nat) : Int) from by simp, shl64]
theorem wright_c0 (a : BitVec 128) (n : Int) (h0 : n ≤ 0) (w : World) :
    Calls Tryz.prog 125 #[.agg #[.int .u64 (Wd.hi a).toNat, .int .u64 (Wd.lo a).toNat], .int .i64 n] w fun e w' => e = .returned (.agg #[.int .u64 (Wd.hi a).toNat, .int .u64 (Wd.lo a).toNat]) ∧ Below w.heap.size w w' := by
  go_enter Tryz.func125, Tryz.ntmps125
  go_wp2
  refine bodyPost_ret (v := .agg #[.int .u64 (Wd.hi a).toNat, .int .u64 (Wd.lo a).toNat]) (by simp [results, Tryz.results125, go_sem]) rfl ?_
  exact ⟨rfl, by (repeat' (first | (with_reducible exact Below.refl _ _) | (with_reducible assumption) | (with_reducible refine Below.alloc ?_ ?_ _) | (with_reducible refine Below.drew ?_) | (with_reducible refine below_drewN ?_ _) | (with_reducible refine Below.setCell ?_ ?_ _) | (with_reducible refine Below.trans ?_ (Below.mono (by assumption) ?_)) | go_size))⟩
set_option maxRecDepth 100000 in
theorem wright_c1 (a : BitVec 128) (k : Nat) (h1 : 64 ≤ k) (hm : (k : Int) ≤ 9223372036854775807) (w : World) :
    Calls Tryz.prog 125 #[.agg #[.int .u64 (Wd.hi a).toNat, .int .u64 (Wd.lo a).toNat], .int .i64 k] w fun e w' => e = .returned (.agg #[.int .u64 0, .int .u64 (Wd.hi a >>> (min k 128 - 64)).toNat]) ∧ Below w.heap.size w w' := by
  by_cases h2 : k ≤ 128
  · have G := Lib.hid (show (Wd.hi a >>> (min k 128 - 64)) = Wd.hi a >>> (k - 64) from by rw [Nat.min_eq_left h2])
    rw [G.out]
    have s0 : (0 : Int) ≤ (k : Int) - 64 := by omega
    have s1 : (k : Int) - 64 ≤ 64 := by omega
    go_enter Tryz.func125, Tryz.ntmps125
    go_wp2
    refine bodyPost_ret (v := .agg #[.int .u64 0, .int .u64 (Wd.hi a >>> (k - 64)).toNat]) (by rw [← shrk]; simp [results, Tryz.results125, go_sem]) rfl ?_
    exact ⟨rfl, by (repeat' (first | (with_reducible exact Below.refl _ _) | (with_reducible assumption) | (with_reducible refine Below.alloc ?_ ?_ _) | (with_reducible refine Below.drew ?_) | (with_reducible refine below_drewN ?_ _) | (with_reducible refine Below.setCell ?_ ?_ _) | (with_reducible refine Below.trans ?_ (Below.mono (by assumption) ?_)) | go_size))⟩
  · have G := Lib.hid (show (Wd.hi a >>> (min k 128 - 64)) = 0#64 from by
      rw [Nat.min_eq_right (by omega)]
      apply BitVec.eq_of_getLsbD_eq
      intro i _
      rw [BitVec.getLsbD_ushiftRight, BitVec.getLsbD_of_ge _ _ (by omega)]; simp)
    rw [G.out]
    have e : (Wd.hi a).toNat / 18446744073709551616 = 0 := Nat.div_eq_of_lt (Wd.hi a).isLt
    go_enter Tryz.func125, Tryz.ntmps125
    go_wp2
    refine bodyPost_ret (v := .agg #[.int .u64 0, .int .u64 0]) (by simp [results, Tryz.results125, go_sem]; omega) rfl ?_
    exact ⟨rfl, by (repeat' (first | (with_reducible exact Below.refl _ _) | (with_reducible assumption) | (with_reducible refine Below.alloc ?_ ?_ _) | (with_reducible refine Below.drew ?_) | (with_reducible refine below_drewN ?_ _) | (with_reducible refine Below.setCell ?_ ?_ _) | (with_reducible refine Below.trans ?_ (Below.mono (by assumption) ?_)) | go_size))⟩
set_option maxRecDepth 100000 in
theorem wright_c2 (a : BitVec 128) (k : Nat) (h0 : 0 < k) (h1 : k < 64) (w : World) :
    Calls Tryz.prog 125 #[.agg #[.int .u64 (Wd.hi a).toNat, .int .u64 (Wd.lo a).toNat], .int .i64 k] w fun e w' => e = .returned (.agg #[.int .u64 (Wd.hi a >>> k).toNat, .int .u64 (Wd.lo a >>> k ||| Wd.hi a <<< (64 - k)).toNat]) ∧ Below w.heap.size w w' := by
  have s0 : (0 : Int) ≤ (k : Int) := by omega
  have s1 : (k : Int) < 64 := by omega
  have s2 : (0 : Int) ≤ 64 - (k : Int) := by omega
  have s3 : 64 - (k : Int) < 64 := by omega
  have s4 : IntKind.i64.wrap (64 - (k : Int)) = 64 - (k : Int) := by simp [IntKind.wrap, IntKind.signed, IntKind.bits]; omega
  have s5 : (64 - (k : Int)).toNat = 64 - k := by omega
  go_enter Tryz.func125, Tryz.ntmps125
  go_wp2
  go_region
  all_goals go_wp2
  all_goals
    refine bodyPost_ret (v := .agg #[.int .u64 (Wd.hi a >>> k).toNat, .int .u64 (Wd.lo a >>> k ||| Wd.hi a <<< (64 - k)).toNat]) (by rw [← or64, ← shlk, ← shrk, ← shrk]; simp [results, Tryz.results125, go_sem, *]) rfl ?_
    exact ⟨rfl, by (repeat' (first | (with_reducible exact Below.refl _ _) | (with_reducible assumption) | (with_reducible refine Below.alloc ?_ ?_ _) | (with_reducible refine Below.drew ?_) | (with_reducible refine below_drewN ?_ _) | (with_reducible refine Below.setCell ?_ ?_ _) | (with_reducible refine Below.trans ?_ (Below.mono (by assumption) ?_)) | go_size))⟩
theorem wright_c (a : BitVec 128) (n : Int) (hm : n ≤ 9223372036854775807) (w : World) :
    Calls Tryz.prog 125 #[.agg #[.int .u64 (Wd.hi a).toNat, .int .u64 (Wd.lo a).toNat], .int .i64 n] w fun e w' => e = .returned (.agg #[.int .u64 (Wd.hi (a >>> n.toNat)).toNat, .int .u64 (Wd.lo (a >>> n.toNat)).toNat]) ∧ Below w.heap.size w w' := by
  by_cases h0 : n ≤ 0
  · refine Calls.val (wright_c0 a n h0 w) rfl ?_
    rw [show n.toNat = 0 from by omega, BitVec.ushiftRight_zero]
  · obtain ⟨k, rfl⟩ := Int.eq_ofNat_of_zero_le (show 0 ≤ n from by omega)
    rw [show ((k : Int)).toNat = k from by omega]
    by_cases h1 : 64 ≤ k
    · refine Calls.val (wright_c1 a k h1 hm w) rfl ?_
      rw [Wd.right_big_hi a k h1, Wd.right_big_lo a k h1]; rfl
    · refine Calls.val (wright_c2 a k (by omega) (by omega) w) rfl ?_
      rw [Wd.right_hi a k (by omega), Wd.right_lo a k (by omega) (by omega)]
theorem and1w (x : BitVec 64) : bits .and .u64 (x.toNat : Int) 1 = (x.toNat : Int) % 2 := and_one_u64 _ (by omega) (by have := x.isLt; omega)
theorem wbit_c (a : BitVec 128) (i : Nat) (h : (i : Int) ≤ 9223372036854775807) (w : World) :
    Calls Tryz.prog 232 #[.agg #[.int .u64 (Wd.hi a).toNat, .int .u64 (Wd.lo a).toNat], .int .i64 i] w fun e w' => e = .returned (.int .i64 (Wd.bit a i : Nat)) ∧ Below w.heap.size w w' := by
  have h0 : ¬ (i : Int) < 0 := by omega
  have B := Lib.hid (Wd.bit_is a i)
  have D1 := Lib.hid (show ∀ w, Calls Tryz.prog 125 #[.agg #[.int .u64 (Wd.hi a).toNat, .int .u64 (Wd.lo a).toNat], .int .i64 i] w fun e w' => e = .returned (.agg #[.int .u64 (Wd.hi (a >>> i)).toNat, .int .u64 (Wd.lo (a >>> i)).toNat]) ∧ Below w.heap.size w w' from by intro w; exact Calls.val (wright_c a i h w) rfl (by rw [show ((i : Int)).toNat = i from by omega]))
  obtain ⟨y, hy⟩ : ∃ y, Wd.lo (a >>> i) = y := ⟨_, rfl⟩
  rw [hy] at B D1
  have b1 := and1w y
  have b2 : IntKind.i64.wrap ((y.toNat : Int) % 2) = (y.toNat : Int) % 2 := by rw [IntKind.wrap_i64]; omega
  clear hy
  go_enter Tryz.func232, Tryz.ntmps232
  go_wp2_with fail
  refine (D1.out _).mono ?_
  rintro e w1 ⟨rfl, hb1⟩
  go_wp2
  go_ret
  exact ⟨ret_int (by have := B.out; omega), by (repeat' (first | (with_reducible exact Below.refl _ _) | (with_reducible assumption) | (with_reducible refine Below.alloc ?_ ?_ _) | (with_reducible refine Below.drew ?_) | (with_reducible refine below_drewN ?_ _) | (with_reducible refine Below.setCell ?_ ?_ _) | (with_reducible refine Below.trans ?_ (Below.mono (by assumption) ?_)) | go_size))⟩
theorem one_3 : Sx.oneT Tryz.prog 3 := ⟨fun _ => by kernel_rfl, by kernel_rfl⟩
instance : Inhabited (Sx.OneC Tryz.prog 3) := ⟨⟨one_3⟩⟩
theorem sz_3 : (Tryz.prog.info? 3).map (·.size) = some 1 := by kernel_rfl
theorem one_4 : Sx.oneT Tryz.prog 4 := ⟨fun _ => by kernel_rfl, by kernel_rfl⟩
instance : Inhabited (Sx.OneC Tryz.prog 4) := ⟨⟨one_4⟩⟩
theorem sz_4 : (Tryz.prog.info? 4).map (·.size) = some 1 := by kernel_rfl
theorem one_5 : Sx.oneT Tryz.prog 5 := ⟨fun _ => by kernel_rfl, by kernel_rfl⟩
instance : Inhabited (Sx.OneC Tryz.prog 5) := ⟨⟨one_5⟩⟩
theorem sz_5 : (Tryz.prog.info? 5).map (·.size) = some 1 := by kernel_rfl
theorem one_22 : Sx.oneT Tryz.prog 22 := ⟨fun _ => by kernel_rfl, by kernel_rfl⟩
instance : Inhabited (Sx.OneC Tryz.prog 22) := ⟨⟨one_22⟩⟩
theorem sz_22 : (Tryz.prog.info? 22).map (·.size) = some 1 := by kernel_rfl
theorem rw_26 : Sx.rowT Tryz.prog 26 2 := ⟨by kernel_rfl, by kernel_rfl⟩
instance : Inhabited (Sx.RowC Tryz.prog 26) := ⟨⟨2, rw_26⟩⟩
theorem sz_26 : (Tryz.prog.info? 26).map (·.size) = some 2 := by kernel_rfl
abbrev L1 : List Value := [uN (Wd.hi 0#128), uN (Wd.lo 0#128)]
abbrev L2 : Value := .agg #[uN (Wd.hi 0#128), uN (Wd.lo 0#128)]
theorem zero_26 : Sx.zeroIs Tryz.prog 26 L1 := ⟨L2, rfl, fun _ => by kernel_rfl⟩
instance fa_26_0 : Inhabited (Sx.FaC Tryz.prog 26 0) := ⟨⟨0, fun _ _ _ => by kernel_rfl⟩⟩
instance fa_26_1 : Inhabited (Sx.FaC Tryz.prog 26 1) := ⟨⟨1, fun _ _ _ => by kernel_rfl⟩⟩
theorem rw_316 : Sx.rowT Tryz.prog 316 4 := ⟨by kernel_rfl, by kernel_rfl⟩
instance : Inhabited (Sx.RowC Tryz.prog 316) := ⟨⟨4, rw_316⟩⟩
theorem sz_316 : (Tryz.prog.info? 316).map (·.size) = some 4 := by kernel_rfl
abbrev L3 : List Value := [uN (Wd.hi 0#128), uN (Wd.lo 0#128), uN (Wd.hi 0#128), uN (Wd.lo 0#128)]
abbrev L4 : Value := .agg #[uN (Wd.hi 0#128), uN (Wd.lo 0#128), uN (Wd.hi 0#128), uN (Wd.lo 0#128)]
theorem zero_316 : Sx.zeroIs Tryz.prog 316 L3 := ⟨L4, rfl, fun _ => by kernel_rfl⟩
instance fa_316_0 : Inhabited (Sx.FaC Tryz.prog 316 0) := ⟨⟨0, fun _ _ _ => by kernel_rfl⟩⟩
instance fa_316_1 : Inhabited (Sx.FaC Tryz.prog 316 1) := ⟨⟨2, fun _ _ _ => by kernel_rfl⟩⟩
theorem one_37 : Sx.oneT Tryz.prog 37 := ⟨fun _ => by kernel_rfl, by kernel_rfl⟩
instance : Inhabited (Sx.OneC Tryz.prog 37) := ⟨⟨one_37⟩⟩
theorem sz_37 : (Tryz.prog.info? 37).map (·.size) = some 1 := by kernel_rfl
theorem zero_37 : Sx.zeroIs Tryz.prog 37 [iI 0] := ⟨iI 0, rfl, fun _ => by kernel_rfl⟩
theorem rw_28 : Sx.rowT Tryz.prog 28 4 := ⟨by kernel_rfl, by kernel_rfl⟩
instance : Inhabited (Sx.RowC Tryz.prog 28) := ⟨⟨4, rw_28⟩⟩
theorem sz_28 : (Tryz.prog.info? 28).map (·.size) = some 4 := by kernel_rfl
theorem zero_28 : Sx.zeroIs Tryz.prog 28 L3 := ⟨L4, rfl, fun _ => by kernel_rfl⟩
instance fa_28_0 : Inhabited (Sx.FaC Tryz.prog 28 0) := ⟨⟨0, fun _ _ _ => by kernel_rfl⟩⟩
instance fa_28_1 : Inhabited (Sx.FaC Tryz.prog 28 1) := ⟨⟨2, fun _ _ _ => by kernel_rfl⟩⟩
theorem one_65 : Sx.oneT Tryz.prog 65 := ⟨fun _ => by kernel_rfl, by kernel_rfl⟩
instance : Inhabited (Sx.OneC Tryz.prog 65) := ⟨⟨one_65⟩⟩
theorem sz_65 : (Tryz.prog.info? 65).map (·.size) = some 1 := by kernel_rfl
theorem el_65 : Sx.elemT Tryz.prog 65 22 1 8 := ⟨by kernel_rfl, by kernel_rfl⟩
theorem one_29 : Sx.oneT Tryz.prog 29 := ⟨fun _ => by kernel_rfl, by kernel_rfl⟩
instance : Inhabited (Sx.OneC Tryz.prog 29) := ⟨⟨one_29⟩⟩
theorem rw_31 : Sx.rowT Tryz.prog 31 2 := ⟨by kernel_rfl, by kernel_rfl⟩
instance : Inhabited (Sx.RowC Tryz.prog 31) := ⟨⟨2, rw_31⟩⟩
theorem rw_33 : Sx.rowT Tryz.prog 33 5 := ⟨by kernel_rfl, by kernel_rfl⟩
instance : Inhabited (Sx.RowC Tryz.prog 33) := ⟨⟨5, rw_33⟩⟩
theorem sz_33 : (Tryz.prog.info? 33).map (·.size) = some 5 := by kernel_rfl
abbrev L5 : List Value := [uN (Wd.hi 0#128), uN (Wd.lo 0#128), iW 0, iW 0, bF]
theorem zero_33 : Sx.zeroIs Tryz.prog 33 L5 := ⟨.agg #[uN (Wd.hi 0#128), uN (Wd.lo 0#128), iW 0, iW 0, bF], rfl, fun _ => by kernel_rfl⟩
instance fa_33_0 : Inhabited (Sx.FaC Tryz.prog 33 0) := ⟨⟨0, fun _ _ _ => by kernel_rfl⟩⟩
instance fa_33_1 : Inhabited (Sx.FaC Tryz.prog 33 1) := ⟨⟨2, fun _ _ _ => by kernel_rfl⟩⟩
instance fa_33_2 : Inhabited (Sx.FaC Tryz.prog 33 2) := ⟨⟨4, fun _ _ _ => by kernel_rfl⟩⟩
theorem sz_325 : (Tryz.prog.info? 325).map (·.size) = some 4 := by kernel_rfl
theorem zero_325 : Sx.zeroIs Tryz.prog 325 [iW 0, iW 0, iW 0, iW 0] := ⟨.agg #[iW 0, iW 0, iW 0, iW 0], rfl, fun _ => by kernel_rfl⟩
theorem el_54 : Sx.elemT Tryz.prog 54 3 1 8 := ⟨by kernel_rfl, by kernel_rfl⟩
theorem rw_23 : Sx.rowT Tryz.prog 23 4 := ⟨by kernel_rfl, by kernel_rfl⟩
instance : Inhabited (Sx.RowC Tryz.prog 23) := ⟨⟨4, rw_23⟩⟩
theorem zero_23 : Sx.zeroIs Tryz.prog 23 [iU 0, iU 0, iU 0, iU 0] := ⟨.agg #[iU 0, iU 0, iU 0, iU 0], rfl, fun _ => by kernel_rfl⟩
theorem if_253 : If 253 := fun _ _ => by kernel_rfl
theorem if_257 : If 257 := fun _ _ => by kernel_rfl
theorem if_254 : If 254 := fun _ _ => by kernel_rfl
theorem if_256 : If 256 := fun _ _ => by kernel_rfl
theorem if_14 : If 14 := fun _ _ => by kernel_rfl
theorem if_57 : If 57 := fun _ _ => by kernel_rfl
theorem if_15 : If 15 := fun _ _ => by kernel_rfl
theorem if_232 : If 232 := fun _ _ => by kernel_rfl
theorem if_192 : If 192 := fun _ _ => by kernel_rfl
theorem if_252 : If 252 := fun _ _ => by kernel_rfl
theorem if_251 : If 251 := fun _ _ => by kernel_rfl
theorem if_250 : If 250 := fun _ _ => by kernel_rfl
theorem if_249 : If 249 := fun _ _ => by kernel_rfl
theorem if_255 : If 255 := fun _ _ => by kernel_rfl
theorem if_269 : If 269 := fun _ _ => by kernel_rfl
theorem if_268 : If 268 := fun _ _ => by kernel_rfl
theorem if_267 : If 267 := fun _ _ => by kernel_rfl
theorem if_271 : If 271 := fun _ _ => by kernel_rfl
theorem if_155 : If 155 := fun _ _ => by kernel_rfl
theorem if_125 : If 125 := fun _ _ => by kernel_rfl
theorem if_270 : If 270 := fun _ _ => by kernel_rfl
theorem if_272 : If 272 := fun _ _ => by kernel_rfl
theorem one_66 : Sx.oneT Tryz.prog 66 := ⟨fun _ => by kernel_rfl, by kernel_rfl⟩
instance : Inhabited (Sx.OneC Tryz.prog 66) := ⟨⟨one_66⟩⟩
theorem sz_66 : (Tryz.prog.info? 66).map (·.size) = some 1 := by kernel_rfl
theorem zero_66 : Sx.zeroIs Tryz.prog 66 [nS] := ⟨nS, rfl, fun _ => by kernel_rfl⟩
theorem el_66 : Sx.elemT Tryz.prog 66 5 1 1 := ⟨by kernel_rfl, by kernel_rfl⟩
theorem if_42 : If 42 := fun _ _ => by kernel_rfl
theorem if_16 : If 16 := fun _ _ => by kernel_rfl
theorem if_136 : If 136 := fun _ _ => by kernel_rfl
theorem if_144 : If 144 := fun _ _ => by kernel_rfl
theorem if_90 : If 90 := fun _ _ => by kernel_rfl
theorem if_41 : If 41 := fun _ _ => by kernel_rfl
theorem if_156 : If 156 := fun _ _ => by kernel_rfl
theorem if_69 : If 69 := fun _ _ => by kernel_rfl
def Wd.eqb (a b : BitVec 128) : Bool := decide (a = b)
theorem eqb_nat (a b : BitVec 128) : Wd.eqb a b = (((Wd.hi a).toNat : Int) == ((Wd.hi b).toNat : Int) && ((Wd.lo a).toNat : Int) == ((Wd.lo b).toNat : Int)) := by
  unfold Wd.eqb
  by_cases h : a = b
  · subst h; simp
  · rw [decide_eq_false h]
    by_cases h1 : Wd.hi a = Wd.hi b
    · have h2 : Wd.lo a ≠ Wd.lo b := fun e => h (Wd.ext h1 e)
      have : (((Wd.lo a).toNat : Int) == ((Wd.lo b).toNat : Int)) = false := beq_false_of_ne (fun e => h2 (BitVec.eq_of_toNat_eq (by omega)))
      rw [this, Bool.and_false]
    · have : (((Wd.hi a).toNat : Int) == ((Wd.hi b).toNat : Int)) = false := beq_false_of_ne (fun e => h1 (BitVec.eq_of_toNat_eq (by omega)))
      rw [this, Bool.false_and]
theorem Tryz.eqV_raw (w : World) (d : Nat) (a b c e : Int) : (Op.equalIn (d + 2) 26 (.agg #[.int .u64 a, .int .u64 b]) (.agg #[.int .u64 c, .int .u64 e])).run Tryz.prog w = .ok (a == c && b == e) w := by
  simp [go_sem]
  by_cases h : a = c
  · by_cases k : b = e <;> simp [h, k, Result.andThen]
  · simp [h, Result.andThen]
@[go_sem 2000] theorem Tryz.eqV (w : World) (a b : BitVec 128) : (Op.equalIn 10000 26 (.agg #[.int .u64 (Wd.hi a).toNat, .int .u64 (Wd.lo a).toNat]) (.agg #[.int .u64 (Wd.hi b).toNat, .int .u64 (Wd.lo b).toNat])).run Tryz.prog w = .ok (Wd.eqb a b) w := by
  rw [Tryz.eqV_raw w 9998, eqb_nat]
@[go_sem 2000] theorem Tryz.eqV0 (w : World) (a : BitVec 128) : (Op.equalIn 10000 26 (.agg #[.int .u64 (Wd.hi a).toNat, .int .u64 (Wd.lo a).toNat]) (.agg #[.int .u64 0, .int .u64 0])).run Tryz.prog w = .ok (Wd.eqb a 0#128) w := by
  have h : ((Wd.hi 0#128).toNat : Int) = 0 := by decide +kernel
  have l : ((Wd.lo 0#128).toNat : Int) = 0 := by decide +kernel
  rw [Tryz.eqV_raw w 9998, eqb_nat, h, l]
theorem eqb_self (a : BitVec 128) : Wd.eqb a a = true := decide_eq_true rfl
theorem eqb_ne {a b : BitVec 128} (h : a ≠ b) : Wd.eqb a b = false := decide_eq_false h
section
namespace Sx
section
variable {w : World} {x y : Operand}
theorem run_eq {P : Program} {T : TypeId} {a b : Array Value} {r : Bool} (hg : P.eqGuardType P.depth T = false) (h : (Op.equal T (.agg a) (.agg b)).run P w = .ok r w) :
    (do eqGuard .eql T x y (.agg a) (.agg b); binOp .eql T (.agg a) (.agg b) : Sem Value).run P w = .ok (.bool r) w := by
  have h1 : (eqGuard .eql T x y (.agg a) (.agg b)).run P w = .ok () w := by
    unfold eqGuard
    simp [hg]
  rw [Sem.run_bind, h1]
  show (binOp .eql T (.agg a) (.agg b)).run P w = _
  show (do Pure.pure (Value.bool (← Op.equal T (.agg a) (.agg b))) : Sem Value).run P w = _
  rw [Sem.run_bind, h]; rfl
theorem run_ne {P : Program} {T : TypeId} {a b : Array Value} {r : Bool} (hg : P.eqGuardType P.depth T = false) (h : (Op.equal T (.agg a) (.agg b)).run P w = .ok r w) :
    (do eqGuard .neq T x y (.agg a) (.agg b); binOp .neq T (.agg a) (.agg b) : Sem Value).run P w = .ok (.bool (!r)) w := by
  have h1 : (eqGuard .neq T x y (.agg a) (.agg b)).run P w = .ok () w := by
    unfold eqGuard
    simp [hg]
  rw [Sem.run_bind, h1]
  show (do Pure.pure (Value.bool (!(← Op.equal T (.agg a) (.agg b)))) : Sem Value).run P w = _
  rw [Sem.run_bind, h]; rfl
theorem gV : Tryz.prog.eqGuardType Tryz.prog.depth 26 = false := by kernel_rfl
theorem i_eqV {a b : BitVec 128} {r : Bool} (h : Wd.eqb a b = r) : (do eqGuard .eql 26 x y (.agg #[.int .u64 (Wd.hi a).toNat, .int .u64 (Wd.lo a).toNat]) (.agg #[.int .u64 (Wd.hi b).toNat, .int .u64 (Wd.lo b).toNat]); binOp .eql 26 (.agg #[.int .u64 (Wd.hi a).toNat, .int .u64 (Wd.lo a).toNat]) (.agg #[.int .u64 (Wd.hi b).toNat, .int .u64 (Wd.lo b).toNat]) : Sem Value).run Tryz.prog w = .ok (.bool r) w :=
  run_eq gV (by rw [← h]; exact Tryz.eqV w a b)
theorem exit_past {Q : Exit → Act → World → Prop} {a : Act} {id i : Nat} (hne : i ≠ id) (h : Q (.exit i) a w) : Exit.inBlock id Q (.exit i) a w := by
  show (if i = id then Q .normal a w else Q (.exit i) a w)
  rw [if_neg hne]; exact h
theorem i_rem {P : Program} {k : IntKind} {T : TypeId} {p q r : Nat} (h : p % q = r) (hq : q ≠ 0) : (do eqGuard .rem T x y (.int k p) (.int k q); binOp .rem T (.int k p) (.int k q) : Sem Value).run P w = .ok (.int k r) w := by
  have h1 : (Op.intDiv .rem k (p : Int) (q : Int)).run P w = .ok (.int k r) w := by
    unfold Op.intDiv
    rw [if_neg (by omega)]
    show Result.ok (Value.int k ((p : Int).tmod (q : Int))) w = _
    rw [← Int.ofNat_tmod, h]
  have h2 : (do eqGuard .rem T x y (.int k p) (.int k q); binOp .rem T (.int k p) (.int k q) : Sem Value).run P w = (Op.intDiv .rem k (p : Int) (q : Int)).run P w := by cases k <;> rfl
  rw [h2, h1]
theorem i_addN {P : Program} {k : IntKind} {T : TypeId} {p q r : Nat} (h : p + q = r) (hw : k.wrap (r : Int) = r) : (do eqGuard .add T x y (.int k p) (.int k q); binOp .add T (.int k p) (.int k q) : Sem Value).run P w = .ok (.int k r) w := by
  have h2 : (do eqGuard .add T x y (.int k p) (.int k q); binOp .add T (.int k p) (.int k q) : Sem Value).run P w = .ok (.int k (k.wrap ((p : Int) + (q : Int)))) w := by cases k <;> rfl
  rw [h2, show (p : Int) + (q : Int) = (r : Int) from by omega, hw]
theorem in_i64 (r : Nat) (h : r < 9223372036854775808) : IntKind.i64.wrap (r : Int) = r := by rw [IntKind.wrap_i64]; omega
theorem c_u8_u64 (m : Nat) (h : m < 18446744073709551616) (k : IntKind) : (convert 5 22 (.int k m)).run Tryz.prog w = .ok (.int .u64 (BitVec.ofNat 64 m).toNat) w := by
  have h1 : (convert 5 22 (.int k m)).run Tryz.prog w = .ok (.int .u64 (IntKind.u64.wrap m)) w := by kernel_rfl
  rw [h1, IntKind.wrap_u64, BitVec.toNat_ofNat]
  congr 2
theorem i_shr64 {P : Program} {T : TypeId} (p : BitVec 64) (k : Nat) (hk : k ≤ 64) (kd : IntKind) : (do eqGuard .shr T x y (.int .u64 p.toNat) (.int kd k); binOp .shr T (.int .u64 p.toNat) (.int kd k) : Sem Value).run P w = .ok (.int .u64 (p >>> k).toNat) w := by
  have h1 : (Op.shift .shr .u64 (p.toNat : Int) kd (k : Int)).run P w = .ok (.int .u64 (p >>> k).toNat) w := by
    unfold Op.shift
    rw [if_neg (by omega)]
    have e : min (k : Int).toNat IntKind.u64.bits = k := by
      show min (k : Int).toNat 64 = k
      omega
    simp only [e]
    show Result.ok (Value.int .u64 ((p.toNat : Int).fdiv (2 ^ k))) w = _
    rw [Int.fdiv_eq_ediv_of_nonneg _ (by have : (0 : Int) < 2 ^ k := Int.pow_pos (by omega); omega), show ((2 : Int) ^ k) = ((2 ^ k : Nat) : Int) from by simp, shr64]
  have h2 : (do eqGuard .shr T x y (.int .u64 p.toNat) (.int kd k); binOp .shr T (.int .u64 p.toNat) (.int kd k) : Sem Value).run P w = (Op.shift .shr .u64 (p.toNat : Int) kd (k : Int)).run P w := rfl
  rw [h2, h1]
theorem i_shl64 {P : Program} {T : TypeId} (p : BitVec 64) (k : Nat) (hk : k ≤ 64) (kd : IntKind) : (do eqGuard .shl T x y (.int .u64 p.toNat) (.int kd k); binOp .shl T (.int .u64 p.toNat) (.int kd k) : Sem Value).run P w = .ok (.int .u64 (p <<< k).toNat) w := by
  have h1 : (Op.shift .shl .u64 (p.toNat : Int) kd (k : Int)).run P w = .ok (.int .u64 (p <<< k).toNat) w := by
    unfold Op.shift
    rw [if_neg (by omega)]
    have e : min (k : Int).toNat IntKind.u64.bits = k := by
      show min (k : Int).toNat 64 = k
      omega
    simp only [e]
    show Result.ok (Value.int .u64 (IntKind.u64.wrap ((p.toNat : Int) * (2 ^ k)))) w = _
    rw [IntKind.wrap_u64, show ((2 : Int) ^ k) = ((2 ^ k : Nat) : Int) from by simp, shl64]
  have h2 : (do eqGuard .shl T x y (.int .u64 p.toNat) (.int kd k); binOp .shl T (.int .u64 p.toNat) (.int kd k) : Sem Value).run P w = (Op.shift .shl .u64 (p.toNat : Int) kd (k : Int)).run P w := rfl
  rw [h2, h1]
end
end Sx
end
section
namespace Sx
section
variable {w : World} {x y : Operand} {P : Program} {T : TypeId}
theorem i_rem64 (p q : BitVec 64) (hq : q.toNat ≠ 0) : (do eqGuard .rem T x y (.int .u64 p.toNat) (.int .u64 q.toNat); binOp .rem T (.int .u64 p.toNat) (.int .u64 q.toNat) : Sem Value).run P w = .ok (.int .u64 (p % q).toNat) w :=
  i_rem (by rw [BitVec.toNat_umod]) hq
theorem i_quoN {k : IntKind} {p q r : Nat} (h : p / q = r) (hq : q ≠ 0) (hw : k.wrap (r : Int) = r) : (do eqGuard .quo T x y (.int k p) (.int k q); binOp .quo T (.int k p) (.int k q) : Sem Value).run P w = .ok (.int k r) w := by
  have h1 : (Op.intDiv .quo k (p : Int) (q : Int)).run P w = .ok (.int k r) w := by
    unfold Op.intDiv
    rw [if_neg (by omega)]
    show Result.ok (Value.int k (k.wrap ((p : Int).tdiv (q : Int)))) w = _
    rw [← Int.ofNat_tdiv, h, hw]
  have h2 : (do eqGuard .quo T x y (.int k p) (.int k q); binOp .quo T (.int k p) (.int k q) : Sem Value).run P w = (Op.intDiv .quo k (p : Int) (q : Int)).run P w := by cases k <;> rfl
  rw [h2, h1]
theorem i_mulN {k : IntKind} {p q r : Nat} (h : p * q = r) (hw : k.wrap (r : Int) = r) : (do eqGuard .mul T x y (.int k p) (.int k q); binOp .mul T (.int k p) (.int k q) : Sem Value).run P w = .ok (.int k r) w := by
  have h2 : (do eqGuard .mul T x y (.int k p) (.int k q); binOp .mul T (.int k p) (.int k q) : Sem Value).run P w = .ok (.int k (k.wrap ((p : Int) * (q : Int)))) w := by cases k <;> rfl
  rw [h2, show (p : Int) * (q : Int) = (r : Int) from by rw [← h]; exact (Int.natCast_mul _ _).symm, hw]
theorem c_u8_i64 (m : Nat) (h : m < 9223372036854775808) : (convert 5 3 (.int .u8 m)).run Tryz.prog w = .ok (.int .i64 m) w := by
  have h1 : (convert 5 3 (.int .u8 m)).run Tryz.prog w = .ok (.int .i64 (IntKind.i64.wrap m)) w := by kernel_rfl
  rw [h1, in_i64 m h]
theorem c_u64_i64 (p : BitVec 64) (m : Nat) (e : p.toNat = m) (h : m < 9223372036854775808) : (convert 22 3 (.int .u64 p.toNat)).run Tryz.prog w = .ok (.int .i64 m) w := by
  have h1 : (convert 22 3 (.int .u64 p.toNat)).run Tryz.prog w = .ok (.int .i64 (IntKind.i64.wrap p.toNat)) w := by kernel_rfl
  rw [h1, e, in_i64 m h]
theorem c_i64_u64 (m : Nat) (h : m < 18446744073709551616) : (convert 3 22 (.int .i64 m)).run Tryz.prog w = .ok (.int .u64 (BitVec.ofNat 64 m).toNat) w := by
  have h1 : (convert 3 22 (.int .i64 m)).run Tryz.prog w = .ok (.int .u64 (IntKind.u64.wrap m)) w := by kernel_rfl
  rw [h1, IntKind.wrap_u64, BitVec.toNat_ofNat]
  congr 2
end
end Sx
end
section
namespace Bi
def bis (f : Nat → Bool) (n : Nat) : List Value := (List.range n).map fun i => .int .i64 ((f i).toNat : Nat)
theorem length (f : Nat → Bool) (n : Nat) : (bis f n).length = n := by simp [bis]
theorem at_ (f : Nat → Bool) (n k : Nat) (h : k < n) : (bis f n)[k]? = some (.int .i64 ((f k).toNat : Nat)) := by simp [bis, h]
theorem snoc (f : Nat → Bool) (n : Nat) : bis f (n + 1) = bis f n ++ [.int .i64 ((f n).toNat : Nat)] := by simp [bis, List.range_succ]
theorem congr {f g : Nat → Bool} {n : Nat} (h : ∀ i, i < n → f i = g i) : bis f n = bis g n := by
  unfold bis
  apply List.map_congr_left
  intro i hi
  rw [h i (by simpa using hi)]
theorem ones (f : Nat → Bool) (n : Nat) : Sx.ones (bis f n) = true := by
  unfold Sx.ones
  rw [List.all_eq_true]
  intro v hv
  obtain ⟨i, _, rfl⟩ := List.mem_map.1 hv
  rfl
theorem bit (x : BitVec 64) (i : Nat) : ((x >>> i) % 2#64).toNat = (x.getLsbD i).toNat := by
  rw [BitVec.toNat_umod, show (2#64 : BitVec 64).toNat = 2 from rfl]
  have e : (x >>> i).getLsbD 0 = x.getLsbD i := by rw [BitVec.getLsbD_ushiftRight]; rfl
  rw [← e, BitVec.getLsbD, Nat.testBit_zero]
  generalize (x >>> i).toNat = q
  rcases Nat.mod_two_eq_zero_or_one q with h | h <;> simp [h]
theorem bl (b : Bool) : b.toNat < 2 := by cases b <;> decide
end Bi
namespace Sx
section
variable {P : Program} {ds : List Deferred} {ops : Array Oper} {Q : Exit → Act → World → Prop} {w0 w : World} {a : Act} {o : Oper} {rest : List Oper} {n : Nat} {kv : List (Nat × Value)} {bs : List Bx} {rs : List Rx} {K : Nat → Option Obj}
theorem d_lenS {x : Operand} {t E : TypeId} {z bytes k cap : Nat} {ad : Option Addr} (hT : elemT P t E z bytes) (F : Fr n a kv ds) (ho : o.op = .call { callee := .builtin .len, args := #[x], argTypes := #[t] })
    (hx : ev kv x = some (.slice ad k cap)) : Does P o a w (fun y w' => y = .int .i64 k ∧ w' = w) := by
  refine does_run ?_
  have hr : (Builtin.len_ #[t] o.type #[.slice ad k cap]).run P w = .ok (.int .i64 k) w := by
    simp [Builtin.len_, run_underlying hT.1, goInt]
  unfold execOp
  simp only [ho, resolve, invoke, builtin, Sem.run_bind, Sem.run_pure, Result.andThen_ok, List.map_toArray, List.map_cons, List.map_nil, F.ev hx, hr]
theorem run_ix1 {t E : TypeId} {bytes k len cap g off : Nat} {kd : IntKind} (hT : elemT P t E 1 bytes) (hk : k < len) : (Instr.indexAt t (.slice (some ⟨g, off, none⟩) len cap) (.int kd (k : Int))).run P w = .ok (.pointer (some ⟨g, off + k, none⟩)) w := by
  have hs : (sizeOf E).run P w = .ok 1 w := by
    have := hT.2
    cases hq : P.info? E with
    | none => rw [hq] at this; cases this
    | some i =>
      rw [hq] at this
      simp only [Option.map_some, Option.some.injEq, Prod.mk.injEq] at this
      simp [sizeOf, typeInfo, hq, this.2.1]
  have hb : (0 : Int) ≤ (k : Int) ∧ (k : Int) < (len : Int) := by omega
  simp only [Instr.indexAt, asIntOf, Sem.run_bind, Sem.run_pure, Result.andThen_ok, run_underlying hT.1, if_pos hb, hs]
  simp [Addr.add_mid]
theorem d_ix1 {x y : Operand} {t E : TypeId} {bytes k len cap g off : Nat} {kd : IntKind} {ad : Option Addr} {j : Int} (hT : elemT P t E 1 bytes) (F : Fr n a kv ds) (ho : o.op = .indexAddr t x y) (hx : ev kv x = some (.slice ad len cap)) (had : ad = some ⟨g, off, none⟩) (hy : ev kv y = some (.int kd j)) (hj : j = (k : Int)) (hk : k < len) :
    Does P o a w (fun y w' => y = .pointer (some ⟨g, off + k, none⟩) ∧ w' = w) := by
  subst had; subst hj
  exact d_iaddr F ho hx hy (run_ix1 hT hk)
theorem d_loadF {T : TypeId} {x : Operand} {b k : Nat} {v : Value} (hT : oneT P T) (F : Fr n a kv ds) (H : Own w0 w bs rs K) (ho : o.op = .load T x) (hx : ev kv x = some (.pointer (some ⟨b, k, none⟩))) (hc : w0.cell? ⟨b, k, none⟩ = some v) : Does P o a w (fun x w' => x = v ∧ w' = w) := by
  refine does_run ?_
  have hc' : w.cell? ⟨b, k, none⟩ = some v := (H.below.cell (p := ⟨b, k, none⟩) (lt_cell hc)).trans hc
  have hr : (Instr.loadAt T (.pointer (some ⟨b, k, none⟩))).run P w = .ok v w := by
    simp only [Instr.loadAt, Instr.sureAddr, Sem.run_bind, Sem.run_pure, Result.andThen_ok, run_loadVar1 hT hc']
  unfold execOp; rw [ho]; simp only [F.ev hx, Sem.run_bind, hr]; rfl
theorem d_loadR {T : TypeId} {x : Operand} {b k i cap m : Nat} {E : TypeId} {xs : List Value} {v : Value} (hT : oneT P T) (F : Fr n a kv ds) (H : Own w0 w bs rs K) (ho : o.op = .load T x) (hx : ev kv x = some (.pointer (some ⟨b, k, none⟩)))
    (hi : rs[i]? = some ⟨true, .slice (some ⟨b, 0, none⟩) m cap, E, 1, m, xs⟩) (hv : xs[k]? = some v) : Does P o a w (fun x w' => x = v ∧ w' = w) := by
  refine does_run ?_
  have hown : w.ownsRow w0.heap.size E 1 (.slice (some ⟨b, 0, none⟩) m cap) m xs := H.row i _ hi rfl
  have hk : k < m := by have := (List.getElem?_eq_some_iff.1 hv).1; have e := hown.1; omega
  have hc' : w.cell? ⟨b, k, none⟩ = some v := (World.ownsRow.cellAt hown k (by omega)).trans hv
  have hr : (Instr.loadAt T (.pointer (some ⟨b, k, none⟩))).run P w = .ok v w := by
    simp only [Instr.loadAt, Instr.sureAddr, Sem.run_bind, Sem.run_pure, Result.andThen_ok, run_loadVar1 hT hc']
  unfold execOp; rw [ho]; simp only [F.ev hx, Sem.run_bind, hr]; rfl
end
end Sx
end
namespace Af
abbrev W := BitVec 128
structure Map where
  a : BitVec 128
  c : BitVec 128
def one : Map := ⟨1#128, 0#128⟩
def at' (m : Map) (x : BitVec 128) : BitVec 128 := m.a * x + m.c
def thn (m n : Map) : Map := ⟨n.a * m.a, at' n m.c⟩
theorem thn_assoc (a b c : Map) : thn (thn a b) c = thn a (thn b c) := by
  simp only [at', thn, BitVec.mul_add, BitVec.mul_assoc, BitVec.add_assoc]
theorem thn_one (a : Map) : thn a one = a := by simp [thn, at', one]
theorem one_thn (a : Map) : thn one a = a := by simp [thn, at', one]
def pow (m : Map) : Nat → Map
  | 0 => one
  | k + 1 => thn (pow m k) m
theorem pow_one (m : Map) : pow m 1 = m := one_thn m
theorem pow_add (m : Map) (a : Nat) : ∀ b, thn (pow m a) (pow m b) = pow m (a + b)
  | 0 => thn_one _
  | b + 1 => by show thn (pow m a) (thn (pow m b) m) = _; rw [← thn_assoc, pow_add m a b]; rfl
theorem pow_succ' (m : Map) (k : Nat) : thn m (pow m k) = pow m (k + 1) := by
  have := pow_add m 1 k
  rw [pow_one, Nat.add_comm] at this
  exact this
theorem pow_mul (m : Map) (a : Nat) : ∀ b, pow (pow m a) b = pow m (a * b)
  | 0 => rfl
  | b + 1 => by show thn (pow (pow m a) b) (pow m a) = _; rw [pow_mul m a b, pow_add, Nat.mul_succ]
theorem pow_dbl (m : Map) (k : Nat) : pow (thn m m) k = pow m (2 * k) := by
  have h : thn m m = pow m 2 := by show _ = thn (pow m 1) m; rw [pow_one]
  rw [h, pow_mul]
def odd (n : BitVec 128) : Bool := n.getLsbD 0
def next (out m : Map) (n : BitVec 128) : Map := if odd n then thn out m else out
theorem odd_nat (n : BitVec 128) : odd n = decide (n.toNat % 2 = 1) := by
  unfold odd
  rw [BitVec.getLsbD, Nat.testBit_zero]
theorem half_nat (n : BitVec 128) : (n >>> 1).toNat = n.toNat / 2 := by
  rw [BitVec.toNat_ushiftRight, Nat.shiftRight_eq_div_pow]
theorem round (out m : Map) (n : BitVec 128) : thn (next out m n) (pow (thn m m) (n >>> 1).toNat) = thn out (pow m n.toNat) := by
  rw [pow_dbl, half_nat]
  unfold next
  rw [odd_nat]
  by_cases h : n.toNat % 2 = 1
  · rw [if_pos (by simpa using h), thn_assoc, pow_succ', show 2 * (n.toNat / 2) + 1 = n.toNat from by omega]
  · rw [if_neg (by simpa using h), show 2 * (n.toNat / 2) = n.toNat from by omega]
def newton (n : BitVec 128) : Nat → BitVec 128
  | 0 => n
  | k + 1 => newton n k * (2#128 - n * newton n k)
def inv (n : BitVec 128) : BitVec 128 := newton n 7
theorem one_sub_sub (q : BitVec 128) : 1#128 - (1#128 - q) = q := by
  rw [BitVec.sub_eq_add_neg, BitVec.sub_eq_add_neg, BitVec.neg_add, BitVec.sub_eq_add_neg, BitVec.neg_neg, ← BitVec.add_assoc, show (1#128 + -1#128 : BitVec 128) = 0#128 from by decide, BitVec.zero_add]
theorem nt (y : BitVec 128) : y * (2#128 - y) = 1#128 - (1#128 - y) * (1#128 - y) := by
  obtain ⟨e, rfl⟩ : ∃ e, y = 1#128 - e := ⟨1#128 - y, (one_sub_sub y).symm⟩
  rw [one_sub_sub]
  have h2 : 2#128 - (1#128 - e) = 1#128 + e := by
    rw [show (2#128 : BitVec 128) = 1#128 + 1#128 from by decide, BitVec.sub_eq_add_neg, BitVec.add_assoc, ← BitVec.sub_eq_add_neg, one_sub_sub]
  rw [h2, BitVec.sub_eq_add_neg, BitVec.add_mul, BitVec.one_mul, BitVec.mul_add, BitVec.mul_one, BitVec.neg_mul, BitVec.add_assoc, ← BitVec.add_assoc e, BitVec.add_right_neg, BitVec.zero_add, BitVec.sub_eq_add_neg]
def err (n : BitVec 128) (k : Nat) : BitVec 128 := 1#128 - n * newton n k
theorem err_succ (n : BitVec 128) (k : Nat) : err n (k + 1) = err n k * err n k := by
  show 1#128 - n * (newton n k * (2#128 - n * newton n k)) = _
  rw [← BitVec.mul_assoc, nt]
  exact one_sub_sub _
theorem dvd_sq (e : BitVec 128) (k : Nat) (hk : 2 * k ≤ 128) (h : 2 ^ k ∣ e.toNat) : 2 ^ (2 * k) ∣ (e * e).toNat := by
  rw [BitVec.toNat_mul]
  refine (Nat.dvd_mod_iff (Nat.pow_dvd_pow 2 hk)).2 ?_
  rw [show 2 ^ (2 * k) = 2 ^ k * 2 ^ k from by rw [← Nat.pow_add]; congr 1; omega]
  exact Nat.mul_dvd_mul h h
theorem err_dvd (n : BitVec 128) (hn : odd n = true) : ∀ k, k ≤ 7 → 2 ^ (2 ^ k) ∣ (err n k).toNat
  | 0, _ => by
    have h : n.toNat % 2 = 1 := by simpa [odd_nat] using hn
    show 2 ^ 1 ∣ (1#128 - n * n).toNat
    rw [BitVec.toNat_sub, BitVec.toNat_mul]
    have h2 : n.toNat * n.toNat % 2 = 1 := by rw [Nat.mul_mod, h]
    generalize n.toNat * n.toNat = q at h2 ⊢
    have e1 : (1#128 : BitVec 128).toNat = 1 := by decide
    rw [e1]
    apply Nat.dvd_of_mod_eq_zero
    omega
  | k + 1, hk => by
    rw [err_succ, Nat.pow_succ, Nat.mul_comm (2 ^ k) 2]
    have h7 : 2 ^ k ≤ 2 ^ 6 := Nat.pow_le_pow_right (by omega) (by omega)
    exact dvd_sq _ _ (by omega) (err_dvd n hn k (by omega))
theorem mul_inv (n : BitVec 128) (hn : odd n = true) : n * inv n = 1#128 := by
  have h := err_dvd n hn 7 (by omega)
  have z : err n 7 = 0#128 := by
    apply BitVec.eq_of_toNat_eq
    have := (err n 7).isLt
    have h' : 340282366920938463463374607431768211456 ∣ (err n 7).toNat := h
    obtain ⟨q, hq⟩ := h'
    show _ = 0
    omega
  have z2 : n * inv n = 1#128 - err n 7 := by
    show _ = 1#128 - (1#128 - n * inv n)
    exact (one_sub_sub _).symm
  rw [z2, z]; decide
theorem inv_mul (n : BitVec 128) (hn : odd n = true) : inv n * n = 1#128 := by rw [BitVec.mul_comm, mul_inv n hn]
def inverse (m : Map) : Map := ⟨inv m.a, inv m.a * (0#128 - m.c)⟩
theorem inverse_at (m : Map) (h : odd m.a = true) (x : BitVec 128) : at' (inverse m) (at' m x) = x := by
  simp only [at', inverse]
  rw [BitVec.mul_add, ← BitVec.mul_assoc, inv_mul _ h, BitVec.one_mul, BitVec.add_assoc, ← BitVec.mul_add, BitVec.zero_sub, BitVec.add_right_neg, BitVec.mul_zero, BitVec.add_zero]
end Af
section
namespace Bi
def lenN (f : Nat → Bool) : Nat → Nat
  | 0 => 0
  | i + 1 => if f i = true then i + 1 else lenN f i
def len (x : BitVec 128) : Nat := lenN x.getLsbD 128
theorem lenN_le (f : Nat → Bool) : ∀ i, lenN f i ≤ i
  | 0 => Nat.le_refl _
  | i + 1 => by unfold lenN; split; exact Nat.le_refl _; exact Nat.le_succ_of_le (lenN_le f i)
theorem len_le (x : BitVec 128) : len x ≤ 128 := lenN_le _ _
theorem lenN_above (f : Nat → Bool) : ∀ i j, lenN f i ≤ j → j < i → f j = false
  | 0, j, _, h => by omega
  | i + 1, j, hl, h => by
    unfold lenN at hl
    by_cases hf : f i = true
    · rw [if_pos hf] at hl; omega
    · rw [if_neg hf] at hl
      by_cases e : j = i
      · subst e; simpa using hf
      · exact lenN_above f i j hl (by omega)
end Bi
namespace Sx
section
variable {P : Program} {ds : List Deferred} {w0 w : World} {a : Act} {o : Oper} {n : Nat} {kv : List (Nat × Value)}
theorem d_ixR {x y : Operand} {t E : TypeId} {bytes k len cap g : Nat} {kd : IntKind} {j : Int} (hT : elemT P t E 1 bytes) (F : Fr n a kv ds) (ho : o.op = .indexAddr t x y) (hx : ev kv x = some (.slice (some ⟨g, 0, none⟩) len cap)) (hy : ev kv y = some (.int kd j)) (hj : j = (k : Int)) (hk : k < len) :
    Does P o a w (fun y w' => y = .pointer (some ⟨g, k, none⟩) ∧ w' = w) := by
  have := d_ix1 (w := w) hT F ho hx rfl hy hj hk
  rw [Nat.zero_add] at this
  exact this
end
end Sx
end
section
namespace Sx
section
variable {P : Program} {ds : List Deferred} {w0 w : World} {a : Act} {o : Oper} {n : Nat} {kv : List (Nat × Value)} {bs : List Bx} {rs : List Rx} {K : Nat → Option Obj}
theorem d_make {x y : Operand} {t E : TypeId} {z : Value} {bytes m : Nat} {kl kc : IntKind} (ht : P.underlying t = some (.slice E)) (hinf : (P.info? E).map (fun i => (i.zero, i.size, i.bytes)) = some (some z, 1, bytes)) (hz1 : z.cells = #[z]) (F : Fr n a kv ds) (H : Own w0 w bs rs K)
    (ho : o.op = .makeSlice t x y) (hx : ev kv x = some (.int kl (m : Nat))) (hy : ev kv y = some (.int kc (m : Nat))) (hm : m ≤ 1000000) (hb : bytes * m ≤ 281474976710656) :
    Does P o a w (fun x w' => ∃ v, x = v ∧ Own w0 w' bs (⟨true, v, E, 1, m, List.replicate m z⟩ :: rs) K) := by
  refine (does_run (v := .slice (some ⟨w.heap.size, 0, none⟩) m m) (w' := w.alloc (.cells (madeCells #[z] m) E)) ?_).mono ?_
  · unfold execOp; rw [ho]
    simp only [F.ev hx, F.ev hy, Sem.run_bind, run_make_row' t E z bytes ht hinf hz1 kl kc m hb (by omega) w]
    rfl
  · rintro x w' ⟨rfl, rfl⟩
    have hs : (madeCells #[z] m).size = m := size_madeCells _ _
    refine ⟨_, rfl, H.consR ((Below.refl _ _).alloc (Nat.le_refl _) _) ⟨true, _, E, 1, m, List.replicate m z⟩ ⟨by simp, .inr ⟨w.heap.size, m, madeCells #[z] m, rfl, Nat.le_refl _, heap_alloc_new w _, Nat.le_refl _, by unfold maxLen; omega, by rw [hs, Nat.mul_one], ?_⟩⟩⟩
    rw [toList_madeCells_one, List.take_of_length_le (by simp)]
theorem d_storeR {T : TypeId} {x y : Operand} {b k i cap m : Nat} {E : TypeId} {xs : List Value} {v : Value} (hT : (P.info? T).map (·.size) = some 1) (F : Fr n a kv ds) (H : Own w0 w bs rs K) (ho : o.op = .store T x y) (hx : ev kv x = some (.pointer (some ⟨b, k, none⟩)))
    (hy : ev kv y = some v) (hc : v.cells = #[v]) (h1 : v.oneCell' = true) (hi : rs[i]? = some ⟨true, .slice (some ⟨b, 0, none⟩) m cap, E, 1, m, xs⟩) (hk : k < m) :
    Does P o a w (fun _ w' => Own w0 w' bs (rs.set i ⟨true, .slice (some ⟨b, 0, none⟩) m cap, E, 1, m, xs.set k v⟩) K) := by
  have hr0 : w.ownsRow w0.heap.size E 1 (.slice (some ⟨b, 0, none⟩) m cap) m xs := H.row i _ hi rfl
  have hlen : xs.length = m := by have := hr0.1; omega
  have hcell : w.cell? ⟨b, k, none⟩ = xs[k]? := World.ownsRow.cellAt hr0 k (by omega)
  have hr : (storeVar T ⟨b, k, none⟩ v).run P w = .ok () (w.setCell ⟨b, k, none⟩ v) := by
    have := run_storeCells_cells (P := P) b k [v] 0 w (fun j hj => by
        have : j = 0 := by simpa using hj
        subst this
        show (w.cell? ⟨b, k + 0, none⟩).isSome = true
        rw [Nat.add_zero, hcell, List.getElem?_eq_getElem (by omega)]; rfl) (fun j hj => by
        have : j = 0 := by simpa using hj
        subst this
        exact World.ownsRow.frozenAt hr0 k) (fun u hu => by rw [List.mem_singleton] at hu; rw [hu]; exact h1)
    simp only [Nat.add_zero] at this
    cases hq : P.info? T with
    | none => simp [hq] at hT
    | some inf =>
      have hs : inf.size = 1 := by simpa [hq] using hT
      simp [storeVar, sizeOf, typeInfo, hq, hs, hc, this, World.setCells]
  have hr' : (execOp a.eval o).run P w = .ok .skip (w.setCell ⟨b, k, none⟩ v) := by
    unfold execOp; rw [ho]
    simp only [F.ev hx, F.ev hy, Instr.storeAt, Instr.sureAddr, Sem.run_bind, Sem.run_pure, Result.andThen_ok, hr]
  refine (does_skip hr').mono ?_
  rintro _ w' rfl
  obtain ⟨h2, h3⟩ := World.ownsRow.stored hr0 k v
  exact H.grow hi rfl h2 h3 (Or.inl rfl)
theorem run_index_str {t : TypeId} {s : ByteArray} {k b : Nat} {kd : IntKind} (ht : P.underlying t = some .string) (hb : (s.data.toList[k]?).map UInt8.toNat = some b) :
    (Instr.index t (.string s) (.int kd (k : Int))).run P w = .ok (.int .u8 b) w := by
  obtain ⟨u, hu, rfl⟩ := Option.map_eq_some_iff.1 hb
  have h1 : s[k]? = some u := by
    obtain ⟨hk, e⟩ := List.getElem?_eq_some_iff.1 hu
    have hk' : k < s.size := by simpa using hk
    rw [getElem?_pos s k hk']
    rw [Array.getElem_toList] at e
    exact congrArg some e
  have h0 : (0 : Int) ≤ (k : Int) := by omega
  simp [Instr.index, asIntOf, run_underlying ht, h0, h1]
end
variable {w : World}
theorem c_u64_u8 (p : BitVec 64) (m : Nat) (e : p.toNat % 256 = m) : (convert 22 5 (.int .u64 p.toNat)).run Tryz.prog w = .ok (.int .u8 m) w := by
  have h1 : (convert 22 5 (.int .u64 p.toNat)).run Tryz.prog w = .ok (.int .u8 (IntKind.u8.wrap p.toNat)) w := by kernel_rfl
  rw [h1, ← e, show IntKind.u8.wrap (p.toNat : Int) = ((p.toNat % 256 : Nat) : Int) from by simp [IntKind.wrap, IntKind.signed, IntKind.bits]]
theorem undU8 : Tryz.prog.underlying 66 = some (.slice 5) := by kernel_rfl
theorem undStr : Tryz.prog.underlying 9 = some .string := by kernel_rfl
theorem infU8 : (Tryz.prog.info? 5).map (fun i => (i.zero, i.size, i.bytes)) = some (some (.int .u8 0), 1, 1) := by kernel_rfl
end Sx
end
namespace Tb
abbrev R := Int × BitVec 64
structure S where
  l : List R
  n : Int
def cells : List R → List Value
  | [] => []
  | r :: l => .int .i64 r.1 :: .int .u64 r.2.toNat :: cells l
theorem cells_len : ∀ l, (cells l).length = l.length * 2
  | [] => rfl
  | _ :: l => by rw [cells, List.length_cons, List.length_cons, cells_len l, List.length_cons]; omega
theorem cells_at : ∀ (l : List R) (k : Nat) (r : R), l[k]? = some r → (cells l)[k * 2]? = some (.int .i64 r.1) ∧ (cells l)[k * 2 + 1]? = some (.int .u64 (r.2.toNat : Nat))
  | [], k, r, h => by simp at h
  | a :: l, 0, r, h => by
    have e : a = r := Option.some.inj h
    subst e; exact ⟨rfl, rfl⟩
  | a :: l, k + 1, r, h => by
    rw [show (k + 1) * 2 = k * 2 + 1 + 1 from by omega]
    exact cells_at l k r h
theorem cells_set : ∀ (l : List R) (k : Nat) (r : R) (x : BitVec 64), l[k]? = some r → (cells l).set (k * 2 + 1) (.int .u64 (x.toNat : Nat)) = cells (l.set k (r.1, x))
  | [], k, r, x, h => by simp at h
  | a :: l, 0, r, x, h => by
    have e : a = r := Option.some.inj h
    subst e; rfl
  | a :: l, k + 1, r, x, h => by
    rw [show (k + 1) * 2 + 1 = k * 2 + 1 + 1 + 1 from by omega, cells, List.set_cons_succ, List.set_cons_succ, cells_set l k r x h, List.set_cons_succ]; rfl
theorem ones : ∀ l, Sx.ones (cells l) = true
  | [] => rfl
  | _ :: l => ones l
structure S.ok (s : S) : Prop where
  few : s.l.length ≤ 16
  rise : s.l.Pairwise (fun a b => a.1 < b.1)
  low : ∀ r ∈ s.l, 0 ≤ r.1 ∧ r.1 < s.n
  n0 : 0 ≤ s.n
  n1 : s.n ≤ 2147483647
def S.laye (s : S) (h : Int) : Int := if s.l.length = 16 then 5 else if h < s.n ∨ 2147483647 ≤ h then 1 else 0
def S.lay (s : S) (h : Int) (x : BitVec 64) : S := if s.laye h = 0 then ⟨s.l ++ [(h, x)], h + 1⟩ else s
def S.add (s : S) (x : BitVec 64) : S := s.lay s.n x
def S.goese (s : S) (m : Int) : Int := if m < s.n ∨ 2147483647 < m then 1 else 0
def S.goes (s : S) (m : Int) : S := if s.goese m = 0 then ⟨s.l, m⟩ else s
def S.has (s : S) (h : Int) : Bool := s.l.any (fun r => r.1 == h)
def S.val (s : S) (h : Int) : BitVec 64 := ((s.l.find? (fun r => r.1 == h)).map (·.2)).getD 0#64
def S.drop (s : S) (h : Int) : S := ⟨s.l.filter (fun r => r.1 != h), s.n⟩
theorem lay_full {s : S} {h : Int} (x : BitVec 64) (e : s.l.length = 16) : s.laye h = 5 ∧ s.lay h x = s := by
  have e1 : s.laye h = 5 := if_pos e
  exact ⟨e1, by unfold S.lay; rw [e1]; rfl⟩
theorem lay_arg {s : S} {h : Int} (x : BitVec 64) (e : s.l.length ≠ 16) (k : h < s.n ∨ 2147483647 ≤ h) : s.laye h = 1 ∧ s.lay h x = s := by
  have e1 : s.laye h = 1 := by unfold S.laye; rw [if_neg e, if_pos k]
  exact ⟨e1, by unfold S.lay; rw [e1]; rfl⟩
theorem lay_good {s : S} {h : Int} (x : BitVec 64) (e : s.l.length ≠ 16) (k : ¬ (h < s.n ∨ 2147483647 ≤ h)) : s.laye h = 0 ∧ s.lay h x = ⟨s.l ++ [(h, x)], h + 1⟩ := by
  have e1 : s.laye h = 0 := by unfold S.laye; rw [if_neg e, if_neg k]
  exact ⟨e1, by unfold S.lay; rw [e1]; rfl⟩
theorem S.ok.lay {s : S} (o : s.ok) (h : Int) (x : BitVec 64) : (s.lay h x).ok := by
  by_cases e : s.l.length = 16
  · rw [(lay_full x e).2]; exact o
  · by_cases k : h < s.n ∨ 2147483647 ≤ h
    · rw [(lay_arg x e k).2]; exact o
    · rw [(lay_good x e k).2]
      have := o.few; have := o.n0
      refine ⟨?_, ?_, fun r hr => ?_, ?_, ?_⟩
      · rw [List.length_append, List.length_singleton]; omega
      · rw [List.pairwise_append]
        refine ⟨o.rise, List.pairwise_singleton _ _, fun a ha b hb => ?_⟩
        rw [List.mem_singleton] at hb
        subst hb
        have := (o.low a ha).2
        show a.1 < h
        omega
      · rcases List.mem_append.1 hr with hr | hr
        · have := o.low r hr; show 0 ≤ r.1 ∧ r.1 < h + 1; omega
        · rw [List.mem_singleton] at hr; subst hr; show 0 ≤ h ∧ h < h + 1; omega
      · show 0 ≤ h + 1; omega
      · show h + 1 ≤ 2147483647; omega
theorem S.ok.add {s : S} (o : s.ok) (x : BitVec 64) : (s.add x).ok := o.lay _ _
theorem S.ok.goes {s : S} (o : s.ok) (m : Int) : (s.goes m).ok := by
  unfold S.goes
  by_cases k : m < s.n ∨ 2147483647 < m
  · rw [if_neg (by unfold S.goese; rw [if_pos k]; decide)]; exact o
  · rw [if_pos (by unfold S.goese; rw [if_neg k])]
    have := o.n0
    exact ⟨o.few, o.rise, fun r hr => by have := o.low r hr; show 0 ≤ r.1 ∧ r.1 < m; omega, by show 0 ≤ m; omega, by show m ≤ 2147483647; omega⟩
theorem S.ok.drop {s : S} (o : s.ok) (h : Int) : (s.drop h).ok :=
  ⟨Nat.le_trans (List.length_filter_le _ _) o.few, o.rise.filter _, fun r hr => o.low r (List.mem_filter.1 hr).1, o.n0, o.n1⟩
def S.new : S := ⟨[], 0⟩
theorem S.ok.new : S.new.ok := ⟨by decide, List.Pairwise.nil, fun r hr => (by cases hr), by decide, by decide⟩
def pos (h : Int) : List R → Nat
  | [] => 0
  | r :: l => if r.1 < h then pos h l + 1 else 0
theorem rise_at {l : List R} (hr : l.Pairwise (fun a b => a.1 < b.1)) {i j : Nat} {a b : R} (hi : l[i]? = some a) (hj : l[j]? = some b) (h : i < j) : a.1 < b.1 := by
  obtain ⟨h1, e1⟩ := List.getElem?_eq_some_iff.1 hi
  obtain ⟨h2, e2⟩ := List.getElem?_eq_some_iff.1 hj
  subst e1; subst e2
  exact List.pairwise_iff_getElem.1 hr i j h1 h2 h
theorem below {l : List R} (hr : l.Pairwise (fun a b => a.1 < b.1)) (h : Int) {m : Nat} {a : R} (hm : l[m]? = some a) (ha : a.1 < h) : ∀ k r, l[k]? = some r → k < m + 1 → r.1 < h := fun k r hk hkm => by
  rcases Nat.lt_or_ge k m with q | q
  · have := rise_at hr hk hm q; omega
  · have : k = m := by omega
    subst this; rw [hk] at hm; cases hm; exact ha
end Tb
namespace Bi
def Rd (w : World) (v : Value) (f : Nat → Bool) (len : Nat) : Prop := len ≤ 1000000 ∧ ∃ ad cap, v = .slice ad len cap ∧ ∀ k, k < len → ∃ g o, ad = some ⟨g, o, none⟩ ∧ w.cell? ⟨g, o + k, none⟩ = some (.int .i64 ((f k).toNat : Nat))
theorem Rd.below {w w' : World} {v : Value} {f : Nat → Bool} {len : Nat} (h : Rd w v f len) (hb : Below w.heap.size w w') : Rd w' v f len := by
  obtain ⟨h1, ad, cap, hv, hc⟩ := h
  refine ⟨h1, ad, cap, hv, fun k hk => ?_⟩
  obtain ⟨g, o, e, hcell⟩ := hc k hk
  exact ⟨g, o, e, keep_cell hb _ _ hcell⟩
theorem Rd.row {w : World} {lo : Nat} {E : TypeId} {v : Value} {f : Nat → Bool} {len : Nat} (h : w.ownsRow lo E 1 v len (bis f len)) (hl : len ≤ 1000000) : Rd w v f len := by
  refine ⟨hl, ?_⟩
  rcases row_form h with ⟨rfl, rfl⟩ | ⟨g, cap, rfl, _, _, _, _, hc⟩
  · exact ⟨none, 0, rfl, fun k hk => by omega⟩
  · exact ⟨some ⟨g, 0, none⟩, cap, rfl, fun k hk => ⟨g, 0, rfl, by rw [Nat.zero_add, hc k hk, at_ f len k hk]⟩⟩
def num (g : Nat → Bool) : Nat → Nat
  | 0 => 0
  | t + 1 => 2 * num g t + (g (63 - t)).toNat
def word (g : Nat → Bool) : BitVec 64 := BitVec.ofNat 64 (num g 64)
def from_ (f : Nat → Bool) (len fr : Nat) (i : Nat) : Bool := decide (fr + i < len) && f (fr + i)
def of (f : Nat → Bool) (len : Nat) : BitVec 128 := Wd.mk (word (from_ f len 64)) (word (from_ f len 0))
end Bi
section
namespace Sx
section
variable {P : Program} {ds : List Deferred} {w0 w : World} {a : Act} {o : Oper} {n : Nat} {kv : List (Nat × Value)}
theorem size_of {t E : TypeId} {z bytes : Nat} (hT : elemT P t E z bytes) : (sizeOf E).run P w = .ok z w := by
  have := hT.2
  cases hq : P.info? E with
  | none => rw [hq] at this; cases this
  | some i =>
    rw [hq] at this
    simp only [Option.map_some, Option.some.injEq, Prod.mk.injEq] at this
    simp [sizeOf, typeInfo, hq, this.2.1]
theorem elem_of {t E : TypeId} {z bytes : Nat} (hT : elemT P t E z bytes) : P.elem t = E := by
  unfold Program.elem; rw [hT.1]
theorem run_sliceH {t E : TypeId} {z bytes h len cap g off : Nat} {kd : IntKind} (hT : elemT P t E z bytes) (hk : h ≤ cap) : (Instr.sliceAt t (.slice (some ⟨g, off, none⟩) len cap) none (some (.int kd (h : Int))) none).run P w = .ok (.slice (some ⟨g, off, none⟩) h cap) w := by
  have he := elem_of hT
  have hu : P.underlying t = some (.slice (P.elem t)) := by rw [he]; exact hT.1
  rw [run_sliceAt_slice _ t _ _ _ _ hu, run_slice_h _ t _ len cap hu kd (h : Int) (by omega) (by omega), he, size_of hT, Result.andThen_ok]
  unfold sliced
  rw [Int.toNat_natCast]
  by_cases hc : cap = 0
  · rw [if_pos hc]; rfl
  · rw [if_neg hc, Nat.zero_mul]; rfl
theorem run_sliceL {t E : TypeId} {z bytes l len cap g off : Nat} {kd : IntKind} (hT : elemT P t E z bytes) (hk : l ≤ len) : (Instr.sliceAt t (.slice (some ⟨g, off, none⟩) len cap) (some (.int kd (l : Int))) none none).run P w = .ok (.slice (if cap = l then some ⟨g, off, none⟩ else some ⟨g, off + l * z, none⟩) (len - l) (cap - l)) w := by
  have he := elem_of hT
  have hu : P.underlying t = some (.slice (P.elem t)) := by rw [he]; exact hT.1
  rw [run_sliceAt_slice _ t _ _ _ _ hu, run_slice_l _ t _ len cap hu kd (l : Int) (by omega) (by omega), he, size_of hT, Result.andThen_ok]
  unfold sliced
  rw [Int.toNat_natCast]
  by_cases hc : cap = l
  · rw [if_pos hc, if_pos hc]
  · rw [if_neg hc, if_neg hc]; simp [Addr.add_mid]
theorem d_sliceH {x j : Operand} {t E : TypeId} {z bytes h len cap g off : Nat} {kd : IntKind} {i : Int} (hT : elemT P t E z bytes) (F : Fr n a kv ds) (ho : o.op = .slice t x none (some j) none) (hx : ev kv x = some (.slice (some ⟨g, off, none⟩) len cap)) (hj : ev kv j = some (.int kd i)) (hi : i = (h : Int)) (hk : h ≤ cap) :
    Does P o a w (fun y w' => y = .slice (some ⟨g, off, none⟩) h cap ∧ w' = w) := by
  subst hi
  refine does_run ?_
  unfold execOp; rw [ho]; simp only [F.ev hx, F.ev hj, Option.map_some, Option.map_none, Sem.run_bind, run_sliceH hT hk]; rfl
theorem d_sliceL {x j : Operand} {t E : TypeId} {z bytes l len cap g off : Nat} {kd : IntKind} {i : Int} (hT : elemT P t E z bytes) (F : Fr n a kv ds) (ho : o.op = .slice t x (some j) none none) (hx : ev kv x = some (.slice (some ⟨g, off, none⟩) len cap)) (hj : ev kv j = some (.int kd i)) (hi : i = (l : Int)) (hk : l ≤ len) :
    Does P o a w (fun y w' => y = .slice (if cap = l then some ⟨g, off, none⟩ else some ⟨g, off + l * z, none⟩) (len - l) (cap - l) ∧ w' = w) := by
  subst hi
  refine does_run ?_
  unfold execOp; rw [ho]; simp only [F.ev hx, F.ev hj, Option.map_some, Option.map_none, Sem.run_bind, run_sliceL hT hk]; rfl
end
end Sx
namespace Bi
theorem Rd.part {w : World} {g off len cap : Nat} {f : Nat → Bool} (h : Rd w (.slice (some ⟨g, off, none⟩) len cap) f len) (l m : Nat) (hm : l + m ≤ len) (c off' : Nat) (ho : off + l = off') :
    Rd w (.slice (some ⟨g, off', none⟩) m c) (fun i => f (l + i)) m := by
  obtain ⟨h1, ad', cap', e, hc⟩ := h
  cases e
  refine ⟨by omega, _, _, rfl, fun k hk => ?_⟩
  obtain ⟨g', o', e', hcell⟩ := hc (l + k) (by omega)
  cases e'
  exact ⟨g, off', rfl, by rw [← ho, Nat.add_assoc]; exact hcell⟩
theorem Rd.take {w : World} {ad : Option Addr} {len cap : Nat} {f : Nat → Bool} (h : Rd w (.slice ad len cap) f len) (m : Nat) (hm : m ≤ len) : Rd w (.slice ad m cap) f m := by
  obtain ⟨h1, ad', cap', e, hc⟩ := h
  cases e
  exact ⟨by omega, ad, cap, rfl, fun k hk => hc k (by omega)⟩
theorem Rd.drop {w : World} {g off len cap : Nat} {f : Nat → Bool} (h : Rd w (.slice (some ⟨g, off, none⟩) len cap) f len) (m : Nat) (hm : m ≤ len) (hl : len ≤ cap) :
    Rd w (.slice (if cap = m then some ⟨g, off, none⟩ else some ⟨g, off + m * 1, none⟩) (len - m) (cap - m)) (fun i => f (m + i)) (len - m) := by
  obtain ⟨h1, ad', cap', e, hc⟩ := h
  cases e
  refine ⟨by omega, _, _, rfl, fun k hk => ?_⟩
  have hne : cap ≠ m := by omega
  obtain ⟨g', o', e', hcell⟩ := hc (m + k) (by omega)
  cases e'
  exact ⟨g, off + m * 1, by rw [if_neg hne], by rw [Nat.mul_one, Nat.add_assoc]; exact hcell⟩
theorem Rd.congr {w : World} {v : Value} {f g : Nat → Bool} {len : Nat} (h : Rd w v f len) (hf : ∀ i, i < len → f i = g i) : Rd w v g len := by
  obtain ⟨h1, ad, cap, e, hc⟩ := h
  refine ⟨h1, ad, cap, e, fun k hk => ?_⟩
  rw [← hf k hk]; exact hc k hk
def up (x : BitVec 128) (t : Nat) (i : Nat) : Bool := if i < t then false else x.getLsbD (i - t)
def car (f g : Nat → Bool) : Nat → Bool
  | 0 => false
  | i + 1 => Bool.atLeastTwo (f i) (g i) (car f g i)
def s2 (f g : Nat → Bool) (i : Nat) : Nat := (f i).toNat + (g i).toNat
def s3 (f g : Nat → Bool) (i : Nat) : Nat := s2 f g i + (car f g i).toNat
def sb (f g : Nat → Bool) (i : Nat) : Bool := (f i ^^ (g i ^^ car f g i))
end Bi
end
section
namespace Sx
section
variable {P : Program} {ds : List Deferred} {w0 w : World} {a : Act} {o : Oper} {n : Nat} {kv : List (Nat × Value)} {bs : List Bx} {rs : List Rx} {K : Nat → Option Obj}
theorem d_nil {x : Operand} {p : Addr} (F : Fr n a kv ds) (ho : o.op = .nilCheck x) (hx : ev kv x = some (.pointer (some p))) : Does P o a w (fun y w' => y = .pointer (some p) ∧ w' = w) := by
  refine does_run ?_
  unfold execOp; rw [ho]; simp only [F.ev hx]; rfl
theorem size_elem {t E : TypeId} {z bytes : Nat} (hT : elemT P t E z bytes) : (sizeOf E).run P w = .ok z w := by
  have := hT.2
  cases hq : P.info? E with
  | none => rw [hq] at this; cases this
  | some i =>
    rw [hq] at this
    simp only [Option.map_some, Option.some.injEq, Prod.mk.injEq] at this
    simp [sizeOf, typeInfo, hq, this.2.1]
theorem run_ixZ {t E : TypeId} {z bytes k len cap g off : Nat} {kd : IntKind} (hT : elemT P t E z bytes) (hk : k < len) : (Instr.indexAt t (.slice (some ⟨g, off, none⟩) len cap) (.int kd (k : Int))).run P w = .ok (.pointer (some ⟨g, off + k * z, none⟩)) w := by
  have hb : (0 : Int) ≤ (k : Int) ∧ (k : Int) < (len : Int) := by omega
  simp only [Instr.indexAt, asIntOf, Sem.run_bind, Sem.run_pure, Result.andThen_ok, run_underlying hT.1, if_pos hb, size_elem hT]
  simp [Addr.add_mid]
theorem d_ixZ {x y : Operand} {t E : TypeId} {z bytes k len cap g off : Nat} {kd : IntKind} {ad : Option Addr} {j : Int} (hT : elemT P t E z bytes) (F : Fr n a kv ds) (ho : o.op = .indexAddr t x y) (hx : ev kv x = some (.slice ad len cap)) (had : ad = some ⟨g, off, none⟩) (hy : ev kv y = some (.int kd j)) (hj : j = (k : Int)) (hk : k < len) :
    Does P o a w (fun y w' => y = .pointer (some ⟨g, off + k * z, none⟩) ∧ w' = w) := by
  subst had; subst hj
  exact d_iaddr F ho hx hy (run_ixZ hT hk)
theorem d_loadF2 {T : TypeId} {x : Operand} {b k : Nat} {c0 c1 : Value} (hT : rowT P T 2) (F : Fr n a kv ds) (H : Own w0 w bs rs K) (ho : o.op = .load T x) (hx : ev kv x = some (.pointer (some ⟨b, k, none⟩))) (h0 : w0.cell? ⟨b, k, none⟩ = some c0) (h1 : w0.cell? ⟨b, k + 1, none⟩ = some c1) :
    Does P o a w (fun x w' => x = .agg #[c0, c1] ∧ w' = w) := by
  obtain ⟨⟨d, hu, hd⟩, hs⟩ := hT.row
  have l0 : w.cell? ⟨b, k, none⟩ = some c0 := (H.below.cell (p := ⟨b, k, none⟩) (lt_cell h0)).trans h0
  have l1 : w.cell? ⟨b, k + 1, none⟩ = some c1 := (H.below.cell (p := ⟨b, k + 1, none⟩) (lt_cell h1)).trans h1
  refine does_run ?_
  have hr := run_loadAt_mid (P := P) w b k T [c0, c1] d (fun j u hj => by
    match j, hj with
    | 0, hj => rw [← Option.some.inj hj]; exact l0
    | 1, hj => rw [← Option.some.inj hj]; exact l1
    | j + 2, hj => cases hj) hu hd (by rw [hs]; rfl)
  unfold execOp; rw [ho]; simp only [F.ev hx, Sem.run_bind, hr]; rfl
theorem d_callO {f : FuncId} {xs : Array Operand} {ts : Array TypeId} {vs : List Value} {R : Value → World → Prop} (hf : isFn P f) (F : Fr n a kv ds) (ho : o.op = .call { callee := .value (.func f), args := xs, argTypes := ts }) (hxs : xs.toList.map (ev kv) = vs.map some)
    (hc : Calls P f vs.toArray w fun e w' => ∃ x, e = .returned x ∧ R x w') : Does P o a w R := does_calls (by rw [run_call F ho hxs]; exact hf _ w) hc
theorem so {d : Nat} {ops : Array Oper} {rest : List Oper} {Q : Exit → Act → World → Prop} {x : Value} {R : Value → World → Prop} (F : Fr n a kv ds) (D : Does P o a w (fun y w' => y = x ∧ ∃ v, R v w')) (hg : Region.wanted o (yielded ops a.tmps) = true) (hd : o.dst = some d) (hn : d < n)
    (h : ∀ v a' w', Fr n a' ((d, x) :: kv) ds → R v w' → wpList P ops Q rest a' w') : wpList P ops Q (o :: rest) a w := by
  refine step hg D ?_
  rintro y w' ⟨rfl, v, r⟩
  rw [hd]
  exact h v _ _ (F.put hn _) r
theorem Own.tailB {p : Bx} (h : Own w0 w (p :: bs) rs K) : Own w0 w bs rs K :=
  ⟨h.below, fun i b vs hi => h.box (i + 1) b vs hi, fun i j b vs us hi hj => by have := h.nd (i + 1) (j + 1) b vs us hi hj; omega, h.row, fun i j b vs r hi hj ho => h.rb (i + 1) j b vs r hi hj ho, h.rr, fun k o hk => by
    obtain ⟨a, b, c, d⟩ := h.kp k o hk
    exact ⟨a, b, fun i vs hi => c (i + 1) vs hi, d⟩⟩
theorem Own.join {w1 : World} {cs : List Bx} {ts : List Rx} (h : Own w0 w bs rs K) (k : Own w w1 cs ts) : Own w0 w1 (cs ++ bs) (ts ++ rs) K := by
  have q := h.call k.below
  have hb : ∀ {i b : Nat} {vs : List Value}, (cs ++ bs)[i]? = some (true, b, vs) → (i < cs.length ∧ cs[i]? = some (true, b, vs)) ∨ (cs.length ≤ i ∧ bs[i - cs.length]? = some (true, b, vs)) := by
    intro i b vs hi
    by_cases hl : i < cs.length
    · rw [List.getElem?_append_left hl] at hi; exact .inl ⟨hl, hi⟩
    · rw [List.getElem?_append_right (by omega)] at hi; exact .inr ⟨by omega, hi⟩
  have hr : ∀ {i : Nat} {r : Rx}, (ts ++ rs)[i]? = some r → (i < ts.length ∧ ts[i]? = some r) ∨ (ts.length ≤ i ∧ rs[i - ts.length]? = some r) := by
    intro i r hi
    by_cases hl : i < ts.length
    · rw [List.getElem?_append_left hl] at hi; exact .inl ⟨hl, hi⟩
    · rw [List.getElem?_append_right (by omega)] at hi; exact .inr ⟨by omega, hi⟩
  have oldB : ∀ {i b : Nat} {vs : List Value}, bs[i]? = some (true, b, vs) → b < w.heap.size := fun hi => (h.box _ _ _ hi).2.2
  have newB : ∀ {i b : Nat} {vs : List Value}, cs[i]? = some (true, b, vs) → w.heap.size ≤ b := fun hi => (k.box _ _ _ hi).2.1
  have oldR : ∀ {i g : Nat} {r : Rx}, rs[i]? = some r → r.on = true → r.v.ownBlock = some g → g < w.heap.size := fun hi ho hg => (h.rowLt hi ho hg).2
  have newR : ∀ {i g : Nat} {r : Rx}, ts[i]? = some r → r.on = true → r.v.ownBlock = some g → w.heap.size ≤ g := fun hi ho hg => (k.rowLt hi ho hg).1
  refine ⟨q.below, fun i b vs hi => ?_, fun i j b vs us hi hj => ?_, fun i r hi ho => ?_, fun i j b vs r hi hj ho hg => ?_, fun i j g r s hi hj ho hs h1 h2 => ?_, fun q o hq => by
    obtain ⟨a, b, c, d⟩ := h.kp q o hq
    have lt := kplt a
    refine ⟨(k.below.block q lt).trans a, b, fun i vs hi => ?_, fun i r hi ho hg => ?_⟩
    · rcases hb hi with ⟨_, e⟩ | ⟨_, e⟩
      · have := newB e; omega
      · exact c _ vs e
    · rcases hr hi with ⟨_, e⟩ | ⟨_, e⟩
      · have := newR e ho hg; omega
      · exact d _ r e ho hg⟩
  · rcases hb hi with ⟨_, e⟩ | ⟨_, e⟩
    · obtain ⟨a1, a2, a3⟩ := k.box _ _ _ e
      exact ⟨a1, Nat.le_trans h.below.size a2, a3⟩
    · exact q.box _ _ _ e
  · rcases hb hi with ⟨l1, e1⟩ | ⟨l1, e1⟩ <;> rcases hb hj with ⟨l2, e2⟩ | ⟨l2, e2⟩
    · exact k.nd _ _ _ _ _ e1 e2
    · have := newB e1; have := oldB e2; omega
    · have := newB e2; have := oldB e1; omega
    · have := h.nd _ _ _ _ _ e1 e2; omega
  · rcases hr hi with ⟨_, e⟩ | ⟨_, e⟩
    · have := k.row _ _ e ho
      refine ⟨this.1, ?_⟩
      rcases this.2 with e | ⟨g, cap, cur, e1, e2, e3⟩
      · exact .inl e
      · exact .inr ⟨g, cap, cur, e1, Nat.le_trans h.below.size e2, e3⟩
    · exact q.row _ _ e ho
  · rcases hb hi with ⟨_, e1⟩ | ⟨_, e1⟩ <;> rcases hr hj with ⟨_, e2⟩ | ⟨_, e2⟩
    · exact k.rb _ _ _ _ _ e1 e2 ho hg
    · have := newB e1; have := oldR e2 ho hg; omega
    · have := oldB e1; have := newR e2 ho hg; omega
    · exact h.rb _ _ _ _ _ e1 e2 ho hg
  · rcases hr hi with ⟨l1, e1⟩ | ⟨l1, e1⟩ <;> rcases hr hj with ⟨l2, e2⟩ | ⟨l2, e2⟩
    · exact k.rr _ _ _ _ _ e1 e2 ho hs h1 h2
    · have := newR e1 ho h1; have := oldR e2 hs h2; omega
    · have := newR e2 hs h2; have := oldR e1 ho h1; omega
    · have := h.rr _ _ _ _ _ e1 e2 ho hs h1 h2; omega
theorem d_max {x y : Operand} {ts : Array TypeId} {p q r : Int} (F : Fr n a kv ds) (ho : o.op = .call { callee := .builtin .max, args := #[x, y], argTypes := ts }) (hx : ev kv x = some (.int .i64 p)) (hy : ev kv y = some (.int .i64 q)) (h : max p q = r) : Does P o a w (fun y w' => y = .int .i64 r ∧ w' = w) := by
  refine does_run ?_
  have hr : (Builtin.max_ ts o.type #[.int .i64 p, .int .i64 q]).run P w = .ok (.int .i64 r) w := by
    subst h
    simp only [Builtin.max_, List.foldlM_cons, List.foldlM_nil, Builtin.max2, Sem.run_bind, Sem.run_pure, Result.andThen_ok]
    congr 2
    rw [Int.max_def]
    split <;> split <;> omega
  unfold execOp
  simp only [ho, resolve, invoke, builtin, Sem.run_bind, Sem.run_pure, Result.andThen_ok, List.map_toArray, List.map_cons, List.map_nil, F.ev hx, F.ev hy, hr]
theorem d_min {x y : Operand} {ts : Array TypeId} {p q r : Int} (F : Fr n a kv ds) (ho : o.op = .call { callee := .builtin .min, args := #[x, y], argTypes := ts }) (hx : ev kv x = some (.int .i64 p)) (hy : ev kv y = some (.int .i64 q)) (h : min p q = r) : Does P o a w (fun y w' => y = .int .i64 r ∧ w' = w) := by
  refine does_run ?_
  have hr : (Builtin.min_ ts o.type #[.int .i64 p, .int .i64 q]).run P w = .ok (.int .i64 r) w := by
    subst h
    simp only [Builtin.min_, List.foldlM_cons, List.foldlM_nil, Builtin.min2, Sem.run_bind, Sem.run_pure, Result.andThen_ok]
    congr 2
    rw [Int.min_def]
    split <;> split <;> omega
  unfold execOp
  simp only [ho, resolve, invoke, builtin, Sem.run_bind, Sem.run_pure, Result.andThen_ok, List.map_toArray, List.map_cons, List.map_nil, F.ev hx, F.ev hy, hr]
theorem i_slnil {x y : Operand} {T E : TypeId} {ad : Option Addr} {m c : Nat} {r : Bool} (ht : P.underlying T = some (.slice E)) (h : ad.isNone = r) : (do eqGuard .eql T x y (.slice ad m c) (.slice none 0 0); binOp .eql T (.slice ad m c) (.slice none 0 0) : Sem Value).run P w = .ok (.bool r) w := by
  subst h
  have := Lib.run_eql_slice_nil (P := P) w T E ad m c 0 0 ht
  have hg : (eqGuard .eql T x y (.slice ad m c) (.slice none 0 0)).run P w = .ok () w := by simp [eqGuard]
  rw [Sem.run_bind, hg]; exact this
theorem oo {f : FuncId} {args : Array Value} {x : Value} {R : Value → World → Prop} (h : Calls P f args w fun e w' => e = .returned x ∧ ∃ v, R v w') : Calls P f args w fun e w' => ∃ y, e = .returned y ∧ (y = x ∧ ∃ v, R v w') :=
  h.mono fun _ _ ⟨e, r⟩ => ⟨_, e, rfl, r⟩
end
variable {w : World}
end Sx
end
section
namespace Tb
def Rd (w : World) (v : Value) (l : List R) : Prop := ∃ ad cap, v = .slice ad l.length cap ∧ ∀ k r, l[k]? = some r → ∃ g o, ad = some ⟨g, o, none⟩ ∧ w.cell? ⟨g, o + k * 2, none⟩ = some (.int .i64 r.1) ∧ w.cell? ⟨g, o + k * 2 + 1, none⟩ = some (.int .u64 (r.2.toNat : Nat))
theorem Rd.lift {w w' : World} {v : Value} {l : List R} (h : Rd w v l) (hb : Below w.heap.size w w') : Rd w' v l := by
  obtain ⟨ad, cap, rfl, hc⟩ := h
  refine ⟨ad, cap, rfl, fun k r hk => ?_⟩
  obtain ⟨g, o, e, h1, h2⟩ := hc k r hk
  exact ⟨g, o, e, (hb.cell (p := ⟨g, o + k * 2, none⟩) (lt_cell h1)).trans h1, (hb.cell (p := ⟨g, o + k * 2 + 1, none⟩) (lt_cell h2)).trans h2⟩
theorem Rd.row {w : World} {lo : Nat} {E : TypeId} {v : Value} {l : List R} (h : w.ownsRow lo E 2 v l.length (cells l)) : Rd w v l := by
  rcases h.2 with ⟨rfl, e⟩ | ⟨g, cap, cur, rfl, _⟩
  · rw [List.length_eq_zero_iff] at e
    subst e
    exact ⟨none, 0, rfl, fun k r hk => by simp at hk⟩
  · refine ⟨_, cap, rfl, fun k r hk => ?_⟩
    have hkl := (List.getElem?_eq_some_iff.1 hk).1
    obtain ⟨a1, a2⟩ := cells_at l k r hk
    exact ⟨g, 0, rfl, by rw [Nat.zero_add, World.ownsRow.cellAt h _ (by omega), a1], by rw [Nat.zero_add, World.ownsRow.cellAt h _ (by omega), a2]⟩
def See (w : World) (tb : Nat) (s : S) : Prop := ∃ v, w.cell? ⟨tb, 0, none⟩ = some v ∧ w.cell? ⟨tb, 1, none⟩ = some (.int .i64 s.n) ∧ Rd w v s.l
theorem See.lift {w w' : World} {tb : Nat} {s : S} (h : See w tb s) (hb : Below w.heap.size w w') : See w' tb s := by
  obtain ⟨v, h1, h2, h3⟩ := h
  exact ⟨v, (hb.cell (p := ⟨tb, 0, none⟩) (lt_cell h1)).trans h1, (hb.cell (p := ⟨tb, 1, none⟩) (lt_cell h2)).trans h2, h3.lift hb⟩
theorem See.own {K : Nat → Option Obj} {w0 w : World} {bs : List Sx.Bx} {rs : List Sx.Rx} {i j tb : Nat} {v : Value} {E : TypeId} {s : S} (H : Sx.Own w0 w bs rs K) (hi : bs[i]? = some (true, tb, [v, .int .i64 s.n])) (hj : rs[j]? = some ⟨true, v, E, 2, s.l.length, cells s.l⟩) : See w tb s := by
  have hb := (H.box i tb _ hi).1
  have hr : w.ownsRow w0.heap.size E 2 v s.l.length (cells s.l) := H.row j _ hj rfl
  exact ⟨v, (hb 0 _ rfl).1, (hb 1 _ rfl).1, Rd.row hr⟩
def hs (l : List R) : List Value := l.map fun r => .int .i64 r.1
def S.act (s : S) (d h : Int) (x : BitVec 64) : S := if d = 0 then s.add x else if d = 1 then s.drop h else if d = 2 then s.lay h x else if d = 3 then s.goes h else s
theorem S.ok.act {s : S} (o : s.ok) (d h : Int) (x : BitVec 64) : (s.act d h x).ok := by
  unfold S.act
  split
  · exact o.add x
  · split
    · exact o.drop h
    · split
      · exact o.lay h x
      · split
        · exact o.goes h
        · exact o
end Tb
namespace Sx
section
variable {P : Program} {ds : List Deferred} {w : World}
end
variable {w : World}
end Sx
end
section
namespace Tb
def S.map (s : S) (f : BitVec 64 → BitVec 64) : S := ⟨s.l.map (fun r => (r.1, f r.2)), s.n⟩
theorem S.ok.map {s : S} (o : s.ok) (f : BitVec 64 → BitVec 64) : (s.map f).ok := by
  refine ⟨by unfold S.map; rw [List.length_map]; exact o.few, ?_, fun r hr => ?_, o.n0, o.n1⟩
  · unfold S.map; rw [List.pairwise_map]; exact o.rise
  · unfold S.map at hr
    obtain ⟨q, hq, rfl⟩ := List.mem_map.1 hr
    exact o.low q hq
def iv (l : List Int) : List Value := l.map fun z => .int .i64 z
def RdI (w : World) (v : Value) (l : List Int) : Prop := l.length ≤ 1000000 ∧ ∃ ad cap, v = .slice ad l.length cap ∧ ∀ k, k < l.length → ∃ g o, ad = some ⟨g, o, none⟩ ∧ w.cell? ⟨g, o + k, none⟩ = some (.int .i64 (l.getD k 0))
theorem RdI.row {w : World} {lo : Nat} {E : TypeId} {v : Value} {l : List Int} {m : Nat} {xs : List Value} (h : w.ownsRow lo E 1 v m xs) (e : xs = iv l) (hl : l.length ≤ 1000000) : RdI w v l := by
  subst e
  have hm : l.length = m := by have := h.1; unfold iv at this; rw [List.length_map] at this; omega
  subst hm
  refine ⟨hl, ?_⟩
  rcases h.2 with ⟨rfl, e⟩ | ⟨g, cap, cur, rfl, _⟩
  · exact ⟨none, 0, by rw [e], fun k hk => absurd hk (by omega)⟩
  · refine ⟨_, cap, rfl, fun k hk => ⟨g, 0, rfl, ?_⟩⟩
    rw [Nat.zero_add, World.ownsRow.cellAt h k (by omega)]
    unfold iv
    rw [List.getElem?_map, List.getElem?_eq_getElem hk, List.getD_eq_getElem?_getD, List.getElem?_eq_getElem hk]; rfl
theorem RdI.lift {w w' : World} {v : Value} {l : List Int} (h : RdI w v l) (hb : Below w.heap.size w w') : RdI w' v l := by
  obtain ⟨hl, ad, cap, rfl, hc⟩ := h
  refine ⟨hl, ad, cap, rfl, fun k hk => ?_⟩
  obtain ⟨g, o, e, h1⟩ := hc k hk
  exact ⟨g, o, e, (hb.cell (p := ⟨g, o + k, none⟩) (lt_cell h1)).trans h1⟩
def kept (h : Int) (l : List R) (i : Nat) : List R := (l.take i).filter (fun r => r.1 != h)
end Tb
namespace Sx
section
variable {P : Program} {ds : List Deferred} {w0 w : World} {a : Act} {o : Oper} {n : Nat} {kv : List (Nat × Value)} {bs : List Bx} {rs : List Rx} {K : Nat → Option Obj}
theorem d_appendF {s x : Operand} {t E : TypeId} {z bytes i m k c : Nat} {v : Value} {xs news : List Value} {ad : Addr} (hT : elemT P t E z bytes) (F : Fr n a kv ds) (H : Own w0 w bs rs K) (ho : o.op = .call { callee := .builtin .append, args := #[s, x], argTypes := #[t, t] })
    (hs : ev kv s = some v) (hx : ev kv x = some (.slice (some ad) m c)) (hi : rs[i]? = some ⟨true, v, E, z, k, xs⟩) (hl : news.length = m * z) (hn : ∀ j u, news[j]? = some u → w0.cell? (ad.add j) = some u) (h1 : ones news = true) (hz : Nat.ble 1 z = true)
    (h63 : k + m ≤ 1000000) (hb : bytes ≤ 1000) : Does P o a w (fun y w' => ∃ v, y = v ∧ Own w0 w' bs (rs.set i ⟨true, v, E, z, k + m, xs ++ news⟩) K) := by
  obtain ⟨ht, hinf⟩ := hT
  cases hq : P.info? E with
  | none => rw [hq] at hinf; cases hinf
  | some inf =>
    rw [hq] at hinf
    simp only [Option.map_some, Option.some.injEq, Prod.mk.injEq] at hinf
    obtain ⟨hz1, hz2, hz3⟩ := hinf
    cases hzv : inf.zero with
    | none => rw [hzv] at hz1; cases hz1
    | some zv =>
      rw [hzv] at hz1
      simp only [Option.map_some, Option.some.injEq] at hz1
      have hown : w.ownsRow w0.heap.size E z v k xs := H.row i _ hi rfl
      obtain ⟨v', w', hr, h2, h3, _, h5⟩ := run_append_own_at (P := P) w w0.heap.size t o.type E inf zv z bytes ht hq hzv hz2 hz3 hz1 (Nat.le_of_ble_eq_true hz) v k xs hown ad m c news hl
        (fun j u hu => (H.below.cell (lt_cell (hn j u hu))).trans (hn j u hu)) (fun u hu => List.all_eq_true.1 h1 u hu) (by unfold maxLen; omega) (by have := Nat.mul_le_mul h63 hb; omega) H.below.size
      refine (does_run (v := v') (w' := w') ?_).mono ?_
      · unfold execOp
        simp only [ho, resolve, invoke, builtin, Sem.run_bind, Sem.run_pure, Result.andThen_ok, List.map_toArray, List.map_cons, List.map_nil, F.ev hs, F.ev hx, hr]
      · rintro y w'' ⟨rfl, rfl⟩
        exact ⟨_, rfl, H.grow hi rfl (r' := ⟨true, y, E, z, k + m, xs ++ news⟩) h2 h3 h5⟩
end
end Sx
end
theorem rw_24 : Sx.rowT Tryz.prog 24 4 := ⟨by kernel_rfl, by kernel_rfl⟩
instance : Inhabited (Sx.RowC Tryz.prog 24) := ⟨⟨4, rw_24⟩⟩
theorem sz_24 : (Tryz.prog.info? 24).map (·.size) = some 4 := by kernel_rfl
theorem zero_24 : Sx.zeroIs Tryz.prog 24 [iU 0, iU 0, iU 0, iU 0] := ⟨.agg #[iU 0, iU 0, iU 0, iU 0], rfl, fun _ => by kernel_rfl⟩
theorem rw_35 : Sx.rowT Tryz.prog 35 15 := ⟨by kernel_rfl, by kernel_rfl⟩
instance : Inhabited (Sx.RowC Tryz.prog 35) := ⟨⟨15, rw_35⟩⟩
theorem sz_35 : (Tryz.prog.info? 35).map (·.size) = some 15 := by kernel_rfl
abbrev L6 : List Value := [iI 0, iU 0, iU 0, iU 0, iU 0, iU 0, uN (Wd.hi 0#128), uN (Wd.lo 0#128), uN (Wd.hi 0#128), uN (Wd.lo 0#128), uN (Wd.hi 0#128), uN (Wd.lo 0#128), iW 0, iW 0, bF]
theorem zero_35 : Sx.zeroIs Tryz.prog 35 L6 := ⟨.agg #[iI 0, iU 0, iU 0, iU 0, iU 0, iU 0, uN (Wd.hi 0#128), uN (Wd.lo 0#128), uN (Wd.hi 0#128), uN (Wd.lo 0#128), uN (Wd.hi 0#128), uN (Wd.lo 0#128), iW 0, iW 0, bF], rfl, fun _ => by kernel_rfl⟩
instance fa_35_0 : Inhabited (Sx.FaC Tryz.prog 35 0) := ⟨⟨0, fun _ _ _ => by kernel_rfl⟩⟩
instance fa_35_1 : Inhabited (Sx.FaC Tryz.prog 35 1) := ⟨⟨1, fun _ _ _ => by kernel_rfl⟩⟩
instance fa_35_2 : Inhabited (Sx.FaC Tryz.prog 35 2) := ⟨⟨2, fun _ _ _ => by kernel_rfl⟩⟩
instance fa_35_3 : Inhabited (Sx.FaC Tryz.prog 35 3) := ⟨⟨6, fun _ _ _ => by kernel_rfl⟩⟩
instance fa_35_4 : Inhabited (Sx.FaC Tryz.prog 35 4) := ⟨⟨10, fun _ _ _ => by kernel_rfl⟩⟩
theorem rw_68 : Sx.rowT Tryz.prog 68 5 := ⟨by kernel_rfl, by kernel_rfl⟩
instance : Inhabited (Sx.RowC Tryz.prog 68) := ⟨⟨5, rw_68⟩⟩
theorem sz_68 : (Tryz.prog.info? 68).map (·.size) = some 5 := by kernel_rfl
theorem zero_68 : Sx.zeroIs Tryz.prog 68 [iI 0, iU 0, nS, nS, iI 0] := ⟨.agg #[iI 0, iU 0, nS, nS, iI 0], rfl, fun _ => by kernel_rfl⟩
instance fa_68_0 : Inhabited (Sx.FaC Tryz.prog 68 0) := ⟨⟨0, fun _ _ _ => by kernel_rfl⟩⟩
instance fa_68_1 : Inhabited (Sx.FaC Tryz.prog 68 1) := ⟨⟨1, fun _ _ _ => by kernel_rfl⟩⟩
instance fa_68_4 : Inhabited (Sx.FaC Tryz.prog 68 4) := ⟨⟨4, fun _ _ _ => by kernel_rfl⟩⟩
theorem rw_71 : Sx.rowT Tryz.prog 71 9 := ⟨by kernel_rfl, by kernel_rfl⟩
instance : Inhabited (Sx.RowC Tryz.prog 71) := ⟨⟨9, rw_71⟩⟩
theorem sz_71 : (Tryz.prog.info? 71).map (·.size) = some 9 := by kernel_rfl
theorem zero_71 : Sx.zeroIs Tryz.prog 71 [iI 0, iI 0, iI 0, iI 0, iU 0, iU 0, uN (Wd.hi 0#128), uN (Wd.lo 0#128), nS] := ⟨.agg #[iI 0, iI 0, iI 0, iI 0, iU 0, iU 0, uN (Wd.hi 0#128), uN (Wd.lo 0#128), nS], rfl, fun _ => by kernel_rfl⟩
instance fa_71_0 : Inhabited (Sx.FaC Tryz.prog 71 0) := ⟨⟨0, fun _ _ _ => by kernel_rfl⟩⟩
instance fa_71_1 : Inhabited (Sx.FaC Tryz.prog 71 1) := ⟨⟨1, fun _ _ _ => by kernel_rfl⟩⟩
instance fa_71_2 : Inhabited (Sx.FaC Tryz.prog 71 2) := ⟨⟨2, fun _ _ _ => by kernel_rfl⟩⟩
instance fa_71_3 : Inhabited (Sx.FaC Tryz.prog 71 3) := ⟨⟨3, fun _ _ _ => by kernel_rfl⟩⟩
instance fa_71_4 : Inhabited (Sx.FaC Tryz.prog 71 4) := ⟨⟨4, fun _ _ _ => by kernel_rfl⟩⟩
instance fa_71_5 : Inhabited (Sx.FaC Tryz.prog 71 5) := ⟨⟨5, fun _ _ _ => by kernel_rfl⟩⟩
instance fa_71_6 : Inhabited (Sx.FaC Tryz.prog 71 6) := ⟨⟨6, fun _ _ _ => by kernel_rfl⟩⟩
instance fa_71_7 : Inhabited (Sx.FaC Tryz.prog 71 7) := ⟨⟨8, fun _ _ _ => by kernel_rfl⟩⟩
theorem el_74 : Sx.elemT Tryz.prog 74 79 4 32 := ⟨by kernel_rfl, by kernel_rfl⟩
theorem rw_79 : Sx.rowT Tryz.prog 79 4 := ⟨by kernel_rfl, by kernel_rfl⟩
instance : Inhabited (Sx.RowC Tryz.prog 79) := ⟨⟨4, rw_79⟩⟩
theorem sz_79 : (Tryz.prog.info? 79).map (·.size) = some 4 := by kernel_rfl
theorem zero_79 : Sx.zeroIs Tryz.prog 79 L3 := ⟨L4, rfl, fun _ => by kernel_rfl⟩
instance fa_79_0 : Inhabited (Sx.FaC Tryz.prog 79 0) := ⟨⟨0, fun _ _ _ => by kernel_rfl⟩⟩
instance fa_79_1 : Inhabited (Sx.FaC Tryz.prog 79 1) := ⟨⟨2, fun _ _ _ => by kernel_rfl⟩⟩
theorem el_83 : Sx.elemT Tryz.prog 83 71 9 88 := ⟨by kernel_rfl, by kernel_rfl⟩
theorem el_86 : Sx.elemT Tryz.prog 86 68 5 72 := ⟨by kernel_rfl, by kernel_rfl⟩
theorem one_114 : Sx.oneT Tryz.prog 114 := ⟨fun _ => by kernel_rfl, by kernel_rfl⟩
instance : Inhabited (Sx.OneC Tryz.prog 114) := ⟨⟨one_114⟩⟩
theorem sz_114 : (Tryz.prog.info? 114).map (·.size) = some 1 := by kernel_rfl
theorem one_158 : Sx.oneT Tryz.prog 158 := ⟨fun _ => by kernel_rfl, by kernel_rfl⟩
instance : Inhabited (Sx.OneC Tryz.prog 158) := ⟨⟨one_158⟩⟩
theorem one_161 : Sx.oneT Tryz.prog 161 := ⟨fun _ => by kernel_rfl, by kernel_rfl⟩
instance : Inhabited (Sx.OneC Tryz.prog 161) := ⟨⟨one_161⟩⟩
theorem one_172 : Sx.oneT Tryz.prog 172 := ⟨fun _ => by kernel_rfl, by kernel_rfl⟩
instance : Inhabited (Sx.OneC Tryz.prog 172) := ⟨⟨one_172⟩⟩
instance fa_174_0 : Inhabited (Sx.FaC Tryz.prog 174 0) := ⟨⟨0, fun _ _ _ => by kernel_rfl⟩⟩
instance fa_174_1 : Inhabited (Sx.FaC Tryz.prog 174 1) := ⟨⟨1, fun _ _ _ => by kernel_rfl⟩⟩
theorem one_206 : Sx.oneT Tryz.prog 206 := ⟨fun _ => by kernel_rfl, by kernel_rfl⟩
instance : Inhabited (Sx.OneC Tryz.prog 206) := ⟨⟨one_206⟩⟩
theorem sz_208 : (Tryz.prog.info? 208).map (·.size) = some 2 := by kernel_rfl
theorem rw_209 : Sx.rowT Tryz.prog 209 8 := ⟨by kernel_rfl, by kernel_rfl⟩
instance : Inhabited (Sx.RowC Tryz.prog 209) := ⟨⟨8, rw_209⟩⟩
theorem sz_209 : (Tryz.prog.info? 209).map (·.size) = some 8 := by kernel_rfl
theorem one_213 : Sx.oneT Tryz.prog 213 := ⟨fun _ => by kernel_rfl, by kernel_rfl⟩
instance : Inhabited (Sx.OneC Tryz.prog 213) := ⟨⟨one_213⟩⟩
theorem sz_213 : (Tryz.prog.info? 213).map (·.size) = some 1 := by kernel_rfl
theorem el_213 : Sx.elemT Tryz.prog 213 217 2 16 := ⟨by kernel_rfl, by kernel_rfl⟩
instance fa_215_0 : Inhabited (Sx.FaC Tryz.prog 215 0) := ⟨⟨0, fun _ _ _ => by kernel_rfl⟩⟩
instance fa_215_1 : Inhabited (Sx.FaC Tryz.prog 215 1) := ⟨⟨1, fun _ _ _ => by kernel_rfl⟩⟩
theorem rw_217 : Sx.rowT Tryz.prog 217 2 := ⟨by kernel_rfl, by kernel_rfl⟩
instance : Inhabited (Sx.RowC Tryz.prog 217) := ⟨⟨2, rw_217⟩⟩
theorem sz_217 : (Tryz.prog.info? 217).map (·.size) = some 2 := by kernel_rfl
theorem one_220 : Sx.oneT Tryz.prog 220 := ⟨fun _ => by kernel_rfl, by kernel_rfl⟩
instance : Inhabited (Sx.OneC Tryz.prog 220) := ⟨⟨one_220⟩⟩
instance fa_242_0 : Inhabited (Sx.FaC Tryz.prog 242 0) := ⟨⟨0, fun _ _ _ => by kernel_rfl⟩⟩
instance fa_242_2 : Inhabited (Sx.FaC Tryz.prog 242 2) := ⟨⟨2, fun _ _ _ => by kernel_rfl⟩⟩
instance fa_242_3 : Inhabited (Sx.FaC Tryz.prog 242 3) := ⟨⟨4, fun _ _ _ => by kernel_rfl⟩⟩
instance fa_242_4 : Inhabited (Sx.FaC Tryz.prog 242 4) := ⟨⟨12, fun _ _ _ => by kernel_rfl⟩⟩
instance fa_242_5 : Inhabited (Sx.FaC Tryz.prog 242 5) := ⟨⟨13, fun _ _ _ => by kernel_rfl⟩⟩
theorem one_274 : Sx.oneT Tryz.prog 274 := ⟨fun _ => by kernel_rfl, by kernel_rfl⟩
instance : Inhabited (Sx.OneC Tryz.prog 274) := ⟨⟨one_274⟩⟩
theorem sz_274 : (Tryz.prog.info? 274).map (·.size) = some 1 := by kernel_rfl
theorem zero_274 : Sx.zeroIs Tryz.prog 274 [nS] := ⟨nS, rfl, fun _ => by kernel_rfl⟩
theorem el_274 : Sx.elemT Tryz.prog 274 22 1 8 := ⟨by kernel_rfl, by kernel_rfl⟩
theorem one_285 : Sx.oneT Tryz.prog 285 := ⟨fun _ => by kernel_rfl, by kernel_rfl⟩
instance : Inhabited (Sx.OneC Tryz.prog 285) := ⟨⟨one_285⟩⟩
theorem el_285 : Sx.elemT Tryz.prog 285 4 1 1 := ⟨by kernel_rfl, by kernel_rfl⟩
theorem one_299 : Sx.oneT Tryz.prog 299 := ⟨fun _ => by kernel_rfl, by kernel_rfl⟩
instance : Inhabited (Sx.OneC Tryz.prog 299) := ⟨⟨one_299⟩⟩
theorem rw_301 : Sx.rowT Tryz.prog 301 4 := ⟨by kernel_rfl, by kernel_rfl⟩
instance : Inhabited (Sx.RowC Tryz.prog 301) := ⟨⟨4, rw_301⟩⟩
theorem sz_301 : (Tryz.prog.info? 301).map (·.size) = some 4 := by kernel_rfl
theorem zero_301 : Sx.zeroIs Tryz.prog 301 [nS, nS, iI 0, iI 0] := ⟨.agg #[nS, nS, iI 0, iI 0], rfl, fun _ => by kernel_rfl⟩
instance fa_301_0 : Inhabited (Sx.FaC Tryz.prog 301 0) := ⟨⟨0, fun _ _ _ => by kernel_rfl⟩⟩
instance fa_301_1 : Inhabited (Sx.FaC Tryz.prog 301 1) := ⟨⟨1, fun _ _ _ => by kernel_rfl⟩⟩
instance fa_301_2 : Inhabited (Sx.FaC Tryz.prog 301 2) := ⟨⟨2, fun _ _ _ => by kernel_rfl⟩⟩
instance fa_301_3 : Inhabited (Sx.FaC Tryz.prog 301 3) := ⟨⟨3, fun _ _ _ => by kernel_rfl⟩⟩
theorem rw_307 : Sx.rowT Tryz.prog 307 2 := ⟨by kernel_rfl, by kernel_rfl⟩
instance : Inhabited (Sx.RowC Tryz.prog 307) := ⟨⟨2, rw_307⟩⟩
theorem sz_307 : (Tryz.prog.info? 307).map (·.size) = some 2 := by kernel_rfl
theorem zero_307 : Sx.zeroIs Tryz.prog 307 [nS, nS] := ⟨.agg #[nS, nS], rfl, fun _ => by kernel_rfl⟩
instance fa_307_0 : Inhabited (Sx.FaC Tryz.prog 307 0) := ⟨⟨0, fun _ _ _ => by kernel_rfl⟩⟩
instance fa_307_1 : Inhabited (Sx.FaC Tryz.prog 307 1) := ⟨⟨1, fun _ _ _ => by kernel_rfl⟩⟩
theorem if_5 : If 5 := fun _ _ => by kernel_rfl
theorem if_6 : If 6 := fun _ _ => by kernel_rfl
theorem if_7 : If 7 := fun _ _ => by kernel_rfl
theorem if_17 : If 17 := fun _ _ => by kernel_rfl
theorem if_18 : If 18 := fun _ _ => by kernel_rfl
theorem if_19 : If 19 := fun _ _ => by kernel_rfl
theorem if_20 : If 20 := fun _ _ => by kernel_rfl
theorem if_21 : If 21 := fun _ _ => by kernel_rfl
theorem if_22 : If 22 := fun _ _ => by kernel_rfl
theorem if_23 : If 23 := fun _ _ => by kernel_rfl
theorem if_24 : If 24 := fun _ _ => by kernel_rfl
theorem if_25 : If 25 := fun _ _ => by kernel_rfl
theorem if_26 : If 26 := fun _ _ => by kernel_rfl
theorem if_43 : If 43 := fun _ _ => by kernel_rfl
theorem if_44 : If 44 := fun _ _ => by kernel_rfl
theorem if_46 : If 46 := fun _ _ => by kernel_rfl
theorem if_49 : If 49 := fun _ _ => by kernel_rfl
theorem if_50 : If 50 := fun _ _ => by kernel_rfl
theorem if_53 : If 53 := fun _ _ => by kernel_rfl
theorem if_54 : If 54 := fun _ _ => by kernel_rfl
theorem if_55 : If 55 := fun _ _ => by kernel_rfl
theorem if_56 : If 56 := fun _ _ => by kernel_rfl
theorem if_58 : If 58 := fun _ _ => by kernel_rfl
theorem if_59 : If 59 := fun _ _ => by kernel_rfl
theorem if_60 : If 60 := fun _ _ => by kernel_rfl
theorem if_61 : If 61 := fun _ _ => by kernel_rfl
theorem if_62 : If 62 := fun _ _ => by kernel_rfl
theorem if_70 : If 70 := fun _ _ => by kernel_rfl
theorem if_71 : If 71 := fun _ _ => by kernel_rfl
theorem if_72 : If 72 := fun _ _ => by kernel_rfl
theorem if_74 : If 74 := fun _ _ => by kernel_rfl
theorem if_77 : If 77 := fun _ _ => by kernel_rfl
theorem if_78 : If 78 := fun _ _ => by kernel_rfl
theorem if_81 : If 81 := fun _ _ => by kernel_rfl
theorem if_82 : If 82 := fun _ _ => by kernel_rfl
theorem if_83 : If 83 := fun _ _ => by kernel_rfl
theorem if_84 : If 84 := fun _ _ => by kernel_rfl
theorem if_86 : If 86 := fun _ _ => by kernel_rfl
theorem if_87 : If 87 := fun _ _ => by kernel_rfl
theorem if_88 : If 88 := fun _ _ => by kernel_rfl
theorem if_89 : If 89 := fun _ _ => by kernel_rfl
theorem if_91 : If 91 := fun _ _ => by kernel_rfl
theorem if_93 : If 93 := fun _ _ => by kernel_rfl
theorem if_94 : If 94 := fun _ _ => by kernel_rfl
theorem if_95 : If 95 := fun _ _ => by kernel_rfl
theorem if_96 : If 96 := fun _ _ => by kernel_rfl
theorem if_97 : If 97 := fun _ _ => by kernel_rfl
theorem if_98 : If 98 := fun _ _ => by kernel_rfl
theorem if_99 : If 99 := fun _ _ => by kernel_rfl
theorem if_100 : If 100 := fun _ _ => by kernel_rfl
theorem if_102 : If 102 := fun _ _ => by kernel_rfl
theorem if_105 : If 105 := fun _ _ => by kernel_rfl
theorem if_106 : If 106 := fun _ _ => by kernel_rfl
theorem if_119 : If 119 := fun _ _ => by kernel_rfl
theorem if_121 : If 121 := fun _ _ => by kernel_rfl
theorem if_122 : If 122 := fun _ _ => by kernel_rfl
theorem if_123 : If 123 := fun _ _ => by kernel_rfl
theorem if_124 : If 124 := fun _ _ => by kernel_rfl
theorem if_126 : If 126 := fun _ _ => by kernel_rfl
theorem if_127 : If 127 := fun _ _ => by kernel_rfl
theorem if_128 : If 128 := fun _ _ => by kernel_rfl
theorem if_129 : If 129 := fun _ _ => by kernel_rfl
theorem if_130 : If 130 := fun _ _ => by kernel_rfl
theorem if_131 : If 131 := fun _ _ => by kernel_rfl
theorem if_134 : If 134 := fun _ _ => by kernel_rfl
theorem if_135 : If 135 := fun _ _ => by kernel_rfl
theorem if_137 : If 137 := fun _ _ => by kernel_rfl
theorem if_138 : If 138 := fun _ _ => by kernel_rfl
theorem if_140 : If 140 := fun _ _ => by kernel_rfl
theorem if_141 : If 141 := fun _ _ => by kernel_rfl
theorem if_142 : If 142 := fun _ _ => by kernel_rfl
theorem if_145 : If 145 := fun _ _ => by kernel_rfl
theorem if_146 : If 146 := fun _ _ => by kernel_rfl
theorem if_147 : If 147 := fun _ _ => by kernel_rfl
theorem if_148 : If 148 := fun _ _ => by kernel_rfl
theorem if_149 : If 149 := fun _ _ => by kernel_rfl
theorem if_150 : If 150 := fun _ _ => by kernel_rfl
theorem if_151 : If 151 := fun _ _ => by kernel_rfl
theorem if_152 : If 152 := fun _ _ => by kernel_rfl
theorem if_153 : If 153 := fun _ _ => by kernel_rfl
theorem if_157 : If 157 := fun _ _ => by kernel_rfl
theorem if_158 : If 158 := fun _ _ => by kernel_rfl
theorem if_159 : If 159 := fun _ _ => by kernel_rfl
theorem if_162 : If 162 := fun _ _ => by kernel_rfl
theorem if_190 : If 190 := fun _ _ => by kernel_rfl
theorem if_202 : If 202 := fun _ _ => by kernel_rfl
theorem if_203 : If 203 := fun _ _ => by kernel_rfl
theorem if_204 : If 204 := fun _ _ => by kernel_rfl
theorem if_205 : If 205 := fun _ _ => by kernel_rfl
theorem if_206 : If 206 := fun _ _ => by kernel_rfl
theorem if_207 : If 207 := fun _ _ => by kernel_rfl
theorem if_208 : If 208 := fun _ _ => by kernel_rfl
theorem if_209 : If 209 := fun _ _ => by kernel_rfl
theorem if_210 : If 210 := fun _ _ => by kernel_rfl
theorem if_211 : If 211 := fun _ _ => by kernel_rfl
theorem if_212 : If 212 := fun _ _ => by kernel_rfl
theorem if_213 : If 213 := fun _ _ => by kernel_rfl
theorem if_214 : If 214 := fun _ _ => by kernel_rfl
theorem if_215 : If 215 := fun _ _ => by kernel_rfl
theorem if_216 : If 216 := fun _ _ => by kernel_rfl
theorem if_217 : If 217 := fun _ _ => by kernel_rfl
theorem if_218 : If 218 := fun _ _ => by kernel_rfl
theorem if_219 : If 219 := fun _ _ => by kernel_rfl
theorem if_220 : If 220 := fun _ _ => by kernel_rfl
theorem if_221 : If 221 := fun _ _ => by kernel_rfl
theorem if_222 : If 222 := fun _ _ => by kernel_rfl
theorem if_223 : If 223 := fun _ _ => by kernel_rfl
theorem if_224 : If 224 := fun _ _ => by kernel_rfl
theorem if_225 : If 225 := fun _ _ => by kernel_rfl
theorem if_226 : If 226 := fun _ _ => by kernel_rfl
theorem if_227 : If 227 := fun _ _ => by kernel_rfl
theorem if_228 : If 228 := fun _ _ => by kernel_rfl
theorem if_229 : If 229 := fun _ _ => by kernel_rfl
theorem if_230 : If 230 := fun _ _ => by kernel_rfl
theorem if_231 : If 231 := fun _ _ => by kernel_rfl
theorem if_233 : If 233 := fun _ _ => by kernel_rfl
theorem if_234 : If 234 := fun _ _ => by kernel_rfl
theorem if_235 : If 235 := fun _ _ => by kernel_rfl
theorem if_236 : If 236 := fun _ _ => by kernel_rfl
theorem if_237 : If 237 := fun _ _ => by kernel_rfl
theorem if_238 : If 238 := fun _ _ => by kernel_rfl
theorem if_239 : If 239 := fun _ _ => by kernel_rfl
namespace Bi
theorem lenN_char (f : Nat → Bool) : ∀ (i k : Nat), k ≤ i → (∀ j, k ≤ j → j < i → f j = false) → (k = 0 ∨ f (k - 1) = true) → lenN f i = k
  | 0, k, h, _, _ => by have : k = 0 := by omega
                        subst this; rfl
  | i + 1, k, h, ha, ht => by
    show (if f i = true then i + 1 else lenN f i) = k
    by_cases e : k = i + 1
    · rcases ht with h0 | h1
      · omega
      · rw [e, Nat.add_sub_cancel] at h1; rw [if_pos h1, e]
    · rw [if_neg (by rw [ha i (by omega) (by omega)]; decide)]
      exact lenN_char f i k (by omega) (fun j h1 h2 => ha j h1 (by omega)) ht
theorem lenN_two (f : Nat → Bool) : ∀ m, lenN f (64 + m) = if lenN (fun j => f (64 + j)) m = 0 then lenN f 64 else 64 + lenN (fun j => f (64 + j)) m
  | 0 => rfl
  | m + 1 => by
    show (if f (64 + m) = true then 64 + m + 1 else lenN f (64 + m)) = if (if f (64 + m) = true then m + 1 else lenN (fun j => f (64 + j)) m) = 0 then lenN f 64 else 64 + (if f (64 + m) = true then m + 1 else lenN (fun j => f (64 + j)) m)
    by_cases e : f (64 + m) = true
    · rw [if_pos e, if_pos e, if_neg (by omega)]; rfl
    · rw [if_neg e, if_neg e, lenN_two f m]
theorem lenN_same {f g : Nat → Bool} : ∀ i, (∀ j, j < i → f j = g j) → lenN f i = lenN g i
  | 0, _ => rfl
  | i + 1, h => by
    show (if f i = true then i + 1 else lenN f i) = (if g i = true then i + 1 else lenN g i)
    rw [h i (by omega), lenN_same i (fun j hj => h j (by omega))]
theorem len_zero (x : BitVec 128) : len x = 0 ↔ x = 0#128 := by
  constructor
  · intro h
    apply BitVec.eq_of_getLsbD_eq
    intro i hi
    rw [lenN_above x.getLsbD 128 i (by unfold len at h; omega) hi]; simp
  · rintro rfl
    exact lenN_char _ 128 0 (by decide) (fun j _ _ => by simp) (Or.inl rfl)
end Bi
namespace Ln
def l8 (k : Nat) : Nat := if k = 0 then 0 else Nat.log2 k + 1
def tab8 : ByteArray := ⟨#[0, 1, 2, 2, 3, 3, 3, 3, 4, 4, 4, 4, 4, 4, 4, 4, 5, 5, 5, 5, 5, 5, 5, 5, 5, 5, 5, 5, 5, 5, 5, 5, 6, 6, 6, 6, 6, 6, 6, 6, 6, 6, 6, 6, 6, 6, 6, 6, 6, 6, 6, 6, 6, 6, 6, 6, 6, 6, 6, 6, 6, 6, 6, 6, 7, 7, 7, 7, 7, 7, 7, 7, 7, 7, 7, 7, 7, 7, 7, 7, 7, 7, 7, 7, 7, 7, 7, 7, 7, 7, 7, 7, 7, 7, 7, 7, 7, 7, 7, 7, 7, 7, 7, 7, 7, 7, 7, 7, 7, 7, 7, 7, 7, 7, 7, 7, 7, 7, 7, 7, 7, 7, 7, 7, 7, 7, 7, 7, 8, 8, 8, 8, 8, 8, 8, 8, 8, 8, 8, 8, 8, 8, 8, 8, 8, 8, 8, 8, 8, 8, 8, 8, 8, 8, 8, 8, 8, 8, 8, 8, 8, 8, 8, 8, 8, 8, 8, 8, 8, 8, 8, 8, 8, 8, 8, 8, 8, 8, 8, 8, 8, 8, 8, 8, 8, 8, 8, 8, 8, 8, 8, 8, 8, 8, 8, 8, 8, 8, 8, 8, 8, 8, 8, 8, 8, 8, 8, 8, 8, 8, 8, 8, 8, 8, 8, 8, 8, 8, 8, 8, 8, 8, 8, 8, 8, 8, 8, 8, 8, 8, 8, 8, 8, 8, 8, 8, 8, 8, 8, 8, 8, 8, 8, 8, 8, 8, 8, 8, 8, 8, 8, 8, 8, 8, 8, 8]⟩
theorem tabs : ∀ k : Fin 256, (tab8.data.toList[k.1]?).map UInt8.toNat = some (l8 k.1) := by decide +kernel
theorem tab (k : Nat) (h : k < 256) : (tab8.data.toList[k]?).map UInt8.toNat = some (l8 k) := tabs ⟨k, h⟩
theorem l8s : ∀ k : Fin 256, l8 k.1 ≤ 8 ∧ k.1 < 2 ^ l8 k.1 ∧ (k.1 = 0 ∧ l8 k.1 = 0 ∨ 1 ≤ l8 k.1 ∧ 2 ^ (l8 k.1 - 1) ≤ k.1) := by decide +kernel
def len64 (x : BitVec 64) : Nat := Bi.lenN x.getLsbD 64
theorem len64_le (x : BitVec 64) : len64 x ≤ 64 := Bi.lenN_le _ _
theorem bits_of (x : BitVec 64) (k : Nat) (hk : k ≤ 64) (h1 : x.toNat < 2 ^ k) (h2 : k = 0 ∨ 2 ^ (k - 1) ≤ x.toNat) : len64 x = k := by
  refine Bi.lenN_char _ 64 k hk (fun j hj _ => ?_) (h2.imp id (fun h => ?_))
  · rw [BitVec.getLsbD]
    exact Nat.testBit_lt_two_pow (Nat.lt_of_lt_of_le h1 (Nat.pow_le_pow_right (by decide) hj))
  · rw [BitVec.getLsbD, Nat.testBit_eq_decide_div_mod_eq, decide_eq_true_iff]
    by_cases h0 : k = 0
    · subst h0; rw [show x.toNat = 0 from by simpa using h1] at h; exact absurd h (by decide)
    · have e : 2 ^ k = 2 * 2 ^ (k - 1) := by rw [← Nat.pow_succ']; congr 1; omega
      have : x.toNat / 2 ^ (k - 1) = 1 := by
        refine Nat.div_eq_of_lt_le (by omega) (by omega)
      rw [this]
theorem way (x : BitVec 64) (s y : Nat) (hy : x.toNat / 2 ^ s = y) (hs : s ≤ 56) (hlt : y < 256) (h1 : s = 0 ∨ 1 ≤ y) : s + l8 (y % 256) = len64 x := by
  rw [Nat.mod_eq_of_lt hlt]
  obtain ⟨a, b, c⟩ := l8s ⟨y, hlt⟩
  dsimp only at a b c
  have hp : 0 < 2 ^ s := Nat.pow_pos (by decide)
  refine (bits_of x (s + l8 y) (by omega) ?_ ?_).symm
  · have : x.toNat / 2 ^ s < 2 ^ l8 y := by rw [hy]; exact b
    rw [Nat.div_lt_iff_lt_mul hp] at this
    rw [Nat.add_comm, Nat.pow_add]; exact this
  · rcases c with ⟨h, h'⟩ | ⟨h, h'⟩
    · left; omega
    · right
      have : 2 ^ (l8 y - 1) ≤ x.toNat / 2 ^ s := by rw [hy]; exact h'
      rw [Nat.le_div_iff_mul_le hp] at this
      rw [show s + l8 y - 1 = (l8 y - 1) + s from by omega, Nat.pow_add]; exact this
theorem len_big (a : BitVec 128) (h : 0 < (Wd.hi a).toNat) : 64 + len64 (Wd.hi a) = Bi.len a := by
  have hne : len64 (Wd.hi a) ≠ 0 := by
    intro e
    have : Wd.hi a = 0#64 := BitVec.eq_of_getLsbD_eq (fun i hi => by
      rw [Bi.lenN_above (Wd.hi a).getLsbD 64 i (by unfold len64 at e; omega) hi]; simp)
    rw [this] at h; exact absurd h (by decide)
  unfold Bi.len
  show _ = Bi.lenN a.getLsbD (64 + 64)
  rw [Bi.lenN_two, Bi.lenN_same (f := fun j => a.getLsbD (64 + j)) (g := (Wd.hi a).getLsbD) 64 (fun j hj => (Wd.hi_bit a j hj).symm), if_neg (show ¬ Bi.lenN (Wd.hi a).getLsbD 64 = 0 from hne)]; rfl
theorem len_small (a : BitVec 128) (h : (Wd.hi a).toNat = 0) : len64 (Wd.lo a) = Bi.len a := by
  have h0 : Wd.hi a = 0#64 := BitVec.eq_of_toNat_eq h
  have e : Bi.lenN (fun j => a.getLsbD (64 + j)) 64 = 0 := Bi.lenN_char _ 64 0 (by decide) (fun j _ hj => by rw [← Wd.hi_bit a j hj, h0]; simp) (Or.inl rfl)
  unfold Bi.len
  show _ = Bi.lenN a.getLsbD (64 + 64)
  rw [Bi.lenN_two, if_pos e]
  exact Bi.lenN_same 64 (fun j hj => Wd.lo_bit a j hj)
end Ln
namespace Wd
def cmpN (x y : Nat) : Int := if x < y then -1 else if x = y then 0 else 1
theorem cmpN_lt {x y : Nat} (h : x < y) : cmpN x y = -1 := if_pos h
theorem cmpN_eq {x y : Nat} (h : x = y) : cmpN x y = 0 := by unfold cmpN; rw [if_neg (by omega), if_pos h]
theorem cmpN_gt {x y : Nat} (h : y < x) : cmpN x y = 1 := by unfold cmpN; rw [if_neg (by omega), if_neg (by omega)]
def cmp (a b : BitVec 128) : Int := cmpN a.toNat b.toNat
theorem cmp_hi (a b : BitVec 128) (h : (hi a).toNat ≠ (hi b).toNat) : cmpN (hi a).toNat (hi b).toNat = cmp a b := by
  have := nat_split a; have := nat_split b
  have := (lo a).isLt; have := (lo b).isLt
  unfold cmp
  rcases Nat.lt_trichotomy (hi a).toNat (hi b).toNat with l | l | l
  · rw [cmpN_lt l, cmpN_lt (by omega)]
  · exact absurd l h
  · rw [cmpN_gt l, cmpN_gt (by omega)]
theorem cmp_lo (a b : BitVec 128) (h : (hi a).toNat = (hi b).toNat) : cmpN (lo a).toNat (lo b).toNat = cmp a b := by
  have := nat_split a; have := nat_split b
  unfold cmp
  rcases Nat.lt_trichotomy (lo a).toNat (lo b).toNat with l | l | l
  · rw [cmpN_lt l, cmpN_lt (by omega)]
  · rw [cmpN_eq l, cmpN_eq (by omega)]
  · rw [cmpN_gt l, cmpN_gt (by omega)]
theorem bit_big (a : BitVec 128) (i : Nat) (h : 128 ≤ i) : bit a i = 0 := by
  unfold bit; rw [BitVec.getLsbD_of_ge a i h]; rfl
end Wd
end Go.Proofs.YteecadoakmdibaaGreat
