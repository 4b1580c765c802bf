/- Rows of structs; slices that lose a part; function values; what a call hands over. -/
import Derived.Test.YtpbdffmgendboabTbPlain
import Derived.Lib.SliceRun
import Derived.Test.YtpbdffmgendboabSl6
namespace Go.Proofs.Ytpbdffmgendboab
open Go Go.RowKit
namespace Sx
section
variable {P : Program} {w0 w : World} {a : Act} {o : Oper} {n : Nat} {kv : List (Nat × Value)} {bs : List Bx} {rs : List Rx} {K : Nat → Option Obj}
theorem d_nil {x : Operand} {p : Addr} (F : Fr n a kv) (ho : o.op = .nilCheck x) (hx : ev kv x = some (.pointer (some p))) : Does P o a w (fun y w' => y = .pointer (some p) ∧ w' = w) := by
  refine does_run ?_
  unfold execOp; rw [ho]; simp only [F.ev hx]; rfl
theorem size_elem {t E : TypeId} {z bytes : Nat} (hT : elemT P t E z bytes) : (sizeOf E).run P w = .ok z w := by
  have := hT.2
  cases hq : P.info? E with
  | none => rw [hq] at this; cases this
  | some i =>
    rw [hq] at this
    simp only [Option.map_some, Option.some.injEq, Prod.mk.injEq] at this
    simp [sizeOf, typeInfo, hq, this.2.1]
theorem run_ixZ {t E : TypeId} {z bytes k len cap g off : Nat} {kd : IntKind} (hT : elemT P t E z bytes) (hk : k < len) : (Instr.indexAt t (.slice (some ⟨g, off, none⟩) len cap) (.int kd (k : Int))).run P w = .ok (.pointer (some ⟨g, off + k * z, none⟩)) w := by
  have hb : (0 : Int) ≤ (k : Int) ∧ (k : Int) < (len : Int) := by omega
  simp only [Instr.indexAt, asIntOf, Sem.run_bind, Sem.run_pure, Result.andThen_ok, run_underlying hT.1, if_pos hb, size_elem hT]
  simp [Addr.add_mid]
theorem d_ixZ {x y : Operand} {t E : TypeId} {z bytes k len cap g off : Nat} {kd : IntKind} {ad : Option Addr} {j : Int} (hT : elemT P t E z bytes) (F : Fr n a kv) (ho : o.op = .indexAddr t x y) (hx : ev kv x = some (.slice ad len cap)) (had : ad = some ⟨g, off, none⟩) (hy : ev kv y = some (.int kd j)) (hj : j = (k : Int)) (hk : k < len) :
    Does P o a w (fun y w' => y = .pointer (some ⟨g, off + k * z, none⟩) ∧ w' = w) := by
  subst had; subst hj
  exact d_iaddr F ho hx hy (run_ixZ hT hk)
theorem d_ixRZ {x y : Operand} {t E : TypeId} {z bytes k len cap g : Nat} {kd : IntKind} {j : Int} (hT : elemT P t E z bytes) (F : Fr n a kv) (ho : o.op = .indexAddr t x y) (hx : ev kv x = some (.slice (some ⟨g, 0, none⟩) len cap)) (hy : ev kv y = some (.int kd j)) (hj : j = (k : Int)) (hk : k < len) :
    Does P o a w (fun y w' => y = .pointer (some ⟨g, k * z, none⟩) ∧ w' = w) := by
  have := d_ixZ (w := w) hT F ho hx rfl hy hj hk
  rw [Nat.zero_add] at this
  exact this
theorem d_loadF2 {T : TypeId} {x : Operand} {b k : Nat} {c0 c1 : Value} (hT : rowT P T 2) (F : Fr n a kv) (H : Own w0 w bs rs K) (ho : o.op = .load T x) (hx : ev kv x = some (.pointer (some ⟨b, k, none⟩))) (h0 : w0.cell? ⟨b, k, none⟩ = some c0) (h1 : w0.cell? ⟨b, k + 1, none⟩ = some c1) :
    Does P o a w (fun x w' => x = .agg #[c0, c1] ∧ w' = w) := by
  obtain ⟨⟨d, hu, hd⟩, hs⟩ := hT.row
  have l0 : w.cell? ⟨b, k, none⟩ = some c0 := (H.below.cell (p := ⟨b, k, none⟩) (lt_cell h0)).trans h0
  have l1 : w.cell? ⟨b, k + 1, none⟩ = some c1 := (H.below.cell (p := ⟨b, k + 1, none⟩) (lt_cell h1)).trans h1
  refine does_run ?_
  have hr := run_loadAt_mid (P := P) w b k T [c0, c1] d (fun j u hj => by
    match j, hj with
    | 0, hj => rw [← Option.some.inj hj]; exact l0
    | 1, hj => rw [← Option.some.inj hj]; exact l1
    | j + 2, hj => cases hj) hu hd (by rw [hs]; rfl)
  unfold execOp; rw [ho]; simp only [F.ev hx, Sem.run_bind, hr]; rfl
theorem d_loadF3 {T : TypeId} {x : Operand} {b k : Nat} {c0 c1 c2 : Value} (hT : rowT P T 3) (F : Fr n a kv) (H : Own w0 w bs rs K) (ho : o.op = .load T x) (hx : ev kv x = some (.pointer (some ⟨b, k, none⟩))) (h0 : w0.cell? ⟨b, k, none⟩ = some c0) (h1 : w0.cell? ⟨b, k + 1, none⟩ = some c1) (h2 : w0.cell? ⟨b, k + 2, none⟩ = some c2) :
    Does P o a w (fun x w' => x = .agg #[c0, c1, c2] ∧ w' = w) := by
  obtain ⟨⟨d, hu, hd⟩, hs⟩ := hT.row
  have l0 : w.cell? ⟨b, k, none⟩ = some c0 := (H.below.cell (p := ⟨b, k, none⟩) (lt_cell h0)).trans h0
  have l1 : w.cell? ⟨b, k + 1, none⟩ = some c1 := (H.below.cell (p := ⟨b, k + 1, none⟩) (lt_cell h1)).trans h1
  have l2 : w.cell? ⟨b, k + 2, none⟩ = some c2 := (H.below.cell (p := ⟨b, k + 2, none⟩) (lt_cell h2)).trans h2
  refine does_run ?_
  have hr := run_loadAt_mid (P := P) w b k T [c0, c1, c2] d (fun j u hj => by
    match j, hj with
    | 0, hj => rw [← Option.some.inj hj]; exact l0
    | 1, hj => rw [← Option.some.inj hj]; exact l1
    | 2, hj => rw [← Option.some.inj hj]; exact l2
    | j + 3, hj => cases hj) hu hd (by rw [hs]; rfl)
  unfold execOp; rw [ho]; simp only [F.ev hx, Sem.run_bind, hr]; rfl
theorem d_loadRZ {T : TypeId} {x : Operand} {b k i cap m z : Nat} {E : TypeId} {xs : List Value} {v : Value} (hT : oneT P T) (F : Fr n a kv) (H : Own w0 w bs rs K) (ho : o.op = .load T x) (hx : ev kv x = some (.pointer (some ⟨b, k, none⟩)))
    (hi : rs[i]? = some ⟨true, .slice (some ⟨b, 0, none⟩) m cap, E, z, m, xs⟩) (hv : xs[k]? = some v) : Does P o a w (fun x w' => x = v ∧ w' = w) := by
  refine does_run ?_
  have hr0 : w.ownsRow w0.heap.size E z (.slice (some ⟨b, 0, none⟩) m cap) m xs := H.row i _ hi rfl
  have hk : k < m * z := by have := (List.getElem?_eq_some_iff.1 hv).1; rw [hr0.1] at this; exact this
  have hc : w.cell? ⟨b, k, none⟩ = some v := (World.ownsRow.cellAt hr0 k hk).trans hv
  have hr : (Instr.loadAt T (.pointer (some ⟨b, k, none⟩))).run P w = .ok v w := by
    simp only [Instr.loadAt, Instr.sureAddr, Sem.run_bind, Sem.run_pure, Result.andThen_ok, run_loadVar1 hT hc]
  unfold execOp; rw [ho]; simp only [F.ev hx, Sem.run_bind, hr]; rfl
theorem d_storeRZ {T : TypeId} {x y : Operand} {b k i cap m z : Nat} {E : TypeId} {xs ys : List Value} {v : Value} (hT : (P.info? T).map (·.size) = some 1) (F : Fr n a kv) (H : Own w0 w bs rs K) (ho : o.op = .store T x y) (hx : ev kv x = some (.pointer (some ⟨b, k, none⟩)))
    (hy : ev kv y = some v) (hc : v.cells = #[v]) (h1 : v.oneCell' = true) (hi : rs[i]? = some ⟨true, .slice (some ⟨b, 0, none⟩) m cap, E, z, m, xs⟩) (hk : k < m * z) (hys : xs.set k v = ys) :
    Does P o a w (fun _ w' => Own w0 w' bs (rs.set i ⟨true, .slice (some ⟨b, 0, none⟩) m cap, E, z, m, ys⟩) K) := by
  subst hys
  have hr0 : w.ownsRow w0.heap.size E z (.slice (some ⟨b, 0, none⟩) m cap) m xs := H.row i _ hi rfl
  have hcell : w.cell? ⟨b, k, none⟩ = xs[k]? := World.ownsRow.cellAt hr0 k hk
  have hr : (storeVar T ⟨b, k, none⟩ v).run P w = .ok () (w.setCell ⟨b, k, none⟩ v) := by
    have := run_storeCells_cells (P := P) b k [v] 0 w (fun j hj => by
        have : j = 0 := by simpa using hj
        subst this
        show (w.cell? ⟨b, k + 0, none⟩).isSome = true
        rw [Nat.add_zero, hcell, List.getElem?_eq_getElem (by rw [hr0.1]; exact hk)]; rfl) (fun j hj => by
        have : j = 0 := by simpa using hj
        subst this
        exact World.ownsRow.frozenAt hr0 k) (fun u hu => by rw [List.mem_singleton] at hu; rw [hu]; exact h1)
    simp only [Nat.add_zero] at this
    cases hq : P.info? T with
    | none => simp [hq] at hT
    | some inf =>
      have hs : inf.size = 1 := by simpa [hq] using hT
      simp [storeVar, sizeOf, typeInfo, hq, hs, hc, this, World.setCells]
  have hr' : (execOp a.eval o).run P w = .ok .skip (w.setCell ⟨b, k, none⟩ v) := by
    unfold execOp; rw [ho]
    simp only [F.ev hx, F.ev hy, Instr.storeAt, Instr.sureAddr, Sem.run_bind, Sem.run_pure, Result.andThen_ok, hr]
  refine (does_skip hr').mono ?_
  rintro _ w' rfl
  obtain ⟨h2, h3⟩ := World.ownsRow.stored hr0 k v
  exact H.grow hi rfl h2 h3 (Or.inl rfl)
theorem ev_val {F : Fr n a kv} {x : Operand} {f : FuncId} (hx : ev kv x = some (.func (.func f) #[] #[])) : a.eval x = .func (.func f) #[] #[] := F.ev hx
theorem run_callV {f : FuncId} {c : Operand} {xs : Array Operand} {ts : Array TypeId} {vs : List Value} (F : Fr n a kv) (ho : o.op = .call { callee := .value c, args := xs, argTypes := ts }) (hc : ev kv c = some (.func (.func f) #[] #[])) (hxs : xs.toList.map (ev kv) = vs.map some) :
    execOp a.eval o = callFunc f vs.toArray := by
  unfold execOp; rw [ho]
  simp only [resolve, args_eq F hxs, F.ev hc, Deferred.ofValue]
  show invoke (.fn (.func f) #[]) (#[] ++ vs.toArray) = _
  simp [invoke]
theorem d_callV {f : FuncId} {c : Operand} {xs : Array Operand} {ts : Array TypeId} {vs : List Value} {v : Value} (hf : isFn P f) (F : Fr n a kv) (H : Own w0 w bs rs K) (ho : o.op = .call { callee := .value c, args := xs, argTypes := ts }) (hc : ev kv c = some (.func (.func f) #[] #[])) (hxs : xs.toList.map (ev kv) = vs.map some)
    (hcl : Calls P f vs.toArray w fun e w' => e = .returned v ∧ Below w.heap.size w w') : Does P o a w (fun x w' => x = v ∧ Own w0 w' bs rs K) :=
  (does_enter (by rw [run_callV F ho hc hxs]; exact hf _ w) hcl).mono fun _ _ h => ⟨h.1, H.call h.2⟩
/-- a call that changes what the caller owns -/
theorem d_callO {f : FuncId} {xs : Array Operand} {ts : Array TypeId} {vs : List Value} {R : Value → World → Prop} (hf : isFn P f) (F : Fr n a kv) (ho : o.op = .call { callee := .value (.func f), args := xs, argTypes := ts }) (hxs : xs.toList.map (ev kv) = vs.map some)
    (hc : Calls P f vs.toArray w fun e w' => ∃ x, e = .returned x ∧ R x w') : Does P o a w R := does_calls (by rw [run_call F ho hxs]; exact hf _ w) hc
theorem so {d : Nat} {ops : Array Oper} {rest : List Oper} {Q : Exit → Act → World → Prop} {x : Value} {R : Value → World → Prop} (F : Fr n a kv) (D : Does P o a w (fun y w' => y = x ∧ ∃ v, R v w')) (hg : Region.wanted o (yielded ops a.tmps) = true) (hd : o.dst = some d) (hn : d < n)
    (h : ∀ v a' w', Fr n a' ((d, x) :: kv) → R v w' → wpList P ops Q rest a' w') : wpList P ops Q (o :: rest) a w := by
  refine step hg D ?_
  rintro y w' ⟨rfl, v, r⟩
  rw [hd]
  exact h v _ _ (F.put hn _) r
/-- a call that hands over a new box and a new slice -/
theorem sj {d : Nat} {ops : Array Oper} {rest : List Oper} {Q : Exit → Act → World → Prop} {R : Nat → Value → World → Prop} (F : Fr n a kv) (D : Does P o a w (fun y w' => ∃ g v, y = .pointer (some ⟨g, 0, none⟩) ∧ R g v w')) (hg : Region.wanted o (yielded ops a.tmps) = true) (hd : o.dst = some d) (hn : d < n)
    (h : ∀ g v a' w', Fr n a' ((d, .pointer (some ⟨g, 0, none⟩)) :: kv) → R g v w' → wpList P ops Q rest a' w') : wpList P ops Q (o :: rest) a w := by
  refine step hg D ?_
  rintro y w' ⟨g, v, rfl, r⟩
  rw [hd]
  exact h g v _ _ (F.put hn _) r
theorem so0 {ops : Array Oper} {rest : List Oper} {Q : Exit → Act → World → Prop} {x : Value} {R : Value → World → Prop} (F : Fr n a kv) (D : Does P o a w (fun y w' => y = x ∧ ∃ v, R v w')) (hg : Region.wanted o (yielded ops a.tmps) = true) (hd : o.dst = none)
    (h : ∀ v a' w', Fr n a' kv → R v w' → wpList P ops Q rest a' w') : wpList P ops Q (o :: rest) a w := by
  refine step hg D ?_
  rintro y w' ⟨rfl, v, r⟩
  rw [hd]
  exact h v _ _ (F.put0 _) r
theorem Own.tailB {p : Bx} (h : Own w0 w (p :: bs) rs K) : Own w0 w bs rs K :=
  ⟨h.below, fun i b vs hi => h.box (i + 1) b vs hi, fun i j b vs us hi hj => by have := h.nd (i + 1) (j + 1) b vs us hi hj; omega, h.row, fun i j b vs r hi hj ho => h.rb (i + 1) j b vs r hi hj ho, h.rr, fun k o hk => by
    obtain ⟨a, b, c, d⟩ := h.kp k o hk
    exact ⟨a, b, fun i vs hi => c (i + 1) vs hi, d⟩⟩
theorem Own.tailR {p : Rx} (h : Own w0 w bs (p :: rs) K) : Own w0 w bs rs K :=
  ⟨h.below, h.box, h.nd, fun i r hi ho => h.row (i + 1) r hi ho, fun i j b vs r hi hj ho => h.rb i (j + 1) b vs r hi hj ho, fun i j g r s hi hj ho hs h1 h2 => by have := h.rr (i + 1) (j + 1) g r s hi hj ho hs h1 h2; omega, fun k o hk => by
    obtain ⟨a, b, c, d⟩ := h.kp k o hk
    exact ⟨a, b, c, fun i r hi ho => d (i + 1) r hi ho⟩⟩
/-- what a call owns at its end, handed to its caller -/
theorem Own.join {w1 : World} {cs : List Bx} {ts : List Rx} (h : Own w0 w bs rs K) (k : Own w w1 cs ts) : Own w0 w1 (cs ++ bs) (ts ++ rs) K := by
  have q := h.call k.below
  have hb : ∀ {i b : Nat} {vs : List Value}, (cs ++ bs)[i]? = some (true, b, vs) → (i < cs.length ∧ cs[i]? = some (true, b, vs)) ∨ (cs.length ≤ i ∧ bs[i - cs.length]? = some (true, b, vs)) := by
    intro i b vs hi
    by_cases hl : i < cs.length
    · rw [List.getElem?_append_left hl] at hi; exact .inl ⟨hl, hi⟩
    · rw [List.getElem?_append_right (by omega)] at hi; exact .inr ⟨by omega, hi⟩
  have hr : ∀ {i : Nat} {r : Rx}, (ts ++ rs)[i]? = some r → (i < ts.length ∧ ts[i]? = some r) ∨ (ts.length ≤ i ∧ rs[i - ts.length]? = some r) := by
    intro i r hi
    by_cases hl : i < ts.length
    · rw [List.getElem?_append_left hl] at hi; exact .inl ⟨hl, hi⟩
    · rw [List.getElem?_append_right (by omega)] at hi; exact .inr ⟨by omega, hi⟩
  have oldB : ∀ {i b : Nat} {vs : List Value}, bs[i]? = some (true, b, vs) → b < w.heap.size := fun hi => (h.box _ _ _ hi).2.2
  have newB : ∀ {i b : Nat} {vs : List Value}, cs[i]? = some (true, b, vs) → w.heap.size ≤ b := fun hi => (k.box _ _ _ hi).2.1
  have oldR : ∀ {i g : Nat} {r : Rx}, rs[i]? = some r → r.on = true → r.v.ownBlock = some g → g < w.heap.size := fun hi ho hg => (h.rowLt hi ho hg).2
  have newR : ∀ {i g : Nat} {r : Rx}, ts[i]? = some r → r.on = true → r.v.ownBlock = some g → w.heap.size ≤ g := fun hi ho hg => (k.rowLt hi ho hg).1
  refine ⟨q.below, fun i b vs hi => ?_, fun i j b vs us hi hj => ?_, fun i r hi ho => ?_, fun i j b vs r hi hj ho hg => ?_, fun i j g r s hi hj ho hs h1 h2 => ?_, fun q o hq => by
    obtain ⟨a, b, c, d⟩ := h.kp q o hq
    have lt := kplt a
    refine ⟨(k.below.block q lt).trans a, b, fun i vs hi => ?_, fun i r hi ho hg => ?_⟩
    · rcases hb hi with ⟨_, e⟩ | ⟨_, e⟩
      · have := newB e; omega
      · exact c _ vs e
    · rcases hr hi with ⟨_, e⟩ | ⟨_, e⟩
      · have := newR e ho hg; omega
      · exact d _ r e ho hg⟩
  · rcases hb hi with ⟨_, e⟩ | ⟨_, e⟩
    · obtain ⟨a1, a2, a3⟩ := k.box _ _ _ e
      exact ⟨a1, Nat.le_trans h.below.size a2, a3⟩
    · exact q.box _ _ _ e
  · rcases hb hi with ⟨l1, e1⟩ | ⟨l1, e1⟩ <;> rcases hb hj with ⟨l2, e2⟩ | ⟨l2, e2⟩
    · exact k.nd _ _ _ _ _ e1 e2
    · have := newB e1; have := oldB e2; omega
    · have := newB e2; have := oldB e1; omega
    · have := h.nd _ _ _ _ _ e1 e2; omega
  · rcases hr hi with ⟨_, e⟩ | ⟨_, e⟩
    · have := k.row _ _ e ho
      refine ⟨this.1, ?_⟩
      rcases this.2 with e | ⟨g, cap, cur, e1, e2, e3⟩
      · exact .inl e
      · exact .inr ⟨g, cap, cur, e1, Nat.le_trans h.below.size e2, e3⟩
    · exact q.row _ _ e ho
  · rcases hb hi with ⟨_, e1⟩ | ⟨_, e1⟩ <;> rcases hr hj with ⟨_, e2⟩ | ⟨_, e2⟩
    · exact k.rb _ _ _ _ _ e1 e2 ho hg
    · have := newB e1; have := oldR e2 ho hg; omega
    · have := oldB e1; have := newR e2 ho hg; omega
    · exact h.rb _ _ _ _ _ e1 e2 ho hg
  · rcases hr hi with ⟨l1, e1⟩ | ⟨l1, e1⟩ <;> rcases hr hj with ⟨l2, e2⟩ | ⟨l2, e2⟩
    · exact k.rr _ _ _ _ _ e1 e2 ho hs h1 h2
    · have := newR e1 ho h1; have := oldR e2 hs h2; omega
    · have := newR e2 hs h2; have := oldR e1 ho h1; omega
    · have := h.rr _ _ _ _ _ e1 e2 ho hs h1 h2; omega
theorem d_max {x y : Operand} {ts : Array TypeId} {p q r : Int} (F : Fr n a kv) (ho : o.op = .call { callee := .builtin .max, args := #[x, y], argTypes := ts }) (hx : ev kv x = some (.int .i64 p)) (hy : ev kv y = some (.int .i64 q)) (h : max p q = r) : Does P o a w (fun y w' => y = .int .i64 r ∧ w' = w) := by
  refine does_run ?_
  have hr : (Builtin.max_ ts o.type #[.int .i64 p, .int .i64 q]).run P w = .ok (.int .i64 r) w := by
    subst h
    simp only [Builtin.max_, List.foldlM_cons, List.foldlM_nil, Builtin.max2, Sem.run_bind, Sem.run_pure, Result.andThen_ok]
    congr 2
    rw [Int.max_def]
    split <;> split <;> omega
  unfold execOp
  simp only [ho, resolve, invoke, builtin, Sem.run_bind, Sem.run_pure, Result.andThen_ok, List.map_toArray, List.map_cons, List.map_nil, F.ev hx, F.ev hy, hr]
theorem d_min {x y : Operand} {ts : Array TypeId} {p q r : Int} (F : Fr n a kv) (ho : o.op = .call { callee := .builtin .min, args := #[x, y], argTypes := ts }) (hx : ev kv x = some (.int .i64 p)) (hy : ev kv y = some (.int .i64 q)) (h : min p q = r) : Does P o a w (fun y w' => y = .int .i64 r ∧ w' = w) := by
  refine does_run ?_
  have hr : (Builtin.min_ ts o.type #[.int .i64 p, .int .i64 q]).run P w = .ok (.int .i64 r) w := by
    subst h
    simp only [Builtin.min_, List.foldlM_cons, List.foldlM_nil, Builtin.min2, Sem.run_bind, Sem.run_pure, Result.andThen_ok]
    congr 2
    rw [Int.min_def]
    split <;> split <;> omega
  unfold execOp
  simp only [ho, resolve, invoke, builtin, Sem.run_bind, Sem.run_pure, Result.andThen_ok, List.map_toArray, List.map_cons, List.map_nil, F.ev hx, F.ev hy, hr]
theorem i_slnil {x y : Operand} {T E : TypeId} {ad : Option Addr} {m c : Nat} {r : Bool} (ht : P.underlying T = some (.slice E)) (h : ad.isNone = r) : (do eqGuard .eql T x y (.slice ad m c) (.slice none 0 0); binOp .eql T (.slice ad m c) (.slice none 0 0) : Sem Value).run P w = .ok (.bool r) w := by
  subst h
  have := Lib.run_eql_slice_nil (P := P) w T E ad m c 0 0 ht
  have hg : (eqGuard .eql T x y (.slice ad m c) (.slice none 0 0)).run P w = .ok () w := by simp [eqGuard]
  rw [Sem.run_bind, hg]; exact this
theorem oo {f : FuncId} {args : Array Value} {x : Value} {R : Value → World → Prop} (h : Calls P f args w fun e w' => e = .returned x ∧ ∃ v, R v w') : Calls P f args w fun e w' => ∃ y, e = .returned y ∧ (y = x ∧ ∃ v, R v w') :=
  h.mono fun _ _ ⟨e, r⟩ => ⟨_, e, rfl, r⟩
theorem jj {f : FuncId} {args : Array Value} {B : Nat → Value → List Bx} {C : Nat → Value → List Rx} (H : Own w0 w bs rs K) (h : Calls P f args w fun e w' => ∃ g v, e = .returned (.pointer (some ⟨g, 0, none⟩)) ∧ Own w w' (B g v) (C g v)) :
    Calls P f args w fun e w' => ∃ y, e = .returned y ∧ ∃ g v, y = .pointer (some ⟨g, 0, none⟩) ∧ Own w0 w' (B g v ++ bs) (C g v ++ rs) K :=
  h.mono fun _ _ ⟨g, v, e, r⟩ => ⟨_, e, g, v, rfl, H.join r⟩
theorem d_box_at {T : TypeId} {x : Operand} {v : Value} (i : Nat) (F : Fr n a kv) (H : Own w0 w bs rs K) (ho : o.op = .box T x) (hx : ev kv x = some v) (cs : List Value) (hc : v.cells.toList = cs) :
    Does P o a w (fun x w' => ∃ g, x = .pointer (some ⟨g, 0, none⟩) ∧ Own w0 w' (bs.set i (true, g, cs)) rs K) := by
  have hr : (execOp a.eval o).run P w = .ok (.value (.pointer (some ⟨w.heap.size, 0, none⟩))) (w.alloc (.cells v.cells T)) := by
    unfold execOp; rw [ho]; simp only [F.ev hx]; rfl
  refine (does_run hr).mono ?_
  rintro x w' ⟨rfl, rfl⟩
  refine ⟨_, rfl, ?_⟩
  have := H.fresh i v.cells T
  rw [hc] at this
  exact this
theorem d_slice3 {x j k q : Operand} {t E : TypeId} {z bytes l h m len cap g off : Nat} {kd ke kf : IntKind} {i1 i2 i3 : Int} (hT : elemT P t E z bytes) (F : Fr n a kv) (ho : o.op = .slice t x (some j) (some k) (some q)) (hx : ev kv x = some (.slice (some ⟨g, off, none⟩) len cap)) (hj : ev kv j = some (.int kd i1)) (hk : ev kv k = some (.int ke i2)) (hq : ev kv q = some (.int kf i3))
    (e1 : i1 = (l : Int)) (e2 : i2 = (h : Int)) (e3 : i3 = (m : Int)) (hlh : l ≤ h) (hhm : h ≤ m) (hmc : m ≤ cap) :
    Does P o a w (fun y w' => y = .slice (if m = l then some ⟨g, off, none⟩ else some ⟨g, off + l * z, none⟩) (h - l) (m - l) ∧ w' = w) := by
  subst e1; subst e2; subst e3
  refine does_run ?_
  have b1 : (0 : Int) ≤ (m : Int) ∧ (m : Int) ≤ (cap : Int) := by omega
  have b2 : (0 : Int) ≤ (h : Int) ∧ (h : Int) ≤ (m : Int) := by omega
  have b3 : (0 : Int) ≤ (l : Int) ∧ (l : Int) ≤ (h : Int) := by omega
  have hr : (Instr.sliceAt t (.slice (some ⟨g, off, none⟩) len cap) (some (.int kd (l : Int))) (some (.int ke (h : Int))) (some (.int kf (m : Int)))).run P w = .ok (.slice (if m = l then some ⟨g, off, none⟩ else some ⟨g, off + l * z, none⟩) (h - l) (m - l)) w := by
    simp only [Instr.sliceAt, Instr.slice, Instr.sliceBounds, Instr.sliceBound, asIntOf, Sem.run_bind, Sem.run_pure, Result.andThen_ok, run_underlying hT.1, if_pos b1, if_pos b2, if_pos b3, size_elem hT, Int.toNat_natCast]
    split <;> simp [Addr.add_mid]
  unfold execOp; rw [ho]; simp only [F.ev hx, F.ev hj, F.ev hk, F.ev hq, Option.map_some, Sem.run_bind, hr]; rfl
/-- a part of a slice goes out of it, in place -/
theorem d_del {s x : Operand} {t E : TypeId} {bytes i0 g k cap i j m : Nat} {xs ys : List Value} (hT : elemT P t E 2 bytes) (F : Fr n a kv) (H : Own w0 w bs rs K) (ho : o.op = .call { callee := .builtin .append, args := #[s, x], argTypes := #[t, t] })
    (hs : ev kv s = some (.slice (some ⟨g, 0, none⟩) i cap)) (hx : ev kv x = some (.slice (if cap = j then some ⟨g, 0, none⟩ else some ⟨g, 0 + j * 2, none⟩) (k - j) (cap - j))) (hi : rs[i0]? = some ⟨true, .slice (some ⟨g, 0, none⟩) k cap, E, 2, k, xs⟩)
    (hij : i ≤ j) (hjk : j ≤ k) (hm : i + (k - j) = m) (hy : xs.take (i * 2) ++ xs.drop (j * 2) = ys) (h1 : ones xs = true) :
    Does P o a w (fun y w' => y = .slice (some ⟨g, 0, none⟩) m cap ∧ Own w0 w' bs (rs.set i0 ⟨true, .slice (some ⟨g, 0, none⟩) m cap, E, 2, m, ys⟩) K) := by
  subst hm; subst hy
  obtain ⟨ht, hinf⟩ := hT
  have h0 : w.ownsRow w0.heap.size E 2 (.slice (some ⟨g, 0, none⟩) k cap) k xs := H.row i0 _ hi rfl
  have hpre : w.ownsRow w0.heap.size E 2 (.slice (some ⟨g, 0, none⟩) i cap) i (xs.take (i * 2)) := by
    rcases h0.2 with ⟨e, _⟩ | ⟨g', cap', cur, e, hb, hg, hc, hx, hs, ht⟩
    · cases e
    · cases e
      exact ⟨by rw [List.length_take, h0.1]; omega, .inr ⟨g, cap, cur, rfl, hb, hg, by omega, hx, hs, by rw [← ht, List.take_take, Nat.min_eq_left (by omega)]⟩⟩
  have hkc : k ≤ cap := by
    rcases h0.2 with ⟨e, _⟩ | ⟨g', cap', cur, e, hb, hg, hc, _⟩
    · cases e
    · cases e; exact hc
  cases hq : P.info? E with
  | none => rw [hq] at hinf; cases hinf
  | some inf =>
    rw [hq] at hinf
    simp only [Option.map_some, Option.some.injEq, Prod.mk.injEq] at hinf
    obtain ⟨_, hz2, _⟩ := hinf
    have key : ∀ (ad : Addr), (∀ q u, (xs.drop (j * 2))[q]? = some u → w.cell? (ad.add q) = some u) → ∃ w', (Builtin.append_ #[t, t] o.type #[.slice (some ⟨g, 0, none⟩) i cap, .slice (some ad) (k - j) (cap - j)]).run P w = .ok (.slice (some ⟨g, 0, none⟩) (i + (k - j)) cap) w' ∧
        w'.ownsRow w0.heap.size E 2 (.slice (some ⟨g, 0, none⟩) (i + (k - j)) cap) (i + (k - j)) (xs.take (i * 2) ++ xs.drop (j * 2)) ∧ w.grownBy w' (some g) := fun ad hc =>
      run_append_fits (P := P) w w0.heap.size t o.type E inf 2 ht hq hz2 g i cap _ hpre ad (k - j) (cap - j) (xs.drop (j * 2)) (by rw [List.length_drop, h0.1]; omega) hc
        (fun u hu => List.all_eq_true.1 h1 u (List.mem_of_mem_drop hu)) (by omega)
    have fin : ∀ ad : Addr, (if cap = j then some (⟨g, 0, none⟩ : Addr) else some ⟨g, 0 + j * 2, none⟩) = some ad → ∃ w', (Builtin.append_ #[t, t] o.type #[.slice (some ⟨g, 0, none⟩) i cap, .slice (some ad) (k - j) (cap - j)]).run P w = .ok (.slice (some ⟨g, 0, none⟩) (i + (k - j)) cap) w' ∧
        w'.ownsRow w0.heap.size E 2 (.slice (some ⟨g, 0, none⟩) (i + (k - j)) cap) (i + (k - j)) (xs.take (i * 2) ++ xs.drop (j * 2)) ∧ w.grownBy w' (some g) := by
      intro ad e
      refine key ad (fun q u hq => ?_)
      by_cases hcj : cap = j
      · have : (xs.drop (j * 2)) = [] := by rw [List.drop_eq_nil_iff, h0.1]; omega
        rw [this] at hq; cases hq
      · rw [if_neg hcj] at e
        cases e
        have hql : q < (xs.drop (j * 2)).length := (List.getElem?_eq_some_iff.1 hq).1
        rw [List.length_drop, h0.1] at hql
        rw [Addr.add_mid, Nat.zero_add, World.ownsRow.cellAt h0 _ (by omega), ← hq, List.getElem?_drop]
    obtain ⟨ad, had⟩ : ∃ ad : Addr, (if cap = j then some (⟨g, 0, none⟩ : Addr) else some ⟨g, 0 + j * 2, none⟩) = some ad := by
      by_cases hcj : cap = j
      · exact ⟨_, if_pos hcj⟩
      · exact ⟨_, if_neg hcj⟩
    obtain ⟨w', hr, h2, h3⟩ := fin ad had
    rw [had] at hx
    refine (does_run (v := .slice (some ⟨g, 0, none⟩) (i + (k - j)) cap) (w' := w') ?_).mono ?_
    · unfold execOp
      simp only [ho, resolve, invoke, builtin, Sem.run_bind, Sem.run_pure, Result.andThen_ok, List.map_toArray, List.map_cons, List.map_nil, F.ev hs, F.ev hx, hr]
    · rintro y w'' ⟨rfl, rfl⟩
      exact ⟨rfl, H.grow hi rfl (r' := ⟨true, _, E, 2, i + (k - j), _⟩) h2 h3 (Or.inl rfl)⟩
/-- what lies behind a slice's end is cleared -/
theorem d_clear1 {x : Operand} {t E : TypeId} {bytes g off m cap c i : Nat} {xs : List Value} {c0 c1 : Value} (hT : elemT P t E 2 bytes) (hz : zeroIs P E [c0, c1]) (h1 : ones [c0, c1] = true) (F : Fr n a kv) (H : Own w0 w bs rs K) (ho : o.op = .call { callee := .builtin .clear, args := #[x], argTypes := #[t] })
    (hx : ev kv x = some (.slice (some ⟨g, off, none⟩) 1 c)) (hoff : off = m * 2) (hi : rs[i]? = some ⟨true, .slice (some ⟨g, 0, none⟩) m cap, E, 2, m, xs⟩) (hm : m + 1 ≤ cap) : Does P o a w (fun _ w' => Own w0 w' bs rs K) := by
  subst hoff
  have h0 : w.ownsRow w0.heap.size E 2 (.slice (some ⟨g, 0, none⟩) m cap) m xs := H.row i _ hi rfl
  obtain ⟨z, hzc, hz⟩ := hz
  obtain ⟨hs1, hg1⟩ := World.ownsRow.stored h0 (m * 2) c0
  obtain ⟨hs2, hg2⟩ := World.ownsRow.stored hs1 (m * 2 + 1) c1
  have hxl := h0.1
  have e1 : xs.set (m * 2) c0 = xs := List.set_eq_of_length_le (by rw [hxl]; exact Nat.le_refl _)
  rw [e1] at hs1 hs2
  have e2 : xs.set (m * 2 + 1) c1 = xs := List.set_eq_of_length_le (by rw [hxl]; omega)
  rw [e2] at hs2
  have cellSome : ∀ q, q < cap * 2 → (w.cell? ⟨g, q, none⟩).isSome = true := by
    intro q hq
    rcases h0.2 with ⟨e, _⟩ | ⟨g', cap', cur, e, hb, hg, hc, hcm, hcs, ht⟩
    · cases e
    · cases e
      have e1 := cell_of_row w g q cur E (0, 0) hg
      rw [e1, Array.getElem?_eq_getElem (by rw [hcs]; exact hq)]; rfl
  have hr : (Builtin.clear_ #[t] o.type #[.slice (some ⟨g, m * 2, none⟩) 1 c]).run P w = .ok (.tuple #[]) ((w.setCell ⟨g, m * 2, none⟩ c0).setCell ⟨g, m * 2 + 1, none⟩ c1) := by
    have hst := run_storeCells_cells (P := P) g (m * 2) [c0, c1] 0 w (fun q hq => by
        rw [Nat.add_zero]; exact cellSome _ (by simp at hq; omega)) (fun q _ => by rw [Nat.add_zero]; exact World.ownsRow.frozenAt h0 _) (fun u hu => List.all_eq_true.1 h1 u hu)
    rw [Nat.add_zero] at hst
    have hzz : (Builtin.zeroCells z.cells 1).toList = [c0, c1] := by
      have hsz : z.cells.size = 2 := by rw [← Array.length_toList, hzc]; rfl
      have hzc' : z.cells = #[c0, c1] := Array.toList_inj.1 hzc
      rw [hzc']; unfold Builtin.zeroCells; rw [Array.toList_map, Array.toList_range]; rfl
    simp [Builtin.clear_, run_underlying hT.1, hz, hzz, hst, World.setCells]
  refine (does_run (v := .tuple #[]) (w' := (w.setCell ⟨g, m * 2, none⟩ c0).setCell ⟨g, m * 2 + 1, none⟩ c1) ?_).mono ?_
  · unfold execOp
    simp only [ho, resolve, invoke, builtin, Sem.run_bind, Sem.run_pure, Result.andThen_ok, List.map_toArray, List.map_cons, List.map_nil, F.ev hx, hr]
  · rintro y w'' ⟨_, rfl⟩
    have hg : w.grownBy ((w.setCell ⟨g, m * 2, none⟩ c0).setCell ⟨g, m * 2 + 1, none⟩ c1) (some g) := ⟨hg2.os.trans hg1.os, hg2.tape.trans hg1.tape, hg2.output.trans hg1.output, Nat.le_trans hg1.size hg2.size, fun k hk hne => (hg2.block k (Nat.lt_of_lt_of_le hk hg1.size) hne).trans (hg1.block k hk hne)⟩
    have := H.grow hi rfl (r' := ⟨true, .slice (some ⟨g, 0, none⟩) m cap, E, 2, m, xs⟩) hs2 hg (Or.inl rfl)
    rwa [show rs.set i ⟨true, .slice (some ⟨g, 0, none⟩) m cap, E, 2, m, xs⟩ = rs from by
      apply List.ext_getElem?
      intro q
      rw [List.getElem?_set]
      split
      · rename_i hq
        subst hq
        split
        · exact hi.symm
        · rename_i hl
          rw [List.getElem?_eq_none (by omega)]
      · rfl] at this
end
variable {w : World}
theorem pnil {x y : Operand} {p : Addr} : (do eqGuard .eql 59 x y (.pointer (some p)) (.pointer none); binOp .eql 59 (.pointer (some p)) (.pointer none) : Sem Value).run Try.prog w = .ok (.bool false) w := by kernel_rfl
theorem undRow : Try.prog.underlying 99 = some (.slice 107) := by kernel_rfl
end Sx
end Go.Proofs.Ytpbdffmgendboab
