/- A walk by knowledge: slices. -/
import Derived.Test.YtpbdffmgendboabSx
import Derived.Test.YtpbdffmgendboabCat
import Derived.Maps.AppendAt
namespace Go.Proofs.Ytpbdffmgendboab
open Go Go.RowKit
namespace Sx
section
variable {P : Program} {ops : Array Oper} {Q : Exit → Act → World → Prop} {w0 w : World} {a : Act} {o : Oper} {rest : List Oper} {n : Nat} {kv : List (Nat × Value)} {bs : List Bx} {rs : List Rx} {K : Nat → Option Obj}

/-- the value in a slot hangs on a name that is new -/
theorem sr {d : Nat} {mk : Value → Value} {R : Value → World → Prop} (F : Fr n a kv) (D : Does P o a w (fun x w' => ∃ v, x = mk v ∧ R v w')) (hg : Region.wanted o (yielded ops a.tmps) = true) (hd : o.dst = some d) (hn : d < n)
    (h : ∀ v a' w', Fr n a' ((d, mk v) :: kv) → R v w' → wpList P ops Q rest a' w') : wpList P ops Q (o :: rest) a w := by
  refine step hg D ?_
  rintro x w' ⟨v, rfl, r⟩
  rw [hd]
  exact h v _ _ (F.put hn _) r
theorem does_calls {f : FuncId} {args : Array Value} {R : Value → World → Prop} (hr : (execOp a.eval o).run P w = .ok (.enter f args) w) (hc : Calls P f args w fun e w' => ∃ x, e = .returned x ∧ R x w') : Does P o a w R := by
  intro Q
  unfold Oper.wp
  rw [hr]
  refine hc.mono ?_
  rintro e w' ⟨x, rfl, h⟩
  exact ⟨x, rfl, h⟩
/-- of a function that makes a slice -/
theorem d_callR {f : FuncId} {xs : Array Operand} {ts : Array TypeId} {vs : List Value} {mk : Value → Value} {E : TypeId} {z m : Nat} {cs : List Value} (hf : isFn P f) (F : Fr n a kv) (H : Own w0 w bs rs K) (ho : o.op = .call { callee := .value (.func f), args := xs, argTypes := ts }) (hxs : xs.toList.map (ev kv) = vs.map some)
    (hc : Calls P f vs.toArray w fun e w' => ∃ v, e = .returned (mk v) ∧ w'.ownsRow w.heap.size E z v m cs ∧ Below w.heap.size w w') : Does P o a w (fun x w' => ∃ v, x = mk v ∧ Own w0 w' bs (⟨true, v, E, z, m, cs⟩ :: rs) K) := by
  refine does_calls (by rw [run_call F ho hxs]; exact hf _ w) (hc.mono ?_)
  rintro e w' ⟨v, rfl, h1, h2⟩
  exact ⟨_, rfl, v, rfl, H.consR h2 ⟨true, v, E, z, m, cs⟩ h1⟩
theorem d_callR_at {f : FuncId} {xs : Array Operand} {ts : Array TypeId} {vs : List Value} {mk : Value → Value} {E : TypeId} {z m : Nat} {cs : List Value} (i : Nat) (hf : isFn P f) (F : Fr n a kv) (H : Own w0 w bs rs K) (ho : o.op = .call { callee := .value (.func f), args := xs, argTypes := ts }) (hxs : xs.toList.map (ev kv) = vs.map some)
    (hc : Calls P f vs.toArray w fun e w' => ∃ v, e = .returned (mk v) ∧ w'.ownsRow w.heap.size E z v m cs ∧ Below w.heap.size w w') : Does P o a w (fun x w' => ∃ v, x = mk v ∧ Own w0 w' bs (rs.set i ⟨true, v, E, z, m, cs⟩) K) := by
  refine does_calls (by rw [run_call F ho hxs]; exact hf _ w) (hc.mono ?_)
  rintro e w' ⟨v, rfl, h1, h2⟩
  exact ⟨_, rfl, v, rfl, H.freshR h2 i ⟨true, v, E, z, m, cs⟩ h1⟩
/-- a literal slice, as a block -/
theorem d_lit {T m : Nat} {ps : Array (Nat × Operand)} {qs : Array (Nat × Value)} {cs : Array Value} {E : TypeId} (F : Fr n a kv) (H : Own w0 w bs rs K) (ho : o.op = .buildSlice T m ps) (hp : ps.toList.map (fun p => (ev kv p.2).map (fun v => (p.1, v))) = qs.toList.map some)
    (hr : ∀ w : World, (Instr.buildSlice T m qs).run P w = .ok (.slice (some ⟨w.heap.size, 0, none⟩) m m) (w.alloc (.cells cs E))) :
    Does P o a w (fun x w' => ∃ g, x = .slice (some ⟨g, 0, none⟩) m m ∧ Own w0 w' ((true, g, cs.toList) :: bs) rs K) := by
  refine (does_run (v := .slice (some ⟨w.heap.size, 0, none⟩) m m) (w' := w.alloc (.cells cs E)) ?_).mono ?_
  · unfold execOp; rw [ho]
    show (do let x ← Instr.buildSlice T m (ps.map fun (i, x) => (i, a.eval x)); Pure.pure (Next.value x) : Sem Next).run P w = _
    rw [parts_eq F hp, Sem.run_bind, hr w]; rfl
  · rintro x w' ⟨rfl, rfl⟩
    exact ⟨_, rfl, H.cons cs E⟩
/-- a literal slice, as a slice of the call's own -/
theorem d_litR {T m : Nat} {ps : Array (Nat × Operand)} {qs : Array (Nat × Value)} {cs : Array Value} {E : TypeId} {z : Nat} (F : Fr n a kv) (H : Own w0 w bs rs K) (ho : o.op = .buildSlice T m ps) (hp : ps.toList.map (fun p => (ev kv p.2).map (fun v => (p.1, v))) = qs.toList.map some)
    (hr : ∀ w : World, (Instr.buildSlice T m qs).run P w = .ok (.slice (some ⟨w.heap.size, 0, none⟩) m m) (w.alloc (.cells cs E))) (hs : cs.size = m * z) (hm : m ≤ 1000000) :
    Does P o a w (fun x w' => ∃ v, x = v ∧ Own w0 w' bs (⟨true, v, E, z, m, cs.toList⟩ :: rs) K) := by
  refine (does_run (v := .slice (some ⟨w.heap.size, 0, none⟩) m m) (w' := w.alloc (.cells cs E)) ?_).mono ?_
  · unfold execOp; rw [ho]
    show (do let x ← Instr.buildSlice T m (ps.map fun (i, x) => (i, a.eval x)); Pure.pure (Next.value x) : Sem Next).run P w = _
    rw [parts_eq F hp, Sem.run_bind, hr w]; rfl
  · rintro x w' ⟨rfl, rfl⟩
    refine ⟨_, rfl, H.consR ((Below.refl _ _).alloc (Nat.le_refl _) _) ⟨true, _, E, z, m, cs.toList⟩ ⟨by simpa using hs, .inr ⟨w.heap.size, m, cs, rfl, Nat.le_refl _, heap_alloc_new w _, Nat.le_refl _, by unfold maxLen; omega, hs, ?_⟩⟩⟩
    rw [List.take_of_length_le (by simp [hs])]
/-- a literal slice, as a slice of the call's own -/
theorem d_litR_at (i : Nat) {T m : Nat} {ps : Array (Nat × Operand)} {qs : Array (Nat × Value)} {cs : Array Value} {E : TypeId} {z : Nat} (F : Fr n a kv) (H : Own w0 w bs rs K) (ho : o.op = .buildSlice T m ps) (hp : ps.toList.map (fun p => (ev kv p.2).map (fun v => (p.1, v))) = qs.toList.map some)
    (hr : ∀ w : World, (Instr.buildSlice T m qs).run P w = .ok (.slice (some ⟨w.heap.size, 0, none⟩) m m) (w.alloc (.cells cs E))) (hs : cs.size = m * z) (hm : m ≤ 1000000) :
    Does P o a w (fun x w' => ∃ v, x = v ∧ Own w0 w' bs (rs.set i ⟨true, v, E, z, m, cs.toList⟩) K) := by
  refine (does_run (v := .slice (some ⟨w.heap.size, 0, none⟩) m m) (w' := w.alloc (.cells cs E)) ?_).mono ?_
  · unfold execOp; rw [ho]
    show (do let x ← Instr.buildSlice T m (ps.map fun (i, x) => (i, a.eval x)); Pure.pure (Next.value x) : Sem Next).run P w = _
    rw [parts_eq F hp, Sem.run_bind, hr w]; rfl
  · rintro x w' ⟨rfl, rfl⟩
    refine ⟨_, rfl, H.freshR ((Below.refl _ _).alloc (Nat.le_refl _) _) i ⟨true, _, E, z, m, cs.toList⟩ ⟨by simpa using hs, .inr ⟨w.heap.size, m, cs, rfl, Nat.le_refl _, heap_alloc_new w _, Nat.le_refl _, by unfold maxLen; omega, hs, ?_⟩⟩⟩
    rw [List.take_of_length_le (by simp [hs])]
def elemT (P : Program) (t E : TypeId) (z bytes : Nat) : Prop := P.underlying t = some (.slice E) ∧ (P.info? E).map (fun i => (i.zero.map (·.cells.size), i.size, i.bytes)) = some (some z, z, bytes)
/-- a slice of the call's own grows by a literal one -/
theorem d_append {s x : Operand} {t E : TypeId} {z bytes i j g m k c : Nat} {v : Value} {xs news : List Value} (hT : elemT P t E z bytes) (F : Fr n a kv) (H : Own w0 w bs rs K) (ho : o.op = .call { callee := .builtin .append, args := #[s, x], argTypes := #[t, t] })
    (hs : ev kv s = some v) (hx : ev kv x = some (.slice (some ⟨g, 0, none⟩) m c)) (hi : rs[i]? = some ⟨true, v, E, z, k, xs⟩) (hj : bs[j]? = some (true, g, news)) (hl : news.length = m * z) (h1 : ones news = true) (hz : Nat.ble 1 z = true)
    (h63 : k + m ≤ 1000000) (hb : bytes ≤ 1000) : Does P o a w (fun y w' => ∃ v, y = v ∧ Own w0 w' bs (rs.set i ⟨true, v, E, z, k + m, xs ++ news⟩) K) := by
  obtain ⟨ht, hinf⟩ := hT
  cases hq : P.info? E with
  | none => rw [hq] at hinf; cases hinf
  | some inf =>
    rw [hq] at hinf
    simp only [Option.map_some, Option.some.injEq, Prod.mk.injEq] at hinf
    obtain ⟨hz1, hz2, hz3⟩ := hinf
    cases hzv : inf.zero with
    | none => rw [hzv] at hz1; cases hz1
    | some zv =>
      rw [hzv] at hz1
      simp only [Option.map_some, Option.some.injEq] at hz1
      have hown : w.ownsRow w0.heap.size E z v k xs := H.row i _ hi rfl
      have hbox := (H.box j g news hj).1
      obtain ⟨v', w', hr, h2, h3, _, h5⟩ := run_append_own_at (P := P) w w0.heap.size t o.type E inf zv z bytes ht hq hzv hz2 hz3 hz1 (Nat.le_of_ble_eq_true hz) v k xs hown ⟨g, 0, none⟩ m c news hl
        (fun j u hu => by rw [Addr.add_mid, Nat.zero_add]; exact (hbox j u hu).1) (fun u hu => List.all_eq_true.1 h1 u hu) (by unfold maxLen; omega) (by have := Nat.mul_le_mul h63 hb; omega) H.below.size
      refine (does_run (v := v') (w' := w') ?_).mono ?_
      · unfold execOp
        simp only [ho, resolve, invoke, builtin, Sem.run_bind, Sem.run_pure, Result.andThen_ok, List.map_toArray, List.map_cons, List.map_nil, F.ev hs, F.ev hx, hr]
      · rintro y w'' ⟨rfl, rfl⟩
        exact ⟨_, rfl, H.grow hi rfl (r' := ⟨true, y, E, z, k + m, xs ++ news⟩) h2 h3 h5⟩
/-- a slice of the call's own grows by another one -/
theorem d_appendR {s x : Operand} {t E : TypeId} {z bytes i j m k : Nat} {v u : Value} {xs news : List Value} (hT : elemT P t E z bytes) (F : Fr n a kv) (H : Own w0 w bs rs K) (ho : o.op = .call { callee := .builtin .append, args := #[s, x], argTypes := #[t, t] })
    (hs : ev kv s = some v) (hx : ev kv x = some u) (hi : rs[i]? = some ⟨true, v, E, z, k, xs⟩) (hj : rs[j]? = some ⟨true, u, E, z, m, news⟩) (h1 : ones news = true) (hz : Nat.ble 1 z = true)
    (h63 : k + m ≤ 1000000) (hb : bytes ≤ 1000) : Does P o a w (fun y w' => ∃ v, y = v ∧ Own w0 w' bs (rs.set i ⟨true, v, E, z, k + m, xs ++ news⟩) K) := by
  obtain ⟨ht, hinf⟩ := hT
  cases hq : P.info? E with
  | none => rw [hq] at hinf; cases hinf
  | some inf =>
    rw [hq] at hinf
    simp only [Option.map_some, Option.some.injEq, Prod.mk.injEq] at hinf
    obtain ⟨hz1, hz2, hz3⟩ := hinf
    cases hzv : inf.zero with
    | none => rw [hzv] at hz1; cases hz1
    | some zv =>
      rw [hzv] at hz1
      simp only [Option.map_some, Option.some.injEq] at hz1
      have hown : w.ownsRow w0.heap.size E z v k xs := H.row i _ hi rfl
      have hsrc : w.ownsRow w0.heap.size E z u m news := H.row j _ hj rfl
      rcases hsrc.2 with ⟨rfl, rfl⟩ | ⟨g, cap, cur, rfl, hg, hh, hc, hm, hcs, hct⟩
      · have hrun := run_append_owned_none (P := P) (w := w) w0.heap.size t o.type E inf z ht hq v k xs hown
        have hys : news = [] := List.length_eq_zero_iff.1 (by simpa using hsrc.1)
        subst hys
        refine (does_run (v := v) (w' := w) ?_).mono ?_
        · unfold execOp
          simp only [ho, resolve, invoke, builtin, Sem.run_bind, Sem.run_pure, Result.andThen_ok, List.map_toArray, List.map_cons, List.map_nil, F.ev hs, F.ev hx, hrun]
        · rintro y w'' ⟨rfl, rfl⟩
          refine ⟨_, rfl, ?_⟩
          have := H.grow (w' := w'') hi rfl (r' := ⟨true, y, E, z, k + 0, xs ++ []⟩) (by rw [List.append_nil, Nat.add_zero]; exact hown) ⟨rfl, rfl, rfl, Nat.le_refl _, fun _ _ _ => rfl⟩ (Or.inl rfl)
          exact this
      · obtain ⟨v', w', hr, h2, h3, _, h5⟩ := run_append_own_at (P := P) w w0.heap.size t o.type E inf zv z bytes ht hq hzv hz2 hz3 hz1 (Nat.le_of_ble_eq_true hz) v k xs hown ⟨g, 0, none⟩ m cap news hsrc.1
          (fun j u hu => by
            have hjl : j < m * z := by have := (List.getElem?_eq_some_iff.1 hu).1; rw [hsrc.1] at this; exact this
            rw [Addr.add_mid, Nat.zero_add, World.ownsRow.cellAt hsrc j hjl, hu]) (fun u hu => List.all_eq_true.1 h1 u hu) (by unfold maxLen; omega) (by have := Nat.mul_le_mul h63 hb; omega) H.below.size
        refine (does_run (v := v') (w' := w') ?_).mono ?_
        · unfold execOp
          simp only [ho, resolve, invoke, builtin, Sem.run_bind, Sem.run_pure, Result.andThen_ok, List.map_toArray, List.map_cons, List.map_nil, F.ev hs, F.ev hx, hr]
        · rintro y w'' ⟨rfl, rfl⟩
          exact ⟨_, rfl, H.grow hi rfl (r' := ⟨true, y, E, z, k + m, xs ++ news⟩) h2 h3 h5⟩
theorem len_of {lo : Nat} {E : TypeId} {z k : Nat} {v : Value} {xs : List Value} (h : w.ownsRow lo E z v k xs) : ∃ ad cap, v = .slice ad k cap := by
  rcases h.2 with ⟨rfl, rfl⟩ | ⟨g, cap, cur, rfl, _⟩
  · exact ⟨none, 0, rfl⟩
  · exact ⟨some ⟨g, 0, none⟩, cap, rfl⟩
theorem d_len {x : Operand} {t E : TypeId} {z bytes i k : Nat} {v : Value} {xs : List Value} (hT : elemT P t E z bytes) (F : Fr n a kv) (H : Own w0 w bs rs K) (ho : o.op = .call { callee := .builtin .len, args := #[x], argTypes := #[t] })
    (hx : ev kv x = some v) (hi : rs[i]? = some ⟨true, v, E, z, k, xs⟩) : Does P o a w (fun y w' => y = .int .i64 k ∧ w' = w) := by
  obtain ⟨ad, cap, hv⟩ := len_of (H.row i _ hi rfl)
  simp only at hv
  subst hv
  refine does_run ?_
  have hr : (Builtin.len_ #[t] o.type #[.slice ad k cap]).run P w = .ok (.int .i64 k) w := by
    simp [Builtin.len_, run_underlying hT.1, goInt]
  unfold execOp
  simp only [ho, resolve, invoke, builtin, Sem.run_bind, Sem.run_pure, Result.andThen_ok, List.map_toArray, List.map_cons, List.map_nil, F.ev hx, hr]
theorem rowEq {r : Rx} {lo : Nat} {v : Value} {E : TypeId} {z m : Nat} {ys : List Value} (h : r.holds lo w) (hv : r.v = v) (hE : r.E = E) (hz : r.z = z) (hm : r.n = m) (e : r.xs = ys) : w.ownsRow lo E z v m ys := by
  subst hv; subst hE; subst hz; subst hm; subst e; exact h
theorem Own.open {i k : Nat} {E : TypeId} {z : Nat} {v : Value} {xs : List Value} (H : Own w0 w bs rs K) (hi : rs[i]? = some ⟨true, v, E, z, k, xs⟩) (hk : 0 < k) : ∃ g cap, v = .slice (some ⟨g, 0, none⟩) k cap ∧ k ≤ cap ∧ cap ≤ maxLen := by
  rcases (H.row i _ hi rfl).2 with ⟨_, h0⟩ | ⟨g, cap, cur, hv, _, _, hc, hm, _⟩
  · simp only at h0; omega
  · exact ⟨g, cap, hv, hc, hm⟩
end
end Sx
end Go.Proofs.Ytpbdffmgendboab
