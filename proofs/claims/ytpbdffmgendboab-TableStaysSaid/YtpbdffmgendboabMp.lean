/- Maps of whole numbers that a call makes for itself. -/
import Derived.Test.YtpbdffmgendboabTbMore
import Derived.MapKept
import Derived.ChangeMaps5
namespace Go.Proofs.Ytpbdffmgendboab
open Go Go.RowKit Go.ChangeMaps
namespace Tb
def MapIs (o : Obj) (l : List (Int × Value)) : Prop := ∃ es clock, o = .map es clock ∧ es.toList.map (fun e => (e.key, e.val)) = l.map (fun q => (Value.int .i64 q.1, q.2))
def upd (K : Nat → Option Obj) (r : Nat) (o : Obj) : Nat → Option Obj := fun k => if k = r then some o else K k
def K2 (r4 r5 : Nat) (o4 o5 : Obj) : Nat → Option Obj := fun k => if k = r4 then some o4 else if k = r5 then some o5 else none
theorem K2_4 (r4 r5 : Nat) (o4 o5 : Obj) : K2 r4 r5 o4 o5 r4 = some o4 := if_pos rfl
theorem K2_5 {r4 r5 : Nat} (h : r4 ≠ r5) (o4 o5 : Obj) : K2 r4 r5 o4 o5 r5 = some o5 := by unfold K2; rw [if_neg (Ne.symm h), if_pos rfl]
theorem K2_set4 (r4 r5 : Nat) (o4 o5 o : Obj) : upd (K2 r4 r5 o4 o5) r4 o = K2 r4 r5 o o5 := by
  funext k; unfold upd K2; split <;> rfl
theorem K2_set5 {r4 r5 : Nat} (h : r4 ≠ r5) (o4 o5 o : Obj) : upd (K2 r4 r5 o4 o5) r5 o = K2 r4 r5 o4 o := by
  funext k; unfold upd K2
  by_cases e : k = r5
  · rw [if_pos e, e, if_neg (Ne.symm h), if_pos rfl]
  · rw [if_neg e]; split
    · rfl
    · rfl
theorem K2_new (r4 r5 : Nat) (o4 o5 : Obj) (h : r4 ≠ r5) : upd (upd (fun _ => none) r4 o4) r5 o5 = K2 r4 r5 o4 o5 := by
  funext k; unfold upd K2
  by_cases e : k = r5
  · rw [if_pos e, e, if_neg (Ne.symm h), if_pos rfl]
  · rw [if_neg e]; split
    · rfl
    · rfl
/-- the first entry of a key -/
def fnd (h : Int) : List MapEntry → Nat → Option (Nat × Value)
  | [], _ => none
  | e :: es, i => match e.key with
    | .int .i64 z => if h == z then some (i, e.val) else fnd h es (i + 1)
    | _ => none
def ixs (h : Int) : List (Int × Value) → Nat → Option (Nat × Value)
  | [], _ => none
  | q :: l, i => if h == q.1 then some (i, q.2) else ixs h l (i + 1)
theorem fnd_ixs (h : Int) : ∀ (es : List MapEntry) (l : List (Int × Value)) (i : Nat), es.map (fun e => (e.key, e.val)) = l.map (fun q => (Value.int .i64 q.1, q.2)) → Instr.findNow (.int .i64) (.int .i64 h) es i = some (ixs h l i)
  | [], [], i, _ => rfl
  | [], _ :: _, i, e => by cases e
  | _ :: _, [], i, e => by cases e
  | a :: es, q :: l, i, e => by
    rw [List.map_cons, List.map_cons, List.cons.injEq, Prod.mk.injEq] at e
    obtain ⟨⟨e1, e2⟩, e3⟩ := e
    unfold Instr.findNow ixs
    rw [e1]
    simp only [Instr.sameNow, if_true]
    cases hq : h == q.1
    · rw [if_neg (by decide)]; exact fnd_ixs h es l (i + 1) e3
    · rw [if_pos rfl, e2]
def lk (l : List (Int × Value)) (h : Int) (z : Value) : Value × Bool := match l.find? (fun q => h == q.1) with
  | some q => (q.2, true)
  | none => (z, false)
theorem ixs_find (h : Int) (z : Value) : ∀ (l : List (Int × Value)) (i : Nat), (match ixs h l i with | some (_, v) => (v, true) | none => (z, false)) = lk l h z
  | [], _ => rfl
  | q :: l, i => by
    unfold ixs lk
    rw [List.find?_cons]
    cases hq : h == q.1
    · exact ixs_find h z l (i + 1)
    · rfl
theorem ixs_none (h : Int) : ∀ (l : List (Int × Value)) (i : Nat), (l.find? (fun q => h == q.1)) = none → ixs h l i = none
  | [], _, _ => rfl
  | q :: l, i, e => by
    rw [List.find?_cons] at e
    unfold ixs
    cases hq : h == q.1
    · rw [hq] at e; exact ixs_none h l (i + 1) e
    · rw [hq] at e; cases e
theorem ixs_erase (h : Int) : ∀ (l : List (Int × Value)) (i k : Nat) (v : Value), ixs h l i = some (k, v) → i ≤ k ∧ l.eraseIdx (k - i) = l.eraseP (fun q => h == q.1)
  | [], _, _, _, e => by cases e
  | q :: l, i, k, v, e => by
    unfold ixs at e
    cases hq : h == q.1
    · rw [hq] at e
      obtain ⟨h1, h2⟩ := ixs_erase h l (i + 1) k v e
      refine ⟨by omega, ?_⟩
      rw [show k - i = (k - (i + 1)) + 1 from by omega, List.eraseIdx_cons_succ, h2, List.eraseP_cons_of_neg (by rw [hq]; decide)]
    · rw [hq] at e
      have : i = k := by cases e; rfl
      subst this
      rw [Nat.sub_self, List.eraseIdx_cons_zero, List.eraseP_cons_of_pos (by rw [hq])]
      exact ⟨Nat.le_refl _, rfl⟩
theorem erase_none (h : Int) : ∀ (l : List (Int × Value)) (i : Nat), ixs h l i = none → l.eraseP (fun q => h == q.1) = l
  | [], _, _ => rfl
  | q :: l, i, e => by
    unfold ixs at e
    cases hq : h == q.1
    · rw [hq] at e; rw [List.eraseP_cons_of_neg (by rw [hq]; decide), erase_none h l (i + 1) e]
    · rw [hq] at e; cases e
/-- the rows as a map holds them -/
def hm (l : List R) : List (Int × Value) := l.map fun r => (r.1, .int .u64 (r.2.toNat : Nat))
def gm (l : List Int) : List (Int × Value) := l.map fun z => (z, .int .i64 1)
theorem hm_len (l : List R) : (hm l).length = l.length := List.length_map ..
theorem hm_find (h : Int) : ∀ l : List R, (hm l).find? (fun q => h == q.1) = (l.find? (fun r => r.1 == h)).map (fun r => (r.1, .int .u64 (r.2.toNat : Nat)))
  | [] => rfl
  | r :: l => by
    show List.find? _ ((r.1, .int .u64 (r.2.toNat : Nat)) :: hm l) = _
    rw [List.find?_cons, List.find?_cons, hm_find h l]
    rw [show (h == r.1) = (r.1 == h) from Bool.beq_comm]
    cases r.1 == h <;> rfl
theorem hm_lk_yes {s : S} {h : Int} (z : Value) (e : s.has h = true) : lk (hm s.l) h z = (.int .u64 ((s.val h).toNat : Nat), true) := by
  unfold lk S.val
  rw [hm_find]
  cases hf : s.l.find? (fun r => r.1 == h) with
  | some r => rfl
  | none =>
    unfold S.has at e
    rw [List.any_eq_true] at e
    obtain ⟨r, hr, hq⟩ := e
    exact absurd hq (List.find?_eq_none.1 hf r hr)
theorem hm_none {s : S} {h : Int} (e : s.has h = false) : (hm s.l).find? (fun q => h == q.1) = none := by
  rw [hm_find, find_none h e]; rfl
theorem hm_lk_no {s : S} {h : Int} (z : Value) (e : s.has h = false) : lk (hm s.l) h z = (z, false) := by unfold lk; rw [hm_none e]
theorem gm_none {l : List Int} {h : Int} (e : ¬ h ∈ l) : (gm l).find? (fun q => h == q.1) = none := by
  rw [List.find?_eq_none]
  intro q hq
  obtain ⟨z, hz, rfl⟩ := List.mem_map.1 hq
  simp only [beq_iff_eq]
  rintro rfl; exact e hz
theorem gm_lk_no {l : List Int} {h : Int} (z : Value) (e : ¬ h ∈ l) : lk (gm l) h z = (z, false) := by unfold lk; rw [gm_none e]
theorem hm_erase {l : List R} (hr : l.Pairwise (fun a b => a.1 < b.1)) (h : Int) : (hm l).eraseP (fun q => h == q.1) = hm (l.filter (fun r => r.1 != h)) := by
  induction l with
  | nil => rfl
  | cons r l ih =>
    rw [List.pairwise_cons] at hr
    show List.eraseP _ ((r.1, .int .u64 (r.2.toNat : Nat)) :: hm l) = _
    by_cases e : r.1 = h
    · rw [List.eraseP_cons_of_pos (by simp [e]), List.filter_cons_of_neg (by simp [e])]
      rw [List.filter_eq_self.2]
      intro q hq
      have := hr.1 q hq
      simp only [bne_iff_ne]; omega
    · rw [List.eraseP_cons_of_neg (by simpa using fun x => e x.symm), List.filter_cons_of_pos (by simpa using e), ih hr.2]; rfl
end Tb
namespace Sx
section
variable {P : Program} {w0 w : World} {a : Act} {o : Oper} {n : Nat} {kv : List (Nat × Value)} {bs : List Bx} {rs : List Rx} {K : Nat → Option Obj}
theorem Own.newKeep (h : Own w0 w bs rs K) (ob : Obj) : Own w0 (w.alloc ob) bs rs (Tb.upd K w.heap.size ob) := by
  have q := h.call ((Below.refl w.heap.size w).alloc (Nat.le_refl _) ob)
  refine ⟨q.below, q.box, q.nd, q.row, q.rb, q.rr, fun k o hk => ?_⟩
  unfold Tb.upd at hk
  split at hk
  · rename_i e
    cases hk
    subst e
    exact ⟨heap_alloc_new w _, h.below.size, fun i vs hi => Nat.lt_irrefl _ (h.box i _ vs hi).2.2, fun i r hi ho hg => Nat.lt_irrefl _ (h.rowLt hi ho hg).2⟩
  · exact q.kp k o hk
theorem Own.setKeep (h : Own w0 w bs rs K) {r : Nat} {ob ob' : Obj} (hk : K r = some ob) {w' : World} (hg : w.grownBy w' (some r)) (hr : w'.heap[r]? = some ob') : Own w0 w' bs rs (Tb.upd K r ob') := by
  obtain ⟨h1, h2, h3, h4⟩ := h.kp r ob hk
  refine ⟨Below.grown h.below hg h.below.size (fun k e => by cases e; exact h2), fun i b vs hi => ?_, h.nd, fun i s hi ho => World.ownsRow.kept (h.row i s hi ho) hg (Or.inr (h4 i s hi ho)), h.rb, h.rr, fun k o hk' => ?_⟩
  · obtain ⟨a1, a2, a3⟩ := h.box i b vs hi
    exact ⟨a1.lift (fun hl => hg.block _ hl (fun e => by cases e; exact h3 i vs hi)), a2, Nat.lt_of_lt_of_le a3 hg.size⟩
  · unfold Tb.upd at hk'
    split at hk'
    · rename_i e
      cases hk'; subst e
      exact ⟨hr, h2, h3, h4⟩
    · rename_i e
      obtain ⟨b1, b2, b3, b4⟩ := h.kp k o hk'
      exact ⟨(hg.block k (kplt b1) (fun e' => e (by cases e'; rfl))).trans b1, b2, b3, b4⟩
theorem run_check {t : TypeId} {h : Int} {b : Bool} (ht : P.underlying t = some (.int .i64)) : (Instr.checkKey b 10000 t (.int .i64 h)).run P w = .ok () w := by
  unfold Instr.checkKey
  simp [run_underlying ht]
theorem run_find {t : TypeId} {h : Int} {es : List MapEntry} {l : List (Int × Value)} (ht : P.underlying t = some (.int .i64)) (e : es.map (fun e => (e.key, e.val)) = l.map (fun q => (Value.int .i64 q.1, q.2))) : (Instr.findKey t (.int .i64 h) es).run P w = .ok (Tb.ixs h l 0) w := by
  unfold Instr.findKey
  simp [run_underlying ht, Tb.fnd_ixs h es l 0 e]
theorem d_lookup {m x : Operand} {t kt et : TypeId} {r : Nat} {ob : Obj} {l : List (Int × Value)} {h : Int} {z v : Value} {b : Bool} (hm : P.underlying t = some (.map kt et)) (ht : P.underlying kt = some (.int .i64)) (hz : ∀ w : World, (zeroValue et).run P w = .ok z w) (F : Fr n a kv) (H : Own w0 w bs rs K) (ho : o.op = .lookup t m x true)
    (hx : ev kv m = some (.map (some r))) (hy : ev kv x = some (.int .i64 h)) (hk : K r = some ob) (hl : Tb.MapIs ob l) (hv : Tb.lk l h z = (v, b)) : Does P o a w (fun y w' => y = .tuple #[v, .bool b] ∧ w' = w) := by
  obtain ⟨es, clock, rfl, hes⟩ := hl
  have hh := (H.kp r _ hk).1
  refine does_run ?_
  have hr : (Instr.lookup t (.map (some r)) (.int .i64 h) true).run P w = .ok (.tuple #[v, .bool b]) w := by
    have hf := Tb.ixs_find h z l 0
    rw [hv] at hf
    cases hi : Tb.ixs h l 0 with
    | none => rw [hi] at hf; cases hf; simp [Instr.lookup, run_underlying hm, MapKept.run_getObj_map hh, run_check ht, run_find ht hes, hi, hz]
    | some q => rw [hi] at hf; cases hf; simp [Instr.lookup, run_underlying hm, MapKept.run_getObj_map hh, run_check ht, run_find ht hes, hi]
  unfold execOp; rw [ho]; simp only [F.ev hx, F.ev hy, Sem.run_bind, hr]; rfl
theorem d_lookup1 {m x : Operand} {t kt et : TypeId} {r : Nat} {ob : Obj} {l : List (Int × Value)} {h : Int} {z v : Value} {b : Bool} (hm : P.underlying t = some (.map kt et)) (ht : P.underlying kt = some (.int .i64)) (hz : ∀ w : World, (zeroValue et).run P w = .ok z w) (F : Fr n a kv) (H : Own w0 w bs rs K) (ho : o.op = .lookup t m x false)
    (hx : ev kv m = some (.map (some r))) (hy : ev kv x = some (.int .i64 h)) (hk : K r = some ob) (hl : Tb.MapIs ob l) (hv : Tb.lk l h z = (v, b)) : Does P o a w (fun y w' => y = v ∧ w' = w) := by
  obtain ⟨es, clock, rfl, hes⟩ := hl
  have hh := (H.kp r _ hk).1
  refine does_run ?_
  have hr : (Instr.lookup t (.map (some r)) (.int .i64 h) false).run P w = .ok v w := by
    have hf := Tb.ixs_find h z l 0
    rw [hv] at hf
    cases hi : Tb.ixs h l 0 with
    | none => rw [hi] at hf; cases hf; simp [Instr.lookup, run_underlying hm, MapKept.run_getObj_map hh, run_check ht, run_find ht hes, hi, hz]
    | some q => rw [hi] at hf; cases hf; simp [Instr.lookup, run_underlying hm, MapKept.run_getObj_map hh, run_check ht, run_find ht hes, hi]
  unfold execOp; rw [ho]; simp only [F.ev hx, F.ev hy, Sem.run_bind, hr]; rfl
theorem d_makeMap {t : TypeId} (F : Fr n a kv) (H : Own w0 w bs rs K) (ho : o.op = .makeMap t none) : Does P o a w (fun y w' => ∃ r, y = .map (some r) ∧ K r = none ∧ Own w0 w' bs rs (Tb.upd K r (.map #[] 0))) := by
  refine (does_run (v := .map (some w.heap.size)) (w' := w.alloc (.map #[] 0)) ?_).mono ?_
  · unfold execOp; rw [ho]; rfl
  · rintro y w' ⟨rfl, rfl⟩
    refine ⟨_, rfl, ?_, H.newKeep _⟩
    cases hk : K w.heap.size with
    | none => rfl
    | some ob => exact absurd (kplt (H.kp _ _ hk).1) (Nat.lt_irrefl _)
theorem d_mapLen {x : Operand} {t kt et : TypeId} {r m : Nat} {ob : Obj} {l : List (Int × Value)} (hm : P.underlying t = some (.map kt et)) (F : Fr n a kv) (H : Own w0 w bs rs K) (ho : o.op = .call { callee := .builtin .len, args := #[x], argTypes := #[t] }) (hx : ev kv x = some (.map (some r))) (hk : K r = some ob) (hl : Tb.MapIs ob l) (hn : l.length = m) :
    Does P o a w (fun y w' => y = .int .i64 m ∧ w' = w) := by
  obtain ⟨es, clock, rfl, hes⟩ := hl
  have hh := (H.kp r _ hk).1
  have he : es.size = m := by have := congrArg List.length hes; simp at this; omega
  refine does_run ?_
  have hr : (Builtin.len_ #[t] o.type #[.map (some r)]).run P w = .ok (.int .i64 m) w := by
    simp [Builtin.len_, run_underlying hm, goInt, MapKept.run_getObj_map hh, he]
  unfold execOp
  simp only [ho, resolve, invoke, builtin, Sem.run_bind, Sem.run_pure, Result.andThen_ok, List.map_toArray, List.map_cons, List.map_nil, F.ev hx, hr]
theorem d_mapSet {m x y : Operand} {t kt et : TypeId} {r : Nat} {ob : Obj} {l : List (Int × Value)} {h : Int} {v : Value} (hm : P.underlying t = some (.map kt et)) (ht : P.underlying kt = some (.int .i64)) (F : Fr n a kv) (H : Own w0 w bs rs K) (ho : o.op = .mapUpdate t m x y)
    (hx : ev kv m = some (.map (some r))) (hy : ev kv x = some (.int .i64 h)) (hv : ev kv y = some v) (hk : K r = some ob) (hl : Tb.MapIs ob l) (hn : l.find? (fun q => h == q.1) = none) : Does P o a w (fun _ w' => ∃ ob', Tb.MapIs ob' (l ++ [(h, v)]) ∧ Own w0 w' bs rs (Tb.upd K r ob')) := by
  obtain ⟨es, clock, rfl, hes⟩ := hl
  have hh := (H.kp r _ hk).1
  have hr : (execOp a.eval o).run P w = .ok .skip (setBlock w r (.map (es.push { key := .int .i64 h, val := v, born := clock }) (clock + 1))) := by
    unfold execOp; rw [ho]
    simp only [F.ev hx, F.ev hy, F.ev hv]
    unfold Instr.mapUpdate
    simp only [Sem.run_bind, run_underlying hm, Result.andThen_ok, MapKept.run_getObj_map hh, run_check ht, run_find ht hes, Tb.ixs_none h l 0 hn, MapKept.run_setObj_map _ hh]
    rfl
  refine (does_skip hr).mono ?_
  rintro _ w' rfl
  refine ⟨.map (es.push { key := .int .i64 h, val := v, born := clock }) (clock + 1), ⟨_, _, rfl, by rw [Array.toList_push, List.map_append, hes, List.map_append]; rfl⟩, H.setKeep hk ⟨rfl, rfl, rfl, by simp [setBlock], fun i _ hi => heap_setBlock_other hh _ (fun e => hi (by rw [e]))⟩ (heap_setBlock_same hh _)⟩
theorem d_mapDel {m x : Operand} {t kt et xt : TypeId} {r : Nat} {ob : Obj} {l : List (Int × Value)} {h : Int} (hm : P.underlying t = some (.map kt et)) (ht : P.underlying kt = some (.int .i64)) (F : Fr n a kv) (H : Own w0 w bs rs K) (ho : o.op = .call { callee := .builtin .delete, args := #[m, x], argTypes := #[t, xt] })
    (hx : ev kv m = some (.map (some r))) (hy : ev kv x = some (.int .i64 h)) (hk : K r = some ob) (hl : Tb.MapIs ob l) : Does P o a w (fun _ w' => ∃ ob', Tb.MapIs ob' (l.eraseP (fun q => h == q.1)) ∧ Own w0 w' bs rs (Tb.upd K r ob')) := by
  obtain ⟨es, clock, rfl, hes⟩ := hl
  have hh := (H.kp r _ hk).1
  have hr : ∃ es', (Builtin.delete_ #[t, xt] o.type #[.map (some r), .int .i64 h]).run P w = .ok (.tuple #[]) (setBlock w r (.map es' clock)) ∧ es'.toList.map (fun e => (e.key, e.val)) = (l.eraseP (fun q => h == q.1)).map (fun q => (Value.int .i64 q.1, q.2)) := by
    cases hi : Tb.ixs h l 0 with
    | none =>
      refine ⟨es, ?_, by rw [Tb.erase_none h l 0 hi]; exact hes⟩
      simp [Builtin.delete_, run_underlying hm, MapKept.run_getObj_map hh, run_check ht, run_find ht hes, hi, MapKept.run_setObj_map _ hh, Result.andThen, setBlock]
    | some q =>
      obtain ⟨j, v⟩ := q
      have he := (Tb.ixs_erase h l 0 j v hi).2
      refine ⟨es.eraseIdxIfInBounds j, ?_, ?_⟩
      · simp [Builtin.delete_, run_underlying hm, MapKept.run_getObj_map hh, run_check ht, run_find ht hes, hi, MapKept.run_setObj_map _ hh, Result.andThen, setBlock]
      · have hsub : (es.eraseIdxIfInBounds j).toList = es.toList.eraseIdx j := by
          unfold Array.eraseIdxIfInBounds
          split
          · simp
          · rename_i hn
            rw [List.eraseIdx_of_length_le (by rw [Array.length_toList]; omega)]
        rw [hsub, map_eraseIdx, hes, ← map_eraseIdx, ← he, Nat.sub_zero]
  obtain ⟨es', hr, hes'⟩ := hr
  refine (does_run (v := .tuple #[]) (w' := setBlock w r (.map es' clock)) ?_).mono ?_
  · unfold execOp
    simp only [ho, resolve, invoke, builtin, Sem.run_bind, Sem.run_pure, Result.andThen_ok, List.map_toArray, List.map_cons, List.map_nil, F.ev hx, F.ev hy, hr]
  · rintro _ w' ⟨_, rfl⟩
    exact ⟨.map es' clock, ⟨_, _, rfl, hes'⟩, H.setKeep hk ⟨rfl, rfl, rfl, by simp [setBlock], fun i _ hi => heap_setBlock_other hh _ (fun e => hi (by rw [e]))⟩ (heap_setBlock_same hh _)⟩
end
end Sx
end Go.Proofs.Ytpbdffmgendboab
