/- A walk by knowledge: lists of bits; slices that are read. -/
import Derived.Test.YtpbdffmgendboabSl2
import Derived.Test.YtpbdffmgendboabSxF
namespace Go.Proofs.Ytpbdffmgendboab
open Go Go.RowKit
namespace Bi
/-- so many bits, as a list of numbers -/
def bis (f : Nat → Bool) (n : Nat) : List Value := (List.range n).map fun i => .int .i64 ((f i).toNat : Nat)
theorem length (f : Nat → Bool) (n : Nat) : (bis f n).length = n := by simp [bis]
theorem at_ (f : Nat → Bool) (n k : Nat) (h : k < n) : (bis f n)[k]? = some (.int .i64 ((f k).toNat : Nat)) := by simp [bis, h]
theorem snoc (f : Nat → Bool) (n : Nat) : bis f (n + 1) = bis f n ++ [.int .i64 ((f n).toNat : Nat)] := by simp [bis, List.range_succ]
theorem congr {f g : Nat → Bool} {n : Nat} (h : ∀ i, i < n → f i = g i) : bis f n = bis g n := by
  unfold bis
  apply List.map_congr_left
  intro i hi
  rw [h i (by simpa using hi)]
theorem app (f g : Nat → Bool) (n : Nat) : ∀ m, bis f n ++ bis g m = bis (fun i => if i < n then f i else g (i - n)) (n + m)
  | 0 => by
    show bis f n ++ [] = _
    rw [List.append_nil]
    exact congr (fun i hi => by rw [if_pos hi])
  | m + 1 => by
    rw [snoc, ← List.append_assoc, app f g n m, ← Nat.add_assoc, snoc, if_neg (show ¬ n + m < n from by omega), Nat.add_sub_cancel_left]
theorem ones (f : Nat → Bool) (n : Nat) : Sx.ones (bis f n) = true := by
  unfold Sx.ones
  rw [List.all_eq_true]
  intro v hv
  obtain ⟨i, _, rfl⟩ := List.mem_map.1 hv
  rfl
theorem bit (x : BitVec 64) (i : Nat) : ((x >>> i) % 2#64).toNat = (x.getLsbD i).toNat := by
  rw [BitVec.toNat_umod, show (2#64 : BitVec 64).toNat = 2 from rfl]
  have e : (x >>> i).getLsbD 0 = x.getLsbD i := by rw [BitVec.getLsbD_ushiftRight]; rfl
  rw [← e, BitVec.getLsbD, Nat.testBit_zero]
  generalize (x >>> i).toNat = q
  rcases Nat.mod_two_eq_zero_or_one q with h | h <;> simp [h]
theorem half (x : BitVec 64) (i : Nat) : (x >>> i) / 2#64 = x >>> (i + 1) := by
  apply BitVec.eq_of_toNat_eq
  rw [BitVec.toNat_udiv, BitVec.toNat_ushiftRight, BitVec.toNat_ushiftRight, Nat.shiftRight_eq_div_pow, Nat.shiftRight_eq_div_pow, show (2#64 : BitVec 64).toNat = 2 from rfl, Nat.div_div_eq_div_mul, Nat.pow_succ]
theorem bl (b : Bool) : b.toNat < 2 := by cases b <;> decide
end Bi
namespace Sx
section
variable {P : Program} {ops : Array Oper} {Q : Exit → Act → World → Prop} {w0 w : World} {a : Act} {o : Oper} {rest : List Oper} {n : Nat} {kv : List (Nat × Value)} {bs : List Bx} {rs : List Rx} {K : Nat → Option Obj}
theorem i_half {x y : Operand} {T : TypeId} (p : BitVec 64) (i : Nat) : (do eqGuard .quo T x y (.int .u64 (p >>> i).toNat) (.int .u64 2); binOp .quo T (.int .u64 (p >>> i).toNat) (.int .u64 2) : Sem Value).run P w = .ok (.int .u64 (p >>> (i + 1)).toNat) w := by
  have h := i_quo64 (x := x) (y := y) (T := T) (P := P) (w := w) (p >>> i) 2#64 (by decide)
  rw [Bi.half] at h
  exact h
theorem Own.moveR (h : Own w0 w bs rs K) {i j : Nat} {r s r0 : Rx} (hij : i ≠ j) (hi : rs[i]? = some r) (hj : rs[j]? = some s) (h0 : r0.on = false) : Own w0 w bs ((rs.set i r0).set j r) K := by
  have key : ∀ {k : Nat} {q : Rx}, ((rs.set i r0).set j r)[k]? = some q → q.on = true → (k = j ∧ q = r) ∨ (k ≠ j ∧ k ≠ i ∧ rs[k]? = some q) := by
    intro k q hk ho
    rcases set_some hk with ⟨e, e'⟩ | ⟨hne, hk⟩
    · exact .inl ⟨e, e'⟩
    · rcases set_some hk with ⟨_, e'⟩ | ⟨hne', hk⟩
      · rw [e', h0] at ho; cases ho
      · exact .inr ⟨hne, hne', hk⟩
  have at' : ∀ {k : Nat} {q : Rx}, ((rs.set i r0).set j r)[k]? = some q → q.on = true → ∃ k', rs[k']? = some q ∧ (k' = if k = j then i else k) := by
    intro k q hk ho
    rcases key hk ho with ⟨e, e'⟩ | ⟨hne, _, hk⟩
    · exact ⟨i, by rw [e']; exact hi, by rw [if_pos e]⟩
    · exact ⟨k, hk, by rw [if_neg hne]⟩
  refine ⟨h.below, h.box, h.nd, fun k q hk ho => ?_, fun b k c vs q hb hk ho => ?_, fun k l g q u hk hl ho hu h1 h2 => ?_, fun k o hk => by
    obtain ⟨a, b, c, d⟩ := h.kp k o hk
    refine ⟨a, b, c, fun q u hq ho => ?_⟩
    obtain ⟨q', hq', _⟩ := at' hq ho
    exact d q' u hq' ho⟩
  · obtain ⟨k', hk', _⟩ := at' hk ho; exact h.row k' q hk' ho
  · obtain ⟨k', hk', _⟩ := at' hk ho; exact h.rb b k' c vs q hb hk' ho
  · rcases key hk ho with ⟨e, e'⟩ | ⟨hne, hne2, hk'⟩ <;> rcases key hl hu with ⟨f, f'⟩ | ⟨hnf, hnf2, hl'⟩
    · omega
    · subst e'; exact absurd (h.rr i l g q u hi hl' ho hu h1 h2) (fun e => hnf2 e.symm)
    · subst f'; exact absurd (h.rr k i g q u hk' hi ho hu h1 h2) hne2
    · exact h.rr k l g q u hk' hl' ho hu h1 h2
theorem set_at {α : Type} {l : List α} {i : Nat} {x y : α} (h : l[i]? = some y) : (l.set i x)[i]? = some x := by
  rw [List.getElem?_set, if_pos rfl, if_pos (List.getElem?_eq_some_iff.1 h).1]
theorem d_append_mv {s x : Operand} {t E : TypeId} {z bytes i j g m k c jn : Nat} {v : Value} {xs news : List Value} {q : Rx} (hT : elemT P t E z bytes) (F : Fr n a kv) (H : Own w0 w bs rs K) (ho : o.op = .call { callee := .builtin .append, args := #[s, x], argTypes := #[t, t] })
    (hs : ev kv s = some v) (hx : ev kv x = some (.slice (some ⟨g, 0, none⟩) m c)) (hi : rs[i]? = some ⟨true, v, E, z, k, xs⟩) (hj : bs[j]? = some (true, g, news)) (hl : news.length = m * z) (h1 : ones news = true) (hz : Nat.ble 1 z = true)
    (h63 : k + m ≤ 1000000) (hb : bytes ≤ 1000) (hne : i ≠ jn) (hn : rs[jn]? = some q) : Does P o a w (fun y w' => ∃ u, y = u ∧ Own w0 w' bs ((rs.set i ⟨false, v, E, z, k, xs⟩).set jn ⟨true, u, E, z, k + m, xs ++ news⟩) K) := by
  refine (d_append hT F H ho hs hx hi hj hl h1 hz h63 hb).mono ?_
  rintro y w' ⟨u, e, H'⟩
  refine ⟨u, e, ?_⟩
  have := H'.moveR (r0 := ⟨false, v, E, z, k, xs⟩) hne (set_at hi) (s := q) (by rw [List.getElem?_set, if_neg hne]; exact hn) rfl
  rwa [List.set_set] at this
theorem d_appendR_mv {s x : Operand} {t E : TypeId} {z bytes i j m k jn : Nat} {v u : Value} {xs news : List Value} {q : Rx} (hT : elemT P t E z bytes) (F : Fr n a kv) (H : Own w0 w bs rs K) (ho : o.op = .call { callee := .builtin .append, args := #[s, x], argTypes := #[t, t] })
    (hs : ev kv s = some v) (hx : ev kv x = some u) (hi : rs[i]? = some ⟨true, v, E, z, k, xs⟩) (hj : rs[j]? = some ⟨true, u, E, z, m, news⟩) (h1 : ones news = true) (hz : Nat.ble 1 z = true)
    (h63 : k + m ≤ 1000000) (hb : bytes ≤ 1000) (hne : i ≠ jn) (hn : rs[jn]? = some q) : Does P o a w (fun y w' => ∃ u, y = u ∧ Own w0 w' bs ((rs.set i ⟨false, v, E, z, k, xs⟩).set jn ⟨true, u, E, z, k + m, xs ++ news⟩) K) := by
  refine (d_appendR hT F H ho hs hx hi hj h1 hz h63 hb).mono ?_
  rintro y w' ⟨u', e, H'⟩
  refine ⟨u', e, ?_⟩
  have := H'.moveR (r0 := ⟨false, v, E, z, k, xs⟩) hne (set_at hi) (s := q) (by rw [List.getElem?_set, if_neg hne]; exact hn) rfl
  rwa [List.set_set] at this
/- reading -/
theorem d_lenS {x : Operand} {t E : TypeId} {z bytes k cap : Nat} {ad : Option Addr} (hT : elemT P t E z bytes) (F : Fr n a kv) (ho : o.op = .call { callee := .builtin .len, args := #[x], argTypes := #[t] })
    (hx : ev kv x = some (.slice ad k cap)) : Does P o a w (fun y w' => y = .int .i64 k ∧ w' = w) := by
  refine does_run ?_
  have hr : (Builtin.len_ #[t] o.type #[.slice ad k cap]).run P w = .ok (.int .i64 k) w := by
    simp [Builtin.len_, run_underlying hT.1, goInt]
  unfold execOp
  simp only [ho, resolve, invoke, builtin, Sem.run_bind, Sem.run_pure, Result.andThen_ok, List.map_toArray, List.map_cons, List.map_nil, F.ev hx, hr]
theorem run_ix1 {t E : TypeId} {bytes k len cap g off : Nat} {kd : IntKind} (hT : elemT P t E 1 bytes) (hk : k < len) : (Instr.indexAt t (.slice (some ⟨g, off, none⟩) len cap) (.int kd (k : Int))).run P w = .ok (.pointer (some ⟨g, off + k, none⟩)) w := by
  have hs : (sizeOf E).run P w = .ok 1 w := by
    have := hT.2
    cases hq : P.info? E with
    | none => rw [hq] at this; cases this
    | some i =>
      rw [hq] at this
      simp only [Option.map_some, Option.some.injEq, Prod.mk.injEq] at this
      simp [sizeOf, typeInfo, hq, this.2.1]
  have hb : (0 : Int) ≤ (k : Int) ∧ (k : Int) < (len : Int) := by omega
  simp only [Instr.indexAt, asIntOf, Sem.run_bind, Sem.run_pure, Result.andThen_ok, run_underlying hT.1, if_pos hb, hs]
  simp [Addr.add_mid]
theorem d_ix1 {x y : Operand} {t E : TypeId} {bytes k len cap g off : Nat} {kd : IntKind} {ad : Option Addr} {j : Int} (hT : elemT P t E 1 bytes) (F : Fr n a kv) (ho : o.op = .indexAddr t x y) (hx : ev kv x = some (.slice ad len cap)) (had : ad = some ⟨g, off, none⟩) (hy : ev kv y = some (.int kd j)) (hj : j = (k : Int)) (hk : k < len) :
    Does P o a w (fun y w' => y = .pointer (some ⟨g, off + k, none⟩) ∧ w' = w) := by
  subst had; subst hj
  exact d_iaddr F ho hx hy (run_ix1 hT hk)
/-- out of a block that stood when the call began -/
theorem d_loadF {T : TypeId} {x : Operand} {b k : Nat} {v : Value} (hT : oneT P T) (F : Fr n a kv) (H : Own w0 w bs rs K) (ho : o.op = .load T x) (hx : ev kv x = some (.pointer (some ⟨b, k, none⟩))) (hc : w0.cell? ⟨b, k, none⟩ = some v) : Does P o a w (fun x w' => x = v ∧ w' = w) := by
  refine does_run ?_
  have hc' : w.cell? ⟨b, k, none⟩ = some v := (H.below.cell (p := ⟨b, k, none⟩) (lt_cell hc)).trans hc
  have hr : (Instr.loadAt T (.pointer (some ⟨b, k, none⟩))).run P w = .ok v w := by
    simp only [Instr.loadAt, Instr.sureAddr, Sem.run_bind, Sem.run_pure, Result.andThen_ok, run_loadVar1 hT hc']
  unfold execOp; rw [ho]; simp only [F.ev hx, Sem.run_bind, hr]; rfl
/-- out of a slice of the call's own -/
theorem d_loadR {T : TypeId} {x : Operand} {b k i cap m : Nat} {E : TypeId} {xs : List Value} {v : Value} (hT : oneT P T) (F : Fr n a kv) (H : Own w0 w bs rs K) (ho : o.op = .load T x) (hx : ev kv x = some (.pointer (some ⟨b, k, none⟩)))
    (hi : rs[i]? = some ⟨true, .slice (some ⟨b, 0, none⟩) m cap, E, 1, m, xs⟩) (hv : xs[k]? = some v) : Does P o a w (fun x w' => x = v ∧ w' = w) := by
  refine does_run ?_
  have hown : w.ownsRow w0.heap.size E 1 (.slice (some ⟨b, 0, none⟩) m cap) m xs := H.row i _ hi rfl
  have hk : k < m := by have := (List.getElem?_eq_some_iff.1 hv).1; have e := hown.1; omega
  have hc' : w.cell? ⟨b, k, none⟩ = some v := (World.ownsRow.cellAt hown k (by omega)).trans hv
  have hr : (Instr.loadAt T (.pointer (some ⟨b, k, none⟩))).run P w = .ok v w := by
    simp only [Instr.loadAt, Instr.sureAddr, Sem.run_bind, Sem.run_pure, Result.andThen_ok, run_loadVar1 hT hc']
  unfold execOp; rw [ho]; simp only [F.ev hx, Sem.run_bind, hr]; rfl
end
end Sx
end Go.Proofs.Ytpbdffmgendboab
