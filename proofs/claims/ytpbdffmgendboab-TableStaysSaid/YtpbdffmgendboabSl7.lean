/- Slices that are made and stored into; strings; bytes. -/
import Derived.Test.YtpbdffmgendboabSl4
import Derived.Deep.OwnRows
import Derived.Laws.OwnMore
import Derived.Laws.BytesString
import Derived.Laws.Concat
import Derived.Laws.Closers25
namespace Go.Proofs.Ytpbdffmgendboab
open Go Go.RowKit
namespace Sx
section
variable {P : Program} {w0 w : World} {a : Act} {o : Oper} {n : Nat} {kv : List (Nat × Value)} {bs : List Bx} {rs : List Rx} {K : Nat → Option Obj}
theorem d_make {x y : Operand} {t E : TypeId} {z : Value} {bytes m : Nat} {kl kc : IntKind} (ht : P.underlying t = some (.slice E)) (hinf : (P.info? E).map (fun i => (i.zero, i.size, i.bytes)) = some (some z, 1, bytes)) (hz1 : z.cells = #[z]) (F : Fr n a kv) (H : Own w0 w bs rs K)
    (ho : o.op = .makeSlice t x y) (hx : ev kv x = some (.int kl (m : Nat))) (hy : ev kv y = some (.int kc (m : Nat))) (hm : m ≤ 1000000) (hb : bytes * m ≤ 281474976710656) :
    Does P o a w (fun x w' => ∃ v, x = v ∧ Own w0 w' bs (⟨true, v, E, 1, m, List.replicate m z⟩ :: rs) K) := by
  refine (does_run (v := .slice (some ⟨w.heap.size, 0, none⟩) m m) (w' := w.alloc (.cells (madeCells #[z] m) E)) ?_).mono ?_
  · unfold execOp; rw [ho]
    simp only [F.ev hx, F.ev hy, Sem.run_bind, run_make_row' t E z bytes ht hinf hz1 kl kc m hb (by omega) w]
    rfl
  · rintro x w' ⟨rfl, rfl⟩
    have hs : (madeCells #[z] m).size = m := size_madeCells _ _
    refine ⟨_, rfl, H.consR ((Below.refl _ _).alloc (Nat.le_refl _) _) ⟨true, _, E, 1, m, List.replicate m z⟩ ⟨by simp, .inr ⟨w.heap.size, m, madeCells #[z] m, rfl, Nat.le_refl _, heap_alloc_new w _, Nat.le_refl _, by unfold maxLen; omega, by rw [hs, Nat.mul_one], ?_⟩⟩⟩
    rw [toList_madeCells_one, List.take_of_length_le (by simp)]
theorem d_storeR {T : TypeId} {x y : Operand} {b k i cap m : Nat} {E : TypeId} {xs : List Value} {v : Value} (hT : (P.info? T).map (·.size) = some 1) (F : Fr n a kv) (H : Own w0 w bs rs K) (ho : o.op = .store T x y) (hx : ev kv x = some (.pointer (some ⟨b, k, none⟩)))
    (hy : ev kv y = some v) (hc : v.cells = #[v]) (h1 : v.oneCell' = true) (hi : rs[i]? = some ⟨true, .slice (some ⟨b, 0, none⟩) m cap, E, 1, m, xs⟩) (hk : k < m) :
    Does P o a w (fun _ w' => Own w0 w' bs (rs.set i ⟨true, .slice (some ⟨b, 0, none⟩) m cap, E, 1, m, xs.set k v⟩) K) := by
  have hr0 : w.ownsRow w0.heap.size E 1 (.slice (some ⟨b, 0, none⟩) m cap) m xs := H.row i _ hi rfl
  have hlen : xs.length = m := by have := hr0.1; omega
  have hcell : w.cell? ⟨b, k, none⟩ = xs[k]? := World.ownsRow.cellAt hr0 k (by omega)
  have hr : (storeVar T ⟨b, k, none⟩ v).run P w = .ok () (w.setCell ⟨b, k, none⟩ v) := by
    have := run_storeCells_cells (P := P) b k [v] 0 w (fun j hj => by
        have : j = 0 := by simpa using hj
        subst this
        show (w.cell? ⟨b, k + 0, none⟩).isSome = true
        rw [Nat.add_zero, hcell, List.getElem?_eq_getElem (by omega)]; rfl) (fun j hj => by
        have : j = 0 := by simpa using hj
        subst this
        exact World.ownsRow.frozenAt hr0 k) (fun u hu => by rw [List.mem_singleton] at hu; rw [hu]; exact h1)
    simp only [Nat.add_zero] at this
    cases hq : P.info? T with
    | none => simp [hq] at hT
    | some inf =>
      have hs : inf.size = 1 := by simpa [hq] using hT
      simp [storeVar, sizeOf, typeInfo, hq, hs, hc, this, World.setCells]
  have hr' : (execOp a.eval o).run P w = .ok .skip (w.setCell ⟨b, k, none⟩ v) := by
    unfold execOp; rw [ho]
    simp only [F.ev hx, F.ev hy, Instr.storeAt, Instr.sureAddr, Sem.run_bind, Sem.run_pure, Result.andThen_ok, hr]
  refine (does_skip hr').mono ?_
  rintro _ w' rfl
  obtain ⟨h2, h3⟩ := World.ownsRow.stored hr0 k v
  exact H.grow hi rfl h2 h3 (Or.inl rfl)
/-- a slice of bytes as a string -/
theorem d_str {S T E : TypeId} {x : Operand} {v : Value} {i m : Nat} {ns : List Int} (hs : P.underlying S = some (.slice E)) (he : P.underlying E = some (.int .u8)) (hd : P.underlying T = some .string) (F : Fr n a kv) (H : Own w0 w bs rs K) (ho : o.op = .convert S T x) (hx : ev kv x = some v)
    {ss : ByteArray} (hi : rs[i]? = some ⟨true, v, E, 1, m, ns.map (Value.int .u8)⟩) (hss : ns.foldl (fun r n => r.push (UInt8.ofNat n.toNat)) ByteArray.empty = ss) : Does P o a w (fun y w' => y = .string ss ∧ w' = w) := by
  refine d_conv F ho hx ?_
  have hr0 : w.ownsRow w0.heap.size E 1 v m (ns.map (Value.int .u8)) := H.row i _ hi rfl
  rcases hr0.2 with ⟨e, e'⟩ | ⟨g, cap, cur, e, _⟩
  · have e1 : v = .slice none 0 0 := e
    have e2 : m = 0 := e'
    subst e1
    have hl := hr0.1
    have : ns = [] := List.length_eq_zero_iff.1 (by simpa [e2] using hl)
    subst this
    rw [run_convert_bytes_string w S T E none 0 0 hs he hd, ← hss]
    rfl
  · have e1 : v = .slice (some ⟨g, 0, none⟩) m cap := e
    subst e1
    rw [run_convert_bytes_string w S T E _ _ _ hs he hd, run_bytesToString w ⟨g, 0, none⟩ m cap ns ?_, hss]
    have hl : (ns.map (Value.int .u8)).length = m := by have := hr0.1; simpa using this
    have := run_loadCells_list (P := P) w ⟨g, 0, none⟩ (ns.map (Value.int .u8)) (fun j u hj => by
      have hjl := (List.getElem?_eq_some_iff.1 hj).1
      rw [Addr.add_mid, Nat.zero_add, World.ownsRow.cellAt hr0 j (by omega), hj])
    rw [hl] at this
    exact this
theorem d_lenStr {x : Operand} {t : TypeId} {s : ByteArray} {m : Nat} (ht : P.underlying t = some .string) (F : Fr n a kv) (ho : o.op = .call { callee := .builtin .len, args := #[x], argTypes := #[t] }) (hx : ev kv x = some (.string s)) (hm : s.size = m) :
    Does P o a w (fun y w' => y = .int .i64 m ∧ w' = w) := by
  refine does_run ?_
  have hr : (Builtin.len_ #[t] o.type #[.string s]).run P w = .ok (.int .i64 m) w := by
    simp [Builtin.len_, run_underlying ht, goInt, hm]
  unfold execOp
  simp only [ho, resolve, invoke, builtin, Sem.run_bind, Sem.run_pure, Result.andThen_ok, List.map_toArray, List.map_cons, List.map_nil, F.ev hx, hr]
/-- a string's byte -/
theorem run_index_str {t : TypeId} {s : ByteArray} {k b : Nat} {kd : IntKind} (ht : P.underlying t = some .string) (hb : (s.data.toList[k]?).map UInt8.toNat = some b) :
    (Instr.index t (.string s) (.int kd (k : Int))).run P w = .ok (.int .u8 b) w := by
  obtain ⟨u, hu, rfl⟩ := Option.map_eq_some_iff.1 hb
  have h1 : s[k]? = some u := by
    obtain ⟨hk, e⟩ := List.getElem?_eq_some_iff.1 hu
    have hk' : k < s.size := by simpa using hk
    rw [getElem?_pos s k hk']
    rw [Array.getElem_toList] at e
    exact congrArg some e
  have h0 : (0 : Int) ≤ (k : Int) := by omega
  simp [Instr.index, asIntOf, run_underlying ht, h0, h1]
theorem i_seq {x y : Operand} {T : TypeId} {s u : ByteArray} {r : Bool} (h : (s.data.toList == u.data.toList) = r) : (do eqGuard .eql T x y (.string s) (.string u); binOp .eql T (.string s) (.string u) : Sem Value).run P w = .ok (.bool r) w := by
  subst h
  rw [← ByteArray.toList_eq, ← ByteArray.toList_eq]
  simp [eqGuard, binOp, Op.stringOp, go_sem]
theorem i_sgt {x y : Operand} {T : TypeId} {s u : ByteArray} {r : Bool} (h : (!(Op.bytesLess s.data.toList u.data.toList || s.data.toList == u.data.toList)) = r) : (do eqGuard .gtr T x y (.string s) (.string u); binOp .gtr T (.string s) (.string u) : Sem Value).run P w = .ok (.bool r) w := by
  subst h
  rw [← ByteArray.toList_eq, ← ByteArray.toList_eq]
  simp [eqGuard, binOp, Op.stringOp, go_sem]
theorem i_sadd {x y : Operand} {T : TypeId} {s u r : ByteArray} (h : s ++ u = r) (hl : s.size + u.size ≤ 9223372036854775807) : (do eqGuard .add T x y (.string s) (.string u); binOp .add T (.string s) (.string u) : Sem Value).run P w = .ok (.string r) w := by
  subst h
  have h' : ¬ ((9223372036854775807 : Int) < (s.size : Int) + (u.size : Int)) := by omega
  simp [eqGuard, binOp, Op.stringOp, go_sem, h']
theorem i_negS {p r : Int} (h : IntKind.i64.wrap (-p) = r) : (Op.unary .neg (.int .i64 p)).run P w = .ok (.int .i64 r) w := by
  simp [Op.unary, go_sem, h]
end
variable {w : World}
theorem c_u64_u8 (p : BitVec 64) (m : Nat) (e : p.toNat % 256 = m) : (convert 22 5 (.int .u64 p.toNat)).run Try.prog w = .ok (.int .u8 m) w := by
  have h1 : (convert 22 5 (.int .u64 p.toNat)).run Try.prog w = .ok (.int .u8 (IntKind.u8.wrap p.toNat)) w := by kernel_rfl
  rw [h1, ← e, show IntKind.u8.wrap (p.toNat : Int) = ((p.toNat % 256 : Nat) : Int) from by simp [IntKind.wrap, IntKind.signed, IntKind.bits]]
theorem c_i64_u8 (m : Nat) (h : m < 256) : (convert 3 5 (.int .i64 m)).run Try.prog w = .ok (.int .u8 m) w := by
  have h1 : (convert 3 5 (.int .i64 m)).run Try.prog w = .ok (.int .u8 (IntKind.u8.wrap m)) w := by kernel_rfl
  rw [h1, in_u8 m h]
theorem elemU8 : Sx.elemT Try.prog 39 5 1 1 := ⟨by kernel_rfl, by kernel_rfl⟩
theorem undU8 : Try.prog.underlying 39 = some (.slice 5) := by kernel_rfl
theorem undByte : Try.prog.underlying 5 = some (.int .u8) := by kernel_rfl
theorem undStr : Try.prog.underlying 9 = some .string := by kernel_rfl
theorem infU8 : (Try.prog.info? 5).map (fun i => (i.zero, i.size, i.bytes)) = some (some (.int .u8 0), 1, 1) := by kernel_rfl
end Sx
end Go.Proofs.Ytpbdffmgendboab
