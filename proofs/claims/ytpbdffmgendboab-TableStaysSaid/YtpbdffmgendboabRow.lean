/- A law's row out of its walk: the arguments' values opened by their cells; 'post' out of 'Below'. -/
import Derived.Test.YtpbdffmgendboabRows
import Derived.Test.YtpbdffmgendboabKit
import Derived.ProofKit
import Derived.OpenShut
namespace Go.Proofs.Ytpbdffmgendboab
open Go Go.RowKit Go.ChangeShapes Go.WideShapes Go.ChangeAt

theorem Try.laidOut : laidOutB Try.prog = true := by kernel_rfl
theorem Try.own : ownKnob Try.prog.godebug = none := by kernel_rfl

theorem trodAll_below {H : Type} {enc : TypeId × Value → H} {P : Program} (hl : laidOutB P = true) {W W' : World} (hb : Below W.heap.size W W') : ∀ (ts : List TypeId) (_ : ts.all (fun t => P.readableRec t && decide (t < P.types.size)) = true)
    (vs : List Value) (ds : List (DataW H)) (ps : List MemPlace), DataW.TrodAll enc P W 0 (fun _ => true) true ts vs ds ps → (∀ x ∈ ps, x.block < W.heap.size) →
    DataW.TrodAll enc P W' 0 (fun b => decide (b < W.heap.size)) true ts vs ds ps
  | [], _, vs, ds, ps, h, _ => by
    cases vs <;> cases ds <;> first | exact h | exact (False.elim h)
  | t :: ts, hts, vs, ds, ps, h, hlt => by
    simp only [List.all_cons, Bool.and_eq_true, decide_eq_true_eq] at hts
    cases vs with
    | nil => cases ds <;> exact False.elim h
    | cons v vs =>
      cases ds with
      | nil => exact False.elim h
      | cons d ds =>
        obtain ⟨p, q, h1, h2, rfl⟩ := h
        exact ⟨p, q, Below.trod hl hts.1.1 hts.1.2 h1 hb (fun x hx => hlt x (List.mem_append_left _ hx)),
          trodAll_below hl hb ts hts.2 vs ds q h2 (fun x hx => hlt x (List.mem_append_right _ hx)), rfl⟩

/-- What a law's row asks behind the call. -/
theorem law_post {H : Type} {enc : TypeId × Value → H} {P : Program} (hl : laidOutB P = true) {f : Func} {s : ChangeSpec} {W W' : World} {args : Array Value} {ds gs : List (DataW H)} {before : List MemPlace} {tb : TypeId}
    (hv : s.vars = []) (hW : DataW.Whole enc P f.params.toList s.vars false W args.toList ds gs before) (hb : Below W.heap.size W W')
    (hts : f.params.toList.all (fun t => P.readableRec t && decide (t < P.types.size)) = true) (hr : f.resultTypes = #[tb]) (htb : P.underlying tb = some .bool)
    (h1 : (s.fn H (ds ++ gs)).results = [.lit (.bool true)]) (h2 : (s.fn H (ds ++ gs)).args = ds) (h3 : (s.fn H (ds ++ gs)).vars = []) :
    s.post enc P f false true false false W args (.bool true) W' := by
  have hW' := hW
  obtain ⟨p, q, hA, hV, rfl, _, _⟩ := hW
  have hq : gs = [] ∧ q = [] := by
    rw [hv] at hV
    cases gs with
    | nil => exact ⟨rfl, hV⟩
    | cons g gs => exact False.elim hV
  obtain ⟨rfl, rfl⟩ := hq
  have hlt : ∀ x ∈ p, x.block < W.heap.size := fun x hx => hW'.lt x (by simpa using hx)
  refine ⟨ds, [], p ++ [], [], p, [], hW', ?_, ?_, ?_, hb.frame _, fun h => by cases h⟩
  · rw [h1, hr]
    exact trodAll_cons_mk (shut_bool htb _) trodAll_mk0
  · rw [h2]
    exact trodAll_below hl hb _ hts _ _ _ hA hlt
  · rw [h3, hv]
    rfl

/- the cells of an argument by value -/
theorem cell_u32 {P : Program} {W : World} {r : Reach} {b : Nat} {u : TypeId} {c : Value} (hu : P.underlying u = some (.int .u32)) (h : Cell.okWide P W r b u c) : ∃ x : BitVec 32, c = .int .u32 x.toNat := by
  have h' : Value.okWide P W r b u c := by unfold Value.okWide; rw [hu]; exact h
  obtain ⟨n, rfl⟩ := okWide_int hu h'
  simp only [Cell.okWide, Cell.ok, hu, IntKind.has, IntKind.min, IntKind.max] at h
  refine ⟨BitVec.ofInt 32 n, ?_⟩
  have h0 : 0 ≤ n ∧ n ≤ 4294967295 := by simpa [IntKind.signed, IntKind.bits] using h.2
  rw [← w32, Int.emod_eq_of_lt h0.1 (by omega)]
theorem cell_u64 {P : Program} {W : World} {r : Reach} {b : Nat} {u : TypeId} {c : Value} (hu : P.underlying u = some (.int .u64)) (h : Cell.okWide P W r b u c) : ∃ x : BitVec 64, c = .int .u64 x.toNat := by
  have h' : Value.okWide P W r b u c := by unfold Value.okWide; rw [hu]; exact h
  obtain ⟨n, rfl⟩ := okWide_int hu h'
  simp only [Cell.okWide, Cell.ok, hu, IntKind.has, IntKind.min, IntKind.max] at h
  refine ⟨BitVec.ofInt 64 n, ?_⟩
  have h0 : 0 ≤ n ∧ n ≤ 18446744073709551615 := by simpa [IntKind.signed, IntKind.bits] using h.2
  rw [← w64, Int.emod_eq_of_lt h0.1 (by omega)]
theorem cell_u8 {P : Program} {W : World} {r : Reach} {b : Nat} {u : TypeId} {c : Value} (hu : P.underlying u = some (.int .u8)) (h : Cell.okWide P W r b u c) : ∃ x : Nat, x < 256 ∧ c = .int .u8 x := by
  have h' : Value.okWide P W r b u c := by unfold Value.okWide; rw [hu]; exact h
  obtain ⟨n, rfl⟩ := okWide_int hu h'
  simp only [Cell.okWide, Cell.ok, hu, IntKind.has, IntKind.min, IntKind.max] at h
  have h0 : 0 ≤ n ∧ n ≤ 255 := by simpa [IntKind.signed, IntKind.bits] using h.2
  exact ⟨n.toNat, by omega, by rw [Int.toNat_of_nonneg h0.1]⟩
theorem cell_u16 {P : Program} {W : World} {r : Reach} {b : Nat} {u : TypeId} {c : Value} (hu : P.underlying u = some (.int .u16)) (h : Cell.okWide P W r b u c) : ∃ x : Nat, x < 65536 ∧ c = .int .u16 x := by
  have h' : Value.okWide P W r b u c := by unfold Value.okWide; rw [hu]; exact h
  obtain ⟨n, rfl⟩ := okWide_int hu h'
  simp only [Cell.okWide, Cell.ok, hu, IntKind.has, IntKind.min, IntKind.max] at h
  have h0 : 0 ≤ n ∧ n ≤ 65535 := by simpa [IntKind.signed, IntKind.bits] using h.2
  exact ⟨n.toNat, by omega, by rw [Int.toNat_of_nonneg h0.1]⟩
theorem cell_i64 {P : Program} {W : World} {r : Reach} {b : Nat} {u : TypeId} {c : Value} (hu : P.underlying u = some (.int .i64)) (h : Cell.okWide P W r b u c) : ∃ x : Int, (-9223372036854775808 ≤ x ∧ x ≤ 9223372036854775807) ∧ c = .int .i64 x := by
  have h' : Value.okWide P W r b u c := by unfold Value.okWide; rw [hu]; exact h
  obtain ⟨n, rfl⟩ := okWide_int hu h'
  simp only [Cell.okWide, Cell.ok, hu, IntKind.has, IntKind.min, IntKind.max] at h
  exact ⟨n, by simpa [IntKind.signed, IntKind.bits] using h.2, rfl⟩
theorem cell_bool {P : Program} {W : World} {r : Reach} {b : Nat} {u : TypeId} {c : Value} (hu : P.underlying u = some .bool) (h : Cell.okWide P W r b u c) : ∃ x : Bool, c = .bool x := by
  have h' : Value.okWide P W r b u c := by unfold Value.okWide; rw [hu]; exact h
  exact okWide_bool hu h'
theorem as_cell {P : Program} {W : World} {r : Reach} {b : Nat} {u : TypeId} {c : Value} {k : IntKind} (hu : P.underlying u = some (.int k)) (h : Value.okWide P W r b u c) : Cell.okWide P W r b u c := by
  unfold Value.okWide at h; rw [hu] at h; exact h

/- a value by its cells' types -/
theorem open_cells {P : Program} {W : World} {r : Reach} {b : Nat} {t : TypeId} {v : Value} {ts : List TypeId} (hagg : (match P.underlying t with | some (.struct _) | some (.array _ _) => true | _ => false) = true)
    (hts : P.cellTypes P.depth t = some ts) (hn : P.cellsOf t = ts.length) (h : Value.okWide P W r b t v) :
    ∃ cs : Array Value, v = .agg cs ∧ cs.size = ts.length ∧ ∀ (i : Nat) (u : TypeId), ts[i]? = some u → ∃ c, cs[i]? = some c ∧ Cell.okWide P W r b u c := by
  have h' : ∃ cs, v = .agg cs ∧ cs.size = P.cellsOf t ∧ Row.okWide P W r b t cs := by
    unfold Value.okWide at h
    split at hagg <;> simp_all
  obtain ⟨cs, rfl, hs, ts', hts', _, hc⟩ := h'
  rw [hts] at hts'
  obtain rfl := Option.some.inj hts'
  refine ⟨cs, rfl, hs.trans hn, fun i u hu => ?_⟩
  have hi : i < ts.length := (List.getElem?_eq_some_iff.1 hu).1
  have hi' : i < cs.size := by omega
  obtain ⟨u', hu', hok⟩ := hc i cs[i] (Array.getElem?_eq_getElem hi')
  rw [Nat.mod_eq_of_lt hi, hu] at hu'
  obtain rfl := Option.some.inj hu'
  exact ⟨_, Array.getElem?_eq_getElem hi', hok⟩
theorem arr2 {cs : Array Value} {c0 c1 : Value} (hs : cs.size = 2) (h0 : cs[0]? = some c0) (h1 : cs[1]? = some c1) : cs = #[c0, c1] := by
  apply Array.ext (by simpa using hs)
  intro i hi hi'
  match i, hi with
  | 0, hi => have := Array.getElem?_eq_getElem hi; rw [h0] at this; simpa using (Option.some.inj this).symm
  | 1, hi => have := Array.getElem?_eq_getElem hi; rw [h1] at this; simpa using (Option.some.inj this).symm
  | n + 2, hi => omega
theorem arr4 {cs : Array Value} {c0 c1 c2 c3 : Value} (hs : cs.size = 4) (h0 : cs[0]? = some c0) (h1 : cs[1]? = some c1) (h2 : cs[2]? = some c2) (h3 : cs[3]? = some c3) : cs = #[c0, c1, c2, c3] := by
  apply Array.ext (by simpa using hs)
  intro i hi hi'
  match i, hi with
  | 0, hi => have := Array.getElem?_eq_getElem hi; rw [h0] at this; simpa using (Option.some.inj this).symm
  | 1, hi => have := Array.getElem?_eq_getElem hi; rw [h1] at this; simpa using (Option.some.inj this).symm
  | 2, hi => have := Array.getElem?_eq_getElem hi; rw [h2] at this; simpa using (Option.some.inj this).symm
  | 3, hi => have := Array.getElem?_eq_getElem hi; rw [h3] at this; simpa using (Option.some.inj this).symm
  | n + 4, hi => omega
end Go.Proofs.Ytpbdffmgendboab
