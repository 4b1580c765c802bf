/- TopBounded: for every input the Go law returns true; no condition. -/
import Derived.Test.YteecadoakmdibaaGreatQ1
import Derived.Test.YteecadoakmdibaaGreatQ12
namespace Go.Proofs.YteecadoakmdibaaGreat.topBounded
open Go Go.RowKit Go.ChangeShapes Go.WideShapes Go.ChangeAt Go.Proofs.YteecadoakmdibaaGreat
set_option maxRecDepth 100000 in
theorem lifted (os : Os) (started : os.Started) (H : Type) (enc : TypeId × Value → H) :
    ReturnsInHanded {} Tryz.checked os 4 .any (Rows.topBoundedSpec.pre6 enc Tryz.prog Tryz.f4 Rows.topBoundedRow.domain false) (Rows.topBoundedSpec.post enc Tryz.prog Tryz.f4 false true false false) := by
  refine returnsInHanded_of_change (C := Tryz.checked) Tryz.own started (by kernel_rfl) Tryz.func4
    (ChangeSpec.witness6 (enc := enc) (C := Tryz.checked) false ⟨#[], #[.int .u8 0, .int .u64 0, .agg #[.int .u64 0, .int .u64 0], .int .u8 0, .int .u64 0], []⟩ 8 (by kernel_rfl) (by kernel_rfl) (by kernel_rfl) (by kernel_rfl)) ?_
  intro W base args ds gs before hval0 hW hcnd _
  have hval : ∀ (j : Nat) t v, Tryz.f4.params[j]? = some t → args[j]? = some v → Value.okWide Tryz.prog W .any base t v := hval0
  have hW' := hW
  obtain ⟨p, q, hA0, hV, rfl, hfz, hnd⟩ := hW
  have hA : DataW.TrodAll enc Tryz.prog W 0 (fun _ => true) true Tryz.f4.params.toList args.toList ds p := hA0
  rw [Tryz.params4] at hA hval
  obtain ⟨v0, vs0, d0, ds0, p0, q0, hargs, rfl, rfl, h0, r0⟩ := trodAll_cons hA
  obtain ⟨v1, vs1, d1, ds1, p1, q1, rfl, rfl, rfl, h1, r1⟩ := trodAll_cons r0
  obtain ⟨v2, vs2, d2, ds2, p2, q2, rfl, rfl, rfl, h2, r2⟩ := trodAll_cons r1
  obtain ⟨v3, vs3, d3, ds3, p3, q3, rfl, rfl, rfl, h3, r3⟩ := trodAll_cons r2
  obtain ⟨v4, vs4, d4, ds4, p4, q4, rfl, rfl, rfl, h4, r4⟩ := trodAll_cons r3
  obtain ⟨rfl, rfl, rfl⟩ := trodAll_nil r4
  obtain rfl : args = #[v0, v1, v2, v3, v4] := by cases args; simp_all
  obtain ⟨k, hk, rfl⟩ := cell_u8 Tryz.underlying5 (as_cell Tryz.underlying5 (hval 0 _ _ rfl rfl))
  obtain ⟨n, rfl⟩ := cell_u64 Tryz.underlying22 (as_cell Tryz.underlying22 (hval 1 _ _ rfl rfl))
  obtain ⟨a, rfl⟩ := open_u128 (hval 2 _ _ rfl rfl)
  obtain ⟨l, hl, rfl⟩ := cell_u8 Tryz.underlying5 (as_cell Tryz.underlying5 (hval 3 _ _ rfl rfl))
  obtain ⟨b, rfl⟩ := cell_u64 Tryz.underlying22 (as_cell Tryz.underlying22 (hval 4 _ _ rfl rfl))
  obtain ⟨rfl, rfl⟩ := trodVars_none hV
  refine (top_bounded_n k hk n a l hl b W).mono fun e W' ⟨he, hb⟩ => ?_
  subst he
  exact ⟨_, rfl, law_post (tb := 4) Tryz.laidOut rfl hW' hb (by kernel_rfl) (by kernel_rfl) Tryz.underlying4 rfl rfl rfl⟩
theorem proved : Rows.TopBoundedSaid :=
  OpenClaim.holds_of_wide 4 Tryz.f4 rfl rfl rfl rfl rfl rfl rfl ⟨rfl, rfl, rfl, rfl, rfl⟩ rfl rfl rfl rfl rfl (by kernel_rfl) Tryz.func4 (by kernel_rfl)
    (of_decide_eq_true (by kernel_rfl)) (by unfold Func.isWrapper; first | (rw [if_pos (by decide +kernel)]; kernel_rfl) | (rw [if_neg (by decide +kernel)]; exact ⟨rfl, rfl⟩))
    (fun os started H enc _ => lifted os started H enc)
end Go.Proofs.YteecadoakmdibaaGreat.topBounded
