/-
  EquationParts: for every input the law returns true, and each argument reads afterwards as it read before. No condition beyond the given row's own cells.
  (Text 1 of 1; made by a program out of smaller texts.)
-/
import Derived.ProofKit
import Derived.Test.YtckikgkdplkopaaGreatRows
import Derived.Test.YtckikgkdplkopaaGreatC1
set_option linter.unusedSimpArgs false
set_option linter.unusedVariables false
open Nat renaming reduceAdd → s_n1, reduceMul → s_n2, reduceSub → s_n3, reduceEqDiff → s_n4, reduceLT → s_n5, reduceLeDiff → s_n6, reduceBEq → s_n7, reduceDiv → s_n8, reduceMod → s_n9, reducePow → s_n0
open Int renaming reduceToNat → s_i1, reduceLE → s_i2, reduceLT → s_i3, reduceEq → s_i4, reducePow → s_i5, reduceSub → s_i6, reduceNeg → s_i7

/-! ## RwParts -/
namespace Go.Proofs.YtckikgkdplkopaaGreat
open Go Go.Proofs Go.Eng Go.ChangeShapes Go.WideShapes Go.ChangeAt Go.RowKit

theorem Tryz.own : ownKnob Tryz.prog.godebug = none := by kernel_rfl
theorem Tryz.laidOut : laidOutB Tryz.prog = true := by kernel_rfl

set_option maxRecDepth 100000 in
theorem equationParts_lifted (os : Os) (started : os.Started) (H : Type) (enc : TypeId × Value → H) :
    ReturnsInHanded {} Tryz.checked os 7 .any (Rows.equationPartsSpec.pre6 enc Tryz.prog Tryz.f7 Rows.equationPartsRow.domain false) (Rows.equationPartsSpec.post enc Tryz.prog Tryz.f7 false true false false) := by
  refine returnsInHanded_of_change (C := Tryz.checked) Tryz.own started (by kernel_rfl) Tryz.func7
    (ChangeSpec.witness6 (enc := enc) (C := Tryz.checked) false ⟨#[], #[.slice none 0 0, .slice none 0 0], []⟩ 8 (by kernel_rfl) (by kernel_rfl) (by kernel_rfl) (by kernel_rfl)) ?_
  intro W base args ds gs before hval0 hW hcnd _
  have hval : ∀ (j : Nat) t v, Tryz.f7.params[j]? = some t → args[j]? = some v → Value.okWide Tryz.prog W .any base t v := hval0
  have hW' := hW
  obtain ⟨p, q, hA0, hV, rfl, hfz, hnd⟩ := hW
  have hA : DataW.TrodAll enc Tryz.prog W 0 (fun _ => true) true Tryz.f7.params.toList args.toList ds p := hA0
  rw [Tryz.params7] at hA hval
  obtain ⟨v0, v1, d0, d1, p0, p1, rfl, rfl, rfl, h0, h1⟩ := trodAll_two hA
  obtain ⟨rfl, rfl⟩ := trodVars_none hV
  clear hA0 hval0
  simp only [List.append_nil] at hW'
  have hlt := fun x hx => hW'.lt x hx
  have o0 : v0.oneCell' = true := slice_one Tryz.underlying23 (hval 0 23 v0 rfl rfl)
  have o1 : v1.oneCell' = true := slice_one Tryz.underlying23 (hval 1 23 v1 rfl rfl)
  have s0 := fun W' hb => arg_stays (W' := W') Tryz.laidOut (by kernel_rfl) (of_decide_eq_true (by kernel_rfl)) h0 hb (fun x hx => hlt x (List.mem_append_left _ hx))
  have s1 := fun W' hb => arg_stays (W' := W') Tryz.laidOut (by kernel_rfl) (of_decide_eq_true (by kernel_rfl)) h1 hb (fun x hx => hlt x (List.mem_append_right _ hx))
  obtain ⟨n0, c0, hc0, hr0⟩ := open_arg closed1 (by decide) o0 h0
  obtain ⟨q0, hq0, hle0⟩ := ok_poly hc0
  obtain ⟨n1, c1, hc1, hr1⟩ := open_arg closed1 (by decide) o1 h1
  obtain ⟨q1, hq1, hle1⟩ := ok_poly hc1
  have hcon := lawParts_spec q0 q1 hq0 hq1
  have hargs : RepVL loc0 dom0 (fun g => g < W.heap.size) W [RV q0, RV q1] [v0, v1] := ⟨RepC.of_repI (ρ := loc0) (dom := dom0) (hle0 _ _ _ hr0), RepC.of_repI (ρ := loc0) (dom := dom0) (hle1 _ _ _ hr1), trivial⟩
  refine ((hcon.2 (fun g => g < W.heap.size) W #[v0, v1] (fun _ h => h) hargs).mono ?_)
  rintro e W' ⟨v, rfl, hB, hv⟩
  have hv : v = .bool true := hv
  subst hv
  exact ⟨_, rfl, law_post hW' rfl rfl Tryz.underlying4 rfl (trodAll_mk2 (s0 W' hB) (s1 W' hB)) rfl hB⟩

theorem equationParts_holds : Rows.EquationPartsSaid :=
  OpenClaim.holds_of_wide 7 Tryz.f7 rfl rfl rfl rfl rfl rfl rfl ⟨rfl, rfl, rfl, rfl, rfl⟩ rfl rfl rfl rfl rfl (by kernel_rfl) Tryz.func7 (by kernel_rfl)
    (of_decide_eq_true (by kernel_rfl)) (by unfold Func.isWrapper; first | (rw [if_pos (by decide +kernel)]; kernel_rfl) | (rw [if_neg (by decide +kernel)]; exact ⟨rfl, rfl⟩))
    (fun os started H enc _ => equationParts_lifted os started H enc)

end Go.Proofs.YtckikgkdplkopaaGreat
