/-
  TriangleInvalid: for every input the law returns true, and each argument reads afterwards as it read before. No condition.
  (Text 6 of 8; made by a program out of smaller texts.)
-/
import Derived.Test.YtkmgkfneeobcgaaGreatP5
set_option linter.unusedSimpArgs false
set_option linter.unusedVariables false
open Nat renaming reduceAdd → s_n1, reduceMul → s_n2, reduceSub → s_n3, reduceEqDiff → s_n4, reduceLT → s_n5, reduceLeDiff → s_n6, reduceBEq → s_n7, reduceDiv → s_n8, reduceMod → s_n9, reducePow → s_n0
open Int renaming reduceToNat → s_i1, reduceLE → s_i2, reduceLT → s_i3, reduceEq → s_i4, reducePow → s_i5, reduceSub → s_i6, reduceNeg → s_i7

/-! ## Gr1 -/
namespace Go.Proofs.YtkmgkfneeobcgaaGreat
open Go Go.Eng Go.Eng.Run
section
noncomputable def eg1 : List Ent := [⟨11, [(.v (.agg [(yi 0), (yo 2 [])]))], (.tup [(.agg [(yi 0), (yi 0), (yi 0), yz]), (.one (yi 13))])⟩,
 ⟨11, [(.v (.agg [(yi 1), (yo 2 [])]))], (.tup [(.agg [(yi 0), (yi 0), (yi 0), yz]), (.one (yi 13))])⟩,
 ⟨11, [(.v (.agg [(yi 2), (yo 2 [])]))], (.tup [(.agg [(yi 0), (yi 0), (yi 0), yz]), (.one (yi 13))])⟩,
 ⟨11, [(.v (.agg [(yi 2), (yo 2 [(yi 0), (yi 1)])]))], (.tup [(.agg [(yi 0), (yi 1), (yi 0), yz]), (.one (yi 0))])⟩,
 ⟨18, [(.v (.agg [(yi 0), (yi 1), (yi 0), yz])), (.v (.one (yi 40)))], (.v (.one yt))⟩,
 ⟨19, [(.v (.agg [(yi 2), (yo 2 [(yi 0), (yi 1)])])), (.v (.agg [(yi 0), (yi 1), (yi 0), yz]))], (.v (.one yt))⟩,
 ⟨20, [(.v (.agg [(yi 0), (yi 1), (yi 0), yz]))], (.v (.one (yi 0)))⟩,
 ⟨27, [(.v (.agg [(yi 2), (yo 2 [(yi 0), (yi 1)])])), (.v (.agg [(yi 0), (yi 1), (yi 0), yz]))], (.v (.one yt))⟩,
 ⟨16, [(.v (.agg [(yi 0), (yi 1), (yi 0), yz]))], (.v (.one (yi 0)))⟩,
 ⟨11, [(.v (.agg [(yi 3), (yo 2 [])]))], (.tup [(.agg [(yi 0), (yi 0), (yi 0), yz]), (.one (yi 13))])⟩,
 ⟨11, [(.v (.agg [(yi 3), (yo 2 [(yi 0), (yi 1)])]))], (.tup [(.agg [(yi 0), (yi 0), (yi 0), yz]), (.one (yi 13))])⟩,
 ⟨11, [(.v (.agg [(yi 3), (yo 2 [(yi 0), (yi 2)])]))], (.tup [(.agg [(yi 0), (yi 0), (yi 0), yz]), (.one (yi 13))])⟩,
 ⟨11, [(.v (.agg [(yi 3), (yo 2 [(yi 1), (yi 2)])]))], (.tup [(.agg [(yi 0), (yi 0), (yi 0), yz]), (.one (yi 13))])⟩,
 ⟨11, [(.v (.agg [(yi 3), (yo 2 [(yi 0), (yi 1), (yi 0), (yi 2)])]))], (.tup [(.agg [(yi 0), (yi 0), (yi 0), yz]), (.one (yi 13))])⟩,
 ⟨11, [(.v (.agg [(yi 3), (yo 2 [(yi 0), (yi 1), (yi 1), (yi 2)])]))], (.tup [(.agg [(yi 0), (yi 0), (yi 0), yz]), (.one (yi 13))])⟩,
 ⟨11, [(.v (.agg [(yi 3), (yo 2 [(yi 0), (yi 2), (yi 1), (yi 2)])]))], (.tup [(.agg [(yi 0), (yi 0), (yi 0), yz]), (.one (yi 13))])⟩,
 ⟨11, [(.v (.agg [(yi 3), (yo 2 [(yi 0), (yi 1), (yi 0), (yi 2), (yi 1), (yi 2)])]))], (.tup [(.agg [(yi 1), (yi 0), (yi 2), (yo 4 [(yi 0), (yi 1), (yi 0), yz, (yi 0), (yi 2), (yi 0), yz, (yi 1), (yi 2), (yi 0), yz])]), (.one (yi 0))])⟩,
 ⟨18, [(.v (.agg [(yi 1), (yi 0), (yi 2), (yo 4 [(yi 0), (yi 1), (yi 0), yz, (yi 0), (yi 2), (yi 0), yz, (yi 1), (yi 2), (yi 0), yz])])), (.v (.one (yi 40)))], (.v (.one yt))⟩,
 ⟨19, [(.v (.agg [(yi 3), (yo 2 [(yi 0), (yi 1), (yi 0), (yi 2), (yi 1), (yi 2)])])), (.v (.agg [(yi 1), (yi 0), (yi 2), (yo 4 [(yi 0), (yi 1), (yi 0), yz, (yi 0), (yi 2), (yi 0), yz, (yi 1), (yi 2), (yi 0), yz])]))], (.v (.one yt))⟩,
 ⟨20, [(.v (.agg [(yi 1), (yi 0), (yi 2), (yo 4 [(yi 0), (yi 1), (yi 0), yz, (yi 0), (yi 2), (yi 0), yz, (yi 1), (yi 2), (yi 0), yz])]))], (.v (.one (yi 1)))⟩,
 ⟨27, [(.v (.agg [(yi 3), (yo 2 [(yi 0), (yi 1), (yi 0), (yi 2), (yi 1), (yi 2)])])), (.v (.agg [(yi 1), (yi 0), (yi 2), (yo 4 [(yi 0), (yi 1), (yi 0), yz, (yi 0), (yi 2), (yi 0), yz, (yi 1), (yi 2), (yi 0), yz])]))], (.v (.one yt))⟩,
 ⟨16, [(.v (.agg [(yi 1), (yi 0), (yi 2), (yo 4 [(yi 0), (yi 1), (yi 0), yz, (yi 0), (yi 2), (yi 0), yz, (yi 1), (yi 2), (yi 0), yz])]))], (.v (.one (yi 1)))⟩,
 ⟨11, [(.v (.agg [(yi 4), (yo 2 [])]))], (.tup [(.agg [(yi 0), (yi 0), (yi 0), yz]), (.one (yi 13))])⟩,
 ⟨11, [(.v (.agg [(yi 4), (yo 2 [(yi 0), (yi 1)])]))], (.tup [(.agg [(yi 0), (yi 0), (yi 0), yz]), (.one (yi 13))])⟩,
 ⟨11, [(.v (.agg [(yi 4), (yo 2 [(yi 0), (yi 2)])]))], (.tup [(.agg [(yi 0), (yi 0), (yi 0), yz]), (.one (yi 13))])⟩,
 ⟨11, [(.v (.agg [(yi 4), (yo 2 [(yi 0), (yi 3)])]))], (.tup [(.agg [(yi 0), (yi 0), (yi 0), yz]), (.one (yi 13))])⟩,
 ⟨11, [(.v (.agg [(yi 4), (yo 2 [(yi 1), (yi 2)])]))], (.tup [(.agg [(yi 0), (yi 0), (yi 0), yz]), (.one (yi 13))])⟩,
 ⟨11, [(.v (.agg [(yi 4), (yo 2 [(yi 1), (yi 3)])]))], (.tup [(.agg [(yi 0), (yi 0), (yi 0), yz]), (.one (yi 13))])⟩,
 ⟨11, [(.v (.agg [(yi 4), (yo 2 [(yi 2), (yi 3)])]))], (.tup [(.agg [(yi 0), (yi 0), (yi 0), yz]), (.one (yi 13))])⟩,
 ⟨11, [(.v (.agg [(yi 4), (yo 2 [(yi 0), (yi 1), (yi 0), (yi 2)])]))], (.tup [(.agg [(yi 0), (yi 0), (yi 0), yz]), (.one (yi 13))])⟩,
 ⟨11, [(.v (.agg [(yi 4), (yo 2 [(yi 0), (yi 1), (yi 0), (yi 3)])]))], (.tup [(.agg [(yi 0), (yi 0), (yi 0), yz]), (.one (yi 13))])⟩,
 ⟨11, [(.v (.agg [(yi 4), (yo 2 [(yi 0), (yi 1), (yi 1), (yi 2)])]))], (.tup [(.agg [(yi 0), (yi 0), (yi 0), yz]), (.one (yi 13))])⟩,
 ⟨11, [(.v (.agg [(yi 4), (yo 2 [(yi 0), (yi 1), (yi 1), (yi 3)])]))], (.tup [(.agg [(yi 0), (yi 0), (yi 0), yz]), (.one (yi 13))])⟩,
 ⟨11, [(.v (.agg [(yi 4), (yo 2 [(yi 0), (yi 1), (yi 2), (yi 3)])]))], (.tup [(.agg [(yi 0), (yi 0), (yi 0), yz]), (.one (yi 13))])⟩,
 ⟨11, [(.v (.agg [(yi 4), (yo 2 [(yi 0), (yi 2), (yi 0), (yi 3)])]))], (.tup [(.agg [(yi 0), (yi 0), (yi 0), yz]), (.one (yi 13))])⟩,
 ⟨11, [(.v (.agg [(yi 4), (yo 2 [(yi 0), (yi 2), (yi 1), (yi 2)])]))], (.tup [(.agg [(yi 0), (yi 0), (yi 0), yz]), (.one (yi 13))])⟩,
 ⟨11, [(.v (.agg [(yi 4), (yo 2 [(yi 0), (yi 2), (yi 1), (yi 3)])]))], (.tup [(.agg [(yi 0), (yi 0), (yi 0), yz]), (.one (yi 13))])⟩]
end
set_option maxRecDepth 100000 in
theorem eg1_ok : TblOk Tryz.prog (addTs .lf eg1) := chkT_ok T_ok mixed (fuel := 2000) (k := 100) (fz := 20) TblOk.nil (by kernel_rfl)
end Go.Proofs.YtkmgkfneeobcgaaGreat

/-! ## Gr2 -/
namespace Go.Proofs.YtkmgkfneeobcgaaGreat
open Go Go.Eng Go.Eng.Run
section
noncomputable def eg2 : List Ent := [⟨11, [(.v (.agg [(yi 4), (yo 2 [(yi 0), (yi 2), (yi 2), (yi 3)])]))], (.tup [(.agg [(yi 0), (yi 0), (yi 0), yz]), (.one (yi 13))])⟩,
 ⟨11, [(.v (.agg [(yi 4), (yo 2 [(yi 0), (yi 3), (yi 1), (yi 2)])]))], (.tup [(.agg [(yi 0), (yi 0), (yi 0), yz]), (.one (yi 13))])⟩,
 ⟨11, [(.v (.agg [(yi 4), (yo 2 [(yi 0), (yi 3), (yi 1), (yi 3)])]))], (.tup [(.agg [(yi 0), (yi 0), (yi 0), yz]), (.one (yi 13))])⟩,
 ⟨11, [(.v (.agg [(yi 4), (yo 2 [(yi 0), (yi 3), (yi 2), (yi 3)])]))], (.tup [(.agg [(yi 0), (yi 0), (yi 0), yz]), (.one (yi 13))])⟩,
 ⟨11, [(.v (.agg [(yi 4), (yo 2 [(yi 1), (yi 2), (yi 1), (yi 3)])]))], (.tup [(.agg [(yi 0), (yi 0), (yi 0), yz]), (.one (yi 13))])⟩,
 ⟨11, [(.v (.agg [(yi 4), (yo 2 [(yi 1), (yi 2), (yi 2), (yi 3)])]))], (.tup [(.agg [(yi 0), (yi 0), (yi 0), yz]), (.one (yi 13))])⟩,
 ⟨11, [(.v (.agg [(yi 4), (yo 2 [(yi 1), (yi 3), (yi 2), (yi 3)])]))], (.tup [(.agg [(yi 0), (yi 0), (yi 0), yz]), (.one (yi 13))])⟩,
 ⟨11, [(.v (.agg [(yi 4), (yo 2 [(yi 0), (yi 1), (yi 0), (yi 2), (yi 0), (yi 3)])]))], (.tup [(.agg [(yi 0), (yi 0), (yi 0), yz]), (.one (yi 13))])⟩,
 ⟨11, [(.v (.agg [(yi 4), (yo 2 [(yi 0), (yi 1), (yi 0), (yi 2), (yi 1), (yi 2)])]))], (.tup [(.agg [(yi 0), (yi 0), (yi 0), yz]), (.one (yi 13))])⟩,
 ⟨11, [(.v (.agg [(yi 4), (yo 2 [(yi 0), (yi 1), (yi 0), (yi 2), (yi 1), (yi 3)])]))], (.tup [(.agg [(yi 0), (yi 0), (yi 0), yz]), (.one (yi 13))])⟩,
 ⟨11, [(.v (.agg [(yi 4), (yo 2 [(yi 0), (yi 1), (yi 0), (yi 2), (yi 2), (yi 3)])]))], (.tup [(.agg [(yi 0), (yi 0), (yi 0), yz]), (.one (yi 13))])⟩,
 ⟨11, [(.v (.agg [(yi 4), (yo 2 [(yi 0), (yi 1), (yi 0), (yi 3), (yi 1), (yi 2)])]))], (.tup [(.agg [(yi 0), (yi 0), (yi 0), yz]), (.one (yi 13))])⟩,
 ⟨11, [(.v (.agg [(yi 4), (yo 2 [(yi 0), (yi 1), (yi 0), (yi 3), (yi 1), (yi 3)])]))], (.tup [(.agg [(yi 0), (yi 0), (yi 0), yz]), (.one (yi 13))])⟩]
end
set_option maxRecDepth 100000 in
theorem eg2_ok : TblOk Tryz.prog (addTs .lf eg2) := chkT_ok T_ok mixed (fuel := 2000) (k := 100) (fz := 20) TblOk.nil (by kernel_rfl)
end Go.Proofs.YtkmgkfneeobcgaaGreat

/-! ## Gr3 -/
namespace Go.Proofs.YtkmgkfneeobcgaaGreat
open Go Go.Eng Go.Eng.Run
section
noncomputable def eg3 : List Ent := [⟨11, [(.v (.agg [(yi 4), (yo 2 [(yi 0), (yi 1), (yi 0), (yi 3), (yi 2), (yi 3)])]))], (.tup [(.agg [(yi 0), (yi 0), (yi 0), yz]), (.one (yi 13))])⟩,
 ⟨11, [(.v (.agg [(yi 4), (yo 2 [(yi 0), (yi 1), (yi 1), (yi 2), (yi 1), (yi 3)])]))], (.tup [(.agg [(yi 0), (yi 0), (yi 0), yz]), (.one (yi 13))])⟩,
 ⟨11, [(.v (.agg [(yi 4), (yo 2 [(yi 0), (yi 1), (yi 1), (yi 2), (yi 2), (yi 3)])]))], (.tup [(.agg [(yi 0), (yi 0), (yi 0), yz]), (.one (yi 13))])⟩,
 ⟨11, [(.v (.agg [(yi 4), (yo 2 [(yi 0), (yi 1), (yi 1), (yi 3), (yi 2), (yi 3)])]))], (.tup [(.agg [(yi 0), (yi 0), (yi 0), yz]), (.one (yi 13))])⟩,
 ⟨11, [(.v (.agg [(yi 4), (yo 2 [(yi 0), (yi 2), (yi 0), (yi 3), (yi 1), (yi 2)])]))], (.tup [(.agg [(yi 0), (yi 0), (yi 0), yz]), (.one (yi 13))])⟩,
 ⟨11, [(.v (.agg [(yi 4), (yo 2 [(yi 0), (yi 2), (yi 0), (yi 3), (yi 1), (yi 3)])]))], (.tup [(.agg [(yi 0), (yi 0), (yi 0), yz]), (.one (yi 13))])⟩,
 ⟨11, [(.v (.agg [(yi 4), (yo 2 [(yi 0), (yi 2), (yi 0), (yi 3), (yi 2), (yi 3)])]))], (.tup [(.agg [(yi 0), (yi 0), (yi 0), yz]), (.one (yi 13))])⟩,
 ⟨11, [(.v (.agg [(yi 4), (yo 2 [(yi 0), (yi 2), (yi 1), (yi 2), (yi 1), (yi 3)])]))], (.tup [(.agg [(yi 0), (yi 0), (yi 0), yz]), (.one (yi 13))])⟩]
end
set_option maxRecDepth 100000 in
theorem eg3_ok : TblOk Tryz.prog (addTs .lf eg3) := chkT_ok T_ok mixed (fuel := 2000) (k := 100) (fz := 20) TblOk.nil (by kernel_rfl)
end Go.Proofs.YtkmgkfneeobcgaaGreat

/-! ## Gr4 -/
namespace Go.Proofs.YtkmgkfneeobcgaaGreat
open Go Go.Eng Go.Eng.Run
section
noncomputable def eg4 : List Ent := [⟨11, [(.v (.agg [(yi 4), (yo 2 [(yi 0), (yi 2), (yi 1), (yi 2), (yi 2), (yi 3)])]))], (.tup [(.agg [(yi 0), (yi 0), (yi 0), yz]), (.one (yi 13))])⟩,
 ⟨11, [(.v (.agg [(yi 4), (yo 2 [(yi 0), (yi 2), (yi 1), (yi 3), (yi 2), (yi 3)])]))], (.tup [(.agg [(yi 0), (yi 0), (yi 0), yz]), (.one (yi 13))])⟩,
 ⟨11, [(.v (.agg [(yi 4), (yo 2 [(yi 0), (yi 3), (yi 1), (yi 2), (yi 1), (yi 3)])]))], (.tup [(.agg [(yi 0), (yi 0), (yi 0), yz]), (.one (yi 13))])⟩,
 ⟨11, [(.v (.agg [(yi 4), (yo 2 [(yi 0), (yi 3), (yi 1), (yi 2), (yi 2), (yi 3)])]))], (.tup [(.agg [(yi 0), (yi 0), (yi 0), yz]), (.one (yi 13))])⟩,
 ⟨11, [(.v (.agg [(yi 4), (yo 2 [(yi 0), (yi 3), (yi 1), (yi 3), (yi 2), (yi 3)])]))], (.tup [(.agg [(yi 0), (yi 0), (yi 0), yz]), (.one (yi 13))])⟩,
 ⟨11, [(.v (.agg [(yi 4), (yo 2 [(yi 1), (yi 2), (yi 1), (yi 3), (yi 2), (yi 3)])]))], (.tup [(.agg [(yi 0), (yi 0), (yi 0), yz]), (.one (yi 13))])⟩,
 ⟨11, [(.v (.agg [(yi 4), (yo 2 [(yi 0), (yi 1), (yi 0), (yi 2), (yi 0), (yi 3), (yi 1), (yi 2)])]))], (.tup [(.agg [(yi 0), (yi 0), (yi 0), yz]), (.one (yi 13))])⟩]
end
set_option maxRecDepth 100000 in
theorem eg4_ok : TblOk Tryz.prog (addTs .lf eg4) := chkT_ok T_ok mixed (fuel := 2000) (k := 100) (fz := 20) TblOk.nil (by kernel_rfl)
end Go.Proofs.YtkmgkfneeobcgaaGreat

/-! ## Gr5 -/
namespace Go.Proofs.YtkmgkfneeobcgaaGreat
open Go Go.Eng Go.Eng.Run
section
noncomputable def eg5 : List Ent := [⟨11, [(.v (.agg [(yi 4), (yo 2 [(yi 0), (yi 1), (yi 0), (yi 2), (yi 0), (yi 3), (yi 1), (yi 3)])]))], (.tup [(.agg [(yi 0), (yi 0), (yi 0), yz]), (.one (yi 13))])⟩,
 ⟨11, [(.v (.agg [(yi 4), (yo 2 [(yi 0), (yi 1), (yi 0), (yi 2), (yi 0), (yi 3), (yi 2), (yi 3)])]))], (.tup [(.agg [(yi 0), (yi 0), (yi 0), yz]), (.one (yi 13))])⟩,
 ⟨11, [(.v (.agg [(yi 4), (yo 2 [(yi 0), (yi 1), (yi 0), (yi 2), (yi 1), (yi 2), (yi 1), (yi 3)])]))], (.tup [(.agg [(yi 0), (yi 0), (yi 0), yz]), (.one (yi 13))])⟩,
 ⟨11, [(.v (.agg [(yi 4), (yo 2 [(yi 0), (yi 1), (yi 0), (yi 2), (yi 1), (yi 2), (yi 2), (yi 3)])]))], (.tup [(.agg [(yi 0), (yi 0), (yi 0), yz]), (.one (yi 13))])⟩]
end
set_option maxRecDepth 100000 in
theorem eg5_ok : TblOk Tryz.prog (addTs .lf eg5) := chkT_ok T_ok mixed (fuel := 2000) (k := 100) (fz := 20) TblOk.nil (by kernel_rfl)
end Go.Proofs.YtkmgkfneeobcgaaGreat

/-! ## Gr6 -/
namespace Go.Proofs.YtkmgkfneeobcgaaGreat
open Go Go.Eng Go.Eng.Run
section
noncomputable def eg6 : List Ent := [⟨11, [(.v (.agg [(yi 4), (yo 2 [(yi 0), (yi 1), (yi 0), (yi 2), (yi 1), (yi 3), (yi 2), (yi 3)])]))], (.tup [(.agg [(yi 0), (yi 0), (yi 0), yz]), (.one (yi 13))])⟩,
 ⟨11, [(.v (.agg [(yi 4), (yo 2 [(yi 0), (yi 1), (yi 0), (yi 3), (yi 1), (yi 2), (yi 1), (yi 3)])]))], (.tup [(.agg [(yi 0), (yi 0), (yi 0), yz]), (.one (yi 13))])⟩,
 ⟨11, [(.v (.agg [(yi 4), (yo 2 [(yi 0), (yi 1), (yi 0), (yi 3), (yi 1), (yi 2), (yi 2), (yi 3)])]))], (.tup [(.agg [(yi 0), (yi 0), (yi 0), yz]), (.one (yi 13))])⟩,
 ⟨11, [(.v (.agg [(yi 4), (yo 2 [(yi 0), (yi 1), (yi 0), (yi 3), (yi 1), (yi 3), (yi 2), (yi 3)])]))], (.tup [(.agg [(yi 0), (yi 0), (yi 0), yz]), (.one (yi 13))])⟩]
end
set_option maxRecDepth 100000 in
theorem eg6_ok : TblOk Tryz.prog (addTs .lf eg6) := chkT_ok T_ok mixed (fuel := 2000) (k := 100) (fz := 20) TblOk.nil (by kernel_rfl)
end Go.Proofs.YtkmgkfneeobcgaaGreat

/-! ## Gr7 -/
namespace Go.Proofs.YtkmgkfneeobcgaaGreat
open Go Go.Eng Go.Eng.Run
section
noncomputable def eg7 : List Ent := [⟨11, [(.v (.agg [(yi 4), (yo 2 [(yi 0), (yi 1), (yi 1), (yi 2), (yi 1), (yi 3), (yi 2), (yi 3)])]))], (.tup [(.agg [(yi 0), (yi 0), (yi 0), yz]), (.one (yi 13))])⟩,
 ⟨11, [(.v (.agg [(yi 4), (yo 2 [(yi 0), (yi 2), (yi 0), (yi 3), (yi 1), (yi 2), (yi 1), (yi 3)])]))], (.tup [(.agg [(yi 0), (yi 0), (yi 0), yz]), (.one (yi 13))])⟩,
 ⟨11, [(.v (.agg [(yi 4), (yo 2 [(yi 0), (yi 2), (yi 0), (yi 3), (yi 1), (yi 2), (yi 2), (yi 3)])]))], (.tup [(.agg [(yi 0), (yi 0), (yi 0), yz]), (.one (yi 13))])⟩]
end
set_option maxRecDepth 100000 in
theorem eg7_ok : TblOk Tryz.prog (addTs .lf eg7) := chkT_ok T_ok mixed (fuel := 2000) (k := 100) (fz := 20) TblOk.nil (by kernel_rfl)
end Go.Proofs.YtkmgkfneeobcgaaGreat

/-! ## Gr8 -/
namespace Go.Proofs.YtkmgkfneeobcgaaGreat
open Go Go.Eng Go.Eng.Run
section
noncomputable def eg8 : List Ent := [⟨11, [(.v (.agg [(yi 4), (yo 2 [(yi 0), (yi 2), (yi 0), (yi 3), (yi 1), (yi 3), (yi 2), (yi 3)])]))], (.tup [(.agg [(yi 0), (yi 0), (yi 0), yz]), (.one (yi 13))])⟩,
 ⟨11, [(.v (.agg [(yi 4), (yo 2 [(yi 0), (yi 2), (yi 1), (yi 2), (yi 1), (yi 3), (yi 2), (yi 3)])]))], (.tup [(.agg [(yi 0), (yi 0), (yi 0), yz]), (.one (yi 13))])⟩,
 ⟨11, [(.v (.agg [(yi 4), (yo 2 [(yi 0), (yi 3), (yi 1), (yi 2), (yi 1), (yi 3), (yi 2), (yi 3)])]))], (.tup [(.agg [(yi 0), (yi 0), (yi 0), yz]), (.one (yi 13))])⟩]
end
set_option maxRecDepth 100000 in
theorem eg8_ok : TblOk Tryz.prog (addTs .lf eg8) := chkT_ok T_ok mixed (fuel := 2000) (k := 100) (fz := 20) TblOk.nil (by kernel_rfl)
end Go.Proofs.YtkmgkfneeobcgaaGreat

/-! ## Gr9 -/
namespace Go.Proofs.YtkmgkfneeobcgaaGreat
open Go Go.Eng Go.Eng.Run
section
noncomputable def eg9 : List Ent := [⟨11, [(.v (.agg [(yi 4), (yo 2 [(yi 0), (yi 1), (yi 0), (yi 2), (yi 0), (yi 3), (yi 1), (yi 2), (yi 1), (yi 3)])]))], (.tup [(.agg [(yi 1), (yi 0), (yi 3), (yo 4 [(yi 1), (yi 0), (yi 2), (yo 4 [(yi 0), (yi 1), (yi 0), yz, (yi 0), (yi 2), (yi 0), yz, (yi 1), (yi 2), (yi 0), yz]), (yi 0), (yi 3), (yi 0), yz, (yi 1), (yi 3), (yi 0), yz])]), (.one (yi 0))])⟩,
 ⟨18, [(.v (.agg [(yi 1), (yi 0), (yi 3), (yo 4 [(yi 1), (yi 0), (yi 2), (yo 4 [(yi 0), (yi 1), (yi 0), yz, (yi 0), (yi 2), (yi 0), yz, (yi 1), (yi 2), (yi 0), yz]), (yi 0), (yi 3), (yi 0), yz, (yi 1), (yi 3), (yi 0), yz])])), (.v (.one (yi 40)))], (.v (.one yt))⟩,
 ⟨19, [(.v (.agg [(yi 4), (yo 2 [(yi 0), (yi 1), (yi 0), (yi 2), (yi 0), (yi 3), (yi 1), (yi 2), (yi 1), (yi 3)])])), (.v (.agg [(yi 1), (yi 0), (yi 3), (yo 4 [(yi 1), (yi 0), (yi 2), (yo 4 [(yi 0), (yi 1), (yi 0), yz, (yi 0), (yi 2), (yi 0), yz, (yi 1), (yi 2), (yi 0), yz]), (yi 0), (yi 3), (yi 0), yz, (yi 1), (yi 3), (yi 0), yz])]))], (.v (.one yt))⟩,
 ⟨20, [(.v (.agg [(yi 1), (yi 0), (yi 3), (yo 4 [(yi 1), (yi 0), (yi 2), (yo 4 [(yi 0), (yi 1), (yi 0), yz, (yi 0), (yi 2), (yi 0), yz, (yi 1), (yi 2), (yi 0), yz]), (yi 0), (yi 3), (yi 0), yz, (yi 1), (yi 3), (yi 0), yz])]))], (.v (.one (yi 2)))⟩]
end
set_option maxRecDepth 100000 in
theorem eg9_ok : TblOk Tryz.prog (addTs .lf eg9) := chkT_ok T_ok mixed (fuel := 2000) (k := 100) (fz := 20) TblOk.nil (by kernel_rfl)
end Go.Proofs.YtkmgkfneeobcgaaGreat

/-! ## Gr10 -/
namespace Go.Proofs.YtkmgkfneeobcgaaGreat
open Go Go.Eng Go.Eng.Run
section
noncomputable def eg10 : List Ent := [⟨27, [(.v (.agg [(yi 4), (yo 2 [(yi 0), (yi 1), (yi 0), (yi 2), (yi 0), (yi 3), (yi 1), (yi 2), (yi 1), (yi 3)])])), (.v (.agg [(yi 1), (yi 0), (yi 3), (yo 4 [(yi 1), (yi 0), (yi 2), (yo 4 [(yi 0), (yi 1), (yi 0), yz, (yi 0), (yi 2), (yi 0), yz, (yi 1), (yi 2), (yi 0), yz]), (yi 0), (yi 3), (yi 0), yz, (yi 1), (yi 3), (yi 0), yz])]))], (.v (.one yt))⟩,
 ⟨16, [(.v (.agg [(yi 1), (yi 0), (yi 3), (yo 4 [(yi 1), (yi 0), (yi 2), (yo 4 [(yi 0), (yi 1), (yi 0), yz, (yi 0), (yi 2), (yi 0), yz, (yi 1), (yi 2), (yi 0), yz]), (yi 0), (yi 3), (yi 0), yz, (yi 1), (yi 3), (yi 0), yz])]))], (.v (.one (yi 2)))⟩,
 ⟨11, [(.v (.agg [(yi 4), (yo 2 [(yi 0), (yi 1), (yi 0), (yi 2), (yi 0), (yi 3), (yi 1), (yi 2), (yi 2), (yi 3)])]))], (.tup [(.agg [(yi 2), (yi 0), (yi 3), (yo 4 [(yi 1), (yi 0), (yi 2), (yo 4 [(yi 0), (yi 1), (yi 0), yz, (yi 0), (yi 2), (yi 0), yz, (yi 1), (yi 2), (yi 0), yz]), (yi 0), (yi 3), (yi 0), yz, (yi 2), (yi 3), (yi 0), yz])]), (.one (yi 0))])⟩,
 ⟨18, [(.v (.agg [(yi 2), (yi 0), (yi 3), (yo 4 [(yi 1), (yi 0), (yi 2), (yo 4 [(yi 0), (yi 1), (yi 0), yz, (yi 0), (yi 2), (yi 0), yz, (yi 1), (yi 2), (yi 0), yz]), (yi 0), (yi 3), (yi 0), yz, (yi 2), (yi 3), (yi 0), yz])])), (.v (.one (yi 40)))], (.v (.one yt))⟩]
end
set_option maxRecDepth 100000 in
theorem eg10_ok : TblOk Tryz.prog (addTs .lf eg10) := chkT_ok T_ok mixed (fuel := 2000) (k := 100) (fz := 20) TblOk.nil (by kernel_rfl)
end Go.Proofs.YtkmgkfneeobcgaaGreat

/-! ## Gr11 -/
namespace Go.Proofs.YtkmgkfneeobcgaaGreat
open Go Go.Eng Go.Eng.Run
section
noncomputable def eg11 : List Ent := [⟨19, [(.v (.agg [(yi 4), (yo 2 [(yi 0), (yi 1), (yi 0), (yi 2), (yi 0), (yi 3), (yi 1), (yi 2), (yi 2), (yi 3)])])), (.v (.agg [(yi 2), (yi 0), (yi 3), (yo 4 [(yi 1), (yi 0), (yi 2), (yo 4 [(yi 0), (yi 1), (yi 0), yz, (yi 0), (yi 2), (yi 0), yz, (yi 1), (yi 2), (yi 0), yz]), (yi 0), (yi 3), (yi 0), yz, (yi 2), (yi 3), (yi 0), yz])]))], (.v (.one yt))⟩,
 ⟨20, [(.v (.agg [(yi 2), (yi 0), (yi 3), (yo 4 [(yi 1), (yi 0), (yi 2), (yo 4 [(yi 0), (yi 1), (yi 0), yz, (yi 0), (yi 2), (yi 0), yz, (yi 1), (yi 2), (yi 0), yz]), (yi 0), (yi 3), (yi 0), yz, (yi 2), (yi 3), (yi 0), yz])]))], (.v (.one (yi 2)))⟩,
 ⟨27, [(.v (.agg [(yi 4), (yo 2 [(yi 0), (yi 1), (yi 0), (yi 2), (yi 0), (yi 3), (yi 1), (yi 2), (yi 2), (yi 3)])])), (.v (.agg [(yi 2), (yi 0), (yi 3), (yo 4 [(yi 1), (yi 0), (yi 2), (yo 4 [(yi 0), (yi 1), (yi 0), yz, (yi 0), (yi 2), (yi 0), yz, (yi 1), (yi 2), (yi 0), yz]), (yi 0), (yi 3), (yi 0), yz, (yi 2), (yi 3), (yi 0), yz])]))], (.v (.one yt))⟩,
 ⟨16, [(.v (.agg [(yi 2), (yi 0), (yi 3), (yo 4 [(yi 1), (yi 0), (yi 2), (yo 4 [(yi 0), (yi 1), (yi 0), yz, (yi 0), (yi 2), (yi 0), yz, (yi 1), (yi 2), (yi 0), yz]), (yi 0), (yi 3), (yi 0), yz, (yi 2), (yi 3), (yi 0), yz])]))], (.v (.one (yi 2)))⟩]
end
set_option maxRecDepth 100000 in
theorem eg11_ok : TblOk Tryz.prog (addTs .lf eg11) := chkT_ok T_ok mixed (fuel := 2000) (k := 100) (fz := 20) TblOk.nil (by kernel_rfl)
end Go.Proofs.YtkmgkfneeobcgaaGreat

/-! ## Gr12 -/
namespace Go.Proofs.YtkmgkfneeobcgaaGreat
open Go Go.Eng Go.Eng.Run
section
noncomputable def eg12 : List Ent := [⟨11, [(.v (.agg [(yi 4), (yo 2 [(yi 0), (yi 1), (yi 0), (yi 2), (yi 0), (yi 3), (yi 1), (yi 3), (yi 2), (yi 3)])]))], (.tup [(.agg [(yi 3), (yi 0), (yi 2), (yo 4 [(yi 1), (yi 0), (yi 3), (yo 4 [(yi 0), (yi 1), (yi 0), yz, (yi 0), (yi 3), (yi 0), yz, (yi 1), (yi 3), (yi 0), yz]), (yi 0), (yi 2), (yi 0), yz, (yi 2), (yi 3), (yi 0), yz])]), (.one (yi 0))])⟩,
 ⟨18, [(.v (.agg [(yi 3), (yi 0), (yi 2), (yo 4 [(yi 1), (yi 0), (yi 3), (yo 4 [(yi 0), (yi 1), (yi 0), yz, (yi 0), (yi 3), (yi 0), yz, (yi 1), (yi 3), (yi 0), yz]), (yi 0), (yi 2), (yi 0), yz, (yi 2), (yi 3), (yi 0), yz])])), (.v (.one (yi 40)))], (.v (.one yt))⟩,
 ⟨19, [(.v (.agg [(yi 4), (yo 2 [(yi 0), (yi 1), (yi 0), (yi 2), (yi 0), (yi 3), (yi 1), (yi 3), (yi 2), (yi 3)])])), (.v (.agg [(yi 3), (yi 0), (yi 2), (yo 4 [(yi 1), (yi 0), (yi 3), (yo 4 [(yi 0), (yi 1), (yi 0), yz, (yi 0), (yi 3), (yi 0), yz, (yi 1), (yi 3), (yi 0), yz]), (yi 0), (yi 2), (yi 0), yz, (yi 2), (yi 3), (yi 0), yz])]))], (.v (.one yt))⟩,
 ⟨20, [(.v (.agg [(yi 3), (yi 0), (yi 2), (yo 4 [(yi 1), (yi 0), (yi 3), (yo 4 [(yi 0), (yi 1), (yi 0), yz, (yi 0), (yi 3), (yi 0), yz, (yi 1), (yi 3), (yi 0), yz]), (yi 0), (yi 2), (yi 0), yz, (yi 2), (yi 3), (yi 0), yz])]))], (.v (.one (yi 2)))⟩]
end
set_option maxRecDepth 100000 in
theorem eg12_ok : TblOk Tryz.prog (addTs .lf eg12) := chkT_ok T_ok mixed (fuel := 2000) (k := 100) (fz := 20) TblOk.nil (by kernel_rfl)
end Go.Proofs.YtkmgkfneeobcgaaGreat

/-! ## Gr13 -/
namespace Go.Proofs.YtkmgkfneeobcgaaGreat
open Go Go.Eng Go.Eng.Run
section
noncomputable def eg13 : List Ent := [⟨27, [(.v (.agg [(yi 4), (yo 2 [(yi 0), (yi 1), (yi 0), (yi 2), (yi 0), (yi 3), (yi 1), (yi 3), (yi 2), (yi 3)])])), (.v (.agg [(yi 3), (yi 0), (yi 2), (yo 4 [(yi 1), (yi 0), (yi 3), (yo 4 [(yi 0), (yi 1), (yi 0), yz, (yi 0), (yi 3), (yi 0), yz, (yi 1), (yi 3), (yi 0), yz]), (yi 0), (yi 2), (yi 0), yz, (yi 2), (yi 3), (yi 0), yz])]))], (.v (.one yt))⟩,
 ⟨16, [(.v (.agg [(yi 3), (yi 0), (yi 2), (yo 4 [(yi 1), (yi 0), (yi 3), (yo 4 [(yi 0), (yi 1), (yi 0), yz, (yi 0), (yi 3), (yi 0), yz, (yi 1), (yi 3), (yi 0), yz]), (yi 0), (yi 2), (yi 0), yz, (yi 2), (yi 3), (yi 0), yz])]))], (.v (.one (yi 2)))⟩,
 ⟨11, [(.v (.agg [(yi 4), (yo 2 [(yi 0), (yi 1), (yi 0), (yi 2), (yi 1), (yi 2), (yi 1), (yi 3), (yi 2), (yi 3)])]))], (.tup [(.agg [(yi 2), (yi 1), (yi 3), (yo 4 [(yi 1), (yi 0), (yi 2), (yo 4 [(yi 0), (yi 1), (yi 0), yz, (yi 0), (yi 2), (yi 0), yz, (yi 1), (yi 2), (yi 0), yz]), (yi 1), (yi 3), (yi 0), yz, (yi 2), (yi 3), (yi 0), yz])]), (.one (yi 0))])⟩,
 ⟨18, [(.v (.agg [(yi 2), (yi 1), (yi 3), (yo 4 [(yi 1), (yi 0), (yi 2), (yo 4 [(yi 0), (yi 1), (yi 0), yz, (yi 0), (yi 2), (yi 0), yz, (yi 1), (yi 2), (yi 0), yz]), (yi 1), (yi 3), (yi 0), yz, (yi 2), (yi 3), (yi 0), yz])])), (.v (.one (yi 40)))], (.v (.one yt))⟩,
 ⟨19, [(.v (.agg [(yi 4), (yo 2 [(yi 0), (yi 1), (yi 0), (yi 2), (yi 1), (yi 2), (yi 1), (yi 3), (yi 2), (yi 3)])])), (.v (.agg [(yi 2), (yi 1), (yi 3), (yo 4 [(yi 1), (yi 0), (yi 2), (yo 4 [(yi 0), (yi 1), (yi 0), yz, (yi 0), (yi 2), (yi 0), yz, (yi 1), (yi 2), (yi 0), yz]), (yi 1), (yi 3), (yi 0), yz, (yi 2), (yi 3), (yi 0), yz])]))], (.v (.one yt))⟩,
 ⟨20, [(.v (.agg [(yi 2), (yi 1), (yi 3), (yo 4 [(yi 1), (yi 0), (yi 2), (yo 4 [(yi 0), (yi 1), (yi 0), yz, (yi 0), (yi 2), (yi 0), yz, (yi 1), (yi 2), (yi 0), yz]), (yi 1), (yi 3), (yi 0), yz, (yi 2), (yi 3), (yi 0), yz])]))], (.v (.one (yi 2)))⟩]
end
set_option maxRecDepth 100000 in
theorem eg13_ok : TblOk Tryz.prog (addTs .lf eg13) := chkT_ok T_ok mixed (fuel := 2000) (k := 100) (fz := 20) TblOk.nil (by kernel_rfl)
end Go.Proofs.YtkmgkfneeobcgaaGreat

/-! ## Gr14 -/
namespace Go.Proofs.YtkmgkfneeobcgaaGreat
open Go Go.Eng Go.Eng.Run
section
noncomputable def eg14 : List Ent := [⟨27, [(.v (.agg [(yi 4), (yo 2 [(yi 0), (yi 1), (yi 0), (yi 2), (yi 1), (yi 2), (yi 1), (yi 3), (yi 2), (yi 3)])])), (.v (.agg [(yi 2), (yi 1), (yi 3), (yo 4 [(yi 1), (yi 0), (yi 2), (yo 4 [(yi 0), (yi 1), (yi 0), yz, (yi 0), (yi 2), (yi 0), yz, (yi 1), (yi 2), (yi 0), yz]), (yi 1), (yi 3), (yi 0), yz, (yi 2), (yi 3), (yi 0), yz])]))], (.v (.one yt))⟩,
 ⟨16, [(.v (.agg [(yi 2), (yi 1), (yi 3), (yo 4 [(yi 1), (yi 0), (yi 2), (yo 4 [(yi 0), (yi 1), (yi 0), yz, (yi 0), (yi 2), (yi 0), yz, (yi 1), (yi 2), (yi 0), yz]), (yi 1), (yi 3), (yi 0), yz, (yi 2), (yi 3), (yi 0), yz])]))], (.v (.one (yi 2)))⟩,
 ⟨11, [(.v (.agg [(yi 4), (yo 2 [(yi 0), (yi 1), (yi 0), (yi 3), (yi 1), (yi 2), (yi 1), (yi 3), (yi 2), (yi 3)])]))], (.tup [(.agg [(yi 3), (yi 1), (yi 2), (yo 4 [(yi 1), (yi 0), (yi 3), (yo 4 [(yi 0), (yi 1), (yi 0), yz, (yi 0), (yi 3), (yi 0), yz, (yi 1), (yi 3), (yi 0), yz]), (yi 1), (yi 2), (yi 0), yz, (yi 2), (yi 3), (yi 0), yz])]), (.one (yi 0))])⟩,
 ⟨18, [(.v (.agg [(yi 3), (yi 1), (yi 2), (yo 4 [(yi 1), (yi 0), (yi 3), (yo 4 [(yi 0), (yi 1), (yi 0), yz, (yi 0), (yi 3), (yi 0), yz, (yi 1), (yi 3), (yi 0), yz]), (yi 1), (yi 2), (yi 0), yz, (yi 2), (yi 3), (yi 0), yz])])), (.v (.one (yi 40)))], (.v (.one yt))⟩,
 ⟨19, [(.v (.agg [(yi 4), (yo 2 [(yi 0), (yi 1), (yi 0), (yi 3), (yi 1), (yi 2), (yi 1), (yi 3), (yi 2), (yi 3)])])), (.v (.agg [(yi 3), (yi 1), (yi 2), (yo 4 [(yi 1), (yi 0), (yi 3), (yo 4 [(yi 0), (yi 1), (yi 0), yz, (yi 0), (yi 3), (yi 0), yz, (yi 1), (yi 3), (yi 0), yz]), (yi 1), (yi 2), (yi 0), yz, (yi 2), (yi 3), (yi 0), yz])]))], (.v (.one yt))⟩]
end
set_option maxRecDepth 100000 in
theorem eg14_ok : TblOk Tryz.prog (addTs .lf eg14) := chkT_ok T_ok mixed (fuel := 2000) (k := 100) (fz := 20) TblOk.nil (by kernel_rfl)
end Go.Proofs.YtkmgkfneeobcgaaGreat

/-! ## Gr15 -/
namespace Go.Proofs.YtkmgkfneeobcgaaGreat
open Go Go.Eng Go.Eng.Run
section
noncomputable def eg15 : List Ent := [⟨20, [(.v (.agg [(yi 3), (yi 1), (yi 2), (yo 4 [(yi 1), (yi 0), (yi 3), (yo 4 [(yi 0), (yi 1), (yi 0), yz, (yi 0), (yi 3), (yi 0), yz, (yi 1), (yi 3), (yi 0), yz]), (yi 1), (yi 2), (yi 0), yz, (yi 2), (yi 3), (yi 0), yz])]))], (.v (.one (yi 2)))⟩,
 ⟨27, [(.v (.agg [(yi 4), (yo 2 [(yi 0), (yi 1), (yi 0), (yi 3), (yi 1), (yi 2), (yi 1), (yi 3), (yi 2), (yi 3)])])), (.v (.agg [(yi 3), (yi 1), (yi 2), (yo 4 [(yi 1), (yi 0), (yi 3), (yo 4 [(yi 0), (yi 1), (yi 0), yz, (yi 0), (yi 3), (yi 0), yz, (yi 1), (yi 3), (yi 0), yz]), (yi 1), (yi 2), (yi 0), yz, (yi 2), (yi 3), (yi 0), yz])]))], (.v (.one yt))⟩,
 ⟨16, [(.v (.agg [(yi 3), (yi 1), (yi 2), (yo 4 [(yi 1), (yi 0), (yi 3), (yo 4 [(yi 0), (yi 1), (yi 0), yz, (yi 0), (yi 3), (yi 0), yz, (yi 1), (yi 3), (yi 0), yz]), (yi 1), (yi 2), (yi 0), yz, (yi 2), (yi 3), (yi 0), yz])]))], (.v (.one (yi 2)))⟩,
 ⟨11, [(.v (.agg [(yi 4), (yo 2 [(yi 0), (yi 2), (yi 0), (yi 3), (yi 1), (yi 2), (yi 1), (yi 3), (yi 2), (yi 3)])]))], (.tup [(.agg [(yi 3), (yi 2), (yi 1), (yo 4 [(yi 2), (yi 0), (yi 3), (yo 4 [(yi 0), (yi 2), (yi 0), yz, (yi 0), (yi 3), (yi 0), yz, (yi 2), (yi 3), (yi 0), yz]), (yi 1), (yi 2), (yi 0), yz, (yi 1), (yi 3), (yi 0), yz])]), (.one (yi 0))])⟩,
 ⟨18, [(.v (.agg [(yi 3), (yi 2), (yi 1), (yo 4 [(yi 2), (yi 0), (yi 3), (yo 4 [(yi 0), (yi 2), (yi 0), yz, (yi 0), (yi 3), (yi 0), yz, (yi 2), (yi 3), (yi 0), yz]), (yi 1), (yi 2), (yi 0), yz, (yi 1), (yi 3), (yi 0), yz])])), (.v (.one (yi 40)))], (.v (.one yt))⟩]
end
set_option maxRecDepth 100000 in
theorem eg15_ok : TblOk Tryz.prog (addTs .lf eg15) := chkT_ok T_ok mixed (fuel := 2000) (k := 100) (fz := 20) TblOk.nil (by kernel_rfl)
end Go.Proofs.YtkmgkfneeobcgaaGreat

/-! ## Gr16 -/
namespace Go.Proofs.YtkmgkfneeobcgaaGreat
open Go Go.Eng Go.Eng.Run
section
noncomputable def eg16 : List Ent := [⟨19, [(.v (.agg [(yi 4), (yo 2 [(yi 0), (yi 2), (yi 0), (yi 3), (yi 1), (yi 2), (yi 1), (yi 3), (yi 2), (yi 3)])])), (.v (.agg [(yi 3), (yi 2), (yi 1), (yo 4 [(yi 2), (yi 0), (yi 3), (yo 4 [(yi 0), (yi 2), (yi 0), yz, (yi 0), (yi 3), (yi 0), yz, (yi 2), (yi 3), (yi 0), yz]), (yi 1), (yi 2), (yi 0), yz, (yi 1), (yi 3), (yi 0), yz])]))], (.v (.one yt))⟩,
 ⟨20, [(.v (.agg [(yi 3), (yi 2), (yi 1), (yo 4 [(yi 2), (yi 0), (yi 3), (yo 4 [(yi 0), (yi 2), (yi 0), yz, (yi 0), (yi 3), (yi 0), yz, (yi 2), (yi 3), (yi 0), yz]), (yi 1), (yi 2), (yi 0), yz, (yi 1), (yi 3), (yi 0), yz])]))], (.v (.one (yi 2)))⟩,
 ⟨27, [(.v (.agg [(yi 4), (yo 2 [(yi 0), (yi 2), (yi 0), (yi 3), (yi 1), (yi 2), (yi 1), (yi 3), (yi 2), (yi 3)])])), (.v (.agg [(yi 3), (yi 2), (yi 1), (yo 4 [(yi 2), (yi 0), (yi 3), (yo 4 [(yi 0), (yi 2), (yi 0), yz, (yi 0), (yi 3), (yi 0), yz, (yi 2), (yi 3), (yi 0), yz]), (yi 1), (yi 2), (yi 0), yz, (yi 1), (yi 3), (yi 0), yz])]))], (.v (.one yt))⟩,
 ⟨16, [(.v (.agg [(yi 3), (yi 2), (yi 1), (yo 4 [(yi 2), (yi 0), (yi 3), (yo 4 [(yi 0), (yi 2), (yi 0), yz, (yi 0), (yi 3), (yi 0), yz, (yi 2), (yi 3), (yi 0), yz]), (yi 1), (yi 2), (yi 0), yz, (yi 1), (yi 3), (yi 0), yz])]))], (.v (.one (yi 2)))⟩]
end
set_option maxRecDepth 100000 in
theorem eg16_ok : TblOk Tryz.prog (addTs .lf eg16) := chkT_ok T_ok mixed (fuel := 2000) (k := 100) (fz := 20) TblOk.nil (by kernel_rfl)
end Go.Proofs.YtkmgkfneeobcgaaGreat

/-! ## Gs1 -/
namespace Go.Proofs.YtkmgkfneeobcgaaGreat
open Go Go.Eng Go.Eng.Run
section
noncomputable def es1 : List Ent := [⟨26, [(.v (.agg [(yi 2), (yo 2 [(yi 0), (yi 1)])]))], (.v (.one yt))⟩,
 ⟨26, [(.v (.agg [(yi 3), (yo 2 [(yi 0), (yi 1), (yi 0), (yi 2), (yi 1), (yi 2)])]))], (.v (.one yt))⟩,
 ⟨27, [(.v (.agg [(yi 3), (yo 2 [(yi 0), (yi 1), (yi 0), (yi 2), (yi 1), (yi 2)])])), (.v (.agg [(yi 0), (yi 1), (yi 0), yz]))], (.v (.one yf))⟩,
 ⟨27, [(.v (.agg [(yi 3), (yo 2 [(yi 0), (yi 1), (yi 0), (yi 2), (yi 1), (yi 2)])])), (.v (.agg [(yi 0), (yi 2), (yi 0), yz]))], (.v (.one yf))⟩,
 ⟨27, [(.v (.agg [(yi 3), (yo 2 [(yi 0), (yi 1), (yi 0), (yi 2), (yi 1), (yi 2)])])), (.v (.agg [(yi 1), (yi 2), (yi 0), yz]))], (.v (.one yf))⟩,
 ⟨27, [(.v (.agg [(yi 3), (yo 2 [(yi 0), (yi 1), (yi 0), (yi 2), (yi 1), (yi 2)])])), (.v (.agg [(yi 0), (yi 1), (yi 2), (yo 4 [(yi 0), (yi 1), (yi 0), yz, (yi 0), (yi 2), (yi 0), yz, (yi 1), (yi 2), (yi 0), yz])]))], (.v (.one yf))⟩,
 ⟨26, [(.v (.agg [(yi 4), (yo 2 [(yi 0), (yi 1), (yi 0), (yi 2), (yi 0), (yi 3), (yi 1), (yi 2), (yi 1), (yi 3)])]))], (.v (.one yt))⟩,
 ⟨27, [(.v (.agg [(yi 4), (yo 2 [(yi 0), (yi 1), (yi 0), (yi 2), (yi 0), (yi 3), (yi 1), (yi 2), (yi 1), (yi 3)])])), (.v (.agg [(yi 1), (yi 0), (yi 2), (yo 4 [(yi 0), (yi 1), (yi 0), yz, (yi 0), (yi 2), (yi 0), yz, (yi 1), (yi 2), (yi 0), yz])]))], (.v (.one yf))⟩,
 ⟨27, [(.v (.agg [(yi 4), (yo 2 [(yi 0), (yi 1), (yi 0), (yi 2), (yi 0), (yi 3), (yi 1), (yi 2), (yi 1), (yi 3)])])), (.v (.agg [(yi 0), (yi 3), (yi 0), yz]))], (.v (.one yf))⟩,
 ⟨27, [(.v (.agg [(yi 4), (yo 2 [(yi 0), (yi 1), (yi 0), (yi 2), (yi 0), (yi 3), (yi 1), (yi 2), (yi 1), (yi 3)])])), (.v (.agg [(yi 1), (yi 3), (yi 0), yz]))], (.v (.one yf))⟩,
 ⟨27, [(.v (.agg [(yi 4), (yo 2 [(yi 0), (yi 1), (yi 0), (yi 2), (yi 0), (yi 3), (yi 1), (yi 2), (yi 1), (yi 3)])])), (.v (.agg [(yi 0), (yi 1), (yi 3), (yo 4 [(yi 1), (yi 0), (yi 2), (yo 4 [(yi 0), (yi 1), (yi 0), yz, (yi 0), (yi 2), (yi 0), yz, (yi 1), (yi 2), (yi 0), yz]), (yi 0), (yi 3), (yi 0), yz, (yi 1), (yi 3), (yi 0), yz])]))], (.v (.one yf))⟩,
 ⟨26, [(.v (.agg [(yi 4), (yo 2 [(yi 0), (yi 1), (yi 0), (yi 2), (yi 0), (yi 3), (yi 1), (yi 2), (yi 2), (yi 3)])]))], (.v (.one yt))⟩,
 ⟨27, [(.v (.agg [(yi 4), (yo 2 [(yi 0), (yi 1), (yi 0), (yi 2), (yi 0), (yi 3), (yi 1), (yi 2), (yi 2), (yi 3)])])), (.v (.agg [(yi 1), (yi 0), (yi 2), (yo 4 [(yi 0), (yi 1), (yi 0), yz, (yi 0), (yi 2), (yi 0), yz, (yi 1), (yi 2), (yi 0), yz])]))], (.v (.one yf))⟩,
 ⟨27, [(.v (.agg [(yi 4), (yo 2 [(yi 0), (yi 1), (yi 0), (yi 2), (yi 0), (yi 3), (yi 1), (yi 2), (yi 2), (yi 3)])])), (.v (.agg [(yi 0), (yi 3), (yi 0), yz]))], (.v (.one yf))⟩,
 ⟨27, [(.v (.agg [(yi 4), (yo 2 [(yi 0), (yi 1), (yi 0), (yi 2), (yi 0), (yi 3), (yi 1), (yi 2), (yi 2), (yi 3)])])), (.v (.agg [(yi 2), (yi 3), (yi 0), yz]))], (.v (.one yf))⟩]
end
set_option maxRecDepth 100000 in
theorem es1_ok : TblOk Tryz.prog (addTs .lf es1) := chkT_ok T_ok mixed (fuel := 2000) (k := 100) (fz := 20) TblOk.nil (by kernel_rfl)
end Go.Proofs.YtkmgkfneeobcgaaGreat

/-! ## Gs2 -/
namespace Go.Proofs.YtkmgkfneeobcgaaGreat
open Go Go.Eng Go.Eng.Run
section
noncomputable def es2 : List Ent := [⟨27, [(.v (.agg [(yi 4), (yo 2 [(yi 0), (yi 1), (yi 0), (yi 2), (yi 0), (yi 3), (yi 1), (yi 2), (yi 2), (yi 3)])])), (.v (.agg [(yi 0), (yi 2), (yi 3), (yo 4 [(yi 1), (yi 0), (yi 2), (yo 4 [(yi 0), (yi 1), (yi 0), yz, (yi 0), (yi 2), (yi 0), yz, (yi 1), (yi 2), (yi 0), yz]), (yi 0), (yi 3), (yi 0), yz, (yi 2), (yi 3), (yi 0), yz])]))], (.v (.one yf))⟩,
 ⟨26, [(.v (.agg [(yi 4), (yo 2 [(yi 0), (yi 1), (yi 0), (yi 2), (yi 0), (yi 3), (yi 1), (yi 3), (yi 2), (yi 3)])]))], (.v (.one yt))⟩,
 ⟨27, [(.v (.agg [(yi 4), (yo 2 [(yi 0), (yi 1), (yi 0), (yi 2), (yi 0), (yi 3), (yi 1), (yi 3), (yi 2), (yi 3)])])), (.v (.agg [(yi 1), (yi 0), (yi 3), (yo 4 [(yi 0), (yi 1), (yi 0), yz, (yi 0), (yi 3), (yi 0), yz, (yi 1), (yi 3), (yi 0), yz])]))], (.v (.one yf))⟩,
 ⟨27, [(.v (.agg [(yi 4), (yo 2 [(yi 0), (yi 1), (yi 0), (yi 2), (yi 0), (yi 3), (yi 1), (yi 3), (yi 2), (yi 3)])])), (.v (.agg [(yi 0), (yi 2), (yi 0), yz]))], (.v (.one yf))⟩,
 ⟨27, [(.v (.agg [(yi 4), (yo 2 [(yi 0), (yi 1), (yi 0), (yi 2), (yi 0), (yi 3), (yi 1), (yi 3), (yi 2), (yi 3)])])), (.v (.agg [(yi 2), (yi 3), (yi 0), yz]))], (.v (.one yf))⟩,
 ⟨27, [(.v (.agg [(yi 4), (yo 2 [(yi 0), (yi 1), (yi 0), (yi 2), (yi 0), (yi 3), (yi 1), (yi 3), (yi 2), (yi 3)])])), (.v (.agg [(yi 0), (yi 3), (yi 2), (yo 4 [(yi 1), (yi 0), (yi 3), (yo 4 [(yi 0), (yi 1), (yi 0), yz, (yi 0), (yi 3), (yi 0), yz, (yi 1), (yi 3), (yi 0), yz]), (yi 0), (yi 2), (yi 0), yz, (yi 2), (yi 3), (yi 0), yz])]))], (.v (.one yf))⟩,
 ⟨26, [(.v (.agg [(yi 4), (yo 2 [(yi 0), (yi 1), (yi 0), (yi 2), (yi 1), (yi 2), (yi 1), (yi 3), (yi 2), (yi 3)])]))], (.v (.one yt))⟩,
 ⟨27, [(.v (.agg [(yi 4), (yo 2 [(yi 0), (yi 1), (yi 0), (yi 2), (yi 1), (yi 2), (yi 1), (yi 3), (yi 2), (yi 3)])])), (.v (.agg [(yi 1), (yi 0), (yi 2), (yo 4 [(yi 0), (yi 1), (yi 0), yz, (yi 0), (yi 2), (yi 0), yz, (yi 1), (yi 2), (yi 0), yz])]))], (.v (.one yf))⟩,
 ⟨27, [(.v (.agg [(yi 4), (yo 2 [(yi 0), (yi 1), (yi 0), (yi 2), (yi 1), (yi 2), (yi 1), (yi 3), (yi 2), (yi 3)])])), (.v (.agg [(yi 1), (yi 3), (yi 0), yz]))], (.v (.one yf))⟩,
 ⟨27, [(.v (.agg [(yi 4), (yo 2 [(yi 0), (yi 1), (yi 0), (yi 2), (yi 1), (yi 2), (yi 1), (yi 3), (yi 2), (yi 3)])])), (.v (.agg [(yi 2), (yi 3), (yi 0), yz]))], (.v (.one yf))⟩]
end
set_option maxRecDepth 100000 in
theorem es2_ok : TblOk Tryz.prog (addTs .lf es2) := chkT_ok T_ok mixed (fuel := 2000) (k := 100) (fz := 20) TblOk.nil (by kernel_rfl)
end Go.Proofs.YtkmgkfneeobcgaaGreat

/-! ## Gs3 -/
namespace Go.Proofs.YtkmgkfneeobcgaaGreat
open Go Go.Eng Go.Eng.Run
section
noncomputable def es3 : List Ent := [⟨27, [(.v (.agg [(yi 4), (yo 2 [(yi 0), (yi 1), (yi 0), (yi 2), (yi 1), (yi 2), (yi 1), (yi 3), (yi 2), (yi 3)])])), (.v (.agg [(yi 1), (yi 2), (yi 3), (yo 4 [(yi 1), (yi 0), (yi 2), (yo 4 [(yi 0), (yi 1), (yi 0), yz, (yi 0), (yi 2), (yi 0), yz, (yi 1), (yi 2), (yi 0), yz]), (yi 1), (yi 3), (yi 0), yz, (yi 2), (yi 3), (yi 0), yz])]))], (.v (.one yf))⟩,
 ⟨26, [(.v (.agg [(yi 4), (yo 2 [(yi 0), (yi 1), (yi 0), (yi 3), (yi 1), (yi 2), (yi 1), (yi 3), (yi 2), (yi 3)])]))], (.v (.one yt))⟩,
 ⟨27, [(.v (.agg [(yi 4), (yo 2 [(yi 0), (yi 1), (yi 0), (yi 3), (yi 1), (yi 2), (yi 1), (yi 3), (yi 2), (yi 3)])])), (.v (.agg [(yi 1), (yi 0), (yi 3), (yo 4 [(yi 0), (yi 1), (yi 0), yz, (yi 0), (yi 3), (yi 0), yz, (yi 1), (yi 3), (yi 0), yz])]))], (.v (.one yf))⟩,
 ⟨27, [(.v (.agg [(yi 4), (yo 2 [(yi 0), (yi 1), (yi 0), (yi 3), (yi 1), (yi 2), (yi 1), (yi 3), (yi 2), (yi 3)])])), (.v (.agg [(yi 1), (yi 2), (yi 0), yz]))], (.v (.one yf))⟩,
 ⟨27, [(.v (.agg [(yi 4), (yo 2 [(yi 0), (yi 1), (yi 0), (yi 3), (yi 1), (yi 2), (yi 1), (yi 3), (yi 2), (yi 3)])])), (.v (.agg [(yi 2), (yi 3), (yi 0), yz]))], (.v (.one yf))⟩,
 ⟨27, [(.v (.agg [(yi 4), (yo 2 [(yi 0), (yi 1), (yi 0), (yi 3), (yi 1), (yi 2), (yi 1), (yi 3), (yi 2), (yi 3)])])), (.v (.agg [(yi 1), (yi 3), (yi 2), (yo 4 [(yi 1), (yi 0), (yi 3), (yo 4 [(yi 0), (yi 1), (yi 0), yz, (yi 0), (yi 3), (yi 0), yz, (yi 1), (yi 3), (yi 0), yz]), (yi 1), (yi 2), (yi 0), yz, (yi 2), (yi 3), (yi 0), yz])]))], (.v (.one yf))⟩,
 ⟨26, [(.v (.agg [(yi 4), (yo 2 [(yi 0), (yi 2), (yi 0), (yi 3), (yi 1), (yi 2), (yi 1), (yi 3), (yi 2), (yi 3)])]))], (.v (.one yt))⟩,
 ⟨27, [(.v (.agg [(yi 4), (yo 2 [(yi 0), (yi 2), (yi 0), (yi 3), (yi 1), (yi 2), (yi 1), (yi 3), (yi 2), (yi 3)])])), (.v (.agg [(yi 2), (yi 0), (yi 3), (yo 4 [(yi 0), (yi 2), (yi 0), yz, (yi 0), (yi 3), (yi 0), yz, (yi 2), (yi 3), (yi 0), yz])]))], (.v (.one yf))⟩,
 ⟨27, [(.v (.agg [(yi 4), (yo 2 [(yi 0), (yi 2), (yi 0), (yi 3), (yi 1), (yi 2), (yi 1), (yi 3), (yi 2), (yi 3)])])), (.v (.agg [(yi 1), (yi 2), (yi 0), yz]))], (.v (.one yf))⟩,
 ⟨27, [(.v (.agg [(yi 4), (yo 2 [(yi 0), (yi 2), (yi 0), (yi 3), (yi 1), (yi 2), (yi 1), (yi 3), (yi 2), (yi 3)])])), (.v (.agg [(yi 1), (yi 3), (yi 0), yz]))], (.v (.one yf))⟩]
end
set_option maxRecDepth 100000 in
theorem es3_ok : TblOk Tryz.prog (addTs .lf es3) := chkT_ok T_ok mixed (fuel := 2000) (k := 100) (fz := 20) TblOk.nil (by kernel_rfl)
end Go.Proofs.YtkmgkfneeobcgaaGreat

/-! ## Gs4 -/
namespace Go.Proofs.YtkmgkfneeobcgaaGreat
open Go Go.Eng Go.Eng.Run
section
noncomputable def es4 : List Ent := [⟨27, [(.v (.agg [(yi 4), (yo 2 [(yi 0), (yi 2), (yi 0), (yi 3), (yi 1), (yi 2), (yi 1), (yi 3), (yi 2), (yi 3)])])), (.v (.agg [(yi 2), (yi 3), (yi 1), (yo 4 [(yi 2), (yi 0), (yi 3), (yo 4 [(yi 0), (yi 2), (yi 0), yz, (yi 0), (yi 3), (yi 0), yz, (yi 2), (yi 3), (yi 0), yz]), (yi 1), (yi 2), (yi 0), yz, (yi 1), (yi 3), (yi 0), yz])]))], (.v (.one yf))⟩]
end
set_option maxRecDepth 100000 in
theorem es4_ok : TblOk Tryz.prog (addTs .lf es4) := chkT_ok T_ok mixed (fuel := 2000) (k := 100) (fz := 20) TblOk.nil (by kernel_rfl)
end Go.Proofs.YtkmgkfneeobcgaaGreat
