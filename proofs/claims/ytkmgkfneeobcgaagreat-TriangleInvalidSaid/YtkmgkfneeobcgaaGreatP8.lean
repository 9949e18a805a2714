/-
  TriangleInvalid: for every input the law returns true, and each argument reads afterwards as it read before. No condition.
  (Text 8 of 8; made by a program out of smaller texts.)
-/
import Derived.Deep.Slices
import Derived.ChangeArms
import Derived.ChangeSame
import Derived.Below
import Derived.OpenShut
import Derived.ProofKit
import Derived.Test.YtkmgkfneeobcgaaGreatRows
import Derived.Test.YtkmgkfneeobcgaaGreatP7
set_option linter.unusedSimpArgs false
set_option linter.unusedVariables false
open Nat renaming reduceAdd → s_n1, reduceMul → s_n2, reduceSub → s_n3, reduceEqDiff → s_n4, reduceLT → s_n5, reduceLeDiff → s_n6, reduceBEq → s_n7, reduceDiv → s_n8, reduceMod → s_n9, reducePow → s_n0
open Int renaming reduceToNat → s_i1, reduceLE → s_i2, reduceLT → s_i3, reduceEq → s_i4, reducePow → s_i5, reduceSub → s_i6, reduceNeg → s_i7

/-! ## RnB -/
namespace Go.Proofs.YtkmgkfneeobcgaaGreat
open Go Go.Eng Go.Eng.Run
section
noncomputable def esB : List Ent := [⟨22, [(.v (.one (yi 9)))], (.v (.agg [yz, (yo 4 [yf, (yo 1 [(yu 9)]), yf, (yo 1 [(yu 1)])])]))⟩,
 ⟨22, [(.v (.one (yi 16)))], (.v (.agg [yz, (yo 4 [yf, (yo 1 [(yu 16)]), yf, (yo 1 [(yu 1)])])]))⟩,
 ⟨22, [(.v (.one (yi 25)))], (.v (.agg [yz, (yo 4 [yf, (yo 1 [(yu 25)]), yf, (yo 1 [(yu 1)])])]))⟩,
 ⟨27, [(.v (.agg [(yi 3), (yo 2 [(yi 0), (yi 1), (yi 0), (yi 2), (yi 1), (yi 2)])])), (.v (.agg [(yi 0), (yi 1), (yi 2), (yo 4 [(yi 0), (yi 1), (yi 0), yz, (yi 1), (yi 2), (yi 0), yz, (yi 0), (yi 2), (yi 0), yz])]))], (.v (.one yt))⟩,
 ⟨137, [(.v (.one yz))], (.v (.one yt))⟩,
 ⟨196, [(.v (.one (yo 1 [(yu 1)])))], (.v (.one (yo 1 [(yu 1)])))⟩,
 ⟨196, [(.v (.one (yo 1 [(yu 9)])))], (.v (.one (yo 1 [(yu 9)])))⟩,
 ⟨207, [(.v (.one (yk .u64 1)))], (.v (.one (yo 1 [(yu 1)])))⟩,
 ⟨229, [(.v (.agg [yf, (yo 1 [(yu 1)])]))], (.v (.one yt))⟩,
 ⟨193, [(.v (.agg [yf, (yo 1 [(yu 9)]), yf, (yo 1 [(yu 1)])]))], (.v (.one yf))⟩,
 ⟨207, [(.v (.one (yk .u64 0)))], (.v (.one (yo 1 [])))⟩,
 ⟨196, [(.v (.one (yo 1 [])))], (.v (.one (yo 1 [])))⟩,
 ⟨158, [], (.v (.agg [yf, (yo 1 [(yu 1)])]))⟩,
 ⟨196, [(.v (.one yz))], (.v (.one yz))⟩,
 ⟨193, [(.v (.agg [yf, yz, yf, (yo 1 [(yu 1)])]))], (.v (.one yf))⟩,
 ⟨86, [(.v (.one yz))], (.v (.one yt))⟩,
 ⟨24, [(.v (.agg [yz, (yo 4 [yf, (yo 1 [(yu 9)]), yf, (yo 1 [(yu 1)])])]))], (.v (.one (yi 1)))⟩,
 ⟨196, [(.v (.one (yo 1 [(yu 16)])))], (.v (.one (yo 1 [(yu 16)])))⟩,
 ⟨193, [(.v (.agg [yf, (yo 1 [(yu 16)]), yf, (yo 1 [(yu 1)])]))], (.v (.one yf))⟩,
 ⟨24, [(.v (.agg [yz, (yo 4 [yf, (yo 1 [(yu 16)]), yf, (yo 1 [(yu 1)])])]))], (.v (.one (yi 1)))⟩,
 ⟨196, [(.v (.one (yo 1 [(yu 25)])))], (.v (.one (yo 1 [(yu 25)])))⟩,
 ⟨193, [(.v (.agg [yf, (yo 1 [(yu 25)]), yf, (yo 1 [(yu 1)])]))], (.v (.one yf))⟩,
 ⟨24, [(.v (.agg [yz, (yo 4 [yf, (yo 1 [(yu 25)]), yf, (yo 1 [(yu 1)])])]))], (.v (.one (yi 1)))⟩,
 ⟨207, [(.v (.one (yk .u64 2)))], (.v (.one (yo 1 [(yu 2)])))⟩,
 ⟨207, [(.v (.one (yk .u64 3)))], (.v (.one (yo 1 [(yu 3)])))⟩,
 ⟨262, [(.v (.agg [yf, (yo 1 [(yu 9)])]))], (.tup [(.agg [yf, (yo 1 [(yu 3)])]), (.one yt)])⟩,
 ⟨262, [(.v (.agg [yf, (yo 1 [(yu 1)])]))], (.tup [(.agg [yf, (yo 1 [(yu 1)])]), (.one yt)])⟩,
 ⟨196, [(.v (.one (yo 1 [(yu 3)])))], (.v (.one (yo 1 [(yu 3)])))⟩,
 ⟨193, [(.v (.agg [yf, (yo 1 [(yu 3)]), yf, (yo 1 [(yu 1)])]))], (.v (.one yf))⟩,
 ⟨72, [(.v (.agg [yz, (yo 4 [yf, (yo 1 [(yu 9)]), yf, (yo 1 [(yu 1)])])]))], (.tup [(.agg [yz, (yo 4 [yf, (yo 1 [(yu 3)]), yf, (yo 1 [(yu 1)])])]), (.one (yi 0))])⟩,
 ⟨73, [(.v (.one (yi 0)))], (.v (.agg [yz, (yo 4 [yf, yz, yf, (yo 1 [(yu 1)])])]))⟩,
 ⟨207, [(.v (.one (yk .u64 5)))], (.v (.one (yo 1 [(yu 5)])))⟩,
 ⟨262, [(.v (.agg [yf, (yo 1 [(yu 25)])]))], (.tup [(.agg [yf, (yo 1 [(yu 5)])]), (.one yt)])⟩,
 ⟨196, [(.v (.one (yo 1 [(yu 5)])))], (.v (.one (yo 1 [(yu 5)])))⟩,
 ⟨193, [(.v (.agg [yf, (yo 1 [(yu 5)]), yf, (yo 1 [(yu 1)])]))], (.v (.one yf))⟩,
 ⟨72, [(.v (.agg [yz, (yo 4 [yf, (yo 1 [(yu 25)]), yf, (yo 1 [(yu 1)])])]))], (.tup [(.agg [yz, (yo 4 [yf, (yo 1 [(yu 5)]), yf, (yo 1 [(yu 1)])])]), (.one (yi 0))])⟩,
 ⟨207, [(.v (.one (yk .u64 4)))], (.v (.one (yo 1 [(yu 4)])))⟩,
 ⟨262, [(.v (.agg [yf, (yo 1 [(yu 16)])]))], (.tup [(.agg [yf, (yo 1 [(yu 4)])]), (.one yt)])⟩,
 ⟨196, [(.v (.one (yo 1 [(yu 4)])))], (.v (.one (yo 1 [(yu 4)])))⟩,
 ⟨193, [(.v (.agg [yf, (yo 1 [(yu 4)]), yf, (yo 1 [(yu 1)])]))], (.v (.one yf))⟩,
 ⟨72, [(.v (.agg [yz, (yo 4 [yf, (yo 1 [(yu 16)]), yf, (yo 1 [(yu 1)])])]))], (.tup [(.agg [yz, (yo 4 [yf, (yo 1 [(yu 4)]), yf, (yo 1 [(yu 1)])])]), (.one (yi 0))])⟩,
 ⟨171, [(.v (.one yz)), (.v (.one yz))], (.v (.one yt))⟩,
 ⟨160, [(.v (.agg [yz, (yo 4 [yf, (yo 1 [(yu 3)]), yf, (yo 1 [(yu 1)])])])), (.v (.agg [yz, (yo 4 [yf, yz, yf, (yo 1 [(yu 1)])])]))], (.tup [(.agg [yz, (yo 4 [yf, (yo 1 [(yu 3)]), yf, (yo 1 [(yu 1)])])]), (.one (yi 0))])⟩,
 ⟨160, [(.v (.agg [yz, (yo 4 [yf, yz, yf, (yo 1 [(yu 1)])])])), (.v (.agg [yz, (yo 4 [yf, yz, yf, (yo 1 [(yu 1)])])]))], (.tup [(.agg [yz, (yo 4 [yf, yz, yf, (yo 1 [(yu 1)])])]), (.one (yi 0))])⟩,
 ⟨167, [(.v (.agg [yz, (yo 4 [yf, (yo 1 [(yu 3)]), yf, (yo 1 [(yu 1)])])])), (.v (.agg [yz, (yo 4 [yf, (yo 1 [(yu 3)]), yf, (yo 1 [(yu 1)])])]))], (.tup [(.agg [yz, (yo 4 [yf, (yo 1 [(yu 9)]), yf, (yo 1 [(yu 1)])])]), (.one (yi 0))])⟩,
 ⟨167, [(.v (.agg [yz, (yo 4 [yf, yz, yf, (yo 1 [(yu 1)])])])), (.v (.agg [yz, (yo 4 [yf, yz, yf, (yo 1 [(yu 1)])])]))], (.tup [(.agg [yz, (yo 4 [yf, yz, yf, (yo 1 [(yu 1)])])]), (.one (yi 0))])⟩]
end
noncomputable def tbB : Tbl := addTs tbA esB
set_option maxRecDepth 100000 in
theorem tbB_ok : TblOk Tryz.prog tbB := chkT_ok T_ok mixed (fuel := 2000) (k := 100) (fz := 20) tbA_ok (by kernel_rfl)

end Go.Proofs.YtkmgkfneeobcgaaGreat

/-! ## RnC -/
namespace Go.Proofs.YtkmgkfneeobcgaaGreat
open Go Go.Eng Go.Eng.Run
section
noncomputable def esC : List Ent := [⟨164, [(.v (.agg [yz, (yo 4 [yf, (yo 1 [(yu 9)]), yf, (yo 1 [(yu 1)])])])), (.v (.agg [yz, (yo 4 [yf, yz, yf, (yo 1 [(yu 1)])])]))], (.tup [(.agg [yz, (yo 4 [yf, (yo 1 [(yu 9)]), yf, (yo 1 [(yu 1)])])]), (.one (yi 0))])⟩,
 ⟨160, [(.v (.agg [yz, (yo 4 [yf, (yo 1 [(yu 5)]), yf, (yo 1 [(yu 1)])])])), (.v (.agg [yz, (yo 4 [yf, yz, yf, (yo 1 [(yu 1)])])]))], (.tup [(.agg [yz, (yo 4 [yf, (yo 1 [(yu 5)]), yf, (yo 1 [(yu 1)])])]), (.one (yi 0))])⟩,
 ⟨167, [(.v (.agg [yz, (yo 4 [yf, (yo 1 [(yu 5)]), yf, (yo 1 [(yu 1)])])])), (.v (.agg [yz, (yo 4 [yf, (yo 1 [(yu 5)]), yf, (yo 1 [(yu 1)])])]))], (.tup [(.agg [yz, (yo 4 [yf, (yo 1 [(yu 25)]), yf, (yo 1 [(yu 1)])])]), (.one (yi 0))])⟩,
 ⟨164, [(.v (.agg [yz, (yo 4 [yf, (yo 1 [(yu 25)]), yf, (yo 1 [(yu 1)])])])), (.v (.agg [yz, (yo 4 [yf, yz, yf, (yo 1 [(yu 1)])])]))], (.tup [(.agg [yz, (yo 4 [yf, (yo 1 [(yu 25)]), yf, (yo 1 [(yu 1)])])]), (.one (yi 0))])⟩,
 ⟨160, [(.v (.agg [yz, (yo 4 [yf, (yo 1 [(yu 4)]), yf, (yo 1 [(yu 1)])])])), (.v (.agg [yz, (yo 4 [yf, yz, yf, (yo 1 [(yu 1)])])]))], (.tup [(.agg [yz, (yo 4 [yf, (yo 1 [(yu 4)]), yf, (yo 1 [(yu 1)])])]), (.one (yi 0))])⟩,
 ⟨167, [(.v (.agg [yz, (yo 4 [yf, (yo 1 [(yu 4)]), yf, (yo 1 [(yu 1)])])])), (.v (.agg [yz, (yo 4 [yf, (yo 1 [(yu 4)]), yf, (yo 1 [(yu 1)])])]))], (.tup [(.agg [yz, (yo 4 [yf, (yo 1 [(yu 16)]), yf, (yo 1 [(yu 1)])])]), (.one (yi 0))])⟩,
 ⟨164, [(.v (.agg [yz, (yo 4 [yf, (yo 1 [(yu 16)]), yf, (yo 1 [(yu 1)])])])), (.v (.agg [yz, (yo 4 [yf, yz, yf, (yo 1 [(yu 1)])])]))], (.tup [(.agg [yz, (yo 4 [yf, (yo 1 [(yu 16)]), yf, (yo 1 [(yu 1)])])]), (.one (yi 0))])⟩,
 ⟨164, [(.v (.agg [yz, (yo 4 [yf, (yo 1 [(yu 9)]), yf, (yo 1 [(yu 1)])])])), (.v (.agg [yz, (yo 4 [yf, (yo 1 [(yu 16)]), yf, (yo 1 [(yu 1)])])]))], (.tup [(.agg [yz, (yo 4 [yf, (yo 1 [(yu 25)]), yf, (yo 1 [(yu 1)])])]), (.one (yi 0))])⟩,
 ⟨160, [(.v (.agg [yz, (yo 4 [yf, (yo 1 [(yu 25)]), yf, (yo 1 [(yu 1)])])])), (.v (.agg [yz, (yo 4 [yf, (yo 1 [(yu 25)]), yf, (yo 1 [(yu 1)])])]))], (.tup [(.agg [yz, (yo 4 [yf, yz, yf, (yo 1 [(yu 1)])])]), (.one (yi 0))])⟩,
 ⟨164, [(.v (.agg [yz, (yo 4 [yf, (yo 1 [(yu 9)]), yf, (yo 1 [(yu 1)])])])), (.v (.agg [yz, (yo 4 [yf, (yo 1 [(yu 9)]), yf, (yo 1 [(yu 1)])])]))], (.tup [(.agg [yz, (yo 4 [yf, (yo 1 [(yu 18)]), yf, (yo 1 [(yu 1)])])]), (.one (yi 0))])⟩,
 ⟨196, [(.v (.one (yo 1 [(yu 18)])))], (.v (.one (yo 1 [(yu 18)])))⟩,
 ⟨193, [(.v (.agg [yf, (yo 1 [(yu 18)]), yf, (yo 1 [(yu 1)])]))], (.v (.one yf))⟩,
 ⟨240, [(.v (.one yz)), (.v (.one (yo 4 [yf, (yo 1 [(yu 18)]), yf, (yo 1 [(yu 1)])])))], (.tup [(.one (yo 4 [yf, (yo 1 [(yu 1)]), yf, (yo 1 [(yu 18)])])), (.one yt)])⟩,
 ⟨193, [(.v (.agg [yf, (yo 1 [(yu 1)]), yf, (yo 1 [(yu 18)])]))], (.v (.one yf))⟩,
 ⟨229, [(.v (.agg [yf, (yo 1 [(yu 18)])]))], (.v (.one yf))⟩,
 ⟨207, [(.v (.one (yk .u64 18)))], (.v (.one (yo 1 [(yu 18)])))⟩,
 ⟨167, [(.v (.agg [yz, (yo 4 [yf, yz, yf, (yo 1 [(yu 1)])])])), (.v (.agg [yz, (yo 4 [yf, (yo 1 [(yu 1)]), yf, (yo 1 [(yu 18)])])]))], (.tup [(.agg [yz, (yo 4 [yf, yz, yf, (yo 1 [(yu 1)])])]), (.one (yi 0))])⟩,
 ⟨167, [(.v (.agg [yz, (yo 4 [yf, (yo 1 [(yu 3)]), yf, (yo 1 [(yu 1)])])])), (.v (.agg [yz, (yo 4 [yf, yz, yf, (yo 1 [(yu 1)])])]))], (.tup [(.agg [yz, (yo 4 [yf, yz, yf, (yo 1 [(yu 1)])])]), (.one (yi 0))])⟩,
 ⟨164, [(.v (.agg [yz, (yo 4 [yf, yz, yf, (yo 1 [(yu 1)])])])), (.v (.agg [yz, (yo 4 [yf, yz, yf, (yo 1 [(yu 1)])])]))], (.tup [(.agg [yz, (yo 4 [yf, yz, yf, (yo 1 [(yu 1)])])]), (.one (yi 0))])⟩,
 ⟨240, [(.v (.one yz)), (.v (.one (yo 4 [yf, (yo 1 [(yu 9)]), yf, (yo 1 [(yu 1)])])))], (.tup [(.one (yo 4 [yf, (yo 1 [(yu 1)]), yf, (yo 1 [(yu 9)])])), (.one yt)])⟩,
 ⟨193, [(.v (.agg [yf, (yo 1 [(yu 1)]), yf, (yo 1 [(yu 9)])]))], (.v (.one yf))⟩,
 ⟨229, [(.v (.agg [yf, (yo 1 [(yu 9)])]))], (.v (.one yf))⟩,
 ⟨167, [(.v (.agg [yz, (yo 4 [yf, (yo 1 [(yu 16)]), yf, (yo 1 [(yu 1)])])])), (.v (.agg [yz, (yo 4 [yf, (yo 1 [(yu 1)]), yf, (yo 1 [(yu 9)])])]))], (.tup [(.agg [yz, (yo 4 [yf, (yo 1 [(yu 16)]), yf, (yo 1 [(yu 9)])])]), (.one (yi 0))])⟩,
 ⟨193, [(.v (.agg [yf, (yo 1 [(yu 16)]), yf, (yo 1 [(yu 9)])]))], (.v (.one yf))⟩,
 ⟨160, [(.v (.agg [yz, (yo 4 [yf, (yo 1 [(yu 16)]), yf, (yo 1 [(yu 9)])])])), (.v (.agg [yz, (yo 4 [yf, yz, yf, (yo 1 [(yu 1)])])]))], (.tup [(.agg [yz, (yo 4 [yf, (yo 1 [(yu 16)]), yf, (yo 1 [(yu 9)])])]), (.one (yi 0))])⟩,
 ⟨193, [(.v (.agg [yt, (yo 1 [(yu 3)]), yf, (yo 1 [(yu 1)])]))], (.v (.one yf))⟩]
end
noncomputable def tbC : Tbl := addTs tbB esC
set_option maxRecDepth 100000 in
theorem tbC_ok : TblOk Tryz.prog tbC := chkT_ok T_ok mixed (fuel := 2000) (k := 100) (fz := 20) tbB_ok (by kernel_rfl)

end Go.Proofs.YtkmgkfneeobcgaaGreat

/-! ## RnD -/
namespace Go.Proofs.YtkmgkfneeobcgaaGreat
open Go Go.Eng Go.Eng.Run
section
noncomputable def esD : List Ent := [⟨168, [(.v (.agg [yz, (yo 4 [yf, (yo 1 [(yu 3)]), yf, (yo 1 [(yu 1)])]), yz, (yo 4 [yf, yz, yf, (yo 1 [(yu 1)])])]))], (.v (.agg [yz, (yo 4 [yf, yz, yf, (yo 1 [(yu 1)])]), yz, (yo 4 [yf, (yo 1 [(yu 3)]), yf, (yo 1 [(yu 1)])])]))⟩,
 ⟨24, [(.v (.agg [yz, (yo 4 [yf, (yo 1 [(yu 16)]), yf, (yo 1 [(yu 9)])])]))], (.v (.one (yi 1)))⟩,
 ⟨193, [(.v (.agg [yf, (yo 1 [(yu 4)]), yf, (yo 1 [(yu 3)])]))], (.v (.one yf))⟩,
 ⟨72, [(.v (.agg [yz, (yo 4 [yf, (yo 1 [(yu 16)]), yf, (yo 1 [(yu 9)])])]))], (.tup [(.agg [yz, (yo 4 [yf, (yo 1 [(yu 4)]), yf, (yo 1 [(yu 3)])])]), (.one (yi 0))])⟩,
 ⟨229, [(.v (.agg [yf, (yo 1 [(yu 3)])]))], (.v (.one yf))⟩,
 ⟨167, [(.v (.agg [yz, (yo 4 [yf, yz, yf, (yo 1 [(yu 1)])])])), (.v (.agg [yz, (yo 4 [yf, (yo 1 [(yu 4)]), yf, (yo 1 [(yu 3)])])]))], (.tup [(.agg [yz, (yo 4 [yf, yz, yf, (yo 1 [(yu 1)])])]), (.one (yi 0))])⟩,
 ⟨167, [(.v (.agg [yz, (yo 4 [yf, (yo 1 [(yu 3)]), yf, (yo 1 [(yu 1)])])])), (.v (.agg [yz, (yo 4 [yf, (yo 1 [(yu 4)]), yf, (yo 1 [(yu 3)])])]))], (.tup [(.agg [yz, (yo 4 [yf, (yo 1 [(yu 4)]), yf, (yo 1 [(yu 1)])])]), (.one (yi 0))])⟩,
 ⟨164, [(.v (.agg [yz, (yo 4 [yf, yz, yf, (yo 1 [(yu 1)])])])), (.v (.agg [yz, (yo 4 [yf, (yo 1 [(yu 4)]), yf, (yo 1 [(yu 1)])])]))], (.tup [(.agg [yz, (yo 4 [yf, (yo 1 [(yu 4)]), yf, (yo 1 [(yu 1)])])]), (.one (yi 0))])⟩,
 ⟨207, [(.v (.one (yk .u64 9)))], (.v (.one (yo 1 [(yu 9)])))⟩,
 ⟨167, [(.v (.agg [yz, (yo 4 [yf, (yo 1 [(yu 9)]), yf, (yo 1 [(yu 1)])])])), (.v (.agg [yz, (yo 4 [yf, (yo 1 [(yu 1)]), yf, (yo 1 [(yu 9)])])]))], (.tup [(.agg [yz, (yo 4 [yf, (yo 1 [(yu 1)]), yf, (yo 1 [(yu 1)])])]), (.one (yi 0))])⟩,
 ⟨167, [(.v (.agg [yz, (yo 4 [yf, yz, yf, (yo 1 [(yu 1)])])])), (.v (.agg [yz, (yo 4 [yf, (yo 1 [(yu 3)]), yf, (yo 1 [(yu 1)])])]))], (.tup [(.agg [yz, (yo 4 [yf, yz, yf, (yo 1 [(yu 1)])])]), (.one (yi 0))])⟩,
 ⟨167, [(.v (.agg [yz, (yo 4 [yf, yz, yf, (yo 1 [(yu 1)])])])), (.v (.agg [yz, (yo 4 [yf, (yo 1 [(yu 1)]), yf, (yo 1 [(yu 9)])])]))], (.tup [(.agg [yz, (yo 4 [yf, yz, yf, (yo 1 [(yu 1)])])]), (.one (yi 0))])⟩,
 ⟨193, [(.v (.agg [yf, (yo 1 [(yu 1)]), yf, (yo 1 [(yu 1)])]))], (.v (.one yf))⟩,
 ⟨167, [(.v (.agg [yz, (yo 4 [yf, (yo 1 [(yu 1)]), yf, (yo 1 [(yu 1)])])])), (.v (.agg [yz, (yo 4 [yf, yz, yf, (yo 1 [(yu 1)])])]))], (.tup [(.agg [yz, (yo 4 [yf, yz, yf, (yo 1 [(yu 1)])])]), (.one (yi 0))])⟩,
 ⟨160, [(.v (.agg [yz, (yo 4 [yf, yz, yf, (yo 1 [(yu 1)])])])), (.v (.agg [yz, (yo 4 [yf, (yo 1 [(yu 3)]), yf, (yo 1 [(yu 1)])])]))], (.tup [(.agg [yz, (yo 4 [yt, (yo 1 [(yu 3)]), yf, (yo 1 [(yu 1)])])]), (.one (yi 0))])⟩,
 ⟨167, [(.v (.agg [yz, (yo 4 [yt, (yo 1 [(yu 3)]), yf, (yo 1 [(yu 1)])])])), (.v (.agg [yz, (yo 4 [yt, (yo 1 [(yu 3)]), yf, (yo 1 [(yu 1)])])]))], (.tup [(.agg [yz, (yo 4 [yf, (yo 1 [(yu 9)]), yf, (yo 1 [(yu 1)])])]), (.one (yi 0))])⟩,
 ⟨167, [(.v (.agg [yz, (yo 4 [yf, (yo 1 [(yu 5)]), yf, (yo 1 [(yu 1)])])])), (.v (.agg [yz, (yo 4 [yt, (yo 1 [(yu 3)]), yf, (yo 1 [(yu 1)])])]))], (.tup [(.agg [yz, (yo 4 [yt, (yo 1 [(yu 15)]), yf, (yo 1 [(yu 1)])])]), (.one (yi 0))])⟩,
 ⟨167, [(.v (.agg [yz, (yo 4 [yf, yz, yf, (yo 1 [(yu 1)])])])), (.v (.agg [yz, (yo 4 [yf, (yo 1 [(yu 4)]), yf, (yo 1 [(yu 1)])])]))], (.tup [(.agg [yz, (yo 4 [yf, yz, yf, (yo 1 [(yu 1)])])]), (.one (yi 0))])⟩,
 ⟨193, [(.v (.agg [yt, (yo 1 [(yu 15)]), yf, (yo 1 [(yu 1)])]))], (.v (.one yf))⟩,
 ⟨164, [(.v (.agg [yz, (yo 4 [yt, (yo 1 [(yu 15)]), yf, (yo 1 [(yu 1)])])])), (.v (.agg [yz, (yo 4 [yf, yz, yf, (yo 1 [(yu 1)])])]))], (.tup [(.agg [yz, (yo 4 [yt, (yo 1 [(yu 15)]), yf, (yo 1 [(yu 1)])])]), (.one (yi 0))])⟩,
 ⟨240, [(.v (.one yz)), (.v (.one (yo 4 [yf, (yo 1 [(yu 25)]), yf, (yo 1 [(yu 1)])])))], (.tup [(.one (yo 4 [yf, (yo 1 [(yu 1)]), yf, (yo 1 [(yu 25)])])), (.one yt)])⟩,
 ⟨193, [(.v (.agg [yf, (yo 1 [(yu 1)]), yf, (yo 1 [(yu 25)])]))], (.v (.one yf))⟩,
 ⟨229, [(.v (.agg [yf, (yo 1 [(yu 25)])]))], (.v (.one yf))⟩,
 ⟨229, [(.v (.agg [yf, (yo 1 [(yu 5)])]))], (.v (.one yf))⟩]
end
noncomputable def tbD : Tbl := addTs tbC esD
set_option maxRecDepth 100000 in
theorem tbD_ok : TblOk Tryz.prog tbD := chkT_ok T_ok mixed (fuel := 2000) (k := 100) (fz := 20) tbC_ok (by kernel_rfl)

end Go.Proofs.YtkmgkfneeobcgaaGreat

/-! ## RnE -/
namespace Go.Proofs.YtkmgkfneeobcgaaGreat
open Go Go.Eng Go.Eng.Run
section
noncomputable def esE : List Ent := [⟨167, [(.v (.agg [yz, (yo 4 [yt, (yo 1 [(yu 15)]), yf, (yo 1 [(yu 1)])])])), (.v (.agg [yz, (yo 4 [yf, (yo 1 [(yu 1)]), yf, (yo 1 [(yu 25)])])]))], (.tup [(.agg [yz, (yo 4 [yt, (yo 1 [(yu 3)]), yf, (yo 1 [(yu 5)])])]), (.one (yi 0))])⟩,
 ⟨193, [(.v (.agg [yt, (yo 1 [(yu 5)]), yf, (yo 1 [(yu 1)])]))], (.v (.one yf))⟩,
 ⟨168, [(.v (.agg [yz, (yo 4 [yf, (yo 1 [(yu 5)]), yf, (yo 1 [(yu 1)])]), yz, (yo 4 [yf, yz, yf, (yo 1 [(yu 1)])])]))], (.v (.agg [yz, (yo 4 [yf, yz, yf, (yo 1 [(yu 1)])]), yz, (yo 4 [yf, (yo 1 [(yu 5)]), yf, (yo 1 [(yu 1)])])]))⟩,
 ⟨167, [(.v (.agg [yz, (yo 4 [yf, yz, yf, (yo 1 [(yu 1)])])])), (.v (.agg [yz, (yo 4 [yt, (yo 1 [(yu 3)]), yf, (yo 1 [(yu 1)])])]))], (.tup [(.agg [yz, (yo 4 [yf, yz, yf, (yo 1 [(yu 1)])])]), (.one (yi 0))])⟩,
 ⟨167, [(.v (.agg [yz, (yo 4 [yf, (yo 1 [(yu 5)]), yf, (yo 1 [(yu 1)])])])), (.v (.agg [yz, (yo 4 [yf, (yo 1 [(yu 4)]), yf, (yo 1 [(yu 1)])])]))], (.tup [(.agg [yz, (yo 4 [yf, (yo 1 [(yu 20)]), yf, (yo 1 [(yu 1)])])]), (.one (yi 0))])⟩,
 ⟨193, [(.v (.agg [yf, (yo 1 [(yu 20)]), yf, (yo 1 [(yu 1)])]))], (.v (.one yf))⟩,
 ⟨164, [(.v (.agg [yz, (yo 4 [yf, yz, yf, (yo 1 [(yu 1)])])])), (.v (.agg [yz, (yo 4 [yf, (yo 1 [(yu 20)]), yf, (yo 1 [(yu 1)])])]))], (.tup [(.agg [yz, (yo 4 [yf, (yo 1 [(yu 20)]), yf, (yo 1 [(yu 1)])])]), (.one (yi 0))])⟩,
 ⟨167, [(.v (.agg [yz, (yo 4 [yf, (yo 1 [(yu 20)]), yf, (yo 1 [(yu 1)])])])), (.v (.agg [yz, (yo 4 [yf, (yo 1 [(yu 1)]), yf, (yo 1 [(yu 25)])])]))], (.tup [(.agg [yz, (yo 4 [yf, (yo 1 [(yu 4)]), yf, (yo 1 [(yu 5)])])]), (.one (yi 0))])⟩,
 ⟨193, [(.v (.agg [yt, (yo 1 [(yu 3)]), yf, (yo 1 [(yu 5)])]))], (.v (.one yf))⟩,
 ⟨167, [(.v (.agg [yz, (yo 4 [yt, (yo 1 [(yu 3)]), yf, (yo 1 [(yu 5)])])])), (.v (.agg [yz, (yo 4 [yf, yz, yf, (yo 1 [(yu 1)])])]))], (.tup [(.agg [yz, (yo 4 [yf, yz, yf, (yo 1 [(yu 1)])])]), (.one (yi 0))])⟩,
 ⟨193, [(.v (.agg [yf, (yo 1 [(yu 4)]), yf, (yo 1 [(yu 5)])]))], (.v (.one yf))⟩,
 ⟨167, [(.v (.agg [yz, (yo 4 [yf, (yo 1 [(yu 4)]), yf, (yo 1 [(yu 5)])])])), (.v (.agg [yz, (yo 4 [yf, yz, yf, (yo 1 [(yu 1)])])]))], (.tup [(.agg [yz, (yo 4 [yf, yz, yf, (yo 1 [(yu 1)])])]), (.one (yi 0))])⟩,
 ⟨164, [(.v (.agg [yz, (yo 4 [yf, yz, yf, (yo 1 [(yu 1)])])])), (.v (.agg [yz, (yo 4 [yf, (yo 1 [(yu 16)]), yf, (yo 1 [(yu 1)])])]))], (.tup [(.agg [yz, (yo 4 [yf, (yo 1 [(yu 16)]), yf, (yo 1 [(yu 1)])])]), (.one (yi 0))])⟩,
 ⟨167, [(.v (.agg [yz, (yo 4 [yf, (yo 1 [(yu 4)]), yf, (yo 1 [(yu 1)])])])), (.v (.agg [yz, (yo 4 [yf, yz, yf, (yo 1 [(yu 1)])])]))], (.tup [(.agg [yz, (yo 4 [yf, yz, yf, (yo 1 [(yu 1)])])]), (.one (yi 0))])⟩,
 ⟨240, [(.v (.one yz)), (.v (.one (yo 4 [yf, (yo 1 [(yu 16)]), yf, (yo 1 [(yu 1)])])))], (.tup [(.one (yo 4 [yf, (yo 1 [(yu 1)]), yf, (yo 1 [(yu 16)])])), (.one yt)])⟩,
 ⟨193, [(.v (.agg [yf, (yo 1 [(yu 1)]), yf, (yo 1 [(yu 16)])]))], (.v (.one yf))⟩,
 ⟨229, [(.v (.agg [yf, (yo 1 [(yu 16)])]))], (.v (.one yf))⟩,
 ⟨207, [(.v (.one (yk .u64 16)))], (.v (.one (yo 1 [(yu 16)])))⟩,
 ⟨167, [(.v (.agg [yz, (yo 4 [yf, yz, yf, (yo 1 [(yu 1)])])])), (.v (.agg [yz, (yo 4 [yf, (yo 1 [(yu 1)]), yf, (yo 1 [(yu 16)])])]))], (.tup [(.agg [yz, (yo 4 [yf, yz, yf, (yo 1 [(yu 1)])])]), (.one (yi 0))])⟩,
 ⟨193, [(.v (.agg [yt, (yo 1 [(yu 4)]), yf, (yo 1 [(yu 1)])]))], (.v (.one yf))⟩,
 ⟨168, [(.v (.agg [yz, (yo 4 [yf, (yo 1 [(yu 4)]), yf, (yo 1 [(yu 1)])]), yz, (yo 4 [yf, yz, yf, (yo 1 [(yu 1)])])]))], (.v (.agg [yz, (yo 4 [yf, yz, yf, (yo 1 [(yu 1)])]), yz, (yo 4 [yf, (yo 1 [(yu 4)]), yf, (yo 1 [(yu 1)])])]))⟩]
end
noncomputable def tbE : Tbl := addTs tbD esE
set_option maxRecDepth 100000 in
theorem tbE_ok : TblOk Tryz.prog tbE := chkT_ok T_ok mixed (fuel := 2000) (k := 100) (fz := 20) tbD_ok (by kernel_rfl)

end Go.Proofs.YtkmgkfneeobcgaaGreat

/-! ## RnF -/
namespace Go.Proofs.YtkmgkfneeobcgaaGreat
open Go Go.Eng Go.Eng.Run
section
noncomputable def esF : List Ent := [⟨167, [(.v (.agg [yz, (yo 4 [yf, (yo 1 [(yu 16)]), yf, (yo 1 [(yu 1)])])])), (.v (.agg [yz, (yo 4 [yf, (yo 1 [(yu 1)]), yf, (yo 1 [(yu 16)])])]))], (.tup [(.agg [yz, (yo 4 [yf, (yo 1 [(yu 1)]), yf, (yo 1 [(yu 1)])])]), (.one (yi 0))])⟩,
 ⟨12, [(.v (.one yf))], (.v (.agg [(yi 4), (yo 2 [(yi 0), (yi 1), (yi 0), (yi 3), (yi 1), (yi 2), (yi 2), (yi 3)])]))⟩,
 ⟨11, [(.v (.agg [(yi 4), (yo 2 [(yi 0), (yi 1), (yi 0), (yi 3), (yi 1), (yi 2), (yi 2), (yi 3)])]))], (.tup [(.agg [(yi 0), (yi 0), (yi 0), yz]), (.one (yi 13))])⟩,
 ⟨12, [(.v (.one yt))], (.v (.agg [(yi 4), (yo 2 [(yi 0), (yi 1), (yi 0), (yi 2), (yi 0), (yi 3), (yi 1), (yi 2), (yi 2), (yi 3)])]))⟩,
 ⟨11, [(.v (.agg [(yi 4), (yo 2 [(yi 0), (yi 1), (yi 0), (yi 2), (yi 0), (yi 3), (yi 1), (yi 2), (yi 2), (yi 3)])]))], (.tup [(.agg [(yi 2), (yi 0), (yi 3), (yo 4 [(yi 1), (yi 0), (yi 2), (yo 4 [(yi 0), (yi 1), (yi 0), yz, (yi 0), (yi 2), (yi 0), yz, (yi 1), (yi 2), (yi 0), yz]), (yi 0), (yi 3), (yi 0), yz, (yi 2), (yi 3), (yi 0), yz])]), (.one (yi 0))])⟩,
 ⟨242, [(.v (.one yz)), (.v (.one yz))], (.v (.one yt))⟩,
 ⟨191, [(.v (.one yz)), (.v (.one (yo 4 [yf, (yo 1 []), yf, (yo 1 [(yu 1)])])))], (.v (.one (yi 0)))⟩]
end
noncomputable def tbF : Tbl := addTs tbE esF
set_option maxRecDepth 100000 in
theorem tbF_ok : TblOk Tryz.prog tbF := chkT_ok T_ok mixed (fuel := 2000) (k := 100) (fz := 20) tbE_ok (by kernel_rfl)

end Go.Proofs.YtkmgkfneeobcgaaGreat

/-! ## RnZ -/
namespace Go.Proofs.YtkmgkfneeobcgaaGreat
open Go Go.Eng Go.Eng.Run
set_option maxRecDepth 100000 in
theorem awakeR : PureCalls Tryz.prog 4 [] (.one (.bool true)) := pure_of_runs T_ok mixed (orcT_ok tbF_ok) (fuel := 2000) (k := 100) (fz := 20) (args := []) (r := .v (.one (.cl (.bool true)))) rfl (by kernel_rfl)

end Go.Proofs.YtkmgkfneeobcgaaGreat

/-! ## FnYf -/
namespace Go.Proofs.YtkmgkfneeobcgaaGreat
open Go Go.Eng Go.Gra

/-! ### TriangleInvalid: the law's walk. -/
section
variable {n : Int} {m : Nat} {f : Nat → E} {ls : List Int} {nb : Nat} {bk : Nat → Bool} {ch : Int}
theorem awake40 : PureCalls Tryz.prog 4 [] (.one (.bool true)) := awakeR

set_option maxRecDepth 10000 in
theorem law_no (t : PureCalls Tryz.prog 5 [.agg (cA n m f ls nb bk)] noTree) : PureCalls Tryz.prog 3 [.agg (cA n m f ls nb bk), .one (.int .u8 ch)] (.one (.bool true)) := by
  simp only [cA, edC, bkC, noTree, tC] at t
  refine pure_of_vc T_ok mixed Tryz.func3 rfl (by decide) _ (by simp [Tryz.ntmps3]) ⟨[0, 1, 2, 4, 5, 6, 7, 8, 9, 10, 11, 13, 41, 49, 53, 57, 61, 69, 77, 89, 97], [(24, .nil)]⟩ (by kernel_rfl) _ ?_
  show vc T Tryz.prog ⟨[0, 1, 2, 4, 5, 6, 7, 8, 9, 10, 11, 13, 41, 49, 53, 57, 61, 69, 77, 89, 97], [(24, .nil)]⟩ (Option.get! Tryz.f3.body) _ _
  simp only [Tryz.f3, Tryz.ntmps3, Option.get!, initSt, initM, envOf, Nat.reduceAdd]
  simp only [vx, T, seval, cA, edC, bkC, tC]
  refine CallK.go awake40 ?_
  simp only [vx, T, seval, cA, edC, bkC, tC]
  refine CallK.go t ?_
  simp only [vx, T, seval, cA, edC, bkC, tC, noTree]
  exact VLe.of_eq rfl

set_option maxRecDepth 10000 in
theorem law_0 {a b c : Int} {P : C} (hs : ShC P) (t : FreshG Tryz.prog 5 [.agg (cA n m f ls nb bk)] (trip (.agg (tC a b c P)) (.bool true)) (.ints 3 .i64 (brs nb bk 0))) :
    PureCalls Tryz.prog 3 [.agg (cA n m f ls nb bk), .one (.int .u8 ch)] (.one (.bool true)) := by
  rcases hs with rfl | ⟨w, F, rfl⟩
  all_goals
    simp only [cA, edC, bkC, tC] at t
    refine pure_of_vc T_ok mixed Tryz.func3 rfl (by decide) _ (by simp [Tryz.ntmps3]) ⟨[0, 1, 2, 4, 5, 6, 7, 8, 9, 10, 11, 13, 41, 49, 53, 57, 61, 69, 77, 89, 97], [(24, .nil)]⟩ (by kernel_rfl) _ ?_
    show vc T Tryz.prog ⟨[0, 1, 2, 4, 5, 6, 7, 8, 9, 10, 11, 13, 41, 49, 53, 57, 61, 69, 77, 89, 97], [(24, .nil)]⟩ (Option.get! Tryz.f3.body) _ _
    simp only [Tryz.f3, Tryz.ntmps3, Option.get!, initSt, initM, envOf, Nat.reduceAdd]
    simp only [vx, T, seval, cA, edC, bkC, tC]
    refine CallK.go awake40 ?_
    simp only [vx, T, seval, cA, edC, bkC, tC]
    refine CallK.freshG t ?_
    simp only [vx, T, seval, cA, edC, bkC, tC, trip, brs, List.range_zero, List.map_nil]
    exact VLe.of_eq rfl

set_option maxRecDepth 10000 in
set_option maxHeartbeats 2000000 in
theorem law_k {a b c : Int} {F : Nat → Nat → C} {k : Nat} (k0 : k ≠ 0) (k2 : k ≤ 2) (hm : m ≤ 5) (hl : ls.length ≤ 10) (hu : U8 ls) (h0 : 0 ≤ ch) (h1 : ch < 256) (iv : InvF n m f a b c (.rows 4 3 F) k)
    (t : FreshG Tryz.prog 5 [.agg (cA n m f ls nb bk)] (trip (.agg (tC a b c (.rows 4 3 F))) (.bool true)) (.ints 3 .i64 (brs nb bk (4 * k)))) :
    PureCalls Tryz.prog 3 [.agg (cA n m f ls nb bk), .one (.int .u8 ch)] (.one (.bool true)) := by
  obtain ⟨c1, c2, c3, c4, ⟨F0, eF, c5⟩, c6⟩ := iv
  obtain rfl : F = F0 := by simpa using eF
  have ow := own40 (n := n) (m := m) (f := f) (by omega)
  have ct := has8 7 (N := ls.length) (xs := ls) (fun i => decide (md (ls.getD i 0) = 0)) ⟨rfl, rfl⟩ (by omega) fun i hi => inv1 (hu i hi).1 (hu i hi).2
  obtain ⟨v1, e1⟩ : ∃ v1, anyN (fun i => decide (md (ls.getD i 0) = 0)) ls.length = v1 := ⟨_, rfl⟩
  rw [e1] at ct
  have nm := numbers40 (l := ls) rfl (by omega) hu
  have nz := numbers40 (l := [0]) (N := 1) rfl (by omega) (fun i hi => by obtain rfl : i = 0 := (by simpa using hi); decide)
  have bl := brs_len nb bk (4 * k)
  obtain ⟨K, hK⟩ : ∃ K, K = 4 * k := ⟨_, rfl⟩
  obtain ⟨bs, hbs⟩ : ∃ bs, bs = brs nb bk K := ⟨_, rfl⟩
  rw [← hK, ← hbs] at t bl
  simp only [cA, edC, bkC, tC, gA] at t ow
  refine pure_of_vc T_ok mixed Tryz.func3 rfl (by decide) _ (by simp [Tryz.ntmps3]) ⟨[0, 1, 2, 4, 5, 6, 7, 8, 9, 10, 11, 13, 41, 49, 53, 57, 61, 69, 77, 89, 97], [(24, .nil)]⟩ (by kernel_rfl) _ ?_
  show vc T Tryz.prog ⟨[0, 1, 2, 4, 5, 6, 7, 8, 9, 10, 11, 13, 41, 49, 53, 57, 61, 69, 77, 89, 97], [(24, .nil)]⟩ (Option.get! Tryz.f3.body) _ _
  simp only [Tryz.f3, Tryz.ntmps3, Option.get!, initSt, initM, envOf, Nat.reduceAdd]
  simp only [vx, T, seval, cA, edC, bkC, tC]
  refine CallK.go awake40 ?_
  simp only [vx, T, seval, cA, edC, bkC, tC]
  refine CallK.freshG t ?_
  simp only [vx, T, seval, cA, edC, bkC, tC, trip, bl]
  refine ⟨fun h => absurd h (by omega), fun _ => Later.go ?_⟩
  simp only [vx, T, seval, cA, edC, bkC, tC]
  refine ⟨fun h2 => Later.go ?_, fun h2 => Later.go ?_⟩
  · simp only [vx, T, seval, cA, edC, bkC, tC]
    exact VLe.of_eq rfl
  have h2 : ls.length = m := by omega
  subst h2
  simp only [vx, T, seval, cA, edC, bkC, tC]
  refine CallK.go ct ?_
  cases v1
  rotate_left
  · simp only [vx, T, seval, cA, edC, bkC, tC]
    exact VLe.of_eq rfl
  simp only [vx, T, seval, cA, edC, bkC, tC]
  refine CallK.fresh nm ?_
  simp only [vx, T, seval, cA, edC, bkC, tC]
  have tk : List.take K bs = bs := List.take_of_length_le (by omega)
  have bd : ∀ i, md (ls.getD i 0) < 16 := fun i => md_lt _
  have sh : ShC (.rows 4 3 F) := .inr ⟨_, _, rfl⟩
  obtain ⟨I, hI⟩ : ∃ I : Nat, (I : Int) = ch / 8 := ⟨(ch / 8).toNat, by omega⟩
  have wI : IntKind.i64.wrap (IntKind.u8.wrap (ch.tdiv 8)) = (I : Int) := by rw [Int.tdiv_eq_ediv_of_nonneg h0, IntWalk.u8_in _ (by omega), IntWalk.i64_in _ (by omega)]; omega
  obtain ⟨z, hz⟩ : ∃ z, z = ch.tmod 8 := ⟨_, rfl⟩
  simp only [vx, T, seval, cA, edC, bkC, tC, wI, ← hz]
  refine ⟨fun z0 => Later.go ?_, fun z0 => Later.go ?_⟩
  · simp only [vx, T, seval, cA, edC, bkC, tC, bl]
    have e := show ((ls.length : Int) - 1).toNat = ls.length - 1 by omega
    refine ⟨by omega, CallK.go ow ?_⟩
    simp only [vx, T, seval, cA, edC, bkC, tC, bl, tk, e]
    refine CallK.go (place_bad (q := fun i => md (ls.getD (1 + i) 0)) (ns := ls.length - 1) (bs := bs) c3 sh c1 c2 k2 (by omega) (fun i => md_lt _) (by omega) (.inl (by omega))) ?_
    simp only [vx, T, seval, bad]
    exact VLe.of_eq rfl
  simp only [vx, T, seval, cA, edC, bkC, tC]
  refine ⟨fun z1 => Later.go ?_, fun z1 => Later.go ?_⟩
  · simp only [vx, T, seval, cA, edC, bkC, tC, bl]
    have e := show ((K : Int) - 1).toNat = K - 1 by omega
    refine ⟨by omega, CallK.go ow ?_⟩
    simp only [vx, T, seval, cA, edC, bkC, tC, bl, tk, e]
    refine CallK.go (place_bad (q := fun i => md (ls.getD i 0)) (ns := ls.length) (bs := ((bs.drop 1).take (K - 1))) c3 sh c1 c2 k2 (by omega) (fun i => md_lt _) (by simp; omega) (.inr (.inr (.inl (by simp; omega))))) ?_
    simp only [vx, T, seval, bad]
    exact VLe.of_eq rfl
  simp only [vx, T, seval, cA, edC, bkC, tC]
  refine ⟨fun z2 => Later.go ?_, fun z2 => Later.go ?_⟩
  · simp only [vx, T, seval, cA, edC, bkC, tC, bl]
    have J0 : I % K < K := Nat.mod_lt _ (by omega)
    have wJ : (I : Int).tmod (K : Int) = ((I % K : Nat) : Int) := by rw [Int.tmod_eq_emod_of_nonneg (by omega)]; omega
    obtain ⟨J, hJ⟩ : ∃ J, J = I % K := ⟨_, rfl⟩
    rw [← hJ] at wJ J0
    simp only [vx, T, seval, wJ, Int.toNat_natCast]
    refine ⟨by omega, by omega, ?_⟩
    have lk0 : List.take K (bs.set J 0) = bs.set J 0 := List.take_of_length_le (by simp; omega)
    refine CallK.go ow ?_
    simp only [vx, T, seval, cA, edC, bkC, tC, bl, tk, lk0]
    refine CallK.go (place_bad (q := fun i => md (ls.getD i 0)) (ns := ls.length) (bs := (bs.set J 0)) c3 sh c1 c2 k2 (by omega) (fun i => md_lt _) (by simp; omega) (.inr (.inr (.inr ⟨J, by simp; omega, by simp [List.getD_eq_getElem?_getD, List.getElem?_set, bl, J0]⟩)))) ?_
    simp only [vx, T, seval, bad]
    exact VLe.of_eq rfl
  simp only [vx, T, seval, cA, edC, bkC, tC]
  refine ⟨fun z3 => Later.go ?_, fun z3 => Later.go ?_⟩
  · simp only [vx, T, seval, cA, edC, bkC, tC, bl]
    have J0 : I % K < K := Nat.mod_lt _ (by omega)
    have wJ : (I : Int).tmod (K : Int) = ((I % K : Nat) : Int) := by rw [Int.tmod_eq_emod_of_nonneg (by omega)]; omega
    obtain ⟨J, hJ⟩ : ∃ J, J = I % K := ⟨_, rfl⟩
    rw [← hJ] at wJ J0
    simp only [vx, T, seval, wJ, Int.toNat_natCast]
    refine ⟨by omega, by omega, ?_⟩
    have lk0 : List.take K (bs.set J 2) = bs.set J 2 := List.take_of_length_le (by simp; omega)
    refine CallK.go ow ?_
    simp only [vx, T, seval, cA, edC, bkC, tC, bl, tk, lk0]
    refine CallK.go (place_bad (q := fun i => md (ls.getD i 0)) (ns := ls.length) (bs := (bs.set J 2)) c3 sh c1 c2 k2 (by omega) (fun i => md_lt _) (by simp; omega) (.inr (.inr (.inr ⟨J, by simp; omega, by simp [List.getD_eq_getElem?_getD, List.getElem?_set, bl, J0]⟩)))) ?_
    simp only [vx, T, seval, bad]
    exact VLe.of_eq rfl
  simp only [vx, T, seval, cA, edC, bkC, tC]
  refine ⟨fun z4 => Later.go ?_, fun z4 => Later.go ?_⟩
  · simp only [vx, T, seval, cA, edC, bkC, tC, bl]
    refine ⟨by omega, CallK.go nz.rows ?_⟩
    have J0 : I % ls.length < ls.length := Nat.mod_lt _ (by omega)
    have wJ : (I : Int).tmod (ls.length : Int) = ((I % ls.length : Nat) : Int) := by rw [Int.tmod_eq_emod_of_nonneg (by omega)]; omega
    obtain ⟨J, hJ⟩ : ∃ J, J = I % ls.length := ⟨_, rfl⟩
    rw [← hJ] at wJ J0
    simp only [vx, T, seval, wJ, Int.toNat_natCast, sqC]
    refine ⟨by omega, CallK.go ow ?_⟩
    simp only [vx, T, seval, cA, edC, bkC, tC, bl, tk]
    have pb := (place_bad (q := fun i => if i = J then 0 else md (ls.getD i 0)) (ns := ls.length) (bs := bs) c3 sh c1 c2 k2 (by omega) (fun i => by split; decide; exact md_lt _) (by omega) (.inr (.inl ⟨J, J0, if_pos rfl⟩))).args
      (xs := [.agg (gA n ls.length f), .agg (tC a b c (.rows 4 3 F)), .one (.rows 2 ls.length fun i j => setElt (sqC fun i => md (ls.getD i 0)) J 0 [.nil, .rows 4 1 (numR (md 0))] i j), .one (.ints .i64 bs)])
      ⟨.refl _, .refl _, .cell (.rows rfl fun i j hi hj => .of_eq (by
        have : j = 0 ∨ j = 1 := by omega
        by_cases e : i = J
        · subst e
          rcases this with rfl | rfl <;> simp [setElt, sqC, md]
        · simp [setElt, sqC, e])), .refl _, trivial⟩
    refine CallK.go pb ?_
    simp only [vx, T, seval, bad]
    exact VLe.of_eq rfl
  simp only [vx, T, seval, cA, edC, bkC, tC]
  refine ⟨fun z5 => Later.go ?_, fun z5 => Later.go ?_⟩
  · simp only [vx, T, seval, cA, edC, bkC, tC, bl]
    have J0 : I % 3 < 3 := Nat.mod_lt _ (by omega)
    have wJ : (I : Int).tmod 3 = ((I % 3 : Nat) : Int) := by rw [Int.tmod_eq_emod_of_nonneg (by omega)]; omega
    obtain ⟨J, hJ⟩ : ∃ J, J = I % 3 := ⟨_, rfl⟩
    rw [← hJ] at wJ J0
    obtain ⟨a', b', c', P', f0, f1, f2, f3, hP, cP⟩ := c5 J J0
    subst f3
    have pc := place_comp (ns := ls.length) (q := fun i => md (ls.getD i 0)) (bs := bs) c3 hP cP
    obtain ⟨p3, hp3⟩ : ∃ p3, F J 3 = p3 := ⟨_, rfl⟩
    rw [hp3] at hP pc
    rcases hP with rfl | ⟨w', F', rfl⟩
    all_goals
      simp only [vx, T, seval, wJ, Int.toNat_natCast, f0, f1, f2, hp3]
      refine ⟨by omega, ?_⟩
      refine CallK.go ow ?_
      simp only [vx, T, seval, cA, edC, bkC, tC, bl, tk]
      refine CallK.go (pc) ?_
      simp only [vx, T, seval, bad]
      exact VLe.of_eq rfl
  simp only [vx, T, seval, cA, edC, bkC, tC]
  refine ⟨fun z6 => Later.go ?_, fun z6 => Later.go ?_⟩
  · simp only [vx, T, seval, cA, edC, bkC, tC, bl]
    refine CallK.go ow ?_
    simp only [vx, T, seval, cA, edC, bkC, tC, bl, tk]
    refine CallK.go (place_comp (ns := ls.length) (q := fun i => md (ls.getD i 0)) (bs := bs) c3 sh c6) ?_
    simp only [vx, T, seval, bad]
    exact VLe.of_eq rfl
  simp only [vx, T, seval, cA, edC, bkC, tC]
  simp only [vx, T, seval, tk, bl]
  refine ⟨⟨by omega, by omega⟩, ?_⟩
  have tk1 : List.take (K + 1) (bs ++ [1]) = bs ++ [1] := List.take_of_length_le (by simp; omega)
  refine CallK.go ow ?_
  simp only [vx, T, seval, cA, edC, bkC, tC, bl, tk, tk1]
  refine CallK.go (place_bad (q := fun i => md (ls.getD i 0)) (ns := ls.length) (bs := (bs ++ [1])) c3 sh c1 c2 k2 (by omega) (fun i => md_lt _) (by simp; omega) (.inr (.inr (.inl (by simp; omega))))) ?_
  simp only [vx, T, seval, bad]
  exact VLe.of_eq rfl
end
end Go.Proofs.YtkmgkfneeobcgaaGreat

/-! ## EngOp -/
namespace Go.Eng
open Go Go.ChangeShapes Go.WideShapes Go.Deep

/-- The fields lie one behind the other. -/
def contigF (P : Program) : Nat → List Field → Nat → Bool
  | off, [], tot => off == tot
  | off, f :: r, tot => f.offset == off && contigF P (off + P.cellsOf f.type) r tot

/-- A set of types that is closed, and whose types can be opened. -/
def closedB (P : Program) (S : List TypeId) : Bool := S.all fun t =>
  match P.underlying t with
  | some .bool => true
  | some (.int _) => true
  | some .string => true
  | some (.slice e) => decide (0 < P.cellsOf e) && S.contains e && (match P.underlying e with | some (.int _) => P.cellsOf e == 1 | _ => true)
  | some (.struct fs) => contigF P 0 fs.toList (P.cellsOf t) && fs.toList.all fun f => S.contains f.type
  | some (.array n e) => S.contains e && P.cellsOf t == n * P.cellsOf e
  | _ => false

def OkF (R : TypeId → List C → Prop) : List Field → List C → Prop
  | [], cs => cs = []
  | f :: r, cs => ∃ c1 c2, cs = c1 ++ c2 ∧ R f.type c1 ∧ OkF R r c2

/-- The cells of a type, as data that can be read. -/
def OkC (P : Program) (B : Nat) : Nat → TypeId → List C → Prop
  | 0, _, _ => False
  | n + 1, t, cs =>
    match P.underlying t with
    | some .bool => ∃ b, cs = [.bool b]
    | some (.int k) => ∃ x, cs = [.int k x] ∧ k.min ≤ x ∧ x ≤ k.max
    | some .string => ∃ s : ByteArray, cs = [.str s] ∧ s.size ≤ B
    | some (.slice e) =>
      match P.underlying e with
      | some (.int k) => ∃ xs : List Int, cs = [.ints k xs] ∧ xs.length ≤ B ∧ ∀ x ∈ xs, k.min ≤ x ∧ x ≤ k.max
      | _ => ∃ m f, cs = [.rows (P.cellsOf e) m f] ∧ m ≤ B ∧ ∀ i, i < m → OkC P B n e ((List.range (P.cellsOf e)).map (f i))
    | some (.struct fs) => OkF (OkC P B n) fs.toList cs
    | some (.array m e) => ∃ l : List (List C), cs = l.flatten ∧ l.length = m ∧ ∀ c ∈ l, OkC P B n e c
    | _ => False

theorem OkC.mono {P : Program} {B B' : Nat} (hB : B ≤ B') : ∀ {n : Nat} {t : TypeId} {cs : List C}, OkC P B n t cs → OkC P B' n t cs := by
  intro n
  induction n with
  | zero => intro t cs h; exact h
  | succ n ih =>
    intro t cs h
    have hf : ∀ (fs : List Field) (cs : List C), OkF (OkC P B n) fs cs → OkF (OkC P B' n) fs cs := by
      intro fs
      induction fs with
      | nil => intro cs h; exact h
      | cons f r ihf =>
        rintro cs ⟨c1, c2, rfl, h1, h2⟩
        exact ⟨c1, c2, rfl, ih h1, ihf c2 h2⟩
    simp only [OkC] at h ⊢
    split at h
    · exact h
    · exact h
    · obtain ⟨s, h1, h2⟩ := h; exact ⟨s, h1, Nat.le_trans h2 hB⟩
    · split at h
      · obtain ⟨xs, h1, h2, h3⟩ := h; exact ⟨xs, h1, Nat.le_trans h2 hB, h3⟩
      · obtain ⟨m, f, h1, h2, h3⟩ := h
        exact ⟨m, f, h1, Nat.le_trans h2 hB, fun i hi => ih (h3 i hi)⟩
    · exact hf _ _ h
    · obtain ⟨l, h1, h2, h3⟩ := h
      exact ⟨l, h1, h2, fun c hc => ih (h3 c hc)⟩
    · exact h

/-- A measure of what comes in: longer than each of its lists and texts, and than what lies in them. -/
structure BulkOk {H : Type} (bulk : DataW H → Nat) : Prop where
  str : ∀ s : List UInt8, s.length ≤ bulk (.lit (.string s))
  sl : ∀ el sp, el.length ≤ bulk (.slice el sp) ∧ ∀ d ∈ el, bulk d ≤ bulk (.slice el sp)
  agg : ∀ ps d, d ∈ ps → bulk d ≤ bulk (.agg ps)
/-- Either there is no bound but the model's, or the measure is bounded. -/
def Bnd {H : Type} (bulk : DataW H → Nat) (B : Nat) (d : DataW H) : Prop := maxLen ≤ B ∨ (BulkOk bulk ∧ bulk d ≤ B)

/-- Cells and values, pair by pair. -/
def RepIL (ok : Nat → Prop) (w : World) : List C → List Value → Prop
  | [], [] => True
  | c :: cs, v :: vs => RepI ok w c v ∧ RepIL ok w cs vs
  | _, _ => False
theorem RepIL.append {ok : Nat → Prop} {w : World} : ∀ {a b : List C} {x y : List Value}, RepIL ok w a x → RepIL ok w b y → RepIL ok w (a ++ b) (x ++ y)
  | [], _, [], _, _, h => h
  | _ :: _, _, _ :: _, _, h1, h2 => ⟨h1.1, RepIL.append h1.2 h2⟩
  | [], _, _ :: _, _, h, _ => h.elim
  | _ :: _, _, [], _, h, _ => h.elim
theorem RepIL.length {ok : Nat → Prop} {w : World} : ∀ {a : List C} {x : List Value}, RepIL ok w a x → a.length = x.length
  | [], [], _ => rfl
  | _ :: _, _ :: _, h => by simp [RepIL.length h.2]
  | [], _ :: _, h => h.elim
  | _ :: _, [], h => h.elim
theorem RepIL.get {ok : Nat → Prop} {w : World} : ∀ {a : List C} {x : List Value}, RepIL ok w a x → ∀ j, j < a.length → ∃ u, x[j]? = some u ∧ RepI ok w (a.getD j .any) u
  | _ :: _, u :: _, h, 0, _ => ⟨u, rfl, h.1⟩
  | _ :: _, _ :: _, h, j + 1, hj => by simpa using RepIL.get h.2 j (by simpa using hj)
  | [], [], _, j, hj => absurd hj (by simp)
  | [], _ :: _, h, _, _ => h.elim
  | _ :: _, [], h, _, _ => h.elim
theorem RepIL.repL {ok : Nat → Prop} {w : World} : ∀ {a : List C} {x : List Value}, RepIL ok w a x → RepL loc0 dom0 ok w a x
  | [], [], _ => trivial
  | _ :: _, _ :: _, h => ⟨RepC.of_repI h.1, RepIL.repL h.2⟩
  | [], _ :: _, h => h.elim
  | _ :: _, [], h => h.elim

theorem cell_lt {w : World} {a : Addr} {v : Value} (h : w.cell? a = some v) : a.block < w.heap.size ∧ a.spot = none := by
  unfold World.cell? at h
  split at h
  · rename_i c _ _ hb
    refine ⟨(Array.getElem?_eq_some_iff.1 hb).1, ?_⟩
    split at h
    · cases h
    · rename_i hs
      cases hsp : a.spot with
      | none => rfl
      | some x => rw [hsp] at hs; simp at hs
  · cases h

section
variable {H : Type} {bulk : DataW H → Nat} {B : Nat} {enc : TypeId × Value → H} {P : Program} {w : World} {base : Nat} {spare : Nat → Bool} {held : Bool}

theorem open_data {S : List TypeId} (hS : closedB P S = true) : ∀ (fuel : Nat) (t : TypeId) (vs : List Value) (x : DataW H × List MemPlace), t ∈ S → DataW.trod enc P w base spare held fuel t vs = some x → Bnd bulk B x.1 →
    ∃ cs, OkC P B fuel t cs ∧ RepIL (fun g => g < w.heap.size) w cs vs := by
  intro fuel
  induction fuel with
  | zero => intro t vs x _ h _; simp [DataW.trod] at h
  | succ fuel ih =>
    intro t vs x ht h hb
    have hc := List.all_eq_true.1 hS t ht
    simp only [OkC]
    cases hu : P.underlying t with
    | none => rw [hu] at hc; simp at hc
    | some d =>
      rw [hu] at hc
      cases d with
      | bool =>
        obtain ⟨b, rfl, _⟩ := DataW.trod_bool hu h
        exact ⟨[.bool b], ⟨b, rfl⟩, rfl, trivial⟩
      | int k =>
        obtain ⟨n, rfl, _, hw⟩ := DataW.trod_int hu h
        simp only [Lit.wf, Bool.and_eq_true, decide_eq_true_eq] at hw
        exact ⟨[.int k n], ⟨n, rfl, hw⟩, rfl, trivial⟩
      | string =>
        obtain ⟨s, rfl, hx, hs⟩ := DataW.trod_string hu h
        refine ⟨[.str s], ⟨s, rfl, ?_⟩, rfl, trivial⟩
        rcases hb with hb | ⟨hb, hb2⟩
        · omega
        · have h1 := hb.str s.data.toList
          rw [hx] at hb2
          have hb2 : bulk (.lit (.string s.data.toList)) ≤ B := hb2
          have h2 : s.data.toList.length = s.size := Array.length_toList
          omega
      | slice e =>
        simp only [Bool.and_eq_true, decide_eq_true_eq] at hc
        obtain ⟨⟨hpos, he⟩, hk⟩ := hc
        have he : e ∈ S := by simpa using he
        have hfit : (vs = [.slice none 0 0]) ∨ ∃ (a : Addr) (len cap : Nat), vs = [.slice (some a) len cap] ∧ len ≤ cap ∧ len ≤ B ∧
            ∀ i, i < len → ∃ cs', w.cells? base (a.add (i * P.cellsOf e)) (P.cellsOf e) = some cs' ∧ ∃ y, DataW.trod enc P w base spare held fuel e cs' = some y ∧ Bnd bulk B y.1 := by
          rcases DataW.trod_slice hu h with ⟨rfl, _⟩ | ⟨a, len, cap, elems, rest, n, hn, rfl, hx, _, hl, hm, hlen, hel, _, _⟩
          · exact .inl rfl
          · have hlB : len ≤ B := by
              rcases hb with hb | ⟨hb, hb2⟩
              · omega
              · have h1 := (hb.sl (elems.map (·.1)) (rest.map (·.1))).1
                rw [hx] at hb2
                rw [List.length_map] at h1
                have hb2 : bulk (.slice (elems.map (·.1)) (rest.map (·.1))) ≤ B := hb2
                omega
            refine .inr ⟨a, len, cap, rfl, hl, hlB, fun i hi => ?_⟩
            obtain rfl : fuel = n := by omega
            have h1 := hel i hi
            rw [List.getElem?_eq_getElem (by omega)] at h1
            cases hcs : w.cells? base (a.add (i * P.cellsOf e)) (P.cellsOf e) with
            | none => rw [hcs] at h1; simp at h1
            | some cs' =>
              rw [hcs] at h1
              refine ⟨cs', rfl, _, h1, ?_⟩
              rcases hb with hb | ⟨hb, hb2⟩
              · exact .inl hb
              · refine .inr ⟨hb, ?_⟩
                have h2 := (hb.sl (elems.map (·.1)) (rest.map (·.1))).2 elems[i].1 (List.mem_map.2 ⟨elems[i], List.getElem_mem _, rfl⟩)
                rw [hx] at hb2
                exact Nat.le_trans h2 hb2
        -- by rows
        have hrows : ∃ m f, m ≤ B ∧ (∀ i, i < m → OkC P B fuel e ((List.range (P.cellsOf e)).map (f i))) ∧ ∃ v, vs = [v] ∧ RepI (fun g => g < w.heap.size) w (.rows (P.cellsOf e) m f) v := by
          rcases hfit with rfl | ⟨a, len, cap, rfl, hl, hm, hel⟩
          · exact ⟨0, fun _ _ => .any, Nat.zero_le _, fun i hi => absurd hi (Nat.not_lt_zero _), _, rfl, none, 0, rfl, Nat.le_refl _, .inl rfl⟩
          · have hex : ∀ i, i < len → ∃ cs, OkC P B fuel e cs ∧ cs.length = P.cellsOf e ∧ ∀ j, j < P.cellsOf e → ∃ u, w.cell? ((a.add (i * P.cellsOf e)).add j) = some u ∧ RepI (fun g => g < w.heap.size) w (cs.getD j .any) u := by
              intro i hi
              obtain ⟨cs', hcs', y, hy, hyb⟩ := hel i hi
              obtain ⟨_, hcl, hcell⟩ := World.cells?_some hcs'
              obtain ⟨cs, hok, hrep⟩ := ih e cs' y he hy hyb
              have hlen : cs.length = P.cellsOf e := by rw [hrep.length, hcl]
              refine ⟨cs, hok, hlen, fun j hj => ?_⟩
              obtain ⟨u, hu, hr⟩ := hrep.get j (by omega)
              exact ⟨u, by rw [hcell j hj, hu], hr⟩
            obtain ⟨g, hg⟩ := Classical.axiomOfChoice (r := fun (i : Nat) (cs : List C) => i < len → OkC P B fuel e cs ∧ cs.length = P.cellsOf e ∧ ∀ j, j < P.cellsOf e → ∃ u, w.cell? ((a.add (i * P.cellsOf e)).add j) = some u ∧ RepI (fun g => g < w.heap.size) w (cs.getD j .any) u) (fun i => by
              by_cases hi : i < len
              · obtain ⟨cs, h⟩ := hex i hi; exact ⟨cs, fun _ => h⟩
              · exact ⟨[], fun h => absurd h hi⟩)
            refine ⟨len, fun i j => (g i).getD j .any, hm, fun i hi => ?_, _, rfl, some a, cap, rfl, hl, ?_⟩
            · obtain ⟨h1, h2, _⟩ := hg i hi
              have e : (List.range (P.cellsOf e)).map (fun j => (g i).getD j .any) = g i := by
                refine List.ext_getElem (by simp [h2]) fun j hj1 hj2 => ?_
                simp [List.getD_eq_getElem?_getD, List.getElem?_eq_getElem hj2]
              rw [e]; exact h1
            · by_cases h0 : len = 0
              · exact .inl h0
              · right
                obtain ⟨u, hu, _⟩ := (hg 0 (by omega)).2.2 0 hpos
                rw [Nat.zero_mul] at hu
                have ha0 : (a.add 0).add 0 = a := by simp [Addr.add]
                rw [ha0] at hu
                obtain ⟨hlt, hsp⟩ := cell_lt hu
                refine ⟨a.block, a.off, ?_, hlt, fun i j hi hj => ?_⟩
                · obtain ⟨b, o, s⟩ := a; simp only at hsp; subst hsp; rfl
                · obtain ⟨u, hu, hr⟩ := (hg i hi).2.2 j hj
                  refine ⟨u, ?_, hr⟩
                  rw [← hu]
                  congr 1
                  obtain ⟨b, o, s⟩ := a
                  simp only at hsp
                  subst hsp
                  unfold Addr.add
                  split <;> split <;> simp_all <;> omega
        simp only
        cases hue : P.underlying e with
        | none =>
          obtain ⟨m, f, h1, h2, v, rfl, h3⟩ := hrows
          exact ⟨[.rows (P.cellsOf e) m f], ⟨m, f, rfl, h1, h2⟩, h3, trivial⟩
        | some de =>
          cases de with
          | int k =>
            rw [hue] at hk
            have hk : P.cellsOf e = 1 := by simpa using hk
            obtain ⟨m, f, h1, h2, v, rfl, a, cap, rfl, h4, h5⟩ := hrows
            have h2' : ∀ i, i < m → ∃ x, f i 0 = .int k x ∧ k.min ≤ x ∧ x ≤ k.max := by
              intro i hi
              have := h2 i hi
              rw [hk] at this
              cases fuel with
              | zero => exact this.elim
              | succ fuel =>
                simp only [OkC, hue] at this
                obtain ⟨x, hx, hr⟩ := this
                simp only [List.range_succ, List.range_zero, List.nil_append, List.map_cons, List.map_nil, List.cons.injEq, and_true] at hx
                exact ⟨x, hx, hr⟩
            obtain ⟨g, hg⟩ := Classical.axiomOfChoice (r := fun (i : Nat) (x : Int) => i < m → f i 0 = .int k x ∧ k.min ≤ x ∧ x ≤ k.max) (fun i => by
              by_cases hi : i < m
              · obtain ⟨x, h⟩ := h2' i hi; exact ⟨x, fun _ => h⟩
              · exact ⟨0, fun h => absurd h hi⟩)
            have hlen : ((List.range m).map g).length = m := by simp
            refine ⟨[.ints k ((List.range m).map g)], ⟨_, rfl, by rw [hlen]; exact h1, fun x hx => ?_⟩, ⟨a, cap, by rw [hlen], by rw [hlen]; exact h4, ?_⟩, trivial⟩
            · obtain ⟨i, hi, rfl⟩ := List.mem_map.1 hx
              exact (hg i (List.mem_range.1 hi)).2
            · rw [hlen]
              rcases h5 with h5 | ⟨b, o, ha, hb, hcell⟩
              · exact .inl h5
              · refine .inr ⟨b, o, ha, hb, fun i hi => ?_⟩
                obtain ⟨u, hu, hr⟩ := hcell i 0 hi (by omega)
                rw [(hg i hi).1] at hr
                have hr : u = .int k (g i) := hr
                rw [hk, Nat.mul_one, Nat.add_zero] at hu
                rw [hu, hr]
                simp [List.getD_eq_getElem?_getD, hi]
          | _ =>
            obtain ⟨m, f, h1, h2, v, rfl, h3⟩ := hrows
            exact ⟨[.rows (P.cellsOf e) m f], ⟨m, f, rfl, h1, h2⟩, h3, trivial⟩
      | struct fs =>
        simp only [Bool.and_eq_true] at hc
        obtain ⟨hcon, hmem⟩ := hc
        obtain ⟨xs, n, hn, hx, hcl, hxl, hf⟩ := DataW.trod_struct hu h
        obtain rfl : fuel = n := by omega
        have hall : ∀ f ∈ fs.toList, ∃ y, DataW.trod enc P w base spare held fuel f.type ((vs.drop f.offset).take (P.cellsOf f.type)) = some y ∧ Bnd bulk B y.1 := by
          intro f hfm
          obtain ⟨i, hi, rfl⟩ := List.mem_iff_getElem.1 hfm
          have hi' : i < fs.size := by simpa using hi
          have h1 := hf i fs[i] (Array.getElem?_eq_getElem hi')
          rw [List.getElem?_eq_getElem (by omega)] at h1
          refine ⟨xs[i], by simpa using h1, ?_⟩
          rcases hb with hb | ⟨hb, hb2⟩
          · exact .inl hb
          · refine .inr ⟨hb, ?_⟩
            have h2 := hb.agg (xs.map (·.1)) xs[i].1 (List.mem_map.2 ⟨xs[i], List.getElem_mem _, rfl⟩)
            rw [hx] at hb2
            exact Nat.le_trans h2 hb2
        have hmem : ∀ f ∈ fs.toList, f.type ∈ S := fun f hf => by simpa using List.all_eq_true.1 hmem f hf
        simp only
        -- field by field
        have key : ∀ (l : List Field) (off : Nat), (∀ f ∈ l, ∃ y, DataW.trod enc P w base spare held fuel f.type ((vs.drop f.offset).take (P.cellsOf f.type)) = some y ∧ Bnd bulk B y.1) → (∀ f ∈ l, f.type ∈ S) → contigF P off l vs.length = true →
            ∃ cs, OkF (OkC P B fuel) l cs ∧ RepIL (fun g => g < w.heap.size) w cs (vs.drop off) := by
          intro l
          induction l with
          | nil =>
            intro off _ _ hcf
            simp only [contigF, beq_iff_eq] at hcf
            exact ⟨[], rfl, by rw [List.drop_eq_nil_of_le (by omega)]; trivial⟩
          | cons f r ihl =>
            intro off hy hm hcf
            simp only [contigF, Bool.and_eq_true, beq_iff_eq] at hcf
            obtain ⟨ho, hcf⟩ := hcf
            obtain ⟨y, hy1, hy2⟩ := hy f (by simp)
            obtain ⟨c1, h1, h2⟩ := ih f.type _ y (hm f (by simp)) hy1 hy2
            obtain ⟨c2, h3, h4⟩ := ihl (off + P.cellsOf f.type) (fun g hg => hy g (by simp [hg])) (fun g hg => hm g (by simp [hg])) hcf
            refine ⟨c1 ++ c2, ⟨c1, c2, rfl, h1, h3⟩, ?_⟩
            have e : vs.drop off = (vs.drop f.offset).take (P.cellsOf f.type) ++ vs.drop (off + P.cellsOf f.type) := by
              rw [ho, ← List.drop_drop, List.take_append_drop]
            rw [e]
            exact h2.append h4
        have := key fs.toList 0 hall hmem (by rw [hcl]; exact hcon)
        rwa [List.drop_zero] at this
      | array m e =>
        simp only [Bool.and_eq_true, beq_iff_eq] at hc
        obtain ⟨he, hsz⟩ := hc
        have he : e ∈ S := by simpa using he
        obtain ⟨xs, n, hn, hx, hcl, hxl, hf⟩ := DataW.trod_array hu h
        obtain rfl : fuel = n := by omega
        simp only
        have key : ∀ j, j ≤ m → ∃ l : List (List C), l.length = j ∧ (∀ c ∈ l, OkC P B fuel e c) ∧ RepIL (fun g => g < w.heap.size) w l.flatten (vs.take (j * P.cellsOf e)) := by
          intro j
          induction j with
          | zero => intro _; exact ⟨[], rfl, fun c hc => (by cases hc), by rw [Nat.zero_mul]; trivial⟩
          | succ j ihj =>
            intro hj
            obtain ⟨l, h1, h2, h3⟩ := ihj (by omega)
            have h4 := hf j (by omega)
            rw [List.getElem?_eq_getElem (by omega)] at h4
            obtain ⟨c, h5, h6⟩ := ih e _ xs[j] he h4 (by
              rcases hb with hb | ⟨hb, hb2⟩
              · exact .inl hb
              · refine .inr ⟨hb, ?_⟩
                have h2 := hb.agg (xs.map (·.1)) xs[j].1 (List.mem_map.2 ⟨xs[j], List.getElem_mem _, rfl⟩)
                rw [hx] at hb2
                exact Nat.le_trans h2 hb2)
            refine ⟨l ++ [c], by rw [List.length_append, h1]; rfl, fun x hx => ?_, ?_⟩
            · rcases List.mem_append.1 hx with hx | hx
              · exact h2 x hx
              · obtain rfl := List.mem_singleton.1 hx; exact h5
            · rw [List.flatten_append, Nat.add_mul, Nat.one_mul, List.take_add]
              refine h3.append ?_
              simpa using h6
        obtain ⟨l, h1, h2, h3⟩ := key m (Nat.le_refl _)
        rw [← hsz, ← hcl, List.take_length] at h3
        exact ⟨l.flatten, ⟨l, rfl, h1, h2⟩, h3⟩
      | _ => simp at hc

/-- An argument, as the engine's value. -/
theorem open_argB {S : List TypeId} (hS : closedB P S = true) {t : TypeId} (ht : t ∈ S) {v : Value} {d : DataW H} {p : List MemPlace} (hv : v.oneCell' = true) (h : DataW.Trod enc P w base spare held t v d p) (hb : Bnd bulk B d) :
    ∃ n c, OkC P B n t [c] ∧ RepI (fun g => g < w.heap.size) w c v := by
  obtain ⟨fuel, hf⟩ := h
  have hvc : v.cells.toList = [v] := by
    cases v <;> first | rfl | (simp [Value.oneCell'] at hv)
  rw [hvc] at hf
  obtain ⟨cs, h1, h2⟩ := open_data hS fuel t _ _ ht hf hb
  match cs, h2 with
  | [c], h2 => exact ⟨fuel, c, h1, h2.1⟩
theorem open_argSB {S : List TypeId} (hS : closedB P S = true) {t : TypeId} (ht : t ∈ S) {us : Array Value} {d : DataW H} {p : List MemPlace} (h : DataW.Trod enc P w base spare held t (.agg us) d p) (hb : Bnd bulk B d) :
    ∃ n cs, OkC P B n t cs ∧ RepV1 loc0 dom0 (fun g => g < w.heap.size) w (.agg cs) (.agg us) := by
  obtain ⟨fuel, hf⟩ := h
  obtain ⟨cs, h1, h2⟩ := open_data hS fuel t _ _ ht hf hb
  exact ⟨fuel, cs, h1, us, rfl, h2.repL⟩
theorem open_arg {S : List TypeId} (hS : closedB P S = true) {t : TypeId} (ht : t ∈ S) {v : Value} {d : DataW H} {p : List MemPlace} (hv : v.oneCell' = true) (h : DataW.Trod enc P w base spare held t v d p) :
    ∃ n c, OkC P maxLen n t [c] ∧ RepI (fun g => g < w.heap.size) w c v := open_argB (bulk := fun _ => 0) hS ht hv h (.inl (Nat.le_refl _))
end
end Go.Eng

/-! ## EngLw -/
namespace Go.Eng
open Go Go.ChangeShapes Go.WideShapes Go.RowKit

section
variable {H : Type} {enc : TypeId × Value → H} {P : Program}

/-- An argument reads behind the call as it read before. -/
theorem arg_stays (hl : laidOutB P = true) {t : TypeId} (hr : P.readableRec t = true) (hrow : t < P.types.size) {W W' : World} {v : Value} {d : DataW H} {ps : List MemPlace} (h : DataW.Trod enc P W 0 (fun _ => true) true t v d ps)
    (hb : Below W.heap.size W W') (hlt : ∀ x ∈ ps, x.block < W.heap.size) : DataW.Trod enc P W' 0 (fun b => decide (b < W.heap.size)) true t v d ps :=
  Below.trod hl hr hrow h hb hlt

/-- What the statement of a law asks where the call has returned true and turned nothing. -/
theorem law_post {f : Func} {s : ChangeSpec} {W W' : World} {args : Array Value} {ds : List (DataW H)} {before : List MemPlace} {tb : TypeId}
    (hW : DataW.Whole enc P f.params.toList s.vars false W args.toList ds [] before) (hv : s.vars = []) (hrt : f.resultTypes = #[tb]) (htb : P.underlying tb = some .bool)
    (hres : (s.fn H (ds ++ [])).results = [.lit (.bool true)]) (hargs : DataW.TrodAll enc P W' 0 (fun b => decide (b < W.heap.size)) true f.params.toList args.toList (s.fn H (ds ++ [])).args before)
    (hvs : (s.fn H (ds ++ [])).vars = []) (hb : Below W.heap.size W W') : s.post enc P f false true false false W args (.bool true) W' := by
  refine ⟨ds, [], before, [], before, [], hW, ?_, hargs, ?_, World.keptBut_mono (fun p hp => ⟨hp, .inr (.inl hp)⟩) (hb.frame (· ∈ before)), fun h => by cases h⟩
  · rw [hres, hrt]
    exact trodAll_mk1 (shut_bool htb true)
  · rw [hv, hvs]; rfl

/-- The value of a slice's argument. -/
theorem slice_one {w : World} {r : Reach} {base : Nat} {t e : TypeId} {v : Value} (ht : P.underlying t = some (.slice e)) (h : Value.okWide P w r base t v) : v.oneCell' = true := by
  obtain ⟨a, len, cap, rfl⟩ := okWide_slice ht h
  rfl
end
end Go.Eng

/-! ## FnYg -/
namespace Go.Proofs.YtkmgkfneeobcgaaGreat
open Go Go.Eng Go.Gra

/-! ### A case, as it comes in. -/
set_option maxRecDepth 100000 in
theorem closedY : closedB Tryz.prog [28, 24, 22, 50, 25, 5, 26, 4, 3] = true := by kernel_rfl

theorem okY_u8 {n : Nat} {cs : List C} (h : OkC Tryz.prog maxLen n 5 cs) : ∃ x : Int, cs = [.int .u8 x] ∧ 0 ≤ x ∧ x < 256 := by
  cases n with
  | zero => exact h.elim
  | succ n =>
    simp only [OkC, Tryz.underlying5] at h
    obtain ⟨x, rfl, h1, h2⟩ := h
    have e1 : IntKind.u8.min = 0 := rfl
    have e2 : IntKind.u8.max = 255 := rfl
    rw [e1] at h1
    rw [e2] at h2
    exact ⟨x, rfl, h1, by omega⟩
theorem okY_int {n : Nat} {cs : List C} (h : OkC Tryz.prog maxLen n 3 cs) : ∃ x : Int, cs = [.int .i64 x] := by
  cases n with
  | zero => exact h.elim
  | succ n =>
    simp only [OkC, Tryz.underlying3] at h
    obtain ⟨x, rfl, _⟩ := h
    exact ⟨x, rfl⟩
theorem okY_bool {n : Nat} {cs : List C} (h : OkC Tryz.prog maxLen n 4 cs) : ∃ x : Bool, cs = [.bool x] := by
  cases n with
  | zero => exact h.elim
  | succ n =>
    simp only [OkC, Tryz.underlying4] at h
    exact h
theorem okY_pair {n : Nat} {cs : List C} (h : OkC Tryz.prog maxLen n 50 cs) : ∃ e : E, cs = [.int .i64 e.1, .int .i64 e.2] := by
  cases n with
  | zero => exact h.elim
  | succ n =>
    simp only [OkC, Tryz.underlying50] at h
    obtain ⟨l, rfl, hl, h⟩ := h
    match l, hl with
    | [x, y], _ =>
      obtain ⟨a, ha⟩ := okY_int (h x (by simp))
      obtain ⟨b, hb⟩ := okY_int (h y (by simp))
      exact ⟨(a, b), by rw [ha, hb]; rfl⟩
set_option maxRecDepth 100000 in
theorem okY_edges {n : Nat} {cs : List C} (h : OkC Tryz.prog maxLen n 22 cs) : ∃ (c : C) (m : Nat) (f : Nat → E), cs = [c] ∧ CLe c (edC m f) := by
  cases n with
  | zero => exact h.elim
  | succ n =>
    simp only [OkC, Tryz.underlying22, Tryz.underlying50] at h
    obtain ⟨m, g, hc, hm0, hm⟩ := h
    have h5 : Tryz.prog.cellsOf 50 = 2 := by kernel_rfl
    rw [h5] at hc hm
    subst hc
    obtain ⟨f, hf⟩ := Classical.axiomOfChoice (r := fun (i : Nat) (e : E) => i < m → (List.range 2).map (g i) = [.int .i64 e.1, .int .i64 e.2]) (fun i => by
      by_cases hi : i < m
      · obtain ⟨e, h1⟩ := okY_pair (hm i hi); exact ⟨e, fun _ => h1⟩
      · exact ⟨(0, 0), fun h => absurd h hi⟩)
    refine ⟨_, m, f, rfl, CLe.rows rfl fun i j hi hj => CLe.of_eq ?_⟩
    have h1 := congrArg (fun l : List C => l[j]?) (hf i hi)
    have : j = 0 ∨ j = 1 := by omega
    rcases this with rfl | rfl <;> simpa [List.range, List.range.loop] using h1
theorem okY_u8s {n : Nat} {cs : List C} (h : OkC Tryz.prog maxLen n 25 cs) : ∃ l : List Int, cs = [.ints .u8 l] ∧ U8 l := by
  cases n with
  | zero => exact h.elim
  | succ n =>
    simp only [OkC, Tryz.underlying25, Tryz.underlying5] at h
    obtain ⟨l, rfl, h1, h2⟩ := h
    have e1 : IntKind.u8.min = 0 := rfl
    have e2 : IntKind.u8.max = 255 := rfl
    rw [e1, e2] at h2
    refine ⟨l, rfl, fun i hi => ?_⟩
    have := h2 (l.getD i 0) (by rw [List.getD_eq_getElem?_getD, List.getElem?_eq_getElem hi]; exact List.getElem_mem _)
    omega
set_option maxRecDepth 100000 in
theorem okY_bools {n : Nat} {cs : List C} (h : OkC Tryz.prog maxLen n 26 cs) : ∃ (c : C) (m : Nat) (f : Nat → Bool), cs = [c] ∧ CLe c (bkC m f) := by
  cases n with
  | zero => exact h.elim
  | succ n =>
    simp only [OkC, Tryz.underlying26, Tryz.underlying4] at h
    obtain ⟨m, g, hc, hm0, hm⟩ := h
    have h5 : Tryz.prog.cellsOf 4 = 1 := by kernel_rfl
    rw [h5] at hc hm
    subst hc
    obtain ⟨f, hf⟩ := Classical.axiomOfChoice (r := fun (i : Nat) (e : Bool) => i < m → (List.range 1).map (g i) = [.bool e]) (fun i => by
      by_cases hi : i < m
      · obtain ⟨e, h1⟩ := okY_bool (hm i hi); exact ⟨e, fun _ => h1⟩
      · exact ⟨false, fun h => absurd h hi⟩)
    refine ⟨_, m, f, rfl, CLe.rows rfl fun i j hi hj => CLe.of_eq ?_⟩
    have h1 := congrArg (fun l : List C => l[j]?) (hf i hi)
    obtain rfl : j = 0 := by omega
    simpa [List.range, List.range.loop] using h1
set_option maxRecDepth 100000 in
theorem okY_case {n : Nat} {cells : List C} (h : OkC Tryz.prog maxLen n 28 cells) : ∃ (k : Int) (m : Nat) (f : Nat → E) (ls : List Int) (nb : Nat) (bk : Nat → Bool), U8 ls ∧ LeA cells (cA k m f ls nb bk) := by
  cases n with
  | zero => exact h.elim
  | succ n =>
    simp only [OkC, Tryz.underlying28] at h
    obtain ⟨c1, r1, rfl, h1, c2, r2, rfl, h2, c3, r3, rfl, h3, h4⟩ := h
    have h4 : r3 = [] := h4
    subst h4
    cases n with
    | zero => exact h1.elim
    | succ n =>
      simp only [OkC, Tryz.underlying24] at h1
      obtain ⟨d1, s1, rfl, g1, d2, s2, rfl, g2, g3⟩ := h1
      have g3 : s2 = [] := g3
      subst g3
      obtain ⟨k, rfl⟩ := okY_int g1
      obtain ⟨e, m, f, rfl, he⟩ := okY_edges g2
      obtain ⟨ls, rfl, hl⟩ := okY_u8s h2
      obtain ⟨b, nb, bk, rfl, hb⟩ := okY_bools h3
      exact ⟨k, m, f, ls, nb, bk, hl, .refl _, he, .refl _, hb, trivial⟩

/-- TriangleInvalid. -/
theorem lawTri {n : Nat} {cells : List C} {x : Int} (h : OkC Tryz.prog maxLen n 28 cells) (h0 : 0 ≤ x) (h1 : x < 256) : PureCalls Tryz.prog 3 [.agg cells, .one (.int .u8 x)] (.one (.bool true)) := by
  obtain ⟨n, m, f, ls, nb, bk, hu, hle⟩ := okY_case h
  refine PureCalls.args (ys := [.agg (cA n m f ls nb bk), .one (.int .u8 x)]) ?_ ⟨VLeN_aggA hle, .refl _, trivial⟩
  by_cases g : 5 < m ∨ ¬ GV n 4 m f ∨ 10 < ls.length ∨ 20 < nb
  · exact law_no (tree_no g)
  have hg : GV n 4 m f := Classical.byContradiction fun h => g (.inr (.inl h))
  have hm : m ≤ 5 := by omega
  have hl : ls.length ≤ 10 := by omega
  have hn : nb ≤ 20 := by omega
  rcases graph_facts hg hm with ⟨e, he, hb⟩ | ⟨a, b, c, P, k, t⟩
  · exact law_no (tree_err hm hl hn hg he hb)
  · have ft := tree_yes (bk := bk) hm hl hn hg t
    by_cases hk : k = 0
    · subst hk
      exact law_0 t.sh ft
    · have iv : InvF n m f a b c P k := t.inv.resolve_left hk
      obtain ⟨F, rfl, _⟩ := iv.parts
      exact law_k hk t.k2 hm hl hu h0 h1 iv ft
end Go.Proofs.YtkmgkfneeobcgaaGreat

/-! ## RwTri -/
namespace Go.Proofs.YtkmgkfneeobcgaaGreat
open Go Go.Proofs Go.Eng Go.ChangeShapes Go.WideShapes Go.ChangeAt Go.RowKit

theorem Tryz.own : ownKnob Tryz.prog.godebug = none := by kernel_rfl
theorem Tryz.laidOut : laidOutB Tryz.prog = true := by kernel_rfl

set_option maxRecDepth 100000 in
theorem triangleInvalid_lifted (os : Os) (started : os.Started) (H : Type) (enc : TypeId × Value → H) :
    ReturnsInHanded {} Tryz.checked os 3 .any (Rows.triangleInvalidSpec.pre6 enc Tryz.prog Tryz.f3 Rows.triangleInvalidRow.domain false) (Rows.triangleInvalidSpec.post enc Tryz.prog Tryz.f3 false true false false) := by
  refine returnsInHanded_of_change (C := Tryz.checked) Tryz.own started (by kernel_rfl) Tryz.func3
    (ChangeSpec.witness6 (enc := enc) (C := Tryz.checked) false ⟨#[], #[.agg #[.int .i64 0, .slice none 0 0, .slice none 0 0, .slice none 0 0], .int .u8 0], []⟩ 8 (by kernel_rfl) (by kernel_rfl) (by kernel_rfl) (by kernel_rfl)) ?_
  intro W base args ds gs before hval0 hW hcnd _
  have hval : ∀ (j : Nat) t v, Tryz.f3.params[j]? = some t → args[j]? = some v → Value.okWide Tryz.prog W .any base t v := hval0
  have hW' := hW
  obtain ⟨p, q, hA0, hV, rfl, hfz, hnd⟩ := hW
  have hA : DataW.TrodAll enc Tryz.prog W 0 (fun _ => true) true Tryz.f3.params.toList args.toList ds p := hA0
  rw [Tryz.params3] at hA hval
  obtain ⟨v0, v1, d0, d1, p0, p1, rfl, rfl, rfl, h0, h1⟩ := trodAll_two hA
  obtain ⟨rfl, rfl⟩ := trodVars_none hV
  clear hA0 hval0
  simp only [List.append_nil] at hW'
  have hlt := fun x hx => hW'.lt x hx
  obtain ⟨us, rfl, hsz⟩ := okWide_struct Tryz.underlying28 (hval 0 28 v0 rfl rfl)
  have o1 : v1.oneCell' = true := by obtain ⟨_, rfl, _⟩ := open_int Tryz.underlying5 (hval 1 5 v1 rfl rfl) h1; rfl
  have s0 := fun W' hb => arg_stays (W' := W') Tryz.laidOut (by kernel_rfl) (of_decide_eq_true (by kernel_rfl)) h0 hb (fun x hx => hlt x (List.mem_append_left _ hx))
  have s1 := fun W' hb => arg_stays (W' := W') Tryz.laidOut (by kernel_rfl) (of_decide_eq_true (by kernel_rfl)) h1 hb (fun x hx => hlt x (List.mem_append_right _ hx))
  obtain ⟨n0, cs0, hc0, hr0⟩ := open_argSB (bulk := fun _ => 0) (B := maxLen) closedY (by decide) h0 (.inl (Nat.le_refl _))
  obtain ⟨n1, c1, hc1, hr1⟩ := open_arg closedY (by decide) o1 h1
  obtain ⟨x1, e1, x0, x2⟩ := okY_u8 hc1
  obtain rfl : c1 = .int .u8 x1 := by simpa using e1
  have hcon := lawTri hc0 x0 x2
  have hargs : RepVL loc0 dom0 (fun g => g < W.heap.size) W [.agg cs0, .one (.int .u8 x1)] [.agg us, v1] := ⟨hr0, RepC.of_repI (ρ := loc0) (dom := dom0) hr1, trivial⟩
  refine ((hcon.2 (fun g => g < W.heap.size) W #[.agg us, v1] (fun _ h => h) hargs).mono ?_)
  rintro e W' ⟨v, rfl, hB, hv⟩
  have hv : v = .bool true := hv
  subst hv
  exact ⟨_, rfl, law_post hW' rfl rfl Tryz.underlying4 rfl (trodAll_mk2 (s0 W' hB) (s1 W' hB)) rfl hB⟩

theorem triangleInvalid_holds : Rows.TriangleInvalidSaid :=
  OpenClaim.holds_of_wide 3 Tryz.f3 rfl rfl rfl rfl rfl rfl rfl ⟨rfl, rfl, rfl, rfl, rfl⟩ rfl rfl rfl rfl rfl (by kernel_rfl) Tryz.func3 (by kernel_rfl)
    (of_decide_eq_true (by kernel_rfl)) (by unfold Func.isWrapper; first | (rw [if_pos (by decide +kernel)]; kernel_rfl) | (rw [if_neg (by decide +kernel)]; exact ⟨rfl, rfl⟩))
    (fun os started H enc _ => triangleInvalid_lifted os started H enc)

end Go.Proofs.YtkmgkfneeobcgaaGreat
