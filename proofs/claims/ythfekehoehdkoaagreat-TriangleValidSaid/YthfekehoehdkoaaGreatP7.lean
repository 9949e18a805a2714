/-
  TriangleValid: for every input the law returns true, and each argument reads afterwards as it read before. No condition.
  (Text 7 of 7; made by a program out of smaller texts.)
-/
import Derived.Deep.Slices
import Derived.ChangeArms
import Derived.ChangeSame
import Derived.Below
import Derived.OpenShut
import Derived.ProofKit
import Derived.Test.YthfekehoehdkoaaGreatRows
import Derived.Test.YthfekehoehdkoaaGreatPb
import Derived.Test.YthfekehoehdkoaaGreatPc
import Derived.Test.YthfekehoehdkoaaGreatP6
set_option linter.unusedSimpArgs false
set_option linter.unusedVariables false
open Nat renaming reduceAdd → s_n1, reduceMul → s_n2, reduceSub → s_n3, reduceEqDiff → s_n4, reduceLT → s_n5, reduceLeDiff → s_n6, reduceBEq → s_n7, reduceDiv → s_n8, reduceMod → s_n9, reducePow → s_n0
open Int renaming reduceToNat → s_i1, reduceLE → s_i2, reduceLT → s_i3, reduceEq → s_i4, reducePow → s_i5, reduceSub → s_i6, reduceNeg → s_i7

/-! ## RnB -/
namespace Go.Proofs.YthfekehoehdkoaaGreat
open Go Go.Eng Go.Eng.Run
section
noncomputable def esB : List Ent := [⟨36, [(.v (.one (yi 9)))], (.v (.agg [yz, (yo 4 [yf, (yo 1 [(yu 9)]), yf, (yo 1 [(yu 1)])])]))⟩,
 ⟨36, [(.v (.one (yi 16)))], (.v (.agg [yz, (yo 4 [yf, (yo 1 [(yu 16)]), yf, (yo 1 [(yu 1)])])]))⟩,
 ⟨36, [(.v (.one (yi 25)))], (.v (.agg [yz, (yo 4 [yf, (yo 1 [(yu 25)]), yf, (yo 1 [(yu 1)])])]))⟩,
 ⟨23, [(.v (.agg [(yi 3), (yo 2 [(yi 0), (yi 1), (yi 0), (yi 2), (yi 1), (yi 2)])])), (.v (.agg [(yi 0), (yi 1), (yi 2), (yo 4 [(yi 0), (yi 1), (yi 0), yz, (yi 1), (yi 2), (yi 0), yz, (yi 0), (yi 2), (yi 0), yz])]))], (.v (.one yt))⟩,
 ⟨143, [(.v (.one yz))], (.v (.one yt))⟩,
 ⟨195, [(.v (.one (yo 1 [(yu 1)])))], (.v (.one (yo 1 [(yu 1)])))⟩,
 ⟨195, [(.v (.one (yo 1 [(yu 9)])))], (.v (.one (yo 1 [(yu 9)])))⟩,
 ⟨205, [(.v (.one (yk .u64 1)))], (.v (.one (yo 1 [(yu 1)])))⟩,
 ⟨226, [(.v (.agg [yf, (yo 1 [(yu 1)])]))], (.v (.one yt))⟩,
 ⟨192, [(.v (.agg [yf, (yo 1 [(yu 9)]), yf, (yo 1 [(yu 1)])]))], (.v (.one yf))⟩,
 ⟨205, [(.v (.one (yk .u64 0)))], (.v (.one (yo 1 [])))⟩,
 ⟨195, [(.v (.one (yo 1 [])))], (.v (.one (yo 1 [])))⟩,
 ⟨159, [], (.v (.agg [yf, (yo 1 [(yu 1)])]))⟩,
 ⟨195, [(.v (.one yz))], (.v (.one yz))⟩,
 ⟨192, [(.v (.agg [yf, yz, yf, (yo 1 [(yu 1)])]))], (.v (.one yf))⟩,
 ⟨109, [(.v (.one yz))], (.v (.one yt))⟩,
 ⟨31, [(.v (.agg [yz, (yo 4 [yf, (yo 1 [(yu 9)]), yf, (yo 1 [(yu 1)])])]))], (.v (.one (yi 1)))⟩,
 ⟨195, [(.v (.one (yo 1 [(yu 16)])))], (.v (.one (yo 1 [(yu 16)])))⟩,
 ⟨192, [(.v (.agg [yf, (yo 1 [(yu 16)]), yf, (yo 1 [(yu 1)])]))], (.v (.one yf))⟩,
 ⟨31, [(.v (.agg [yz, (yo 4 [yf, (yo 1 [(yu 16)]), yf, (yo 1 [(yu 1)])])]))], (.v (.one (yi 1)))⟩,
 ⟨195, [(.v (.one (yo 1 [(yu 25)])))], (.v (.one (yo 1 [(yu 25)])))⟩,
 ⟨192, [(.v (.agg [yf, (yo 1 [(yu 25)]), yf, (yo 1 [(yu 1)])]))], (.v (.one yf))⟩,
 ⟨31, [(.v (.agg [yz, (yo 4 [yf, (yo 1 [(yu 25)]), yf, (yo 1 [(yu 1)])])]))], (.v (.one (yi 1)))⟩,
 ⟨205, [(.v (.one (yk .u64 2)))], (.v (.one (yo 1 [(yu 2)])))⟩,
 ⟨205, [(.v (.one (yk .u64 3)))], (.v (.one (yo 1 [(yu 3)])))⟩,
 ⟨259, [(.v (.agg [yf, (yo 1 [(yu 9)])]))], (.tup [(.agg [yf, (yo 1 [(yu 3)])]), (.one yt)])⟩,
 ⟨259, [(.v (.agg [yf, (yo 1 [(yu 1)])]))], (.tup [(.agg [yf, (yo 1 [(yu 1)])]), (.one yt)])⟩,
 ⟨195, [(.v (.one (yo 1 [(yu 3)])))], (.v (.one (yo 1 [(yu 3)])))⟩,
 ⟨192, [(.v (.agg [yf, (yo 1 [(yu 3)]), yf, (yo 1 [(yu 1)])]))], (.v (.one yf))⟩,
 ⟨82, [(.v (.agg [yz, (yo 4 [yf, (yo 1 [(yu 9)]), yf, (yo 1 [(yu 1)])])]))], (.tup [(.agg [yz, (yo 4 [yf, (yo 1 [(yu 3)]), yf, (yo 1 [(yu 1)])])]), (.one (yi 0))])⟩,
 ⟨83, [(.v (.one (yi 0)))], (.v (.agg [yz, (yo 4 [yf, yz, yf, (yo 1 [(yu 1)])])]))⟩,
 ⟨205, [(.v (.one (yk .u64 5)))], (.v (.one (yo 1 [(yu 5)])))⟩,
 ⟨259, [(.v (.agg [yf, (yo 1 [(yu 25)])]))], (.tup [(.agg [yf, (yo 1 [(yu 5)])]), (.one yt)])⟩,
 ⟨195, [(.v (.one (yo 1 [(yu 5)])))], (.v (.one (yo 1 [(yu 5)])))⟩,
 ⟨192, [(.v (.agg [yf, (yo 1 [(yu 5)]), yf, (yo 1 [(yu 1)])]))], (.v (.one yf))⟩,
 ⟨82, [(.v (.agg [yz, (yo 4 [yf, (yo 1 [(yu 25)]), yf, (yo 1 [(yu 1)])])]))], (.tup [(.agg [yz, (yo 4 [yf, (yo 1 [(yu 5)]), yf, (yo 1 [(yu 1)])])]), (.one (yi 0))])⟩,
 ⟨205, [(.v (.one (yk .u64 4)))], (.v (.one (yo 1 [(yu 4)])))⟩,
 ⟨259, [(.v (.agg [yf, (yo 1 [(yu 16)])]))], (.tup [(.agg [yf, (yo 1 [(yu 4)])]), (.one yt)])⟩,
 ⟨195, [(.v (.one (yo 1 [(yu 4)])))], (.v (.one (yo 1 [(yu 4)])))⟩,
 ⟨192, [(.v (.agg [yf, (yo 1 [(yu 4)]), yf, (yo 1 [(yu 1)])]))], (.v (.one yf))⟩,
 ⟨82, [(.v (.agg [yz, (yo 4 [yf, (yo 1 [(yu 16)]), yf, (yo 1 [(yu 1)])])]))], (.tup [(.agg [yz, (yo 4 [yf, (yo 1 [(yu 4)]), yf, (yo 1 [(yu 1)])])]), (.one (yi 0))])⟩,
 ⟨172, [(.v (.one yz)), (.v (.one yz))], (.v (.one yt))⟩,
 ⟨161, [(.v (.agg [yz, (yo 4 [yf, (yo 1 [(yu 3)]), yf, (yo 1 [(yu 1)])])])), (.v (.agg [yz, (yo 4 [yf, yz, yf, (yo 1 [(yu 1)])])]))], (.tup [(.agg [yz, (yo 4 [yf, (yo 1 [(yu 3)]), yf, (yo 1 [(yu 1)])])]), (.one (yi 0))])⟩,
 ⟨161, [(.v (.agg [yz, (yo 4 [yf, yz, yf, (yo 1 [(yu 1)])])])), (.v (.agg [yz, (yo 4 [yf, yz, yf, (yo 1 [(yu 1)])])]))], (.tup [(.agg [yz, (yo 4 [yf, yz, yf, (yo 1 [(yu 1)])])]), (.one (yi 0))])⟩,
 ⟨168, [(.v (.agg [yz, (yo 4 [yf, (yo 1 [(yu 3)]), yf, (yo 1 [(yu 1)])])])), (.v (.agg [yz, (yo 4 [yf, (yo 1 [(yu 3)]), yf, (yo 1 [(yu 1)])])]))], (.tup [(.agg [yz, (yo 4 [yf, (yo 1 [(yu 9)]), yf, (yo 1 [(yu 1)])])]), (.one (yi 0))])⟩,
 ⟨168, [(.v (.agg [yz, (yo 4 [yf, yz, yf, (yo 1 [(yu 1)])])])), (.v (.agg [yz, (yo 4 [yf, yz, yf, (yo 1 [(yu 1)])])]))], (.tup [(.agg [yz, (yo 4 [yf, yz, yf, (yo 1 [(yu 1)])])]), (.one (yi 0))])⟩]
end
noncomputable def tbB : Tbl := addTs tbA esB
set_option maxRecDepth 100000 in
theorem tbB_ok : TblOk Tryz.prog tbB := chkT_ok T_ok mixed (fuel := 2000) (k := 100) (fz := 20) tbA_ok (by kernel_rfl)

end Go.Proofs.YthfekehoehdkoaaGreat

/-! ## RnC -/
namespace Go.Proofs.YthfekehoehdkoaaGreat
open Go Go.Eng Go.Eng.Run
section
noncomputable def esC : List Ent := [⟨165, [(.v (.agg [yz, (yo 4 [yf, (yo 1 [(yu 9)]), yf, (yo 1 [(yu 1)])])])), (.v (.agg [yz, (yo 4 [yf, yz, yf, (yo 1 [(yu 1)])])]))], (.tup [(.agg [yz, (yo 4 [yf, (yo 1 [(yu 9)]), yf, (yo 1 [(yu 1)])])]), (.one (yi 0))])⟩,
 ⟨161, [(.v (.agg [yz, (yo 4 [yf, (yo 1 [(yu 5)]), yf, (yo 1 [(yu 1)])])])), (.v (.agg [yz, (yo 4 [yf, yz, yf, (yo 1 [(yu 1)])])]))], (.tup [(.agg [yz, (yo 4 [yf, (yo 1 [(yu 5)]), yf, (yo 1 [(yu 1)])])]), (.one (yi 0))])⟩,
 ⟨168, [(.v (.agg [yz, (yo 4 [yf, (yo 1 [(yu 5)]), yf, (yo 1 [(yu 1)])])])), (.v (.agg [yz, (yo 4 [yf, (yo 1 [(yu 5)]), yf, (yo 1 [(yu 1)])])]))], (.tup [(.agg [yz, (yo 4 [yf, (yo 1 [(yu 25)]), yf, (yo 1 [(yu 1)])])]), (.one (yi 0))])⟩,
 ⟨165, [(.v (.agg [yz, (yo 4 [yf, (yo 1 [(yu 25)]), yf, (yo 1 [(yu 1)])])])), (.v (.agg [yz, (yo 4 [yf, yz, yf, (yo 1 [(yu 1)])])]))], (.tup [(.agg [yz, (yo 4 [yf, (yo 1 [(yu 25)]), yf, (yo 1 [(yu 1)])])]), (.one (yi 0))])⟩,
 ⟨161, [(.v (.agg [yz, (yo 4 [yf, (yo 1 [(yu 4)]), yf, (yo 1 [(yu 1)])])])), (.v (.agg [yz, (yo 4 [yf, yz, yf, (yo 1 [(yu 1)])])]))], (.tup [(.agg [yz, (yo 4 [yf, (yo 1 [(yu 4)]), yf, (yo 1 [(yu 1)])])]), (.one (yi 0))])⟩,
 ⟨168, [(.v (.agg [yz, (yo 4 [yf, (yo 1 [(yu 4)]), yf, (yo 1 [(yu 1)])])])), (.v (.agg [yz, (yo 4 [yf, (yo 1 [(yu 4)]), yf, (yo 1 [(yu 1)])])]))], (.tup [(.agg [yz, (yo 4 [yf, (yo 1 [(yu 16)]), yf, (yo 1 [(yu 1)])])]), (.one (yi 0))])⟩,
 ⟨165, [(.v (.agg [yz, (yo 4 [yf, (yo 1 [(yu 16)]), yf, (yo 1 [(yu 1)])])])), (.v (.agg [yz, (yo 4 [yf, yz, yf, (yo 1 [(yu 1)])])]))], (.tup [(.agg [yz, (yo 4 [yf, (yo 1 [(yu 16)]), yf, (yo 1 [(yu 1)])])]), (.one (yi 0))])⟩,
 ⟨165, [(.v (.agg [yz, (yo 4 [yf, (yo 1 [(yu 9)]), yf, (yo 1 [(yu 1)])])])), (.v (.agg [yz, (yo 4 [yf, (yo 1 [(yu 16)]), yf, (yo 1 [(yu 1)])])]))], (.tup [(.agg [yz, (yo 4 [yf, (yo 1 [(yu 25)]), yf, (yo 1 [(yu 1)])])]), (.one (yi 0))])⟩,
 ⟨161, [(.v (.agg [yz, (yo 4 [yf, (yo 1 [(yu 25)]), yf, (yo 1 [(yu 1)])])])), (.v (.agg [yz, (yo 4 [yf, (yo 1 [(yu 25)]), yf, (yo 1 [(yu 1)])])]))], (.tup [(.agg [yz, (yo 4 [yf, yz, yf, (yo 1 [(yu 1)])])]), (.one (yi 0))])⟩,
 ⟨165, [(.v (.agg [yz, (yo 4 [yf, (yo 1 [(yu 9)]), yf, (yo 1 [(yu 1)])])])), (.v (.agg [yz, (yo 4 [yf, (yo 1 [(yu 9)]), yf, (yo 1 [(yu 1)])])]))], (.tup [(.agg [yz, (yo 4 [yf, (yo 1 [(yu 18)]), yf, (yo 1 [(yu 1)])])]), (.one (yi 0))])⟩,
 ⟨195, [(.v (.one (yo 1 [(yu 18)])))], (.v (.one (yo 1 [(yu 18)])))⟩,
 ⟨192, [(.v (.agg [yf, (yo 1 [(yu 18)]), yf, (yo 1 [(yu 1)])]))], (.v (.one yf))⟩,
 ⟨237, [(.v (.one yz)), (.v (.one (yo 4 [yf, (yo 1 [(yu 18)]), yf, (yo 1 [(yu 1)])])))], (.tup [(.one (yo 4 [yf, (yo 1 [(yu 1)]), yf, (yo 1 [(yu 18)])])), (.one yt)])⟩,
 ⟨192, [(.v (.agg [yf, (yo 1 [(yu 1)]), yf, (yo 1 [(yu 18)])]))], (.v (.one yf))⟩,
 ⟨226, [(.v (.agg [yf, (yo 1 [(yu 18)])]))], (.v (.one yf))⟩,
 ⟨205, [(.v (.one (yk .u64 18)))], (.v (.one (yo 1 [(yu 18)])))⟩,
 ⟨168, [(.v (.agg [yz, (yo 4 [yf, yz, yf, (yo 1 [(yu 1)])])])), (.v (.agg [yz, (yo 4 [yf, (yo 1 [(yu 1)]), yf, (yo 1 [(yu 18)])])]))], (.tup [(.agg [yz, (yo 4 [yf, yz, yf, (yo 1 [(yu 1)])])]), (.one (yi 0))])⟩,
 ⟨168, [(.v (.agg [yz, (yo 4 [yf, (yo 1 [(yu 3)]), yf, (yo 1 [(yu 1)])])])), (.v (.agg [yz, (yo 4 [yf, yz, yf, (yo 1 [(yu 1)])])]))], (.tup [(.agg [yz, (yo 4 [yf, yz, yf, (yo 1 [(yu 1)])])]), (.one (yi 0))])⟩,
 ⟨165, [(.v (.agg [yz, (yo 4 [yf, yz, yf, (yo 1 [(yu 1)])])])), (.v (.agg [yz, (yo 4 [yf, yz, yf, (yo 1 [(yu 1)])])]))], (.tup [(.agg [yz, (yo 4 [yf, yz, yf, (yo 1 [(yu 1)])])]), (.one (yi 0))])⟩,
 ⟨237, [(.v (.one yz)), (.v (.one (yo 4 [yf, (yo 1 [(yu 9)]), yf, (yo 1 [(yu 1)])])))], (.tup [(.one (yo 4 [yf, (yo 1 [(yu 1)]), yf, (yo 1 [(yu 9)])])), (.one yt)])⟩,
 ⟨192, [(.v (.agg [yf, (yo 1 [(yu 1)]), yf, (yo 1 [(yu 9)])]))], (.v (.one yf))⟩,
 ⟨226, [(.v (.agg [yf, (yo 1 [(yu 9)])]))], (.v (.one yf))⟩,
 ⟨168, [(.v (.agg [yz, (yo 4 [yf, (yo 1 [(yu 16)]), yf, (yo 1 [(yu 1)])])])), (.v (.agg [yz, (yo 4 [yf, (yo 1 [(yu 1)]), yf, (yo 1 [(yu 9)])])]))], (.tup [(.agg [yz, (yo 4 [yf, (yo 1 [(yu 16)]), yf, (yo 1 [(yu 9)])])]), (.one (yi 0))])⟩,
 ⟨192, [(.v (.agg [yf, (yo 1 [(yu 16)]), yf, (yo 1 [(yu 9)])]))], (.v (.one yf))⟩,
 ⟨161, [(.v (.agg [yz, (yo 4 [yf, (yo 1 [(yu 16)]), yf, (yo 1 [(yu 9)])])])), (.v (.agg [yz, (yo 4 [yf, yz, yf, (yo 1 [(yu 1)])])]))], (.tup [(.agg [yz, (yo 4 [yf, (yo 1 [(yu 16)]), yf, (yo 1 [(yu 9)])])]), (.one (yi 0))])⟩,
 ⟨192, [(.v (.agg [yt, (yo 1 [(yu 3)]), yf, (yo 1 [(yu 1)])]))], (.v (.one yf))⟩]
end
noncomputable def tbC : Tbl := addTs tbB esC
set_option maxRecDepth 100000 in
theorem tbC_ok : TblOk Tryz.prog tbC := chkT_ok T_ok mixed (fuel := 2000) (k := 100) (fz := 20) tbB_ok (by kernel_rfl)

end Go.Proofs.YthfekehoehdkoaaGreat

/-! ## RnD -/
namespace Go.Proofs.YthfekehoehdkoaaGreat
open Go Go.Eng Go.Eng.Run
section
noncomputable def esD : List Ent := [⟨169, [(.v (.agg [yz, (yo 4 [yf, (yo 1 [(yu 3)]), yf, (yo 1 [(yu 1)])]), yz, (yo 4 [yf, yz, yf, (yo 1 [(yu 1)])])]))], (.v (.agg [yz, (yo 4 [yf, yz, yf, (yo 1 [(yu 1)])]), yz, (yo 4 [yf, (yo 1 [(yu 3)]), yf, (yo 1 [(yu 1)])])]))⟩,
 ⟨31, [(.v (.agg [yz, (yo 4 [yf, (yo 1 [(yu 16)]), yf, (yo 1 [(yu 9)])])]))], (.v (.one (yi 1)))⟩,
 ⟨192, [(.v (.agg [yf, (yo 1 [(yu 4)]), yf, (yo 1 [(yu 3)])]))], (.v (.one yf))⟩,
 ⟨82, [(.v (.agg [yz, (yo 4 [yf, (yo 1 [(yu 16)]), yf, (yo 1 [(yu 9)])])]))], (.tup [(.agg [yz, (yo 4 [yf, (yo 1 [(yu 4)]), yf, (yo 1 [(yu 3)])])]), (.one (yi 0))])⟩,
 ⟨226, [(.v (.agg [yf, (yo 1 [(yu 3)])]))], (.v (.one yf))⟩,
 ⟨168, [(.v (.agg [yz, (yo 4 [yf, yz, yf, (yo 1 [(yu 1)])])])), (.v (.agg [yz, (yo 4 [yf, (yo 1 [(yu 4)]), yf, (yo 1 [(yu 3)])])]))], (.tup [(.agg [yz, (yo 4 [yf, yz, yf, (yo 1 [(yu 1)])])]), (.one (yi 0))])⟩,
 ⟨168, [(.v (.agg [yz, (yo 4 [yf, (yo 1 [(yu 3)]), yf, (yo 1 [(yu 1)])])])), (.v (.agg [yz, (yo 4 [yf, (yo 1 [(yu 4)]), yf, (yo 1 [(yu 3)])])]))], (.tup [(.agg [yz, (yo 4 [yf, (yo 1 [(yu 4)]), yf, (yo 1 [(yu 1)])])]), (.one (yi 0))])⟩,
 ⟨165, [(.v (.agg [yz, (yo 4 [yf, yz, yf, (yo 1 [(yu 1)])])])), (.v (.agg [yz, (yo 4 [yf, (yo 1 [(yu 4)]), yf, (yo 1 [(yu 1)])])]))], (.tup [(.agg [yz, (yo 4 [yf, (yo 1 [(yu 4)]), yf, (yo 1 [(yu 1)])])]), (.one (yi 0))])⟩,
 ⟨205, [(.v (.one (yk .u64 9)))], (.v (.one (yo 1 [(yu 9)])))⟩,
 ⟨168, [(.v (.agg [yz, (yo 4 [yf, (yo 1 [(yu 9)]), yf, (yo 1 [(yu 1)])])])), (.v (.agg [yz, (yo 4 [yf, (yo 1 [(yu 1)]), yf, (yo 1 [(yu 9)])])]))], (.tup [(.agg [yz, (yo 4 [yf, (yo 1 [(yu 1)]), yf, (yo 1 [(yu 1)])])]), (.one (yi 0))])⟩,
 ⟨168, [(.v (.agg [yz, (yo 4 [yf, yz, yf, (yo 1 [(yu 1)])])])), (.v (.agg [yz, (yo 4 [yf, (yo 1 [(yu 3)]), yf, (yo 1 [(yu 1)])])]))], (.tup [(.agg [yz, (yo 4 [yf, yz, yf, (yo 1 [(yu 1)])])]), (.one (yi 0))])⟩,
 ⟨168, [(.v (.agg [yz, (yo 4 [yf, yz, yf, (yo 1 [(yu 1)])])])), (.v (.agg [yz, (yo 4 [yf, (yo 1 [(yu 1)]), yf, (yo 1 [(yu 9)])])]))], (.tup [(.agg [yz, (yo 4 [yf, yz, yf, (yo 1 [(yu 1)])])]), (.one (yi 0))])⟩,
 ⟨192, [(.v (.agg [yf, (yo 1 [(yu 1)]), yf, (yo 1 [(yu 1)])]))], (.v (.one yf))⟩,
 ⟨168, [(.v (.agg [yz, (yo 4 [yf, (yo 1 [(yu 1)]), yf, (yo 1 [(yu 1)])])])), (.v (.agg [yz, (yo 4 [yf, yz, yf, (yo 1 [(yu 1)])])]))], (.tup [(.agg [yz, (yo 4 [yf, yz, yf, (yo 1 [(yu 1)])])]), (.one (yi 0))])⟩,
 ⟨161, [(.v (.agg [yz, (yo 4 [yf, yz, yf, (yo 1 [(yu 1)])])])), (.v (.agg [yz, (yo 4 [yf, (yo 1 [(yu 3)]), yf, (yo 1 [(yu 1)])])]))], (.tup [(.agg [yz, (yo 4 [yt, (yo 1 [(yu 3)]), yf, (yo 1 [(yu 1)])])]), (.one (yi 0))])⟩,
 ⟨168, [(.v (.agg [yz, (yo 4 [yt, (yo 1 [(yu 3)]), yf, (yo 1 [(yu 1)])])])), (.v (.agg [yz, (yo 4 [yt, (yo 1 [(yu 3)]), yf, (yo 1 [(yu 1)])])]))], (.tup [(.agg [yz, (yo 4 [yf, (yo 1 [(yu 9)]), yf, (yo 1 [(yu 1)])])]), (.one (yi 0))])⟩,
 ⟨168, [(.v (.agg [yz, (yo 4 [yf, (yo 1 [(yu 5)]), yf, (yo 1 [(yu 1)])])])), (.v (.agg [yz, (yo 4 [yt, (yo 1 [(yu 3)]), yf, (yo 1 [(yu 1)])])]))], (.tup [(.agg [yz, (yo 4 [yt, (yo 1 [(yu 15)]), yf, (yo 1 [(yu 1)])])]), (.one (yi 0))])⟩,
 ⟨168, [(.v (.agg [yz, (yo 4 [yf, yz, yf, (yo 1 [(yu 1)])])])), (.v (.agg [yz, (yo 4 [yf, (yo 1 [(yu 4)]), yf, (yo 1 [(yu 1)])])]))], (.tup [(.agg [yz, (yo 4 [yf, yz, yf, (yo 1 [(yu 1)])])]), (.one (yi 0))])⟩,
 ⟨192, [(.v (.agg [yt, (yo 1 [(yu 15)]), yf, (yo 1 [(yu 1)])]))], (.v (.one yf))⟩,
 ⟨165, [(.v (.agg [yz, (yo 4 [yt, (yo 1 [(yu 15)]), yf, (yo 1 [(yu 1)])])])), (.v (.agg [yz, (yo 4 [yf, yz, yf, (yo 1 [(yu 1)])])]))], (.tup [(.agg [yz, (yo 4 [yt, (yo 1 [(yu 15)]), yf, (yo 1 [(yu 1)])])]), (.one (yi 0))])⟩,
 ⟨237, [(.v (.one yz)), (.v (.one (yo 4 [yf, (yo 1 [(yu 25)]), yf, (yo 1 [(yu 1)])])))], (.tup [(.one (yo 4 [yf, (yo 1 [(yu 1)]), yf, (yo 1 [(yu 25)])])), (.one yt)])⟩,
 ⟨192, [(.v (.agg [yf, (yo 1 [(yu 1)]), yf, (yo 1 [(yu 25)])]))], (.v (.one yf))⟩,
 ⟨226, [(.v (.agg [yf, (yo 1 [(yu 25)])]))], (.v (.one yf))⟩,
 ⟨226, [(.v (.agg [yf, (yo 1 [(yu 5)])]))], (.v (.one yf))⟩]
end
noncomputable def tbD : Tbl := addTs tbC esD
set_option maxRecDepth 100000 in
theorem tbD_ok : TblOk Tryz.prog tbD := chkT_ok T_ok mixed (fuel := 2000) (k := 100) (fz := 20) tbC_ok (by kernel_rfl)

end Go.Proofs.YthfekehoehdkoaaGreat

/-! ## RnE -/
namespace Go.Proofs.YthfekehoehdkoaaGreat
open Go Go.Eng Go.Eng.Run
section
noncomputable def esE : List Ent := [⟨168, [(.v (.agg [yz, (yo 4 [yt, (yo 1 [(yu 15)]), yf, (yo 1 [(yu 1)])])])), (.v (.agg [yz, (yo 4 [yf, (yo 1 [(yu 1)]), yf, (yo 1 [(yu 25)])])]))], (.tup [(.agg [yz, (yo 4 [yt, (yo 1 [(yu 3)]), yf, (yo 1 [(yu 5)])])]), (.one (yi 0))])⟩,
 ⟨192, [(.v (.agg [yt, (yo 1 [(yu 5)]), yf, (yo 1 [(yu 1)])]))], (.v (.one yf))⟩,
 ⟨169, [(.v (.agg [yz, (yo 4 [yf, (yo 1 [(yu 5)]), yf, (yo 1 [(yu 1)])]), yz, (yo 4 [yf, yz, yf, (yo 1 [(yu 1)])])]))], (.v (.agg [yz, (yo 4 [yf, yz, yf, (yo 1 [(yu 1)])]), yz, (yo 4 [yf, (yo 1 [(yu 5)]), yf, (yo 1 [(yu 1)])])]))⟩,
 ⟨168, [(.v (.agg [yz, (yo 4 [yf, yz, yf, (yo 1 [(yu 1)])])])), (.v (.agg [yz, (yo 4 [yt, (yo 1 [(yu 3)]), yf, (yo 1 [(yu 1)])])]))], (.tup [(.agg [yz, (yo 4 [yf, yz, yf, (yo 1 [(yu 1)])])]), (.one (yi 0))])⟩,
 ⟨168, [(.v (.agg [yz, (yo 4 [yf, (yo 1 [(yu 5)]), yf, (yo 1 [(yu 1)])])])), (.v (.agg [yz, (yo 4 [yf, (yo 1 [(yu 4)]), yf, (yo 1 [(yu 1)])])]))], (.tup [(.agg [yz, (yo 4 [yf, (yo 1 [(yu 20)]), yf, (yo 1 [(yu 1)])])]), (.one (yi 0))])⟩,
 ⟨192, [(.v (.agg [yf, (yo 1 [(yu 20)]), yf, (yo 1 [(yu 1)])]))], (.v (.one yf))⟩,
 ⟨165, [(.v (.agg [yz, (yo 4 [yf, yz, yf, (yo 1 [(yu 1)])])])), (.v (.agg [yz, (yo 4 [yf, (yo 1 [(yu 20)]), yf, (yo 1 [(yu 1)])])]))], (.tup [(.agg [yz, (yo 4 [yf, (yo 1 [(yu 20)]), yf, (yo 1 [(yu 1)])])]), (.one (yi 0))])⟩,
 ⟨168, [(.v (.agg [yz, (yo 4 [yf, (yo 1 [(yu 20)]), yf, (yo 1 [(yu 1)])])])), (.v (.agg [yz, (yo 4 [yf, (yo 1 [(yu 1)]), yf, (yo 1 [(yu 25)])])]))], (.tup [(.agg [yz, (yo 4 [yf, (yo 1 [(yu 4)]), yf, (yo 1 [(yu 5)])])]), (.one (yi 0))])⟩,
 ⟨192, [(.v (.agg [yt, (yo 1 [(yu 3)]), yf, (yo 1 [(yu 5)])]))], (.v (.one yf))⟩,
 ⟨168, [(.v (.agg [yz, (yo 4 [yt, (yo 1 [(yu 3)]), yf, (yo 1 [(yu 5)])])])), (.v (.agg [yz, (yo 4 [yf, yz, yf, (yo 1 [(yu 1)])])]))], (.tup [(.agg [yz, (yo 4 [yf, yz, yf, (yo 1 [(yu 1)])])]), (.one (yi 0))])⟩,
 ⟨192, [(.v (.agg [yf, (yo 1 [(yu 4)]), yf, (yo 1 [(yu 5)])]))], (.v (.one yf))⟩,
 ⟨168, [(.v (.agg [yz, (yo 4 [yf, (yo 1 [(yu 4)]), yf, (yo 1 [(yu 5)])])])), (.v (.agg [yz, (yo 4 [yf, yz, yf, (yo 1 [(yu 1)])])]))], (.tup [(.agg [yz, (yo 4 [yf, yz, yf, (yo 1 [(yu 1)])])]), (.one (yi 0))])⟩,
 ⟨165, [(.v (.agg [yz, (yo 4 [yf, yz, yf, (yo 1 [(yu 1)])])])), (.v (.agg [yz, (yo 4 [yf, (yo 1 [(yu 16)]), yf, (yo 1 [(yu 1)])])]))], (.tup [(.agg [yz, (yo 4 [yf, (yo 1 [(yu 16)]), yf, (yo 1 [(yu 1)])])]), (.one (yi 0))])⟩,
 ⟨168, [(.v (.agg [yz, (yo 4 [yf, (yo 1 [(yu 4)]), yf, (yo 1 [(yu 1)])])])), (.v (.agg [yz, (yo 4 [yf, yz, yf, (yo 1 [(yu 1)])])]))], (.tup [(.agg [yz, (yo 4 [yf, yz, yf, (yo 1 [(yu 1)])])]), (.one (yi 0))])⟩,
 ⟨237, [(.v (.one yz)), (.v (.one (yo 4 [yf, (yo 1 [(yu 16)]), yf, (yo 1 [(yu 1)])])))], (.tup [(.one (yo 4 [yf, (yo 1 [(yu 1)]), yf, (yo 1 [(yu 16)])])), (.one yt)])⟩,
 ⟨192, [(.v (.agg [yf, (yo 1 [(yu 1)]), yf, (yo 1 [(yu 16)])]))], (.v (.one yf))⟩,
 ⟨226, [(.v (.agg [yf, (yo 1 [(yu 16)])]))], (.v (.one yf))⟩,
 ⟨205, [(.v (.one (yk .u64 16)))], (.v (.one (yo 1 [(yu 16)])))⟩,
 ⟨168, [(.v (.agg [yz, (yo 4 [yf, yz, yf, (yo 1 [(yu 1)])])])), (.v (.agg [yz, (yo 4 [yf, (yo 1 [(yu 1)]), yf, (yo 1 [(yu 16)])])]))], (.tup [(.agg [yz, (yo 4 [yf, yz, yf, (yo 1 [(yu 1)])])]), (.one (yi 0))])⟩,
 ⟨192, [(.v (.agg [yt, (yo 1 [(yu 4)]), yf, (yo 1 [(yu 1)])]))], (.v (.one yf))⟩,
 ⟨169, [(.v (.agg [yz, (yo 4 [yf, (yo 1 [(yu 4)]), yf, (yo 1 [(yu 1)])]), yz, (yo 4 [yf, yz, yf, (yo 1 [(yu 1)])])]))], (.v (.agg [yz, (yo 4 [yf, yz, yf, (yo 1 [(yu 1)])]), yz, (yo 4 [yf, (yo 1 [(yu 4)]), yf, (yo 1 [(yu 1)])])]))⟩]
end
noncomputable def tbE : Tbl := addTs tbD esE
set_option maxRecDepth 100000 in
theorem tbE_ok : TblOk Tryz.prog tbE := chkT_ok T_ok mixed (fuel := 2000) (k := 100) (fz := 20) tbD_ok (by kernel_rfl)

end Go.Proofs.YthfekehoehdkoaaGreat

/-! ## RnF -/
namespace Go.Proofs.YthfekehoehdkoaaGreat
open Go Go.Eng Go.Eng.Run
section
noncomputable def esF : List Ent := [⟨168, [(.v (.agg [yz, (yo 4 [yf, (yo 1 [(yu 16)]), yf, (yo 1 [(yu 1)])])])), (.v (.agg [yz, (yo 4 [yf, (yo 1 [(yu 1)]), yf, (yo 1 [(yu 16)])])]))], (.tup [(.agg [yz, (yo 4 [yf, (yo 1 [(yu 1)]), yf, (yo 1 [(yu 1)])])]), (.one (yi 0))])⟩,
 ⟨18, [(.v (.one yf))], (.v (.agg [(yi 4), (yo 2 [(yi 0), (yi 1), (yi 0), (yi 3), (yi 1), (yi 2), (yi 2), (yi 3)])]))⟩,
 ⟨17, [(.v (.agg [(yi 4), (yo 2 [(yi 0), (yi 1), (yi 0), (yi 3), (yi 1), (yi 2), (yi 2), (yi 3)])]))], (.tup [(.agg [(yi 0), (yi 0), (yi 0), yz]), (.one (yi 13))])⟩,
 ⟨18, [(.v (.one yt))], (.v (.agg [(yi 4), (yo 2 [(yi 0), (yi 1), (yi 0), (yi 2), (yi 0), (yi 3), (yi 1), (yi 2), (yi 2), (yi 3)])]))⟩,
 ⟨17, [(.v (.agg [(yi 4), (yo 2 [(yi 0), (yi 1), (yi 0), (yi 2), (yi 0), (yi 3), (yi 1), (yi 2), (yi 2), (yi 3)])]))], (.tup [(.agg [(yi 2), (yi 0), (yi 3), (yo 4 [(yi 1), (yi 0), (yi 2), (yo 4 [(yi 0), (yi 1), (yi 0), yz, (yi 0), (yi 2), (yi 0), yz, (yi 1), (yi 2), (yi 0), yz]), (yi 0), (yi 3), (yi 0), yz, (yi 2), (yi 3), (yi 0), yz])]), (.one (yi 0))])⟩,
 ⟨239, [(.v (.one yz)), (.v (.one yz))], (.v (.one yt))⟩,
 ⟨189, [(.v (.one yz)), (.v (.one (yo 4 [yf, (yo 1 []), yf, (yo 1 [(yu 1)])])))], (.v (.one (yi 0)))⟩]
end
noncomputable def tbF : Tbl := addTs tbE esF
set_option maxRecDepth 100000 in
theorem tbF_ok : TblOk Tryz.prog tbF := chkT_ok T_ok mixed (fuel := 2000) (k := 100) (fz := 20) tbE_ok (by kernel_rfl)

end Go.Proofs.YthfekehoehdkoaaGreat

/-! ## RnZ -/
namespace Go.Proofs.YthfekehoehdkoaaGreat
open Go Go.Eng Go.Eng.Run
set_option maxRecDepth 100000 in
theorem awakeR : PureCalls Tryz.prog 4 [] (.one (.bool true)) := pure_of_runs T_ok mixed (orcT_ok tbF_ok) (fuel := 2000) (k := 100) (fz := 20) (args := []) (r := .v (.one (.cl (.bool true)))) rfl (by kernel_rfl)

end Go.Proofs.YthfekehoehdkoaaGreat

/-! ## FnYw -/
namespace Go.Proofs.YthfekehoehdkoaaGreat
open Go Go.Eng Go.Gra Go.Tre

/-! ### TriangleValid: the law's walk. -/
theorem valid_same {n : Int} {m : Nat} {f : Nat → E} {t : Tree} (hf : Fit t) : (GV n 12 m f ∧ CP n m f t) ↔ RV n m f t := by
  unfold CP RV
  constructor
  · rintro ⟨g, h⟩
    exact ⟨g, (valid_iff hf g).1 h⟩
  · rintro ⟨g, h⟩
    exact ⟨g, (valid_iff hf g).2 h⟩
open Classical in
set_option maxRecDepth 10000 in
set_option maxHeartbeats 2000000 in
theorem lawTV (srt : SrtC) {n : Int} {m : Nat} {f : Nat → E} {t : Tree} (gd : Whole t) : PureCalls Tryz.prog 3 [.agg (gA n m f), .agg (tA t)] (.one (.bool true)) := by
  obtain ⟨v, hv, cs⟩ := rSmall gd
  simp only [tA] at cs
  refine pure_of_vc T_ok mixed Tryz.func3 rfl (by decide) _ (by simp [Tryz.ntmps3]) ⟨[0, 1, 2, 3, 4, 6, 20], []⟩ (by kernel_rfl) _ ?_
  show vc T Tryz.prog ⟨[0, 1, 2, 3, 4, 6, 20], []⟩ (Option.get! Tryz.f3.body) _ _
  simp only [Tryz.f3, Tryz.ntmps3, Option.get!, initSt, initM, envOf, Nat.reduceAdd]
  simp only [vx, T, seval, gA, edC, tA]
  refine CallK.go awakeR ?_
  simp only [vx, T, seval, gA, edC, tA]
  refine CallK.go cs ?_
  cases v
  · simp only [vx, T, seval, gA, edC, tA]
    exact VLe.of_eq rfl
  obtain ⟨hf, hn⟩ := hv rfl
  simp only [vx, T, seval, gA, edC, tA]
  refine ⟨fun h1 => Later.go ?_, fun h1 => Later.go ?_⟩
  · simp only [vx, T, seval, gA, edC, tA]
    exact VLe.of_eq rfl
  simp only [vx, T, seval, gA, edC, tA]
  refine ⟨fun h2 => Later.go ?_, fun h2 => Later.go ?_⟩
  · simp only [vx, T, seval, gA, edC, tA]
    exact VLe.of_eq rfl
  have ow := own40 (n := n) (m := m) (f := f) (by omega)
  have ci := iValidT srt (n := n) (m := m) (f := f) (by omega) hf (by omega)
  have cr := rValid (n := n) (m := m) (f := f) (by omega) hf (by omega)
  have e : decide (GV n 12 m f ∧ CP n m f t) = decide (RV n m f t) := decide_eq_decide.2 (valid_same hf)
  have cp := iPoints hf (by omega)
  have cq := rPoints t hf
  have cl := (rList (bset_lt t hf)).ints
  have ln := lstI_ok (bset t)
  have ce := iEqualZ (xs := lstI (bset t)) (ys := lstI (bset t)) ln.1 ln.1
  have cm := iMerges t gd (by omega)
  have cn := rMerges t gd (by omega)
  rw [e] at ci
  rw [decide_eq_true (rfl : lstI (bset t) = lstI (bset t))] at ce
  generalize decide (RV n m f t) = v at ci cr
  simp only [gA, edC, tA] at ow ci cr
  simp only [vx, T, seval, gA, edC, tA]
  refine CallK.go ow ?_
  simp only [vx, T, seval, gA, edC, tA]
  refine CallK.go ci ?_
  simp only [vx, T, seval, gA, edC, tA]
  refine CallK.go cr ?_
  simp only [vx, T, seval, gA, edC, tA]
  refine CallK.go cp ?_
  simp only [vx, T, seval, gA, edC, tA]
  refine CallK.go cq ?_
  simp only [vx, T, seval, gA, edC, tA]
  refine CallK.go cl ?_
  simp only [vx, T, seval, gA, edC, tA]
  refine CallK.go ce ?_
  simp only [vx, T, seval, gA, edC, tA]
  refine CallK.go cm ?_
  simp only [vx, T, seval, gA, edC, tA]
  refine CallK.go cn ?_
  simp only [vx, T, seval, gA, edC, tA]
  exact VLe.of_eq rfl
end Go.Proofs.YthfekehoehdkoaaGreat

/-! ## Srf -/
namespace Go.Proofs.YthfekehoehdkoaaGreat
open Go Go.Proofs Go.Eng Go.Sort Go.Gra Go.Tre

def encE (x : E) : List Value := [.int .i64 x.1, .int .i64 x.2]
def fe (l : List E) (j : Nat) : Int := if j % 2 = 0 then (l.getD (j / 2) (0, 0)).1 else (l.getD (j / 2) (0, 0)).2
theorem flat_get {l : List E} {j : Nat} (hj : j < l.length * 2) : (flatK encE 2 l.toArray)[j]! = .int .i64 (fe l j) := by
  rw [get_flatK _ _ _ _ (by simpa using hj)]
  have e : l.toArray[j / 2]! = l.getD (j / 2) (0, 0) := by
    have : j / 2 < l.length := by omega
    simp [List.getD_eq_getElem?_getD, this]
  rw [e]
  unfold fe encE
  rcases Nat.mod_two_eq_zero_or_one j with h | h
  · rw [h]; rfl
  · rw [h]; rfl
theorem eR_fe (l : List E) (j : Nat) : eR l (j / 2) (j % 2) = .int .i64 (fe l j) := rfl
theorem cmW_lt (x y : Int) : cmW x y < 0 ↔ x < y := by
  unfold cmW
  split
  · simp [*]
  · split
    · simp; omega
    · simp; omega
theorem cmW_ne (x y : Int) : cmW x y ≠ 0 ↔ x ≠ y := by
  unfold cmW
  split
  · simp; omega
  · split
    · simp; omega
    · simp; omega
theorem cfE_lt (x y : E) : ltOf cfE x y = decide (Go.Gra.lt x y) := by
  unfold ltOf cfE
  congr 1
  refine propext ?_
  unfold Go.Gra.lt
  by_cases h : x.1 = y.1
  · rw [if_neg (by rw [cmW_ne]; simp [h]), cmW_lt]
    omega
  · rw [if_pos (by rw [cmW_ne]; exact h), cmW_lt]
    omega
theorem swoE : SWO (ltOf cfE) := by
  refine ⟨fun x => ?_, fun x y z => ?_, fun x y z => ?_⟩ <;> simp only [cfE_lt, decide_eq_true_eq, decide_eq_false_iff_not] <;> unfold Go.Gra.lt <;> omega
theorem srtE_of {l : List E} {d : Array E} (hp : PermIn 0 l.toArray.size l.toArray d) (hs : SortedIn (ltOf cfE) 0 l.toArray.size d) : d = (srtE l).toArray := by
  obtain ⟨h1, _, h3⟩ := hp
  have h3 : d.toList.Perm l := by
    have e1 : d.extract 0 l.toArray.size = d := by rw [← h1]; simp
    rw [e1] at h3
    simpa using h3
  have : d.toList = srtE l := by
    refine List.Perm.eq_of_pairwise (le := fun x y => leE x y = true) ?_ ?_ (srtE_sorted l) (h3.trans (srtE_perm l).symm)
    · intro a b _ _ h1 h2
      unfold leE at h1 h2
      simp only [Bool.not_eq_true', decide_eq_false_iff_not] at h1 h2
      unfold Go.Gra.lt at h1 h2
      exact Prod.ext (by omega) (by omega)
    · rw [List.pairwise_iff_getElem]
      intro i j hi hj hij
      have hi : i < d.size := by simpa using hi
      have hj : j < d.size := by simpa using hj
      have := hs i j (Nat.zero_le _) hij (by omega)
      rw [getElem!_pos d j hj, getElem!_pos d i hi, cfE_lt] at this
      unfold leE
      simpa using this
  rw [← this]

theorem srtC : SrtC := by
  intro l h0 hl
  have F := Tryz.func43
  refine ⟨⟨_, Tryz.func43, by rfl, by rfl⟩, fun ok w vs lc hok hll hla hb hr => ?_⟩
  obtain ⟨vs⟩ := vs
  match vs, hr with
  | [v, v2], hr =>
    obtain ⟨⟨_, _, cap, hcap, hv⟩, ⟨cs, rfl, hcs, _⟩, _⟩ := hr
    obtain rfl : cs = #[] := Array.eq_empty_of_size_eq_zero hcs
    have hsl : (srtE l).length = l.length := (srtE_perm l).length_eq
    rcases hv with ⟨g, o, o', ha, rfl, ho, hroom⟩ | ⟨_, _, h1, _⟩
    · have ho' : o' = o := by rcases ho with ho | ho <;> omega
      subst ho'
      unfold RepBk at hb
      rw [ha] at hb
      obtain ⟨cur, e', hg, hcell⟩ := hb
      have hgl := (hla g o' ha).1
      have hx : ∀ j, j < l.length * 2 → cur[o' + j]? = some (.int .i64 (fe l j)) := by
        intro j hj
        obtain ⟨u, hu, hru⟩ := hcell j (.int .i64 (fe l j)) (by simp only [Bk.cell]; rw [if_pos hj, eR_fe])
        have hru : u = .int .i64 (fe l j) := hru
        rw [hu, hru]
      have hH : HoldsK encE 2 w g o' l.toArray := by
        intro j hj
        have hj : j < l.length * 2 := by simpa using hj
        refine ⟨?_, ?_⟩
        · rw [World.cell?, hg]
          simp only [Option.isSome_none, Bool.false_eq_true, if_false]
          rw [hx j hj, flat_get hj]
          rfl
        · simp only [World.frozen?, hg]
          simp
      have hc := AnyQ.slices_SortFunc Tryz.laysSf 2 Tryz.isAgg37 Tryz.sizeOf37 encE (fun _ => rfl) (fun x v hv => by simp [encE] at hv; rcases hv with rfl | rfl <;> rfl) cfE swoE 44 #[] g o' cap l.toArray w (enters_of Tryz.func44 (by kernel_rfl) rfl) (fun m os dk _ x y => closW x y _) hH hgl (by simp; omega)
      refine hc.mono ?_
      rintro e1 w' ⟨rfl, d', n, os, hp, hs, rfl⟩
      obtain rfl := srtE_of hp hs
      have hgl' : g < (putRowK encE 2 (Sort.ahead w n) g o' (srtE l).toArray).heap.size := by rw [size_putRowK]; exact hgl
      have hgs : (putRowK encE 2 (Sort.ahead w n) g o' (srtE l).toArray).heap[g]? = some (.cells (putCells id o' (flatK encE 2 (srtE l).toArray) cur) e' (0, 0)) := heap_mapBlock_same (Sort.ahead w n) g _ hg
      unfold sortWorldK
      refine ⟨_, .tup [], .rows 37 2 l.length (eR (srtE l)), rfl, ⟨rfl, rfl⟩, trivial, rfl, ⟨rfl, rfl, rfl, by simp [putRowK], fun k hk hne => ?_, fun g' => ?_⟩, ?_, ⟨#[], rfl, trivial⟩⟩
      · rw [heap_grow_old _ _ (by simpa [putRowK] using hk)]
        exact heap_mapBlock_other (Sort.ahead w n) g k _ (fun e => hne o' (by rw [e]; exact ha))
      · by_cases hg' : g' < w.heap.size
        · by_cases hgg : g' = g
          · subst hgg
            simp only [rowSize, heap_grow_old _ _ hgl', hgs, hg, putCells]
            simp
          · rw [rowSize_of_block (w' := grow _ os) (w := w) (by rw [heap_grow_old _ _ (by simpa [putRowK] using hg')]; exact heap_mapBlock_other (Sort.ahead w n) g g' _ hgg)]
            exact Nat.le_refl _
        · rw [rowSize_lt hg']; exact Nat.zero_le _
      · unfold RepBk
        rw [ha]
        refine ⟨_, e', by rw [heap_grow_old _ _ hgl']; exact hgs, fun j c hj => ?_⟩
        simp only [Bk.cell] at hj
        by_cases hjl : j < l.length * 2
        · rw [if_pos hjl, eR_fe] at hj
          simp only [Option.some.injEq] at hj
          subst hj
          refine ⟨.int .i64 (fe (srtE l) j), ?_, rfl⟩
          have hc := hx j hjl
          simp only [putCells, Array.getElem?_mapIdx, hc, Option.map_some]
          rw [if_pos ⟨by omega, by simp [hsl]; omega⟩, Nat.add_sub_cancel_left, flat_get (by rw [hsl]; exact hjl)]
          rfl
        · rw [if_neg hjl] at hj
          cases hj
    · exact absurd h1 (by omega)
end Go.Proofs.YthfekehoehdkoaaGreat

/-! ## EngOp -/
namespace Go.Eng
open Go Go.ChangeShapes Go.WideShapes Go.Deep

/-- The fields lie one behind the other. -/
def contigF (P : Program) : Nat → List Field → Nat → Bool
  | off, [], tot => off == tot
  | off, f :: r, tot => f.offset == off && contigF P (off + P.cellsOf f.type) r tot

/-- A set of types that is closed, and whose types can be opened. -/
def closedB (P : Program) (S : List TypeId) : Bool := S.all fun t =>
  match P.underlying t with
  | some .bool => true
  | some (.int _) => true
  | some .string => true
  | some (.slice e) => decide (0 < P.cellsOf e) && S.contains e && (match P.underlying e with | some (.int _) => P.cellsOf e == 1 | _ => true)
  | some (.struct fs) => contigF P 0 fs.toList (P.cellsOf t) && fs.toList.all fun f => S.contains f.type
  | some (.array n e) => S.contains e && P.cellsOf t == n * P.cellsOf e
  | _ => false

def OkF (R : TypeId → List C → Prop) : List Field → List C → Prop
  | [], cs => cs = []
  | f :: r, cs => ∃ c1 c2, cs = c1 ++ c2 ∧ R f.type c1 ∧ OkF R r c2

/-- The cells of a type, as data that can be read. -/
def OkC (P : Program) (B : Nat) : Nat → TypeId → List C → Prop
  | 0, _, _ => False
  | n + 1, t, cs =>
    match P.underlying t with
    | some .bool => ∃ b, cs = [.bool b]
    | some (.int k) => ∃ x, cs = [.int k x] ∧ k.min ≤ x ∧ x ≤ k.max
    | some .string => ∃ s : ByteArray, cs = [.str s] ∧ s.size ≤ B
    | some (.slice e) =>
      match P.underlying e with
      | some (.int k) => ∃ xs : List Int, cs = [.ints k xs] ∧ xs.length ≤ B ∧ ∀ x ∈ xs, k.min ≤ x ∧ x ≤ k.max
      | _ => ∃ m f, cs = [.rows (P.cellsOf e) m f] ∧ m ≤ B ∧ ∀ i, i < m → OkC P B n e ((List.range (P.cellsOf e)).map (f i))
    | some (.struct fs) => OkF (OkC P B n) fs.toList cs
    | some (.array m e) => ∃ l : List (List C), cs = l.flatten ∧ l.length = m ∧ ∀ c ∈ l, OkC P B n e c
    | _ => False

theorem OkC.mono {P : Program} {B B' : Nat} (hB : B ≤ B') : ∀ {n : Nat} {t : TypeId} {cs : List C}, OkC P B n t cs → OkC P B' n t cs := by
  intro n
  induction n with
  | zero => intro t cs h; exact h
  | succ n ih =>
    intro t cs h
    have hf : ∀ (fs : List Field) (cs : List C), OkF (OkC P B n) fs cs → OkF (OkC P B' n) fs cs := by
      intro fs
      induction fs with
      | nil => intro cs h; exact h
      | cons f r ihf =>
        rintro cs ⟨c1, c2, rfl, h1, h2⟩
        exact ⟨c1, c2, rfl, ih h1, ihf c2 h2⟩
    simp only [OkC] at h ⊢
    split at h
    · exact h
    · exact h
    · obtain ⟨s, h1, h2⟩ := h; exact ⟨s, h1, Nat.le_trans h2 hB⟩
    · split at h
      · obtain ⟨xs, h1, h2, h3⟩ := h; exact ⟨xs, h1, Nat.le_trans h2 hB, h3⟩
      · obtain ⟨m, f, h1, h2, h3⟩ := h
        exact ⟨m, f, h1, Nat.le_trans h2 hB, fun i hi => ih (h3 i hi)⟩
    · exact hf _ _ h
    · obtain ⟨l, h1, h2, h3⟩ := h
      exact ⟨l, h1, h2, fun c hc => ih (h3 c hc)⟩
    · exact h

/-- A measure of what comes in: longer than each of its lists and texts, and than what lies in them. -/
structure BulkOk {H : Type} (bulk : DataW H → Nat) : Prop where
  str : ∀ s : List UInt8, s.length ≤ bulk (.lit (.string s))
  sl : ∀ el sp, el.length ≤ bulk (.slice el sp) ∧ ∀ d ∈ el, bulk d ≤ bulk (.slice el sp)
  agg : ∀ ps d, d ∈ ps → bulk d ≤ bulk (.agg ps)
/-- Either there is no bound but the model's, or the measure is bounded. -/
def Bnd {H : Type} (bulk : DataW H → Nat) (B : Nat) (d : DataW H) : Prop := maxLen ≤ B ∨ (BulkOk bulk ∧ bulk d ≤ B)

/-- Cells and values, pair by pair. -/
def RepIL (ok : Nat → Prop) (w : World) : List C → List Value → Prop
  | [], [] => True
  | c :: cs, v :: vs => RepI ok w c v ∧ RepIL ok w cs vs
  | _, _ => False
theorem RepIL.append {ok : Nat → Prop} {w : World} : ∀ {a b : List C} {x y : List Value}, RepIL ok w a x → RepIL ok w b y → RepIL ok w (a ++ b) (x ++ y)
  | [], _, [], _, _, h => h
  | _ :: _, _, _ :: _, _, h1, h2 => ⟨h1.1, RepIL.append h1.2 h2⟩
  | [], _, _ :: _, _, h, _ => h.elim
  | _ :: _, _, [], _, h, _ => h.elim
theorem RepIL.length {ok : Nat → Prop} {w : World} : ∀ {a : List C} {x : List Value}, RepIL ok w a x → a.length = x.length
  | [], [], _ => rfl
  | _ :: _, _ :: _, h => by simp [RepIL.length h.2]
  | [], _ :: _, h => h.elim
  | _ :: _, [], h => h.elim
theorem RepIL.get {ok : Nat → Prop} {w : World} : ∀ {a : List C} {x : List Value}, RepIL ok w a x → ∀ j, j < a.length → ∃ u, x[j]? = some u ∧ RepI ok w (a.getD j .any) u
  | _ :: _, u :: _, h, 0, _ => ⟨u, rfl, h.1⟩
  | _ :: _, _ :: _, h, j + 1, hj => by simpa using RepIL.get h.2 j (by simpa using hj)
  | [], [], _, j, hj => absurd hj (by simp)
  | [], _ :: _, h, _, _ => h.elim
  | _ :: _, [], h, _, _ => h.elim
theorem RepIL.repL {ok : Nat → Prop} {w : World} : ∀ {a : List C} {x : List Value}, RepIL ok w a x → RepL loc0 dom0 ok w a x
  | [], [], _ => trivial
  | _ :: _, _ :: _, h => ⟨RepC.of_repI h.1, RepIL.repL h.2⟩
  | [], _ :: _, h => h.elim
  | _ :: _, [], h => h.elim

theorem cell_lt {w : World} {a : Addr} {v : Value} (h : w.cell? a = some v) : a.block < w.heap.size ∧ a.spot = none := by
  unfold World.cell? at h
  split at h
  · rename_i c _ _ hb
    refine ⟨(Array.getElem?_eq_some_iff.1 hb).1, ?_⟩
    split at h
    · cases h
    · rename_i hs
      cases hsp : a.spot with
      | none => rfl
      | some x => rw [hsp] at hs; simp at hs
  · cases h

section
variable {H : Type} {bulk : DataW H → Nat} {B : Nat} {enc : TypeId × Value → H} {P : Program} {w : World} {base : Nat} {spare : Nat → Bool} {held : Bool}

theorem open_data {S : List TypeId} (hS : closedB P S = true) : ∀ (fuel : Nat) (t : TypeId) (vs : List Value) (x : DataW H × List MemPlace), t ∈ S → DataW.trod enc P w base spare held fuel t vs = some x → Bnd bulk B x.1 →
    ∃ cs, OkC P B fuel t cs ∧ RepIL (fun g => g < w.heap.size) w cs vs := by
  intro fuel
  induction fuel with
  | zero => intro t vs x _ h _; simp [DataW.trod] at h
  | succ fuel ih =>
    intro t vs x ht h hb
    have hc := List.all_eq_true.1 hS t ht
    simp only [OkC]
    cases hu : P.underlying t with
    | none => rw [hu] at hc; simp at hc
    | some d =>
      rw [hu] at hc
      cases d with
      | bool =>
        obtain ⟨b, rfl, _⟩ := DataW.trod_bool hu h
        exact ⟨[.bool b], ⟨b, rfl⟩, rfl, trivial⟩
      | int k =>
        obtain ⟨n, rfl, _, hw⟩ := DataW.trod_int hu h
        simp only [Lit.wf, Bool.and_eq_true, decide_eq_true_eq] at hw
        exact ⟨[.int k n], ⟨n, rfl, hw⟩, rfl, trivial⟩
      | string =>
        obtain ⟨s, rfl, hx, hs⟩ := DataW.trod_string hu h
        refine ⟨[.str s], ⟨s, rfl, ?_⟩, rfl, trivial⟩
        rcases hb with hb | ⟨hb, hb2⟩
        · omega
        · have h1 := hb.str s.data.toList
          rw [hx] at hb2
          have hb2 : bulk (.lit (.string s.data.toList)) ≤ B := hb2
          have h2 : s.data.toList.length = s.size := Array.length_toList
          omega
      | slice e =>
        simp only [Bool.and_eq_true, decide_eq_true_eq] at hc
        obtain ⟨⟨hpos, he⟩, hk⟩ := hc
        have he : e ∈ S := by simpa using he
        have hfit : (vs = [.slice none 0 0]) ∨ ∃ (a : Addr) (len cap : Nat), vs = [.slice (some a) len cap] ∧ len ≤ cap ∧ len ≤ B ∧
            ∀ i, i < len → ∃ cs', w.cells? base (a.add (i * P.cellsOf e)) (P.cellsOf e) = some cs' ∧ ∃ y, DataW.trod enc P w base spare held fuel e cs' = some y ∧ Bnd bulk B y.1 := by
          rcases DataW.trod_slice hu h with ⟨rfl, _⟩ | ⟨a, len, cap, elems, rest, n, hn, rfl, hx, _, hl, hm, hlen, hel, _, _⟩
          · exact .inl rfl
          · have hlB : len ≤ B := by
              rcases hb with hb | ⟨hb, hb2⟩
              · omega
              · have h1 := (hb.sl (elems.map (·.1)) (rest.map (·.1))).1
                rw [hx] at hb2
                rw [List.length_map] at h1
                have hb2 : bulk (.slice (elems.map (·.1)) (rest.map (·.1))) ≤ B := hb2
                omega
            refine .inr ⟨a, len, cap, rfl, hl, hlB, fun i hi => ?_⟩
            obtain rfl : fuel = n := by omega
            have h1 := hel i hi
            rw [List.getElem?_eq_getElem (by omega)] at h1
            cases hcs : w.cells? base (a.add (i * P.cellsOf e)) (P.cellsOf e) with
            | none => rw [hcs] at h1; simp at h1
            | some cs' =>
              rw [hcs] at h1
              refine ⟨cs', rfl, _, h1, ?_⟩
              rcases hb with hb | ⟨hb, hb2⟩
              · exact .inl hb
              · refine .inr ⟨hb, ?_⟩
                have h2 := (hb.sl (elems.map (·.1)) (rest.map (·.1))).2 elems[i].1 (List.mem_map.2 ⟨elems[i], List.getElem_mem _, rfl⟩)
                rw [hx] at hb2
                exact Nat.le_trans h2 hb2
        -- by rows
        have hrows : ∃ m f, m ≤ B ∧ (∀ i, i < m → OkC P B fuel e ((List.range (P.cellsOf e)).map (f i))) ∧ ∃ v, vs = [v] ∧ RepI (fun g => g < w.heap.size) w (.rows (P.cellsOf e) m f) v := by
          rcases hfit with rfl | ⟨a, len, cap, rfl, hl, hm, hel⟩
          · exact ⟨0, fun _ _ => .any, Nat.zero_le _, fun i hi => absurd hi (Nat.not_lt_zero _), _, rfl, none, 0, rfl, Nat.le_refl _, .inl rfl⟩
          · have hex : ∀ i, i < len → ∃ cs, OkC P B fuel e cs ∧ cs.length = P.cellsOf e ∧ ∀ j, j < P.cellsOf e → ∃ u, w.cell? ((a.add (i * P.cellsOf e)).add j) = some u ∧ RepI (fun g => g < w.heap.size) w (cs.getD j .any) u := by
              intro i hi
              obtain ⟨cs', hcs', y, hy, hyb⟩ := hel i hi
              obtain ⟨_, hcl, hcell⟩ := World.cells?_some hcs'
              obtain ⟨cs, hok, hrep⟩ := ih e cs' y he hy hyb
              have hlen : cs.length = P.cellsOf e := by rw [hrep.length, hcl]
              refine ⟨cs, hok, hlen, fun j hj => ?_⟩
              obtain ⟨u, hu, hr⟩ := hrep.get j (by omega)
              exact ⟨u, by rw [hcell j hj, hu], hr⟩
            obtain ⟨g, hg⟩ := Classical.axiomOfChoice (r := fun (i : Nat) (cs : List C) => i < len → OkC P B fuel e cs ∧ cs.length = P.cellsOf e ∧ ∀ j, j < P.cellsOf e → ∃ u, w.cell? ((a.add (i * P.cellsOf e)).add j) = some u ∧ RepI (fun g => g < w.heap.size) w (cs.getD j .any) u) (fun i => by
              by_cases hi : i < len
              · obtain ⟨cs, h⟩ := hex i hi; exact ⟨cs, fun _ => h⟩
              · exact ⟨[], fun h => absurd h hi⟩)
            refine ⟨len, fun i j => (g i).getD j .any, hm, fun i hi => ?_, _, rfl, some a, cap, rfl, hl, ?_⟩
            · obtain ⟨h1, h2, _⟩ := hg i hi
              have e : (List.range (P.cellsOf e)).map (fun j => (g i).getD j .any) = g i := by
                refine List.ext_getElem (by simp [h2]) fun j hj1 hj2 => ?_
                simp [List.getD_eq_getElem?_getD, List.getElem?_eq_getElem hj2]
              rw [e]; exact h1
            · by_cases h0 : len = 0
              · exact .inl h0
              · right
                obtain ⟨u, hu, _⟩ := (hg 0 (by omega)).2.2 0 hpos
                rw [Nat.zero_mul] at hu
                have ha0 : (a.add 0).add 0 = a := by simp [Addr.add]
                rw [ha0] at hu
                obtain ⟨hlt, hsp⟩ := cell_lt hu
                refine ⟨a.block, a.off, ?_, hlt, fun i j hi hj => ?_⟩
                · obtain ⟨b, o, s⟩ := a; simp only at hsp; subst hsp; rfl
                · obtain ⟨u, hu, hr⟩ := (hg i hi).2.2 j hj
                  refine ⟨u, ?_, hr⟩
                  rw [← hu]
                  congr 1
                  obtain ⟨b, o, s⟩ := a
                  simp only at hsp
                  subst hsp
                  unfold Addr.add
                  split <;> split <;> simp_all <;> omega
        simp only
        cases hue : P.underlying e with
        | none =>
          obtain ⟨m, f, h1, h2, v, rfl, h3⟩ := hrows
          exact ⟨[.rows (P.cellsOf e) m f], ⟨m, f, rfl, h1, h2⟩, h3, trivial⟩
        | some de =>
          cases de with
          | int k =>
            rw [hue] at hk
            have hk : P.cellsOf e = 1 := by simpa using hk
            obtain ⟨m, f, h1, h2, v, rfl, a, cap, rfl, h4, h5⟩ := hrows
            have h2' : ∀ i, i < m → ∃ x, f i 0 = .int k x ∧ k.min ≤ x ∧ x ≤ k.max := by
              intro i hi
              have := h2 i hi
              rw [hk] at this
              cases fuel with
              | zero => exact this.elim
              | succ fuel =>
                simp only [OkC, hue] at this
                obtain ⟨x, hx, hr⟩ := this
                simp only [List.range_succ, List.range_zero, List.nil_append, List.map_cons, List.map_nil, List.cons.injEq, and_true] at hx
                exact ⟨x, hx, hr⟩
            obtain ⟨g, hg⟩ := Classical.axiomOfChoice (r := fun (i : Nat) (x : Int) => i < m → f i 0 = .int k x ∧ k.min ≤ x ∧ x ≤ k.max) (fun i => by
              by_cases hi : i < m
              · obtain ⟨x, h⟩ := h2' i hi; exact ⟨x, fun _ => h⟩
              · exact ⟨0, fun h => absurd h hi⟩)
            have hlen : ((List.range m).map g).length = m := by simp
            refine ⟨[.ints k ((List.range m).map g)], ⟨_, rfl, by rw [hlen]; exact h1, fun x hx => ?_⟩, ⟨a, cap, by rw [hlen], by rw [hlen]; exact h4, ?_⟩, trivial⟩
            · obtain ⟨i, hi, rfl⟩ := List.mem_map.1 hx
              exact (hg i (List.mem_range.1 hi)).2
            · rw [hlen]
              rcases h5 with h5 | ⟨b, o, ha, hb, hcell⟩
              · exact .inl h5
              · refine .inr ⟨b, o, ha, hb, fun i hi => ?_⟩
                obtain ⟨u, hu, hr⟩ := hcell i 0 hi (by omega)
                rw [(hg i hi).1] at hr
                have hr : u = .int k (g i) := hr
                rw [hk, Nat.mul_one, Nat.add_zero] at hu
                rw [hu, hr]
                simp [List.getD_eq_getElem?_getD, hi]
          | _ =>
            obtain ⟨m, f, h1, h2, v, rfl, h3⟩ := hrows
            exact ⟨[.rows (P.cellsOf e) m f], ⟨m, f, rfl, h1, h2⟩, h3, trivial⟩
      | struct fs =>
        simp only [Bool.and_eq_true] at hc
        obtain ⟨hcon, hmem⟩ := hc
        obtain ⟨xs, n, hn, hx, hcl, hxl, hf⟩ := DataW.trod_struct hu h
        obtain rfl : fuel = n := by omega
        have hall : ∀ f ∈ fs.toList, ∃ y, DataW.trod enc P w base spare held fuel f.type ((vs.drop f.offset).take (P.cellsOf f.type)) = some y ∧ Bnd bulk B y.1 := by
          intro f hfm
          obtain ⟨i, hi, rfl⟩ := List.mem_iff_getElem.1 hfm
          have hi' : i < fs.size := by simpa using hi
          have h1 := hf i fs[i] (Array.getElem?_eq_getElem hi')
          rw [List.getElem?_eq_getElem (by omega)] at h1
          refine ⟨xs[i], by simpa using h1, ?_⟩
          rcases hb with hb | ⟨hb, hb2⟩
          · exact .inl hb
          · refine .inr ⟨hb, ?_⟩
            have h2 := hb.agg (xs.map (·.1)) xs[i].1 (List.mem_map.2 ⟨xs[i], List.getElem_mem _, rfl⟩)
            rw [hx] at hb2
            exact Nat.le_trans h2 hb2
        have hmem : ∀ f ∈ fs.toList, f.type ∈ S := fun f hf => by simpa using List.all_eq_true.1 hmem f hf
        simp only
        -- field by field
        have key : ∀ (l : List Field) (off : Nat), (∀ f ∈ l, ∃ y, DataW.trod enc P w base spare held fuel f.type ((vs.drop f.offset).take (P.cellsOf f.type)) = some y ∧ Bnd bulk B y.1) → (∀ f ∈ l, f.type ∈ S) → contigF P off l vs.length = true →
            ∃ cs, OkF (OkC P B fuel) l cs ∧ RepIL (fun g => g < w.heap.size) w cs (vs.drop off) := by
          intro l
          induction l with
          | nil =>
            intro off _ _ hcf
            simp only [contigF, beq_iff_eq] at hcf
            exact ⟨[], rfl, by rw [List.drop_eq_nil_of_le (by omega)]; trivial⟩
          | cons f r ihl =>
            intro off hy hm hcf
            simp only [contigF, Bool.and_eq_true, beq_iff_eq] at hcf
            obtain ⟨ho, hcf⟩ := hcf
            obtain ⟨y, hy1, hy2⟩ := hy f (by simp)
            obtain ⟨c1, h1, h2⟩ := ih f.type _ y (hm f (by simp)) hy1 hy2
            obtain ⟨c2, h3, h4⟩ := ihl (off + P.cellsOf f.type) (fun g hg => hy g (by simp [hg])) (fun g hg => hm g (by simp [hg])) hcf
            refine ⟨c1 ++ c2, ⟨c1, c2, rfl, h1, h3⟩, ?_⟩
            have e : vs.drop off = (vs.drop f.offset).take (P.cellsOf f.type) ++ vs.drop (off + P.cellsOf f.type) := by
              rw [ho, ← List.drop_drop, List.take_append_drop]
            rw [e]
            exact h2.append h4
        have := key fs.toList 0 hall hmem (by rw [hcl]; exact hcon)
        rwa [List.drop_zero] at this
      | array m e =>
        simp only [Bool.and_eq_true, beq_iff_eq] at hc
        obtain ⟨he, hsz⟩ := hc
        have he : e ∈ S := by simpa using he
        obtain ⟨xs, n, hn, hx, hcl, hxl, hf⟩ := DataW.trod_array hu h
        obtain rfl : fuel = n := by omega
        simp only
        have key : ∀ j, j ≤ m → ∃ l : List (List C), l.length = j ∧ (∀ c ∈ l, OkC P B fuel e c) ∧ RepIL (fun g => g < w.heap.size) w l.flatten (vs.take (j * P.cellsOf e)) := by
          intro j
          induction j with
          | zero => intro _; exact ⟨[], rfl, fun c hc => (by cases hc), by rw [Nat.zero_mul]; trivial⟩
          | succ j ihj =>
            intro hj
            obtain ⟨l, h1, h2, h3⟩ := ihj (by omega)
            have h4 := hf j (by omega)
            rw [List.getElem?_eq_getElem (by omega)] at h4
            obtain ⟨c, h5, h6⟩ := ih e _ xs[j] he h4 (by
              rcases hb with hb | ⟨hb, hb2⟩
              · exact .inl hb
              · refine .inr ⟨hb, ?_⟩
                have h2 := hb.agg (xs.map (·.1)) xs[j].1 (List.mem_map.2 ⟨xs[j], List.getElem_mem _, rfl⟩)
                rw [hx] at hb2
                exact Nat.le_trans h2 hb2)
            refine ⟨l ++ [c], by rw [List.length_append, h1]; rfl, fun x hx => ?_, ?_⟩
            · rcases List.mem_append.1 hx with hx | hx
              · exact h2 x hx
              · obtain rfl := List.mem_singleton.1 hx; exact h5
            · rw [List.flatten_append, Nat.add_mul, Nat.one_mul, List.take_add]
              refine h3.append ?_
              simpa using h6
        obtain ⟨l, h1, h2, h3⟩ := key m (Nat.le_refl _)
        rw [← hsz, ← hcl, List.take_length] at h3
        exact ⟨l.flatten, ⟨l, rfl, h1, h2⟩, h3⟩
      | _ => simp at hc

/-- An argument, as the engine's value. -/
theorem open_argB {S : List TypeId} (hS : closedB P S = true) {t : TypeId} (ht : t ∈ S) {v : Value} {d : DataW H} {p : List MemPlace} (hv : v.oneCell' = true) (h : DataW.Trod enc P w base spare held t v d p) (hb : Bnd bulk B d) :
    ∃ n c, OkC P B n t [c] ∧ RepI (fun g => g < w.heap.size) w c v := by
  obtain ⟨fuel, hf⟩ := h
  have hvc : v.cells.toList = [v] := by
    cases v <;> first | rfl | (simp [Value.oneCell'] at hv)
  rw [hvc] at hf
  obtain ⟨cs, h1, h2⟩ := open_data hS fuel t _ _ ht hf hb
  match cs, h2 with
  | [c], h2 => exact ⟨fuel, c, h1, h2.1⟩
theorem open_argSB {S : List TypeId} (hS : closedB P S = true) {t : TypeId} (ht : t ∈ S) {us : Array Value} {d : DataW H} {p : List MemPlace} (h : DataW.Trod enc P w base spare held t (.agg us) d p) (hb : Bnd bulk B d) :
    ∃ n cs, OkC P B n t cs ∧ RepV1 loc0 dom0 (fun g => g < w.heap.size) w (.agg cs) (.agg us) := by
  obtain ⟨fuel, hf⟩ := h
  obtain ⟨cs, h1, h2⟩ := open_data hS fuel t _ _ ht hf hb
  exact ⟨fuel, cs, h1, us, rfl, h2.repL⟩
theorem open_arg {S : List TypeId} (hS : closedB P S = true) {t : TypeId} (ht : t ∈ S) {v : Value} {d : DataW H} {p : List MemPlace} (hv : v.oneCell' = true) (h : DataW.Trod enc P w base spare held t v d p) :
    ∃ n c, OkC P maxLen n t [c] ∧ RepI (fun g => g < w.heap.size) w c v := open_argB (bulk := fun _ => 0) hS ht hv h (.inl (Nat.le_refl _))
end
end Go.Eng

/-! ## EngLw -/
namespace Go.Eng
open Go Go.ChangeShapes Go.WideShapes Go.RowKit

section
variable {H : Type} {enc : TypeId × Value → H} {P : Program}

/-- An argument reads behind the call as it read before. -/
theorem arg_stays (hl : laidOutB P = true) {t : TypeId} (hr : P.readableRec t = true) (hrow : t < P.types.size) {W W' : World} {v : Value} {d : DataW H} {ps : List MemPlace} (h : DataW.Trod enc P W 0 (fun _ => true) true t v d ps)
    (hb : Below W.heap.size W W') (hlt : ∀ x ∈ ps, x.block < W.heap.size) : DataW.Trod enc P W' 0 (fun b => decide (b < W.heap.size)) true t v d ps :=
  Below.trod hl hr hrow h hb hlt

/-- What the statement of a law asks where the call has returned true and turned nothing. -/
theorem law_post {f : Func} {s : ChangeSpec} {W W' : World} {args : Array Value} {ds : List (DataW H)} {before : List MemPlace} {tb : TypeId}
    (hW : DataW.Whole enc P f.params.toList s.vars false W args.toList ds [] before) (hv : s.vars = []) (hrt : f.resultTypes = #[tb]) (htb : P.underlying tb = some .bool)
    (hres : (s.fn H (ds ++ [])).results = [.lit (.bool true)]) (hargs : DataW.TrodAll enc P W' 0 (fun b => decide (b < W.heap.size)) true f.params.toList args.toList (s.fn H (ds ++ [])).args before)
    (hvs : (s.fn H (ds ++ [])).vars = []) (hb : Below W.heap.size W W') : s.post enc P f false true false false W args (.bool true) W' := by
  refine ⟨ds, [], before, [], before, [], hW, ?_, hargs, ?_, World.keptBut_mono (fun p hp => ⟨hp, .inr (.inl hp)⟩) (hb.frame (· ∈ before)), fun h => by cases h⟩
  · rw [hres, hrt]
    exact trodAll_mk1 (shut_bool htb true)
  · rw [hv, hvs]; rfl

/-- The value of a slice's argument. -/
theorem slice_one {w : World} {r : Reach} {base : Nat} {t e : TypeId} {v : Value} (ht : P.underlying t = some (.slice e)) (h : Value.okWide P w r base t v) : v.oneCell' = true := by
  obtain ⟨a, len, cap, rfl⟩ := okWide_slice ht h
  rfl
end
end Go.Eng

/-! ## FnYx -/
namespace Go.Proofs.YthfekehoehdkoaaGreat
open Go Go.Eng Go.Gra Go.Tre

/-! ### A graph and a tree, as they come in. -/
set_option maxRecDepth 100000 in
theorem closedT : closedB Tryz.prog [27, 25, 24, 22, 37, 3] = true := by kernel_rfl

theorem okT_int {n : Nat} {cs : List C} (h : OkC Tryz.prog maxLen n 3 cs) : ∃ x : Int, cs = [.int .i64 x] := by
  cases n with
  | zero => exact h.elim
  | succ n =>
    simp only [OkC, Tryz.underlying3] at h
    obtain ⟨x, rfl, _⟩ := h
    exact ⟨x, rfl⟩
theorem okT_pair {n : Nat} {cs : List C} (h : OkC Tryz.prog maxLen n 37 cs) : ∃ e : E, cs = [.int .i64 e.1, .int .i64 e.2] := by
  cases n with
  | zero => exact h.elim
  | succ n =>
    simp only [OkC, Tryz.underlying37] at h
    obtain ⟨l, rfl, hl, h⟩ := h
    match l, hl with
    | [x, y], _ =>
      obtain ⟨a, ha⟩ := okT_int (h x (by simp))
      obtain ⟨b, hb⟩ := okT_int (h y (by simp))
      exact ⟨(a, b), by rw [ha, hb]; rfl⟩
set_option maxRecDepth 100000 in
theorem okT_edges {n : Nat} {cs : List C} (h : OkC Tryz.prog maxLen n 22 cs) : ∃ (c : C) (m : Nat) (f : Nat → E), cs = [c] ∧ CLe c (edC m f) := by
  cases n with
  | zero => exact h.elim
  | succ n =>
    simp only [OkC, Tryz.underlying22, Tryz.underlying37] at h
    obtain ⟨m, g, hc, hm0, hm⟩ := h
    have h5 : Tryz.prog.cellsOf 37 = 2 := by kernel_rfl
    rw [h5] at hc hm
    subst hc
    obtain ⟨f, hf⟩ := Classical.axiomOfChoice (r := fun (i : Nat) (e : E) => i < m → (List.range 2).map (g i) = [.int .i64 e.1, .int .i64 e.2]) (fun i => by
      by_cases hi : i < m
      · obtain ⟨e, h1⟩ := okT_pair (hm i hi); exact ⟨e, fun _ => h1⟩
      · exact ⟨(0, 0), fun h => absurd h hi⟩)
    refine ⟨_, m, f, rfl, CLe.rows rfl fun i j hi hj => CLe.of_eq ?_⟩
    have h1 := congrArg (fun l : List C => l[j]?) (hf i hi)
    have : j = 0 ∨ j = 1 := by omega
    rcases this with rfl | rfl <;> simpa [List.range, List.range.loop] using h1
set_option maxRecDepth 100000 in
theorem okT_graph {n : Nat} {cells : List C} (h : OkC Tryz.prog maxLen n 24 cells) : ∃ (k : Int) (m : Nat) (f : Nat → E), LeA cells (gA k m f) := by
  cases n with
  | zero => exact h.elim
  | succ n =>
    simp only [OkC, Tryz.underlying24] at h
    obtain ⟨d1, s1, rfl, g1, d2, s2, rfl, g2, g3⟩ := h
    have g3 : s2 = [] := g3
    subst g3
    obtain ⟨k, rfl⟩ := okT_int g1
    obtain ⟨e, m, f, rfl, he⟩ := okT_edges g2
    exact ⟨k, m, f, .refl _, he, trivial⟩
set_option maxRecDepth 100000 in
theorem okT_tree : ∀ (n : Nat) {cells : List C}, OkC Tryz.prog maxLen n 27 cells → ∃ t : Tree, Whole t ∧ LeA cells (tA t) := by
  intro n
  induction n using Nat.strongRecOn with
  | ind n ih =>
  intro cells h
  cases n with
  | zero => exact h.elim
  | succ n =>
    simp only [OkC, Tryz.underlying27] at h
    obtain ⟨c1, r1, rfl, h1, c2, r2, rfl, h2, c3, r3, rfl, h3, c4, r4, rfl, h4, h5⟩ := h
    have h5 : r4 = [] := h5
    subst h5
    obtain ⟨a, rfl⟩ := okT_int h1
    obtain ⟨b, rfl⟩ := okT_int h2
    obtain ⟨c, rfl⟩ := okT_int h3
    cases n with
    | zero => exact h4.elim
    | succ n =>
      simp only [OkC, Tryz.underlying25, Tryz.underlying27] at h4
      obtain ⟨m, g, hc, hm0, hm⟩ := h4
      have h5 : Tryz.prog.cellsOf 27 = 4 := by kernel_rfl
      rw [h5] at hc hm
      subst hc
      obtain ⟨f, hf⟩ := Classical.axiomOfChoice (r := fun (i : Nat) (t : Tree) => i < m → Whole t ∧ LeA ((List.range 4).map (g i)) (tA t)) (fun i => by
        by_cases hi : i < m
        · obtain ⟨t, h1⟩ := ih n (by omega) (hm i hi); exact ⟨t, fun _ => h1⟩
        · exact ⟨.lf, fun h => absurd h hi⟩)
      refine ⟨.nd a b c m f, fun i hi => (hf i hi).1, .refl _, .refl _, .refl _, CLe.rows rfl fun i j hi hj => ?_, trivial⟩
      obtain ⟨hw, e0, e1, e2, e3, _⟩ := hf i hi
      have : j = 0 ∨ j = 1 ∨ j = 2 ∨ j = 3 := by omega
      rcases this with rfl | rfl | rfl | rfl
      · show CLe _ (tc (f i) 0)
        rw [tc0]; exact e0
      · show CLe _ (tc (f i) 1)
        rw [tc1]; exact e1
      · show CLe _ (tc (f i) 2)
        rw [tc2]; exact e2
      · show CLe _ (tc (f i) 3)
        rw [tc3 hw]; exact e3

/-- TriangleValid. -/
theorem lawT {n k : Nat} {cg ct : List C} (hg : OkC Tryz.prog maxLen n 24 cg) (ht : OkC Tryz.prog maxLen k 27 ct) : PureCalls Tryz.prog 3 [.agg cg, .agg ct] (.one (.bool true)) := by
  obtain ⟨n, m, f, hg⟩ := okT_graph hg
  obtain ⟨t, gd, ht⟩ := okT_tree _ ht
  exact PureCalls.args (ys := [.agg (gA n m f), .agg (tA t)]) (lawTV srtC gd) ⟨VLeN_aggA hg, VLeN_aggA ht, trivial⟩
end Go.Proofs.YthfekehoehdkoaaGreat

/-! ## RwTV -/
namespace Go.Proofs.YthfekehoehdkoaaGreat
open Go Go.Proofs Go.Eng Go.ChangeShapes Go.WideShapes Go.ChangeAt Go.RowKit

theorem Tryz.own : ownKnob Tryz.prog.godebug = none := by kernel_rfl
theorem Tryz.laidOut : laidOutB Tryz.prog = true := by kernel_rfl

set_option maxRecDepth 100000 in
theorem triangleValid_lifted (os : Os) (started : os.Started) (H : Type) (enc : TypeId × Value → H) :
    ReturnsInHanded {} Tryz.checked os 3 .any (Rows.triangleValidSpec.pre6 enc Tryz.prog Tryz.f3 Rows.triangleValidRow.domain false) (Rows.triangleValidSpec.post enc Tryz.prog Tryz.f3 false true false false) := by
  refine returnsInHanded_of_change (C := Tryz.checked) Tryz.own started (by kernel_rfl) Tryz.func3
    (ChangeSpec.witness6 (enc := enc) (C := Tryz.checked) false ⟨#[], #[.agg #[.int .i64 0, .slice none 0 0], .agg #[.int .i64 0, .int .i64 0, .int .i64 0, .slice none 0 0]], []⟩ 8 (by kernel_rfl) (by kernel_rfl) (by kernel_rfl) (by kernel_rfl)) ?_
  intro W base args ds gs before hval0 hW hcnd _
  have hval : ∀ (j : Nat) t v, Tryz.f3.params[j]? = some t → args[j]? = some v → Value.okWide Tryz.prog W .any base t v := hval0
  have hW' := hW
  obtain ⟨p, q, hA0, hV, rfl, hfz, hnd⟩ := hW
  have hA : DataW.TrodAll enc Tryz.prog W 0 (fun _ => true) true Tryz.f3.params.toList args.toList ds p := hA0
  rw [Tryz.params3] at hA hval
  obtain ⟨v0, v1, d0, d1, p0, p1, rfl, rfl, rfl, h0, h1⟩ := trodAll_two hA
  obtain ⟨rfl, rfl⟩ := trodVars_none hV
  clear hA0 hval0
  simp only [List.append_nil] at hW'
  have hlt := fun x hx => hW'.lt x hx
  obtain ⟨us, rfl, hsz⟩ := okWide_struct Tryz.underlying24 (hval 0 24 v0 rfl rfl)
  obtain ⟨ut, rfl, hst⟩ := okWide_struct Tryz.underlying27 (hval 1 27 v1 rfl rfl)
  have s0 := fun W' hb => arg_stays (W' := W') Tryz.laidOut (by kernel_rfl) (of_decide_eq_true (by kernel_rfl)) h0 hb (fun x hx => hlt x (List.mem_append_left _ hx))
  have s1 := fun W' hb => arg_stays (W' := W') Tryz.laidOut (by kernel_rfl) (of_decide_eq_true (by kernel_rfl)) h1 hb (fun x hx => hlt x (List.mem_append_right _ hx))
  obtain ⟨n0, cs0, hc0, hr0⟩ := open_argSB (bulk := fun _ => 0) (B := maxLen) closedT (by decide) h0 (.inl (Nat.le_refl _))
  obtain ⟨n1, cs1, hc1, hr1⟩ := open_argSB (bulk := fun _ => 0) (B := maxLen) closedT (by decide) h1 (.inl (Nat.le_refl _))
  have hcon := lawT hc0 hc1
  have hargs : RepVL loc0 dom0 (fun g => g < W.heap.size) W [.agg cs0, .agg cs1] [.agg us, .agg ut] := ⟨hr0, hr1, trivial⟩
  refine ((hcon.2 (fun g => g < W.heap.size) W #[.agg us, .agg ut] (fun _ h => h) hargs).mono ?_)
  rintro e W' ⟨v, rfl, hB, hv⟩
  have hv : v = .bool true := hv
  subst hv
  exact ⟨_, rfl, law_post hW' rfl rfl Tryz.underlying4 rfl (trodAll_mk2 (s0 W' hB) (s1 W' hB)) rfl hB⟩

theorem triangleValid_holds : Rows.TriangleValidSaid :=
  OpenClaim.holds_of_wide 3 Tryz.f3 rfl rfl rfl rfl rfl rfl rfl ⟨rfl, rfl, rfl, rfl, rfl⟩ rfl rfl rfl rfl rfl (by kernel_rfl) Tryz.func3 (by kernel_rfl)
    (of_decide_eq_true (by kernel_rfl)) (by unfold Func.isWrapper; first | (rw [if_pos (by decide +kernel)]; kernel_rfl) | (rw [if_neg (by decide +kernel)]; exact ⟨rfl, rfl⟩))
    (fun os started H enc _ => triangleValid_lifted os started H enc)

end Go.Proofs.YthfekehoehdkoaaGreat
