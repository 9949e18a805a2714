/-
  CurveMiddle: for every input the law returns true, and each argument reads afterwards as it read before. No condition.
  (Text 11 of 11; made by a program out of smaller texts.)
-/
import Derived.ProofKit
import Derived.Test.YtaihcpdpmijifaaGreatRows
import Derived.Test.YtaihcpdpmijifaaGreatP10
set_option linter.unusedSimpArgs false
set_option linter.unusedVariables false
set_option maxHeartbeats 16000000
set_option maxRecDepth 10000
open Nat renaming reduceAdd→J1,reduceMul→J2,reduceSub→J3,reduceEqDiff→J4,reduceLT→J5,reduceLeDiff→J6,reduceBEq→J7,reduceDiv→J8,reduceMod→J9,reducePow→J0
open Int renaming reduceToNat→K1,reduceLE→K2,reduceLT→K3,reduceEq→K4,reducePow→K5,reduceSub→K6,reduceNeg→K7,natCast_add→X2,natCast_one→X3,natCast_zero→X4
open List renaming getD_cons_zero→X0,getD_cons_succ→X1,length_take→X5,length_append→X6,getD_eq_getElem?_getD→X7,getElem?_eq_getElem→X8
open Nat renaming zero_le→O2
namespace Go.Proofs.YtaihcpdpmijifaaGreat
open Go Go.Eng Go.Eng.Run
section
noncomputable def esB:List Ent:=[⟨147,[(.v (.one (yk .u64 1)))],(.v (.one (yo 1 [(yu 1)])))⟩,
 ⟨225,[(.v (.one (yo 1 [(yu 1)])))],(.v (.one (yo 1 [(yu 1)])))⟩,
 ⟨70,[(.v (.one (yi 1)))],(.v (.agg [yf,(yo 1 [(yu 1)]),yf,(yo 1 [(yu 1)])]))⟩,
 ⟨147,[(.v (.one (yk .u64 0)))],(.v (.one (yo 1 [])))⟩,
 ⟨225,[(.v (.one (yo 1 [])))],(.v (.one (yo 1 [])))⟩,
 ⟨70,[(.v (.one (yi 0)))],(.v (.agg [yf,(yo 1 []),yf,(yo 1 [(yu 1)])]))⟩,
 ⟨18,[(.v (.agg [yf,(yo 1 [(yu 1)]),yf,(yo 1 [(yu 1)])])),(.v (.agg [yf,(yo 1 []),yf,(yo 1 [(yu 1)])]))],(.v (.agg [yz,(yo 4 [yf,(yo 1 [(yu 1)]),yf,(yo 1 [(yu 1)])]),yz,(yo 4 [yf,(yo 1 []),yf,(yo 1 [(yu 1)])])]))⟩,
 ⟨12,[(.v (.one (yi 1))),(.v (.one (yi 0)))],(.v (.agg [yz,(yo 4 [yf,(yo 1 [(yu 1)]),yf,(yo 1 [(yu 1)])]),yz,(yo 4 [yf,(yo 1 []),yf,(yo 1 [(yu 1)])])]))⟩,
 ⟨18,[(.v (.agg [yf,(yo 1 []),yf,(yo 1 [(yu 1)])])),(.v (.agg [yf,(yo 1 [(yu 1)]),yf,(yo 1 [(yu 1)])]))],(.v (.agg [yz,(yo 4 [yf,(yo 1 []),yf,(yo 1 [(yu 1)])]),yz,(yo 4 [yf,(yo 1 [(yu 1)]),yf,(yo 1 [(yu 1)])])]))⟩,
 ⟨12,[(.v (.one (yi 0))),(.v (.one (yi 1)))],(.v (.agg [yz,(yo 4 [yf,(yo 1 []),yf,(yo 1 [(yu 1)])]),yz,(yo 4 [yf,(yo 1 [(yu 1)]),yf,(yo 1 [(yu 1)])])]))⟩,
 ⟨18,[(.v (.agg [yf,(yo 1 []),yf,(yo 1 [(yu 1)])])),(.v (.agg [yf,(yo 1 []),yf,(yo 1 [(yu 1)])]))],(.v (.agg [yz,(yo 4 [yf,(yo 1 []),yf,(yo 1 [(yu 1)])]),yz,(yo 4 [yf,(yo 1 []),yf,(yo 1 [(yu 1)])])]))⟩,
 ⟨12,[(.v (.one (yi 0))),(.v (.one (yi 0)))],(.v (.agg [yz,(yo 4 [yf,(yo 1 []),yf,(yo 1 [(yu 1)])]),yz,(yo 4 [yf,(yo 1 []),yf,(yo 1 [(yu 1)])])]))⟩,
 ⟨11,[],(.v (.agg [yt,yz,(yo 4 [yf,(yo 1 [(yu 1)]),yf,(yo 1 [(yu 1)])]),yz,(yo 4 [yf,(yo 1 []),yf,(yo 1 [(yu 1)])]),yz,(yo 4 [yf,(yo 1 []),yf,(yo 1 [(yu 1)])]),yz,(yo 4 [yf,(yo 1 [(yu 1)]),yf,(yo 1 [(yu 1)])]),yz,(yo 4 [yf,(yo 1 []),yf,(yo 1 [(yu 1)])]),yz,(yo 4 [yf,(yo 1 []),yf,(yo 1 [(yu 1)])]),yf]))⟩,
 ⟨147,[(.v (.one (yk .u64 2)))],(.v (.one (yo 1 [(yu 2)])))⟩,
 ⟨225,[(.v (.one (yo 1 [(yu 2)])))],(.v (.one (yo 1 [(yu 2)])))⟩,
 ⟨70,[(.v (.one (yi 2)))],(.v (.agg [yf,(yo 1 [(yu 2)]),yf,(yo 1 [(yu 1)])]))⟩,
 ⟨18,[(.v (.agg [yf,(yo 1 [(yu 2)]),yf,(yo 1 [(yu 1)])])),(.v (.agg [yf,(yo 1 [(yu 2)]),yf,(yo 1 [(yu 1)])]))],(.v (.agg [yz,(yo 4 [yf,(yo 1 [(yu 2)]),yf,(yo 1 [(yu 1)])]),yz,(yo 4 [yf,(yo 1 [(yu 2)]),yf,(yo 1 [(yu 1)])])]))⟩,
 ⟨12,[(.v (.one (yi 2))),(.v (.one (yi 2)))],(.v (.agg [yz,(yo 4 [yf,(yo 1 [(yu 2)]),yf,(yo 1 [(yu 1)])]),yz,(yo 4 [yf,(yo 1 [(yu 2)]),yf,(yo 1 [(yu 1)])])]))⟩,
 ⟨171,[(.v (.one yz)),(.v (.one yz))],(.v (.one yt))⟩,
 ⟨158,[(.v (.one (yo 1 [])))],(.v (.one (yo 1 [])))⟩,
 ⟨158,[(.v (.one (yo 1 [(yu 1)])))],(.v (.one (yo 1 [(yu 1)])))⟩,
 ⟨89,[(.v (.agg [yf,(yo 1 []),yf,(yo 1 [(yu 1)])]))],(.v (.agg [yf,(yo 1 []),yf,(yo 1 [(yu 1)])]))⟩,
 ⟨168,[(.v (.agg [yz,(yo 4 [yf,(yo 1 []),yf,(yo 1 [(yu 1)])])]))],(.v (.agg [yz,(yo 4 [yf,(yo 1 []),yf,(yo 1 [(yu 1)])])]))⟩,
 ⟨177,[(.v (.one yz)),(.v (.one (yo 4 [yf,(yo 1 [(yu 1)]),yf,(yo 1 [(yu 1)])])))],(.v (.one (yo 4 [yf,(yo 1 [(yu 1)]),yf,(yo 1 [(yu 1)])])))⟩,
 ⟨89,[(.v (.agg [yf,(yo 1 [(yu 1)]),yf,(yo 1 [(yu 1)])]))],(.v (.agg [yf,(yo 1 [(yu 1)]),yf,(yo 1 [(yu 1)])]))⟩,
 ⟨168,[(.v (.agg [yz,(yo 4 [yf,(yo 1 [(yu 1)]),yf,(yo 1 [(yu 1)])])]))],(.v (.agg [yz,(yo 4 [yf,(yo 1 [(yu 1)]),yf,(yo 1 [(yu 1)])])]))⟩,
 ⟨177,[(.v (.one yz)),(.v (.one (yo 4 [yf,(yo 1 []),yf,(yo 1 [(yu 1)])])))],(.v (.one (yo 4 [yf,(yo 1 []),yf,(yo 1 [(yu 1)])])))⟩,
 ⟨326,[(.v (.one yz))],(.v (.one yt))⟩,
 ⟨156,[(.v (.one (yk .u64 1)))],(.v (.one (yo 1 [(yu 1)])))⟩,
 ⟨155,[(.v (.one yf)),(.v (.one (yo 1 [(yu 1)])))],(.v (.agg [yf,(yo 1 [(yu 1)])]))⟩,
 ⟨81,[(.v (.agg [yf,(yo 1 [(yu 1)])]))],(.v (.one yt))⟩,
 ⟨364,[(.v (.agg [yf,(yo 1 [(yu 1)]),yf,(yo 1 [(yu 1)])]))],(.v (.one yt))⟩,
 ⟨312,[(.v (.one (yo 4 [yf,(yo 1 [(yu 1)]),yf,(yo 1 [(yu 1)])]))),(.v (.one (yi 1)))],(.v (.one yt))⟩,
 ⟨364,[(.v (.agg [yf,(yo 1 []),yf,(yo 1 [(yu 1)])]))],(.v (.one yt))⟩,
 ⟨312,[(.v (.one (yo 4 [yf,(yo 1 []),yf,(yo 1 [(yu 1)])]))),(.v (.one (yi 1)))],(.v (.one yt))⟩,
 ⟨155,[(.v (.one yt)),(.v (.one (yo 1 [])))],(.v (.agg [yf,yz]))⟩,
 ⟨87,[(.v (.agg [yf,(yo 1 []),yf,(yo 1 [(yu 1)])]))],(.v (.agg [yf,yz,yf,(yo 1 [(yu 1)])]))⟩,
 ⟨158,[(.v (.one yz))],(.v (.one yz))⟩,
 ⟨163,[(.v (.one (yo 1 [(yu 1)]))),(.v (.one yz))],(.v (.one (yo 1 [(yu 1)])))⟩,
 ⟨80,[],(.v (.agg [yf,(yo 1 [(yu 1)])]))⟩,
 ⟨78,[(.v (.agg [yz,(yo 4 [yf,(yo 1 [(yu 1)]),yf,(yo 1 [(yu 1)])])])),(.v (.agg [yz,(yo 4 [yf,(yo 1 []),yf,(yo 1 [(yu 1)])])]))],(.tup [(.agg [yz,(yo 4 [yf,(yo 1 [(yu 1)]),yf,(yo 1 [(yu 1)])])]),(.one (yi 0))])⟩,
 ⟨163,[(.v (.one (yo 1 []))),(.v (.one yz))],(.v (.one (yo 1 [])))⟩,
 ⟨155,[(.v (.one yf)),(.v (.one (yo 1 [])))],(.v (.agg [yf,yz]))⟩,
 ⟨78,[(.v (.agg [yz,(yo 4 [yf,(yo 1 []),yf,(yo 1 [(yu 1)])])])),(.v (.agg [yz,(yo 4 [yf,(yo 1 []),yf,(yo 1 [(yu 1)])])]))],(.tup [(.agg [yz,(yo 4 [yf,yz,yf,(yo 1 [(yu 1)])])]),(.one (yi 0))])⟩,
 ⟨157,[(.v (.one (yo 1 [(yu 1)]))),(.v (.one (yo 1 [(yu 1)])))],(.v (.one (yo 1 [(yu 1)])))⟩,
 ⟨88,[(.v (.agg [yz,(yo 4 [yf,(yo 1 [(yu 1)]),yf,(yo 1 [(yu 1)])])])),(.v (.agg [yz,(yo 4 [yf,(yo 1 [(yu 1)]),yf,(yo 1 [(yu 1)])])]))],(.tup [(.agg [yz,(yo 4 [yf,(yo 1 [(yu 1)]),yf,(yo 1 [(yu 1)])])]),(.one (yi 0))])⟩,
 ⟨177,[(.v (.one yz)),(.v (.one (yo 4 [yf,yz,yf,(yo 1 [(yu 1)])])))],(.v (.one (yo 4 [yf,yz,yf,(yo 1 [(yu 1)])])))⟩,
 ⟨89,[(.v (.agg [yf,yz,yf,(yo 1 [(yu 1)])]))],(.v (.agg [yf,yz,yf,(yo 1 [(yu 1)])]))⟩,
 ⟨168,[(.v (.agg [yz,(yo 4 [yf,yz,yf,(yo 1 [(yu 1)])])]))],(.v (.agg [yz,(yo 4 [yf,yz,yf,(yo 1 [(yu 1)])])]))⟩,
 ⟨364,[(.v (.agg [yf,yz,yf,(yo 1 [(yu 1)])]))],(.v (.one yt))⟩,
 ⟨312,[(.v (.one (yo 4 [yf,yz,yf,(yo 1 [(yu 1)])]))),(.v (.one (yi 1)))],(.v (.one yt))⟩,
 ⟨157,[(.v (.one yz)),(.v (.one yz))],(.v (.one yz))⟩,
 ⟨155,[(.v (.one yf)),(.v (.one yz))],(.v (.agg [yf,yz]))⟩,
 ⟨88,[(.v (.agg [yz,(yo 4 [yf,yz,yf,(yo 1 [(yu 1)])])])),(.v (.agg [yz,(yo 4 [yf,yz,yf,(yo 1 [(yu 1)])])]))],(.tup [(.agg [yz,(yo 4 [yf,yz,yf,(yo 1 [(yu 1)])])]),(.one (yi 0))])⟩,
 ⟨92,[(.v (.agg [yz,(yo 4 [yf,(yo 1 [(yu 1)]),yf,(yo 1 [(yu 1)])])])),(.v (.agg [yz,(yo 4 [yf,yz,yf,(yo 1 [(yu 1)])])]))],(.tup [(.agg [yz,(yo 4 [yf,(yo 1 [(yu 1)]),yf,(yo 1 [(yu 1)])])]),(.one (yi 0))])⟩,
 ⟨118,[(.v (.agg [yz,(yo 4 [yf,(yo 1 []),yf,(yo 1 [(yu 1)])]),yz,(yo 4 [yf,(yo 1 []),yf,(yo 1 [(yu 1)])])])),(.v (.agg [yz,(yo 4 [yf,(yo 1 [(yu 1)]),yf,(yo 1 [(yu 1)])]),yz,(yo 4 [yf,(yo 1 []),yf,(yo 1 [(yu 1)])])]))],(.tup [(.agg [yz,(yo 4 [yf,(yo 1 []),yf,(yo 1 [(yu 1)])]),yz,(yo 4 [yf,(yo 1 []),yf,(yo 1 [(yu 1)])]),yz,(yo 4 [yf,(yo 1 [(yu 1)]),yf,(yo 1 [(yu 1)])])]),(.one (yi 0))])⟩,
 ⟨158,[(.v (.one (yo 1 [(yu 2)])))],(.v (.one (yo 1 [(yu 2)])))⟩,
 ⟨177,[(.v (.one yz)),(.v (.one (yo 4 [yf,(yo 1 [(yu 2)]),yf,(yo 1 [(yu 1)])])))],(.v (.one (yo 4 [yf,(yo 1 [(yu 2)]),yf,(yo 1 [(yu 1)])])))⟩,
 ⟨89,[(.v (.agg [yf,(yo 1 [(yu 2)]),yf,(yo 1 [(yu 1)])]))],(.v (.agg [yf,(yo 1 [(yu 2)]),yf,(yo 1 [(yu 1)])]))⟩,
 ⟨168,[(.v (.agg [yz,(yo 4 [yf,(yo 1 [(yu 2)]),yf,(yo 1 [(yu 1)])])]))],(.v (.agg [yz,(yo 4 [yf,(yo 1 [(yu 2)]),yf,(yo 1 [(yu 1)])])]))⟩,
 ⟨364,[(.v (.agg [yf,(yo 1 [(yu 2)]),yf,(yo 1 [(yu 1)])]))],(.v (.one yt))⟩,
 ⟨312,[(.v (.one (yo 4 [yf,(yo 1 [(yu 2)]),yf,(yo 1 [(yu 1)])]))),(.v (.one (yi 1)))],(.v (.one yt))⟩,
 ⟨163,[(.v (.one (yo 1 [(yu 2)]))),(.v (.one yz))],(.v (.one (yo 1 [(yu 2)])))⟩,
 ⟨155,[(.v (.one yf)),(.v (.one (yo 1 [(yu 2)])))],(.v (.agg [yf,(yo 1 [(yu 2)])]))⟩,
 ⟨78,[(.v (.agg [yz,(yo 4 [yf,(yo 1 [(yu 2)]),yf,(yo 1 [(yu 1)])])])),(.v (.agg [yz,(yo 4 [yf,(yo 1 []),yf,(yo 1 [(yu 1)])])]))],(.tup [(.agg [yz,(yo 4 [yf,(yo 1 [(yu 2)]),yf,(yo 1 [(yu 1)])])]),(.one (yi 0))])⟩,
 ⟨87,[(.v (.agg [yf,(yo 1 [(yu 2)]),yf,(yo 1 [(yu 1)])]))],(.v (.agg [yt,(yo 1 [(yu 2)]),yf,(yo 1 [(yu 1)])]))⟩,
 ⟨90,[(.v (.agg [yz,(yo 4 [yf,(yo 1 [(yu 2)]),yf,(yo 1 [(yu 1)])])]))],(.v (.agg [yz,(yo 4 [yt,(yo 1 [(yu 2)]),yf,(yo 1 [(yu 1)])])]))⟩,
 ⟨157,[(.v (.one (yo 1 []))),(.v (.one (yo 1 [(yu 2)])))],(.v (.one yz))⟩,
 ⟨88,[(.v (.agg [yz,(yo 4 [yf,(yo 1 []),yf,(yo 1 [(yu 1)])])])),(.v (.agg [yz,(yo 4 [yf,(yo 1 [(yu 2)]),yf,(yo 1 [(yu 1)])])]))],(.tup [(.agg [yz,(yo 4 [yf,yz,yf,(yo 1 [(yu 1)])])]),(.one (yi 0))])⟩,
 ⟨177,[(.v (.one yz)),(.v (.one (yo 4 [yt,(yo 1 [(yu 2)]),yf,(yo 1 [(yu 1)])])))],(.v (.one (yo 4 [yt,(yo 1 [(yu 2)]),yf,(yo 1 [(yu 1)])])))⟩,
 ⟨89,[(.v (.agg [yt,(yo 1 [(yu 2)]),yf,(yo 1 [(yu 1)])]))],(.v (.agg [yt,(yo 1 [(yu 2)]),yf,(yo 1 [(yu 1)])]))⟩,
 ⟨168,[(.v (.agg [yz,(yo 4 [yt,(yo 1 [(yu 2)]),yf,(yo 1 [(yu 1)])])]))],(.v (.agg [yz,(yo 4 [yt,(yo 1 [(yu 2)]),yf,(yo 1 [(yu 1)])])]))⟩,
 ⟨364,[(.v (.agg [yt,(yo 1 [(yu 2)]),yf,(yo 1 [(yu 1)])]))],(.v (.one yt))⟩,
 ⟨312,[(.v (.one (yo 4 [yt,(yo 1 [(yu 2)]),yf,(yo 1 [(yu 1)])]))),(.v (.one (yi 1)))],(.v (.one yt))⟩,
 ⟨155,[(.v (.one yt)),(.v (.one yz))],(.v (.agg [yf,yz]))⟩,
 ⟨88,[(.v (.agg [yz,(yo 4 [yf,(yo 1 []),yf,(yo 1 [(yu 1)])])])),(.v (.agg [yz,(yo 4 [yt,(yo 1 [(yu 2)]),yf,(yo 1 [(yu 1)])])]))],(.tup [(.agg [yz,(yo 4 [yf,yz,yf,(yo 1 [(yu 1)])])]),(.one (yi 0))])⟩,
 ⟨163,[(.v (.one yz)),(.v (.one yz))],(.v (.one (yo 1 [])))⟩,
 ⟨92,[(.v (.agg [yz,(yo 4 [yf,yz,yf,(yo 1 [(yu 1)])])])),(.v (.agg [yz,(yo 4 [yf,yz,yf,(yo 1 [(yu 1)])])]))],(.tup [(.agg [yz,(yo 4 [yf,yz,yf,(yo 1 [(yu 1)])])]),(.one (yi 0))])⟩,
 ⟨156,[(.v (.one (yk .u64 0)))],(.v (.one (yo 1 [])))⟩,
 ⟨27,[(.v (.one (yi 0)))],(.v (.agg [yf,yz,yf,(yo 1 [(yu 1)])]))⟩,
 ⟨331,[(.v (.one yz))],(.v (.one yt))⟩,
 ⟨139,[(.v (.agg [yz,(yo 4 [yf,(yo 1 [(yu 2)]),yf,(yo 1 [(yu 1)])])]))],(.v (.one (yi 1)))⟩,
 ⟨27,[(.v (.one (yi 1)))],(.v (.agg [yf,(yo 1 [(yu 1)]),yf,(yo 1 [(yu 1)])]))⟩,
 ⟨157,[(.v (.one (yo 1 [(yu 1)]))),(.v (.one (yo 1 [(yu 2)])))],(.v (.one (yo 1 [(yu 2)])))⟩,
 ⟨83,[(.v (.agg [yf,(yo 1 [(yu 1)])])),(.v (.agg [yf,(yo 1 [(yu 2)])]))],(.v (.agg [yf,(yo 1 [(yu 1)]),yf,(yo 1 [(yu 2)])]))⟩,
 ⟨335,[(.v (.one yz)),(.v (.one (yo 4 [yf,(yo 1 [(yu 2)]),yf,(yo 1 [(yu 1)])])))],(.tup [(.one (yo 4 [yf,(yo 1 [(yu 1)]),yf,(yo 1 [(yu 2)])])),(.one (yi 0))])⟩,
 ⟨177,[(.v (.one yz)),(.v (.one (yo 4 [yf,(yo 1 [(yu 1)]),yf,(yo 1 [(yu 2)])])))],(.v (.one (yo 4 [yf,(yo 1 [(yu 1)]),yf,(yo 1 [(yu 2)])])))⟩,
 ⟨89,[(.v (.agg [yf,(yo 1 [(yu 1)]),yf,(yo 1 [(yu 2)])]))],(.v (.agg [yf,(yo 1 [(yu 1)]),yf,(yo 1 [(yu 2)])]))⟩,
 ⟨168,[(.v (.agg [yz,(yo 4 [yf,(yo 1 [(yu 1)]),yf,(yo 1 [(yu 2)])])]))],(.v (.agg [yz,(yo 4 [yf,(yo 1 [(yu 1)]),yf,(yo 1 [(yu 2)])])]))⟩,
 ⟨364,[(.v (.agg [yf,(yo 1 [(yu 1)]),yf,(yo 1 [(yu 2)])]))],(.v (.one yt))⟩,
 ⟨312,[(.v (.one (yo 4 [yf,(yo 1 [(yu 1)]),yf,(yo 1 [(yu 2)])]))),(.v (.one (yi 1)))],(.v (.one yt))⟩,
 ⟨81,[(.v (.agg [yf,(yo 1 [(yu 2)])]))],(.v (.one yf))⟩,
 ⟨157,[(.v (.one (yo 1 [(yu 2)]))),(.v (.one (yo 1 [(yu 1)])))],(.v (.one (yo 1 [(yu 2)])))⟩,
 ⟨156,[(.v (.one (yk .u64 2)))],(.v (.one (yo 1 [(yu 2)])))⟩,
 ⟨239,[(.v (.agg [yf,(yo 1 [(yu 2)])])),(.v (.agg [yf,(yo 1 [(yu 2)])]))],(.tup [(.agg [yf,(yo 1 [(yu 1)])]),(.agg [yf,yz]),(.one (yi 0))])⟩,
 ⟨83,[(.v (.agg [yf,(yo 1 [(yu 2)])])),(.v (.agg [yf,(yo 1 [(yu 2)])]))],(.v (.agg [yf,(yo 1 [(yu 1)]),yf,(yo 1 [(yu 1)])]))⟩,
 ⟨88,[(.v (.agg [yz,(yo 4 [yf,(yo 1 [(yu 2)]),yf,(yo 1 [(yu 1)])])])),(.v (.agg [yz,(yo 4 [yf,(yo 1 [(yu 1)]),yf,(yo 1 [(yu 2)])])]))],(.tup [(.agg [yz,(yo 4 [yf,(yo 1 [(yu 1)]),yf,(yo 1 [(yu 1)])])]),(.one (yi 0))])⟩,
 ⟨155,[(.v (.one yt)),(.v (.one (yo 1 [(yu 2)])))],(.v (.agg [yt,(yo 1 [(yu 2)])]))⟩,
 ⟨155,[(.v (.one yt)),(.v (.one (yo 1 [(yu 1)])))],(.v (.agg [yt,(yo 1 [(yu 1)])]))⟩,
 ⟨239,[(.v (.agg [yt,(yo 1 [(yu 2)])])),(.v (.agg [yf,(yo 1 [(yu 2)])]))],(.tup [(.agg [yt,(yo 1 [(yu 1)])]),(.agg [yf,yz]),(.one (yi 0))])⟩,
 ⟨83,[(.v (.agg [yt,(yo 1 [(yu 2)])])),(.v (.agg [yf,(yo 1 [(yu 2)])]))],(.v (.agg [yt,(yo 1 [(yu 1)]),yf,(yo 1 [(yu 1)])]))⟩,
 ⟨88,[(.v (.agg [yz,(yo 4 [yt,(yo 1 [(yu 2)]),yf,(yo 1 [(yu 1)])])])),(.v (.agg [yz,(yo 4 [yf,(yo 1 [(yu 1)]),yf,(yo 1 [(yu 2)])])]))],(.tup [(.agg [yz,(yo 4 [yt,(yo 1 [(yu 1)]),yf,(yo 1 [(yu 1)])])]),(.one (yi 0))])⟩,
 ⟨157,[(.v (.one yz)),(.v (.one (yo 1 [(yu 1)])))],(.v (.one yz))⟩,
 ⟨239,[(.v (.agg [yf,yz])),(.v (.agg [yf,(yo 1 [(yu 2)])]))],(.tup [(.agg [yf,yz]),(.agg [yf,yz]),(.one (yi 0))])⟩,
 ⟨83,[(.v (.agg [yf,yz])),(.v (.agg [yf,(yo 1 [(yu 2)])]))],(.v (.agg [yf,yz,yf,(yo 1 [(yu 1)])]))⟩,
 ⟨88,[(.v (.agg [yz,(yo 4 [yf,yz,yf,(yo 1 [(yu 1)])])])),(.v (.agg [yz,(yo 4 [yf,(yo 1 [(yu 1)]),yf,(yo 1 [(yu 2)])])]))],(.tup [(.agg [yz,(yo 4 [yf,yz,yf,(yo 1 [(yu 1)])])]),(.one (yi 0))])⟩,
 ⟨88,[(.v (.agg [yz,(yo 4 [yf,(yo 1 [(yu 1)]),yf,(yo 1 [(yu 1)])])])),(.v (.agg [yz,(yo 4 [yf,(yo 1 [(yu 2)]),yf,(yo 1 [(yu 1)])])]))],(.tup [(.agg [yz,(yo 4 [yf,(yo 1 [(yu 2)]),yf,(yo 1 [(yu 1)])])]),(.one (yi 0))])⟩,
 ⟨177,[(.v (.one yz)),(.v (.one (yo 4 [yt,(yo 1 [(yu 1)]),yf,(yo 1 [(yu 1)])])))],(.v (.one (yo 4 [yt,(yo 1 [(yu 1)]),yf,(yo 1 [(yu 1)])])))⟩,
 ⟨89,[(.v (.agg [yt,(yo 1 [(yu 1)]),yf,(yo 1 [(yu 1)])]))],(.v (.agg [yt,(yo 1 [(yu 1)]),yf,(yo 1 [(yu 1)])]))⟩,
 ⟨168,[(.v (.agg [yz,(yo 4 [yt,(yo 1 [(yu 1)]),yf,(yo 1 [(yu 1)])])]))],(.v (.agg [yz,(yo 4 [yt,(yo 1 [(yu 1)]),yf,(yo 1 [(yu 1)])])]))⟩,
 ⟨364,[(.v (.agg [yt,(yo 1 [(yu 1)]),yf,(yo 1 [(yu 1)])]))],(.v (.one yt))⟩,
 ⟨312,[(.v (.one (yo 4 [yt,(yo 1 [(yu 1)]),yf,(yo 1 [(yu 1)])]))),(.v (.one (yi 1)))],(.v (.one yt))⟩,
 ⟨88,[(.v (.agg [yz,(yo 4 [yt,(yo 1 [(yu 1)]),yf,(yo 1 [(yu 1)])])])),(.v (.agg [yz,(yo 4 [yf,(yo 1 [(yu 2)]),yf,(yo 1 [(yu 1)])])]))],(.tup [(.agg [yz,(yo 4 [yt,(yo 1 [(yu 2)]),yf,(yo 1 [(yu 1)])])]),(.one (yi 0))])⟩,
 ⟨165,[(.v (.one (yo 1 [(yu 2)]))),(.v (.one (yo 1 [(yu 2)])))],(.v (.one (yo 1 [])))⟩,
 ⟨92,[(.v (.agg [yz,(yo 4 [yf,(yo 1 [(yu 2)]),yf,(yo 1 [(yu 1)])])])),(.v (.agg [yz,(yo 4 [yt,(yo 1 [(yu 2)]),yf,(yo 1 [(yu 1)])])]))],(.tup [(.agg [yz,(yo 4 [yf,yz,yf,(yo 1 [(yu 1)])])]),(.one (yi 0))])⟩,
 ⟨139,[(.v (.agg [yz,(yo 4 [yf,yz,yf,(yo 1 [(yu 1)])])]))],(.v (.one (yi 0)))⟩,
 ⟨261,[(.v (.agg [yz,(yo 4 [yf,(yo 1 [(yu 1)]),yf,(yo 1 [(yu 1)])]),yz,(yo 4 [yt,(yo 1 [(yu 1)]),yf,(yo 1 [(yu 1)])]),yz,(yo 4 [yf,yz,yf,(yo 1 [(yu 1)])])])),(.v (.agg [yz,(yo 4 [yf,(yo 1 [(yu 2)]),yf,(yo 1 [(yu 1)])]),yz,(yo 4 [yf,(yo 1 [(yu 2)]),yf,(yo 1 [(yu 1)])])]))],(.v (.one yt))⟩,
 ⟨194,[(.v (.agg [(yi 2),yz,yz,yz,yz,yz,yz,yz,yz,yz,yz,yz,(yo 4 [yf,(yo 1 []),yf,(yo 1 [(yu 1)])]),yz,(yo 4 [yf,(yo 1 []),yf,(yo 1 [(yu 1)])]),yz,(yo 4 [yf,(yo 1 [(yu 1)]),yf,(yo 1 [(yu 1)])]),yz,yz,yz,yz])),(.v (.agg [(yi 1),yz,(yo 4 [yf,(yo 1 [(yu 1)]),yf,(yo 1 [(yu 1)])]),yz,(yo 4 [yt,(yo 1 [(yu 1)]),yf,(yo 1 [(yu 1)])]),yz,(yo 4 [yf,yz,yf,(yo 1 [(yu 1)])]),yz,(yo 4 [yf,(yo 1 [(yu 2)]),yf,(yo 1 [(yu 1)])]),yz,(yo 4 [yf,(yo 1 [(yu 2)]),yf,(yo 1 [(yu 1)])]),yz,yz,yz,yz,yz,yz,yz,yz,yz,yz]))],(.v (.one yt))⟩,
 ⟨157,[(.v (.one (yo 1 [(yu 1)]))),(.v (.one (yo 1 [])))],(.v (.one yz))⟩,
 ⟨88,[(.v (.agg [yz,(yo 4 [yf,(yo 1 [(yu 1)]),yf,(yo 1 [(yu 1)])])])),(.v (.agg [yz,(yo 4 [yf,(yo 1 []),yf,(yo 1 [(yu 1)])])]))],(.tup [(.agg [yz,(yo 4 [yf,yz,yf,(yo 1 [(yu 1)])])]),(.one (yi 0))])⟩,
 ⟨88,[(.v (.agg [yz,(yo 4 [yt,(yo 1 [(yu 1)]),yf,(yo 1 [(yu 1)])])])),(.v (.agg [yz,(yo 4 [yf,(yo 1 []),yf,(yo 1 [(yu 1)])])]))],(.tup [(.agg [yz,(yo 4 [yf,yz,yf,(yo 1 [(yu 1)])])]),(.one (yi 0))])⟩,
 ⟨87,[(.v (.agg [yf,yz,yf,(yo 1 [(yu 1)])]))],(.v (.agg [yf,yz,yf,(yo 1 [(yu 1)])]))⟩,
 ⟨78,[(.v (.agg [yz,(yo 4 [yf,yz,yf,(yo 1 [(yu 1)])])])),(.v (.agg [yz,(yo 4 [yf,yz,yf,(yo 1 [(yu 1)])])]))],(.tup [(.agg [yz,(yo 4 [yf,yz,yf,(yo 1 [(yu 1)])])]),(.one (yi 0))])⟩,
 ⟨88,[(.v (.agg [yz,(yo 4 [yt,(yo 1 [(yu 1)]),yf,(yo 1 [(yu 1)])])])),(.v (.agg [yz,(yo 4 [yt,(yo 1 [(yu 1)]),yf,(yo 1 [(yu 1)])])]))],(.tup [(.agg [yz,(yo 4 [yf,(yo 1 [(yu 1)]),yf,(yo 1 [(yu 1)])])]),(.one (yi 0))])⟩,
 ⟨163,[(.v (.one (yo 1 [(yu 1)]))),(.v (.one (yo 1 [(yu 1)])))],(.v (.one (yo 1 [(yu 2)])))⟩,
 ⟨92,[(.v (.agg [yz,(yo 4 [yf,(yo 1 [(yu 1)]),yf,(yo 1 [(yu 1)])])])),(.v (.agg [yz,(yo 4 [yf,(yo 1 [(yu 1)]),yf,(yo 1 [(yu 1)])])]))],(.tup [(.agg [yz,(yo 4 [yf,(yo 1 [(yu 2)]),yf,(yo 1 [(yu 1)])])]),(.one (yi 0))])⟩,
 ⟨157,[(.v (.one (yo 1 [(yu 1)]))),(.v (.one yz))],(.v (.one yz))⟩]
end
noncomputable def tbB:Tbl:=addTs tbA esB
set_option maxRecDepth 100000 in
theorem tbB_ok:TblOk Tryz.prog tbB:=chkT_ok T_ok mixed drX (fuel:=2000) (k:=100) (fz:=20) tbA_ok (by kernel_rfl)
end Go.Proofs.YtaihcpdpmijifaaGreat
namespace Go.Proofs.YtaihcpdpmijifaaGreat
open Go Go.Eng Go.Eng.Run
section
noncomputable def esC:List Ent:=[⟨198,[(.v (.agg [yz,(yo 4 [yf,(yo 1 [(yu 1)]),yf,(yo 1 [(yu 1)])]),yz,(yo 4 [yt,(yo 1 [(yu 1)]),yf,(yo 1 [(yu 1)])]),yz,(yo 4 [yf,yz,yf,(yo 1 [(yu 1)])])])),(.v (.agg [yz,(yo 4 [yf,(yo 1 []),yf,(yo 1 [(yu 1)])]),yz,(yo 4 [yf,(yo 1 []),yf,(yo 1 [(yu 1)])])]))],(.tup [(.agg [yz,(yo 4 [yf,yz,yf,(yo 1 [(yu 1)])]),yz,(yo 4 [yf,yz,yf,(yo 1 [(yu 1)])])]),(.one (yi 0))])⟩,
 ⟨78,[(.v (.agg [yz,(yo 4 [yf,(yo 1 []),yf,(yo 1 [(yu 1)])])])),(.v (.agg [yz,(yo 4 [yf,yz,yf,(yo 1 [(yu 1)])])]))],(.tup [(.agg [yz,(yo 4 [yf,yz,yf,(yo 1 [(yu 1)])])]),(.one (yi 0))])⟩,
 ⟨78,[(.v (.agg [yz,(yo 4 [yf,(yo 1 [(yu 1)]),yf,(yo 1 [(yu 1)])])])),(.v (.agg [yz,(yo 4 [yf,yz,yf,(yo 1 [(yu 1)])])]))],(.tup [(.agg [yz,(yo 4 [yf,(yo 1 [(yu 1)]),yf,(yo 1 [(yu 1)])])]),(.one (yi 0))])⟩,
 ⟨157,[(.v (.one (yo 1 [(yu 2)]))),(.v (.one (yo 1 [(yu 2)])))],(.v (.one (yo 1 [(yu 4)])))⟩,
 ⟨158,[(.v (.one (yo 1 [(yu 4)])))],(.v (.one (yo 1 [(yu 4)])))⟩,
 ⟨155,[(.v (.one yf)),(.v (.one (yo 1 [(yu 4)])))],(.v (.agg [yf,(yo 1 [(yu 4)])]))⟩,
 ⟨88,[(.v (.agg [yz,(yo 4 [yf,(yo 1 [(yu 2)]),yf,(yo 1 [(yu 1)])])])),(.v (.agg [yz,(yo 4 [yf,(yo 1 [(yu 2)]),yf,(yo 1 [(yu 1)])])]))],(.tup [(.agg [yz,(yo 4 [yf,(yo 1 [(yu 4)]),yf,(yo 1 [(yu 1)])])]),(.one (yi 0))])⟩,
 ⟨177,[(.v (.one yz)),(.v (.one (yo 4 [yf,(yo 1 [(yu 4)]),yf,(yo 1 [(yu 1)])])))],(.v (.one (yo 4 [yf,(yo 1 [(yu 4)]),yf,(yo 1 [(yu 1)])])))⟩,
 ⟨89,[(.v (.agg [yf,(yo 1 [(yu 4)]),yf,(yo 1 [(yu 1)])]))],(.v (.agg [yf,(yo 1 [(yu 4)]),yf,(yo 1 [(yu 1)])]))⟩,
 ⟨168,[(.v (.agg [yz,(yo 4 [yf,(yo 1 [(yu 4)]),yf,(yo 1 [(yu 1)])])]))],(.v (.agg [yz,(yo 4 [yf,(yo 1 [(yu 4)]),yf,(yo 1 [(yu 1)])])]))⟩,
 ⟨364,[(.v (.agg [yf,(yo 1 [(yu 4)]),yf,(yo 1 [(yu 1)])]))],(.v (.one yt))⟩,
 ⟨312,[(.v (.one (yo 4 [yf,(yo 1 [(yu 4)]),yf,(yo 1 [(yu 1)])]))),(.v (.one (yi 1)))],(.v (.one yt))⟩,
 ⟨163,[(.v (.one (yo 1 [(yu 4)]))),(.v (.one (yo 1 [(yu 4)])))],(.v (.one (yo 1 [(yu 8)])))⟩,
 ⟨158,[(.v (.one (yo 1 [(yu 8)])))],(.v (.one (yo 1 [(yu 8)])))⟩,
 ⟨155,[(.v (.one yf)),(.v (.one (yo 1 [(yu 8)])))],(.v (.agg [yf,(yo 1 [(yu 8)])]))⟩,
 ⟨92,[(.v (.agg [yz,(yo 4 [yf,(yo 1 [(yu 4)]),yf,(yo 1 [(yu 1)])])])),(.v (.agg [yz,(yo 4 [yf,(yo 1 [(yu 4)]),yf,(yo 1 [(yu 1)])])]))],(.tup [(.agg [yz,(yo 4 [yf,(yo 1 [(yu 8)]),yf,(yo 1 [(yu 1)])])]),(.one (yi 0))])⟩,
 ⟨364,[(.v (.agg [yf,(yo 1 [(yu 8)]),yf,(yo 1 [(yu 1)])]))],(.v (.one yt))⟩,
 ⟨312,[(.v (.one (yo 4 [yf,(yo 1 [(yu 8)]),yf,(yo 1 [(yu 1)])]))),(.v (.one (yi 1)))],(.v (.one yt))⟩,
 ⟨157,[(.v (.one (yo 1 [(yu 1)]))),(.v (.one (yo 1 [(yu 8)])))],(.v (.one (yo 1 [(yu 8)])))⟩,
 ⟨83,[(.v (.agg [yf,(yo 1 [(yu 1)])])),(.v (.agg [yf,(yo 1 [(yu 8)])]))],(.v (.agg [yf,(yo 1 [(yu 1)]),yf,(yo 1 [(yu 8)])]))⟩,
 ⟨335,[(.v (.one yz)),(.v (.one (yo 4 [yf,(yo 1 [(yu 8)]),yf,(yo 1 [(yu 1)])])))],(.tup [(.one (yo 4 [yf,(yo 1 [(yu 1)]),yf,(yo 1 [(yu 8)])])),(.one (yi 0))])⟩,
 ⟨177,[(.v (.one yz)),(.v (.one (yo 4 [yf,(yo 1 [(yu 1)]),yf,(yo 1 [(yu 8)])])))],(.v (.one (yo 4 [yf,(yo 1 [(yu 1)]),yf,(yo 1 [(yu 8)])])))⟩,
 ⟨89,[(.v (.agg [yf,(yo 1 [(yu 1)]),yf,(yo 1 [(yu 8)])]))],(.v (.agg [yf,(yo 1 [(yu 1)]),yf,(yo 1 [(yu 8)])]))⟩,
 ⟨168,[(.v (.agg [yz,(yo 4 [yf,(yo 1 [(yu 1)]),yf,(yo 1 [(yu 8)])])]))],(.v (.agg [yz,(yo 4 [yf,(yo 1 [(yu 1)]),yf,(yo 1 [(yu 8)])])]))⟩,
 ⟨364,[(.v (.agg [yf,(yo 1 [(yu 1)]),yf,(yo 1 [(yu 8)])]))],(.v (.one yt))⟩,
 ⟨312,[(.v (.one (yo 4 [yf,(yo 1 [(yu 1)]),yf,(yo 1 [(yu 8)])]))),(.v (.one (yi 1)))],(.v (.one yt))⟩,
 ⟨81,[(.v (.agg [yf,(yo 1 [(yu 8)])]))],(.v (.one yf))⟩,
 ⟨88,[(.v (.agg [yz,(yo 4 [yf,(yo 1 [(yu 1)]),yf,(yo 1 [(yu 1)])])])),(.v (.agg [yz,(yo 4 [yf,(yo 1 [(yu 1)]),yf,(yo 1 [(yu 8)])])]))],(.tup [(.agg [yz,(yo 4 [yf,(yo 1 [(yu 1)]),yf,(yo 1 [(yu 8)])])]),(.one (yi 0))])⟩,
 ⟨267,[(.v (.agg [yz,(yo 4 [yf,(yo 1 [(yu 1)]),yf,(yo 1 [(yu 1)])]),yz,(yo 4 [yt,(yo 1 [(yu 1)]),yf,(yo 1 [(yu 1)])]),yz,(yo 4 [yf,yz,yf,(yo 1 [(yu 1)])])])),(.v (.agg [yz,(yo 4 [yf,(yo 1 [(yu 2)]),yf,(yo 1 [(yu 1)])]),yz,(yo 4 [yf,(yo 1 [(yu 2)]),yf,(yo 1 [(yu 1)])])])),(.v (.agg [yz,(yo 4 [yf,(yo 1 []),yf,(yo 1 [(yu 1)])]),yz,(yo 4 [yf,(yo 1 []),yf,(yo 1 [(yu 1)])]),yz,(yo 4 [yf,(yo 1 [(yu 1)]),yf,(yo 1 [(yu 1)])])]))],(.tup [(.agg [yz,(yo 4 [yf,yz,yf,(yo 1 [(yu 1)])]),yz,(yo 4 [yf,yz,yf,(yo 1 [(yu 1)])]),yz,(yo 4 [yf,(yo 1 [(yu 2)]),yf,(yo 1 [(yu 1)])]),yz,(yo 4 [yf,(yo 1 [(yu 2)]),yf,(yo 1 [(yu 1)])]),yz,(yo 4 [yf,(yo 1 [(yu 1)]),yf,(yo 1 [(yu 8)])])]),(.one (yi 0))])⟩,
 ⟨139,[(.v (.agg [yz,(yo 4 [yf,(yo 1 [(yu 1)]),yf,(yo 1 [(yu 8)])])]))],(.v (.one (yi 1)))⟩,
 ⟨156,[(.v (.one (yk .u64 4)))],(.v (.one (yo 1 [(yu 4)])))⟩,
 ⟨326,[(.v (.one (yo 1 [(yo 4 [yf,(yo 1 [(yu 1)]),yf,(yo 1 [(yu 8)])])])))],(.v (.one yt))⟩,
 ⟨329,[(.v (.one yz)),(.v (.one (yo 4 [yf,(yo 1 [(yu 1)]),yf,(yo 1 [(yu 8)])])))],(.tup [(.one (yo 1 [(yo 4 [yf,(yo 1 [(yu 1)]),yf,(yo 1 [(yu 8)])])])),(.one (yo 4 [yf,yz,yf,(yo 1 [(yu 1)]),yf,(yo 1 [(yu 1)]),yf,(yo 1 [(yu 1)])])),(.one (yi 0))])⟩,
 ⟨168,[(.v (.agg [(yo 1 [(yo 4 [yf,(yo 1 [(yu 1)]),yf,(yo 1 [(yu 8)])])]),(yo 4 [yf,yz,yf,(yo 1 [(yu 1)]),yf,(yo 1 [(yu 1)]),yf,(yo 1 [(yu 1)])])]))],(.v (.agg [(yo 1 [(yo 4 [yf,(yo 1 [(yu 1)]),yf,(yo 1 [(yu 8)])])]),(yo 4 [yf,yz,yf,(yo 1 [(yu 1)]),yf,(yo 1 [(yu 1)]),yf,(yo 1 [(yu 1)])])]))⟩,
 ⟨171,[(.v (.one yz)),(.v (.one (yo 1 [(yo 4 [yf,(yo 1 [(yu 1)]),yf,(yo 1 [(yu 8)])])])))],(.v (.one yf))⟩,
 ⟨171,[(.v (.one (yo 1 [(yo 4 [yf,(yo 1 [(yu 1)]),yf,(yo 1 [(yu 8)])])]))),(.v (.one yz))],(.v (.one yt))⟩,
 ⟨177,[(.v (.one (yo 1 [(yo 4 [yf,(yo 1 [(yu 1)]),yf,(yo 1 [(yu 8)])])]))),(.v (.one (yo 4 [yf,(yo 1 [(yu 2)]),yf,(yo 1 [(yu 1)])])))],(.v (.one (yo 4 [yf,(yo 1 [(yu 2)]),yf,(yo 1 [(yu 1)]),yf,yz,yf,(yo 1 [(yu 1)])])))⟩,
 ⟨168,[(.v (.agg [(yo 1 [(yo 4 [yf,(yo 1 [(yu 1)]),yf,(yo 1 [(yu 8)])])]),(yo 4 [yf,(yo 1 [(yu 2)]),yf,(yo 1 [(yu 1)]),yf,yz,yf,(yo 1 [(yu 1)])])]))],(.v (.agg [(yo 1 [(yo 4 [yf,(yo 1 [(yu 1)]),yf,(yo 1 [(yu 8)])])]),(yo 4 [yf,(yo 1 [(yu 2)]),yf,(yo 1 [(yu 1)]),yf,yz,yf,(yo 1 [(yu 1)])])]))⟩,
 ⟨171,[(.v (.one (yo 1 [(yo 4 [yf,(yo 1 [(yu 1)]),yf,(yo 1 [(yu 8)])])]))),(.v (.one (yo 1 [(yo 4 [yf,(yo 1 [(yu 1)]),yf,(yo 1 [(yu 8)])])])))],(.v (.one yt))⟩,
 ⟨177,[(.v (.one (yo 1 [(yo 4 [yf,(yo 1 [(yu 1)]),yf,(yo 1 [(yu 8)])])]))),(.v (.one (yo 4 [yf,yz,yf,(yo 1 [(yu 1)]),yf,(yo 1 [(yu 1)]),yf,(yo 1 [(yu 1)])])))],(.v (.one (yo 4 [yf,yz,yf,(yo 1 [(yu 1)]),yf,(yo 1 [(yu 1)]),yf,(yo 1 [(yu 1)])])))⟩,
 ⟨312,[(.v (.one (yo 4 [yf,(yo 1 [(yu 2)]),yf,(yo 1 [(yu 1)]),yf,yz,yf,(yo 1 [(yu 1)])]))),(.v (.one (yi 2)))],(.v (.one yt))⟩,
 ⟨312,[(.v (.one (yo 4 [yf,yz,yf,(yo 1 [(yu 1)]),yf,(yo 1 [(yu 1)]),yf,(yo 1 [(yu 1)])]))),(.v (.one (yi 2)))],(.v (.one yt))⟩,
 ⟨322,[(.v (.one (yo 4 [yf,(yo 1 [(yu 2)]),yf,(yo 1 [(yu 1)]),yf,yz,yf,(yo 1 [(yu 1)])])))],(.v (.one yf))⟩,
 ⟨322,[(.v (.one (yo 4 [yf,yz,yf,(yo 1 [(yu 1)]),yf,(yo 1 [(yu 1)]),yf,(yo 1 [(yu 1)])])))],(.v (.one yf))⟩,
 ⟨324,[(.v (.one (yo 1 [(yo 4 [yf,(yo 1 [(yu 1)]),yf,(yo 1 [(yu 8)])])])))],(.tup [(.one (yo 1 [])),(.one (yo 4 [yf,(yo 1 [(yu 1)]),yf,(yo 1 [(yu 8)])]))])⟩,
 ⟨157,[(.v (.one (yo 1 [(yu 2)]))),(.v (.one yz))],(.v (.one yz))⟩,
 ⟨156,[(.v (.one (yk .u64 8)))],(.v (.one (yo 1 [(yu 8)])))⟩,
 ⟨239,[(.v (.agg [yf,yz])),(.v (.agg [yf,(yo 1 [(yu 8)])]))],(.tup [(.agg [yf,yz]),(.agg [yf,yz]),(.one (yi 0))])⟩,
 ⟨239,[(.v (.agg [yf,(yo 1 [(yu 8)])])),(.v (.agg [yf,(yo 1 [(yu 8)])]))],(.tup [(.agg [yf,(yo 1 [(yu 1)])]),(.agg [yf,yz]),(.one (yi 0))])⟩,
 ⟨83,[(.v (.agg [yf,yz])),(.v (.agg [yf,(yo 1 [(yu 8)])]))],(.v (.agg [yf,yz,yf,(yo 1 [(yu 1)])]))⟩,
 ⟨88,[(.v (.agg [yz,(yo 4 [yf,(yo 1 [(yu 2)]),yf,(yo 1 [(yu 1)])])])),(.v (.agg [(yo 1 [(yo 4 [yf,(yo 1 [(yu 1)]),yf,(yo 1 [(yu 8)])])]),(yo 4 [yf,yz,yf,(yo 1 [(yu 1)]),yf,(yo 1 [(yu 1)]),yf,(yo 1 [(yu 1)])])]))],(.tup [(.agg [(yo 1 [(yo 4 [yf,(yo 1 [(yu 1)]),yf,(yo 1 [(yu 8)])])]),(yo 4 [yf,yz,yf,(yo 1 [(yu 1)]),yf,(yo 1 [(yu 2)]),yf,(yo 1 [(yu 1)])])]),(.one (yi 0))])⟩,
 ⟨177,[(.v (.one (yo 1 [(yo 4 [yf,(yo 1 [(yu 1)]),yf,(yo 1 [(yu 8)])])]))),(.v (.one (yo 4 [yf,yz,yf,(yo 1 [(yu 1)])])))],(.v (.one (yo 4 [yf,yz,yf,(yo 1 [(yu 1)]),yf,yz,yf,(yo 1 [(yu 1)])])))⟩,
 ⟨168,[(.v (.agg [(yo 1 [(yo 4 [yf,(yo 1 [(yu 1)]),yf,(yo 1 [(yu 8)])])]),(yo 4 [yf,yz,yf,(yo 1 [(yu 1)]),yf,yz,yf,(yo 1 [(yu 1)])])]))],(.v (.agg [(yo 1 [(yo 4 [yf,(yo 1 [(yu 1)]),yf,(yo 1 [(yu 8)])])]),(yo 4 [yf,yz,yf,(yo 1 [(yu 1)]),yf,yz,yf,(yo 1 [(yu 1)])])]))⟩,
 ⟨177,[(.v (.one (yo 1 [(yo 4 [yf,(yo 1 [(yu 1)]),yf,(yo 1 [(yu 8)])])]))),(.v (.one (yo 4 [yf,yz,yf,(yo 1 [(yu 1)]),yf,(yo 1 [(yu 2)]),yf,(yo 1 [(yu 1)])])))],(.v (.one (yo 4 [yf,yz,yf,(yo 1 [(yu 1)]),yf,(yo 1 [(yu 2)]),yf,(yo 1 [(yu 1)])])))⟩,
 ⟨168,[(.v (.agg [(yo 1 [(yo 4 [yf,(yo 1 [(yu 1)]),yf,(yo 1 [(yu 8)])])]),(yo 4 [yf,yz,yf,(yo 1 [(yu 1)]),yf,(yo 1 [(yu 2)]),yf,(yo 1 [(yu 1)])])]))],(.v (.agg [(yo 1 [(yo 4 [yf,(yo 1 [(yu 1)]),yf,(yo 1 [(yu 8)])])]),(yo 4 [yf,yz,yf,(yo 1 [(yu 1)]),yf,(yo 1 [(yu 2)]),yf,(yo 1 [(yu 1)])])]))⟩,
 ⟨312,[(.v (.one (yo 4 [yf,yz,yf,(yo 1 [(yu 1)]),yf,yz,yf,(yo 1 [(yu 1)])]))),(.v (.one (yi 2)))],(.v (.one yt))⟩,
 ⟨312,[(.v (.one (yo 4 [yf,yz,yf,(yo 1 [(yu 1)]),yf,(yo 1 [(yu 2)]),yf,(yo 1 [(yu 1)])]))),(.v (.one (yi 2)))],(.v (.one yt))⟩,
 ⟨163,[(.v (.one yz)),(.v (.one (yo 1 [(yu 2)])))],(.v (.one (yo 1 [(yu 2)])))⟩,
 ⟨92,[(.v (.agg [yz,(yo 4 [yf,yz,yf,(yo 1 [(yu 1)])])])),(.v (.agg [(yo 1 [(yo 4 [yf,(yo 1 [(yu 1)]),yf,(yo 1 [(yu 8)])])]),(yo 4 [yf,yz,yf,(yo 1 [(yu 1)]),yf,(yo 1 [(yu 2)]),yf,(yo 1 [(yu 1)])])]))],(.tup [(.agg [(yo 1 [(yo 4 [yf,(yo 1 [(yu 1)]),yf,(yo 1 [(yu 8)])])]),(yo 4 [yf,yz,yf,(yo 1 [(yu 1)]),yf,(yo 1 [(yu 2)]),yf,(yo 1 [(yu 1)])])]),(.one (yi 0))])⟩,
 ⟨87,[(.v (.agg [yf,(yo 1 [(yu 1)]),yf,(yo 1 [(yu 1)])]))],(.v (.agg [yt,(yo 1 [(yu 1)]),yf,(yo 1 [(yu 1)])]))⟩,
 ⟨90,[(.v (.agg [(yo 1 [(yo 4 [yf,(yo 1 [(yu 1)]),yf,(yo 1 [(yu 8)])])]),(yo 4 [yf,yz,yf,(yo 1 [(yu 1)]),yf,(yo 1 [(yu 1)]),yf,(yo 1 [(yu 1)])])]))],(.v (.agg [(yo 1 [(yo 4 [yf,(yo 1 [(yu 1)]),yf,(yo 1 [(yu 8)])])]),(yo 4 [yf,yz,yf,(yo 1 [(yu 1)]),yt,(yo 1 [(yu 1)]),yf,(yo 1 [(yu 1)])])]))⟩,
 ⟨177,[(.v (.one (yo 1 [(yo 4 [yf,(yo 1 [(yu 1)]),yf,(yo 1 [(yu 8)])])]))),(.v (.one (yo 4 [yf,yz,yf,(yo 1 [(yu 1)]),yt,(yo 1 [(yu 1)]),yf,(yo 1 [(yu 1)])])))],(.v (.one (yo 4 [yf,yz,yf,(yo 1 [(yu 1)]),yt,(yo 1 [(yu 1)]),yf,(yo 1 [(yu 1)])])))⟩,
 ⟨168,[(.v (.agg [(yo 1 [(yo 4 [yf,(yo 1 [(yu 1)]),yf,(yo 1 [(yu 8)])])]),(yo 4 [yf,yz,yf,(yo 1 [(yu 1)]),yt,(yo 1 [(yu 1)]),yf,(yo 1 [(yu 1)])])]))],(.v (.agg [(yo 1 [(yo 4 [yf,(yo 1 [(yu 1)]),yf,(yo 1 [(yu 8)])])]),(yo 4 [yf,yz,yf,(yo 1 [(yu 1)]),yt,(yo 1 [(yu 1)]),yf,(yo 1 [(yu 1)])])]))⟩,
 ⟨312,[(.v (.one (yo 4 [yf,yz,yf,(yo 1 [(yu 1)]),yt,(yo 1 [(yu 1)]),yf,(yo 1 [(yu 1)])]))),(.v (.one (yi 2)))],(.v (.one yt))⟩,
 ⟨322,[(.v (.one (yo 4 [yf,yz,yf,(yo 1 [(yu 1)]),yt,(yo 1 [(yu 1)]),yf,(yo 1 [(yu 1)])])))],(.v (.one yf))⟩,
 ⟨165,[(.v (.one (yo 1 [(yu 2)]))),(.v (.one yz))],(.v (.one (yo 1 [(yu 2)])))⟩]
end
noncomputable def tbC:Tbl:=addTs tbB esC
set_option maxRecDepth 100000 in
theorem tbC_ok:TblOk Tryz.prog tbC:=chkT_ok T_ok mixed drX (fuel:=2000) (k:=100) (fz:=20) tbB_ok (by kernel_rfl)
end Go.Proofs.YtaihcpdpmijifaaGreat
namespace Go.Proofs.YtaihcpdpmijifaaGreat
open Go Go.Eng Go.Eng.Run
section
noncomputable def esD:List Ent:=[⟨88,[(.v (.agg [yz,(yo 4 [yf,(yo 1 [(yu 2)]),yf,(yo 1 [(yu 1)])])])),(.v (.agg [(yo 1 [(yo 4 [yf,(yo 1 [(yu 1)]),yf,(yo 1 [(yu 8)])])]),(yo 4 [yf,yz,yf,(yo 1 [(yu 1)]),yt,(yo 1 [(yu 1)]),yf,(yo 1 [(yu 1)])])]))],(.tup [(.agg [(yo 1 [(yo 4 [yf,(yo 1 [(yu 1)]),yf,(yo 1 [(yu 8)])])]),(yo 4 [yf,yz,yf,(yo 1 [(yu 1)]),yt,(yo 1 [(yu 2)]),yf,(yo 1 [(yu 1)])])]),(.one (yi 0))])⟩,
 ⟨177,[(.v (.one (yo 1 [(yo 4 [yf,(yo 1 [(yu 1)]),yf,(yo 1 [(yu 8)])])]))),(.v (.one (yo 4 [yf,yz,yf,(yo 1 [(yu 1)]),yt,(yo 1 [(yu 2)]),yf,(yo 1 [(yu 1)])])))],(.v (.one (yo 4 [yf,yz,yf,(yo 1 [(yu 1)]),yt,(yo 1 [(yu 2)]),yf,(yo 1 [(yu 1)])])))⟩,
 ⟨168,[(.v (.agg [(yo 1 [(yo 4 [yf,(yo 1 [(yu 1)]),yf,(yo 1 [(yu 8)])])]),(yo 4 [yf,yz,yf,(yo 1 [(yu 1)]),yt,(yo 1 [(yu 2)]),yf,(yo 1 [(yu 1)])])]))],(.v (.agg [(yo 1 [(yo 4 [yf,(yo 1 [(yu 1)]),yf,(yo 1 [(yu 8)])])]),(yo 4 [yf,yz,yf,(yo 1 [(yu 1)]),yt,(yo 1 [(yu 2)]),yf,(yo 1 [(yu 1)])])]))⟩,
 ⟨312,[(.v (.one (yo 4 [yf,yz,yf,(yo 1 [(yu 1)]),yt,(yo 1 [(yu 2)]),yf,(yo 1 [(yu 1)])]))),(.v (.one (yi 2)))],(.v (.one yt))⟩,
 ⟨92,[(.v (.agg [yz,(yo 4 [yf,yz,yf,(yo 1 [(yu 1)])])])),(.v (.agg [(yo 1 [(yo 4 [yf,(yo 1 [(yu 1)]),yf,(yo 1 [(yu 8)])])]),(yo 4 [yf,yz,yf,(yo 1 [(yu 1)]),yt,(yo 1 [(yu 2)]),yf,(yo 1 [(yu 1)])])]))],(.tup [(.agg [(yo 1 [(yo 4 [yf,(yo 1 [(yu 1)]),yf,(yo 1 [(yu 8)])])]),(yo 4 [yf,yz,yf,(yo 1 [(yu 1)]),yt,(yo 1 [(yu 2)]),yf,(yo 1 [(yu 1)])])]),(.one (yi 0))])⟩,
 ⟨177,[(.v (.one (yo 1 [(yo 4 [yf,(yo 1 [(yu 1)]),yf,(yo 1 [(yu 8)])])]))),(.v (.one (yo 4 [yf,(yo 1 []),yf,(yo 1 [(yu 1)])])))],(.v (.one (yo 4 [yf,(yo 1 []),yf,(yo 1 [(yu 1)]),yf,yz,yf,(yo 1 [(yu 1)])])))⟩,
 ⟨168,[(.v (.agg [(yo 1 [(yo 4 [yf,(yo 1 [(yu 1)]),yf,(yo 1 [(yu 8)])])]),(yo 4 [yf,(yo 1 []),yf,(yo 1 [(yu 1)]),yf,yz,yf,(yo 1 [(yu 1)])])]))],(.v (.agg [(yo 1 [(yo 4 [yf,(yo 1 [(yu 1)]),yf,(yo 1 [(yu 8)])])]),(yo 4 [yf,(yo 1 []),yf,(yo 1 [(yu 1)]),yf,yz,yf,(yo 1 [(yu 1)])])]))⟩,
 ⟨312,[(.v (.one (yo 4 [yf,(yo 1 []),yf,(yo 1 [(yu 1)]),yf,yz,yf,(yo 1 [(yu 1)])]))),(.v (.one (yi 2)))],(.v (.one yt))⟩,
 ⟨78,[(.v (.agg [(yo 1 [(yo 4 [yf,(yo 1 [(yu 1)]),yf,(yo 1 [(yu 8)])])]),(yo 4 [yf,yz,yf,(yo 1 [(yu 1)]),yf,(yo 1 [(yu 2)]),yf,(yo 1 [(yu 1)])])])),(.v (.agg [yz,(yo 4 [yf,(yo 1 []),yf,(yo 1 [(yu 1)])])]))],(.tup [(.agg [(yo 1 [(yo 4 [yf,(yo 1 [(yu 1)]),yf,(yo 1 [(yu 8)])])]),(yo 4 [yf,yz,yf,(yo 1 [(yu 1)]),yf,(yo 1 [(yu 2)]),yf,(yo 1 [(yu 1)])])]),(.one (yi 0))])⟩,
 ⟨322,[(.v (.one (yo 4 [yf,yz,yf,(yo 1 [(yu 1)]),yf,(yo 1 [(yu 2)]),yf,(yo 1 [(yu 1)])])))],(.v (.one yf))⟩,
 ⟨157,[(.v (.one (yo 1 [(yu 4)]))),(.v (.one (yo 1 [(yu 1)])))],(.v (.one (yo 1 [(yu 4)])))⟩,
 ⟨81,[(.v (.agg [yf,(yo 1 [(yu 4)])]))],(.v (.one yf))⟩,
 ⟨239,[(.v (.agg [yf,(yo 1 [(yu 4)])])),(.v (.agg [yf,(yo 1 [(yu 4)])]))],(.tup [(.agg [yf,(yo 1 [(yu 1)])]),(.agg [yf,yz]),(.one (yi 0))])⟩,
 ⟨239,[(.v (.agg [yf,(yo 1 [(yu 8)])])),(.v (.agg [yf,(yo 1 [(yu 4)])]))],(.tup [(.agg [yf,(yo 1 [(yu 2)])]),(.agg [yf,yz]),(.one (yi 0))])⟩,
 ⟨83,[(.v (.agg [yf,(yo 1 [(yu 4)])])),(.v (.agg [yf,(yo 1 [(yu 8)])]))],(.v (.agg [yf,(yo 1 [(yu 1)]),yf,(yo 1 [(yu 2)])]))⟩,
 ⟨157,[(.v (.one yz)),(.v (.one (yo 1 [(yu 2)])))],(.v (.one yz))⟩,
 ⟨163,[(.v (.one yz)),(.v (.one (yo 1 [(yu 1)])))],(.v (.one (yo 1 [(yu 1)])))⟩,
 ⟨88,[(.v (.agg [(yo 1 [(yo 4 [yf,(yo 1 [(yu 1)]),yf,(yo 1 [(yu 8)])])]),(yo 4 [yf,yz,yf,(yo 1 [(yu 1)]),yf,(yo 1 [(yu 2)]),yf,(yo 1 [(yu 1)])])])),(.v (.agg [(yo 1 [(yo 4 [yf,(yo 1 [(yu 1)]),yf,(yo 1 [(yu 8)])])]),(yo 4 [yf,yz,yf,(yo 1 [(yu 1)]),yf,(yo 1 [(yu 2)]),yf,(yo 1 [(yu 1)])])]))],(.tup [(.agg [(yo 1 [(yo 4 [yf,(yo 1 [(yu 1)]),yf,(yo 1 [(yu 8)])])]),(yo 4 [yf,(yo 1 [(yu 1)]),yf,(yo 1 [(yu 2)]),yf,yz,yf,(yo 1 [(yu 1)])])]),(.one (yi 0))])⟩,
 ⟨177,[(.v (.one (yo 1 [(yo 4 [yf,(yo 1 [(yu 1)]),yf,(yo 1 [(yu 8)])])]))),(.v (.one (yo 4 [yf,(yo 1 [(yu 1)]),yf,(yo 1 [(yu 2)]),yf,yz,yf,(yo 1 [(yu 1)])])))],(.v (.one (yo 4 [yf,(yo 1 [(yu 1)]),yf,(yo 1 [(yu 2)]),yf,yz,yf,(yo 1 [(yu 1)])])))⟩,
 ⟨168,[(.v (.agg [(yo 1 [(yo 4 [yf,(yo 1 [(yu 1)]),yf,(yo 1 [(yu 8)])])]),(yo 4 [yf,(yo 1 [(yu 1)]),yf,(yo 1 [(yu 2)]),yf,yz,yf,(yo 1 [(yu 1)])])]))],(.v (.agg [(yo 1 [(yo 4 [yf,(yo 1 [(yu 1)]),yf,(yo 1 [(yu 8)])])]),(yo 4 [yf,(yo 1 [(yu 1)]),yf,(yo 1 [(yu 2)]),yf,yz,yf,(yo 1 [(yu 1)])])]))⟩,
 ⟨312,[(.v (.one (yo 4 [yf,(yo 1 [(yu 1)]),yf,(yo 1 [(yu 2)]),yf,yz,yf,(yo 1 [(yu 1)])]))),(.v (.one (yi 2)))],(.v (.one yt))⟩,
 ⟨163,[(.v (.one (yo 1 [(yu 2)]))),(.v (.one (yo 1 [(yu 2)])))],(.v (.one (yo 1 [(yu 4)])))⟩,
 ⟨83,[(.v (.agg [yf,(yo 1 [(yu 4)])])),(.v (.agg [yf,(yo 1 [(yu 4)])]))],(.v (.agg [yf,(yo 1 [(yu 1)]),yf,(yo 1 [(yu 1)])]))⟩,
 ⟨92,[(.v (.agg [(yo 1 [(yo 4 [yf,(yo 1 [(yu 1)]),yf,(yo 1 [(yu 8)])])]),(yo 4 [yf,(yo 1 [(yu 1)]),yf,(yo 1 [(yu 2)]),yf,yz,yf,(yo 1 [(yu 1)])])])),(.v (.agg [(yo 1 [(yo 4 [yf,(yo 1 [(yu 1)]),yf,(yo 1 [(yu 8)])])]),(yo 4 [yf,(yo 1 [(yu 1)]),yf,(yo 1 [(yu 2)]),yf,yz,yf,(yo 1 [(yu 1)])])]))],(.tup [(.agg [(yo 1 [(yo 4 [yf,(yo 1 [(yu 1)]),yf,(yo 1 [(yu 8)])])]),(yo 4 [yf,(yo 1 [(yu 1)]),yf,(yo 1 [(yu 1)]),yf,yz,yf,(yo 1 [(yu 1)])])]),(.one (yi 0))])⟩,
 ⟨177,[(.v (.one (yo 1 [(yo 4 [yf,(yo 1 [(yu 1)]),yf,(yo 1 [(yu 8)])])]))),(.v (.one (yo 4 [yf,(yo 1 [(yu 1)]),yf,(yo 1 [(yu 1)]),yf,yz,yf,(yo 1 [(yu 1)])])))],(.v (.one (yo 4 [yf,(yo 1 [(yu 1)]),yf,(yo 1 [(yu 1)]),yf,yz,yf,(yo 1 [(yu 1)])])))⟩,
 ⟨168,[(.v (.agg [(yo 1 [(yo 4 [yf,(yo 1 [(yu 1)]),yf,(yo 1 [(yu 8)])])]),(yo 4 [yf,(yo 1 [(yu 1)]),yf,(yo 1 [(yu 1)]),yf,yz,yf,(yo 1 [(yu 1)])])]))],(.v (.agg [(yo 1 [(yo 4 [yf,(yo 1 [(yu 1)]),yf,(yo 1 [(yu 8)])])]),(yo 4 [yf,(yo 1 [(yu 1)]),yf,(yo 1 [(yu 1)]),yf,yz,yf,(yo 1 [(yu 1)])])]))⟩,
 ⟨177,[(.v (.one (yo 1 [(yo 4 [yf,(yo 1 [(yu 1)]),yf,(yo 1 [(yu 8)])])]))),(.v (.one (yo 4 [yf,(yo 1 [(yu 1)]),yf,(yo 1 [(yu 1)])])))],(.v (.one (yo 4 [yf,(yo 1 [(yu 1)]),yf,(yo 1 [(yu 1)]),yf,yz,yf,(yo 1 [(yu 1)])])))⟩,
 ⟨312,[(.v (.one (yo 4 [yf,(yo 1 [(yu 1)]),yf,(yo 1 [(yu 1)]),yf,yz,yf,(yo 1 [(yu 1)])]))),(.v (.one (yi 2)))],(.v (.one yt))⟩,
 ⟨165,[(.v (.one (yo 1 [(yu 1)]))),(.v (.one (yo 1 [(yu 1)])))],(.v (.one (yo 1 [])))⟩,
 ⟨78,[(.v (.agg [(yo 1 [(yo 4 [yf,(yo 1 [(yu 1)]),yf,(yo 1 [(yu 8)])])]),(yo 4 [yf,(yo 1 [(yu 1)]),yf,(yo 1 [(yu 1)]),yf,yz,yf,(yo 1 [(yu 1)])])])),(.v (.agg [yz,(yo 4 [yf,(yo 1 [(yu 1)]),yf,(yo 1 [(yu 1)])])]))],(.tup [(.agg [(yo 1 [(yo 4 [yf,(yo 1 [(yu 1)]),yf,(yo 1 [(yu 8)])])]),(yo 4 [yf,yz,yf,(yo 1 [(yu 1)]),yf,yz,yf,(yo 1 [(yu 1)])])]),(.one (yi 0))])⟩,
 ⟨331,[(.v (.one (yo 1 [(yo 4 [yf,(yo 1 [(yu 1)]),yf,(yo 1 [(yu 8)])])])))],(.v (.one yt))⟩,
 ⟨139,[(.v (.agg [(yo 1 [(yo 4 [yf,(yo 1 [(yu 1)]),yf,(yo 1 [(yu 8)])])]),(yo 4 [yf,yz,yf,(yo 1 [(yu 1)]),yf,yz,yf,(yo 1 [(yu 1)])])]))],(.v (.one (yi 0)))⟩,
 ⟨51,[(.v (.agg [yt,yz,(yo 4 [yf,(yo 1 [(yu 1)]),yf,(yo 1 [(yu 1)])]),yz,(yo 4 [yf,(yo 1 []),yf,(yo 1 [(yu 1)])]),yz,(yo 4 [yf,(yo 1 []),yf,(yo 1 [(yu 1)])]),yz,(yo 4 [yf,(yo 1 [(yu 1)]),yf,(yo 1 [(yu 1)])]),yz,(yo 4 [yf,(yo 1 []),yf,(yo 1 [(yu 1)])]),yz,(yo 4 [yf,(yo 1 []),yf,(yo 1 [(yu 1)])]),yf]))],(.v (.one yf))⟩,
 ⟨139,[(.v (.agg [yz,(yo 4 [yf,(yo 1 [(yu 1)]),yf,(yo 1 [(yu 1)])])]))],(.v (.one (yi 1)))⟩,
 ⟨139,[(.v (.agg [(yo 1 [(yo 4 [yf,(yo 1 [(yu 1)]),yf,(yo 1 [(yu 8)])])]),(yo 4 [yf,yz,yf,(yo 1 [(yu 1)]),yf,(yo 1 [(yu 2)]),yf,(yo 1 [(yu 1)])])]))],(.v (.one (yi 1)))⟩,
 ⟨90,[(.v (.agg [yz,(yo 4 [yf,yz,yf,(yo 1 [(yu 1)])])]))],(.v (.agg [yz,(yo 4 [yf,yz,yf,(yo 1 [(yu 1)])])]))⟩,
 ⟨223,[(.v (.agg [yz,(yo 4 [yf,(yo 1 [(yu 1)]),yf,(yo 1 [(yu 1)])]),yz,(yo 4 [yf,yz,yf,(yo 1 [(yu 1)])])]))],(.v (.agg [yz,(yo 4 [yf,(yo 1 [(yu 1)]),yf,(yo 1 [(yu 1)])]),yz,(yo 4 [yf,yz,yf,(yo 1 [(yu 1)])])]))⟩,
 ⟨322,[(.v (.one (yo 4 [yf,(yo 1 [(yu 1)]),yf,(yo 1 [(yu 1)]),yf,yz,yf,(yo 1 [(yu 1)])])))],(.v (.one yf))⟩,
 ⟨88,[(.v (.agg [yz,(yo 4 [yf,(yo 1 [(yu 1)]),yf,(yo 1 [(yu 1)])])])),(.v (.agg [(yo 1 [(yo 4 [yf,(yo 1 [(yu 1)]),yf,(yo 1 [(yu 8)])])]),(yo 4 [yf,yz,yf,(yo 1 [(yu 1)]),yf,(yo 1 [(yu 2)]),yf,(yo 1 [(yu 1)])])]))],(.tup [(.agg [(yo 1 [(yo 4 [yf,(yo 1 [(yu 1)]),yf,(yo 1 [(yu 8)])])]),(yo 4 [yf,yz,yf,(yo 1 [(yu 1)]),yf,(yo 1 [(yu 2)]),yf,(yo 1 [(yu 1)])])]),(.one (yi 0))])⟩,
 ⟨322,[(.v (.one (yo 4 [yf,yz,yf,(yo 1 [(yu 1)]),yf,yz,yf,(yo 1 [(yu 1)])])))],(.v (.one yt))⟩,
 ⟨88,[(.v (.agg [yz,(yo 4 [yf,yz,yf,(yo 1 [(yu 1)])])])),(.v (.agg [(yo 1 [(yo 4 [yf,(yo 1 [(yu 1)]),yf,(yo 1 [(yu 8)])])]),(yo 4 [yf,yz,yf,(yo 1 [(yu 1)]),yf,(yo 1 [(yu 2)]),yf,(yo 1 [(yu 1)])])]))],(.tup [(.agg [(yo 1 [(yo 4 [yf,(yo 1 [(yu 1)]),yf,(yo 1 [(yu 8)])])]),(yo 4 [yf,yz,yf,(yo 1 [(yu 1)]),yf,yz,yf,(yo 1 [(yu 1)])])]),(.one (yi 0))])⟩,
 ⟨177,[(.v (.one (yo 1 [(yo 4 [yf,(yo 1 [(yu 1)]),yf,(yo 1 [(yu 8)])])]))),(.v (.one (yo 4 [yf,yz,yf,(yo 1 [(yu 1)]),yf,yz,yf,(yo 1 [(yu 1)])])))],(.v (.one (yo 4 [yf,yz,yf,(yo 1 [(yu 1)]),yf,yz,yf,(yo 1 [(yu 1)])])))⟩,
 ⟨92,[(.v (.agg [(yo 1 [(yo 4 [yf,(yo 1 [(yu 1)]),yf,(yo 1 [(yu 8)])])]),(yo 4 [yf,yz,yf,(yo 1 [(yu 1)]),yf,(yo 1 [(yu 2)]),yf,(yo 1 [(yu 1)])])])),(.v (.agg [(yo 1 [(yo 4 [yf,(yo 1 [(yu 1)]),yf,(yo 1 [(yu 8)])])]),(yo 4 [yf,yz,yf,(yo 1 [(yu 1)]),yf,yz,yf,(yo 1 [(yu 1)])])]))],(.tup [(.agg [(yo 1 [(yo 4 [yf,(yo 1 [(yu 1)]),yf,(yo 1 [(yu 8)])])]),(yo 4 [yf,yz,yf,(yo 1 [(yu 1)]),yf,(yo 1 [(yu 2)]),yf,(yo 1 [(yu 1)])])]),(.one (yi 0))])⟩,
 ⟨90,[(.v (.agg [yz,(yo 4 [yf,(yo 1 [(yu 1)]),yf,(yo 1 [(yu 1)])])]))],(.v (.agg [yz,(yo 4 [yt,(yo 1 [(yu 1)]),yf,(yo 1 [(yu 1)])])]))⟩,
 ⟨87,[(.v (.agg [yt,(yo 1 [(yu 1)]),yf,(yo 1 [(yu 1)])]))],(.v (.agg [yf,(yo 1 [(yu 1)]),yf,(yo 1 [(yu 1)])]))⟩,
 ⟨90,[(.v (.agg [yz,(yo 4 [yt,(yo 1 [(yu 1)]),yf,(yo 1 [(yu 1)])])]))],(.v (.agg [yz,(yo 4 [yf,(yo 1 [(yu 1)]),yf,(yo 1 [(yu 1)])])]))⟩,
 ⟨92,[(.v (.agg [(yo 1 [(yo 4 [yf,(yo 1 [(yu 1)]),yf,(yo 1 [(yu 8)])])]),(yo 4 [yf,yz,yf,(yo 1 [(yu 1)]),yf,yz,yf,(yo 1 [(yu 1)])])])),(.v (.agg [(yo 1 [(yo 4 [yf,(yo 1 [(yu 1)]),yf,(yo 1 [(yu 8)])])]),(yo 4 [yf,yz,yf,(yo 1 [(yu 1)]),yf,(yo 1 [(yu 2)]),yf,(yo 1 [(yu 1)])])]))],(.tup [(.agg [(yo 1 [(yo 4 [yf,(yo 1 [(yu 1)]),yf,(yo 1 [(yu 8)])])]),(yo 4 [yf,yz,yf,(yo 1 [(yu 1)]),yf,(yo 1 [(yu 2)]),yf,(yo 1 [(yu 1)])])]),(.one (yi 0))])⟩,
 ⟨68,[(.v (.agg [yt,yz,(yo 4 [yf,(yo 1 [(yu 1)]),yf,(yo 1 [(yu 1)])]),yz,(yo 4 [yf,(yo 1 []),yf,(yo 1 [(yu 1)])]),yz,(yo 4 [yf,(yo 1 []),yf,(yo 1 [(yu 1)])]),yz,(yo 4 [yf,(yo 1 [(yu 1)]),yf,(yo 1 [(yu 1)])]),yz,(yo 4 [yf,(yo 1 []),yf,(yo 1 [(yu 1)])]),yz,(yo 4 [yf,(yo 1 []),yf,(yo 1 [(yu 1)])]),yf])),(.v (.agg [yz,(yo 4 [yf,(yo 1 [(yu 1)]),yf,(yo 1 [(yu 1)])]),yz,(yo 4 [yf,(yo 1 []),yf,(yo 1 [(yu 1)])])])),(.v (.agg [(yo 1 [(yo 4 [yf,(yo 1 [(yu 1)]),yf,(yo 1 [(yu 8)])])]),(yo 4 [yf,yz,yf,(yo 1 [(yu 1)]),yf,(yo 1 [(yu 2)]),yf,(yo 1 [(yu 1)])]),(yo 1 [(yo 4 [yf,(yo 1 [(yu 1)]),yf,(yo 1 [(yu 8)])])]),(yo 4 [yf,yz,yf,(yo 1 [(yu 1)]),yf,(yo 1 [(yu 2)]),yf,(yo 1 [(yu 1)])])]))],(.tup [(.agg [(yo 1 [(yo 4 [yf,(yo 1 [(yu 1)]),yf,(yo 1 [(yu 8)])])]),(yo 4 [yf,yz,yf,(yo 1 [(yu 1)]),yf,(yo 1 [(yu 2)]),yf,(yo 1 [(yu 1)])]),(yo 1 [(yo 4 [yf,(yo 1 [(yu 1)]),yf,(yo 1 [(yu 8)])])]),(yo 4 [yf,yz,yf,(yo 1 [(yu 1)]),yf,(yo 1 [(yu 2)]),yf,(yo 1 [(yu 1)])]),(yi 0)]),(.one (yi 0))])⟩,
 ⟨88,[(.v (.agg [yz,(yo 4 [yf,(yo 1 [(yu 1)]),yf,(yo 1 [(yu 1)])])])),(.v (.agg [yz,(yo 4 [yf,yz,yf,(yo 1 [(yu 1)])])]))],(.tup [(.agg [yz,(yo 4 [yf,yz,yf,(yo 1 [(yu 1)])])]),(.one (yi 0))])⟩,
 ⟨88,[(.v (.agg [yz,(yo 4 [yf,yz,yf,(yo 1 [(yu 1)])])])),(.v (.agg [yz,(yo 4 [yf,(yo 1 [(yu 1)]),yf,(yo 1 [(yu 1)])])]))],(.tup [(.agg [yz,(yo 4 [yf,yz,yf,(yo 1 [(yu 1)])])]),(.one (yi 0))])⟩,
 ⟨92,[(.v (.agg [yz,(yo 4 [yf,yz,yf,(yo 1 [(yu 1)])])])),(.v (.agg [yz,(yo 4 [yf,(yo 1 [(yu 1)]),yf,(yo 1 [(yu 1)])])]))],(.tup [(.agg [yz,(yo 4 [yf,(yo 1 [(yu 1)]),yf,(yo 1 [(yu 1)])])]),(.one (yi 0))])⟩,
 ⟨68,[(.v (.agg [yt,yz,(yo 4 [yf,(yo 1 [(yu 1)]),yf,(yo 1 [(yu 1)])]),yz,(yo 4 [yf,(yo 1 []),yf,(yo 1 [(yu 1)])]),yz,(yo 4 [yf,(yo 1 []),yf,(yo 1 [(yu 1)])]),yz,(yo 4 [yf,(yo 1 [(yu 1)]),yf,(yo 1 [(yu 1)])]),yz,(yo 4 [yf,(yo 1 []),yf,(yo 1 [(yu 1)])]),yz,(yo 4 [yf,(yo 1 []),yf,(yo 1 [(yu 1)])]),yf])),(.v (.agg [yz,(yo 4 [yf,(yo 1 [(yu 1)]),yf,(yo 1 [(yu 1)])]),yz,(yo 4 [yf,(yo 1 []),yf,(yo 1 [(yu 1)])])])),(.v (.agg [yz,(yo 4 [yf,(yo 1 []),yf,(yo 1 [(yu 1)])]),yz,(yo 4 [yf,(yo 1 [(yu 1)]),yf,(yo 1 [(yu 1)])])]))],(.tup [(.agg [yz,(yo 4 [yf,yz,yf,(yo 1 [(yu 1)])]),yz,(yo 4 [yf,(yo 1 [(yu 1)]),yf,(yo 1 [(yu 1)])]),(yi 0)]),(.one (yi 0))])⟩,
 ⟨90,[(.v (.agg [(yo 1 [(yo 4 [yf,(yo 1 [(yu 1)]),yf,(yo 1 [(yu 8)])])]),(yo 4 [yf,yz,yf,(yo 1 [(yu 1)]),yf,(yo 1 [(yu 2)]),yf,(yo 1 [(yu 1)])])]))],(.v (.agg [(yo 1 [(yo 4 [yf,(yo 1 [(yu 1)]),yf,(yo 1 [(yu 8)])])]),(yo 4 [yf,yz,yf,(yo 1 [(yu 1)]),yt,(yo 1 [(yu 2)]),yf,(yo 1 [(yu 1)])])]))⟩,
 ⟨87,[(.v (.agg [yt,(yo 1 [(yu 2)]),yf,(yo 1 [(yu 1)])]))],(.v (.agg [yf,(yo 1 [(yu 2)]),yf,(yo 1 [(yu 1)])]))⟩,
 ⟨90,[(.v (.agg [(yo 1 [(yo 4 [yf,(yo 1 [(yu 1)]),yf,(yo 1 [(yu 8)])])]),(yo 4 [yf,yz,yf,(yo 1 [(yu 1)]),yt,(yo 1 [(yu 2)]),yf,(yo 1 [(yu 1)])])]))],(.v (.agg [(yo 1 [(yo 4 [yf,(yo 1 [(yu 1)]),yf,(yo 1 [(yu 8)])])]),(yo 4 [yf,yz,yf,(yo 1 [(yu 1)]),yf,(yo 1 [(yu 2)]),yf,(yo 1 [(yu 1)])])]))⟩,
 ⟨322,[(.v (.one (yo 4 [yf,yz,yf,(yo 1 [(yu 1)]),yt,(yo 1 [(yu 2)]),yf,(yo 1 [(yu 1)])])))],(.v (.one yf))⟩,
 ⟨88,[(.v (.agg [(yo 1 [(yo 4 [yf,(yo 1 [(yu 1)]),yf,(yo 1 [(yu 8)])])]),(yo 4 [yf,yz,yf,(yo 1 [(yu 1)]),yt,(yo 1 [(yu 2)]),yf,(yo 1 [(yu 1)])])])),(.v (.agg [yz,(yo 4 [yf,yz,yf,(yo 1 [(yu 1)])])]))],(.tup [(.agg [(yo 1 [(yo 4 [yf,(yo 1 [(yu 1)]),yf,(yo 1 [(yu 8)])])]),(yo 4 [yf,yz,yf,(yo 1 [(yu 1)]),yf,yz,yf,(yo 1 [(yu 1)])])]),(.one (yi 0))])⟩,
 ⟨88,[(.v (.agg [(yo 1 [(yo 4 [yf,(yo 1 [(yu 1)]),yf,(yo 1 [(yu 8)])])]),(yo 4 [yf,yz,yf,(yo 1 [(yu 1)]),yf,(yo 1 [(yu 2)]),yf,(yo 1 [(yu 1)])])])),(.v (.agg [yz,(yo 4 [yf,(yo 1 [(yu 1)]),yf,(yo 1 [(yu 1)])])]))],(.tup [(.agg [(yo 1 [(yo 4 [yf,(yo 1 [(yu 1)]),yf,(yo 1 [(yu 8)])])]),(yo 4 [yf,yz,yf,(yo 1 [(yu 1)]),yf,(yo 1 [(yu 2)]),yf,(yo 1 [(yu 1)])])]),(.one (yi 0))])⟩,
 ⟨17,[(.v (.agg [yt,yz,(yo 4 [yf,(yo 1 [(yu 1)]),yf,(yo 1 [(yu 1)])]),yz,(yo 4 [yf,(yo 1 []),yf,(yo 1 [(yu 1)])]),yz,(yo 4 [yf,(yo 1 []),yf,(yo 1 [(yu 1)])]),yz,(yo 4 [yf,(yo 1 [(yu 1)]),yf,(yo 1 [(yu 1)])]),yz,(yo 4 [yf,(yo 1 []),yf,(yo 1 [(yu 1)])]),yz,(yo 4 [yf,(yo 1 []),yf,(yo 1 [(yu 1)])]),yf])),(.v (.agg [(yo 1 [(yo 4 [yf,(yo 1 [(yu 1)]),yf,(yo 1 [(yu 8)])])]),(yo 4 [yf,yz,yf,(yo 1 [(yu 1)]),yf,(yo 1 [(yu 2)]),yf,(yo 1 [(yu 1)])]),(yo 1 [(yo 4 [yf,(yo 1 [(yu 1)]),yf,(yo 1 [(yu 8)])])]),(yo 4 [yf,yz,yf,(yo 1 [(yu 1)]),yf,(yo 1 [(yu 2)]),yf,(yo 1 [(yu 1)])])]))],(.v (.one yt))⟩,
 ⟨157,[(.v (.one (yo 1 []))),(.v (.one (yo 1 [(yu 1)])))],(.v (.one yz))⟩,
 ⟨90,[(.v (.agg [yz,(yo 4 [yt,(yo 1 [(yu 2)]),yf,(yo 1 [(yu 1)])])]))],(.v (.agg [yz,(yo 4 [yf,(yo 1 [(yu 2)]),yf,(yo 1 [(yu 1)])])]))⟩,
 ⟨177,[(.v (.one (yo 1 [(yo 4 [yf,(yo 1 [(yu 1)]),yf,(yo 1 [(yu 8)])])]))),(.v (.one (yo 4 [yt,(yo 1 [(yu 2)]),yf,(yo 1 [(yu 1)])])))],(.v (.one (yo 4 [yt,(yo 1 [(yu 2)]),yf,(yo 1 [(yu 1)]),yf,yz,yf,(yo 1 [(yu 1)])])))⟩,
 ⟨168,[(.v (.agg [(yo 1 [(yo 4 [yf,(yo 1 [(yu 1)]),yf,(yo 1 [(yu 8)])])]),(yo 4 [yt,(yo 1 [(yu 2)]),yf,(yo 1 [(yu 1)]),yf,yz,yf,(yo 1 [(yu 1)])])]))],(.v (.agg [(yo 1 [(yo 4 [yf,(yo 1 [(yu 1)]),yf,(yo 1 [(yu 8)])])]),(yo 4 [yt,(yo 1 [(yu 2)]),yf,(yo 1 [(yu 1)]),yf,yz,yf,(yo 1 [(yu 1)])])]))⟩,
 ⟨312,[(.v (.one (yo 4 [yt,(yo 1 [(yu 2)]),yf,(yo 1 [(yu 1)]),yf,yz,yf,(yo 1 [(yu 1)])]))),(.v (.one (yi 2)))],(.v (.one yt))⟩]
end
noncomputable def tbD:Tbl:=addTs tbC esD
set_option maxRecDepth 100000 in
theorem tbD_ok:TblOk Tryz.prog tbD:=chkT_ok T_ok mixed drX (fuel:=2000) (k:=100) (fz:=20) tbC_ok (by kernel_rfl)
end Go.Proofs.YtaihcpdpmijifaaGreat
namespace Go.Proofs.YtaihcpdpmijifaaGreat
open Go Go.Eng Go.Eng.Run
section
noncomputable def esE:List Ent:=[⟨322,[(.v (.one (yo 4 [yt,(yo 1 [(yu 2)]),yf,(yo 1 [(yu 1)]),yf,yz,yf,(yo 1 [(yu 1)])])))],(.v (.one yf))⟩,
 ⟨155,[(.v (.one yt)),(.v (.one (yo 1 [(yu 4)])))],(.v (.agg [yt,(yo 1 [(yu 4)])]))⟩,
 ⟨165,[(.v (.one (yo 1 [(yu 4)]))),(.v (.one yz))],(.v (.one (yo 1 [(yu 4)])))⟩,
 ⟨88,[(.v (.agg [yz,(yo 4 [yt,(yo 1 [(yu 2)]),yf,(yo 1 [(yu 1)])])])),(.v (.agg [(yo 1 [(yo 4 [yf,(yo 1 [(yu 1)]),yf,(yo 1 [(yu 8)])])]),(yo 4 [yf,yz,yf,(yo 1 [(yu 1)]),yf,(yo 1 [(yu 2)]),yf,(yo 1 [(yu 1)])])]))],(.tup [(.agg [(yo 1 [(yo 4 [yf,(yo 1 [(yu 1)]),yf,(yo 1 [(yu 8)])])]),(yo 4 [yf,yz,yf,(yo 1 [(yu 1)]),yt,(yo 1 [(yu 4)]),yf,(yo 1 [(yu 1)])])]),(.one (yi 0))])⟩,
 ⟨163,[(.v (.one (yo 1 [(yu 4)]))),(.v (.one yz))],(.v (.one (yo 1 [(yu 4)])))⟩,
 ⟨88,[(.v (.agg [yz,(yo 4 [yf,(yo 1 [(yu 2)]),yf,(yo 1 [(yu 1)])])])),(.v (.agg [(yo 1 [(yo 4 [yf,(yo 1 [(yu 1)]),yf,(yo 1 [(yu 8)])])]),(yo 4 [yf,yz,yf,(yo 1 [(yu 1)]),yf,(yo 1 [(yu 2)]),yf,(yo 1 [(yu 1)])])]))],(.tup [(.agg [(yo 1 [(yo 4 [yf,(yo 1 [(yu 1)]),yf,(yo 1 [(yu 8)])])]),(yo 4 [yf,yz,yf,(yo 1 [(yu 1)]),yf,(yo 1 [(yu 4)]),yf,(yo 1 [(yu 1)])])]),(.one (yi 0))])⟩,
 ⟨177,[(.v (.one (yo 1 [(yo 4 [yf,(yo 1 [(yu 1)]),yf,(yo 1 [(yu 8)])])]))),(.v (.one (yo 4 [yf,yz,yf,(yo 1 [(yu 1)]),yt,(yo 1 [(yu 4)]),yf,(yo 1 [(yu 1)])])))],(.v (.one (yo 4 [yf,yz,yf,(yo 1 [(yu 1)]),yt,(yo 1 [(yu 4)]),yf,(yo 1 [(yu 1)])])))⟩,
 ⟨89,[(.v (.agg [yt,(yo 1 [(yu 4)]),yf,(yo 1 [(yu 1)])]))],(.v (.agg [yt,(yo 1 [(yu 4)]),yf,(yo 1 [(yu 1)])]))⟩,
 ⟨168,[(.v (.agg [(yo 1 [(yo 4 [yf,(yo 1 [(yu 1)]),yf,(yo 1 [(yu 8)])])]),(yo 4 [yf,yz,yf,(yo 1 [(yu 1)]),yt,(yo 1 [(yu 4)]),yf,(yo 1 [(yu 1)])])]))],(.v (.agg [(yo 1 [(yo 4 [yf,(yo 1 [(yu 1)]),yf,(yo 1 [(yu 8)])])]),(yo 4 [yf,yz,yf,(yo 1 [(yu 1)]),yt,(yo 1 [(yu 4)]),yf,(yo 1 [(yu 1)])])]))⟩,
 ⟨177,[(.v (.one (yo 1 [(yo 4 [yf,(yo 1 [(yu 1)]),yf,(yo 1 [(yu 8)])])]))),(.v (.one (yo 4 [yf,yz,yf,(yo 1 [(yu 1)]),yf,(yo 1 [(yu 4)]),yf,(yo 1 [(yu 1)])])))],(.v (.one (yo 4 [yf,yz,yf,(yo 1 [(yu 1)]),yf,(yo 1 [(yu 4)]),yf,(yo 1 [(yu 1)])])))⟩,
 ⟨168,[(.v (.agg [(yo 1 [(yo 4 [yf,(yo 1 [(yu 1)]),yf,(yo 1 [(yu 8)])])]),(yo 4 [yf,yz,yf,(yo 1 [(yu 1)]),yf,(yo 1 [(yu 4)]),yf,(yo 1 [(yu 1)])])]))],(.v (.agg [(yo 1 [(yo 4 [yf,(yo 1 [(yu 1)]),yf,(yo 1 [(yu 8)])])]),(yo 4 [yf,yz,yf,(yo 1 [(yu 1)]),yf,(yo 1 [(yu 4)]),yf,(yo 1 [(yu 1)])])]))⟩,
 ⟨364,[(.v (.agg [yt,(yo 1 [(yu 4)]),yf,(yo 1 [(yu 1)])]))],(.v (.one yt))⟩,
 ⟨312,[(.v (.one (yo 4 [yf,yz,yf,(yo 1 [(yu 1)]),yt,(yo 1 [(yu 4)]),yf,(yo 1 [(yu 1)])]))),(.v (.one (yi 2)))],(.v (.one yt))⟩,
 ⟨312,[(.v (.one (yo 4 [yf,yz,yf,(yo 1 [(yu 1)]),yf,(yo 1 [(yu 4)]),yf,(yo 1 [(yu 1)])]))),(.v (.one (yi 2)))],(.v (.one yt))⟩,
 ⟨165,[(.v (.one (yo 1 [(yu 4)]))),(.v (.one (yo 1 [(yu 4)])))],(.v (.one (yo 1 [])))⟩,
 ⟨92,[(.v (.agg [(yo 1 [(yo 4 [yf,(yo 1 [(yu 1)]),yf,(yo 1 [(yu 8)])])]),(yo 4 [yf,yz,yf,(yo 1 [(yu 1)]),yt,(yo 1 [(yu 4)]),yf,(yo 1 [(yu 1)])])])),(.v (.agg [(yo 1 [(yo 4 [yf,(yo 1 [(yu 1)]),yf,(yo 1 [(yu 8)])])]),(yo 4 [yf,yz,yf,(yo 1 [(yu 1)]),yf,(yo 1 [(yu 4)]),yf,(yo 1 [(yu 1)])])]))],(.tup [(.agg [(yo 1 [(yo 4 [yf,(yo 1 [(yu 1)]),yf,(yo 1 [(yu 8)])])]),(yo 4 [yf,yz,yf,(yo 1 [(yu 1)]),yf,yz,yf,(yo 1 [(yu 1)])])]),(.one (yi 0))])⟩,
 ⟨78,[(.v (.agg [yz,(yo 4 [yf,(yo 1 []),yf,(yo 1 [(yu 1)])])])),(.v (.agg [(yo 1 [(yo 4 [yf,(yo 1 [(yu 1)]),yf,(yo 1 [(yu 8)])])]),(yo 4 [yf,yz,yf,(yo 1 [(yu 1)]),yf,(yo 1 [(yu 2)]),yf,(yo 1 [(yu 1)])])]))],(.tup [(.agg [(yo 1 [(yo 4 [yf,(yo 1 [(yu 1)]),yf,(yo 1 [(yu 8)])])]),(yo 4 [yf,yz,yf,(yo 1 [(yu 1)]),yt,(yo 1 [(yu 2)]),yf,(yo 1 [(yu 1)])])]),(.one (yi 0))])⟩,
 ⟨78,[(.v (.agg [yz,(yo 4 [yf,(yo 1 [(yu 2)]),yf,(yo 1 [(yu 1)])])])),(.v (.agg [(yo 1 [(yo 4 [yf,(yo 1 [(yu 1)]),yf,(yo 1 [(yu 8)])])]),(yo 4 [yf,yz,yf,(yo 1 [(yu 1)]),yf,(yo 1 [(yu 2)]),yf,(yo 1 [(yu 1)])])]))],(.tup [(.agg [(yo 1 [(yo 4 [yf,(yo 1 [(yu 1)]),yf,(yo 1 [(yu 8)])])]),(yo 4 [yf,(yo 1 [(yu 2)]),yf,(yo 1 [(yu 1)]),yt,(yo 1 [(yu 2)]),yf,(yo 1 [(yu 1)])])]),(.one (yi 0))])⟩,
 ⟨177,[(.v (.one (yo 1 [(yo 4 [yf,(yo 1 [(yu 1)]),yf,(yo 1 [(yu 8)])])]))),(.v (.one (yo 4 [yf,(yo 1 [(yu 2)]),yf,(yo 1 [(yu 1)]),yt,(yo 1 [(yu 2)]),yf,(yo 1 [(yu 1)])])))],(.v (.one (yo 4 [yf,(yo 1 [(yu 2)]),yf,(yo 1 [(yu 1)]),yt,(yo 1 [(yu 2)]),yf,(yo 1 [(yu 1)])])))⟩,
 ⟨168,[(.v (.agg [(yo 1 [(yo 4 [yf,(yo 1 [(yu 1)]),yf,(yo 1 [(yu 8)])])]),(yo 4 [yf,(yo 1 [(yu 2)]),yf,(yo 1 [(yu 1)]),yt,(yo 1 [(yu 2)]),yf,(yo 1 [(yu 1)])])]))],(.v (.agg [(yo 1 [(yo 4 [yf,(yo 1 [(yu 1)]),yf,(yo 1 [(yu 8)])])]),(yo 4 [yf,(yo 1 [(yu 2)]),yf,(yo 1 [(yu 1)]),yt,(yo 1 [(yu 2)]),yf,(yo 1 [(yu 1)])])]))⟩,
 ⟨312,[(.v (.one (yo 4 [yf,(yo 1 [(yu 2)]),yf,(yo 1 [(yu 1)]),yt,(yo 1 [(yu 2)]),yf,(yo 1 [(yu 1)])]))),(.v (.one (yi 2)))],(.v (.one yt))⟩,
 ⟨322,[(.v (.one (yo 4 [yf,(yo 1 [(yu 2)]),yf,(yo 1 [(yu 1)]),yt,(yo 1 [(yu 2)]),yf,(yo 1 [(yu 1)])])))],(.v (.one yf))⟩,
 ⟨88,[(.v (.agg [(yo 1 [(yo 4 [yf,(yo 1 [(yu 1)]),yf,(yo 1 [(yu 8)])])]),(yo 4 [yf,yz,yf,(yo 1 [(yu 1)]),yt,(yo 1 [(yu 2)]),yf,(yo 1 [(yu 1)])])])),(.v (.agg [(yo 1 [(yo 4 [yf,(yo 1 [(yu 1)]),yf,(yo 1 [(yu 8)])])]),(yo 4 [yf,(yo 1 [(yu 2)]),yf,(yo 1 [(yu 1)]),yt,(yo 1 [(yu 2)]),yf,(yo 1 [(yu 1)])])]))],(.tup [(.agg [(yo 1 [(yo 4 [yf,(yo 1 [(yu 1)]),yf,(yo 1 [(yu 8)])])]),(yo 4 [yf,(yo 1 [(yu 1)]),yf,(yo 1 [(yu 2)]),yt,(yo 1 [(yu 4)]),yf,(yo 1 [(yu 1)])])]),(.one (yi 0))])⟩,
 ⟨177,[(.v (.one (yo 1 [(yo 4 [yf,(yo 1 [(yu 1)]),yf,(yo 1 [(yu 8)])])]))),(.v (.one (yo 4 [yf,(yo 1 [(yu 1)]),yf,(yo 1 [(yu 2)]),yt,(yo 1 [(yu 4)]),yf,(yo 1 [(yu 1)])])))],(.v (.one (yo 4 [yf,(yo 1 [(yu 1)]),yf,(yo 1 [(yu 2)]),yt,(yo 1 [(yu 4)]),yf,(yo 1 [(yu 1)])])))⟩,
 ⟨168,[(.v (.agg [(yo 1 [(yo 4 [yf,(yo 1 [(yu 1)]),yf,(yo 1 [(yu 8)])])]),(yo 4 [yf,(yo 1 [(yu 1)]),yf,(yo 1 [(yu 2)]),yt,(yo 1 [(yu 4)]),yf,(yo 1 [(yu 1)])])]))],(.v (.agg [(yo 1 [(yo 4 [yf,(yo 1 [(yu 1)]),yf,(yo 1 [(yu 8)])])]),(yo 4 [yf,(yo 1 [(yu 1)]),yf,(yo 1 [(yu 2)]),yt,(yo 1 [(yu 4)]),yf,(yo 1 [(yu 1)])])]))⟩,
 ⟨312,[(.v (.one (yo 4 [yf,(yo 1 [(yu 1)]),yf,(yo 1 [(yu 2)]),yt,(yo 1 [(yu 4)]),yf,(yo 1 [(yu 1)])]))),(.v (.one (yi 2)))],(.v (.one yt))⟩,
 ⟨155,[(.v (.one yt)),(.v (.one (yo 1 [(yu 8)])))],(.v (.agg [yt,(yo 1 [(yu 8)])]))⟩,
 ⟨92,[(.v (.agg [(yo 1 [(yo 4 [yf,(yo 1 [(yu 1)]),yf,(yo 1 [(yu 8)])])]),(yo 4 [yf,(yo 1 [(yu 1)]),yf,(yo 1 [(yu 2)]),yt,(yo 1 [(yu 4)]),yf,(yo 1 [(yu 1)])])])),(.v (.agg [(yo 1 [(yo 4 [yf,(yo 1 [(yu 1)]),yf,(yo 1 [(yu 8)])])]),(yo 4 [yf,(yo 1 [(yu 1)]),yf,(yo 1 [(yu 2)]),yt,(yo 1 [(yu 4)]),yf,(yo 1 [(yu 1)])])]))],(.tup [(.agg [(yo 1 [(yo 4 [yf,(yo 1 [(yu 1)]),yf,(yo 1 [(yu 8)])])]),(yo 4 [yf,(yo 1 [(yu 1)]),yf,(yo 1 [(yu 1)]),yt,(yo 1 [(yu 8)]),yf,(yo 1 [(yu 1)])])]),(.one (yi 0))])⟩,
 ⟨364,[(.v (.agg [yt,(yo 1 [(yu 8)]),yf,(yo 1 [(yu 1)])]))],(.v (.one yt))⟩,
 ⟨312,[(.v (.one (yo 4 [yf,(yo 1 [(yu 1)]),yf,(yo 1 [(yu 1)]),yt,(yo 1 [(yu 8)]),yf,(yo 1 [(yu 1)])]))),(.v (.one (yi 2)))],(.v (.one yt))⟩,
 ⟨326,[(.v (.one (yo 1 [])))],(.v (.one yt))⟩,
 ⟨312,[(.v (.one (yo 4 [yt,(yo 1 [(yu 8)]),yf,(yo 1 [(yu 1)])]))),(.v (.one (yi 1)))],(.v (.one yt))⟩,
 ⟨157,[(.v (.one (yo 1 [(yu 8)]))),(.v (.one (yo 1 [(yu 8)])))],(.v (.one (yo 1 [(yu 64)])))⟩,
 ⟨158,[(.v (.one (yo 1 [(yu 64)])))],(.v (.one (yo 1 [(yu 64)])))⟩,
 ⟨155,[(.v (.one yf)),(.v (.one (yo 1 [(yu 64)])))],(.v (.agg [yf,(yo 1 [(yu 64)])]))⟩,
 ⟨364,[(.v (.agg [yf,(yo 1 [(yu 64)]),yf,(yo 1 [(yu 1)])]))],(.v (.one yt))⟩,
 ⟨312,[(.v (.one (yo 4 [yf,(yo 1 [(yu 64)]),yf,(yo 1 [(yu 1)])]))),(.v (.one (yi 1)))],(.v (.one yt))⟩,
 ⟨157,[(.v (.one (yo 1 [(yu 1)]))),(.v (.one (yo 1 [(yu 64)])))],(.v (.one (yo 1 [(yu 64)])))⟩,
 ⟨157,[(.v (.one (yo 1 [(yu 8)]))),(.v (.one (yo 1 [(yu 1)])))],(.v (.one (yo 1 [(yu 8)])))⟩,
 ⟨239,[(.v (.agg [yf,(yo 1 [(yu 64)])])),(.v (.agg [yf,(yo 1 [(yu 8)])]))],(.tup [(.agg [yf,(yo 1 [(yu 8)])]),(.agg [yf,yz]),(.one (yi 0))])⟩,
 ⟨83,[(.v (.agg [yf,(yo 1 [(yu 64)])])),(.v (.agg [yf,(yo 1 [(yu 8)])]))],(.v (.agg [yf,(yo 1 [(yu 8)]),yf,(yo 1 [(yu 1)])]))⟩,
 ⟨87,[(.v (.agg [yf,(yo 1 [(yu 8)]),yf,(yo 1 [(yu 1)])]))],(.v (.agg [yt,(yo 1 [(yu 8)]),yf,(yo 1 [(yu 1)])]))⟩,
 ⟨165,[(.v (.one (yo 1 [(yu 8)]))),(.v (.one (yo 1 [(yu 1)])))],(.v (.one (yo 1 [(yu 7)])))⟩,
 ⟨158,[(.v (.one (yo 1 [(yu 7)])))],(.v (.one (yo 1 [(yu 7)])))⟩,
 ⟨155,[(.v (.one yt)),(.v (.one (yo 1 [(yu 7)])))],(.v (.agg [yt,(yo 1 [(yu 7)])]))⟩,
 ⟨139,[(.v (.agg [(yo 1 [(yo 4 [yf,(yo 1 [(yu 1)]),yf,(yo 1 [(yu 8)])])]),(yo 4 [yf,(yo 1 [(yu 1)]),yf,(yo 1 [(yu 1)]),yt,(yo 1 [(yu 8)]),yf,(yo 1 [(yu 1)])])]))],(.v (.one (yi (-1))))⟩,
 ⟨17,[(.v (.agg [yf,yz,(yo 4 [yf,(yo 1 []),yf,(yo 1 [(yu 1)])]),yz,(yo 4 [yf,(yo 1 []),yf,(yo 1 [(yu 1)])]),yz,(yo 4 [yf,(yo 1 [(yu 2)]),yf,(yo 1 [(yu 1)])]),yz,(yo 4 [yf,(yo 1 [(yu 2)]),yf,(yo 1 [(yu 1)])]),yz,yz,yz,yz,yf])),(.v (.agg [(yo 1 [(yo 4 [yf,(yo 1 [(yu 1)]),yf,(yo 1 [(yu 8)])])]),(yo 4 [yf,yz,yf,(yo 1 [(yu 1)]),yf,(yo 1 [(yu 2)]),yf,(yo 1 [(yu 1)])]),(yo 1 [(yo 4 [yf,(yo 1 [(yu 1)]),yf,(yo 1 [(yu 8)])])]),(yo 4 [yf,yz,yf,(yo 1 [(yu 1)]),yf,(yo 1 [(yu 2)]),yf,(yo 1 [(yu 1)])])]))],(.v (.one yt))⟩,
 ⟨78,[(.v (.agg [(yo 1 [(yo 4 [yf,(yo 1 [(yu 1)]),yf,(yo 1 [(yu 8)])])]),(yo 4 [yf,yz,yf,(yo 1 [(yu 1)]),yt,(yo 1 [(yu 2)]),yf,(yo 1 [(yu 1)])])])),(.v (.agg [yz,(yo 4 [yf,(yo 1 []),yf,(yo 1 [(yu 1)])])]))],(.tup [(.agg [(yo 1 [(yo 4 [yf,(yo 1 [(yu 1)]),yf,(yo 1 [(yu 8)])])]),(yo 4 [yf,yz,yf,(yo 1 [(yu 1)]),yt,(yo 1 [(yu 2)]),yf,(yo 1 [(yu 1)])])]),(.one (yi 0))])⟩,
 ⟨88,[(.v (.agg [(yo 1 [(yo 4 [yf,(yo 1 [(yu 1)]),yf,(yo 1 [(yu 8)])])]),(yo 4 [yf,yz,yf,(yo 1 [(yu 1)]),yt,(yo 1 [(yu 2)]),yf,(yo 1 [(yu 1)])])])),(.v (.agg [(yo 1 [(yo 4 [yf,(yo 1 [(yu 1)]),yf,(yo 1 [(yu 8)])])]),(yo 4 [yf,yz,yf,(yo 1 [(yu 1)]),yt,(yo 1 [(yu 2)]),yf,(yo 1 [(yu 1)])])]))],(.tup [(.agg [(yo 1 [(yo 4 [yf,(yo 1 [(yu 1)]),yf,(yo 1 [(yu 8)])])]),(yo 4 [yf,(yo 1 [(yu 1)]),yf,(yo 1 [(yu 2)]),yf,yz,yf,(yo 1 [(yu 1)])])]),(.one (yi 0))])⟩,
 ⟨139,[(.v (.agg [(yo 1 [(yo 4 [yf,(yo 1 [(yu 1)]),yf,(yo 1 [(yu 8)])])]),(yo 4 [yf,yz,yf,(yo 1 [(yu 1)]),yt,(yo 1 [(yu 2)]),yf,(yo 1 [(yu 1)])])]))],(.v (.one (yi (-1))))⟩,
 ⟨88,[(.v (.agg [yz,(yo 4 [yf,(yo 1 [(yu 1)]),yf,(yo 1 [(yu 1)])])])),(.v (.agg [(yo 1 [(yo 4 [yf,(yo 1 [(yu 1)]),yf,(yo 1 [(yu 8)])])]),(yo 4 [yf,yz,yf,(yo 1 [(yu 1)]),yt,(yo 1 [(yu 2)]),yf,(yo 1 [(yu 1)])])]))],(.tup [(.agg [(yo 1 [(yo 4 [yf,(yo 1 [(yu 1)]),yf,(yo 1 [(yu 8)])])]),(yo 4 [yf,yz,yf,(yo 1 [(yu 1)]),yt,(yo 1 [(yu 2)]),yf,(yo 1 [(yu 1)])])]),(.one (yi 0))])⟩,
 ⟨88,[(.v (.agg [yz,(yo 4 [yf,yz,yf,(yo 1 [(yu 1)])])])),(.v (.agg [(yo 1 [(yo 4 [yf,(yo 1 [(yu 1)]),yf,(yo 1 [(yu 8)])])]),(yo 4 [yf,yz,yf,(yo 1 [(yu 1)]),yt,(yo 1 [(yu 2)]),yf,(yo 1 [(yu 1)])])]))],(.tup [(.agg [(yo 1 [(yo 4 [yf,(yo 1 [(yu 1)]),yf,(yo 1 [(yu 8)])])]),(yo 4 [yf,yz,yf,(yo 1 [(yu 1)]),yf,yz,yf,(yo 1 [(yu 1)])])]),(.one (yi 0))])⟩,
 ⟨92,[(.v (.agg [(yo 1 [(yo 4 [yf,(yo 1 [(yu 1)]),yf,(yo 1 [(yu 8)])])]),(yo 4 [yf,yz,yf,(yo 1 [(yu 1)]),yt,(yo 1 [(yu 2)]),yf,(yo 1 [(yu 1)])])])),(.v (.agg [(yo 1 [(yo 4 [yf,(yo 1 [(yu 1)]),yf,(yo 1 [(yu 8)])])]),(yo 4 [yf,yz,yf,(yo 1 [(yu 1)]),yf,yz,yf,(yo 1 [(yu 1)])])]))],(.tup [(.agg [(yo 1 [(yo 4 [yf,(yo 1 [(yu 1)]),yf,(yo 1 [(yu 8)])])]),(yo 4 [yf,yz,yf,(yo 1 [(yu 1)]),yt,(yo 1 [(yu 2)]),yf,(yo 1 [(yu 1)])])]),(.one (yi 0))])⟩]
end
noncomputable def tbE:Tbl:=addTs tbD esE
set_option maxRecDepth 100000 in
theorem tbE_ok:TblOk Tryz.prog tbE:=chkT_ok T_ok mixed drX (fuel:=2000) (k:=100) (fz:=20) tbD_ok (by kernel_rfl)
end Go.Proofs.YtaihcpdpmijifaaGreat
namespace Go.Proofs.YtaihcpdpmijifaaGreat
open Go Go.Eng Go.Eng.Run
section
noncomputable def esF:List Ent:=[⟨92,[(.v (.agg [(yo 1 [(yo 4 [yf,(yo 1 [(yu 1)]),yf,(yo 1 [(yu 8)])])]),(yo 4 [yf,yz,yf,(yo 1 [(yu 1)]),yf,yz,yf,(yo 1 [(yu 1)])])])),(.v (.agg [(yo 1 [(yo 4 [yf,(yo 1 [(yu 1)]),yf,(yo 1 [(yu 8)])])]),(yo 4 [yf,yz,yf,(yo 1 [(yu 1)]),yt,(yo 1 [(yu 2)]),yf,(yo 1 [(yu 1)])])]))],(.tup [(.agg [(yo 1 [(yo 4 [yf,(yo 1 [(yu 1)]),yf,(yo 1 [(yu 8)])])]),(yo 4 [yf,yz,yf,(yo 1 [(yu 1)]),yt,(yo 1 [(yu 2)]),yf,(yo 1 [(yu 1)])])]),(.one (yi 0))])⟩,
 ⟨68,[(.v (.agg [yt,yz,(yo 4 [yf,(yo 1 [(yu 1)]),yf,(yo 1 [(yu 1)])]),yz,(yo 4 [yf,(yo 1 []),yf,(yo 1 [(yu 1)])]),yz,(yo 4 [yf,(yo 1 []),yf,(yo 1 [(yu 1)])]),yz,(yo 4 [yf,(yo 1 [(yu 1)]),yf,(yo 1 [(yu 1)])]),yz,(yo 4 [yf,(yo 1 []),yf,(yo 1 [(yu 1)])]),yz,(yo 4 [yf,(yo 1 []),yf,(yo 1 [(yu 1)])]),yf])),(.v (.agg [yz,(yo 4 [yf,(yo 1 [(yu 1)]),yf,(yo 1 [(yu 1)])]),yz,(yo 4 [yf,(yo 1 []),yf,(yo 1 [(yu 1)])])])),(.v (.agg [(yo 1 [(yo 4 [yf,(yo 1 [(yu 1)]),yf,(yo 1 [(yu 8)])])]),(yo 4 [yf,yz,yf,(yo 1 [(yu 1)]),yt,(yo 1 [(yu 2)]),yf,(yo 1 [(yu 1)])]),(yo 1 [(yo 4 [yf,(yo 1 [(yu 1)]),yf,(yo 1 [(yu 8)])])]),(yo 4 [yf,yz,yf,(yo 1 [(yu 1)]),yt,(yo 1 [(yu 2)]),yf,(yo 1 [(yu 1)])])]))],(.tup [(.agg [(yo 1 [(yo 4 [yf,(yo 1 [(yu 1)]),yf,(yo 1 [(yu 8)])])]),(yo 4 [yf,yz,yf,(yo 1 [(yu 1)]),yt,(yo 1 [(yu 2)]),yf,(yo 1 [(yu 1)])]),(yo 1 [(yo 4 [yf,(yo 1 [(yu 1)]),yf,(yo 1 [(yu 8)])])]),(yo 4 [yf,yz,yf,(yo 1 [(yu 1)]),yt,(yo 1 [(yu 2)]),yf,(yo 1 [(yu 1)])]),(yi 0)]),(.one (yi 0))])⟩,
 ⟨17,[(.v (.agg [yt,yz,(yo 4 [yf,(yo 1 [(yu 1)]),yf,(yo 1 [(yu 1)])]),yz,(yo 4 [yf,(yo 1 []),yf,(yo 1 [(yu 1)])]),yz,(yo 4 [yf,(yo 1 []),yf,(yo 1 [(yu 1)])]),yz,(yo 4 [yf,(yo 1 [(yu 1)]),yf,(yo 1 [(yu 1)])]),yz,(yo 4 [yf,(yo 1 []),yf,(yo 1 [(yu 1)])]),yz,(yo 4 [yf,(yo 1 []),yf,(yo 1 [(yu 1)])]),yf])),(.v (.agg [(yo 1 [(yo 4 [yf,(yo 1 [(yu 1)]),yf,(yo 1 [(yu 8)])])]),(yo 4 [yf,yz,yf,(yo 1 [(yu 1)]),yt,(yo 1 [(yu 2)]),yf,(yo 1 [(yu 1)])]),(yo 1 [(yo 4 [yf,(yo 1 [(yu 1)]),yf,(yo 1 [(yu 8)])])]),(yo 4 [yf,yz,yf,(yo 1 [(yu 1)]),yt,(yo 1 [(yu 2)]),yf,(yo 1 [(yu 1)])])]))],(.v (.one yf))⟩,
 ⟨10,[(.v (.agg [yt,yz,(yo 4 [yf,(yo 1 [(yu 1)]),yf,(yo 1 [(yu 1)])]),yz,(yo 4 [yf,(yo 1 []),yf,(yo 1 [(yu 1)])]),yz,(yo 4 [yf,(yo 1 []),yf,(yo 1 [(yu 1)])]),yz,(yo 4 [yf,(yo 1 [(yu 1)]),yf,(yo 1 [(yu 1)])]),yz,(yo 4 [yf,(yo 1 []),yf,(yo 1 [(yu 1)])]),yz,(yo 4 [yf,(yo 1 []),yf,(yo 1 [(yu 1)])]),yf])),(.v (.agg [yf,yz,(yo 4 [yf,(yo 1 []),yf,(yo 1 [(yu 1)])]),yz,(yo 4 [yf,(yo 1 []),yf,(yo 1 [(yu 1)])]),yz,(yo 4 [yf,(yo 1 [(yu 2)]),yf,(yo 1 [(yu 1)])]),yz,(yo 4 [yf,(yo 1 [(yu 2)]),yf,(yo 1 [(yu 1)])]),yz,yz,yz,yz,yf]))],(.tup [(.one (yo 4 [(yo 1 [(yo 4 [yf,(yo 1 [(yu 1)]),yf,(yo 1 [(yu 8)])])]),(yo 4 [yf,yz,yf,(yo 1 [(yu 1)]),yf,(yo 1 [(yu 2)]),yf,(yo 1 [(yu 1)])]),(yo 1 [(yo 4 [yf,(yo 1 [(yu 1)]),yf,(yo 1 [(yu 8)])])]),(yo 4 [yf,yz,yf,(yo 1 [(yu 1)]),yf,(yo 1 [(yu 2)]),yf,(yo 1 [(yu 1)])])])),(.one (yi 0))])⟩,
 ⟨299,[(.v (.one (yo 1 [(yu 2)])))],(.v (.one (yk .u64 2)))⟩,
 ⟨299,[(.v (.one (yo 1 [(yu 1)])))],(.v (.one (yk .u64 1)))⟩,
 ⟨227,[(.v (.agg [yf,(yo 1 [(yu 2)])]))],(.v (.agg [yf,(yo 1 [(yu 2)])]))⟩,
 ⟨227,[(.v (.agg [yf,(yo 1 [(yu 1)])]))],(.v (.agg [yf,(yo 1 [(yu 1)])]))⟩,
 ⟨356,[(.v (.one (yo 1 [(yu 1)]))),(.v (.one (yo 1 [(yu 1)])))],(.v (.one (yo 1 [(yu 1)])))⟩,
 ⟨227,[(.v (.agg [yt,(yo 1 [(yu 1)])]))],(.v (.agg [yt,(yo 1 [(yu 1)])]))⟩,
 ⟨145,[(.v (.agg [yf,(yo 1 [(yu 1)])])),(.v (.agg [yf,(yo 1 [(yu 1)])]))],(.v (.agg [yf,(yo 1 [(yu 1)])]))⟩,
 ⟨356,[(.v (.one (yo 1 [(yu 2)]))),(.v (.one (yo 1 [(yu 1)])))],(.v (.one (yo 1 [(yu 2)])))⟩,
 ⟨227,[(.v (.agg [yt,(yo 1 [(yu 2)])]))],(.v (.agg [yt,(yo 1 [(yu 2)])]))⟩,
 ⟨145,[(.v (.agg [yf,(yo 1 [(yu 2)])])),(.v (.agg [yf,(yo 1 [(yu 1)])]))],(.v (.agg [yf,(yo 1 [(yu 2)])]))⟩,
 ⟨19,[(.v (.one (yi 1))),(.v (.one (yi 2)))],(.v (.agg [yf,(yo 1 [(yu 1)]),yf,(yo 1 [(yu 2)])]))⟩,
 ⟨14,[(.v (.one (yi 1))),(.v (.one (yi 2)))],(.v (.agg [yz,(yo 4 [yf,(yo 1 [(yu 1)]),yf,(yo 1 [(yu 2)])])]))⟩,
 ⟨202,[(.v (.one yz))],(.v (.one yt))⟩,
 ⟨351,[(.v (.agg [yf,(yo 1 [(yu 1)])]))],(.v (.one yt))⟩,
 ⟨283,[(.v (.agg [yf,(yo 1 [(yu 1)]),yf,(yo 1 [(yu 2)])]))],(.v (.one yt))⟩,
 ⟨347,[(.v (.agg [yf,(yo 1 [(yu 1)])]))],(.tup [(.agg [yf,(yo 1 [(yu 1)])]),(.one (yi 0))])⟩,
 ⟨347,[(.v (.agg [yf,(yo 1 [(yu 2)])]))],(.tup [(.agg [yf,(yo 1 [(yu 1)])]),(.one (yi 0))])⟩,
 ⟨278,[(.v (.agg [yf,(yo 1 [(yu 1)]),yf,(yo 1 [(yu 2)])]))],(.tup [(.agg [yf,yz,yf,yz]),(.one yf)])⟩,
 ⟨13,[(.v (.agg [yz,(yo 4 [yf,(yo 1 [(yu 1)]),yf,(yo 1 [(yu 2)])])]))],(.tup [(.agg [(yo 1 [(yo 4 [yf,(yo 1 [(yu 1)]),yf,(yo 1 [(yu 2)])])]),(yo 4 [yf,(yo 1 []),yf,(yo 1 [(yu 1)]),yf,(yo 1 [(yu 1)]),yf,(yo 1 [(yu 1)])])]),(.one (yi 0))])⟩,
 ⟨165,[(.v (.one (yo 1 [(yu 1)]))),(.v (.one (yo 1 [])))],(.v (.one (yo 1 [(yu 1)])))⟩,
 ⟨78,[(.v (.agg [yz,(yo 4 [yf,(yo 1 []),yf,(yo 1 [(yu 1)])])])),(.v (.agg [yz,(yo 4 [yf,(yo 1 [(yu 1)]),yf,(yo 1 [(yu 1)])])]))],(.tup [(.agg [yz,(yo 4 [yt,(yo 1 [(yu 1)]),yf,(yo 1 [(yu 1)])])]),(.one (yi 0))])⟩,
 ⟨90,[(.v (.agg [yz,(yo 4 [yf,(yo 1 []),yf,(yo 1 [(yu 1)])])]))],(.v (.agg [yz,(yo 4 [yf,yz,yf,(yo 1 [(yu 1)])])]))⟩,
 ⟨88,[(.v (.agg [yz,(yo 4 [yf,yz,yf,(yo 1 [(yu 1)])])])),(.v (.agg [yz,(yo 4 [yt,(yo 1 [(yu 1)]),yf,(yo 1 [(yu 1)])])]))],(.tup [(.agg [yz,(yo 4 [yf,yz,yf,(yo 1 [(yu 1)])])]),(.one (yi 0))])⟩,
 ⟨29,[(.v (.one (yi 1))),(.v (.one (yi 2)))],(.v (.agg [yf,(yo 1 [(yu 1)]),yf,(yo 1 [(yu 2)])]))⟩,
 ⟨15,[(.v (.agg [yt,yz,(yo 4 [yf,(yo 1 [(yu 1)]),yf,(yo 1 [(yu 1)])]),yz,(yo 4 [yf,(yo 1 []),yf,(yo 1 [(yu 1)])]),yz,(yo 4 [yf,(yo 1 []),yf,(yo 1 [(yu 1)])]),yz,(yo 4 [yf,(yo 1 [(yu 1)]),yf,(yo 1 [(yu 1)])]),yz,(yo 4 [yf,(yo 1 []),yf,(yo 1 [(yu 1)])]),yz,(yo 4 [yf,(yo 1 []),yf,(yo 1 [(yu 1)])]),yf]))],(.tup [(.agg [yz,(yo 4 [yf,yz,yf,(yo 1 [(yu 1)])]),(yo 7 [yz,(yo 4 [yf,(yo 1 [(yu 1)]),yf,(yo 1 [(yu 2)])]),yz,(yo 4 [yf,yz,yf,(yo 1 [(yu 1)])]),yz,(yo 4 [yf,(yo 1 [(yu 1)]),yf,(yo 1 [(yu 1)])]),(yi 0)])]),(.one (yi 0))])⟩,
 ⟨70,[(.v (.one (yi (-1))))],(.v (.agg [yt,(yo 1 [(yu 1)]),yf,(yo 1 [(yu 1)])]))⟩,
 ⟨18,[(.v (.agg [yt,(yo 1 [(yu 1)]),yf,(yo 1 [(yu 1)])])),(.v (.agg [yf,(yo 1 []),yf,(yo 1 [(yu 1)])]))],(.v (.agg [yz,(yo 4 [yt,(yo 1 [(yu 1)]),yf,(yo 1 [(yu 1)])]),yz,(yo 4 [yf,(yo 1 []),yf,(yo 1 [(yu 1)])])]))⟩,
 ⟨12,[(.v (.one (yi (-1)))),(.v (.one (yi 0)))],(.v (.agg [yz,(yo 4 [yt,(yo 1 [(yu 1)]),yf,(yo 1 [(yu 1)])]),yz,(yo 4 [yf,(yo 1 []),yf,(yo 1 [(yu 1)])])]))⟩,
 ⟨165,[(.v (.one (yo 1 [(yu 1)]))),(.v (.one yz))],(.v (.one (yo 1 [(yu 1)])))⟩,
 ⟨78,[(.v (.agg [yz,(yo 4 [yt,(yo 1 [(yu 1)]),yf,(yo 1 [(yu 1)])])])),(.v (.agg [yz,(yo 4 [yf,(yo 1 []),yf,(yo 1 [(yu 1)])])]))],(.tup [(.agg [yz,(yo 4 [yt,(yo 1 [(yu 1)]),yf,(yo 1 [(yu 1)])])]),(.one (yi 0))])⟩,
 ⟨78,[(.v (.agg [yz,(yo 4 [yf,(yo 1 [(yu 1)]),yf,(yo 1 [(yu 1)])])])),(.v (.agg [yz,(yo 4 [yf,(yo 1 [(yu 1)]),yf,(yo 1 [(yu 1)])])]))],(.tup [(.agg [yz,(yo 4 [yf,yz,yf,(yo 1 [(yu 1)])])]),(.one (yi 0))])⟩,
 ⟨51,[(.v (.agg [yt,yz,(yo 4 [yf,(yo 1 [(yu 1)]),yf,(yo 1 [(yu 1)])]),yz,(yo 4 [yf,(yo 1 []),yf,(yo 1 [(yu 1)])]),yz,(yo 4 [yf,(yo 1 [(yu 1)]),yf,(yo 1 [(yu 1)])]),yz,(yo 4 [yf,(yo 1 []),yf,(yo 1 [(yu 1)])]),yz,(yo 4 [yf,(yo 1 []),yf,(yo 1 [(yu 1)])]),yz,(yo 4 [yf,(yo 1 []),yf,(yo 1 [(yu 1)])]),yf]))],(.v (.one yt))⟩,
 ⟨17,[(.v (.agg [yt,yz,(yo 4 [yf,(yo 1 [(yu 1)]),yf,(yo 1 [(yu 1)])]),yz,(yo 4 [yf,(yo 1 []),yf,(yo 1 [(yu 1)])]),yz,(yo 4 [yf,(yo 1 [(yu 1)]),yf,(yo 1 [(yu 1)])]),yz,(yo 4 [yf,(yo 1 []),yf,(yo 1 [(yu 1)])]),yz,(yo 4 [yf,(yo 1 []),yf,(yo 1 [(yu 1)])]),yz,(yo 4 [yf,(yo 1 []),yf,(yo 1 [(yu 1)])]),yf])),(.v (.agg [yz,(yo 4 [yt,(yo 1 [(yu 1)]),yf,(yo 1 [(yu 1)])]),yz,(yo 4 [yf,(yo 1 []),yf,(yo 1 [(yu 1)])])]))],(.v (.one yt))⟩,
 ⟨16,[(.v (.agg [yt,yz,(yo 4 [yf,(yo 1 [(yu 1)]),yf,(yo 1 [(yu 1)])]),yz,(yo 4 [yf,(yo 1 []),yf,(yo 1 [(yu 1)])]),yz,(yo 4 [yf,(yo 1 [(yu 1)]),yf,(yo 1 [(yu 1)])]),yz,(yo 4 [yf,(yo 1 []),yf,(yo 1 [(yu 1)])]),yz,(yo 4 [yf,(yo 1 []),yf,(yo 1 [(yu 1)])]),yz,(yo 4 [yf,(yo 1 []),yf,(yo 1 [(yu 1)])]),yf])),(.v (.one (yo 4 [yz,(yo 4 [yt,(yo 1 [(yu 1)]),yf,(yo 1 [(yu 1)])]),yz,(yo 4 [yf,(yo 1 []),yf,(yo 1 [(yu 1)])])])))],(.tup [(.one (yo 14 [yt,yz,(yo 4 [yf,(yo 1 [(yu 1)]),yf,(yo 1 [(yu 1)])]),yz,(yo 4 [yf,(yo 1 []),yf,(yo 1 [(yu 1)])]),yz,(yo 4 [yt,(yo 1 [(yu 1)]),yf,(yo 1 [(yu 1)])]),yz,(yo 4 [yf,(yo 1 []),yf,(yo 1 [(yu 1)])]),yz,(yo 4 [yf,(yo 1 []),yf,(yo 1 [(yu 1)])]),yz,(yo 4 [yf,(yo 1 []),yf,(yo 1 [(yu 1)])]),yf,yt,yz,(yo 4 [yt,(yo 1 [(yu 1)]),yf,(yo 1 [(yu 1)])]),yz,(yo 4 [yf,(yo 1 []),yf,(yo 1 [(yu 1)])]),yz,(yo 4 [yf,(yo 1 [(yu 1)]),yf,(yo 1 [(yu 1)])]),yz,(yo 4 [yf,(yo 1 []),yf,(yo 1 [(yu 1)])]),yz,(yo 4 [yf,(yo 1 []),yf,(yo 1 [(yu 1)])]),yz,(yo 4 [yf,(yo 1 []),yf,(yo 1 [(yu 1)])]),yf])),(.one (yi 0))])⟩,
 ⟨147,[(.v (.one (yk .u64 3)))],(.v (.one (yo 1 [(yu 3)])))⟩,
 ⟨225,[(.v (.one (yo 1 [(yu 3)])))],(.v (.one (yo 1 [(yu 3)])))⟩,
 ⟨147,[(.v (.one (yk .u64 5)))],(.v (.one (yo 1 [(yu 5)])))⟩,
 ⟨225,[(.v (.one (yo 1 [(yu 5)])))],(.v (.one (yo 1 [(yu 5)])))⟩,
 ⟨299,[(.v (.one (yo 1 [(yu 5)])))],(.v (.one (yk .u64 5)))⟩,
 ⟨299,[(.v (.one (yo 1 [(yu 3)])))],(.v (.one (yk .u64 3)))⟩,
 ⟨227,[(.v (.agg [yf,(yo 1 [(yu 5)])]))],(.v (.agg [yf,(yo 1 [(yu 5)])]))⟩,
 ⟨227,[(.v (.agg [yf,(yo 1 [(yu 3)])]))],(.v (.agg [yf,(yo 1 [(yu 3)])]))⟩,
 ⟨356,[(.v (.one (yo 1 [(yu 3)]))),(.v (.one (yo 1 [(yu 1)])))],(.v (.one (yo 1 [(yu 3)])))⟩,
 ⟨227,[(.v (.agg [yt,(yo 1 [(yu 3)])]))],(.v (.agg [yt,(yo 1 [(yu 3)])]))⟩,
 ⟨145,[(.v (.agg [yf,(yo 1 [(yu 3)])])),(.v (.agg [yf,(yo 1 [(yu 1)])]))],(.v (.agg [yf,(yo 1 [(yu 3)])]))⟩,
 ⟨356,[(.v (.one (yo 1 [(yu 5)]))),(.v (.one (yo 1 [(yu 1)])))],(.v (.one (yo 1 [(yu 5)])))⟩,
 ⟨227,[(.v (.agg [yt,(yo 1 [(yu 5)])]))],(.v (.agg [yt,(yo 1 [(yu 5)])]))⟩]
end
noncomputable def tbF:Tbl:=addTs tbE esF
set_option maxRecDepth 100000 in
theorem tbF_ok:TblOk Tryz.prog tbF:=chkT_ok T_ok mixed drX (fuel:=2000) (k:=100) (fz:=20) tbE_ok (by kernel_rfl)
end Go.Proofs.YtaihcpdpmijifaaGreat
namespace Go.Proofs.YtaihcpdpmijifaaGreat
open Go Go.Eng Go.Eng.Run
section
noncomputable def esG:List Ent:=[⟨145,[(.v (.agg [yf,(yo 1 [(yu 5)])])),(.v (.agg [yf,(yo 1 [(yu 1)])]))],(.v (.agg [yf,(yo 1 [(yu 5)])]))⟩,
 ⟨19,[(.v (.one (yi 3))),(.v (.one (yi 5)))],(.v (.agg [yf,(yo 1 [(yu 3)]),yf,(yo 1 [(yu 5)])]))⟩,
 ⟨147,[(.v (.one (yk .u64 4)))],(.v (.one (yo 1 [(yu 4)])))⟩,
 ⟨225,[(.v (.one (yo 1 [(yu 4)])))],(.v (.one (yo 1 [(yu 4)])))⟩,
 ⟨299,[(.v (.one (yo 1 [(yu 4)])))],(.v (.one (yk .u64 4)))⟩,
 ⟨227,[(.v (.agg [yf,(yo 1 [(yu 4)])]))],(.v (.agg [yf,(yo 1 [(yu 4)])]))⟩,
 ⟨356,[(.v (.one (yo 1 [(yu 4)]))),(.v (.one (yo 1 [(yu 1)])))],(.v (.one (yo 1 [(yu 4)])))⟩,
 ⟨227,[(.v (.agg [yt,(yo 1 [(yu 4)])]))],(.v (.agg [yt,(yo 1 [(yu 4)])]))⟩,
 ⟨145,[(.v (.agg [yf,(yo 1 [(yu 4)])])),(.v (.agg [yf,(yo 1 [(yu 1)])]))],(.v (.agg [yf,(yo 1 [(yu 4)])]))⟩,
 ⟨19,[(.v (.one (yi 4))),(.v (.one (yi 5)))],(.v (.agg [yf,(yo 1 [(yu 4)]),yf,(yo 1 [(yu 5)])]))⟩,
 ⟨18,[(.v (.agg [yf,(yo 1 [(yu 3)]),yf,(yo 1 [(yu 5)])])),(.v (.agg [yf,(yo 1 [(yu 4)]),yf,(yo 1 [(yu 5)])]))],(.v (.agg [yz,(yo 4 [yf,(yo 1 [(yu 3)]),yf,(yo 1 [(yu 5)])]),yz,(yo 4 [yf,(yo 1 [(yu 4)]),yf,(yo 1 [(yu 5)])])]))⟩,
 ⟨177,[(.v (.one yz)),(.v (.one (yo 4 [yf,(yo 1 [(yu 3)]),yf,(yo 1 [(yu 5)])])))],(.v (.one (yo 4 [yf,(yo 1 [(yu 3)]),yf,(yo 1 [(yu 5)])])))⟩,
 ⟨89,[(.v (.agg [yf,(yo 1 [(yu 3)]),yf,(yo 1 [(yu 5)])]))],(.v (.agg [yf,(yo 1 [(yu 3)]),yf,(yo 1 [(yu 5)])]))⟩,
 ⟨168,[(.v (.agg [yz,(yo 4 [yf,(yo 1 [(yu 3)]),yf,(yo 1 [(yu 5)])])]))],(.v (.agg [yz,(yo 4 [yf,(yo 1 [(yu 3)]),yf,(yo 1 [(yu 5)])])]))⟩,
 ⟨158,[(.v (.one (yo 1 [(yu 5)])))],(.v (.one (yo 1 [(yu 5)])))⟩,
 ⟨158,[(.v (.one (yo 1 [(yu 3)])))],(.v (.one (yo 1 [(yu 3)])))⟩,
 ⟨364,[(.v (.agg [yf,(yo 1 [(yu 3)]),yf,(yo 1 [(yu 5)])]))],(.v (.one yt))⟩,
 ⟨312,[(.v (.one (yo 4 [yf,(yo 1 [(yu 3)]),yf,(yo 1 [(yu 5)])]))),(.v (.one (yi 1)))],(.v (.one yt))⟩,
 ⟨81,[(.v (.agg [yf,(yo 1 [(yu 5)])]))],(.v (.one yf))⟩,
 ⟨157,[(.v (.one (yo 1 [(yu 3)]))),(.v (.one (yo 1 [(yu 1)])))],(.v (.one (yo 1 [(yu 3)])))⟩,
 ⟨155,[(.v (.one yf)),(.v (.one (yo 1 [(yu 3)])))],(.v (.agg [yf,(yo 1 [(yu 3)])]))⟩,
 ⟨157,[(.v (.one yz)),(.v (.one (yo 1 [(yu 5)])))],(.v (.one yz))⟩,
 ⟨163,[(.v (.one (yo 1 [(yu 3)]))),(.v (.one yz))],(.v (.one (yo 1 [(yu 3)])))⟩,
 ⟨157,[(.v (.one (yo 1 [(yu 5)]))),(.v (.one (yo 1 [(yu 1)])))],(.v (.one (yo 1 [(yu 5)])))⟩,
 ⟨155,[(.v (.one yf)),(.v (.one (yo 1 [(yu 5)])))],(.v (.agg [yf,(yo 1 [(yu 5)])]))⟩,
 ⟨83,[(.v (.agg [yf,(yo 1 [(yu 3)])])),(.v (.agg [yf,(yo 1 [(yu 5)])]))],(.v (.agg [yf,(yo 1 [(yu 3)]),yf,(yo 1 [(yu 5)])]))⟩,
 ⟨78,[(.v (.agg [yz,(yo 4 [yf,(yo 1 [(yu 3)]),yf,(yo 1 [(yu 5)])])])),(.v (.agg [yz,(yo 4 [yf,(yo 1 []),yf,(yo 1 [(yu 1)])])]))],(.tup [(.agg [yz,(yo 4 [yf,(yo 1 [(yu 3)]),yf,(yo 1 [(yu 5)])])]),(.one (yi 0))])⟩,
 ⟨177,[(.v (.one yz)),(.v (.one (yo 4 [yf,(yo 1 [(yu 4)]),yf,(yo 1 [(yu 5)])])))],(.v (.one (yo 4 [yf,(yo 1 [(yu 4)]),yf,(yo 1 [(yu 5)])])))⟩,
 ⟨89,[(.v (.agg [yf,(yo 1 [(yu 4)]),yf,(yo 1 [(yu 5)])]))],(.v (.agg [yf,(yo 1 [(yu 4)]),yf,(yo 1 [(yu 5)])]))⟩,
 ⟨168,[(.v (.agg [yz,(yo 4 [yf,(yo 1 [(yu 4)]),yf,(yo 1 [(yu 5)])])]))],(.v (.agg [yz,(yo 4 [yf,(yo 1 [(yu 4)]),yf,(yo 1 [(yu 5)])])]))⟩,
 ⟨364,[(.v (.agg [yf,(yo 1 [(yu 4)]),yf,(yo 1 [(yu 5)])]))],(.v (.one yt))⟩,
 ⟨312,[(.v (.one (yo 4 [yf,(yo 1 [(yu 4)]),yf,(yo 1 [(yu 5)])]))),(.v (.one (yi 1)))],(.v (.one yt))⟩,
 ⟨83,[(.v (.agg [yf,(yo 1 [(yu 4)])])),(.v (.agg [yf,(yo 1 [(yu 5)])]))],(.v (.agg [yf,(yo 1 [(yu 4)]),yf,(yo 1 [(yu 5)])]))⟩,
 ⟨78,[(.v (.agg [yz,(yo 4 [yf,(yo 1 [(yu 4)]),yf,(yo 1 [(yu 5)])])])),(.v (.agg [yz,(yo 4 [yf,(yo 1 []),yf,(yo 1 [(yu 1)])])]))],(.tup [(.agg [yz,(yo 4 [yf,(yo 1 [(yu 4)]),yf,(yo 1 [(yu 5)])])]),(.one (yi 0))])⟩,
 ⟨157,[(.v (.one (yo 1 [(yu 3)]))),(.v (.one (yo 1 [(yu 3)])))],(.v (.one (yo 1 [(yu 9)])))⟩,
 ⟨158,[(.v (.one (yo 1 [(yu 9)])))],(.v (.one (yo 1 [(yu 9)])))⟩,
 ⟨155,[(.v (.one yf)),(.v (.one (yo 1 [(yu 9)])))],(.v (.agg [yf,(yo 1 [(yu 9)])]))⟩,
 ⟨157,[(.v (.one (yo 1 [(yu 5)]))),(.v (.one (yo 1 [(yu 5)])))],(.v (.one (yo 1 [(yu 25)])))⟩,
 ⟨158,[(.v (.one (yo 1 [(yu 25)])))],(.v (.one (yo 1 [(yu 25)])))⟩,
 ⟨155,[(.v (.one yf)),(.v (.one (yo 1 [(yu 25)])))],(.v (.agg [yf,(yo 1 [(yu 25)])]))⟩,
 ⟨83,[(.v (.agg [yf,(yo 1 [(yu 9)])])),(.v (.agg [yf,(yo 1 [(yu 25)])]))],(.v (.agg [yf,(yo 1 [(yu 9)]),yf,(yo 1 [(yu 25)])]))⟩,
 ⟨88,[(.v (.agg [yz,(yo 4 [yf,(yo 1 [(yu 3)]),yf,(yo 1 [(yu 5)])])])),(.v (.agg [yz,(yo 4 [yf,(yo 1 [(yu 3)]),yf,(yo 1 [(yu 5)])])]))],(.tup [(.agg [yz,(yo 4 [yf,(yo 1 [(yu 9)]),yf,(yo 1 [(yu 25)])])]),(.one (yi 0))])⟩,
 ⟨157,[(.v (.one (yo 1 [(yu 4)]))),(.v (.one (yo 1 [(yu 4)])))],(.v (.one (yo 1 [(yu 16)])))⟩,
 ⟨158,[(.v (.one (yo 1 [(yu 16)])))],(.v (.one (yo 1 [(yu 16)])))⟩,
 ⟨155,[(.v (.one yf)),(.v (.one (yo 1 [(yu 16)])))],(.v (.agg [yf,(yo 1 [(yu 16)])]))⟩,
 ⟨83,[(.v (.agg [yf,(yo 1 [(yu 16)])])),(.v (.agg [yf,(yo 1 [(yu 25)])]))],(.v (.agg [yf,(yo 1 [(yu 16)]),yf,(yo 1 [(yu 25)])]))⟩,
 ⟨88,[(.v (.agg [yz,(yo 4 [yf,(yo 1 [(yu 4)]),yf,(yo 1 [(yu 5)])])])),(.v (.agg [yz,(yo 4 [yf,(yo 1 [(yu 4)]),yf,(yo 1 [(yu 5)])])]))],(.tup [(.agg [yz,(yo 4 [yf,(yo 1 [(yu 16)]),yf,(yo 1 [(yu 25)])])]),(.one (yi 0))])⟩,
 ⟨177,[(.v (.one yz)),(.v (.one (yo 4 [yf,(yo 1 [(yu 9)]),yf,(yo 1 [(yu 25)])])))],(.v (.one (yo 4 [yf,(yo 1 [(yu 9)]),yf,(yo 1 [(yu 25)])])))⟩,
 ⟨89,[(.v (.agg [yf,(yo 1 [(yu 9)]),yf,(yo 1 [(yu 25)])]))],(.v (.agg [yf,(yo 1 [(yu 9)]),yf,(yo 1 [(yu 25)])]))⟩,
 ⟨168,[(.v (.agg [yz,(yo 4 [yf,(yo 1 [(yu 9)]),yf,(yo 1 [(yu 25)])])]))],(.v (.agg [yz,(yo 4 [yf,(yo 1 [(yu 9)]),yf,(yo 1 [(yu 25)])])]))⟩,
 ⟨177,[(.v (.one yz)),(.v (.one (yo 4 [yf,(yo 1 [(yu 16)]),yf,(yo 1 [(yu 25)])])))],(.v (.one (yo 4 [yf,(yo 1 [(yu 16)]),yf,(yo 1 [(yu 25)])])))⟩,
 ⟨89,[(.v (.agg [yf,(yo 1 [(yu 16)]),yf,(yo 1 [(yu 25)])]))],(.v (.agg [yf,(yo 1 [(yu 16)]),yf,(yo 1 [(yu 25)])]))⟩,
 ⟨168,[(.v (.agg [yz,(yo 4 [yf,(yo 1 [(yu 16)]),yf,(yo 1 [(yu 25)])])]))],(.v (.agg [yz,(yo 4 [yf,(yo 1 [(yu 16)]),yf,(yo 1 [(yu 25)])])]))⟩,
 ⟨364,[(.v (.agg [yf,(yo 1 [(yu 9)]),yf,(yo 1 [(yu 25)])]))],(.v (.one yt))⟩,
 ⟨312,[(.v (.one (yo 4 [yf,(yo 1 [(yu 9)]),yf,(yo 1 [(yu 25)])]))),(.v (.one (yi 1)))],(.v (.one yt))⟩,
 ⟨364,[(.v (.agg [yf,(yo 1 [(yu 16)]),yf,(yo 1 [(yu 25)])]))],(.v (.one yt))⟩,
 ⟨312,[(.v (.one (yo 4 [yf,(yo 1 [(yu 16)]),yf,(yo 1 [(yu 25)])]))),(.v (.one (yi 1)))],(.v (.one yt))⟩,
 ⟨81,[(.v (.agg [yf,(yo 1 [(yu 25)])]))],(.v (.one yf))⟩,
 ⟨157,[(.v (.one (yo 1 [(yu 9)]))),(.v (.one (yo 1 [(yu 25)])))],(.v (.one (yo 1 [(yu 225)])))⟩,
 ⟨158,[(.v (.one (yo 1 [(yu 225)])))],(.v (.one (yo 1 [(yu 225)])))⟩,
 ⟨155,[(.v (.one yf)),(.v (.one (yo 1 [(yu 225)])))],(.v (.agg [yf,(yo 1 [(yu 225)])]))⟩,
 ⟨157,[(.v (.one (yo 1 [(yu 16)]))),(.v (.one (yo 1 [(yu 25)])))],(.v (.one (yo 1 [(yu 400)])))⟩,
 ⟨158,[(.v (.one (yo 1 [(yu 400)])))],(.v (.one (yo 1 [(yu 400)])))⟩,
 ⟨155,[(.v (.one yf)),(.v (.one (yo 1 [(yu 400)])))],(.v (.agg [yf,(yo 1 [(yu 400)])]))⟩,
 ⟨163,[(.v (.one (yo 1 [(yu 225)]))),(.v (.one (yo 1 [(yu 400)])))],(.v (.one (yo 1 [(yu 625)])))⟩,
 ⟨158,[(.v (.one (yo 1 [(yu 625)])))],(.v (.one (yo 1 [(yu 625)])))⟩,
 ⟨155,[(.v (.one yf)),(.v (.one (yo 1 [(yu 625)])))],(.v (.agg [yf,(yo 1 [(yu 625)])]))⟩,
 ⟨157,[(.v (.one (yo 1 [(yu 25)]))),(.v (.one (yo 1 [(yu 25)])))],(.v (.one (yo 1 [(yu 625)])))⟩,
 ⟨156,[(.v (.one (yk .u64 625)))],(.v (.one (yo 1 [(yu 625)])))⟩,
 ⟨81,[(.v (.agg [yf,(yo 1 [(yu 625)])]))],(.v (.one yf))⟩,
 ⟨239,[(.v (.agg [yf,(yo 1 [(yu 625)])])),(.v (.agg [yf,(yo 1 [(yu 625)])]))],(.tup [(.agg [yf,(yo 1 [(yu 1)])]),(.agg [yf,yz]),(.one (yi 0))])⟩,
 ⟨83,[(.v (.agg [yf,(yo 1 [(yu 625)])])),(.v (.agg [yf,(yo 1 [(yu 625)])]))],(.v (.agg [yf,(yo 1 [(yu 1)]),yf,(yo 1 [(yu 1)])]))⟩,
 ⟨92,[(.v (.agg [yz,(yo 4 [yf,(yo 1 [(yu 9)]),yf,(yo 1 [(yu 25)])])])),(.v (.agg [yz,(yo 4 [yf,(yo 1 [(yu 16)]),yf,(yo 1 [(yu 25)])])]))],(.tup [(.agg [yz,(yo 4 [yf,(yo 1 [(yu 1)]),yf,(yo 1 [(yu 1)])])]),(.one (yi 0))])⟩,
 ⟨139,[(.v (.agg [yz,(yo 4 [yf,(yo 1 [(yu 3)]),yf,(yo 1 [(yu 5)])])]))],(.v (.one (yi 1)))⟩,
 ⟨157,[(.v (.one (yo 1 [(yu 1)]))),(.v (.one (yo 1 [(yu 3)])))],(.v (.one (yo 1 [(yu 3)])))⟩,
 ⟨157,[(.v (.one (yo 1 [(yu 1)]))),(.v (.one (yo 1 [(yu 5)])))],(.v (.one (yo 1 [(yu 5)])))⟩,
 ⟨88,[(.v (.agg [yz,(yo 4 [yf,(yo 1 [(yu 1)]),yf,(yo 1 [(yu 1)])])])),(.v (.agg [yz,(yo 4 [yf,(yo 1 [(yu 3)]),yf,(yo 1 [(yu 5)])])]))],(.tup [(.agg [yz,(yo 4 [yf,(yo 1 [(yu 3)]),yf,(yo 1 [(yu 5)])])]),(.one (yi 0))])⟩,
 ⟨157,[(.v (.one yz)),(.v (.one (yo 1 [(yu 4)])))],(.v (.one yz))⟩,
 ⟨156,[(.v (.one (yk .u64 5)))],(.v (.one (yo 1 [(yu 5)])))⟩,
 ⟨239,[(.v (.agg [yf,yz])),(.v (.agg [yf,(yo 1 [(yu 5)])]))],(.tup [(.agg [yf,yz]),(.agg [yf,yz]),(.one (yi 0))])⟩,
 ⟨239,[(.v (.agg [yf,(yo 1 [(yu 5)])])),(.v (.agg [yf,(yo 1 [(yu 5)])]))],(.tup [(.agg [yf,(yo 1 [(yu 1)])]),(.agg [yf,yz]),(.one (yi 0))])⟩,
 ⟨83,[(.v (.agg [yf,yz])),(.v (.agg [yf,(yo 1 [(yu 5)])]))],(.v (.agg [yf,yz,yf,(yo 1 [(yu 1)])]))⟩,
 ⟨88,[(.v (.agg [yz,(yo 4 [yf,yz,yf,(yo 1 [(yu 1)])])])),(.v (.agg [yz,(yo 4 [yf,(yo 1 [(yu 4)]),yf,(yo 1 [(yu 5)])])]))],(.tup [(.agg [yz,(yo 4 [yf,yz,yf,(yo 1 [(yu 1)])])]),(.one (yi 0))])⟩,
 ⟨92,[(.v (.agg [yz,(yo 4 [yf,(yo 1 [(yu 3)]),yf,(yo 1 [(yu 5)])])])),(.v (.agg [yz,(yo 4 [yf,yz,yf,(yo 1 [(yu 1)])])]))],(.tup [(.agg [yz,(yo 4 [yf,(yo 1 [(yu 3)]),yf,(yo 1 [(yu 5)])])]),(.one (yi 0))])⟩,
 ⟨157,[(.v (.one yz)),(.v (.one (yo 1 [(yu 3)])))],(.v (.one yz))⟩,
 ⟨88,[(.v (.agg [yz,(yo 4 [yf,yz,yf,(yo 1 [(yu 1)])])])),(.v (.agg [yz,(yo 4 [yf,(yo 1 [(yu 3)]),yf,(yo 1 [(yu 5)])])]))],(.tup [(.agg [yz,(yo 4 [yf,yz,yf,(yo 1 [(yu 1)])])]),(.one (yi 0))])⟩,
 ⟨157,[(.v (.one (yo 1 [(yu 1)]))),(.v (.one (yo 1 [(yu 4)])))],(.v (.one (yo 1 [(yu 4)])))⟩,
 ⟨88,[(.v (.agg [yz,(yo 4 [yf,(yo 1 [(yu 1)]),yf,(yo 1 [(yu 1)])])])),(.v (.agg [yz,(yo 4 [yf,(yo 1 [(yu 4)]),yf,(yo 1 [(yu 5)])])]))],(.tup [(.agg [yz,(yo 4 [yf,(yo 1 [(yu 4)]),yf,(yo 1 [(yu 5)])])]),(.one (yi 0))])⟩,
 ⟨163,[(.v (.one yz)),(.v (.one (yo 1 [(yu 4)])))],(.v (.one (yo 1 [(yu 4)])))⟩,
 ⟨92,[(.v (.agg [yz,(yo 4 [yf,yz,yf,(yo 1 [(yu 1)])])])),(.v (.agg [yz,(yo 4 [yf,(yo 1 [(yu 4)]),yf,(yo 1 [(yu 5)])])]))],(.tup [(.agg [yz,(yo 4 [yf,(yo 1 [(yu 4)]),yf,(yo 1 [(yu 5)])])]),(.one (yi 0))])⟩,
 ⟨68,[(.v (.agg [yt,yz,(yo 4 [yf,(yo 1 [(yu 1)]),yf,(yo 1 [(yu 1)])]),yz,(yo 4 [yf,(yo 1 []),yf,(yo 1 [(yu 1)])]),yz,(yo 4 [yf,(yo 1 []),yf,(yo 1 [(yu 1)])]),yz,(yo 4 [yf,(yo 1 [(yu 1)]),yf,(yo 1 [(yu 1)])]),yz,(yo 4 [yf,(yo 1 []),yf,(yo 1 [(yu 1)])]),yz,(yo 4 [yf,(yo 1 []),yf,(yo 1 [(yu 1)])]),yf])),(.v (.agg [yz,(yo 4 [yf,(yo 1 [(yu 1)]),yf,(yo 1 [(yu 1)])]),yz,(yo 4 [yf,(yo 1 []),yf,(yo 1 [(yu 1)])])])),(.v (.agg [yz,(yo 4 [yf,(yo 1 [(yu 3)]),yf,(yo 1 [(yu 5)])]),yz,(yo 4 [yf,(yo 1 [(yu 4)]),yf,(yo 1 [(yu 5)])])]))],(.tup [(.agg [yz,(yo 4 [yf,(yo 1 [(yu 3)]),yf,(yo 1 [(yu 5)])]),yz,(yo 4 [yf,(yo 1 [(yu 4)]),yf,(yo 1 [(yu 5)])]),(yi 0)]),(.one (yi 0))])⟩,
 ⟨139,[(.v (.agg [yz,(yo 4 [yf,(yo 1 [(yu 4)]),yf,(yo 1 [(yu 5)])])]))],(.v (.one (yi 1)))⟩,
 ⟨87,[(.v (.agg [yf,(yo 1 [(yu 4)]),yf,(yo 1 [(yu 5)])]))],(.v (.agg [yt,(yo 1 [(yu 4)]),yf,(yo 1 [(yu 5)])]))⟩,
 ⟨90,[(.v (.agg [yz,(yo 4 [yf,(yo 1 [(yu 4)]),yf,(yo 1 [(yu 5)])])]))],(.v (.agg [yz,(yo 4 [yt,(yo 1 [(yu 4)]),yf,(yo 1 [(yu 5)])])]))⟩,
 ⟨87,[(.v (.agg [yf,(yo 1 [(yu 3)]),yf,(yo 1 [(yu 5)])]))],(.v (.agg [yt,(yo 1 [(yu 3)]),yf,(yo 1 [(yu 5)])]))⟩,
 ⟨90,[(.v (.agg [yz,(yo 4 [yf,(yo 1 [(yu 3)]),yf,(yo 1 [(yu 5)])])]))],(.v (.agg [yz,(yo 4 [yt,(yo 1 [(yu 3)]),yf,(yo 1 [(yu 5)])])]))⟩,
 ⟨89,[(.v (.agg [yt,(yo 1 [(yu 3)]),yf,(yo 1 [(yu 5)])]))],(.v (.agg [yt,(yo 1 [(yu 3)]),yf,(yo 1 [(yu 5)])]))⟩,
 ⟨168,[(.v (.agg [yz,(yo 4 [yt,(yo 1 [(yu 3)]),yf,(yo 1 [(yu 5)])])]))],(.v (.agg [yz,(yo 4 [yt,(yo 1 [(yu 3)]),yf,(yo 1 [(yu 5)])])]))⟩,
 ⟨364,[(.v (.agg [yt,(yo 1 [(yu 3)]),yf,(yo 1 [(yu 5)])]))],(.v (.one yt))⟩,
 ⟨312,[(.v (.one (yo 4 [yt,(yo 1 [(yu 3)]),yf,(yo 1 [(yu 5)])]))),(.v (.one (yi 1)))],(.v (.one yt))⟩,
 ⟨87,[(.v (.agg [yt,(yo 1 [(yu 3)]),yf,(yo 1 [(yu 5)])]))],(.v (.agg [yf,(yo 1 [(yu 3)]),yf,(yo 1 [(yu 5)])]))⟩,
 ⟨90,[(.v (.agg [yz,(yo 4 [yt,(yo 1 [(yu 3)]),yf,(yo 1 [(yu 5)])])]))],(.v (.agg [yz,(yo 4 [yf,(yo 1 [(yu 3)]),yf,(yo 1 [(yu 5)])])]))⟩,
 ⟨177,[(.v (.one yz)),(.v (.one (yo 4 [yt,(yo 1 [(yu 4)]),yf,(yo 1 [(yu 5)])])))],(.v (.one (yo 4 [yt,(yo 1 [(yu 4)]),yf,(yo 1 [(yu 5)])])))⟩,
 ⟨89,[(.v (.agg [yt,(yo 1 [(yu 4)]),yf,(yo 1 [(yu 5)])]))],(.v (.agg [yt,(yo 1 [(yu 4)]),yf,(yo 1 [(yu 5)])]))⟩,
 ⟨168,[(.v (.agg [yz,(yo 4 [yt,(yo 1 [(yu 4)]),yf,(yo 1 [(yu 5)])])]))],(.v (.agg [yz,(yo 4 [yt,(yo 1 [(yu 4)]),yf,(yo 1 [(yu 5)])])]))⟩,
 ⟨364,[(.v (.agg [yt,(yo 1 [(yu 4)]),yf,(yo 1 [(yu 5)])]))],(.v (.one yt))⟩,
 ⟨312,[(.v (.one (yo 4 [yt,(yo 1 [(yu 4)]),yf,(yo 1 [(yu 5)])]))),(.v (.one (yi 1)))],(.v (.one yt))⟩,
 ⟨157,[(.v (.one (yo 1 [(yu 4)]))),(.v (.one yz))],(.v (.one yz))⟩,
 ⟨88,[(.v (.agg [yz,(yo 4 [yt,(yo 1 [(yu 4)]),yf,(yo 1 [(yu 5)])])])),(.v (.agg [yz,(yo 4 [yf,yz,yf,(yo 1 [(yu 1)])])]))],(.tup [(.agg [yz,(yo 4 [yf,yz,yf,(yo 1 [(yu 1)])])]),(.one (yi 0))])⟩,
 ⟨88,[(.v (.agg [yz,(yo 4 [yf,(yo 1 [(yu 3)]),yf,(yo 1 [(yu 5)])])])),(.v (.agg [yz,(yo 4 [yf,(yo 1 [(yu 1)]),yf,(yo 1 [(yu 1)])])]))],(.tup [(.agg [yz,(yo 4 [yf,(yo 1 [(yu 3)]),yf,(yo 1 [(yu 5)])])]),(.one (yi 0))])⟩,
 ⟨163,[(.v (.one yz)),(.v (.one (yo 1 [(yu 3)])))],(.v (.one (yo 1 [(yu 3)])))⟩]
end
noncomputable def tbG:Tbl:=addTs tbF esG
set_option maxRecDepth 100000 in
theorem tbG_ok:TblOk Tryz.prog tbG:=chkT_ok T_ok mixed drX (fuel:=2000) (k:=100) (fz:=20) tbF_ok (by kernel_rfl)
end Go.Proofs.YtaihcpdpmijifaaGreat
namespace Go.Proofs.YtaihcpdpmijifaaGreat
open Go Go.Eng Go.Eng.Run
section
noncomputable def esH:List Ent:=[⟨92,[(.v (.agg [yz,(yo 4 [yf,yz,yf,(yo 1 [(yu 1)])])])),(.v (.agg [yz,(yo 4 [yf,(yo 1 [(yu 3)]),yf,(yo 1 [(yu 5)])])]))],(.tup [(.agg [yz,(yo 4 [yf,(yo 1 [(yu 3)]),yf,(yo 1 [(yu 5)])])]),(.one (yi 0))])⟩,
 ⟨17,[(.v (.agg [yt,yz,(yo 4 [yf,(yo 1 [(yu 1)]),yf,(yo 1 [(yu 1)])]),yz,(yo 4 [yf,(yo 1 []),yf,(yo 1 [(yu 1)])]),yz,(yo 4 [yf,(yo 1 []),yf,(yo 1 [(yu 1)])]),yz,(yo 4 [yf,(yo 1 [(yu 1)]),yf,(yo 1 [(yu 1)])]),yz,(yo 4 [yf,(yo 1 []),yf,(yo 1 [(yu 1)])]),yz,(yo 4 [yf,(yo 1 []),yf,(yo 1 [(yu 1)])]),yf])),(.v (.agg [yz,(yo 4 [yf,(yo 1 [(yu 3)]),yf,(yo 1 [(yu 5)])]),yz,(yo 4 [yf,(yo 1 [(yu 4)]),yf,(yo 1 [(yu 5)])])]))],(.v (.one yt))⟩,
 ⟨358,[(.v (.one (yo 1 [(yo 4 [yf,(yo 1 [(yu 1)]),yf,(yo 1 [(yu 8)])])]))),(.v (.one yz))],(.v (.one yt))⟩,
 ⟨356,[(.v (.one (yo 1 [(yu 1)]))),(.v (.one (yo 1 [(yu 2)])))],(.v (.one (yo 1 [(yu 2)])))⟩,
 ⟨225,[(.v (.one (yo 1 [(yu 8)])))],(.v (.one (yo 1 [(yu 8)])))⟩,
 ⟨227,[(.v (.agg [yf,(yo 1 [(yu 8)])]))],(.v (.agg [yf,(yo 1 [(yu 8)])]))⟩,
 ⟨356,[(.v (.one (yo 1 [(yu 1)]))),(.v (.one (yo 1 [(yu 8)])))],(.v (.one (yo 1 [(yu 8)])))⟩,
 ⟨227,[(.v (.agg [yt,(yo 1 [(yu 8)])]))],(.v (.agg [yt,(yo 1 [(yu 8)])]))⟩,
 ⟨358,[(.v (.one (yo 1 [(yo 4 [yf,(yo 1 [(yu 1)]),yf,(yo 1 [(yu 8)])])]))),(.v (.one (yo 1 [(yo 4 [yf,(yo 1 [(yu 1)]),yf,(yo 1 [(yu 2)])])])))],(.v (.one yf))⟩,
 ⟨202,[(.v (.one (yo 1 [])))],(.v (.one yt))⟩,
 ⟨299,[(.v (.one (yo 1 [(yu 8)])))],(.v (.one (yk .u64 8)))⟩,
 ⟨147,[(.v (.one (yk .u64 8)))],(.v (.one (yo 1 [(yu 8)])))⟩,
 ⟨283,[(.v (.agg [yf,(yo 1 [(yu 1)]),yf,(yo 1 [(yu 8)])]))],(.v (.one yt))⟩,
 ⟨347,[(.v (.agg [yf,(yo 1 [(yu 8)])]))],(.tup [(.agg [yf,(yo 1 [(yu 2)])]),(.one (yi 0))])⟩,
 ⟨356,[(.v (.one (yo 1 [(yu 2)]))),(.v (.one (yo 1 [(yu 2)])))],(.v (.one (yo 1 [(yu 4)])))⟩,
 ⟨278,[(.v (.agg [yf,(yo 1 [(yu 1)]),yf,(yo 1 [(yu 8)])]))],(.tup [(.agg [yf,yz,yf,yz]),(.one yf)])⟩,
 ⟨202,[(.v (.one (yo 1 [(yo 4 [yf,(yo 1 [(yu 1)]),yf,(yo 1 [(yu 8)])])])))],(.v (.one yt))⟩,
 ⟨283,[(.v (.agg [yf,(yo 1 []),yf,(yo 1 [(yu 1)])]))],(.v (.one yt))⟩,
 ⟨227,[(.v (.agg [yf,(yo 1 [])]))],(.v (.agg [yf,(yo 1 [])]))⟩,
 ⟨351,[(.v (.agg [yf,(yo 1 [(yu 2)])]))],(.v (.one yf))⟩,
 ⟨356,[(.v (.one (yo 1 [(yu 4)]))),(.v (.one (yo 1 [(yu 2)])))],(.v (.one (yo 1 [(yu 8)])))⟩,
 ⟨145,[(.v (.agg [yf,(yo 1 [(yu 8)])])),(.v (.agg [yf,(yo 1 [(yu 2)])]))],(.v (.agg [yf,(yo 1 [(yu 4)])]))⟩,
 ⟨356,[(.v (.one (yo 1 [(yu 1)]))),(.v (.one (yo 1 [(yu 4)])))],(.v (.one (yo 1 [(yu 4)])))⟩,
 ⟨145,[(.v (.agg [yf,(yo 1 [(yu 2)])])),(.v (.agg [yf,(yo 1 [(yu 2)])]))],(.v (.agg [yf,(yo 1 [(yu 1)])]))⟩,
 ⟨347,[(.v (.agg [yf,(yo 1 [(yu 4)])]))],(.tup [(.agg [yf,(yo 1 [(yu 2)])]),(.one (yi 0))])⟩,
 ⟨278,[(.v (.agg [yf,(yo 1 [(yu 4)]),yf,(yo 1 [(yu 1)])]))],(.tup [(.agg [yf,(yo 1 [(yu 2)]),yf,(yo 1 [(yu 1)])]),(.one yt)])⟩,
 ⟨283,[(.v (.agg [yf,(yo 1 [(yu 2)]),yf,(yo 1 [(yu 1)])]))],(.v (.one yt))⟩,
 ⟨359,[(.v (.one (yo 1 [(yo 4 [yf,(yo 1 [(yu 1)]),yf,(yo 1 [(yu 8)])])]))),(.v (.one (yo 1 [(yo 4 [yf,(yo 1 [(yu 1)]),yf,(yo 1 [(yu 2)])])])))],(.tup [(.one (yo 1 [(yo 4 [yf,(yo 1 [(yu 1)]),yf,(yo 1 [(yu 8)])])])),(.one (yo 1 [(yo 4 [yf,(yo 1 []),yf,(yo 1 [(yu 1)]),yf,(yo 1 [(yu 2)]),yf,(yo 1 [(yu 1)])])])),(.one (yi 0))])⟩,
 ⟨358,[(.v (.one (yo 1 [(yo 4 [yf,(yo 1 [(yu 1)]),yf,(yo 1 [(yu 8)])])]))),(.v (.one (yo 1 [(yo 4 [yf,(yo 1 [(yu 1)]),yf,(yo 1 [(yu 8)])])])))],(.v (.one yt))⟩,
 ⟨178,[(.v (.one (yo 1 [(yo 4 [yf,(yo 1 [(yu 1)]),yf,(yo 1 [(yu 8)])])]))),(.v (.one (yo 4 [yf,(yo 1 []),yf,(yo 1 [(yu 1)]),yf,(yo 1 []),yf,(yo 1 [(yu 1)])])))],(.v (.one (yi 0)))⟩,
 ⟨73,[(.v (.agg [(yo 1 [(yo 4 [yf,(yo 1 [(yu 1)]),yf,(yo 1 [(yu 8)])])]),(yo 4 [yf,yz,yf,(yo 1 [(yu 1)]),yf,(yo 1 [(yu 2)]),yf,(yo 1 [(yu 1)])])])),(.v (.agg [(yo 1 [(yo 4 [yf,(yo 1 [(yu 1)]),yf,(yo 1 [(yu 2)])])]),(yo 4 [yf,(yo 1 []),yf,(yo 1 [(yu 1)]),yf,(yo 1 [(yu 1)]),yf,(yo 1 [(yu 1)])])]))],(.v (.one yt))⟩,
 ⟨20,[(.v (.one (yo 4 [(yo 1 [(yo 4 [yf,(yo 1 [(yu 1)]),yf,(yo 1 [(yu 8)])])]),(yo 4 [yf,yz,yf,(yo 1 [(yu 1)]),yf,(yo 1 [(yu 2)]),yf,(yo 1 [(yu 1)])]),(yo 1 [(yo 4 [yf,(yo 1 [(yu 1)]),yf,(yo 1 [(yu 8)])])]),(yo 4 [yf,yz,yf,(yo 1 [(yu 1)]),yf,(yo 1 [(yu 2)]),yf,(yo 1 [(yu 1)])])]))),(.v (.one (yo 4 [(yo 1 [(yo 4 [yf,(yo 1 [(yu 1)]),yf,(yo 1 [(yu 2)])])]),(yo 4 [yf,(yo 1 []),yf,(yo 1 [(yu 1)]),yf,(yo 1 [(yu 1)]),yf,(yo 1 [(yu 1)])]),(yo 1 [(yo 4 [yf,(yo 1 [(yu 1)]),yf,(yo 1 [(yu 2)])])]),(yo 4 [yf,(yo 1 []),yf,(yo 1 [(yu 1)]),yf,(yo 1 [(yu 1)]),yf,(yo 1 [(yu 1)])])])))],(.v (.one yt))⟩,
 ⟨23,[(.v (.one (yi 1)))],(.v (.agg [yz,(yo 4 [yf,(yo 1 [(yu 1)]),yf,(yo 1 [(yu 1)])])]))⟩,
 ⟨23,[(.v (.one (yi 0)))],(.v (.agg [yz,(yo 4 [yf,(yo 1 []),yf,(yo 1 [(yu 1)])])]))⟩,
 ⟨178,[(.v (.one yz)),(.v (.one (yo 4 [yf,(yo 1 [(yu 1)]),yf,(yo 1 [(yu 1)])])))],(.v (.one (yi 1)))⟩,
 ⟨358,[(.v (.one yz)),(.v (.one yz))],(.v (.one yt))⟩,
 ⟨22,[(.v (.agg [yz,(yo 4 [yf,(yo 1 [(yu 1)]),yf,(yo 1 [(yu 1)])])])),(.v (.agg [yz,(yo 4 [yf,(yo 1 []),yf,(yo 1 [(yu 1)])]),yz,(yo 4 [yf,(yo 1 [(yu 1)]),yf,(yo 1 [(yu 1)])]),(yi 0)]))],(.v (.agg [yz,(yo 4 [yf,(yo 1 []),yf,(yo 1 [(yu 1)])]),(yo 7 [yz,(yo 4 [yf,(yo 1 [(yu 1)]),yf,(yo 1 [(yu 2)])]),yz,(yo 4 [yf,(yo 1 []),yf,(yo 1 [(yu 1)])]),yz,(yo 4 [yf,(yo 1 [(yu 1)]),yf,(yo 1 [(yu 1)])]),(yi 0)])]))⟩,
 ⟨178,[(.v (.one yz)),(.v (.one (yo 4 [yf,(yo 1 []),yf,(yo 1 [(yu 1)])])))],(.v (.one (yi 0)))⟩,
 ⟨73,[(.v (.agg [yz,(yo 4 [yf,yz,yf,(yo 1 [(yu 1)])])])),(.v (.agg [yz,(yo 4 [yf,(yo 1 []),yf,(yo 1 [(yu 1)])])]))],(.v (.one yt))⟩,
 ⟨225,[(.v (.one yz))],(.v (.one yz))⟩,
 ⟨227,[(.v (.agg [yf,yz]))],(.v (.agg [yf,yz]))⟩,
 ⟨356,[(.v (.one yz)),(.v (.one (yo 1 [(yu 2)])))],(.v (.one (yo 1 [])))⟩,
 ⟨145,[(.v (.agg [yf,(yo 1 [])])),(.v (.agg [yf,(yo 1 [(yu 2)])]))],(.v (.agg [yf,yz]))⟩,
 ⟨178,[(.v (.one yz)),(.v (.one (yo 4 [yf,yz,yf,(yo 1 [(yu 1)])])))],(.v (.one (yi 0)))⟩,
 ⟨73,[(.v (.agg [yz,(yo 4 [yf,(yo 1 [(yu 1)]),yf,(yo 1 [(yu 2)])])])),(.v (.agg [yz,(yo 4 [yf,(yo 1 [(yu 1)]),yf,(yo 1 [(yu 2)])])]))],(.v (.one yt))⟩,
 ⟨283,[(.v (.agg [yf,yz,yf,(yo 1 [(yu 1)])]))],(.v (.one yt))⟩,
 ⟨283,[(.v (.agg [yf,(yo 1 [(yu 1)]),yf,(yo 1 [(yu 1)])]))],(.v (.one yt))⟩]
end
noncomputable def tbH:Tbl:=addTs tbG esH
set_option maxRecDepth 100000 in
theorem tbH_ok:TblOk Tryz.prog tbH:=chkT_ok T_ok mixed drX (fuel:=2000) (k:=100) (fz:=20) tbG_ok (by kernel_rfl)
end Go.Proofs.YtaihcpdpmijifaaGreat
namespace Go.Proofs.YtaihcpdpmijifaaGreat
open Go Go.Eng Go.Eng.Run
section
noncomputable def esI:List Ent:=[⟨21,[(.v (.agg [yz,(yo 4 [yf,yz,yf,(yo 1 [(yu 1)])]),(yo 7 [yz,(yo 4 [yf,(yo 1 [(yu 1)]),yf,(yo 1 [(yu 2)])]),yz,(yo 4 [yf,yz,yf,(yo 1 [(yu 1)])]),yz,(yo 4 [yf,(yo 1 [(yu 1)]),yf,(yo 1 [(yu 1)])]),(yi 0)])])),(.v (.agg [yz,(yo 4 [yf,(yo 1 []),yf,(yo 1 [(yu 1)])]),(yo 7 [yz,(yo 4 [yf,(yo 1 [(yu 1)]),yf,(yo 1 [(yu 2)])]),yz,(yo 4 [yf,(yo 1 []),yf,(yo 1 [(yu 1)])]),yz,(yo 4 [yf,(yo 1 [(yu 1)]),yf,(yo 1 [(yu 1)])]),(yi 0)])]))],(.v (.one yt))⟩]
end
noncomputable def tbI:Tbl:=addTs tbH esI
set_option maxRecDepth 100000 in
theorem tbI_ok:TblOk Tryz.prog tbI:=chkT_ok T_ok mixed drX (fuel:=2000) (k:=100) (fz:=20) tbH_ok (by kernel_rfl)
end Go.Proofs.YtaihcpdpmijifaaGreat
namespace Go.Proofs.YtaihcpdpmijifaaGreat
open Go Go.Eng Go.Eng.Run
set_option maxRecDepth 100000 in
theorem awakeR:Pr Tryz.prog 5 [] (.one (.bool true)):=pure_of_runs T_ok mixed (orcT_ok tbI_ok) drX (fuel:=2000) (k:=100) (fz:=20) (args:=[]) (r:=.v (.one (.cl (.bool true)))) rfl (by kernel_rfl)
end Go.Proofs.YtaihcpdpmijifaaGreat
set_option maxHeartbeats 2000000
namespace Go.Proofs.YtaihcpdpmijifaaGreat
open Go Go.Eng Go.Geo
theorem r6Zero1 (q:Rat):Pr Tryz.prog 103 [.one (.rows 4 0 (fun i=>qC ([q].getD (1+i) default)))] (.one (.bool true)):=by
 refine pw Tryz.func103 ⟨[0,2,3,7,17],[]⟩ ?_;simp only[Tryz.f103,Tryz.ntmps103,iz,seval];simp only[vx,T,seval];refine Lk (fun _:Unit=>⟨[(0,.one (.rows 4 0 (fun i=>qC ([q].getD (1+i) default)))),(2,.one (.bool false)),(3,.one (.int .i64 0))],[],3,18⟩) (fun _=>0) () ?_ (fun _=>?_)
 ·refine Sa ?_;simp only[ry,seval,rz]
 simp only[vx,T,seval];exact Ve rfl
theorem r9Rat (q:Rat):Pr Tryz.prog 8 [NV q] (.tup [QV q,.one (.bool true)]):=by
 have c:Pr Tryz.prog 40 [eV [q]] (.tup [QV q,.one (.bool true)]):=by
  have z:=r6Zero1 q;refine pw Tryz.func40 ⟨[0,2,3,12],[]⟩ ?_;simp only[Tryz.f40,Tryz.ntmps40,iz,seval];simp only[vx,T,seval,eV,QsC];refine Cg z ?_;simp only[vx,T,seval,eV,QsC,qC,X0];exact Ve rfl
 refine pw Tryz.func8 ⟨[0,1,2,3],[]⟩ ?_;simp only[Tryz.f8,Tryz.ntmps8,iz,seval];simp only[vx,T,seval,NV,QsC];refine Cg c ?_;simp only[vx,T,seval,QV,QC];exact Ve rfl
theorem midAll (d:Dr)(hd:d.ok)(hv:d.cu.vld=true):∃x y:Rat,Pr Tryz.prog 6 [.agg (cuL d.cu)] (.tup [WV x y,.one (.int .i64 0)])∧Pr Tryz.prog 7 [.agg (cuL d.cu),WV x y] (.one (.bool true)):=by
 have hsm:=drSm hd;have hst:=hd.2.1
 cases ha:d.arc with
 |false=>
  have e:d.cu=⟨false,d.cw,atQ d.a0 d.un,atQ d.a1 d.un,atQ d.b0 d.un,atQ d.b1 d.un,0,0⟩:=by unfold Dr.cu;rw[ha];rfl
  rw[e]at hsm hv⊢
  generalize atQ d.a0 d.un=ax at*
  generalize atQ d.a1 d.un=ay at*
  generalize atQ d.b0 d.un=bx at*
  generalize atQ d.b1 d.un=by' at*
  obtain⟨⟨s1,s2⟩,⟨s3,s4⟩,s5,s6⟩:=hsm;simp only at s1 s2 s3 s4 s5 s6;have hne:¬(ax=bx∧ay=by'):=by
   unfold Cu.vld at hv;simp only[cond_false]at hv
   intro⟨h1,h2⟩
   rw[h1,h2]at hv;simp at hv
  obtain⟨e1,e2,e3,e4,e5⟩:=mid_seg hne;have hw:Sm 1 (mkRat 1 2):=show qm (mkRat 1 2)≤1 by decide+kernel
  have t1:=(s1.add s3).mul hw;have t2:=(s2.add s4).mul hw;have k:=r47OnS d.cw ax ay bx by' 0 0 ((ax+bx)*mkRat 1 2) ((ay+by')*mkRat 1 2) (B:=64) (by decide) (s1.mono (by decide)) (s2.mono (by decide)) (s3.mono (by decide)) (s4.mono (by decide)) (s5.mono (by decide)) (s6.mono (by decide)) (t1.mono (by decide)) (t2.mono (by decide)) e1 e2 e3;exact⟨_,_,cuMidS d.cw ax ay bx by' 0 0 (B:=16) (by decide) s1 s2 s3 s4 s5 s6,
   r47Within false d.cw ax ay bx by' 0 0 _ _ (B:=64) (by decide) (s1.mono (by decide)) (s2.mono (by decide)) (s3.mono (by decide)) (s4.mono (by decide)) (s5.mono (by decide)) (s6.mono (by decide)) (t1.mono (by decide)) (t2.mono (by decide)) k e4 e5⟩
 |true=>
  obtain⟨f1,f2,f3,f4⟩:=arc_form d ha hst hv;have hs16:(d.st%16).toNat<16:=by omega
  have hun:=un_one _ hs16;have hmid:=mid_all _ hs16
  generalize(d.st%16).toNat=s at*
  generalize d.cu=c at*
  obtain⟨arc,cw,ax,ay,bx,by',zx,zy⟩:=c;simp only at f1 f2 f3 f4;subst f1;subst f2;obtain⟨⟨s1,s2⟩,⟨s3,s4⟩,s5,s6⟩:=hsm;simp only at s1 s2 s3 s4 s5 s6
  cases hcw:d.cw with
  |false=>
   obtain⟨hN,pe⟩:=f3 hcw;have hb:=hmid.1;have uw:enX s*enX s+enY false s*enY false s=1:=hun;unfold midB at hb
   generalize midJ false s=J at*
   generalize enX s=U at*
   generalize enY false s=W at*
   simp only[Bool.and_eq_true,decide_eq_true_eq,List.all_eq_true,List.mem_range,Bool.not_eq_true']at hb;obtain⟨⟨⟨hJ,hno⟩,hst'⟩,hwit⟩:=hb;have hcs:=cs_one J hJ;obtain⟨⟨_,q1,q2⟩,_⟩:=cs_qm J hJ;have hm:=cuMidA false ax ay bx by' zx zy ax ay bx by' (cuCcw0 true ax ay bx by' zx zy) U W hN pe uw s1 s2 s3 s4 s5 s6 J hJ hno hst'
   generalize cosQ (tQ J)=cc at*
   generalize sinQ (tQ J)=ss at*
   have pq:Pn zx zy (ax-zx) (ay-zy) cc ss (zx+((ax-zx)*cc+ -(ay-zy)*ss)) (zy+((ay-zy)*cc+(ax-zx)*ss)):=⟨by grind,rfl⟩;have p1:=Pn.one zx zy ax ay;have r1:=s1.sub s5;have r2:=s2.sub s6;have t1:Sm 128 (zx+((ax-zx)*cc+ -(ay-zy)*ss)):=(s5.add ((r1.mul (show Sm 1 cc from q1)).add (r2.neg.mul (show Sm 1 ss from q2)))).mono (by decide);have t2:Sm 128 (zy+((ay-zy)*cc+(ax-zx)*ss)):=(s6.add ((r2.mul (show Sm 1 cc from q1)).add (r1.mul (show Sm 1 ss from q2)))).mono (by decide)
   generalize zx+((ax-zx)*cc+ -(ay-zy)*ss)=x at*
   generalize zy+((ay-zy)*cc+(ax-zx)*ss)=y at*
   have one1:(1:Rat)*1+0*0=1:=by decide+kernel
   have k:=r47OnA0 ax ay bx by' zx zy x y (B:=128) (by decide) (s1.mono (by decide)) (s2.mono (by decide)) (s3.mono (by decide)) (s4.mono (by decide)) (s5.mono (by decide)) (s6.mono (by decide)) t1 t2 (p1.pow0 one1 pq hcs) (p1.ne0 hN one1) (pq.ne0 hN hcs) (pe.ne0 hN uw);rw[on_stop hN p1 pe pq]at k;unfold witB at hwit;simp only[cond_false,Bool.and_eq_true,Bool.not_eq_true']at hwit;obtain⟨⟨w1,w2⟩,w3⟩:=hwit;rw[w1]at k;refine⟨x,y,hm,r47Within true false ax ay bx by' zx zy x y (B:=128) (by decide) (s1.mono (by decide)) (s2.mono (by decide)) (s3.mono (by decide)) (s4.mono (by decide)) (s5.mono (by decide)) (s6.mono (by decide)) t1 t2 k ?_ ?_⟩
   ·rw[p1.eqB hN pq,←Bool.decide_and];rw[←Bool.decide_and]at w2;exact decide_eq_false fun⟨h1,h2⟩=>of_decide_eq_false w2 ⟨h1.symm,h2.symm⟩
   rw[pe.eqB hN pq,←Bool.decide_and];rw[←Bool.decide_and]at w3;exact decide_eq_false fun⟨h1,h2⟩=>of_decide_eq_false w3 ⟨h1.symm,h2.symm⟩
  |true=>
   obtain⟨hN,pe⟩:=f4 hcw;have hb:=hmid.2;have uw:enX s*enX s+enY true s*enY true s=1:=by
    have:enX s*enX s+enY true s*enY true s=uX s*uX s+uY s*uY s:=by unfold enX enY;simp only[cond_true];grind
    rw[this];exact hun
   unfold midB at hb
   generalize midJ true s=J at*
   generalize enX s=U at*
   generalize enY true s=W at*
   simp only[Bool.and_eq_true,decide_eq_true_eq,List.all_eq_true,List.mem_range,Bool.not_eq_true']at hb;obtain⟨⟨⟨hJ,hno⟩,hst'⟩,hwit⟩:=hb;have hcs:=cs_one J hJ;obtain⟨⟨_,q1,q2⟩,_⟩:=cs_qm J hJ;have hm:=cuMidA true ax ay bx by' zx zy bx by' ax ay (cuCcw1 true ax ay bx by' zx zy) U W hN pe uw s3 s4 s1 s2 s5 s6 J hJ hno hst'
   generalize cosQ (tQ J)=cc at*
   generalize sinQ (tQ J)=ss at*
   have pq:Pn zx zy (bx-zx) (by'-zy) cc ss (zx+((bx-zx)*cc+ -(by'-zy)*ss)) (zy+((by'-zy)*cc+(bx-zx)*ss)):=⟨by grind,rfl⟩;have p1:=Pn.one zx zy bx by';have r1:=s3.sub s5;have r2:=s4.sub s6;have t1:Sm 128 (zx+((bx-zx)*cc+ -(by'-zy)*ss)):=(s5.add ((r1.mul (show Sm 1 cc from q1)).add (r2.neg.mul (show Sm 1 ss from q2)))).mono (by decide);have t2:Sm 128 (zy+((by'-zy)*cc+(bx-zx)*ss)):=(s6.add ((r2.mul (show Sm 1 cc from q1)).add (r1.mul (show Sm 1 ss from q2)))).mono (by decide)
   generalize zx+((bx-zx)*cc+ -(by'-zy)*ss)=x at*
   generalize zy+((by'-zy)*cc+(bx-zx)*ss)=y at*
   have one1:(1:Rat)*1+0*0=1:=by decide+kernel
   have k:=r47OnA1 ax ay bx by' zx zy x y (B:=128) (by decide) (s1.mono (by decide)) (s2.mono (by decide)) (s3.mono (by decide)) (s4.mono (by decide)) (s5.mono (by decide)) (s6.mono (by decide)) t1 t2 (pe.pow0 uw pq hcs) (pe.ne0 hN uw) (pq.ne0 hN hcs) (p1.ne0 hN one1);rw[on_wit hN p1 pe pq]at k;unfold witB at hwit;simp only[cond_true,Bool.and_eq_true,Bool.not_eq_true']at hwit;obtain⟨⟨w1,w2⟩,w3⟩:=hwit;rw[w1]at k;refine⟨x,y,hm,r47Within true true ax ay bx by' zx zy x y (B:=128) (by decide) (s1.mono (by decide)) (s2.mono (by decide)) (s3.mono (by decide)) (s4.mono (by decide)) (s5.mono (by decide)) (s6.mono (by decide)) t1 t2 k ?_ ?_⟩
   ·rw[pe.eqB hN pq,←Bool.decide_and];rw[←Bool.decide_and]at w3;exact decide_eq_false fun⟨h1,h2⟩=>of_decide_eq_false w3 ⟨h1.symm,h2.symm⟩
   rw[p1.eqB hN pq,←Bool.decide_and];rw[←Bool.decide_and]at w2;exact decide_eq_false fun⟨h1,h2⟩=>of_decide_eq_false w2 ⟨h1.symm,h2.symm⟩
end Go.Proofs.YtaihcpdpmijifaaGreat
set_option maxHeartbeats 2000000
namespace Go.Proofs.YtaihcpdpmijifaaGreat
open Go Go.Eng Go.Geo
theorem midNo {m:Nat}{f:Nat→Dr}(h:Pr Tryz.prog 4 [.one (drC m f),.one (.int .i64 2)] (.tup [.one .nil,.one (.bool false)])):Pr Tryz.prog 3 [.one (drC m f)] (.one (.bool true)):=by
 have w:=awakeR;refine pw Tryz.func3 ⟨[0,2,3,4,6,7,8,10,12,23,25,26,27,28,43,61],[]⟩ ?_;simp only[Tryz.f3,Tryz.ntmps3,iz,seval];simp only[vx,T,seval,drC];refine Cg h ?_;simp only[vx,T,seval];refine Cg w ?_;simp only[vx,T,seval];refine Cg w ?_;simp only[vx,T,seval];exact Ve rfl
theorem midYes (m:Nat)(f:Nat→Dr)(hm:m≤2)(cs:Nat→Cu)(h:Pr Tryz.prog 4 [.one (drC m f),.one (.int .i64 2)] (.tup [.one (cuC m cs),.one (.bool true)]))
  (hall:∀i,i<m→∃x y:Rat,Pr Tryz.prog 6 [.agg (cuL (cs i))] (.tup [WV x y,.one (.int .i64 0)])∧Pr Tryz.prog 7 [.agg (cuL (cs i)),WV x y] (.one (.bool true))):
  Pr Tryz.prog 3 [.one (drC m f)] (.one (.bool true)):=by
 have w:=awakeR;refine pw Tryz.func3 ⟨[0,2,3,4,6,7,8,10,12,23,25,26,27,28,43,61],[]⟩ ?_;simp only[Tryz.f3,Tryz.ntmps3,iz,seval];simp only[vx,T,seval,drC];refine Cg h ?_;simp only[vx,T,seval,cuC];refine Cg w ?_;simp only[vx,T,seval,cuC];refine Lk (fun y:{i:Nat//i≤m}=>⟨[(2,.one (.bool false)),(25,.one (cuC m cs)),(26,.one (.int .i64 m)),(27,.one (.int .i64 y.1))],[],1,63⟩) (fun y=>m-y.1) ⟨0,O2 _⟩ ?_ (fun⟨i,hi⟩=>?_)
 ·refine Sa ?_;simp only[ry,seval,rz,cuC]
 have i1:=wI i (by omega);simp only[vx,T,seval,cuC];refine⟨fun g=>Lg ?_,fun g=>Lg ?_⟩
 ·have him:i<m:=by omega
  obtain⟨x,y,c1,c2⟩:=hall i him;have c3:=r9Rat x;have c4:=r9Rat y;obtain⟨c,hc⟩:∃c,c=cs i:=⟨_,rfl⟩;rw[←hc]at c1 c2;simp only[vx,T,seval,cuC,←hc,cuL,CuC];refine⟨by omega,Cg c1 ?_⟩;simp only[vx,T,seval,WV,cuL,CuC,QsC,i1];refine Cg c2 ?_;simp only[vx,T,seval,WV,cuL,CuC,QsC,i1];refine Cg c3 ?_;simp only[vx,T,seval,QV,QC,QsC,i1];refine Cg c4 ?_;simp only[vx,T,seval,QV,QC,QsC,i1];refine Lq ⟨i+1,by omega⟩ ?_ ?_
  ·refine Sa ?_;simp only[ry,seval,rz,cuC]
  simp only;omega
 simp only[vx,T,seval,cuC];exact Ve rfl
theorem lawMid (m:Nat)(f:Nat→Dr)(hf:∀i,i<m→(f i).ok):Pr Tryz.prog 3 [.one (drC m f)] (.one (.bool true)):=by
 by_cases hm:m≤2
 ·obtain⟨K,h1,h2,h3⟩:=firstNo (fun i=>(f i).cu.vld) m;have c:=r47Curves m f hf 2 (by decide) hm K h2 h1 h3
  by_cases hK:K=m
  ·rw[if_pos hK]at c;subst hK;exact midYes K f hm _ c fun i hi=>midAll (f i) (hf i hi) (h2 i hi)
  rw[if_neg hK]at c;exact midNo c
 exact midNo (r47CurvesN m f 2 (by decide) (by omega))
end Go.Proofs.YtaihcpdpmijifaaGreat
