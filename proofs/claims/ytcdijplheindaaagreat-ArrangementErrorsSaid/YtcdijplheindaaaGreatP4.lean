/-
  ArrangementErrors: for every input the law returns true, and each argument reads afterwards as it read before. No condition.
  (Text 4 of 8; made by a program out of smaller texts.)
-/
import Derived.Test.YtcdijplheindaaaGreatProg
import Derived.KernelRfl
import Derived.IntWalk
import Derived.RangeFuncBox
import Derived.RangeFuncLeaves
import Derived.Shelf.Abstract
import Derived.WalkKit
import Derived.OwnWalkIn
import Derived.TacticsInMore
import Derived.LoopNIn
import Derived.LoopIn
import Derived.Lib.Hide
import Derived.Test.YtcdijplheindaaaGreatChecked
import Derived.Test.YtcdijplheindaaaGreatPa
import Derived.Test.YtcdijplheindaaaGreatP3
set_option linter.unusedSimpArgs false
set_option linter.unusedVariables false
set_option maxHeartbeats 16000000
set_option maxRecDepth 10000
open Nat renaming reduceAdd→J1,reduceMul→J2,reduceSub→J3,reduceEqDiff→J4,reduceLT→J5,reduceLeDiff→J6,reduceBEq→J7,reduceDiv→J8,reduceMod→J9,reducePow→J0
open Int renaming reduceToNat→K1,reduceLE→K2,reduceLT→K3,reduceEq→K4,reducePow→K5,reduceSub→K6,reduceNeg→K7,natCast_add→X2,natCast_one→X3,natCast_zero→X4
open List renaming getD_cons_zero→X0,getD_cons_succ→X1,length_take→X5,length_append→X6,getD_eq_getElem?_getD→X7,getElem?_eq_getElem→X8
open Nat renaming le_trans→O0,le_refl→O1,zero_le→O2,pow_le_pow_right→O3,pow_succ→O4,mul_comm→O6,mod_eq_of_lt→O7,mul_le_mul_right→O8,mul_le_mul_left→O9
open Int renaming toNat_natCast→Q1,natCast_mul→Q2
open And renaming intro→Q3
open Go.IntWalk renaming i64_in→Q4,u64_in→Q5
namespace Go.Proofs.YtcdijplheindaaaGreat
open Go Go.Eng
def T:Nat→Option Ty
 |2=>some ⟨.int .i64,1,8,[.int .i64 0],[]⟩
 |3=>some ⟨.int .i64,1,8,[.int .i64 0],[]⟩
 |4=>some ⟨.bool,1,1,[.bool false],[]⟩
 |5=>some ⟨.int .u8,1,1,[.int .u8 0],[]⟩
 |9=>some ⟨.str,1,16,[.str ⟨#[]⟩],[]⟩
 |22=>some ⟨.sl 85,1,24,[.nil],[]⟩
 |24=>some ⟨.sl 34,1,24,[.nil],[]⟩
 |27=>some ⟨.sl 28,1,24,[.nil],[]⟩
 |28=>some ⟨.sl 67,1,24,[.nil],[]⟩
 |29=>some ⟨.st [(0,1),(1,1)],2,48,[.nil,.nil],[true,true]⟩
 |30=>some ⟨.st [(0,1),(1,1)],2,48,[.nil,.nil],[true,true]⟩
 |31=>some ⟨.st [(0,2),(2,2)],4,96,[.nil,.nil,.nil,.nil],[false,false]⟩
 |32=>some ⟨.st [(0,2),(2,2)],4,96,[.nil,.nil,.nil,.nil],[false,false]⟩
 |33=>some ⟨.st [(0,1),(1,4),(5,4),(9,4),(13,1)],14,304,[.bool false,.nil,.nil,.nil,.nil,.nil,.nil,.nil,.nil,.nil,.nil,.nil,.nil,.bool false],[true,false,false,false,true]⟩
 |34=>some ⟨.st [(0,1),(1,4),(5,4),(9,4),(13,1)],14,304,[.bool false,.nil,.nil,.nil,.nil,.nil,.nil,.nil,.nil,.nil,.nil,.nil,.nil,.bool false],[true,false,false,false,true]⟩
 |35=>some ⟨.sl 32,1,24,[.nil],[]⟩
 |36=>some ⟨.sl 52,1,24,[.nil],[]⟩
 |37=>some ⟨.st [(0,1),(1,1)],2,48,[.nil,.nil],[true,true]⟩
 |38=>some ⟨.st [(0,1),(1,1)],2,48,[.nil,.nil],[true,true]⟩
 |39=>some ⟨.int .i64,1,8,[.int .i64 0],[]⟩
 |47=>some ⟨.sl 3,1,24,[.nil],[]⟩
 |51=>some ⟨.st [(0,1),(1,1),(2,14),(16,1)],17,344,[.int .i64 0,.int .i64 0,.bool false,.nil,.nil,.nil,.nil,.nil,.nil,.nil,.nil,.nil,.nil,.nil,.nil,.bool false,.nil],[true,true,false,true]⟩
 |52=>some ⟨.st [(0,1),(1,1),(2,14),(16,1)],17,344,[.int .i64 0,.int .i64 0,.bool false,.nil,.nil,.nil,.nil,.nil,.nil,.nil,.nil,.nil,.nil,.nil,.nil,.bool false,.nil],[true,true,false,true]⟩
 |63=>some ⟨.sl 187,1,24,[.nil],[]⟩
 |64=>some ⟨.st [(0,1),(1,1)],2,32,[.bool false,.nil],[true,true]⟩
 |65=>some ⟨.st [(0,1),(1,1)],2,32,[.bool false,.nil],[true,true]⟩
 |66=>some ⟨.st [(0,2),(2,2)],4,64,[.bool false,.nil,.bool false,.nil],[false,false]⟩
 |67=>some ⟨.st [(0,2),(2,2)],4,64,[.bool false,.nil,.bool false,.nil],[false,false]⟩
 |72=>some ⟨.sl 74,1,24,[.nil],[]⟩
 |73=>some ⟨.st [(0,1),(1,4),(5,1),(6,2)],8,160,[.int .i64 0,.nil,.nil,.nil,.nil,.int .i64 0,.nil,.nil],[true,false,true,false]⟩
 |74=>some ⟨.st [(0,1),(1,4),(5,1),(6,2)],8,160,[.int .i64 0,.nil,.nil,.nil,.nil,.int .i64 0,.nil,.nil],[true,false,true,false]⟩
 |82=>some ⟨.int .i8,1,1,[.int .i8 0],[]⟩
 |83=>some ⟨.arr 2 82,2,2,[.int .i8 0,.int .i8 0],[]⟩
 |84=>some ⟨.st [(0,1),(1,1),(2,2),(4,2),(6,1),(7,1)],8,8,[.bool false,.bool false,.int .i8 0,.int .i8 0,.int .i8 0,.int .i8 0,.int .u8 0,.int .u8 0],[true,true,false,false,true,true]⟩
 |85=>some ⟨.st [(0,1),(1,1),(2,2),(4,2),(6,1),(7,1)],8,8,[.bool false,.bool false,.int .i8 0,.int .i8 0,.int .i8 0,.int .i8 0,.int .u8 0,.int .u8 0],[true,true,false,false,true,true]⟩
 |88=>some ⟨.st [(0,4),(4,2)],6,144,[.nil,.nil,.nil,.nil,.nil,.nil],[false,false]⟩
 |89=>some ⟨.st [(0,4),(4,2)],6,144,[.nil,.nil,.nil,.nil,.nil,.nil],[false,false]⟩
 |99=>some ⟨.st [(0,4),(4,1)],5,104,[.nil,.nil,.nil,.nil,.int .i64 0],[false,true]⟩
 |100=>some ⟨.st [(0,4),(4,1)],5,104,[.nil,.nil,.nil,.nil,.int .i64 0],[false,true]⟩
 |122=>some ⟨.int .u64,1,8,[.int .u64 0],[]⟩
 |128=>some ⟨.st [(0,1)],1,8,[.int .i64 0],[true]⟩
 |129=>some ⟨.st [(0,1)],1,8,[.int .i64 0],[true]⟩
 |135=>some ⟨.st [(0,1)],1,8,[.int .i64 0],[true]⟩
 |136=>some ⟨.st [(0,1)],1,8,[.int .i64 0],[true]⟩
 |141=>some ⟨.sl 30,1,24,[.nil],[]⟩
 |148=>some ⟨.st [(0,2),(2,2),(4,2)],6,144,[.nil,.nil,.nil,.nil,.nil,.nil],[false,false,false]⟩
 |149=>some ⟨.st [(0,2),(2,2),(4,2)],6,144,[.nil,.nil,.nil,.nil,.nil,.nil],[false,false,false]⟩
 |150=>some ⟨.st [(0,1),(1,6),(7,4),(11,6),(17,4)],21,488,[.int .i64 0,.nil,.nil,.nil,.nil,.nil,.nil,.nil,.nil,.nil,.nil,.nil,.nil,.nil,.nil,.nil,.nil,.nil,.nil,.nil,.nil],[true,false,false,false,false]⟩
 |151=>some ⟨.st [(0,1),(1,6),(7,4),(11,6),(17,4)],21,488,[.int .i64 0,.nil,.nil,.nil,.nil,.nil,.nil,.nil,.nil,.nil,.nil,.nil,.nil,.nil,.nil,.nil,.nil,.nil,.nil,.nil,.nil],[true,false,false,false,false]⟩
 |162=>some ⟨.st [(0,1),(1,1)],2,48,[.nil,.nil],[true,true]⟩
 |163=>some ⟨.st [(0,1),(1,1)],2,48,[.nil,.nil],[true,true]⟩
 |175=>some ⟨.int .u64,1,8,[.int .u64 0],[]⟩
 |179=>some ⟨.int .i64,1,8,[.int .i64 0],[]⟩
 |187=>some ⟨.int .u32,1,4,[.int .u32 0],[]⟩
 |192=>some ⟨.arr 3 2,3,24,[.int .i64 0,.int .i64 0,.int .i64 0],[]⟩
 |193=>some ⟨.arr 16 192,48,384,[.int .i64 0,.int .i64 0,.int .i64 0,.int .i64 0,.int .i64 0,.int .i64 0,.int .i64 0,.int .i64 0,.int .i64 0,.int .i64 0,.int .i64 0,.int .i64 0,.int .i64 0,.int .i64 0,.int .i64 0,.int .i64 0,.int .i64 0,.int .i64 0,.int .i64 0,.int .i64 0,.int .i64 0,.int .i64 0,.int .i64 0,.int .i64 0,.int .i64 0,.int .i64 0,.int .i64 0,.int .i64 0,.int .i64 0,.int .i64 0,.int .i64 0,.int .i64 0,.int .i64 0,.int .i64 0,.int .i64 0,.int .i64 0,.int .i64 0,.int .i64 0,.int .i64 0,.int .i64 0,.int .i64 0,.int .i64 0,.int .i64 0,.int .i64 0,.int .i64 0,.int .i64 0,.int .i64 0,.int .i64 0],[]⟩
 |208=>some ⟨.st [(0,1),(1,1)],2,48,[.nil,.nil],[true,true]⟩
 |209=>some ⟨.st [(0,1),(1,1)],2,48,[.nil,.nil],[true,true]⟩
 |227=>some ⟨.int .u64,1,8,[.int .u64 0],[]⟩
 |249=>some ⟨.st [(0,1)],1,8,[.int .i64 0],[true]⟩
 |250=>some ⟨.st [(0,1)],1,8,[.int .i64 0],[true]⟩
 |278=>some ⟨.sl 151,1,24,[.nil],[]⟩
 |282=>some ⟨.st [(0,1)],1,8,[.int .i64 0],[true]⟩
 |283=>some ⟨.st [(0,1)],1,8,[.int .i64 0],[true]⟩
 |287=>some ⟨.st [(0,4),(4,4),(8,2)],10,240,[.nil,.nil,.nil,.nil,.nil,.nil,.nil,.nil,.nil,.nil],[false,false,false]⟩
 |288=>some ⟨.st [(0,4),(4,4),(8,2)],10,240,[.nil,.nil,.nil,.nil,.nil,.nil,.nil,.nil,.nil,.nil],[false,false,false]⟩
 |_=>none
theorem T2:tyOf Tryz.prog 2=some ⟨.int .i64,1,8,[.int .i64 0],[]⟩:=by kernel_rfl
theorem T3:tyOf Tryz.prog 3=some ⟨.int .i64,1,8,[.int .i64 0],[]⟩:=by kernel_rfl
theorem T4:tyOf Tryz.prog 4=some ⟨.bool,1,1,[.bool false],[]⟩:=by kernel_rfl
theorem T5:tyOf Tryz.prog 5=some ⟨.int .u8,1,1,[.int .u8 0],[]⟩:=by kernel_rfl
theorem T9:tyOf Tryz.prog 9=some ⟨.str,1,16,[.str ⟨#[]⟩],[]⟩:=by kernel_rfl
theorem T22:tyOf Tryz.prog 22=some ⟨.sl 85,1,24,[.nil],[]⟩:=by kernel_rfl
theorem T24:tyOf Tryz.prog 24=some ⟨.sl 34,1,24,[.nil],[]⟩:=by kernel_rfl
theorem T27:tyOf Tryz.prog 27=some ⟨.sl 28,1,24,[.nil],[]⟩:=by kernel_rfl
theorem T28:tyOf Tryz.prog 28=some ⟨.sl 67,1,24,[.nil],[]⟩:=by kernel_rfl
theorem T29:tyOf Tryz.prog 29=some ⟨.st [(0,1),(1,1)],2,48,[.nil,.nil],[true,true]⟩:=by kernel_rfl
theorem T30:tyOf Tryz.prog 30=some ⟨.st [(0,1),(1,1)],2,48,[.nil,.nil],[true,true]⟩:=by kernel_rfl
theorem T31:tyOf Tryz.prog 31=some ⟨.st [(0,2),(2,2)],4,96,[.nil,.nil,.nil,.nil],[false,false]⟩:=by kernel_rfl
theorem T32:tyOf Tryz.prog 32=some ⟨.st [(0,2),(2,2)],4,96,[.nil,.nil,.nil,.nil],[false,false]⟩:=by kernel_rfl
theorem T33:tyOf Tryz.prog 33=some ⟨.st [(0,1),(1,4),(5,4),(9,4),(13,1)],14,304,[.bool false,.nil,.nil,.nil,.nil,.nil,.nil,.nil,.nil,.nil,.nil,.nil,.nil,.bool false],[true,false,false,false,true]⟩:=by kernel_rfl
theorem T34:tyOf Tryz.prog 34=some ⟨.st [(0,1),(1,4),(5,4),(9,4),(13,1)],14,304,[.bool false,.nil,.nil,.nil,.nil,.nil,.nil,.nil,.nil,.nil,.nil,.nil,.nil,.bool false],[true,false,false,false,true]⟩:=by kernel_rfl
theorem T35:tyOf Tryz.prog 35=some ⟨.sl 32,1,24,[.nil],[]⟩:=by kernel_rfl
theorem T36:tyOf Tryz.prog 36=some ⟨.sl 52,1,24,[.nil],[]⟩:=by kernel_rfl
theorem T37:tyOf Tryz.prog 37=some ⟨.st [(0,1),(1,1)],2,48,[.nil,.nil],[true,true]⟩:=by kernel_rfl
theorem T38:tyOf Tryz.prog 38=some ⟨.st [(0,1),(1,1)],2,48,[.nil,.nil],[true,true]⟩:=by kernel_rfl
theorem T39:tyOf Tryz.prog 39=some ⟨.int .i64,1,8,[.int .i64 0],[]⟩:=by kernel_rfl
theorem T47:tyOf Tryz.prog 47=some ⟨.sl 3,1,24,[.nil],[]⟩:=by kernel_rfl
theorem T51:tyOf Tryz.prog 51=some ⟨.st [(0,1),(1,1),(2,14),(16,1)],17,344,[.int .i64 0,.int .i64 0,.bool false,.nil,.nil,.nil,.nil,.nil,.nil,.nil,.nil,.nil,.nil,.nil,.nil,.bool false,.nil],[true,true,false,true]⟩:=by kernel_rfl
theorem T52:tyOf Tryz.prog 52=some ⟨.st [(0,1),(1,1),(2,14),(16,1)],17,344,[.int .i64 0,.int .i64 0,.bool false,.nil,.nil,.nil,.nil,.nil,.nil,.nil,.nil,.nil,.nil,.nil,.nil,.bool false,.nil],[true,true,false,true]⟩:=by kernel_rfl
theorem T63:tyOf Tryz.prog 63=some ⟨.sl 187,1,24,[.nil],[]⟩:=by kernel_rfl
theorem T64:tyOf Tryz.prog 64=some ⟨.st [(0,1),(1,1)],2,32,[.bool false,.nil],[true,true]⟩:=by kernel_rfl
theorem T65:tyOf Tryz.prog 65=some ⟨.st [(0,1),(1,1)],2,32,[.bool false,.nil],[true,true]⟩:=by kernel_rfl
theorem T66:tyOf Tryz.prog 66=some ⟨.st [(0,2),(2,2)],4,64,[.bool false,.nil,.bool false,.nil],[false,false]⟩:=by kernel_rfl
theorem T67:tyOf Tryz.prog 67=some ⟨.st [(0,2),(2,2)],4,64,[.bool false,.nil,.bool false,.nil],[false,false]⟩:=by kernel_rfl
theorem T72:tyOf Tryz.prog 72=some ⟨.sl 74,1,24,[.nil],[]⟩:=by kernel_rfl
theorem T73:tyOf Tryz.prog 73=some ⟨.st [(0,1),(1,4),(5,1),(6,2)],8,160,[.int .i64 0,.nil,.nil,.nil,.nil,.int .i64 0,.nil,.nil],[true,false,true,false]⟩:=by kernel_rfl
theorem T74:tyOf Tryz.prog 74=some ⟨.st [(0,1),(1,4),(5,1),(6,2)],8,160,[.int .i64 0,.nil,.nil,.nil,.nil,.int .i64 0,.nil,.nil],[true,false,true,false]⟩:=by kernel_rfl
theorem T82:tyOf Tryz.prog 82=some ⟨.int .i8,1,1,[.int .i8 0],[]⟩:=by kernel_rfl
theorem T83:tyOf Tryz.prog 83=some ⟨.arr 2 82,2,2,[.int .i8 0,.int .i8 0],[]⟩:=by kernel_rfl
theorem T84:tyOf Tryz.prog 84=some ⟨.st [(0,1),(1,1),(2,2),(4,2),(6,1),(7,1)],8,8,[.bool false,.bool false,.int .i8 0,.int .i8 0,.int .i8 0,.int .i8 0,.int .u8 0,.int .u8 0],[true,true,false,false,true,true]⟩:=by kernel_rfl
theorem T85:tyOf Tryz.prog 85=some ⟨.st [(0,1),(1,1),(2,2),(4,2),(6,1),(7,1)],8,8,[.bool false,.bool false,.int .i8 0,.int .i8 0,.int .i8 0,.int .i8 0,.int .u8 0,.int .u8 0],[true,true,false,false,true,true]⟩:=by kernel_rfl
theorem T88:tyOf Tryz.prog 88=some ⟨.st [(0,4),(4,2)],6,144,[.nil,.nil,.nil,.nil,.nil,.nil],[false,false]⟩:=by kernel_rfl
theorem T89:tyOf Tryz.prog 89=some ⟨.st [(0,4),(4,2)],6,144,[.nil,.nil,.nil,.nil,.nil,.nil],[false,false]⟩:=by kernel_rfl
theorem T99:tyOf Tryz.prog 99=some ⟨.st [(0,4),(4,1)],5,104,[.nil,.nil,.nil,.nil,.int .i64 0],[false,true]⟩:=by kernel_rfl
theorem T100:tyOf Tryz.prog 100=some ⟨.st [(0,4),(4,1)],5,104,[.nil,.nil,.nil,.nil,.int .i64 0],[false,true]⟩:=by kernel_rfl
theorem T122:tyOf Tryz.prog 122=some ⟨.int .u64,1,8,[.int .u64 0],[]⟩:=by kernel_rfl
theorem T128:tyOf Tryz.prog 128=some ⟨.st [(0,1)],1,8,[.int .i64 0],[true]⟩:=by kernel_rfl
theorem T129:tyOf Tryz.prog 129=some ⟨.st [(0,1)],1,8,[.int .i64 0],[true]⟩:=by kernel_rfl
theorem T135:tyOf Tryz.prog 135=some ⟨.st [(0,1)],1,8,[.int .i64 0],[true]⟩:=by kernel_rfl
theorem T136:tyOf Tryz.prog 136=some ⟨.st [(0,1)],1,8,[.int .i64 0],[true]⟩:=by kernel_rfl
theorem T141:tyOf Tryz.prog 141=some ⟨.sl 30,1,24,[.nil],[]⟩:=by kernel_rfl
theorem T148:tyOf Tryz.prog 148=some ⟨.st [(0,2),(2,2),(4,2)],6,144,[.nil,.nil,.nil,.nil,.nil,.nil],[false,false,false]⟩:=by kernel_rfl
theorem T149:tyOf Tryz.prog 149=some ⟨.st [(0,2),(2,2),(4,2)],6,144,[.nil,.nil,.nil,.nil,.nil,.nil],[false,false,false]⟩:=by kernel_rfl
theorem T150:tyOf Tryz.prog 150=some ⟨.st [(0,1),(1,6),(7,4),(11,6),(17,4)],21,488,[.int .i64 0,.nil,.nil,.nil,.nil,.nil,.nil,.nil,.nil,.nil,.nil,.nil,.nil,.nil,.nil,.nil,.nil,.nil,.nil,.nil,.nil],[true,false,false,false,false]⟩:=by kernel_rfl
theorem T151:tyOf Tryz.prog 151=some ⟨.st [(0,1),(1,6),(7,4),(11,6),(17,4)],21,488,[.int .i64 0,.nil,.nil,.nil,.nil,.nil,.nil,.nil,.nil,.nil,.nil,.nil,.nil,.nil,.nil,.nil,.nil,.nil,.nil,.nil,.nil],[true,false,false,false,false]⟩:=by kernel_rfl
theorem T162:tyOf Tryz.prog 162=some ⟨.st [(0,1),(1,1)],2,48,[.nil,.nil],[true,true]⟩:=by kernel_rfl
theorem T163:tyOf Tryz.prog 163=some ⟨.st [(0,1),(1,1)],2,48,[.nil,.nil],[true,true]⟩:=by kernel_rfl
theorem T175:tyOf Tryz.prog 175=some ⟨.int .u64,1,8,[.int .u64 0],[]⟩:=by kernel_rfl
theorem T179:tyOf Tryz.prog 179=some ⟨.int .i64,1,8,[.int .i64 0],[]⟩:=by kernel_rfl
theorem T187:tyOf Tryz.prog 187=some ⟨.int .u32,1,4,[.int .u32 0],[]⟩:=by kernel_rfl
theorem T192:tyOf Tryz.prog 192=some ⟨.arr 3 2,3,24,[.int .i64 0,.int .i64 0,.int .i64 0],[]⟩:=by kernel_rfl
theorem T193:tyOf Tryz.prog 193=some ⟨.arr 16 192,48,384,[.int .i64 0,.int .i64 0,.int .i64 0,.int .i64 0,.int .i64 0,.int .i64 0,.int .i64 0,.int .i64 0,.int .i64 0,.int .i64 0,.int .i64 0,.int .i64 0,.int .i64 0,.int .i64 0,.int .i64 0,.int .i64 0,.int .i64 0,.int .i64 0,.int .i64 0,.int .i64 0,.int .i64 0,.int .i64 0,.int .i64 0,.int .i64 0,.int .i64 0,.int .i64 0,.int .i64 0,.int .i64 0,.int .i64 0,.int .i64 0,.int .i64 0,.int .i64 0,.int .i64 0,.int .i64 0,.int .i64 0,.int .i64 0,.int .i64 0,.int .i64 0,.int .i64 0,.int .i64 0,.int .i64 0,.int .i64 0,.int .i64 0,.int .i64 0,.int .i64 0,.int .i64 0,.int .i64 0,.int .i64 0],[]⟩:=by kernel_rfl
theorem T208:tyOf Tryz.prog 208=some ⟨.st [(0,1),(1,1)],2,48,[.nil,.nil],[true,true]⟩:=by kernel_rfl
theorem T209:tyOf Tryz.prog 209=some ⟨.st [(0,1),(1,1)],2,48,[.nil,.nil],[true,true]⟩:=by kernel_rfl
theorem T227:tyOf Tryz.prog 227=some ⟨.int .u64,1,8,[.int .u64 0],[]⟩:=by kernel_rfl
theorem T249:tyOf Tryz.prog 249=some ⟨.st [(0,1)],1,8,[.int .i64 0],[true]⟩:=by kernel_rfl
theorem T250:tyOf Tryz.prog 250=some ⟨.st [(0,1)],1,8,[.int .i64 0],[true]⟩:=by kernel_rfl
theorem T278:tyOf Tryz.prog 278=some ⟨.sl 151,1,24,[.nil],[]⟩:=by kernel_rfl
theorem T282:tyOf Tryz.prog 282=some ⟨.st [(0,1)],1,8,[.int .i64 0],[true]⟩:=by kernel_rfl
theorem T283:tyOf Tryz.prog 283=some ⟨.st [(0,1)],1,8,[.int .i64 0],[true]⟩:=by kernel_rfl
theorem T287:tyOf Tryz.prog 287=some ⟨.st [(0,4),(4,4),(8,2)],10,240,[.nil,.nil,.nil,.nil,.nil,.nil,.nil,.nil,.nil,.nil],[false,false,false]⟩:=by kernel_rfl
theorem T288:tyOf Tryz.prog 288=some ⟨.st [(0,4),(4,4),(8,2)],10,240,[.nil,.nil,.nil,.nil,.nil,.nil,.nil,.nil,.nil,.nil],[false,false,false]⟩:=by kernel_rfl
theorem T_ok:TabOk Tryz.prog T:=by
 intro t X h;unfold T at h
 split at h
 ·cases h;exact T2
 ·cases h;exact T3
 ·cases h;exact T4
 ·cases h;exact T5
 ·cases h;exact T9
 ·cases h;exact T22
 ·cases h;exact T24
 ·cases h;exact T27
 ·cases h;exact T28
 ·cases h;exact T29
 ·cases h;exact T30
 ·cases h;exact T31
 ·cases h;exact T32
 ·cases h;exact T33
 ·cases h;exact T34
 ·cases h;exact T35
 ·cases h;exact T36
 ·cases h;exact T37
 ·cases h;exact T38
 ·cases h;exact T39
 ·cases h;exact T47
 ·cases h;exact T51
 ·cases h;exact T52
 ·cases h;exact T63
 ·cases h;exact T64
 ·cases h;exact T65
 ·cases h;exact T66
 ·cases h;exact T67
 ·cases h;exact T72
 ·cases h;exact T73
 ·cases h;exact T74
 ·cases h;exact T82
 ·cases h;exact T83
 ·cases h;exact T84
 ·cases h;exact T85
 ·cases h;exact T88
 ·cases h;exact T89
 ·cases h;exact T99
 ·cases h;exact T100
 ·cases h;exact T122
 ·cases h;exact T128
 ·cases h;exact T129
 ·cases h;exact T135
 ·cases h;exact T136
 ·cases h;exact T141
 ·cases h;exact T148
 ·cases h;exact T149
 ·cases h;exact T150
 ·cases h;exact T151
 ·cases h;exact T162
 ·cases h;exact T163
 ·cases h;exact T175
 ·cases h;exact T179
 ·cases h;exact T187
 ·cases h;exact T192
 ·cases h;exact T193
 ·cases h;exact T208
 ·cases h;exact T209
 ·cases h;exact T227
 ·cases h;exact T249
 ·cases h;exact T250
 ·cases h;exact T278
 ·cases h;exact T282
 ·cases h;exact T283
 ·cases h;exact T287
 ·cases h;exact T288
 cases h
theorem mixed:Tryz.prog.follows .mixedOrders=true:=by kernel_rfl
theorem pw {f:FuncId}{fn:Func}(hf:Tryz.prog.funcs[f]? =some fn)(k:Kp){args:List V}{r:V}(h:vc T Tryz.prog k (Option.get! fn.body) (iS args fn.ntmps) (retQ T fn.results.toList (fun x=>VLe x r)))(hb:fn.body=some (Option.get! fn.body):=by rfl)(hn:(fn.name== "runtime.NumGoroutine")=false:=by decide)(ha:args.length≤fn.ntmps:=by exact Nat.le_of_ble_eq_true rfl)(hk:codeOk k (Option.get! fn.body)=true:=by kernel_rfl):Pr Tryz.prog f args r:=pv T_ok mixed hf hb hn args ha k hk r h
theorem fw {f:FuncId}{fn:Func}(hf:Tryz.prog.funcs[f]? =some fn)(k:Kp){args:List V}{B:Bk}(h:vc T Tryz.prog k (Option.get! fn.body) (iS args fn.ntmps) (retF fn.results.toList B))(hb:fn.body=some (Option.get! fn.body):=by rfl)(hn:(fn.name== "runtime.NumGoroutine")=false:=by decide)(ha:args.length≤fn.ntmps:=by exact Nat.le_of_ble_eq_true rfl)(hk:codeOk k (Option.get! fn.body)=true:=by kernel_rfl)(hB:B.flat:=by exact trivial):Fr Tryz.prog f args B:=fresh_of_vc T_ok mixed hf hb hn args ha k hk B hB h
theorem mw {f:FuncId}{fn:Func}(hf:Tryz.prog.funcs[f]? =some fn)(k:Kp){args:List V}{B:Bk}{R:V→Bk→Prop}(h:vc T Tryz.prog k (Option.get! fn.body) (iM args B fn.ntmps) (retM T fn.results.toList R))(hb:fn.body=some (Option.get! fn.body):=by rfl)(hn:(fn.name== "runtime.NumGoroutine")=false:=by decide)(ha:args.length≤fn.ntmps:=by exact Nat.le_of_ble_eq_true rfl)(hk:codeOk k (Option.get! fn.body)=true:=by kernel_rfl)(hB:B.plain:=by first|exact trivial|rfl):Mc Tryz.prog f args B R:=mut_of_vc T_ok mixed hf hb hn args ha k hk B hB R h
end Go.Proofs.YtcdijplheindaaaGreat
namespace Go.Eng
def BB:Nat:=4294967296
def val:List Int→Nat
 |[]=>0
 |x::xs=>x.toNat+BB*val xs
def InR (xs:List Int):Prop:=∀x∈xs,0≤x∧x<4294967296
def limbs (n:Nat):List Int:=if h:n=0 then[]else((n%BB:Nat):Int)::limbs (n/BB)
termination_by n
decreasing_by exact Nat.div_lt_self (by omega) (by decide)
theorem limbs_zero:limbs 0=[]:=by unfold limbs;simp
theorem limbs_pos {n:Nat}(h:0<n):limbs n=((n%BB:Nat):Int)::limbs (n/BB):=by
 rw[limbs];rw[dif_neg (by omega)]
theorem InR.nil:InR []:=fun _ h=>by simp at h
theorem InR.cons {x:Int}{xs:List Int}(hx:0≤x∧x<4294967296)(h:InR xs):InR (x::xs):=fun y hy=>by
 rcases List.mem_cons.1 hy with rfl|hy
 ·exact hx
 exact h y hy
theorem InR.tail {x:Int}{xs:List Int}(h:InR (x::xs)):InR xs:=fun y hy=>h y (by simp[hy])
theorem InR.head {x:Int}{xs:List Int}(h:InR (x::xs)):0≤x∧x<4294967296:=h x (by simp)
theorem InR.append {xs ys:List Int}(h:InR xs)(h':InR ys):InR (xs++ys):=fun y hy=>by
 rcases List.mem_append.1 hy with hy|hy
 ·exact h y hy
 exact h' y hy
theorem InR.take {xs:List Int}(h:InR xs)(i:Nat):InR (xs.take i):=fun y hy=>h y (List.mem_of_mem_take hy)
theorem InR.drop {xs:List Int}(h:InR xs)(i:Nat):InR (xs.drop i):=fun y hy=>h y (List.mem_of_mem_drop hy)
theorem InR.getD {xs:List Int}(h:InR xs)(i:Nat):0≤xs.getD i 0∧xs.getD i 0<4294967296:=by
 rw[X7]
 cases hi:xs[i]? with
 |none=>simp
 |some x=>exact h x (List.mem_of_getElem? hi)
theorem InR.set {xs:List Int}(h:InR xs)(i:Nat){x:Int}(hx:0≤x∧x<4294967296):InR (xs.set i x):=fun y hy=>by
 rcases List.mem_or_eq_of_mem_set hy with hy|rfl
 ·exact h y hy
 exact hx
theorem InR.replicate (n:Nat):InR (List.replicate n 0):=fun y hy=>by
 rw[(List.mem_replicate.1 hy).2];decide
theorem InR.one {x:Int}(h:0≤x∧x<4294967296):InR [x]:=InR.cons h InR.nil
theorem InR.limbs:∀(n:Nat),InR (limbs n):=by
 intro n
 induction n using Nat.strongRecOn with
 |_ n ih=>
  by_cases h:n=0
  ·subst h;rw[limbs_zero];exact InR.nil
  rw[limbs_pos (by omega)]
  have:n%BB<4294967296:=Nat.mod_lt n (show BB>0 by decide)
  exact InR.cons ⟨by omega,by omega⟩ (ih _ (Nat.div_lt_self (by omega) (by decide)))
theorem val_limbs:∀(n:Nat),val (limbs n)=n:=by
 intro n
 induction n using Nat.strongRecOn with
 |_ n ih=>
  by_cases h:n=0
  ·subst h;rw[limbs_zero];rfl
  rw[limbs_pos (by omega)];simp only[val];rw[ih _ (Nat.div_lt_self (by omega) (by decide))]
  have:=Nat.mod_add_div n BB
  omega
theorem val_append:∀(xs ys:List Int),val (xs++ys)=val xs+BB^xs.length*val ys
 |[],ys=>by simp[val]
 |x::xs,ys=>by
  simp only[List.cons_append,val,val_append xs ys,List.length_cons,O4];rw[Nat.mul_add,O6 (BB^xs.length) BB,Nat.mul_assoc];omega
theorem val_lt:∀{xs:List Int},InR xs→val xs<BB^xs.length
 |[],_=>by simp[val]
 |x::xs,h=>by
  have h1:=val_lt h.tail;have h2:=h.head;simp only[val,List.length_cons,O4]
  have:BB*(val xs+1)≤BB*BB^xs.length:=O9 _ h1
  rw[O6 (BB^xs.length) BB];have h3:x.toNat<BB:=by unfold BB;omega
  rw[Nat.mul_add]at this;omega
theorem val_replicate:∀(n:Nat),val (List.replicate n 0)=0
 |0=>rfl
 |n+1=>by simp[List.replicate_succ,val,val_replicate n]
theorem getD_val:∀{xs:List Int},InR xs→∀i,xs.getD i 0=((val xs/BB^i%BB:Nat):Int)
 |[],_,i=>by simp[val]
 |x::xs,h,0=>by
  have h2:=h.head;have h3:x.toNat<BB:=by unfold BB;omega
  simp only[X0,val,Nat.pow_zero,Nat.div_one,Nat.add_mul_mod_self_left,O7 h3];omega
 |x::xs,h,i+1=>by
  have h2:=h.head;have h3:x.toNat<BB:=by unfold BB;omega
  simp only[X1,val];rw[getD_val h.tail i,O4,O6 (BB^i) BB,←Nat.div_div_eq_div_mul,Nat.add_mul_div_left _ _ (by decide:0<BB),Nat.div_eq_of_lt h3,Nat.zero_add]
theorem val_take {xs:List Int}(h:InR xs)(i:Nat):val (xs.take i)=val xs%BB^i:=by
 by_cases hi:i≤xs.length
 ·have e:=val_append (xs.take i) (xs.drop i);rw[List.take_append_drop,X5,Nat.min_eq_left hi]at e;have hl:=val_lt (h.take i);rw[X5,Nat.min_eq_left hi]at hl;rw[e,Nat.add_mul_mod_self_left,O7 hl]
 rw[List.take_of_length_le (by omega),O7];exact Nat.lt_of_lt_of_le (val_lt h) (O3 (by decide) (by omega))
theorem val_drop {xs:List Int}(h:InR xs)(i:Nat):val (xs.drop i)=val xs/BB^i:=by
 by_cases hi:i≤xs.length
 ·have e:=val_append (xs.take i) (xs.drop i);rw[List.take_append_drop,X5,Nat.min_eq_left hi]at e;have hl:=val_lt (h.take i);rw[X5,Nat.min_eq_left hi]at hl;rw[e,Nat.add_mul_div_left _ _ (Nat.pow_pos (by decide)),Nat.div_eq_of_lt hl,Nat.zero_add]
 rw[List.drop_of_length_le (by omega),Nat.div_eq_of_lt];rfl;exact Nat.lt_of_lt_of_le (val_lt h) (O3 (by decide) (by omega))
theorem val_set:∀{xs:List Int} {i:Nat} {x:Int},i<xs.length→val (xs.set i x)+BB^i*(xs.getD i 0).toNat=val xs+BB^i*x.toNat
 |[],i,x,h=>by simp at h
 |y::ys,0,x,_=>by simp[val];omega
 |y::ys,i+1,x,h=>by
  have:=val_set (xs:=ys) (i:=i) (x:=x) (by simpa using h)
  simp only[List.set_cons_succ,val,X1,O4];rw[O6 (BB^i) BB,Nat.mul_assoc,Nat.mul_assoc];have h2:BB*(val (ys.set i x)+BB^i*(ys.getD i 0).toNat)=BB*(val ys+BB^i*x.toNat):=by rw[this]
  rw[Nat.mul_add,Nat.mul_add]at h2;omega
theorem limbs_val_last:∀{xs:List Int},InR xs→(xs=[]∨xs.getD (xs.length-1) 0≠0)→limbs (val xs)=xs
 |[],_,_=>limbs_zero
 |[x],h,hl=>by
  have h2:=h.head;have hx:x≠0:=by simpa using hl
  have h3:x.toNat<BB:=by unfold BB;omega
  simp only[val,Nat.mul_zero,Nat.add_zero];rw[limbs_pos (by omega),O7 h3,Nat.div_eq_of_lt h3,limbs_zero]
  congr 1;omega
 |x::y::ys,h,hl=>by
  have h2:=h.head;have h3:x.toNat<BB:=by unfold BB;omega
  have ih:=limbs_val_last h.tail (.inr (by
   rcases hl with hl|hl
   ·cases hl
   simpa using hl))
  have hpos:0<val (y::ys):=by
   rcases Nat.eq_zero_or_pos (val (y::ys))with h0|h0
   ·rw[h0,limbs_zero]at ih;cases ih
   exact h0
  have e:val (x::y::ys)=x.toNat+BB*val (y::ys):=rfl;have hp:0<val (x::y::ys):=by
   rw[e]
   have:0<BB*val (y::ys):=Nat.mul_pos (by decide) hpos
   omega
  rw[limbs_pos hp,e,Nat.add_mul_mod_self_left,O7 h3,Nat.add_mul_div_left _ _ (by decide:0<BB),Nat.div_eq_of_lt h3,Nat.zero_add,ih]
  congr 1;omega
theorem limbs_val_ge {xs:List Int}(h:InR xs)(hl:xs.length=0∨BB^(xs.length-1)≤val xs):limbs (val xs)=xs:=by
 refine limbs_val_last h ?_
 rcases hl with hl|hl
 ·exact .inl (List.length_eq_zero_iff.1 hl)
 by_cases hn:xs=[]
 ·exact .inl hn
 refine .inr fun h0=>?_;have hp:0<xs.length:=List.length_pos_iff.2 hn;rw[getD_val h]at h0;have hv:=val_lt h;have h1:val xs/BB^(xs.length-1)<BB:=by
  rw[Nat.div_lt_iff_lt_mul (Nat.pow_pos (by decide)),O6,←O4,show (xs.length-1).succ=xs.length by omega];exact hv
 rw[O7 h1]at h0;have h2:1≤val xs/BB^(xs.length-1):=by
  rw[Nat.le_div_iff_mul_le (Nat.pow_pos (by decide))];omega
 omega
def nl (n:Nat):Nat:=(limbs n).length
theorem limbs_length (n:Nat):(limbs n).length=nl n:=rfl
theorem take_limbs (n:Nat):(limbs n).take (nl n)=limbs n:=List.take_length
theorem nl_zero:nl 0=0:=by unfold nl;rw[limbs_zero];rfl
theorem nl_le_of_lt:∀{k n:Nat},n<BB^k→nl n≤k
 |0,n,h=>by
  have:n=0:=by simpa using h
  subst this;rw[nl_zero];omega
 |k+1,n,h=>by
  by_cases h0:n=0
  ·subst h0;rw[nl_zero];omega
  unfold nl;rw[limbs_pos (by omega)]
  have:nl (n/BB)≤k:=nl_le_of_lt (by rw[Nat.div_lt_iff_lt_mul (by decide),←O4];exact h)
  unfold nl at this;simp only[List.length_cons];omega
theorem lt_of_nl (n:Nat):n<BB^nl n:=by
 have:=val_lt (InR.limbs n)
 rw[val_limbs]at this;exact this
theorem nl_le_iff {k n:Nat}:nl n≤k↔n<BB^k:=
 ⟨fun h=>Nat.lt_of_lt_of_le (lt_of_nl n) (O3 (by decide) h),nl_le_of_lt⟩
theorem nl_mono {m n:Nat}(h:m≤n):nl m≤nl n:=nl_le_of_lt (Nat.lt_of_le_of_lt h (lt_of_nl n))
theorem nl_pos {n:Nat}:0<nl n↔0<n:=by
 constructor
 ·intro h
  rcases Nat.eq_zero_or_pos n with h0|h0
  ·subst h0;rw[nl_zero]at h;omega
  exact h0
 intro h
 rcases Nat.eq_zero_or_pos (nl n)with h0|h0
 ·have:=lt_of_nl n
  rw[h0]at this;simp at this;omega
 exact h0
theorem nl_eq_zero {n:Nat}:nl n=0↔n=0:=by
 have:=nl_pos (n:=n);omega
theorem ge_of_nl {n:Nat}(h:0<n):BB^(nl n-1)≤n:=by
 rcases Nat.lt_or_ge n (BB^(nl n-1))with h1|h1
 ·have:=nl_le_of_lt h1
  have:=nl_pos.2 h
  omega
 exact h1
theorem nl_mul (m n:Nat):nl (m*n)≤nl m+nl n:=by
 apply nl_le_of_lt
 rw[Nat.pow_add];exact Nat.mul_lt_mul'' (lt_of_nl m) (lt_of_nl n)
theorem nl_add (m n:Nat):nl (m+n)≤max (nl m) (nl n)+1:=by
 apply nl_le_of_lt
 rw[O4];have h1:m<BB^max (nl m) (nl n):=nl_le_iff.1 (Nat.le_max_left _ _);have h2:n<BB^max (nl m) (nl n):=nl_le_iff.1 (Nat.le_max_right _ _);have h3:BB^max (nl m) (nl n)*2≤BB^max (nl m) (nl n)*BB:=O9 _ (by decide);omega
open Go
theorem wI (i:Nat)(h:i+1<9223372036854775808):IntKind.i64.wrap ((i:Int)+1)=((i+1:Nat):Int):=by rw[Q4 _ (by omega)];omega
set_option linter.defProp false in
def vx:=Q3 vcs (Q3 vcu (Q3 vcn (Q3 vcl (Q3 vcr (Q3 @limbs_length (Q3 @take_limbs (Q3 @Nat.min_def (Q3 @IntKind.bits.eq_1 (Q3 @IntKind.bits.eq_2 (Q3 @IntKind.bits.eq_3 (Q3 @IntKind.bits.eq_4 (Q3 @IntKind.bits.eq_5 (Q3 @IntKind.bits.eq_6 (Q3 @IntKind.bits.eq_7 (@IntKind.bits.eq_8)))))))))))))))
set_option linter.defProp false in
def rx:=Q3 vcn (Q3 vcl (Q3 vcq (Q3 @limbs_length (@take_limbs))))
set_option linter.defProp false in
def ry:=Q3 rx (Q3 @Y0.eq_1 (Q3 @Y0.eq_2 (Q3 @Y1.eq_def (Q3 @Y2.eq_def (Q3 @Y3.eq_1 (Q3 @Y3.eq_2 (Q3 @Y3.eq_3 (Q3 @Y4.eq_1 (Q3 @Y4.eq_2 (Q3 @Y5.eq_def (Q3 @Y6.eq_1 (Q3 @Y6.eq_2 (Q3 @Y7.eq_def (Q3 @ren.eq_1 (@ren.eq_2)))))))))))))))
set_option linter.defProp false in
def rz:=Q3 @Y8.eq_1 (Q3 @Y8.eq_2 (Q3 @Y9.eq_def (Q3 @X2 (Q3 @X3 (@X4)))))
set_option linter.defProp false in
def iz:=Q3 @iS.eq_1 (Q3 @iM.eq_def (Q3 @eO.eq_1 (Q3 @eO.eq_2 (@Option.get!.eq_1.{0}))))
end Go.Eng
set_option maxHeartbeats 2000000
namespace Go.Proofs.YtcdijplheindaaaGreat
open Go Go.Eng
theorem val_trim {ys:List Int}(h:InR ys)(h0:0<ys.length)(hl:ys.getD (ys.length-1) 0=0):val (ys.take (ys.length-1))=val ys:=by
 have e:=val_append (ys.take (ys.length-1)) (ys.drop (ys.length-1));rw[List.take_append_drop]at e;have h1:ys.drop (ys.length-1)=[0]:=by
  rw[X7,X8 (by omega)]at hl;rw[List.drop_eq_getElem_cons (by omega),List.drop_of_length_le (by omega)]
  simpa using hl
 rw[h1]at e
 simp[val]at e
 exact e.symm
theorem itrim_spec (xs:List Int)(hr:InR xs)(hx:xs.length<2^62):Pr Tryz.prog 238 [.one (.ints .u32 xs)] (.one (.ints .u32 (limbs (val xs)))):=by
 refine pw Tryz.func238 ⟨[0,2,14],[]⟩ ?_;simp only[Tryz.f238,Tryz.ntmps238,iz,seval];simp only[vx,T,seval];refine Lk (fun ys:{l:List Int//l.length<2^62∧InR l∧val l=val xs}=>⟨[(0,.one (.ints .u32 ys))],[],3,21⟩) (fun ys=>ys.1.length) ⟨xs,hx,hr,rfl⟩ ?_ (fun⟨ys,hy,hyr,hyv⟩=>?_)
 ·refine Sa ?_;simp only[ry,seval,rz]
 simp only[vx,T,seval];refine⟨fun h=>Lg ?_,fun h=>Lg ?_⟩
 ·simp only[vx,T,seval];rw[Q4 _ (by omega)];refine⟨by omega,?_⟩;refine⟨fun h=>Lg ?_,fun h=>Lg ?_⟩
  ·simp only[vx,T,seval];rw[Q4 _ (by omega)];refine⟨by omega,Lq ⟨ys.take (ys.length-1),by simp;omega,hyr.take _,?_⟩ ?_ ?_⟩
   ·rw[val_trim hyr (by omega) (by rw[show ys.length-1=((ys.length:Int)-1).toNat by omega];exact h),hyv]
   ·refine Sa ?_;simp only[ry,seval,rz];rw[show ((ys.length:Int)-1).toNat=ys.length-1 by omega]
   simp;omega
  simp only[vx,T,seval];refine Ve ?_;rw[←hyv,limbs_val_last hyr (.inr (by rw[show ys.length-1=((ys.length:Int)-1).toNat by omega];exact h))]
 simp only[vx,T,seval];refine Ve ?_;rw[←hyv,limbs_val_last hyr (.inl (List.length_eq_zero_iff.1 (by omega)))]
theorem rtrim_spec (xs:List Int)(hr:InR xs)(hx:xs.length<2^62):Pr Tryz.prog 165 [.one (.ints .u32 xs)] (.one (.ints .u32 (limbs (val xs)))):=by
 refine pw Tryz.func165 ⟨[0,2,14],[]⟩ ?_;simp only[Tryz.f165,Tryz.ntmps165,iz,seval];simp only[vx,T,seval];refine Lk (fun ys:{l:List Int//l.length<2^62∧InR l∧val l=val xs}=>⟨[(0,.one (.ints .u32 ys))],[],3,21⟩) (fun ys=>ys.1.length) ⟨xs,hx,hr,rfl⟩ ?_ (fun⟨ys,hy,hyr,hyv⟩=>?_)
 ·refine Sa ?_;simp only[ry,seval,rz]
 simp only[vx,T,seval];refine⟨fun h=>Lg ?_,fun h=>Lg ?_⟩
 ·simp only[vx,T,seval];rw[Q4 _ (by omega)];refine⟨by omega,?_⟩;refine⟨fun h=>Lg ?_,fun h=>Lg ?_⟩
  ·simp only[vx,T,seval];rw[Q4 _ (by omega)];refine⟨by omega,Lq ⟨ys.take (ys.length-1),by simp;omega,hyr.take _,?_⟩ ?_ ?_⟩
   ·rw[val_trim hyr (by omega) (by rw[show ys.length-1=((ys.length:Int)-1).toNat by omega];exact h),hyv]
   ·refine Sa ?_;simp only[ry,seval,rz];rw[show ((ys.length:Int)-1).toNat=ys.length-1 by omega]
   simp;omega
  simp only[vx,T,seval];refine Ve ?_;rw[←hyv,limbs_val_last hyr (.inr (by rw[show ys.length-1=((ys.length:Int)-1).toNat by omega];exact h))]
 simp only[vx,T,seval];refine Ve ?_;rw[←hyv,limbs_val_last hyr (.inl (List.length_eq_zero_iff.1 (by omega)))]
theorem InR_words (n:Nat):InR [IntKind.u32.wrap n,IntKind.u32.wrap ((n:Int).fdiv 4294967296)]:=by
 refine InR.cons ?_ (InR.one ?_)<;>(rw[IntKind.wrap_u32];omega)
theorem val_words {n:Nat}(hn:n<2^64):val [IntKind.u32.wrap n,IntKind.u32.wrap ((n:Int).fdiv 4294967296)]=n:=by
 simp only[val,IntKind.wrap_u32,BB];rw[Int.fdiv_eq_ediv_of_nonneg _ (by decide)];have h1:((n:Int)%4294967296).toNat=n%4294967296:=by omega
 have h2:((n:Int)/4294967296%4294967296).toNat=n/4294967296:=by omega
 rw[h1,h2];omega
theorem ifromUint_spec (n:Nat)(hn:n<2^64):Pr Tryz.prog 220 [.one (.int .u64 n)] (.one (.ints .u32 (limbs n))):=by
 refine pw Tryz.func220 ⟨[0,2],[]⟩ ?_;simp only[Tryz.f220,Tryz.ntmps220,iz,seval];simp only[vx,T,seval];refine Cg (itrim_spec _ (InR_words n) (by simp)) ?_;rw[val_words hn];simp only[vx,T,seval];refine Va ?_;simp only[vLe,vLeL,ry,seval]
theorem rwords_spec (n:Nat)(hn:n<2^64):Pr Tryz.prog 102 [.one (.int .u64 n)] (.one (.ints .u32 (limbs n))):=by
 refine pw Tryz.func102 ⟨[0,2],[]⟩ ?_;simp only[Tryz.f102,Tryz.ntmps102,iz,seval];simp only[vx,T,seval];refine Cg (rtrim_spec _ (InR_words n) (by simp)) ?_;rw[val_words hn];simp only[vx,T,seval];refine Va ?_;simp only[vLe,vLeL,ry,seval]
theorem limbs_len_zero {n:Nat}(h:(nl n:Int)=0):n=0:=nl_eq_zero.1 (by omega)
theorem limbs_len_pos {n:Nat}(h:¬(nl n:Int)=0):0<n:=nl_pos.1 (by omega)
theorem isigned_spec (b:Bool)(xs:List Int)(hr:InR xs)(hx:xs.length<2^62):Pr Tryz.prog 219 [.one (.bool b),.one (.ints .u32 xs)] (.agg [.bool (b&&decide (0<val xs)),.ints .u32 (limbs (val xs))]):=by
 refine pw Tryz.func219 ⟨[0,1,4,9],[]⟩ ?_;simp only[Tryz.f219,Tryz.ntmps219,iz,seval];simp only[vx,T,seval];refine Cg (itrim_spec xs hr hx) ?_;simp only[vx,T,seval];refine⟨fun h=>Lg ?_,fun h=>Lg ?_⟩
 ·simp only[vx,T,seval];have h0:=limbs_len_zero h;refine Va ?_;simp only[vLe,vLeL,ry,seval,h0,limbs_zero,Nat.lt_irrefl]
 simp only[vx,T,seval];have h0:=limbs_len_pos h;refine Va ?_;simp only[vLe,vLeL,ry,seval,h0]
theorem rsigned_spec (b:Bool)(xs:List Int)(hr:InR xs)(hx:xs.length<2^62):Pr Tryz.prog 101 [.one (.bool b),.one (.ints .u32 xs)] (.agg [.bool (b&&decide (0<val xs)),.ints .u32 (limbs (val xs))]):=by
 refine pw Tryz.func101 ⟨[0,1,4],[]⟩ ?_;simp only[Tryz.f101,Tryz.ntmps101,iz,seval];simp only[vx,T,seval];refine Cg (rtrim_spec xs hr hx) ?_;simp only[vx,T,seval];refine⟨fun h0=>Lg ?_,fun h0=>Lg ?_⟩
 ·subst h0;simp only[vx,T,seval]
  by_cases h:0<val xs
  ·have h1:=nl_pos.2 h;refine Va ?_;simp only[vLe,vLeL,ry,seval,h,decide_true,Bool.true_and,Int.natCast_pos,h1]
  have h1:val xs=0:=by omega
  refine Va ?_;simp only[vLe,vLeL,ry,seval,h1,limbs_zero,nl_zero,Nat.lt_irrefl,X4,Int.lt_irrefl]
 subst h0;simp only[vx,T,seval];refine Va ?_;simp only[vLe,vLeL,ry,seval]
end Go.Proofs.YtcdijplheindaaaGreat
set_option maxHeartbeats 2000000
namespace Go.Proofs.YtcdijplheindaaaGreat
open Go Go.Eng
def cmpI (x y:Int):Int:=if x<y then-1 else if y<x then 1 else 0
theorem cmpI_lt {x y:Int}(h:x<y):cmpI x y= -1:=if_pos h
theorem cmpI_gt {x y:Int}(h:y<x):cmpI x y=1:=by unfold cmpI;rw[if_neg (by omega),if_pos h]
theorem cmpI_eq {x y:Int}(h:x=y):cmpI x y=0:=by unfold cmpI;rw[if_neg (by omega),if_neg (by omega)]
theorem lG (n i:Nat):(limbs n).getD i 0=((n/BB^i%BB:Nat):Int):=by
 rw[getD_val (InR.limbs n),val_limbs]
theorem digit_lt {m n i:Nat}(h:m/BB^(i+1)=n/BB^(i+1))(hd:m/BB^i%BB<n/BB^i%BB):m<n:=by
 have e:∀x:Nat,x/BB^(i+1)=x/BB^i/BB:=fun x=>by rw[O4,Nat.div_div_eq_div_mul]
 rw[e,e]at h;have h1:=Nat.div_add_mod (m/BB^i) BB;have h2:=Nat.div_add_mod (n/BB^i) BB;rw[h]at h1
 rcases Nat.lt_or_ge m n with h3|h3
 ·exact h3
 have:=Nat.div_le_div_right (c:=BB^i) h3
 omega
theorem digit_eq {m n i:Nat}(h:m/BB^(i+1)=n/BB^(i+1))(hd:m/BB^i%BB=n/BB^i%BB):m/BB^i=n/BB^i:=by
 have e:∀x:Nat,x/BB^(i+1)=x/BB^i/BB:=fun x=>by rw[O4,Nat.div_div_eq_div_mul]
 rw[e,e]at h;have h1:=Nat.div_add_mod (m/BB^i) BB;have h2:=Nat.div_add_mod (n/BB^i) BB;rw[h,hd]at h1;omega
theorem div_top {m k:Nat}(h:nl m≤k):m/BB^k=0:=Nat.div_eq_of_lt (nl_le_iff.1 h)
theorem isNaN_i64_spec (x:Int):Pr Tryz.prog 286 [.one (.int .i64 x)] (.one (.bool false)):=by
 refine pw Tryz.func286 ⟨[0,2],[]⟩ ?_;simp only[Tryz.f286,Tryz.ntmps286,iz,seval];simp only[vx,T,seval];refine Va ?_;simp only[vLe,vLeL,ry,seval,not_true_eq_false,decide_false]
theorem Compare_i64_spec (x y:Int):Pr Tryz.prog 236 [.one (.int .i64 x),.one (.int .i64 y)] (.one (.int .i64 (cmpI x y))):=by
 refine pw Tryz.func236 ⟨[0,1,4,5,6,11,12,13,16,19],[]⟩ ?_;simp only[Tryz.f236,Tryz.ntmps236,iz,seval];simp only[vx,T,seval];refine Cg (isNaN_i64_spec _) ?_;simp only[vx,T,seval];refine Cg (isNaN_i64_spec _) ?_;simp only[vx,T,seval];refine⟨fun h=>Lg ?_,fun h=>Lg ?_⟩
 ·simp only[vx,T,seval];refine Va ?_;simp only[vLe,vLeL,ry,seval,cmpI_lt h]
 simp only[vx,T,seval];refine⟨fun h'=>Lg ?_,fun h'=>Lg ?_⟩
 ·simp only[vx,T,seval];refine Va ?_;simp only[vLe,vLeL,ry,seval,cmpI_gt h']
 simp only[vx,T,seval];refine Va ?_;simp only[vLe,vLeL,ry,seval,cmpI_eq (show x=y by omega)]
theorem isNaN_u32_spec (x:Int):Pr Tryz.prog 328 [.one (.int .u32 x)] (.one (.bool false)):=by
 refine pw Tryz.func328 ⟨[0,2],[]⟩ ?_;simp only[Tryz.f328,Tryz.ntmps328,iz,seval];simp only[vx,T,seval];refine Va ?_;simp only[vLe,vLeL,ry,seval,not_true_eq_false,decide_false]
theorem Compare_u32_spec (x y:Int):Pr Tryz.prog 287 [.one (.int .u32 x),.one (.int .u32 y)] (.one (.int .i64 (cmpI x y))):=by
 refine pw Tryz.func287 ⟨[0,1,4,5,6,11,12,13,16,19],[]⟩ ?_;simp only[Tryz.f287,Tryz.ntmps287,iz,seval];simp only[vx,T,seval];refine Cg (isNaN_u32_spec _) ?_;simp only[vx,T,seval];refine Cg (isNaN_u32_spec _) ?_;simp only[vx,T,seval];refine⟨fun h=>Lg ?_,fun h=>Lg ?_⟩
 ·simp only[vx,T,seval];refine Va ?_;simp only[vLe,vLeL,ry,seval,cmpI_lt h]
 simp only[vx,T,seval];refine⟨fun h'=>Lg ?_,fun h'=>Lg ?_⟩
 ·simp only[vx,T,seval];refine Va ?_;simp only[vLe,vLeL,ry,seval,cmpI_gt h']
 simp only[vx,T,seval];refine Va ?_;simp only[vLe,vLeL,ry,seval,cmpI_eq (show x=y by omega)]
theorem len_cmp {m n:Nat}(h:¬(nl m:Int)=nl n):cmpI (nl m) (nl n)=cmpI m n:=by
 rcases Nat.lt_trichotomy m n with h1|h1|h1
 ·have:=nl_mono (Nat.le_of_lt h1)
  rw[cmpI_lt (by omega),cmpI_lt (by omega)]
 ·subst h1;exact absurd rfl h
 have:=nl_mono (Nat.le_of_lt h1)
 rw[cmpI_gt (by omega),cmpI_gt (by omega)]
theorem icompare_spec (m n:Nat)(hm:nl m<2^62)(hn:nl n<2^62):Pr Tryz.prog 237 [.one (.ints .u32 (limbs m)),.one (.ints .u32 (limbs n))] (.one (.int .i64 (cmpI m n))):=by
 refine pw Tryz.func237 ⟨[0,1,4,5,10,20,31],[]⟩ ?_;simp only[Tryz.f237,Tryz.ntmps237,iz,seval];simp only[vx,T,seval];refine⟨fun h=>Lg ?_,fun h=>Lg ?_⟩
 ·simp only[vx,T,seval];refine Cg (Compare_i64_spec _ _) ?_;simp only[vx,T,seval];refine Va ?_;simp only[vLe,vLeL,ry,seval,len_cmp h]
 simp only[vx,T,seval];rw[Q4 _ (by omega)];refine Lk (fun i:{i:Nat//i≤nl m∧m/BB^i=n/BB^i}=>⟨[(0,.one (.ints .u32 (limbs m))),(1,.one (.ints .u32 (limbs n))),(5,.one (.int .i64 ((i.1:Int)-1)))],[],3,41⟩) (fun i=>i.1) ⟨nl m,O1 _,by rw[div_top (O1 _),div_top (by omega)]⟩ ?_ (fun⟨i,hi,hd⟩=>?_)
 ·refine Sa ?_;simp only[ry,seval,rz]
 simp only[vx,T,seval];refine⟨fun hi0=>Lg ?_,fun hi0=>Lg ?_⟩
 ·obtain⟨j,rfl⟩:∃j,i=j+1:=⟨i-1,by omega⟩;simp only[show ((j+1:Nat):Int)-1=(j:Int) by omega,Q1]at hi0⊢;simp only[vx,T,seval];refine⟨by omega,by omega,?_⟩;refine⟨fun hdig=>Lg ?_,fun hdig=>Lg ?_⟩
  ·simp only[vx,T,seval];refine⟨by omega,by omega,Cg (Compare_u32_spec _ _) ?_⟩;simp only[vx,T,seval];simp only[lG]at hdig⊢;refine Ve ?_
   rcases Nat.lt_or_ge (m/BB^j%BB) (n/BB^j%BB)with h1|h1
   ·rw[cmpI_lt (by omega),cmpI_lt (by have:=digit_lt hd h1;omega)]
   rw[cmpI_gt (by omega),cmpI_gt (by have:=digit_lt (m:=n) (n:=m) hd.symm (by omega);omega)]
  simp only[vx,T,seval];simp only[lG]at hdig;rw[Q4 _ (by omega)];refine Lq ⟨j,by omega,digit_eq hd (by omega)⟩ ?_ ?_
  ·refine Sa ?_;simp only[ry,seval,rz]
  simp
 have h0:i=0:=by omega
 subst h0;simp only[vx,T,seval];have h0:m=n:=by simpa using hd
 refine Va ?_;simp only[vLe,vLeL,ry,seval,cmpI_eq (show(m:Int)=n by omega)]
theorem rcompare_spec (m n:Nat)(hm:nl m<2^62)(hn:nl n<2^62):Pr Tryz.prog 311 [.one (.ints .u32 (limbs m)),.one (.ints .u32 (limbs n))] (.one (.int .i64 (cmpI m n))):=by
 refine pw Tryz.func311 ⟨[0,1,4,5,10,15,20,31,40],[]⟩ ?_;simp only[Tryz.f311,Tryz.ntmps311,iz,seval];simp only[vx,T,seval];refine⟨fun h=>Lg ?_,fun h=>Lg ?_⟩
 ·simp only[vx,T,seval];rw[←len_cmp h];refine⟨fun h1=>Lg ?_,fun h1=>Lg ?_⟩
  ·simp only[vx,T,seval];refine Va ?_;simp only[vLe,vLeL,ry,seval,cmpI_lt h1]
  simp only[vx,T,seval];refine Va ?_;simp only[vLe,vLeL,ry,seval,cmpI_gt (show(nl n:Int)<nl m by omega)]
 simp only[vx,T,seval];rw[Q4 _ (by omega)];refine Lk (fun i:{i:Nat//i≤nl m∧m/BB^i=n/BB^i}=>⟨[(0,.one (.ints .u32 (limbs m))),(1,.one (.ints .u32 (limbs n))),(5,.one (.int .i64 ((i.1:Int)-1)))],[],3,41⟩) (fun i=>i.1) ⟨nl m,O1 _,by rw[div_top (O1 _),div_top (by omega)]⟩ ?_ (fun⟨i,hi,hd⟩=>?_)
 ·refine Sa ?_;simp only[ry,seval,rz]
 simp only[vx,T,seval];refine⟨fun hi0=>Lg ?_,fun hi0=>Lg ?_⟩
 ·obtain⟨j,rfl⟩:∃j,i=j+1:=⟨i-1,by omega⟩;simp only[show ((j+1:Nat):Int)-1=(j:Int) by omega,Q1]at hi0⊢;simp only[vx,T,seval];refine⟨by omega,by omega,?_⟩;refine⟨fun hdig=>Lg ?_,fun hdig=>Lg ?_⟩
  ·simp only[vx,T,seval];simp only[lG]at hdig;have hlt:(m:Int)<n:=by have:=digit_lt hd (show m/BB^j%BB<n/BB^j%BB by omega);omega
   refine Va ?_;simp only[vLe,vLeL,ry,seval,cmpI_lt hlt]
  simp only[vx,T,seval];refine⟨by omega,by omega,?_⟩;refine⟨fun hdig2=>Lg ?_,fun hdig2=>Lg ?_⟩
  ·simp only[vx,T,seval];simp only[lG]at hdig2;have hlt:(n:Int)<m:=by have:=digit_lt (m:=n) (n:=m) hd.symm (show n/BB^j%BB<m/BB^j%BB by omega);omega
   refine Va ?_;simp only[vLe,vLeL,ry,seval,cmpI_gt hlt]
  simp only[vx,T,seval];simp only[lG]at hdig hdig2;rw[Q4 _ (by omega)];refine Lq ⟨j,by omega,digit_eq hd (by omega)⟩ ?_ ?_
  ·refine Sa ?_;simp only[ry,seval,rz]
  simp
 have h0:i=0:=by omega
 subst h0;simp only[vx,T,seval];have h0:m=n:=by simpa using hd
 refine Va ?_;simp only[vLe,vLeL,ry,seval,cmpI_eq (show(m:Int)=n by omega)]
end Go.Proofs.YtcdijplheindaaaGreat
set_option maxHeartbeats 2000000
namespace Go.Proofs.YtcdijplheindaaaGreat
open Go Go.Eng
theorem carry_step {P v c A B' s x y:Nat}(h:v+P*c=A+B')(hs:s=c+x+y):(v+P*(s%BB))+(P*BB)*(s/BB)=(A+P*x)+(B'+P*y):=by
 have h1:P*s=P*(BB*(s/BB))+P*(s%BB):=by rw[←Nat.mul_add,Nat.div_add_mod]
 have h2:(P*BB)*(s/BB)=P*(BB*(s/BB)):=Nat.mul_assoc _ _ _;have h3:P*s=P*c+P*x+P*y:=by rw[hs,Nat.mul_add,Nat.mul_add]
 omega
theorem mod_next (x i:Nat):x%BB^(i+1)=x%BB^i+BB^i*(x/BB^i%BB):=Nat.mod_pow_succ
theorem mod_all {x k:Nat}(h:nl x≤k):x%BB^k=x:=O7 (nl_le_iff.1 h)
theorem digit_out {x k:Nat}(h:nl x≤k):x/BB^k%BB=0:=by rw[div_top h];rfl
theorem wrapBB (s:Nat):IntKind.u32.wrap (s:Int)=((s%BB:Nat):Int):=by
 rw[IntKind.wrap_u32,Int.natCast_emod];rfl
theorem fdivBB (s:Nat):(s:Int).fdiv 4294967296=((s/BB:Nat):Int):=by
 rw[Int.fdiv_eq_ediv_of_nonneg _ (by decide),Int.natCast_ediv];rfl
theorem modBB (s:Nat):s%BB<4294967296:=Nat.mod_lt _ (by decide)
theorem InR.digit (s:Nat):InR [((s%BB:Nat):Int)]:=InR.one ⟨by omega,by have:=modBB s;omega⟩
theorem val_one (x:Nat):val [(x:Int)]=x:=by simp[val]
structure PlusInv (a b i:Nat) (os:List Int) (c:Nat):Prop where
 le:i≤nl a
 inr:InR (os.take i)
 len:i≤os.length
 eq:val (os.take i)+BB^i*c=a%BB^i+b%BB^i
 c:c≤1
theorem PlusInv.step {a b i:Nat}{os:List Int}{c s:Nat}(h:PlusInv a b i os c)(hi:i<nl a)(hs:s=c+a/BB^i%BB+b/BB^i%BB):PlusInv a b (i+1) (os.take i++[((s%BB:Nat):Int)]) (s/BB):=by
 have hlen:(os.take i).length=i:=by have:=h.len;simp;omega
 have ht:(os.take i++[((s%BB:Nat):Int)]).take (i+1)=os.take i++[((s%BB:Nat):Int)]:=List.take_of_length_le (by rw[X6,hlen];simp);refine⟨hi,?_,?_,?_,?_⟩
 ·rw[ht];exact h.inr.append (InR.digit s)
 ·rw[X6,hlen];simp
 ·rw[ht,val_append,hlen,val_one,mod_next a,mod_next b,O4];exact carry_step h.eq hs
 have h1:=modBB (a/BB^i);have h2:=modBB (b/BB^i);have h3:=h.c
 have:s/BB<2:=by rw[Nat.div_lt_iff_lt_mul (by decide)];unfold BB at*;omega
 omega
theorem PlusInv.sum {a b:Nat}{os:List Int}{c:Nat}(hb:nl b≤nl a)(h:PlusInv a b (nl a) os c):val (os.take (nl a))+BB^nl a*c=a+b:=by
 have:=h.eq
 rw[mod_all (O1 _),mod_all hb]at this;exact this
theorem PlusInv.done0 {a b:Nat}{os:List Int}(hb:nl b≤nl a)(h:PlusInv a b (nl a) os 0):os.take (nl a)=limbs (a+b):=by
 have hs:=h.sum hb;have hlen:(os.take (nl a)).length=nl a:=by have:=h.len;simp;omega
 simp only[Nat.mul_zero,Nat.add_zero]at hs;rw[←hs]
 refine(limbs_val_ge h.inr ?_).symm
 rw[hlen,hs]
 rcases Nat.eq_zero_or_pos a with h0|h0
 ·left;subst h0;exact nl_zero
 right;have:=ge_of_nl h0;omega
theorem PlusInv.done1 {a b:Nat}{os:List Int}{c:Nat}(hb:nl b≤nl a)(h:PlusInv a b (nl a) os c)(hc:0<c):os.take (nl a)++[((c%BB:Nat):Int)]=limbs (a+b):=by
 have hs:=h.sum hb;have hlen:(os.take (nl a)).length=nl a:=by have:=h.len;simp;omega
 have h1:c=1:=by have:=h.c;omega
 subst h1;have e:val (os.take (nl a)++[((1%BB:Nat):Int)])=a+b:=by rw[val_append,val_one,hlen];exact hs
 rw[←e]
 refine(limbs_val_ge (h.inr.append (InR.digit 1)) (.inr ?_)).symm
 rw[e,X6,hlen,←hs]
 simp
theorem iplus_aux (swap:Bool)(a b:Nat)(hab:nl b≤nl a)(hsw:swap=true→nl b<nl a)(ha:nl a<2^44):Pr Tryz.prog 335 [.one (.ints .u32 (limbs (if swap then b else a))),.one (.ints .u32 (limbs (if swap then a else b)))] (.one (.ints .u32 (limbs (a+b)))):=by
 refine pw Tryz.func335 ⟨[0,1,4,5,6,7,8,13,20,21,22,23,34,51],[]⟩ ?_;simp only[Tryz.f335,Tryz.ntmps335,iz,seval]
 cases swap
 case' false=>have hlt:((nl a:Int)<nl b)=False:=by simp;omega
 case' true=>have hlt:((nl b:Int)<nl a)=True:=by have:=hsw rfl;simp;omega
 all_goals
  simp only[vx,T,seval,hlt];rw[Q4 _ (by omega)];refine⟨⟨by omega,by omega,by omega⟩,Lk (fun i:{i:Nat×List Int×Nat//PlusInv a b i.1 i.2.1 i.2.2}=>⟨[(0,.one (.ints .u32 (limbs a))),(1,.one (.ints .u32 (limbs b))),(5,.one (.own 1 1 0 i.1.1)),(6,.one (.int .u64 i.1.2.2)),(20,.one (.ints .u32 (limbs a))),(21,.one (.int .i64 (nl a))),(22,.one (.int .i64 i.1.1))],[(1,⟨.ints 187 .u32 i.1.2.1,true⟩)],3,58⟩) (fun i=>nl a-i.1.1) ⟨(0,List.replicate ((nl a:Int)+1).toNat 0,0),O2 _,InR.nil,O2 _,by simp[val,Nat.mod_one],O2 _⟩ ?_ (fun⟨⟨i,os,c⟩,hi⟩=>?_)⟩
  ·refine Sa ?_;simp only[ry,seval,rz]
  have h1:=hi.le;have h2:=hi.len;have h3:=hi.c;simp only at h1 h2 h3;simp only[vx,T,seval];refine⟨fun h=>Lg ?_,fun h=>Lg ?_⟩
  ·simp only[vx,T,seval];refine⟨⟨by omega,by omega⟩,?_⟩;have hlen:(os.take i).length=i:=by simp;omega
   have hx:=modBB (a/BB^i);have hy:=modBB (b/BB^i)
   simp(disch:=omega) only[lG,←X2,←Q2,Q1,Q4,Q5,wrapBB,fdivBB,true_and,and_true]
   refine⟨fun h'=>Lg ?_,fun h'=>Lg ?_⟩
   ·simp only[vx,T,seval];refine⟨⟨by omega,by omega⟩,?_⟩
    simp(disch:=omega) only[lG,←X2,←Q2,Q1,Q4,Q5,wrapBB,fdivBB,true_and,and_true,hlen,X6]
    refine⟨by omega,Lq ⟨(i+1,_,_),hi.step (by omega) rfl⟩ ?_ ?_⟩
    ·refine Sa ?_;simp only[ry,seval,rz,hlen,X6]
    simp only;omega
   simp only[vx,T,seval];have hy0:=digit_out (x:=b) (k:=i) (by omega)
   simp(disch:=omega) only[lG,←X2,←Q2,Q1,Q4,Q5,wrapBB,fdivBB,true_and,and_true,hlen,X6]
   refine⟨by omega,Lq ⟨(i+1,_,_),hi.step (s:=c+a/BB^i%BB) (by omega) (by rw[hy0];rfl)⟩ ?_ ?_⟩
   ·refine Sa ?_;simp only[ry,seval,rz,hlen,X6]
   simp only;omega
  simp only[vx,T,seval];have hia:i=nl a:=by omega
  subst hia;refine⟨fun h'=>Lg ?_,fun h'=>Lg ?_⟩
  ·simp only[vx,T,seval];simp only[wrapBB];refine⟨by simp;omega,?_⟩;have hd1:=hi.done1 hab (by simp only;omega);refine Va ?_;simp only[vLe,vLeL,ry,seval,hd1]
  simp only[vx,T,seval];have hc0:c=0:=by omega
  subst hc0;have hd0:=hi.done0 hab;refine Va ?_;simp only[vLe,vLeL,ry,seval,hd0]
end Go.Proofs.YtcdijplheindaaaGreat
set_option maxHeartbeats 2000000
namespace Go.Proofs.YtcdijplheindaaaGreat
open Go Go.Eng
theorem iplus_spec (m n:Nat)(hm:nl m<2^44)(hn:nl n<2^44):Pr Tryz.prog 335 [.one (.ints .u32 (limbs m)),.one (.ints .u32 (limbs n))] (.one (.ints .u32 (limbs (m+n)))):=by
 rcases Nat.lt_or_ge (nl m) (nl n)with h|h
 ·have:=iplus_aux true n m (by omega) (fun _=>h) hn
  rw[Nat.add_comm];exact this
 exact iplus_aux false m n h (fun h=>by cases h) hm
theorem take_set_succ {os:List Int}{i:Nat}{d:Int}(h:i<os.length):(os.set i d).take (i+1)=os.take i++[d]:=by
 rw[List.take_set,List.take_succ_eq_append_getElem h,List.set_append_right _ _ (by simp;omega)]
 have:i-(os.take i).length=0:=by simp;omega
 rw[this];rfl
theorem PlusInv.of_take {a b i:Nat}{os os':List Int}{c:Nat}(h:PlusInv a b i os c)(he:os'.take i=os.take i)(hl:i≤os'.length):PlusInv a b i os' c:=
 ⟨h.le,by rw[he];exact h.inr,hl,by rw[he];exact h.eq,h.c⟩
theorem PlusInv.put {a b i:Nat}{os:List Int}{c s:Nat}(h:PlusInv a b i os c)(hi:i<nl a)(hl:i<os.length)(hs:s=c+a/BB^i%BB+b/BB^i%BB):PlusInv a b (i+1) (os.set i ((s%BB:Nat):Int)) (s/BB):=
 (h.step hi hs).of_take (by rw[take_set_succ hl,List.take_of_length_le (l:=os.take i++_) (by simp;omega)]) (by simp;omega)
theorem PlusInv.last {a b:Nat}{os:List Int}{c:Nat}(hb:nl b≤nl a)(h:PlusInv a b (nl a) os c)(hl:os.length=nl a+1):val (os.set (nl a) ((c%BB:Nat):Int))=a+b∧InR (os.set (nl a) ((c%BB:Nat):Int)):=by
 have e:os.set (nl a) ((c%BB:Nat):Int)=os.take (nl a)++[((c%BB:Nat):Int)]:=by
  rw[←take_set_succ (by omega),List.take_of_length_le (by simp;omega)]
 have h1:c%BB=c:=O7 (by have:=h.c;unfold BB;omega);have hlen:(os.take (nl a)).length=nl a:=by simp;omega
 refine⟨?_,by rw[e];exact h.inr.append (InR.digit c)⟩;rw[e,val_append,val_one,h1,hlen];exact h.sum hb
theorem rplus_aux (swap:Bool)(a b:Nat)(hab:nl b≤nl a)(hsw:swap=true→nl b<nl a)(ha:nl a<2^44):Pr Tryz.prog 340 [.one (.ints .u32 (limbs (if swap then b else a))),.one (.ints .u32 (limbs (if swap then a else b)))] (.one (.ints .u32 (limbs (a+b)))):=by
 refine pw Tryz.func340 ⟨[0,1,4,5,6,7,12,22,35],[]⟩ ?_;simp only[Tryz.f340,Tryz.ntmps340,iz,seval]
 cases swap
 case' false=>have hlt:((nl a:Int)<nl b)=False:=by simp;omega
 case' true=>have hlt:((nl b:Int)<nl a)=True:=by have:=hsw rfl;simp;omega
 all_goals
  simp only[vx,T,seval,hlt];rw[Q4 _ (by omega)];refine⟨⟨by omega,by omega,by omega⟩,Lk (fun i:{i:Nat×List Int×Nat//PlusInv a b i.1 i.2.1 i.2.2∧i.2.1.length=nl a+1}=>⟨[(0,.one (.ints .u32 (limbs a))),(1,.one (.ints .u32 (limbs b))),(5,.one (.own 1 1 0 (nl a+1))),(6,.one (.int .u64 i.1.2.2)),(7,.one (.int .i64 i.1.1))],[(1,⟨.ints 187 .u32 i.1.2.1,true⟩)],3,58⟩) (fun i=>nl a-i.1.1) ⟨(0,List.replicate (nl a+1) 0,0),⟨O2 _,InR.nil,O2 _,by simp[val,Nat.mod_one],O2 _⟩,by simp⟩ ?_ (fun⟨⟨i,os,c⟩,hi,hl⟩=>?_)⟩
  ·have e:((nl a:Int)+1).toNat=nl a+1:=by omega
   refine Sa ?_;simp only[ry,seval,rz,e]
  have h1:=hi.le;have h2:=hi.len;have h3:=hi.c;simp only at h1 h2 h3 hl;simp only[vx,T,seval];refine⟨fun h=>Lg ?_,fun h=>Lg ?_⟩
  ·simp only[vx,T,seval];refine⟨⟨by omega,by omega⟩,?_⟩;have hx:=modBB (a/BB^i);have hy:=modBB (b/BB^i)
   simp(disch:=omega) only[lG,←X2,←Q2,Q1,Q4,Q5,wrapBB,fdivBB,true_and,and_true]
   refine⟨fun h'=>Lg ?_,fun h'=>Lg ?_⟩
   ·simp only[vx,T,seval];refine⟨⟨by omega,by omega⟩,?_⟩
    simp(disch:=omega) only[lG,←X2,←Q2,Q1,Q4,Q5,wrapBB,fdivBB,true_and,and_true]
    refine⟨by omega,Lq ⟨(i+1,_,_),hi.put (by omega) (by simp only;omega) rfl,by simp only[List.length_set];exact hl⟩ ?_ ?_⟩
    ·refine Sa ?_;simp only[ry,seval,rz]
    simp only;omega
   simp only[vx,T,seval];have hy0:=digit_out (x:=b) (k:=i) (by omega)
   simp(disch:=omega) only[lG,←X2,←Q2,Q1,Q4,Q5,wrapBB,fdivBB,true_and,and_true]
   refine⟨by omega,Lq ⟨(i+1,_,_),hi.put (s:=c+a/BB^i%BB) (by omega) (by simp only;omega) (by rw[hy0];rfl),by simp only[List.length_set];exact hl⟩ ?_ ?_⟩
   ·refine Sa ?_;simp only[ry,seval,rz]
   simp only;omega
  simp only[vx,T,seval];have hia:i=nl a:=by omega
  subst hia;refine⟨⟨by omega,by omega⟩,?_⟩;obtain⟨hv,hr⟩:=hi.last hab hl;simp only at hv hr
  simp(disch:=omega) only[lG,←X2,←Q2,Q1,Q4,Q5,wrapBB,fdivBB,true_and,and_true]
  rw[List.take_of_length_le (by simp;omega)];refine Cg (rtrim_spec _ hr (by simp;omega)) ?_;rw[hv];simp only[vx,T,seval];refine Va ?_;simp only[vLe,vLeL,ry,seval]
theorem rplus_spec (m n:Nat)(hm:nl m<2^44)(hn:nl n<2^44):Pr Tryz.prog 340 [.one (.ints .u32 (limbs m)),.one (.ints .u32 (limbs n))] (.one (.ints .u32 (limbs (m+n)))):=by
 rcases Nat.lt_or_ge (nl m) (nl n)with h|h
 ·have:=rplus_aux true n m (by omega) (fun _=>h) hn
  rw[Nat.add_comm];exact this
 exact rplus_aux false m n h (fun h=>by cases h) hm
structure MinusInv (a b i:Nat) (os:List Int) (c:Nat):Prop where
 le:i≤nl a
 inr:InR (os.take i)
 len:os.length=nl a
 eq:val (os.take i)+b%BB^i=a%BB^i+BB^i*c
 c:c≤1
@[irreducible] def dBor (x y c:Nat):Nat:=if x<y+c then 1 else 0
@[irreducible] def dDig (x y c:Nat):Nat:=x+BB*dBor x y c-(y+c)
theorem dDig_eq {x y c:Nat}(hx:x<BB)(hy:y<BB)(hc:c≤1):dDig x y c+(y+c)=x+BB*dBor x y c∧dDig x y c<BB∧dBor x y c≤1:=by
 unfold dDig dBor;unfold BB at*
 split<;>omega
theorem bor_step {P v c A B' x y d c':Nat}(h:v+B'=A+P*c)(hd:d+(y+c)=x+BB*c'):(v+P*d)+(B'+P*y)=(A+P*x)+(P*BB)*c':=by
 have h1:P*d+P*y+P*c=P*x+P*(BB*c'):=by rw[←Nat.mul_add,←Nat.mul_add,←Nat.mul_add,←hd,Nat.add_assoc]
 rw[Nat.mul_assoc];omega
theorem MinusInv.put {a b i:Nat}{os:List Int}{c:Nat}(h:MinusInv a b i os c)(hi:i<nl a):MinusInv a b (i+1) (os.set i ((dDig (a/BB^i%BB) (b/BB^i%BB) c:Nat):Int)) (dBor (a/BB^i%BB) (b/BB^i%BB) c):=by
 have hl:i<os.length:=by rw[h.len];exact hi
 obtain⟨h1,h2,h3⟩:=dDig_eq (modBB (a/BB^i)) (modBB (b/BB^i)) h.c;have hlen:(os.take i).length=i:=by simp;omega
 refine⟨hi,?_,by rw[List.length_set];exact h.len,?_,h3⟩
 ·rw[take_set_succ hl];have h4:dDig (a/BB^i%BB) (b/BB^i%BB) c<4294967296:=h2;exact h.inr.append (InR.one ⟨by omega,by omega⟩)
 rw[take_set_succ hl,val_append,hlen,val_one,mod_next a,mod_next b,O4];exact bor_step h.eq h1
theorem MinusInv.last {a b:Nat}{os:List Int}{c:Nat}(hb:b≤a)(h:MinusInv a b (nl a) os c):val os=a-b∧InR os:=by
 have e:os.take (nl a)=os:=List.take_of_length_le (by rw[h.len];exact O1 _);have h1:=h.eq;have h2:=h.inr;rw[e]at h1 h2;rw[mod_all (O1 _),mod_all (nl_mono hb)]at h1;have h3:=val_lt h2;rw[h.len]at h3;refine⟨?_,h2⟩;have h4:=h.c
 rcases Nat.lt_or_ge c 1 with h5|h5
 ·have:c=0:=by omega
  subst this;omega
 have:c=1:=by omega
 subst this;omega
theorem wrap_u64' (n:Int):IntKind.u64.wrap n=n%18446744073709551616:=by
 simp[IntKind.wrap,IntKind.bits,IntKind.signed]
theorem isub_dig {x y c:Nat}(hx:x<BB)(hy:y<BB)(hc:c≤1):IntKind.u32.wrap (IntKind.u64.wrap (IntKind.u64.wrap ((x:Int)-c)-y))=(dDig x y c:Nat):=by
 unfold dDig dBor;unfold BB at*
 rw[IntKind.wrap_u32,wrap_u64',wrap_u64']
 split<;>omega
theorem isub_bor {x y c:Nat}(hx:x<BB)(hy:y<BB)(hc:c≤1):(IntKind.u64.wrap (IntKind.u64.wrap ((x:Int)-c)-y)).fdiv 9223372036854775808=(dBor x y c:Nat):=by
 unfold dBor;unfold BB at*
 rw[wrap_u64',wrap_u64',Int.fdiv_eq_ediv_of_nonneg _ (by decide)]
 split<;>omega
theorem isub_dig0 {x c:Nat}(hx:x<BB)(hc:c≤1):IntKind.u32.wrap (IntKind.u64.wrap ((x:Int)-c))=(dDig x 0 c:Nat):=by
 unfold dDig dBor;unfold BB at*
 rw[IntKind.wrap_u32,wrap_u64']
 split<;>omega
theorem isub_bor0 {x c:Nat}(hx:x<BB)(hc:c≤1):(IntKind.u64.wrap ((x:Int)-c)).fdiv 9223372036854775808=(dBor x 0 c:Nat):=by
 unfold dBor;unfold BB at*
 rw[wrap_u64',Int.fdiv_eq_ediv_of_nonneg _ (by decide)]
 split<;>omega
theorem rsub_dig {x y c:Nat}(hx:x<BB)(hy:y<BB)(hc:c≤1):IntKind.u32.wrap (IntKind.u64.wrap (IntKind.u64.wrap (IntKind.u64.wrap ((x:Int)+4294967296)-y)-c))=(dDig x y c:Nat):=by
 unfold dDig dBor;unfold BB at*
 rw[IntKind.wrap_u32,wrap_u64',wrap_u64',wrap_u64']
 split<;>omega
theorem rsub_bor {x y c:Nat}(hx:x<BB)(hy:y<BB)(hc:c≤1):IntKind.u64.wrap (1-(IntKind.u64.wrap (IntKind.u64.wrap (IntKind.u64.wrap ((x:Int)+4294967296)-y)-c)).fdiv 4294967296)=(dBor x y c:Nat):=by
 unfold dBor;unfold BB at*
 rw[wrap_u64',wrap_u64',wrap_u64',wrap_u64',Int.fdiv_eq_ediv_of_nonneg _ (by decide)]
 split<;>omega
theorem rsub_dig0 {x c:Nat}(hx:x<BB)(hc:c≤1):IntKind.u32.wrap (IntKind.u64.wrap (IntKind.u64.wrap (IntKind.u64.wrap ((x:Int)+4294967296))-c))=(dDig x 0 c:Nat):=by
 unfold dDig dBor;unfold BB at*
 rw[IntKind.wrap_u32,wrap_u64',wrap_u64',wrap_u64']
 split<;>omega
theorem rsub_bor0 {x c:Nat}(hx:x<BB)(hc:c≤1):IntKind.u64.wrap (1-(IntKind.u64.wrap (IntKind.u64.wrap (IntKind.u64.wrap ((x:Int)+4294967296))-c)).fdiv 4294967296)=(dBor x 0 c:Nat):=by
 unfold dBor;unfold BB at*
 rw[wrap_u64',wrap_u64',wrap_u64',wrap_u64',Int.fdiv_eq_ediv_of_nonneg _ (by decide)]
 split<;>omega
theorem iminus_spec (a b:Nat)(hab:b≤a)(ha:nl a<2^44):Pr Tryz.prog 336 [.one (.ints .u32 (limbs a)),.one (.ints .u32 (limbs b))] (.one (.ints .u32 (limbs (a-b)))):=by
 have hba:=nl_mono hab;refine pw Tryz.func336 ⟨[0,1,4,5,6,7,8,9,13,14,15,16,27],[]⟩ ?_;simp only[Tryz.f336,Tryz.ntmps336,iz,seval];simp only[vx,T,seval];refine⟨⟨by omega,by omega,by omega,by omega⟩,Lk (fun i:{i:Nat×List Int×Nat//MinusInv a b i.1 i.2.1 i.2.2}=>⟨[(0,.one (.ints .u32 (limbs a))),(1,.one (.ints .u32 (limbs b))),(5,.one (.own 1 1 0 (nl a))),(6,.one (.int .u64 i.1.2.2)),(13,.one (.ints .u32 (limbs a))),(14,.one (.int .i64 (nl a))),(15,.one (.int .i64 i.1.1))],[(1,⟨.ints 187 .u32 i.1.2.1,true⟩)],3,45⟩) (fun i=>nl a-i.1.1) ⟨(0,List.replicate (nl a) 0,0),O2 _,InR.nil,by simp,by simp[val,Nat.mod_one],O2 _⟩ ?_ (fun⟨⟨i,os,c⟩,hi⟩=>?_)⟩
 ·refine Sa ?_;simp only[ry,seval,rz]
 have h1:=hi.le;have h2:=hi.len;have h3:=hi.c;simp only at h1 h2 h3;simp only[vx,T,seval];refine⟨fun h=>Lg ?_,fun h=>Lg ?_⟩
 ·simp only[vx,T,seval];refine⟨⟨by omega,by omega⟩,?_⟩;have hx:=modBB (a/BB^i);have hy:=modBB (b/BB^i);have e1:=Q5 (a/BB^i%BB:Nat) (by omega);have e2:=Q5 (b/BB^i%BB:Nat) (by omega);refine⟨fun h'=>Lg ?_,fun h'=>Lg ?_⟩
  ·simp only[vx,T,seval];have hp:=hi.put (by omega);simp only[lG,e1,e2,isub_dig hx hy h3,isub_bor hx hy h3,Q4 _ (show-9223372036854775808≤(i:Int)+1∧(i:Int)+1≤9223372036854775807 by omega)];refine⟨⟨by omega,by omega⟩,⟨by omega,by omega⟩,Lq ⟨(i+1,_,_),hp⟩ ?_ ?_⟩
   ·refine Sa ?_;simp only[ry,seval,rz]
   simp only;omega
  simp only[vx,T,seval];have hy0:=digit_out (x:=b) (k:=i) (by omega);have hp:=hi.put (by omega);rw[hy0]at hp;simp only[lG,e1,e2,isub_dig0 hx h3,isub_bor0 hx h3,Q4 _ (show-9223372036854775808≤(i:Int)+1∧(i:Int)+1≤9223372036854775807 by omega)];refine⟨⟨by omega,by omega⟩,Lq ⟨(i+1,_,_),hp⟩ ?_ ?_⟩
  ·refine Sa ?_;simp only[ry,seval,rz]
  simp only;omega
 simp only[vx,T,seval];have hia:i=nl a:=by omega
 subst hia;obtain⟨hv,hr⟩:=hi.last hab;simp only at hv hr;rw[List.take_of_length_le (by omega)];refine Cg (itrim_spec _ hr (by omega)) ?_;rw[hv];simp only[vx,T,seval];refine Va ?_;simp only[vLe,vLeL,ry,seval]
theorem rminus_spec (a b:Nat)(hab:b≤a)(ha:nl a<2^44):Pr Tryz.prog 317 [.one (.ints .u32 (limbs a)),.one (.ints .u32 (limbs b))] (.one (.ints .u32 (limbs (a-b)))):=by
 have hba:=nl_mono hab;refine pw Tryz.func317 ⟨[0,1,4,5,6,7,8,9,16,22],[]⟩ ?_;simp only[Tryz.f317,Tryz.ntmps317,iz,seval];simp only[vx,T,seval];refine⟨⟨by omega,by omega,by omega,by omega⟩,Lk (fun i:{i:Nat×List Int×Nat//MinusInv a b i.1 i.2.1 i.2.2}=>⟨[(0,.one (.ints .u32 (limbs a))),(1,.one (.ints .u32 (limbs b))),(5,.one (.own 1 1 0 (nl a))),(6,.one (.int .u64 i.1.2.2)),(7,.one (.int .i64 i.1.1))],[(1,⟨.ints 187 .u32 i.1.2.1,true⟩)],3,48⟩) (fun i=>nl a-i.1.1) ⟨(0,List.replicate (nl a) 0,0),O2 _,InR.nil,by simp,by simp[val,Nat.mod_one],O2 _⟩ ?_ (fun⟨⟨i,os,c⟩,hi⟩=>?_)⟩
 ·refine Sa ?_;simp only[ry,seval,rz]
 have h1:=hi.le;have h2:=hi.len;have h3:=hi.c;simp only at h1 h2 h3;simp only[vx,T,seval];refine⟨fun h=>Lg ?_,fun h=>Lg ?_⟩
 ·simp only[vx,T,seval];have hx:=modBB (a/BB^i);have hy:=modBB (b/BB^i);have e1:=Q5 (a/BB^i%BB:Nat) (by omega);have e2:=Q5 (b/BB^i%BB:Nat) (by omega);refine⟨fun h'=>Lg ?_,fun h'=>Lg ?_⟩
  ·simp only[vx,T,seval];have hp:=hi.put (by omega);simp only[lG,e1,e2,rsub_dig hx hy h3,rsub_bor hx hy h3,Q4 _ (show-9223372036854775808≤(i:Int)+1∧(i:Int)+1≤9223372036854775807 by omega)];refine⟨⟨by omega,by omega⟩,⟨by omega,by omega⟩,⟨by omega,by omega⟩,Lq ⟨(i+1,_,_),hp⟩ ?_ ?_⟩
   ·refine Sa ?_;simp only[ry,seval,rz]
   simp only;omega
  simp only[vx,T,seval];have hy0:=digit_out (x:=b) (k:=i) (by omega);have hp:=hi.put (by omega);rw[hy0]at hp;simp only[lG,e1,e2,rsub_dig0 hx h3,rsub_bor0 hx h3,Q4 _ (show-9223372036854775808≤(i:Int)+1∧(i:Int)+1≤9223372036854775807 by omega)];refine⟨⟨by omega,by omega⟩,⟨by omega,by omega⟩,Lq ⟨(i+1,_,_),hp⟩ ?_ ?_⟩
  ·refine Sa ?_;simp only[ry,seval,rz]
  simp only;omega
 simp only[vx,T,seval];have hia:i=nl a:=by omega
 subst hia;obtain⟨hv,hr⟩:=hi.last hab;simp only at hv hr;rw[List.take_of_length_le (by omega)];refine Cg (rtrim_spec _ hr (by omega)) ?_;rw[hv];simp only[vx,T,seval];refine Va ?_;simp only[vLe,vLeL,ry,seval]
end Go.Proofs.YtcdijplheindaaaGreat
set_option maxHeartbeats 2000000
namespace Go.Proofs.YtcdijplheindaaaGreat
open Go Go.Eng
structure MulOut (a b i:Nat) (os:List Int):Prop where
 le:i≤nl a
 len:os.length=nl a+nl b
 inr:InR os
 zero:∀j,i+nl b≤j→os.getD j 0=0
 eq:val os=(a%BB^i)*b
structure MulIn (a b i k:Nat) (os:List Int) (c:Nat):Prop where
 le:k≤nl b
 len:os.length=nl a+nl b
 inr:InR os
 zero:∀j,i+nl b≤j→os.getD j 0=0
 eq:val os+BB^(i+k)*c=(a%BB^i)*b+BB^i*((a/BB^i%BB)*(b%BB^k))
 c:c<BB
theorem MulOut.init (a b:Nat):MulOut a b 0 (List.replicate (nl a+nl b) 0):=
 ⟨O2 _,by simp,InR.replicate _,fun j _=>by simp[X7,List.getElem?_replicate];split<;>rfl,by rw[val_replicate];simp[Nat.mod_one]⟩
theorem MulOut.start {a b i:Nat}{os:List Int}(h:MulOut a b i os):MulIn a b i 0 os 0:=
 ⟨O2 _,h.len,h.inr,h.zero,by rw[h.eq];simp[Nat.mod_one],by decide⟩
theorem getD_set_ne {os:List Int}{i j:Nat}{d:Int}(h:i≠j):(os.set i d).getD j 0=os.getD j 0:=by
 rw[X7,X7,List.getElem?_set_ne h]
theorem MulIn.put {a b i k:Nat}{os:List Int}{c o s:Nat}(h:MulIn a b i k os c)(hi:i<nl a)(hk:k<nl b)(ho:os.getD (i+k) 0=(o:Int))(hs:s=(a/BB^i%BB)*(b/BB^k%BB)+o+c):
  MulIn a b i (k+1) (os.set (i+k) ((s%BB:Nat):Int)) (s/BB):=by
 have hl:i+k<os.length:=by rw[h.len];omega
 have hx:=modBB (a/BB^i);have hy:=modBB (b/BB^k);have ho2:o<BB:=by have:=h.inr.getD (i+k);rw[ho]at this;unfold BB;omega
 refine⟨hk,by rw[List.length_set];exact h.len,h.inr.set _ ⟨by omega,by have:=modBB s;omega⟩,fun j hj=>?_,?_,?_⟩
 ·rw[getD_set_ne (by omega)];exact h.zero j hj
 ·have e:=val_set (xs:=os) (x:=((s%BB:Nat):Int)) hl;rw[ho]at e;simp only[Q1]at e;have h1:=h.eq;have e2:BB^(i+(k+1))*(s/BB)+BB^(i+k)*(s%BB)=BB^(i+k)*s:=by
   rw[←Nat.add_assoc,O4,Nat.mul_assoc,←Nat.mul_add,Nat.div_add_mod]
  have e3:BB^(i+k)*s=BB^i*((a/BB^i%BB)*(BB^k*(b/BB^k%BB)))+BB^(i+k)*o+BB^(i+k)*c:=by
   rw[hs,Nat.mul_add,Nat.mul_add,Nat.pow_add]
   congr 2
   simp only[O6,Nat.mul_left_comm]
  rw[mod_next b k,Nat.mul_add,Nat.mul_add];omega
 have hp:(a/BB^i%BB)*(b/BB^k%BB)≤4294967295*4294967295:=Nat.mul_le_mul (by omega) (by omega);have h3:=h.c;rw[Nat.div_lt_iff_lt_mul (by decide)];unfold BB at*
 omega
theorem MulIn.next {a b i:Nat}{os:List Int}{c:Nat}(h:MulIn a b i (nl b) os c)(hi:i<nl a):MulOut a b (i+1) (os.set (i+nl b) ((c%BB:Nat):Int)):=by
 have hl:i+nl b<os.length:=by rw[h.len];omega
 have hc:c%BB=c:=O7 h.c;refine⟨hi,by rw[List.length_set];exact h.len,h.inr.set _ ⟨by omega,by have:=modBB c;omega⟩,fun j hj=>?_,?_⟩
 ·rw[getD_set_ne (by omega)];exact h.zero j (by omega)
 have e:=val_set (xs:=os) (x:=((c%BB:Nat):Int)) hl;rw[h.zero _ (O1 _),hc]at e;simp only[Q1,Int.toNat_zero,Nat.mul_zero,Nat.add_zero]at e;rw[hc,e,h.eq,mod_all (O1 _),mod_next a,Nat.add_mul,Nat.mul_assoc]
theorem MulOut.done {a b:Nat}{os:List Int}(h:MulOut a b (nl a) os):val os=a*b:=by
 rw[h.eq,mod_all (O1 _)]
theorem itimes_spec (a b:Nat)(ha:nl a<2^44)(hb:nl b<2^44):Pr Tryz.prog 239 [.one (.ints .u32 (limbs a)),.one (.ints .u32 (limbs b))] (.one (.ints .u32 (limbs (a*b)))):=by
 refine pw Tryz.func239 ⟨[0,1,4,5,6,7,8,9,10,18,25,26,27,28,32,33,34,35],[]⟩ ?_;simp only[Tryz.f239,Tryz.ntmps239,iz,seval];simp only[vx,T,seval];refine⟨fun h0=>Lg ?_,fun h0=>Lg ?_⟩
 ·simp only[vx,T,seval];have h1:=limbs_len_zero h0;refine Va ?_;simp only[vLe,vLeL,ry,seval,h1,Nat.zero_mul,limbs_zero]
 simp only[vx,T,seval];refine⟨fun h0=>Lg ?_,fun h0=>Lg ?_⟩
 ·simp only[vx,T,seval];have h1:=limbs_len_zero h0;refine Va ?_;simp only[vLe,vLeL,ry,seval,h1,Nat.mul_zero,limbs_zero]
 simp only[vx,T,seval]
 simp(disch:=omega) only[lG,←X2,←Q2,Q1,Q4,Q5,wrapBB,fdivBB,true_and,and_true]
 refine⟨⟨by omega,by omega,by omega,by omega⟩,Lk (fun i:{i:Nat×List Int//MulOut a b i.1 i.2}=>⟨[(0,.one (.ints .u32 (limbs a))),(1,.one (.ints .u32 (limbs b))),(5,.one (.own 1 1 0 (nl a+nl b))),(25,.one (.ints .u32 (limbs a))),(26,.one (.int .i64 (nl a))),(27,.one (.int .i64 i.1.1))],[(1,⟨.ints 187 .u32 i.1.2,true⟩)],3,75⟩) (fun i=>nl a-i.1.1) ⟨(0,List.replicate (nl a+nl b) 0),MulOut.init a b⟩ ?_ (fun⟨⟨i,os⟩,hi⟩=>?_)⟩
 ·refine Sa ?_;simp only[ry,seval,rz]
 have h1:=hi.le;have h2:=hi.len;simp only at h1 h2;simp only[vx,T,seval];refine⟨fun h=>Lg ?_,fun h=>Lg ?_⟩
 ·simp only[vx,T,seval];have hx:=modBB (a/BB^i);refine⟨⟨by omega,by omega⟩,Lk (fun k:{k:Nat×List Int×Nat//MulIn a b i k.1 k.2.1 k.2.2}=>⟨[(0,.one (.ints .u32 (limbs a))),(1,.one (.ints .u32 (limbs b))),(5,.one (.own 1 1 0 (nl a+nl b))),(25,.one (.ints .u32 (limbs a))),(26,.one (.int .i64 (nl a))),(27,.one (.int .i64 i)),(6,.one (.int .i64 i)),(7,.one (.int .u32 (a/BB^i%BB:Nat))),(8,.one (.int .u64 k.1.2.2)),(32,.one (.ints .u32 (limbs b))),(33,.one (.int .i64 (nl b))),(34,.one (.int .i64 k.1.1))],[(1,⟨.ints 187 .u32 k.1.2.1,true⟩)],3,75⟩) (fun k=>nl b-k.1.1) ⟨(0,os,0),hi.start⟩ ?_ (fun⟨⟨k,os',c⟩,hk⟩=>?_)⟩
  ·refine Sa ?_;simp only[ry,seval,rz,lG]
  have h3:=hk.le;have h4:=hk.len;have h5:=hk.c;have h5:c<4294967296:=h5;have hz:=hk.inr.getD (i+k);simp only at h3 h4 hz;obtain⟨o,ho⟩:=Int.eq_ofNat_of_zero_le hz.1;rw[ho]at hz;simp only[vx,T,seval];refine⟨fun h'=>Lg ?_,fun h'=>Lg ?_⟩
  ·simp only[vx,T,seval];have hy:=modBB (b/BB^k);have hp:(a/BB^i%BB)*(b/BB^k%BB)≤4294967295*4294967295:=Nat.mul_le_mul (by omega) (by omega)
   simp(disch:=omega) only[lG,←X2,←Q2,Q1,Q4,Q5,wrapBB,fdivBB,true_and,and_true,ho]
   refine⟨by omega,by omega,by omega,Lq ⟨(k+1,_,_),hk.put (s:=c+((a/BB^i%BB)*(b/BB^k%BB)+o)) (by omega) (by omega) ho (by simp only;omega)⟩ ?_ ?_⟩
   ·refine Sa ?_;simp only[ry,seval,rz]
   simp only;omega
  simp only[vx,T,seval];have hkb:k=nl b:=by omega
  subst hkb
  simp(disch:=omega) only[lG,←X2,←Q2,Q1,Q4,Q5,wrapBB,fdivBB,true_and,and_true]
  refine⟨by omega,Lq ⟨(i+1,_),hk.next (by omega)⟩ ?_ ?_⟩
  ·refine Sa ?_;simp only[ry,seval,rz]
  simp only;omega
 simp only[vx,T,seval];have hia:i=nl a:=by omega
 subst hia;have hr:=hi.inr;have hv:=hi.done;simp only at hr hv;rw[List.take_of_length_le (by omega)];refine Cg (itrim_spec _ hr (by omega)) ?_;rw[hv];simp only[vx,T,seval];refine Va ?_;simp only[vLe,vLeL,ry,seval]
theorem rtimes_spec (a b:Nat)(ha:nl a<2^44)(hb:nl b<2^44):Pr Tryz.prog 339 [.one (.ints .u32 (limbs a)),.one (.ints .u32 (limbs b))] (.one (.ints .u32 (limbs (a*b)))):=by
 refine pw Tryz.func339 ⟨[0,1,4,5,6,7,8,18,24],[]⟩ ?_;simp only[Tryz.f339,Tryz.ntmps339,iz,seval];simp only[vx,T,seval]
 simp(disch:=omega) only[lG,←X2,←Q2,Q1,Q4,Q5,wrapBB,fdivBB,true_and,and_true]
 refine⟨⟨by omega,by omega,by omega,by omega⟩,Lk (fun i:{i:Nat×List Int//MulOut a b i.1 i.2}=>⟨[(0,.one (.ints .u32 (limbs a))),(1,.one (.ints .u32 (limbs b))),(5,.one (.own 1 1 0 (nl a+nl b))),(6,.one (.int .i64 i.1.1))],[(1,⟨.ints 187 .u32 i.1.2,true⟩)],3,67⟩) (fun i=>nl a-i.1.1) ⟨(0,List.replicate (nl a+nl b) 0),MulOut.init a b⟩ ?_ (fun⟨⟨i,os⟩,hi⟩=>?_)⟩
 ·refine Sa ?_;simp only[ry,seval,rz]
 have h1:=hi.le;have h2:=hi.len;simp only at h1 h2;simp only[vx,T,seval];refine⟨fun h=>Lg ?_,fun h=>Lg ?_⟩
 ·simp only[vx,T,seval];have hx:=modBB (a/BB^i);refine Lk (fun k:{k:Nat×List Int×Nat//MulIn a b i k.1 k.2.1 k.2.2}=>⟨[(0,.one (.ints .u32 (limbs a))),(1,.one (.ints .u32 (limbs b))),(5,.one (.own 1 1 0 (nl a+nl b))),(6,.one (.int .i64 i)),(7,.one (.int .u64 k.1.2.2)),(8,.one (.int .i64 k.1.1))],[(1,⟨.ints 187 .u32 k.1.2.1,true⟩)],3,67⟩) (fun k=>nl b-k.1.1) ⟨(0,os,0),hi.start⟩ ?_ (fun⟨⟨k,os',c⟩,hk⟩=>?_)
  ·refine Sa ?_;simp only[ry,seval,rz,lG]
  have h3:=hk.le;have h4:=hk.len;have h5:=hk.c;have h5:c<4294967296:=h5;have hz:=hk.inr.getD (i+k);simp only at h3 h4 hz;obtain⟨o,ho⟩:=Int.eq_ofNat_of_zero_le hz.1;rw[ho]at hz;simp only[vx,T,seval];refine⟨fun h'=>Lg ?_,fun h'=>Lg ?_⟩
  ·simp only[vx,T,seval];have hy:=modBB (b/BB^k);have hp:(a/BB^i%BB)*(b/BB^k%BB)≤4294967295*4294967295:=Nat.mul_le_mul (by omega) (by omega)
   simp(disch:=omega) only[lG,←X2,←Q2,Q1,Q4,Q5,wrapBB,fdivBB,true_and,and_true,ho]
   refine⟨by omega,by omega,by omega,by omega,Lq ⟨(k+1,_,_),hk.put (s:=c+o+(a/BB^i%BB)*(b/BB^k%BB)) (by omega) (by omega) ho (by simp only;omega)⟩ ?_ ?_⟩
   ·refine Sa ?_;simp only[ry,seval,rz]
   simp only;omega
  simp only[vx,T,seval];have hkb:k=nl b:=by omega
  subst hkb
  simp(disch:=omega) only[lG,←X2,←Q2,Q1,Q4,Q5,wrapBB,fdivBB,true_and,and_true]
  refine⟨by omega,Lq ⟨(i+1,_),hk.next (by omega)⟩ ?_ ?_⟩
  ·refine Sa ?_;simp only[ry,seval,rz]
  simp only;omega
 simp only[vx,T,seval];have hia:i=nl a:=by omega
 subst hia;have hr:=hi.inr;have hv:=hi.done;simp only at hr hv;rw[List.take_of_length_le (by omega)];refine Cg (rtrim_spec _ hr (by omega)) ?_;rw[hv];simp only[vx,T,seval];refine Va ?_;simp only[vLe,vLeL,ry,seval]
end Go.Proofs.YtcdijplheindaaaGreat
set_option maxHeartbeats 2000000
namespace Go.Proofs.YtcdijplheindaaaGreat
open Go Go.Eng
theorem bits_or {a b:Nat}(ha:a<2^64)(hb:b<2^64):bitsOp .or .u64 (a:Int) (b:Int)=((a|||b:Nat):Int):=by
 have hab:a|||b<2^64:=Nat.or_lt_two_pow ha hb
 show IntKind.u64.wrap ((BitVec.ofInt 64 (a:Int)|||BitVec.ofInt 64 (b:Int)).toNat:Int)=_
 simp only[BitVec.ofInt_natCast,BitVec.toNat_or,BitVec.toNat_ofNat];rw[O7 ha,O7 hb,wrap_u64'];omega
theorem orBB {r d:Nat}(hr:r<BB)(hd:d<BB):bitsOp .or .u64 (IntKind.u64.wrap ((r:Int)*4294967296)) (d:Int)=((BB*r+d:Nat):Int):=by
 have h1:((r:Int)*4294967296)=((BB*r:Nat):Int):=by unfold BB;omega
 rw[h1,Q5 _ (by unfold BB at*;omega),bits_or (by unfold BB at*;omega) (by unfold BB at*;omega)]
 have:=Nat.two_pow_add_eq_or_of_lt (i:=32) (b:=d) (by unfold BB at hd;omega) r
 have h2:BB=2^32:=rfl;rw[h2,this]
theorem div_next (x i:Nat):x/BB^i=BB*(x/BB^(i+1))+x/BB^i%BB:=by
 rw[O4,←Nat.div_div_eq_div_mul,Nat.div_add_mod]
theorem quo_next {h d b:Nat}(hb:0<b):(BB*h+d)/b=BB*(h/b)+(BB*(h%b)+d)/b∧(BB*h+d)%b=(BB*(h%b)+d)%b:=by
 have e:BB*h+d=BB*(h%b)+d+b*(BB*(h/b)):=by
  have h1:=Nat.div_add_mod h b;have h2:BB*h=BB*(b*(h/b))+BB*(h%b):=by rw[←Nat.mul_add,h1]
  rw[Nat.mul_left_comm b BB];omega
 rw[e,Nat.add_mul_div_left _ _ hb,Nat.add_mul_mod_self_left];exact⟨Nat.add_comm _ _,rfl⟩
theorem quo_lt {r d b:Nat}(hr:r<b)(hd:d<BB):(BB*r+d)/b<BB:=by
 rw[Nat.div_lt_iff_lt_mul (by omega)]
 have:BB*(r+1)≤BB*b:=O9 _ hr
 rw[Nat.mul_add]at this;omega
theorem drop_set_self {os:List Int}{i:Nat}{d:Int}(h:i<os.length):(os.set i d).drop i=d::os.drop (i+1):=by
 rw[List.drop_eq_getElem_cons (by simp;omega)]
 simp[List.drop_set]
structure DivInv (a b j:Nat) (os:List Int) (r:Nat):Prop where
 le:j≤nl a
 len:os.length=nl a
 inr:InR os
 eq:val (os.drop j)=a/BB^j/b
 r:r=a/BB^j%b
theorem DivInv.init (a b:Nat)(hb:0<b):DivInv a b (nl a) (List.replicate (nl a) 0) 0:=
 ⟨O1 _,by simp,InR.replicate _,by rw[List.drop_of_length_le (by simp),div_top (O1 _)];simp[val],by rw[div_top (O1 _)];simp⟩
theorem DivInv.put {a b i:Nat}{os:List Int}{r:Nat}(hb:0<b)(h:DivInv a b (i+1) os r):
  DivInv a b i (os.set i (((BB*r+a/BB^i%BB)/b%BB:Nat):Int)) ((BB*r+a/BB^i%BB)%b):=by
 have hl:i<os.length:=by rw[h.len];exact h.le
 have hr:r<b:=by rw[h.r];exact Nat.mod_lt _ hb
 obtain⟨h1,h2⟩:=quo_next (h:=a/BB^(i+1)) (d:=a/BB^i%BB) hb;rw[←div_next]at h1 h2;have hq:=quo_lt (d:=a/BB^i%BB) hr (Nat.mod_lt _ (by decide));refine⟨Nat.le_of_lt h.le,by rw[List.length_set];exact h.len,h.inr.set _ ⟨by omega,by have:=modBB ((BB*r+a/BB^i%BB)/b);omega⟩,?_,?_⟩
 ·rw[drop_set_self hl];simp only[val,Q1];rw[h.eq,h1,O7 hq,←h.r];omega
 rw[h2,←h.r]
theorem idivideWord_spec (a b:Nat)(ha:nl a<2^44)(hb:0<b)(hb2:b<BB):Pr Tryz.prog 347 [.one (.ints .u32 (limbs a)),.one (.int .u32 b)] (.tup [.one (.ints .u32 (limbs (a/b))),.one (.ints .u32 (limbs (a%b)))]):=by
 have hb3:b<4294967296:=hb2;refine pw Tryz.func347 ⟨[0,1,4,5,6,7,8,16],[]⟩ ?_;simp only[Tryz.f347,Tryz.ntmps347,iz,seval];simp only[vx,T,seval]
 simp(disch:=omega) only[lG,←X2,←Q2,Q1,Q4,Q5,wrapBB,fdivBB,true_and,and_true]
 refine⟨⟨by omega,by omega,by omega,by omega⟩,Lk (fun j:{j:Nat×List Int×Nat//DivInv a b j.1 j.2.1 j.2.2}=>⟨[(0,.one (.ints .u32 (limbs a))),(1,.one (.int .u32 b)),(6,.one (.own 1 1 0 (nl a))),(7,.one (.int .u64 j.1.2.2)),(8,.one (.int .i64 ((j.1.1:Int)-1)))],[(1,⟨.ints 187 .u32 j.1.2.1,true⟩)],3,43⟩) (fun j=>j.1.1) ⟨(nl a,List.replicate (nl a) 0,0),DivInv.init a b hb⟩ ?_ (fun⟨⟨j,os,r⟩,hj⟩=>?_)⟩
 ·refine Sa ?_;simp only[ry,seval,rz]
 have h1:=hj.le;have h2:=hj.len;have h3:r<b:=by have:=hj.r;simp only at this;rw[this];exact Nat.mod_lt _ hb
 simp only at h1 h2;simp only[vx,T,seval];refine⟨fun h=>Lg ?_,fun h=>Lg ?_⟩
 ·obtain⟨i,rfl⟩:∃i,j=i+1:=⟨j-1,by omega⟩;simp only[show ((i+1:Nat):Int)-1=(i:Int) by omega,Q1]at h⊢;simp only[vx,T,seval];have hx:=modBB (a/BB^i);have e1:=Q5 (a/BB^i%BB:Nat) (by omega);have e2:=Q5 (b:Int) (by omega);have e3:(((BB*r+a/BB^i%BB:Nat):Int).tdiv b)=(((BB*r+a/BB^i%BB)/b:Nat):Int):=rfl;have e4:(((BB*r+a/BB^i%BB:Nat):Int).tmod b)=(((BB*r+a/BB^i%BB)%b:Nat):Int):=rfl;have hq:=quo_lt (d:=a/BB^i%BB) h3 hx;have hq2:(BB*r+a/BB^i%BB)/b<4294967296:=hq;have e5:IntKind.u64.wrap (((BB*r+a/BB^i%BB)/b:Nat):Int)=(((BB*r+a/BB^i%BB)/b:Nat):Int):=by
   generalize(BB*r+a/BB^i%BB)/b=q at hq2
   exact Q5 _ (by omega)
  simp only[lG,e1,e2,orBB (show r<BB by unfold BB;omega) hx,e3,e4,e5]
  simp(disch:=omega) only[lG,←X2,←Q2,Q1,Q4,Q5,wrapBB,fdivBB,true_and,and_true]
  refine⟨⟨by omega,by omega⟩,by omega,⟨by omega,by omega⟩,by omega,Lq ⟨(i,_,_),hj.put hb⟩ ?_ ?_⟩
  ·refine Sa ?_;simp only[ry,seval,rz]
  simp only;omega
 simp only[vx,T,seval];have hj0:j=0:=by omega
 subst hj0;have hr:=hj.inr;have hv:=hj.eq;have hrr:=hj.r;simp only[Nat.pow_zero,Nat.div_one,List.drop_zero]at hr hv hrr;rw[List.take_of_length_le (by omega)];refine Cg (itrim_spec _ hr (by omega)) ?_;rw[hv];simp only[vx,T,seval];refine Cg (ifromUint_spec r (by omega)) ?_;rw[hrr];simp only[vx,T,seval];refine Va ?_;simp only[vLe,vLeL,ry,seval]
theorem rby_spec (a b:Nat)(ha:nl a<2^44)(hb:0<b)(hb2:b<BB):Pr Tryz.prog 313 [.one (.ints .u32 (limbs a)),.one (.int .u32 b)] (.tup [.one (.ints .u32 (limbs (a/b))),.one (.int .u32 (a%b:Nat))]):=by
 have hb3:b<4294967296:=hb2;refine pw Tryz.func313 ⟨[0,1,4,5,6,7,8,16],[]⟩ ?_;simp only[Tryz.f313,Tryz.ntmps313,iz,seval];simp only[vx,T,seval]
 simp(disch:=omega) only[lG,←X2,←Q2,Q1,Q4,Q5,wrapBB,fdivBB,true_and,and_true]
 refine⟨⟨by omega,by omega,by omega,by omega⟩,Lk (fun j:{j:Nat×List Int×Nat//DivInv a b j.1 j.2.1 j.2.2}=>⟨[(0,.one (.ints .u32 (limbs a))),(1,.one (.int .u32 b)),(6,.one (.own 1 1 0 (nl a))),(7,.one (.int .u64 j.1.2.2)),(8,.one (.int .i64 ((j.1.1:Int)-1)))],[(1,⟨.ints 187 .u32 j.1.2.1,true⟩)],3,43⟩) (fun j=>j.1.1) ⟨(nl a,List.replicate (nl a) 0,0),DivInv.init a b hb⟩ ?_ (fun⟨⟨j,os,r⟩,hj⟩=>?_)⟩
 ·refine Sa ?_;simp only[ry,seval,rz]
 have h1:=hj.le;have h2:=hj.len;have h3:r<b:=by have:=hj.r;simp only at this;rw[this];exact Nat.mod_lt _ hb
 simp only at h1 h2;simp only[vx,T,seval];refine⟨fun h=>Lg ?_,fun h=>Lg ?_⟩
 ·obtain⟨i,rfl⟩:∃i,j=i+1:=⟨j-1,by omega⟩;simp only[show ((i+1:Nat):Int)-1=(i:Int) by omega,Q1]at h⊢;simp only[vx,T,seval];have hx:=modBB (a/BB^i);have e1:=Q5 (a/BB^i%BB:Nat) (by omega);have e2:=Q5 (b:Int) (by omega);have e3:(((BB*r+a/BB^i%BB:Nat):Int).tdiv b)=(((BB*r+a/BB^i%BB)/b:Nat):Int):=rfl;have e4:(((BB*r+a/BB^i%BB:Nat):Int).tmod b)=(((BB*r+a/BB^i%BB)%b:Nat):Int):=rfl;have hq:=quo_lt (d:=a/BB^i%BB) h3 hx;have hq2:(BB*r+a/BB^i%BB)/b<4294967296:=hq;have e5:IntKind.u64.wrap (((BB*r+a/BB^i%BB)/b:Nat):Int)=(((BB*r+a/BB^i%BB)/b:Nat):Int):=by
   generalize(BB*r+a/BB^i%BB)/b=q at hq2
   exact Q5 _ (by omega)
  simp only[lG,e1,e2,orBB (show r<BB by unfold BB;omega) hx,e3,e4,e5]
  simp(disch:=omega) only[lG,←X2,←Q2,Q1,Q4,Q5,wrapBB,fdivBB,true_and,and_true]
  refine⟨⟨by omega,by omega⟩,by omega,⟨by omega,by omega⟩,by omega,Lq ⟨(i,_,_),hj.put hb⟩ ?_ ?_⟩
  ·refine Sa ?_;simp only[ry,seval,rz]
  simp only;omega
 simp only[vx,T,seval];have hj0:j=0:=by omega
 subst hj0;have hr:=hj.inr;have hv:=hj.eq;have hrr:=hj.r;simp only[Nat.pow_zero,Nat.div_one,List.drop_zero]at hr hv hrr;rw[List.take_of_length_le (by omega)];refine Cg (rtrim_spec _ hr (by omega)) ?_;rw[hv];simp only[vx,T,seval];have e6:IntKind.u32.wrap (r:Int)=r:=IntWalk.u32_in _ (by omega);rw[e6,hrr];refine Va ?_;simp only[vLe,vLeL,ry,seval]
end Go.Proofs.YtcdijplheindaaaGreat
set_option maxHeartbeats 2000000
namespace Go.Proofs.YtcdijplheindaaaGreat
open Go Go.Eng
structure ResInv (xs:List Int) (off y i:Nat) (zs:List Int) (c:Nat):Prop where
 le:i≤nl y
 len:zs.length=xs.length
 inr:InR zs
 up:zs.drop (off+nl y+1)=xs.drop (off+nl y+1)
 eq:val zs+BB^(off+i)*c=val xs+BB^off*(y%BB^i)
 c:c≤1
theorem set_drop {zs:List Int}{i j:Nat}{d:Int}(h:i<j):(zs.set i d).drop j=zs.drop j:=List.drop_set_of_lt h
theorem ResInv.put {xs:List Int}{off y i:Nat}{zs:List Int}{c o s:Nat}(h:ResInv xs off y i zs c)(hi:i<nl y)(hl:off+nl y<xs.length)(ho:zs.getD (off+i) 0=(o:Int))(hs:s=o+y/BB^i%BB+c):
  ResInv xs off y (i+1) (zs.set (off+i) ((s%BB:Nat):Int)) (s/BB):=by
 have hl2:off+i<zs.length:=by rw[h.len];omega
 have hy:=modBB (y/BB^i);have ho2:o<4294967296:=by have:=h.inr.getD (off+i);rw[ho]at this;omega
 refine⟨hi,by rw[List.length_set];exact h.len,h.inr.set _ ⟨by omega,by have:=modBB s;omega⟩,by rw[set_drop (by omega)];exact h.up,?_,?_⟩
 ·have e:=val_set (xs:=zs) (x:=((s%BB:Nat):Int)) hl2;rw[ho]at e;simp only[Q1]at e;have h1:=h.eq;have e2:BB^(off+(i+1))*(s/BB)+BB^(off+i)*(s%BB)=BB^(off+i)*s:=by
   rw[←Nat.add_assoc,O4,Nat.mul_assoc,←Nat.mul_add,Nat.div_add_mod]
  have e3:BB^(off+i)*s=BB^(off+i)*o+BB^off*(BB^i*(y/BB^i%BB))+BB^(off+i)*c:=by
   rw[hs,Nat.mul_add,Nat.mul_add,←Nat.mul_assoc (BB^off),←Nat.pow_add]
  rw[mod_next y i,Nat.mul_add];omega
 have h3:=h.c
 have:s/BB<2:=by rw[Nat.div_lt_iff_lt_mul (by decide)];unfold BB at*;omega
 omega
def ResR (xs:List Int)(off y:Nat)(r:V)(B':Bk):Prop:=
 r= .tup []∧∃zs k,B'= .ints 187 .u32 zs∧zs.length=xs.length∧InR zs∧zs.drop (off+nl y+1)=xs.drop (off+nl y+1)∧val zs+BB^(off+nl y+1)*k=val xs+BB^off*y
theorem ResInv.done {xs:List Int}{off y:Nat}{zs:List Int}{c o:Nat}(h:ResInv xs off y (nl y) zs c)(hl:off+nl y<xs.length)(ho:zs.getD (off+nl y) 0=(o:Int)):
  ResR xs off y (.tup []) (.ints 187 .u32 (zs.set (off+nl y) (((o+c%BB)%BB:Nat):Int))):=by
 have hl2:off+nl y<zs.length:=by rw[h.len];omega
 have hc:c%BB=c:=O7 (by have:=h.c;unfold BB;omega);refine⟨rfl,_,(o+c)/BB,rfl,by rw[List.length_set];exact h.len,h.inr.set _ ⟨by omega,by have:=modBB (o+c%BB);omega⟩,by rw[set_drop (by omega)];exact h.up,?_⟩;have e:=val_set (xs:=zs) (x:=(((o+c)%BB:Nat):Int)) hl2;rw[ho]at e;simp only[Q1]at e;have h1:=h.eq;rw[mod_all (O1 _)]at h1;have e2:BB^(off+nl y+1)*((o+c)/BB)+BB^(off+nl y)*((o+c)%BB)=BB^(off+nl y)*(o+c):=by
  rw[O4,Nat.mul_assoc,←Nat.mul_add,Nat.div_add_mod]
 rw[Nat.mul_add]at e2;rw[hc];omega
theorem irestore_spec (xs:List Int)(off y:Nat)(hx:InR xs)(hl:off+nl y<xs.length)(hlen:xs.length<2^44):Mc Tryz.prog 351 [.one (.own 0 1 off (nl y+1)),.one (.ints .u32 (limbs y))] (.ints 187 .u32 xs) (ResR xs off y):=by
 refine mw Tryz.func351 ⟨[0,1,4,5,6,7,8,9,10],[]⟩ ?_;simp only[Tryz.f351,Tryz.ntmps351,iz,seval];simp only[vx,T,seval];refine Lk (fun i:{i:Nat×List Int×Nat//ResInv xs off y i.1 i.2.1 i.2.2}=>⟨[(0,.one (.own 0 1 off (nl y+1))),(1,.one (.ints .u32 (limbs y))),(4,.one (.int .u64 i.1.2.2)),(7,.one (.ints .u32 (limbs y))),(8,.one (.int .i64 (nl y))),(9,.one (.int .i64 i.1.1))],[(0,⟨.ints 187 .u32 i.1.2.1,true⟩)],3,41⟩) (fun i=>nl y-i.1.1) ⟨(0,xs,0),O2 _,rfl,hx,rfl,by simp[Nat.mod_one],O2 _⟩ ?_ (fun⟨⟨i,zs,c⟩,hi⟩=>?_)
 ·refine Sa ?_;simp only[ry,seval,rz]
 have h1:=hi.le;have h2:=hi.len;have h3:=hi.c;have hz:=hi.inr.getD (off+i);simp only at h1 h2 h3 hz;obtain⟨o,ho⟩:=Int.eq_ofNat_of_zero_le hz.1;rw[ho]at hz;simp only[vx,T,seval];refine⟨fun h=>Lg ?_,fun h=>Lg ?_⟩
 ·simp only[vx,T,seval];have hy:=modBB (y/BB^i)
  simp(disch:=omega) only[lG,←X2,←Q2,Q1,Q4,Q5,wrapBB,fdivBB,true_and,and_true,ho]
  refine⟨by omega,by omega,by omega,Lq ⟨(i+1,_,_),hi.put (s:=c+(o+y/BB^i%BB)) (by simp only;omega) hl ho (by simp only;omega)⟩ ?_ ?_⟩
  ·refine Sa ?_;simp only[ry,seval,rz]
  simp only;omega
 simp only[vx,T,seval];have hiy:i=nl y:=by omega
 subst hiy
 simp(disch:=omega) only[lG,←X2,←Q2,Q1,Q4,Q5,wrapBB,fdivBB,true_and,and_true,ho]
 exact⟨by omega,by omega,hi.done hl ho⟩
end Go.Proofs.YtcdijplheindaaaGreat
set_option maxHeartbeats 2000000
namespace Go.Proofs.YtcdijplheindaaaGreat
open Go Go.Eng
theorem wsub_dig {x c:Nat}(hx:x<BB)(hc:c<BB):IntKind.u32.wrap (IntKind.u64.wrap ((x:Int)-c))=(dDig x c 0:Nat):=by
 unfold dDig dBor;unfold BB at*
 rw[IntKind.wrap_u32,wrap_u64']
 split<;>omega
theorem wsub_bor {x c:Nat}(hx:x<BB)(hc:c<BB):(IntKind.u64.wrap ((x:Int)-c)).fdiv 9223372036854775808=(dBor x c 0:Nat):=by
 unfold dBor;unfold BB at*
 rw[wrap_u64',Int.fdiv_eq_ediv_of_nonneg _ (by decide)]
 split<;>omega
structure SubInv (xs:List Int) (off y D i:Nat) (zs:List Int) (c:Nat):Prop where
 le:i≤nl y
 len:zs.length=xs.length
 inr:InR zs
 up:zs.drop (off+nl y+1)=xs.drop (off+nl y+1)
 eq:val zs+BB^off*(D*(y%BB^i))=val xs+BB^(off+i)*c
 c:c<BB
theorem sub_carry {x D c o:Nat}(hx:x<BB)(hD:D<BB)(hc:c<BB)(ho:o<BB):dDig o ((x*D+c)%BB) 0+(x*D+c)=o+BB*((x*D+c)/BB+dBor o ((x*D+c)%BB) 0)∧dDig o ((x*D+c)%BB) 0<BB∧(x*D+c)/BB+dBor o ((x*D+c)%BB) 0<BB:=by
 obtain⟨h1,h2,h3⟩:=dDig_eq ho (Nat.mod_lt (x*D+c) (show BB>0 by decide)) (O2 1);have h4:=Nat.div_add_mod (x*D+c) BB;have h5:x*D≤4294967295*4294967295:=Nat.mul_le_mul (by unfold BB at hx;omega) (by unfold BB at hD;omega);refine⟨by rw[Nat.mul_add];omega,h2,?_⟩;have h6:dBor o ((x*D+c)%BB) 0=1→0<(x*D+c)%BB:=by
  intro h;unfold dBor at h
  split at h
  ·omega
  cases h
 generalize dBor o ((x*D+c)%BB) 0=bor at*
 generalize(x*D+c)%BB=low at*
 generalize(x*D+c)/BB=q at*
 unfold BB at*
 rcases Nat.lt_or_ge bor 1 with h7|h7
 ·omega
 have:=h6 (by omega)
 omega
theorem SubInv.put {xs:List Int}{off y D i:Nat}{zs:List Int}{c o:Nat}(h:SubInv xs off y D i zs c)(hD:D<BB)(hi:i<nl y)(hl:off+nl y<xs.length)(ho:zs.getD (off+i) 0=(o:Int)):
  SubInv xs off y D (i+1) (zs.set (off+i) ((dDig o ((y/BB^i%BB*D+c)%BB) 0:Nat):Int)) ((y/BB^i%BB*D+c)/BB+dBor o ((y/BB^i%BB*D+c)%BB) 0):=by
 have hl2:off+i<zs.length:=by rw[h.len];omega
 have ho2:o<BB:=by have:=h.inr.getD (off+i);rw[ho]at this;unfold BB;omega
 obtain⟨h1,h2,h3⟩:=sub_carry (modBB (y/BB^i)) hD h.c ho2;refine⟨hi,by rw[List.length_set];exact h.len,h.inr.set _ ⟨by omega,by have:dDig o ((y/BB^i%BB*D+c)%BB) 0<4294967296:=h2;omega⟩,by rw[set_drop (by omega)];exact h.up,?_,h3⟩;have e:=val_set (xs:=zs) (x:=((dDig o ((y/BB^i%BB*D+c)%BB) 0:Nat):Int)) hl2;rw[ho]at e;simp only[Q1]at e;have h4:=h.eq
 generalize dDig o ((y/BB^i%BB*D+c)%BB) 0=dd at*
 generalize(y/BB^i%BB*D+c)/BB+dBor o ((y/BB^i%BB*D+c)%BB) 0=cc at*
 have e2:BB^(off+(i+1))*cc=BB^(off+i)*(BB*cc):=by rw[←Nat.add_assoc,O4,Nat.mul_assoc]
 have e3:BB^(off+i)*dd+BB^(off+i)*(y/BB^i%BB*D)+BB^(off+i)*c=BB^(off+i)*o+BB^(off+i)*(BB*cc):=by
  rw[←Nat.mul_add,←Nat.mul_add,←Nat.mul_add,←h1,Nat.add_assoc]
 have e4:BB^off*(D*(y%BB^(i+1)))=BB^off*(D*(y%BB^i))+BB^(off+i)*(y/BB^i%BB*D):=by
  rw[mod_next y i,Nat.mul_add,Nat.mul_add,Nat.pow_add,Nat.mul_assoc,Nat.mul_left_comm D,O6 D (y/BB^i%BB)]
 rw[e2,e4];omega
def SubR (xs:List Int)(off y D:Nat)(r:V)(B':Bk):Prop:=
 ∃t zs,r= .one (.bool t)∧B'= .ints 187 .u32 zs∧zs.length=xs.length∧InR zs∧zs.drop (off+nl y+1)=xs.drop (off+nl y+1)∧val zs+BB^off*(D*y)=val xs+BB^(off+nl y+1)*(if t then 1 else 0)
theorem SubInv.done {xs:List Int}{off y D:Nat}{zs:List Int}{c o:Nat}(h:SubInv xs off y D (nl y) zs c)(hl:off+nl y<xs.length)(ho:zs.getD (off+nl y) 0=(o:Int)):
  SubR xs off y D (.one (.bool (decide (((dBor o c 0:Nat):Int)=1)))) (.ints 187 .u32 (zs.set (off+nl y) ((dDig o c 0:Nat):Int))):=by
 have hl2:off+nl y<zs.length:=by rw[h.len];omega
 have ho2:o<BB:=by have:=h.inr.getD (off+nl y);rw[ho]at this;unfold BB;omega
 obtain⟨h1,h2,h3⟩:=dDig_eq ho2 h.c (O2 1);refine⟨_,_,rfl,rfl,by rw[List.length_set];exact h.len,h.inr.set _ ⟨by omega,by have:dDig o c 0<4294967296:=h2;omega⟩,by rw[set_drop (by omega)];exact h.up,?_⟩;have e:=val_set (xs:=zs) (x:=((dDig o c 0:Nat):Int)) hl2;rw[ho]at e;simp only[Q1]at e;have h4:=h.eq;rw[mod_all (O1 _)]at h4;have hb:(if decide (((dBor o c 0:Nat):Int)=1)=true then 1 else 0)=dBor o c 0:=by
  by_cases h5:dBor o c 0=1
  ·rw[h5];rfl
  rw[if_neg (by simp;omega)];omega
 rw[hb]
 generalize dDig o c 0=dd at*
 generalize dBor o c 0=bb at*
 have e3:BB^(off+nl y)*dd+BB^(off+nl y)*c=BB^(off+nl y)*o+BB^(off+nl y+1)*bb:=by
  rw[O4,Nat.mul_assoc,←Nat.mul_add,←Nat.mul_add]
  congr 1
 omega
theorem isubtract_spec (xs:List Int)(off y D:Nat)(hx:InR xs)(hl:off+nl y<xs.length)(hlen:xs.length<2^44)(hD:D<BB):Mc Tryz.prog 350 [.one (.own 0 1 off (nl y+1)),.one (.ints .u32 (limbs y)),.one (.int .u64 D)] (.ints 187 .u32 xs) (SubR xs off y D):=by
 have hD2:D<4294967296:=hD;refine mw Tryz.func350 ⟨[0,1,2,6,7,8,9,10,11,12,13,14,15,16],[]⟩ ?_;simp only[Tryz.f350,Tryz.ntmps350,iz,seval];simp only[vx,T,seval];refine Lk (fun i:{i:Nat×List Int×Nat//SubInv xs off y D i.1 i.2.1 i.2.2}=>⟨[(0,.one (.own 0 1 off (nl y+1))),(1,.one (.ints .u32 (limbs y))),(2,.one (.int .u64 D)),(7,.one (.int .u64 i.1.2.2)),(13,.one (.ints .u32 (limbs y))),(14,.one (.int .i64 (nl y))),(15,.one (.int .i64 i.1.1))],[(0,⟨.ints 187 .u32 i.1.2.1,true⟩)],3,63⟩) (fun i=>nl y-i.1.1) ⟨(0,xs,0),O2 _,rfl,hx,rfl,by simp[Nat.mod_one],by simp only;decide⟩ ?_ (fun⟨⟨i,zs,c⟩,hi⟩=>?_)
 ·refine Sa ?_;simp only[ry,seval,rz]
 have h1:=hi.le;have h2:=hi.len;have h3:=hi.c;have h3':c<4294967296:=h3;have hz:=hi.inr.getD (off+i);simp only at h1 h2 h3 hz;obtain⟨o,ho⟩:=Int.eq_ofNat_of_zero_le hz.1;rw[ho]at hz;have ho2:o<BB:=by unfold BB;omega
 simp only[vx,T,seval];refine⟨fun h=>Lg ?_,fun h=>Lg ?_⟩
 ·simp only[vx,T,seval];have hy:=modBB (y/BB^i);have hp:y/BB^i%BB*D≤4294967295*4294967295:=Nat.mul_le_mul (by omega) (by omega)
  simp(disch:=omega) only[lG,←X2,←Q2,Q1,Q4,Q5,wrapBB,fdivBB,true_and,and_true,ho]
  have hm:=modBB (y/BB^i%BB*D+c);obtain⟨_,_,hcc⟩:=sub_carry hy hD h3 ho2;have e1:IntKind.u64.wrap (((y/BB^i%BB*D+c)%BB:Nat):Int)=(((y/BB^i%BB*D+c)%BB:Nat):Int):=Q5 _ (by omega);have e2:IntKind.u64.wrap (((y/BB^i%BB*D+c)/BB+dBor o ((y/BB^i%BB*D+c)%BB) 0:Nat):Int)=(((y/BB^i%BB*D+c)/BB+dBor o ((y/BB^i%BB*D+c)%BB) 0:Nat):Int):=by
   generalize(y/BB^i%BB*D+c)/BB+dBor o ((y/BB^i%BB*D+c)%BB) 0=q at hcc
   exact Q5 _ (by unfold BB at hcc;omega)
  simp only[e1,wsub_dig ho2 hm,wsub_bor ho2 hm,←X2,e2];refine⟨by omega,by omega,by omega,Lq ⟨(i+1,_,_),hi.put hD (by simp only;omega) hl ho⟩ ?_ ?_⟩
  ·refine Sa ?_;simp only[ry,seval,rz]
  simp only;omega
 simp only[vx,T,seval];have hiy:i=nl y:=by omega
 subst hiy
 simp(disch:=omega) only[lG,←X2,←Q2,Q1,Q4,Q5,wrapBB,fdivBB,true_and,and_true,ho]
 simp only[wsub_dig ho2 h3,wsub_bor ho2 h3];exact⟨by omega,by omega,hi.done hl ho⟩
end Go.Proofs.YtcdijplheindaaaGreat
namespace Go.Eng
def dig:Nat→Nat→List Int
 |0,_=>[]
 |k+1,n=>((n%BB:Nat):Int)::dig k (n/BB)
theorem dig_length:∀k n,(dig k n).length=k
 |0,_=>rfl
 |k+1,n=>by simp[dig,dig_length k]
theorem dig_inr:∀k n,InR (dig k n)
 |0,_=>InR.nil
 |k+1,n=>InR.cons ⟨by omega,by have:=Nat.mod_lt n (show BB>0 by decide);unfold BB at*;omega⟩ (dig_inr k _)
theorem val_dig:∀k n,val (dig k n)=n%BB^k
 |0,n=>by simp[dig,val,Nat.mod_one]
 |k+1,n=>by
  simp only[dig,val,val_dig k,Q1];rw[O4,O6 (BB^k),Nat.mod_mul]
theorem dig_val:∀{xs:List Int},InR xs→dig xs.length (val xs)=xs
 |[],_=>rfl
 |x::xs,h=>by
  have h2:=h.head;have h3:x.toNat<BB:=by unfold BB;omega
  simp only[List.length_cons,dig,val];rw[Nat.add_mul_mod_self_left,O7 h3,Nat.add_mul_div_left _ _ (by decide:0<BB),Nat.div_eq_of_lt h3,Nat.zero_add,dig_val h.tail]
  congr 1;omega
theorem dig_of {xs:List Int}{k n:Nat}(h:InR xs)(hl:xs.length=k)(hv:val xs=n):xs=dig k n:=by
 rw[←hl,←hv,dig_val h]
theorem kn_init {U V P high next Vr top u2 Ur:Nat}(hU:U=(top*BB+u2)*P+Ur)(hV:V=(high*BB+next)*P+Vr)(hUr:Ur<P)(hu2:u2<BB)(hh:0<high):U/V≤top/high:=by
 rw[Nat.le_div_iff_mul_le hh];have h1:=Nat.div_mul_le_self U V
 generalize U/V=q at h1⊢
 rcases Nat.lt_or_ge top (q*high)with h2|h2
 ·exfalso
  have h3:(top+1)*(BB*P)≤q*high*(BB*P):=O8 _ h2;have h4:q*high*(BB*P)≤q*V:=by
   rw[hV,Nat.mul_assoc];refine O9 _ ?_;rw[Nat.add_mul,Nat.mul_assoc];omega
  have h5:(u2+1)*P≤BB*P:=O8 _ hu2;rw[Nat.add_mul,Nat.mul_assoc top]at hU;rw[Nat.add_mul]at h3 h5;omega
 exact h2
theorem kn_step {U V P V2 Vr T3 Ur D:Nat}(hU:U=T3*P+Ur)(hV:V=V2*P+Vr)(hUr:Ur<P)(hD:T3<D*V2):U/V<D:=by
 have h1:=Nat.div_mul_le_self U V
 generalize U/V=q at h1⊢
 rcases Nat.lt_or_ge q D with h2|h2
 ·exact h2
 exfalso
 have h3:D*V2≤q*V2:=O8 _ h2;have h4:(T3+1)*P≤q*V2*P:=O8 _ (by omega);have h5:q*V2*P≤q*V:=by rw[hV,Nat.mul_assoc];exact O9 _ (by omega)
 rw[Nat.add_mul]at h4;omega
theorem kn_end {U V P V2 Vr T3 Ur D:Nat}(hU:U=T3*P+Ur)(hV:V=V2*P+Vr)(hVr:Vr<P)(hD:D*V2≤T3)(hl:D≤V2)(hV0:0<V):D≤U/V+1:=by
 rcases Nat.lt_or_ge (U/V+1) D with h|h
 ·exfalso
  have h1:U<(U/V+1)*V:=by
   have e:=Nat.div_add_mod U V;have l:=Nat.mod_lt U hV0;rw[Nat.add_mul,O6 (U/V)];omega
  generalize U/V=q at h h1
  have h2:(q+1)*V≤(q+1)*((V2+1)*P):=O9 _ (by rw[hV,Nat.add_mul];omega);have h3:D*V2*P≤T3*P:=O8 _ hD;have h4:D*V2*P<(q+1)*(V2+1)*P:=by rw[Nat.mul_assoc (q+1)];omega
  have h5:D*V2<(q+1)*(V2+1):=Nat.lt_of_mul_lt_mul_right h4;have h6:(q+2)*V2≤D*V2:=O8 _ h;have e1:(q+2)*V2=q*V2+2*V2:=Nat.add_mul _ _ _;have e2:(q+1)*(V2+1)=q*V2+V2+q+1:=by rw[Nat.add_mul,Nat.mul_add];omega
  omega
 exact h
end Go.Eng
set_option maxHeartbeats 2000000
namespace Go.Proofs.YtcdijplheindaaaGreat
open Go Go.Eng
theorem bits_or32 {a b:Nat}(ha:a<2^32)(hb:b<2^32):bitsOp .or .u32 (a:Int) (b:Int)=((a|||b:Nat):Int):=by
 have hab:a|||b<2^32:=Nat.or_lt_two_pow ha hb
 show IntKind.u32.wrap ((BitVec.ofInt 32 (a:Int)|||BitVec.ofInt 32 (b:Int)).toNat:Int)=_
 simp only[BitVec.ofInt_natCast,BitVec.toNat_or,BitVec.toNat_ofNat];rw[O7 ha,O7 hb,IntKind.wrap_u32];omega
theorem shl_mod {w n:Nat}(hn:n≤32):(w*2^n)%BB=2^n*(w%2^(32-n)):=by
 have:BB=2^n*2^(32-n):=by rw[←Nat.pow_add,show n+(32-n)=32 by omega];rfl
 rw[this,O6 w,Nat.mul_mod_mul_left]
theorem or_low {w n o:Nat}(hn:n<32)(ho:o<2^n):bitsOp .or .u32 (o:Int) (((w*2^n)%BB:Nat):Int)=((o+(w*2^n)%BB:Nat):Int)∧o+(w*2^n)%BB<BB:=by
 have h1:2^n≤2^31:=O3 (by decide) (by omega);have hm:=modBB (w*2^n);have e:=Nat.two_pow_add_eq_or_of_lt ho (w%2^(32-n));rw[←shl_mod (by omega)]at e
 have e3:o|||(w*2^n)%BB=o+(w*2^n)%BB:=by rw[Nat.or_comm,←e,Nat.add_comm]
 have h2:o|||(w*2^n)%BB<2^32:=Nat.or_lt_two_pow (by omega) (by omega)
 rw[e3]at h2;refine⟨by rw[bits_or32 (by omega) (by omega),e3],h2⟩
structure ShInv (a n i:Nat) (zs:List Int):Prop where
 le:i≤nl a
 len:zs.length=nl a+1
 inr:InR zs
 eq:val zs=(a%BB^i)*2^n
theorem ShInv.init (a n:Nat):ShInv a n 0 (List.replicate (nl a+1) 0):=⟨O2 _,by simp,InR.replicate _,by rw[val_replicate];simp[Nat.mod_one]⟩
def shO (a n i:Nat):Nat:=(a%BB^i)*2^n/BB^i
theorem ShInv.get {a n i:Nat}{zs:List Int}(h:ShInv a n i zs)(hn:n<32):zs.getD i 0=(shO a n i:Nat)∧shO a n i<2^n∧zs.getD (i+1) 0=0:=by
 have hp:0<BB^i:=Nat.pow_pos (by decide);have h1:shO a n i<2^n:=by
  unfold shO;rw[Nat.div_lt_iff_lt_mul hp,O6];exact Nat.mul_lt_mul_of_pos_left (Nat.mod_lt _ hp) (Nat.pow_pos (by decide))
 have h2:2^n≤2^31:=O3 (by decide) (by omega);have h3:shO a n i<BB:=by unfold BB;omega
 refine⟨?_,h1,?_⟩
 ·rw[getD_val h.inr,h.eq]
  show((shO a n i%BB:Nat):Int)=_
  rw[O7 h3]
 rw[getD_val h.inr,h.eq,O4,←Nat.div_div_eq_div_mul]
 show((shO a n i/BB%BB:Nat):Int)=0
 rw[Nat.div_eq_of_lt h3];rfl
theorem set2b {P o v1 v2 A Z W:Nat}(e1:A+P*o=Z+P*v1)(e2:W=A+P*(BB*v2)):W+P*o=Z+P*v1+P*(BB*v2):=by omega
theorem set2 {zs:List Int}{i o v1 v2:Nat}(hr:InR zs)(hl:i+1<zs.length)(ho:zs.getD i 0=(o:Int))(hz:zs.getD (i+1) 0=0)(h1:v1<4294967296)(h2:v2<4294967296):
  InR ((zs.set i (v1:Int)).set (i+1) (v2:Int))∧val ((zs.set i (v1:Int)).set (i+1) (v2:Int))+BB^i*o=val zs+BB^i*v1+BB^i*(BB*v2):=by
 refine⟨(hr.set _ ⟨by omega,by omega⟩).set _ ⟨by omega,by omega⟩,?_⟩;have e1:val (zs.set i (v1:Int))+BB^i*o=val zs+BB^i*v1:=by
  have e:=val_set (xs:=zs) (i:=i) (x:=(v1:Int)) (by omega);rw[ho]at e;exact e
 have e2:val ((zs.set i (v1:Int)).set (i+1) (v2:Int))=val (zs.set i (v1:Int))+BB^i*(BB*v2):=by
  have e:=val_set (xs:=zs.set i (v1:Int)) (i:=i+1) (x:=(v2:Int)) (by rw[List.length_set];exact hl);rw[getD_set_ne (by omega),hz,O4,Nat.mul_assoc,Nat.mul_assoc]at e;exact e
 exact set2b e1 e2
theorem ShInv.put {a n i:Nat}{zs:List Int}(h:ShInv a n i zs)(hn:n<32)(hi:i<nl a):
  ShInv a n (i+1) ((zs.set i ((shO a n i+(a/BB^i%BB*2^n)%BB:Nat):Int)).set (i+1) (((a/BB^i%BB*2^n)/BB%BB:Nat):Int)):=by
 obtain⟨g1,g2,g3⟩:=h.get hn;obtain⟨_,g4⟩:=or_low (w:=a/BB^i%BB) hn g2;have h2:2^n≤2^31:=O3 (by decide) (by omega);have h4:a/BB^i%BB*2^n/BB<BB:=by
  rw[Nat.div_lt_iff_lt_mul (by decide)];exact Nat.lt_of_le_of_lt (O9 _ (O0 h2 (by decide:2^31≤BB))) (Nat.mul_lt_mul_of_pos_right (modBB _) (by decide))
 rw[O7 h4];obtain⟨k1,k2⟩:=set2 h.inr (by rw[h.len];omega) g1 g3 g4 h4;refine⟨hi,by simp only[List.length_set];exact h.len,k1,?_⟩;have e4:(a%BB^(i+1))*2^n=(a%BB^i)*2^n+BB^i*(a/BB^i%BB*2^n):=by
  rw[mod_next a i,Nat.add_mul,Nat.mul_assoc]
 rw[e4,←h.eq]
 generalize a/BB^i%BB*2^n=X at k2⊢
 have e5:=Nat.div_add_mod X BB;have e6:BB^i*X=BB^i*(BB*(X/BB))+BB^i*(X%BB):=by rw[←Nat.mul_add,e5]
 rw[Nat.mul_add]at k2;omega
theorem pow_cast (n:Nat):(2:Int)^n=((2^n:Nat):Int):=by simp
theorem sh_lt {w n:Nat}(hw:w<BB)(hn:n<32):w*2^n<9223372036854775808:=by
 have h2:2^n≤2^31:=O3 (by decide) (by omega);exact Nat.lt_of_le_of_lt (O9 _ h2) (Nat.mul_lt_mul_of_pos_right hw (by decide))
theorem ShInv.done {a n:Nat}{zs:List Int}(h:ShInv a n (nl a) zs):zs=dig (nl a+1) (a*2^n):=
 dig_of h.inr h.len (by rw[h.eq,mod_all (O1 _)])
theorem ishiftLeft_spec (a n:Nat)(ha:nl a<2^44)(hn:n<32):Fr Tryz.prog 349 [.one (.ints .u32 (limbs a)),.one (.int .i64 n)] (.ints 187 .u32 (dig (nl a+1) (a*2^n))):=by
 have hn':n≤64:=by omega
 refine fw Tryz.func349 ⟨[0,1,4,5,6,7,8,13,14,15,16],[]⟩ ?_;simp only[Tryz.f349,Tryz.ntmps349,iz,seval];simp only[vx,T,seval]
 simp(disch:=omega) only[lG,←X2,←Q2,Q1,Q4,Q5,wrapBB,fdivBB,true_and,and_true]
 refine⟨⟨by omega,by omega,by omega,by omega⟩,Lk (fun i:{i:Nat×List Int//ShInv a n i.1 i.2}=>⟨[(0,.one (.ints .u32 (limbs a))),(1,.one (.int .i64 n)),(5,.one (.own 1 1 0 (nl a+1))),(13,.one (.ints .u32 (limbs a))),(14,.one (.int .i64 (nl a))),(15,.one (.int .i64 i.1.1))],[(1,⟨.ints 187 .u32 i.1.2,true⟩)],2,41⟩) (fun i=>nl a-i.1.1) ⟨(0,_),ShInv.init a n⟩ ?_ (fun⟨⟨i,zs⟩,hi⟩=>?_)⟩
 ·refine Sa ?_;simp only[ry,seval,rz];rw[show ((nl a:Int)+1).toNat=nl a+1 by omega];exact⟨rfl,rfl⟩
 have h1:=hi.le;have h2:=hi.len;obtain⟨g1,g2,g3⟩:=hi.get hn;simp only at h1 h2 g1 g2 g3;simp only[vx,T,seval,hn'];refine⟨fun h=>Lg ?_,fun h=>Lg ?_⟩
 ·simp only[vx,T,seval,hn'];have hy:=modBB (a/BB^i);have g4:=sh_lt hy hn;have g5:=(or_low (w:=a/BB^i%BB) hn g2).1
  simp(disch:=omega) only[lG,←X2,←Q2,Q1,Q4,Q5,wrapBB,fdivBB,true_and,and_true,pow_cast,g1,g5]
  refine⟨by omega,by omega,by omega,by omega,by omega,Lq ⟨(i+1,_),hi.put hn (by simp only;omega)⟩ ?_ ?_⟩
  ·refine Sa ?_;simp only[ry,seval,rz];rw[show ((i:Int)+1).toNat=i+1 by omega]
  simp only;omega
 simp only[vx,T,seval];have hia:i=nl a:=by omega
 subst hia;exact⟨(dig_length _ _).symm,rfl,hi.done⟩
theorem rshifted_spec (a n:Nat)(ha:nl a<2^44)(hn:n<32):Fr Tryz.prog 315 [.one (.ints .u32 (limbs a)),.one (.int .i64 n)] (.ints 187 .u32 (dig (nl a+1) (a*2^n))):=by
 have hn':n≤64:=by omega
 refine fw Tryz.func315 ⟨[0,1,4,5,6,7,15],[]⟩ ?_;simp only[Tryz.f315,Tryz.ntmps315,iz,seval];simp only[vx,T,seval]
 simp(disch:=omega) only[lG,←X2,←Q2,Q1,Q4,Q5,wrapBB,fdivBB,true_and,and_true]
 refine⟨⟨by omega,by omega,by omega,by omega⟩,Lk (fun i:{i:Nat×List Int//ShInv a n i.1 i.2}=>⟨[(0,.one (.ints .u32 (limbs a))),(1,.one (.int .i64 n)),(5,.one (.own 1 1 0 (nl a+1))),(6,.one (.int .i64 i.1.1))],[(1,⟨.ints 187 .u32 i.1.2,true⟩)],2,43⟩) (fun i=>nl a-i.1.1) ⟨(0,_),ShInv.init a n⟩ ?_ (fun⟨⟨i,zs⟩,hi⟩=>?_)⟩
 ·refine Sa ?_;simp only[ry,seval,rz];rw[show ((nl a:Int)+1).toNat=nl a+1 by omega];exact⟨rfl,rfl⟩
 have h1:=hi.le;have h2:=hi.len;obtain⟨g1,g2,g3⟩:=hi.get hn;simp only at h1 h2 g1 g2 g3;simp only[vx,T,seval,hn'];refine⟨fun h=>Lg ?_,fun h=>Lg ?_⟩
 ·simp only[vx,T,seval,hn'];have hy:=modBB (a/BB^i);have g4:=sh_lt hy hn;have g5:=(or_low (w:=a/BB^i%BB) hn g2).1
  simp(disch:=omega) only[lG,←X2,←Q2,Q1,Q4,Q5,wrapBB,fdivBB,true_and,and_true,pow_cast,g1,g5]
  refine⟨by omega,by omega,by omega,by omega,by omega,Lq ⟨(i+1,_),hi.put hn (by simp only;omega)⟩ ?_ ?_⟩
  ·refine Sa ?_;simp only[ry,seval,rz];rw[show ((i:Int)+1).toNat=i+1 by omega]
  simp only;omega
 simp only[vx,T,seval];have hia:i=nl a:=by omega
 subst hia;exact⟨(dig_length _ _).symm,rfl,hi.done⟩
end Go.Proofs.YtcdijplheindaaaGreat
namespace Go.Eng
theorem BB_split {n:Nat}(hn:n≤32):BB=2^n*2^(32-n):=by
 rw[←Nat.pow_add,show n+(32-n)=32 by omega];rfl
theorem BB_split' {n:Nat}(hn:n≤32):BB=2^(32-n)*2^n:=by rw[BB_split hn,O6]
theorem shr_div (w Y n:Nat)(hn:n≤32):(w+BB*Y)/2^n=w/2^n+2^(32-n)*Y:=by
 rw[BB_split hn,Nat.mul_assoc,Nat.add_mul_div_left _ _ (Nat.pow_pos (by decide))]
theorem shr_low (w n:Nat)(hn:n≤32)(hw:w<BB):w/2^n<2^(32-n):=by
 rw[Nat.div_lt_iff_lt_mul (Nat.pow_pos (by decide)),←BB_split' hn];exact hw
theorem shr_mod (w Y n:Nat)(hn:n≤32)(hw:w<BB):(w+BB*Y)/2^n%BB=w/2^n+2^(32-n)*(Y%2^n):=by
 rw[shr_div w Y n hn]
 generalize hr:w/2^n=r
 have h:=shr_low w n hn hw;rw[hr]at h;rw[BB_split' hn,Nat.mod_mul,Nat.add_mul_mod_self_left,O7 h,Nat.add_mul_div_left _ _ (Nat.pow_pos (by decide)),Nat.div_eq_of_lt h,Nat.zero_add]
theorem shr_dig (X n:Nat)(hn:n≤32):X/2^n%BB=X%BB/2^n+(X/BB%BB*2^(32-n))%BB:=by
 have hw:X%BB<BB:=Nat.mod_lt _ (by decide);have e:X/2^n%BB=(X%BB+BB*(X/BB))/2^n%BB:=by rw[Nat.mod_add_div]
 rw[e,shr_mod _ _ n hn hw,O6 (X/BB%BB)]
 congr 1
 rw[BB_split' hn,Nat.mul_mod_mul_left,←BB_split' hn,BB_split hn,Nat.mod_mul_right_mod]
theorem shr_dig2 (X n:Nat)(hn:n≤32):(X%BB+X/BB%BB*BB)/2^n%BB=X/2^n%BB:=by
 have hw:X%BB<BB:=Nat.mod_lt _ (by decide);rw[O6 (X/BB%BB),shr_mod _ _ n hn hw];have e:X/2^n%BB=(X%BB+BB*(X/BB))/2^n%BB:=by rw[Nat.mod_add_div]
 rw[e,shr_mod _ _ n hn hw]
 congr 2
 rw[BB_split hn,Nat.mod_mul_right_mod]
structure ShrInv (a n l i:Nat) (zs:List Int):Prop where
 le:i≤l
 len:zs.length=l
 inr:InR zs
 eq:val zs=(a/2^n)%BB^i
theorem ShrInv.init (a n l:Nat):ShrInv a n l 0 (List.replicate l 0):=⟨O2 _,by simp,InR.replicate _,by rw[val_replicate];simp[Nat.mod_one]⟩
theorem mod_next' (y i:Nat):y%BB^(i+1)=y%BB^i+BB^i*(y/BB^i%BB):=by
 rw[O4,Nat.mod_mul]
theorem ShrInv.get {a n l i:Nat}{zs:List Int}(h:ShrInv a n l i zs):zs.getD i 0=0:=by
 rw[getD_val h.inr,h.eq,Nat.div_eq_of_lt (Nat.mod_lt _ (Nat.pow_pos (by decide)))];rfl
theorem ShrInv.put {a n l i:Nat}{zs:List Int}(h:ShrInv a n l i zs)(hi:i<l){d:Nat}(hd:a/BB^i/2^n%BB=d):ShrInv a n l (i+1) (zs.set i (d:Int)):=by
 have hl:i<zs.length:=by rw[h.len];exact hi
 have hd2:d<BB:=by rw[←hd];exact Nat.mod_lt _ (by decide)
 have e:=val_set (xs:=zs) (i:=i) (x:=(d:Int)) hl;rw[h.get]at e;simp only[Int.toNat_zero,Nat.mul_zero,Nat.add_zero,Q1]at e;refine⟨hi,by rw[List.length_set];exact h.len,h.inr.set _ ⟨by omega,by unfold BB at hd2;omega⟩,?_⟩;rw[e,h.eq,mod_next']
 congr 2
 rw[←hd,Nat.div_div_eq_div_mul,Nat.div_div_eq_div_mul,O6]
theorem ShrInv.done {a n l:Nat}{zs:List Int}(h:ShrInv a n l l zs)(hl:a<BB^l):zs=dig l (a/2^n):=
 dig_of h.inr h.len (by rw[h.eq,O7 (Nat.lt_of_le_of_lt (Nat.div_le_self _ _) hl)])
theorem val_dig_lt {l n:Nat}(h:n<BB^l):val (dig l n)=n:=by rw[val_dig,O7 h]
end Go.Eng
namespace Go.Proofs.YtcdijplheindaaaGreat
open Go Go.Proofs Go.RowKit Go.Eng
theorem bits_or64 {a b:Nat}(ha:a<2^64)(hb:b<2^64):bitsOp .or .u64 (a:Int) (b:Int)=((a|||b:Nat):Int):=by
 have hab:a|||b<2^64:=Nat.or_lt_two_pow ha hb
 show IntKind.u64.wrap ((BitVec.ofInt 64 (a:Int)|||BitVec.ofInt 64 (b:Int)).toNat:Int)=_
 simp only[BitVec.ofInt_natCast,BitVec.toNat_or,BitVec.toNat_ofNat];rw[O7 ha,O7 hb]
 rw[show IntKind.u64.wrap ((a|||b:Nat):Int)=((a|||b:Nat):Int)%18446744073709551616 from rfl]
 omega
end Go.Proofs.YtcdijplheindaaaGreat
set_option maxHeartbeats 2000000
namespace Go.Proofs.YtcdijplheindaaaGreat
open Go Go.Eng
theorem or_low' {w n o:Nat}(hn:n≤32)(ho:o<2^n):bitsOp .or .u32 (o:Int) (((w*2^n)%BB:Nat):Int)=((o+(w*2^n)%BB:Nat):Int):=by
 have h1:2^n≤2^32:=O3 (by decide) hn;have hm:=modBB (w*2^n);have e:=Nat.two_pow_add_eq_or_of_lt ho (w%2^(32-n));rw[←shl_mod (by omega)]at e
 have e3:o|||(w*2^n)%BB=o+(w*2^n)%BB:=by rw[Nat.or_comm,←e,Nat.add_comm]
 rw[bits_or32 (by omega) (by omega),e3]
theorem fdivNat (s m:Nat):(s:Int).fdiv (m:Int)=((s/m:Nat):Int):=by
 rw[Int.fdiv_eq_ediv_of_nonneg _ (by omega)];rfl
theorem or_high {w u:Nat}(hw:w<BB)(hu:u<BB):bitsOp .or .u64 (w:Int) ((u:Int)*4294967296)=((w+u*BB:Nat):Int):=by
 rw[show ((u:Int)*4294967296)=((u*4294967296:Nat):Int) by omega];unfold BB at*
 have e:=Nat.two_pow_add_eq_or_of_lt (i:=32) (b:=w) (by omega) u;rw[bits_or64 (by omega) (by omega)];have e2:u*4294967296=2^32*u:=O6 _ _;rw[e2,Nat.or_comm,←e,Nat.add_comm]
theorem getD_set_eq {zs:List Int}{i:Nat}{x:Int}(h:i<zs.length):(zs.set i x).getD i 0=x:=by
 rw[X7,List.getElem?_set_self h];rfl
theorem sh_lt64 {w k:Nat}(hw:w<BB)(hk:k≤32):w*2^k<18446744073709551616:=by
 have h1:w*2^k≤4294967295*4294967296:=Nat.mul_le_mul (by unfold BB at hw;omega) (O3 (by decide) hk);omega
theorem toNat1 (i:Nat):((i:Int)+1).toNat=i+1:=by omega
theorem limb_next (a i:Nat):a/BB^(i+1)%BB=a/BB^i/BB%BB:=by
 rw[O4,Nat.div_div_eq_div_mul]
theorem limb_end {a i:Nat}(h:nl a≤i):a/BB^i=0:=Nat.div_eq_of_lt (nl_le_iff.1 h)
theorem pow_cast' (n:Nat):(2:Int)^n=((2^n:Nat):Int):=by simp
theorem ishiftRight_spec (a n:Nat)(ha:nl a<2^44)(hn:n<32):Fr Tryz.prog 352 [.one (.ints .u32 (limbs a)),.one (.int .i64 n)] (.ints 187 .u32 (dig (nl a) (a/2^n))):=by
 have hn':n≤32:=by omega
 have hn2:IntKind.i64.wrap (32-(n:Int))=32-(n:Int):=Q4 _ (by omega);have hn3:(32-(n:Int)).toNat=32-n:=by omega
 have hn4:32-n≤64:=by omega
 refine fw Tryz.func352 ⟨[0,1,4,5,6,7,11,12,13,14,28],[]⟩ ?_;simp only[Tryz.f352,Tryz.ntmps352,iz,seval];simp only[vx,T,seval];refine⟨⟨by omega,by omega,by omega,by omega⟩,Lk (fun i:{i:Nat×List Int//ShrInv a n (nl a) i.1 i.2}=>⟨[(0,.one (.ints .u32 (limbs a))),(1,.one (.int .i64 n)),(5,.one (.own 1 1 0 (nl a))),(11,.one (.ints .u32 (limbs a))),(12,.one (.int .i64 (nl a))),(13,.one (.int .i64 i.1.1))],[(1,⟨.ints 187 .u32 i.1.2,true⟩)],2,47⟩) (fun i=>nl a-i.1.1) ⟨(0,_),ShrInv.init a n (nl a)⟩ ?_ (fun⟨⟨i,zs⟩,hi⟩=>?_)⟩
 ·refine Sa ?_;simp only[ry,seval,rz]
 have h1:=hi.le;have h2:=hi.len;have g1:=hi.get;simp only at h1 h2 g1;simp only[vx,T,seval,hn',hn2,hn3,hn4];refine⟨fun h=>Lg ?_,fun h=>Lg ?_⟩
 ·simp only[vx,T,seval,hn',hn2,hn3,hn4];have hy:=modBB (a/BB^i);have hd:=shr_dig (a/BB^i) n hn';have hl:=shr_low _ n hn' hy;have hq:=Nat.div_le_self (a/BB^i%BB) (2^n)
  simp(disch:=omega) only[lG,←X2,←Q2,Q1,Q4,Q5,wrapBB,fdivBB,true_and,and_true,pow_cast,fdivNat]
  refine⟨by omega,by omega,by omega,?_⟩;refine⟨fun h3=>Lg ?_,fun h3=>Lg ?_⟩
  ·simp only[vx,T,seval,hn',hn2,hn3,hn4];have h4:=getD_set_eq (zs:=zs) (i:=i) (x:=((a/BB^i%BB/2^n:Nat):Int)) (by omega);have h5:=modBB (a/BB^(i+1));have h6:=sh_lt64 (k:=32-n) h5 (Nat.sub_le 32 n);have h7:=or_low' (w:=a/BB^(i+1)%BB) (n:=32-n) (by omega) hl;rw[←limb_next]at hd
   simp(disch:=omega) only[lG,←X2,←Q2,Q1,Q4,Q5,wrapBB,fdivBB,true_and,and_true,toNat1,h4,pow_cast']
   rw[h7];refine⟨by omega,by omega,by omega,by omega,Lq ⟨(i+1,_),hi.put (by simp only;omega) hd⟩ ?_ ?_⟩
   ·refine Sa ?_;simp only[ry,seval,rz];rw[List.set_set]
   simp only;omega
  simp only[vx,T,seval,hn',hn2,hn3,hn4];rw[←limb_next,limb_end (a:=a) (i:=i+1) (by omega)]at hd;simp only[Nat.zero_mod,Nat.zero_mul,Nat.add_zero]at hd
  simp(disch:=omega) only[lG,←X2,←Q2,Q1,Q4,Q5,wrapBB,fdivBB,true_and,and_true,toNat1]
  refine Lq ⟨(i+1,_),hi.put (by simp only;omega) hd⟩ ?_ ?_
  ·refine Sa ?_;simp only[ry,seval,rz]
  simp only;omega
 simp only[vx,T,seval];have hia:i=nl a:=by omega
 subst hia;exact⟨(dig_length _ _).symm,rfl,hi.done (lt_of_nl a)⟩
theorem rback_spec (a n:Nat)(ha:nl a<2^44)(hn:n<32):Pr Tryz.prog 318 [.one (.ints .u32 (limbs a)),.one (.int .i64 n)] (.one (.ints .u32 (limbs (a/2^n)))):=by
 have hn':n≤64:=by omega
 refine pw Tryz.func318 ⟨[0,1,4,5,6,7,14,26],[]⟩ ?_;simp only[Tryz.f318,Tryz.ntmps318,iz,seval];simp only[vx,T,seval];refine⟨⟨by omega,by omega,by omega,by omega⟩,Lk (fun i:{i:Nat×List Int//ShrInv a n (nl a) i.1 i.2}=>⟨[(0,.one (.ints .u32 (limbs a))),(1,.one (.int .i64 n)),(5,.one (.own 1 1 0 (nl a))),(6,.one (.int .i64 i.1.1))],[(1,⟨.ints 187 .u32 i.1.2,true⟩)],2,45⟩) (fun i=>nl a-i.1.1) ⟨(0,_),ShrInv.init a n (nl a)⟩ ?_ (fun⟨⟨i,zs⟩,hi⟩=>?_)⟩
 ·refine Sa ?_;simp only[ry,seval,rz]
 have h1:=hi.le;have h2:=hi.len;have g1:=hi.get;simp only at h1 h2 g1;simp only[vx,T,seval,hn'];refine⟨fun h=>Lg ?_,fun h=>Lg ?_⟩
 ·simp only[vx,T,seval,hn'];have hy:=modBB (a/BB^i);have hd:=shr_dig2 (a/BB^i) n (by omega)
  simp(disch:=omega) only[lG,←X2,←Q2,Q1,Q4,Q5,wrapBB,fdivBB,true_and,and_true,pow_cast,fdivNat]
  refine⟨by omega,?_⟩;refine⟨fun h3=>Lg ?_,fun h3=>Lg ?_⟩
  ·simp only[vx,T,seval,hn'];have h5:=modBB (a/BB^(i+1));have h7:=or_high hy h5;rw[←limb_next]at hd
   simp(disch:=omega) only[lG,←X2,←Q2,Q1,Q4,Q5,wrapBB,fdivBB,true_and,and_true,toNat1]
   simp only[h7,pow_cast',fdivNat,wrapBB,hd];refine⟨by omega,by omega,by omega,Lq ⟨(i+1,_),hi.put (by simp only;omega) rfl⟩ ?_ ?_⟩
   ·refine Sa ?_;simp only[ry,seval,rz]
   simp only;omega
  simp only[vx,T,seval,hn'];rw[←limb_next,limb_end (a:=a) (i:=i+1) (by omega)]at hd;simp only[Nat.zero_mod,Nat.zero_mul,Nat.add_zero]at hd
  simp(disch:=omega) only[lG,←X2,←Q2,Q1,Q4,Q5,wrapBB,fdivBB,true_and,and_true,toNat1]
  simp only[pow_cast',fdivNat,wrapBB,hd];refine⟨by omega,by omega,Lq ⟨(i+1,_),hi.put (by simp only;omega) rfl⟩ ?_ ?_⟩
  ·refine Sa ?_;simp only[ry,seval,rz]
  simp only;omega
 simp only[vx,T,seval];have hia:i=nl a:=by omega
 subst hia;have hr:=hi.inr;have hv:=hi.done (lt_of_nl a);simp only at hr hv;have hv2:val zs=a/2^n:=by rw[hv,val_dig_lt (Nat.lt_of_le_of_lt (Nat.div_le_self _ _) (lt_of_nl a))]
 rw[List.take_of_length_le (by omega)];refine Cg (rtrim_spec _ hr (by omega)) ?_;rw[hv2];simp only[vx,T,seval];refine Va ?_;simp only[vLe,vLeL,ry,seval]
end Go.Proofs.YtcdijplheindaaaGreat
namespace Go.Eng
def bl (x:Nat):Nat:=if h:x=0 then 0 else 1+bl (x/2)
termination_by x
decreasing_by omega
theorem bl_zero:bl 0=0:=by rw[bl];rfl
theorem bl_pos {x:Nat}(h:0<x):bl x=1+bl (x/2):=by rw[bl,dif_neg (by omega)]
theorem bl_spec (x:Nat)(h:0<x):2^(bl x-1)≤x∧x<2^bl x∧0<bl x:=by
 induction x using Nat.strongRecOn with
 |_ x ih=>
  rw[bl_pos h]
  by_cases h2:x/2=0
  ·rw[h2,bl_zero]
   have:x=1:=by omega
   subst this;decide
  obtain⟨h3,h4,h5⟩:=ih (x/2) (by omega) (by omega);have e:1+bl (x/2)-1=(bl (x/2)-1)+1:=by omega
  rw[e,O4,Nat.add_comm 1,O4];omega
theorem bl_le {x k:Nat}(h:x<2^k):bl x≤k:=by
 rcases Nat.eq_zero_or_pos x with h0|h0
 ·subst h0;rw[bl_zero];omega
 obtain⟨h3,_,h5⟩:=bl_spec x h0
 rcases Nat.lt_or_ge k (bl x)with h1|h1
 ·have:2^k≤2^(bl x-1):=O3 (by decide) (by omega)
  omega
 exact h1
def topW (b:Nat):Nat:=b/BB^(nl b-1)
def shf (b:Nat):Nat:=32-bl (topW b)
theorem topW_lt {b:Nat}(h:0<b):0<topW b∧topW b<BB:=by
 have h1:=nl_pos.2 h;have hp:0<BB^(nl b-1):=Nat.pow_pos (by decide);refine⟨Nat.div_pos (ge_of_nl h) hp,?_⟩;unfold topW;rw[Nat.div_lt_iff_lt_mul hp,O6,←O4,show (nl b-1).succ=nl b by omega];exact lt_of_nl b
theorem topW_mod {b:Nat}(h:0<b):b/BB^(nl b-1)%BB=topW b:=O7 (topW_lt h).2
theorem shf_spec {b:Nat}(h:0<b):shf b<32∧b*2^shf b<BB^nl b∧BB^nl b≤2*(b*2^shf b):=by
 obtain⟨t1,t2⟩:=topW_lt h;obtain⟨b1,b2,b3⟩:=bl_spec _ t1;have b4:bl (topW b)≤32:=bl_le (by unfold BB at t2;omega);have h1:=nl_pos.2 h;have hp:0<BB^(nl b-1):=Nat.pow_pos (by decide);have e1:=Nat.div_add_mod b (BB^(nl b-1));have e2:=Nat.mod_lt b hp;have eB:BB^nl b=BB^(nl b-1)*(2^bl (topW b)*2^shf b):=by
  have e3:2^bl (topW b)*2^shf b=BB:=by rw[←Nat.pow_add];unfold shf;rw[show bl (topW b)+(32-bl (topW b))=32 by omega];rfl
  rw[e3,←O4,show (nl b-1).succ=nl b by omega]
 refine⟨by unfold shf;omega,?_,?_⟩
 ·rw[eB,←Nat.mul_assoc];refine Nat.mul_lt_mul_of_pos_right ?_ (Nat.pow_pos (by decide))
  have:BB^(nl b-1)*(topW b+1)≤BB^(nl b-1)*2^bl (topW b):=O9 _ b2
  rw[Nat.mul_add]at this;unfold topW at*
  omega
 rw[eB,←Nat.mul_assoc,←Nat.mul_assoc];refine O8 _ ?_;have e5:2^bl (topW b)=2*2^(bl (topW b)-1):=by
  rw[O6,←O4];congr 1;omega
 rw[e5]
 have:BB^(nl b-1)*2^(bl (topW b)-1)≤BB^(nl b-1)*topW b:=O9 _ b1
 rw[Nat.mul_left_comm];have e6:BB^(nl b-1)*topW b≤b:=Nat.mul_div_le _ _;omega
theorem shf_nl {b:Nat}(h:0<b):nl (b*2^shf b)=nl b:=by
 obtain⟨_,h2,h3⟩:=shf_spec h;have h1:=nl_pos.2 h;have h4:=nl_le_of_lt h2
 rcases Nat.lt_or_ge (nl (b*2^shf b)) (nl b)with h5|h5
 ·have h6:b*2^shf b<BB^(nl b-1):=nl_le_iff.1 (by omega);have e:BB^nl b=BB^(nl b-1)*BB:=by rw[←O4];congr 1;omega
  have h7:BB^(nl b-1)*2≤BB^(nl b-1)*BB:=O9 _ (by decide);omega
 omega
structure Nrm (V n:Nat):Prop where
 nle:nl V=n
 two:2≤n
 big:BB^n≤2*V
theorem Nrm.pos {V n:Nat}(h:Nrm V n):0<V:=nl_pos.1 (by rw[h.nle];have:=h.two;omega)
theorem Nrm.lt {V n:Nat}(h:Nrm V n):V<BB^n:=by have:=lt_of_nl V;rw[h.nle]at this;exact this
theorem pow_split2 {n:Nat}(h:2≤n):BB^(n-1)=BB^(n-2)*BB:=by rw[←O4];congr 1;omega
theorem pow_split1 {n:Nat}(h:1≤n):BB^n=BB^(n-1)*BB:=by rw[←O4];congr 1;omega
theorem Nrm.high {V n:Nat}(h:Nrm V n):BB≤2*(V/BB^(n-1))∧V/BB^(n-1)<BB∧V/BB^(n-2)=V/BB^(n-1)*BB+V/BB^(n-2)%BB:=by
 have hp:0<BB^(n-1):=Nat.pow_pos (by decide);have h2:=h.two;refine⟨?_,?_,?_⟩
 ·have h3:=h.big;rw[pow_split1 (by omega)]at h3;have h4:BB/2≤V/BB^(n-1):=by
   rw[Nat.le_div_iff_mul_le hp]
   have:(BB/2)*BB^(n-1)*2=BB^(n-1)*BB:=by
    rw[O6,←Nat.mul_assoc,show 2*(BB/2)=BB from rfl,O6]
   omega
  have:BB=2*(BB/2):=rfl
  omega
 ·rw[Nat.div_lt_iff_lt_mul hp,O6,←pow_split1 (by omega)];exact h.lt
 rw[pow_split2 h2,←Nat.div_div_eq_div_mul,O6,Nat.div_add_mod]
structure At (V n i R:Nat):Prop where
 nrm:Nrm V n
 lt:R<V*BB^(i+1)
def q3 (n i R:Nat):Nat:=R/BB^(i+n-2)
theorem At.words {V n i R:Nat}(h:At V n i R):R/BB^(i+n-2)%BB=q3 n i R%BB∧R/BB^(i+n-1)%BB=q3 n i R/BB%BB∧R/BB^(i+n)%BB=q3 n i R/BB/BB∧q3 n i R/BB<BB*BB:=by
 have h2:=h.nrm.two;have e1:R/BB^(i+n-1)=q3 n i R/BB:=by
  unfold q3;rw[Nat.div_div_eq_div_mul,←O4];congr 2;omega
 have e2:R/BB^(i+n)=q3 n i R/BB/BB:=by
  rw[←e1,Nat.div_div_eq_div_mul,←O4];congr 2;omega
 have hR:R<BB^(i+n+1):=by
  refine Nat.lt_of_lt_of_le h.lt ?_
  have:=O8 (BB^(i+1)) (Nat.le_of_lt h.nrm.lt)
  rw[←Nat.pow_add,show n+(i+1)=i+n+1 by omega]at this;exact this
 have h3:R/BB^(i+n)<BB:=by
  rw[Nat.div_lt_iff_lt_mul (Nat.pow_pos (by decide)),O6,←O4];exact hR
 refine⟨rfl,by rw[e1],by rw[O7 h3,e2],?_⟩;rw[e2]at h3;exact(Nat.div_lt_iff_lt_mul (by decide)).1 h3
theorem At.U {V n i R:Nat}(h:At V n i R):R/BB^i<V*BB∧R/BB^i=q3 n i R*BB^(n-2)+R/BB^i%BB^(n-2):=by
 have h2:=h.nrm.two;refine⟨?_,?_⟩
 ·rw[Nat.div_lt_iff_lt_mul (Nat.pow_pos (by decide)),Nat.mul_assoc,O6 BB,←O4];exact h.lt
 have e:q3 n i R=R/BB^i/BB^(n-2):=by
  unfold q3;rw[Nat.div_div_eq_div_mul,←Nat.pow_add];congr 2;omega
 rw[e,O6,Nat.div_add_mod]
structure Dg (V n i R D rest:Nat):Prop where
 top:q3 n i R/BB=D*(V/BB^(n-1))+rest
 ge:R/BB^i/V≤D
 rest:rest<BB
 lt:D<2*BB
theorem Dg.init {V n i R:Nat}(h:At V n i R):Dg V n i R (q3 n i R/BB/(V/BB^(n-1))) (q3 n i R/BB% (V/BB^(n-1))):=by
 obtain⟨h1,h2,h3⟩:=h.nrm.high;obtain⟨_,hU⟩:=h.U;obtain⟨_,_,_,h4⟩:=h.words;have hp:0<V/BB^(n-1):=by unfold BB at*;omega
 have hP:0<BB^(n-2):=Nat.pow_pos (by decide);refine⟨by rw[O6,Nat.div_add_mod],?_,Nat.lt_trans (Nat.mod_lt _ hp) h2,?_⟩
 ·refine kn_init (P:=BB^(n-2)) (next:=V/BB^(n-2)%BB) (Vr:=V%BB^(n-2)) (u2:=q3 n i R%BB) (Ur:=R/BB^i%BB^(n-2)) ?_ ?_ (Nat.mod_lt _ hP) (Nat.mod_lt _ (by decide)) hp
  ·rw[O6 (q3 n i R/BB),Nat.div_add_mod];exact hU
  rw[←h3,O6,Nat.div_add_mod]
 rw[Nat.div_lt_iff_lt_mul hp]
 have:BB*BB≤2*BB*(V/BB^(n-1)):=by
  rw[O6 2,Nat.mul_assoc];exact O9 _ h1
 omega
theorem Dg.next {V n i R D rest:Nat}(hA:At V n i R)(h:Dg V n i R D rest)(hc:BB≤D∨rest*BB+q3 n i R%BB<D*(V/BB^(n-2)%BB)):
  0<D∧q3 n i R/BB=(D-1)*(V/BB^(n-1))+(rest+V/BB^(n-1))∧R/BB^i/V≤D-1:=by
 obtain⟨h1,h2,h3⟩:=hA.nrm.high;obtain⟨hU1,hU⟩:=hA.U;have hV:0<V:=hA.nrm.pos;have hP:0<BB^(n-2):=Nat.pow_pos (by decide);have hD:R/BB^i/V<D:=by
  rcases hc with hc|hc
  ·refine Nat.lt_of_lt_of_le ?_ hc;rw[Nat.div_lt_iff_lt_mul hV,O6];exact hU1
  refine kn_step (P:=BB^(n-2)) (V2:=V/BB^(n-2)) (Vr:=V%BB^(n-2)) (Ur:=R/BB^i%BB^(n-2)) hU (by rw[O6,Nat.div_add_mod]) (Nat.mod_lt _ hP) ?_;have e:=Nat.div_add_mod (q3 n i R) BB;rw[h.top]at e;rw[h3,Nat.mul_add,←Nat.mul_assoc];rw[Nat.mul_add,O6 BB,O6 BB rest]at e;omega
 refine⟨Nat.lt_of_le_of_lt (O2 _) hD,?_,Nat.le_sub_one_of_lt hD⟩;have hD0:0<D:=Nat.lt_of_le_of_lt (O2 _) hD;have e:D*(V/BB^(n-1))=(D-1)*(V/BB^(n-1))+V/BB^(n-1):=by
  rw[←Nat.succ_mul];congr 1;omega
 rw[h.top,e];omega
theorem Dg.fin {V n i R D rest:Nat}(hA:At V n i R)(htop:q3 n i R/BB=D*(V/BB^(n-1))+rest)(hge:R/BB^i/V≤D)(hc:(D<BB∧D*(V/BB^(n-2)%BB)≤rest*BB+q3 n i R%BB)∨BB≤rest):
  D<BB∧R/BB^i/V≤D∧D≤R/BB^i/V+1:=by
 obtain⟨h1,h2,h3⟩:=hA.nrm.high;obtain⟨hU1,hU⟩:=hA.U;obtain⟨_,_,w3,h4⟩:=hA.words;have hV:0<V:=hA.nrm.pos;have hP:0<BB^(n-2):=Nat.pow_pos (by decide);have e:=Nat.div_add_mod (q3 n i R) BB;have hnext:V/BB^(n-2)%BB<BB:=Nat.mod_lt _ (by decide)
 -- the highest word is not above the divisor's
 have hD:D<BB:=by
  rcases hc with hc|hc
  ·exact hc.1
  rcases Nat.lt_or_ge D BB with hD|hD
  ·exact hD
  exfalso
  have h5:BB*(V/BB^(n-1))≤D*(V/BB^(n-1)):=O8 _ hD;have h6:q3 n i R/BB<(V/BB^(n-1)+1)*BB:=by
   have h7:R/BB^i/BB^(n-1)=q3 n i R/BB:=by
    unfold q3;have h2':=hA.nrm.two;rw[Nat.div_div_eq_div_mul,Nat.div_div_eq_div_mul,←Nat.pow_add,←O4];congr 2;omega
   rw[←h7,Nat.div_lt_iff_lt_mul (Nat.pow_pos (by decide))];refine Nat.lt_of_lt_of_le hU1 ?_;rw[Nat.mul_right_comm];refine O8 _ ?_;have e8:=Nat.div_add_mod V (BB^(n-1));have l8:=Nat.mod_lt V (Nat.pow_pos (n:=n-1) (show 0<BB by decide));rw[Nat.add_mul,O6 (V/_)];omega
  rw[Nat.add_mul,O6 (V/_)]at h6;omega
 have hq:D*(V/BB^(n-2))≤q3 n i R:=by
  rw[htop]at e;rw[h3,Nat.mul_add,←Nat.mul_assoc];rw[Nat.mul_add,O6 BB,O6 BB rest]at e
  rcases hc with hc|hc
  ·omega
  have h5:D*(V/BB^(n-2)%BB)≤BB*BB:=Nat.mul_le_mul (Nat.le_of_lt hD) (Nat.le_of_lt hnext);have h6:BB*BB≤rest*BB:=O8 _ hc;omega
 refine⟨hD,hge,kn_end (P:=BB^(n-2)) (V2:=V/BB^(n-2)) (Vr:=V%BB^(n-2)) (Ur:=R/BB^i%BB^(n-2)) hU (by rw[O6,Nat.div_add_mod]) (Nat.mod_lt _ hP) hq ?_ hV⟩;rw[h3]
 have:BB≤V/BB^(n-1)*BB:=Nat.le_mul_of_pos_left _ (by unfold BB at*;omega)
 omega
theorem At.step {V n i R:Nat}(h:At V n i R):R-BB^i*(R/BB^i/V*V)<V*BB^i∧BB^i*(R/BB^i/V*V)≤R:=by
 have hp:0<BB^i:=Nat.pow_pos (by decide);have e1:=Nat.div_add_mod R (BB^i);have l1:=Nat.mod_lt R hp;have e2:=Nat.div_add_mod (R/BB^i) V;have l2:=Nat.mod_lt (R/BB^i) h.nrm.pos;have e3:BB^i*(R/BB^i)=BB^i*(R/BB^i/V*V)+BB^i*(R/BB^i%V):=by
  rw[←Nat.mul_add,O6 (R/BB^i/V),e2]
 have h3:BB^i*(R/BB^i%V+1)≤BB^i*V:=O9 _ l2;rw[Nat.mul_add]at h3;rw[O6 V]
 generalize R/BB^i=U at*
 generalize R%BB^i=r at*
 generalize U%V=m at*
 generalize U/V*V=x at*
 omega
theorem At.sub_no {V n i R D Z:Nat}(h:At V n i R)(hge:R/BB^i/V≤D)(hz:Z+BB^i*(D*V)=R):D=R/BB^i/V∧Z=R-BB^i*(R/BB^i/V*V):=by
 have hD:D≤R/BB^i/V:=by
  rw[Nat.le_div_iff_mul_le h.nrm.pos,Nat.le_div_iff_mul_le (Nat.pow_pos (by decide)),O6];omega
 have:D=R/BB^i/V:=by omega
 subst this;exact⟨rfl,by omega⟩
theorem At.sub_yes {V n i R D Z Z2 k:Nat}(h:At V n i R)(hle:D≤R/BB^i/V+1)(hge:R/BB^i/V≤D)(hZ:Z<BB^(i+n+1))(hZ2:Z2<BB^(i+n+1))(hz:Z+BB^i*(D*V)=R+BB^(i+n+1))(hz2:Z2+BB^(i+n+1)*k=Z+BB^i*V):
  D=R/BB^i/V+1∧Z2=R-BB^i*(R/BB^i/V*V):=by
 obtain⟨s1,s2⟩:=h.step;have hD:D=R/BB^i/V+1:=by
  rcases Nat.lt_or_ge (R/BB^i/V) D with h1|h1
  ·omega
  have:D=R/BB^i/V:=by omega
  subst this;omega
 refine⟨hD,?_⟩;subst hD;rw[Nat.add_mul,Nat.one_mul,Nat.mul_add]at hz;have hV:V*BB^i<BB^(i+n+1):=by
  have h2:V*BB^i<BB^n*BB^i:=Nat.mul_lt_mul_of_pos_right h.nrm.lt (Nat.pow_pos (by decide));have h3:BB^(i+n+1)=BB^n*BB^i*BB:=by rw[O4,Nat.pow_add,O6 (BB^i)]
  have h4:BB^n*BB^i*1≤BB^n*BB^i*BB:=O9 _ (by decide);omega
 rcases Nat.lt_or_ge k 1 with hk|hk
 ·have:k=0:=by omega
  subst this;rw[Nat.mul_zero]at hz2;omega
 rcases Nat.lt_or_ge k 2 with hk2|hk2
 ·have:k=1:=by omega
  subst this;rw[Nat.mul_one]at hz2;omega
 have:BB^(i+n+1)*2≤BB^(i+n+1)*k:=O9 _ hk2
 omega
end Go.Eng
set_option maxHeartbeats 2000000
namespace Go.Proofs.YtcdijplheindaaaGreat
open Go Go.Eng
theorem dig_full (n:Nat):dig (nl n) n=limbs n:=by
 have h:=dig_val (InR.limbs n);rw[val_limbs]at h;exact h
theorem cloneU_spec (xs:List Int)(hx:xs.length<2^44):Pr Tryz.prog 218 [.one (.ints .u32 xs)] (.one (.ints .u32 xs)):=by
 refine pw Tryz.func218 ⟨[0,2,4],[]⟩ ?_;simp only[Tryz.f218,Tryz.ntmps218,iz,seval];simp only[vx,T,seval];intro b hb;refine Lg ?_;simp only[vx,T,seval];refine⟨fun h=>Lg ?_,fun h=>Lg ?_⟩
 ·simp only[vx,T,seval];have h0:xs=[]:=by
   cases xs with
   |nil=>rfl
   |cons x xs=>simp at hb;rw[hb]at h;cases h
  refine Va ?_;simp only[vLe,vLeL,ry,seval,h0]
 simp only[vx,T,seval];exact⟨⟨by omega,by omega⟩,VLe.refl _⟩
theorem or_low64 {s x:Nat}(hs:s<BB)(hx:x<BB):bitsOp .or .u64 ((s:Int)*4294967296) (x:Int)=((s*BB+x:Nat):Int):=by
 rw[show ((s:Int)*4294967296)=((s*4294967296:Nat):Int) by omega];unfold BB at*
 have e:=Nat.two_pow_add_eq_or_of_lt (i:=32) (b:=x) (by omega) s;rw[bits_or64 (by omega) (by omega)];have e2:s*4294967296=2^32*s:=O6 _ _;rw[e2,←e]
theorem div_next2 (n k:Nat):n/BB^(k+1)*BB+n/BB^k%BB=n/BB^k:=by
 rw[O4,←Nat.div_div_eq_div_mul,O6,Nat.div_add_mod]
theorem rshort_spec (n:Nat)(hn:n<2^64):Pr Tryz.prog 312 [.one (.ints .u32 (limbs n))] (.one (.int .u64 n)):=by
 have h2:nl n≤2:=nl_le_of_lt (by unfold BB;omega);refine pw Tryz.func312 ⟨[0,2,3,4,9],[]⟩ ?_;simp only[Tryz.f312,Tryz.ntmps312,iz,seval];simp only[vx,T,seval]
 simp(disch:=omega) only[lG,←X2,←Q2,Q1,Q4,Q5,wrapBB,fdivBB,true_and,and_true]
 refine Lk (fun i:{i:Nat//i≤nl n}=>⟨[(0,.one (.ints .u32 (limbs n))),(3,.one (.int .u64 (n/BB^i.1:Nat))),(4,.one (.int .i64 ((i.1:Int)-1)))],[],2,21⟩) (fun i=>i.1) ⟨nl n,O1 _⟩ ?_ (fun⟨i,hi⟩=>?_)
 ·refine Sa ?_;simp only[ry,seval,rz];rw[limb_end (O1 _)];rfl
 simp only[vx,T,seval];refine⟨fun h=>Lg ?_,fun h=>Lg ?_⟩
 ·simp only[vx,T,seval];obtain⟨k,rfl⟩:∃k,i=k+1:=⟨i-1,by omega⟩;have e1:((k+1:Nat):Int)-1=k:=by omega
  have h3:=modBB (n/BB^k);have h4:n/BB^(k+1)<4294967296:=by
   rw[Nat.div_lt_iff_lt_mul (Nat.pow_pos (by decide)),O4]
   have:BB^1≤BB^k*BB:=by rw[←O4];exact O3 (by decide) (by omega)
   have h5:4294967296*BB^1≤4294967296*(BB^k*BB):=O9 _ this;unfold BB at h5⊢;omega
  have h5:=or_low64 h4 h3;rw[div_next2]at h5;have e6:IntKind.u64.wrap (((n/BB^(k+1):Nat):Int)*4294967296)=((n/BB^(k+1):Nat):Int)*4294967296:=by
   generalize n/BB^(k+1)=q at h4⊢
   exact Q5 _ (by omega)
  simp(disch:=omega) only[lG,←X2,←Q2,Q1,Q4,Q5,wrapBB,fdivBB,true_and,and_true,e1,e6,h5]
  refine⟨by omega,Lq ⟨k,by omega⟩ ?_ ?_⟩
  ·refine Sa ?_;simp only[ry,seval,rz]
  simp only;omega
 simp only[vx,T,seval];have hi0:i=0:=by omega
 subst hi0;refine Va ?_;simp only[vLe,vLeL,ry,seval,Nat.pow_zero,Nat.div_one]
theorem rlength_spec (b:Nat)(h0:0<b)(hb:nl b<2^44):Pr Tryz.prog 314 [.one (.ints .u32 (limbs b))] (.one (.int .i64 (32*(nl b-1)+bl (topW b):Nat))):=by
 have hn:=nl_pos.2 h0;have ht:=topW_mod h0;obtain⟨t1,t2⟩:=topW_lt h0;have hbl:bl (topW b)≤32:=bl_le (by unfold BB at t2;omega);refine pw Tryz.func314 ⟨[0,2,3,4,7,15],[]⟩ ?_;simp only[Tryz.f314,Tryz.ntmps314,iz,seval];simp only[vx,T,seval];refine⟨fun h1=>absurd h1 (by omega),fun h1=>Lg ?_⟩;simp only[vx,T,seval];have e1:IntKind.i64.wrap ((nl b:Int)-1)=((nl b-1:Nat):Int):=by rw[Q4 _ (by omega)];omega
 simp(disch:=omega) only[lG,←X2,←Q2,Q1,Q4,Q5,wrapBB,fdivBB,true_and,and_true,e1,ht]
 refine⟨by omega,Lk (fun x:{x:Nat×Nat//x.1+bl x.2=bl (topW b)∧x.2<BB}=>⟨[(0,.one (.ints .u32 (limbs b))),(3,.one (.int .i64 x.1.1)),(4,.one (.int .u32 x.1.2))],[],2,26⟩) (fun x=>x.1.2) ⟨(0,topW b),by simp,t2⟩ ?_ (fun⟨⟨c,x⟩,hx1,hx2⟩=>?_)⟩
 ·refine Sa ?_;simp only[ry,seval,rz]
 simp only at hx1 hx2;have hx3:x<4294967296:=hx2;simp only[vx,T,seval];refine⟨fun h=>Lg ?_,fun h=>Lg ?_⟩
 ·simp only[vx,T,seval];have h4:=bl_pos (x:=x) (by omega);have e2:IntKind.u32.wrap ((x:Int).tdiv 2)=((x/2:Nat):Int):=by
   have e3:(x:Int).tdiv 2=((x/2:Nat):Int):=rfl;rw[e3,IntWalk.u32_in _ (by omega)]
  simp(disch:=omega) only[lG,←X2,←Q2,Q1,Q4,Q5,wrapBB,fdivBB,true_and,and_true,e2]
  refine Lq ⟨(c+1,x/2),by simp only;omega,by simp only;omega⟩ ?_ ?_
  ·refine Sa ?_;simp only[ry,seval,rz]
  simp only;omega
 simp only[vx,T,seval];have hx0:x=0:=by omega
 subst hx0;rw[bl_zero]at hx1
 simp(disch:=omega) only[lG,←X2,←Q2,Q1,Q4,Q5,wrapBB,fdivBB,true_and,and_true,e1]
 refine Ve ?_
 congr 2
 omega
end Go.Proofs.YtcdijplheindaaaGreat
namespace Go.Eng
structure DvInv (A V m j:Nat) (us qs:List Int):Prop where
 nrm:Nrm V (nl V)
 le:nl V+j≤m
 ulen:us.length=m
 uin:InR us
 qlen:m≤qs.length+nl V
 qin:InR qs
 eq:val qs*V+val us=A
 lt:val us<V*BB^j
 dvd:∃Q,val qs=BB^j*Q
theorem DvInv.at {A V m i:Nat}{us qs:List Int}(h:DvInv A V m (i+1) us qs):At V (nl V) i (val us):=⟨h.nrm,h.lt⟩
theorem DvInv.init {A V m l:Nat}(hn:Nrm V (nl V))(hm:nl V≤m)(hA:2*A<BB^m)(hl:m≤l+nl V):DvInv A V m (m-nl V) (dig m A) (List.replicate l 0):=by
 have e:BB^m=BB^nl V*BB^(m-nl V):=by rw[←Nat.pow_add];congr 1;omega
 have h1:BB^nl V*BB^(m-nl V)≤2*V*BB^(m-nl V):=O8 _ hn.big;have hv:val (dig m A)=A:=val_dig_lt (by omega);refine⟨hn,by omega,dig_length _ _,dig_inr _ _,by simpa using hl,InR.replicate _,by rw[val_replicate,hv];omega,?_,0,by rw[val_replicate];simp⟩;rw[hv];rw[Nat.mul_assoc]at h1;omega
theorem DvInv.q {A V m i:Nat}{us qs:List Int}(h:DvInv A V m (i+1) us qs):val us/BB^i/V<BB:=by
 rw[Nat.div_lt_iff_lt_mul h.nrm.pos,O6];exact h.at.U.1
theorem DvInv.step {A V m i:Nat}{us qs us':List Int}(h:DvInv A V m (i+1) us qs)(hl:us'.length=us.length)(hi:InR us')(hv:val us'=val us-BB^i*(val us/BB^i/V*V)):
  DvInv A V m i us' (qs.set i ((val us/BB^i/V:Nat):Int)):=by
 obtain⟨s1,s2⟩:=h.at.step;have hq:=h.q;obtain⟨Q,hQ⟩:=h.dvd;have hle:=h.le;have hiq:i<qs.length:=by have:=h.qlen;omega
 have h0:qs.getD i 0=0:=by
  rw[getD_val h.qin,hQ,O4,Nat.mul_assoc,Nat.mul_div_cancel_left _ (Nat.pow_pos (by decide)),Nat.mul_mod_right];rfl
 have e:=val_set (xs:=qs) (i:=i) (x:=((val us/BB^i/V:Nat):Int)) hiq;rw[h0]at e;simp only[Int.toNat_zero,Nat.mul_zero,Nat.add_zero,Q1]at e;have heq:=h.eq
 generalize val us/BB^i/V=q at*
 refine⟨h.nrm,by omega,by rw[hl];exact h.ulen,hi,by rw[List.length_set];exact h.qlen,h.qin.set _ ⟨by omega,by unfold BB at hq;omega⟩,?_,by rw[hv];exact s1,BB*Q+q,?_⟩
 ·rw[e,Nat.add_mul,hv,Nat.mul_assoc];omega
 rw[e,hQ,O4,Nat.mul_add,Nat.mul_assoc]
theorem DvInv.done {a b k m:Nat}{us qs:List Int}(hb:0<b)(h:DvInv (a*2^k) (b*2^k) m 0 us qs):val qs=a/b∧val us=(a%b)*2^k∧val us<BB^nl (b*2^k):=by
 have h1:=h.eq;have h2:=h.lt;rw[Nat.pow_zero,Nat.mul_one]at h2;have hk:0<2^k:=Nat.pow_pos (by decide);have e1:val qs=a*2^k/(b*2^k):=by
  rw[←h1,O6,Nat.mul_add_div h.nrm.pos,Nat.div_eq_of_lt h2,Nat.add_zero]
 have e2:val us=a*2^k% (b*2^k):=by
  rw[←h1,O6,Nat.mul_add_mod,O7 h2]
 rw[Nat.mul_div_mul_right _ _ hk]at e1;rw[Nat.mul_mod_mul_right]at e2;exact⟨e1,e2,Nat.lt_trans h2 h.nrm.lt⟩
structure CpInv (xs:List Int) (off U D m k:Nat) (zs:List Int):Prop where
 le:k≤m
 len:zs.length=xs.length
 inr:InR zs
 up:zs.drop (off+k)=xs.drop (off+k)
 eq:val zs+BB^off*(U%BB^k)=val xs+BB^off*(D%BB^k)
theorem CpInv.init {xs:List Int}(off U D m:Nat)(h:InR xs):CpInv xs off U D m 0 xs:=⟨O2 _,rfl,h,rfl,by simp[Nat.mod_one]⟩
theorem CpInv.put {xs:List Int}{off U D m k:Nat}{zs:List Int}(h:CpInv xs off U D m k zs)(hk:k<m)(hl:off+m≤xs.length)(hU:xs.getD (off+k) 0=((U/BB^k%BB:Nat):Int)){d:Nat}(hd:D/BB^k%BB=d):
  CpInv xs off U D m (k+1) (zs.set (off+k) (d:Int)):=by
 have hlz:off+k<zs.length:=by rw[h.len];omega
 have hd2:d<BB:=by rw[←hd];exact Nat.mod_lt _ (by decide)
 have hold:zs.getD (off+k) 0=((U/BB^k%BB:Nat):Int):=by
  rw[←hU];have e:(zs.drop (off+k)).getD 0 0=(xs.drop (off+k)).getD 0 0:=by rw[h.up]
  simpa[X7,List.getElem?_drop]using e
 refine⟨hk,by rw[List.length_set];exact h.len,h.inr.set _ ⟨by omega,by unfold BB at hd2;omega⟩,?_,?_⟩
 ·rw[←Nat.add_assoc,List.drop_set_of_lt (by omega),←List.drop_drop,h.up,List.drop_drop]
 have e:=val_set (xs:=zs) (x:=(d:Int)) hlz;rw[hold]at e;simp only[Q1]at e;have h1:=h.eq;rw[mod_next',mod_next',Nat.mul_add,Nat.mul_add,←Nat.mul_assoc,←Nat.mul_assoc,←Nat.pow_add,hd];omega
theorem CpInv.done {xs:List Int}{off U D m:Nat}{zs:List Int}(h:CpInv xs off U D m m zs)(hU:U<BB^m)(hD:D<BB^m):val zs+BB^off*U=val xs+BB^off*D:=by
 have:=h.eq
 rw[O7 hU,O7 hD]at this;exact this
theorem drop_val {zs:List Int}(hi:InR zs){k:Nat}(h:val (zs.drop k)=0):val zs<BB^k:=by
 rw[val_drop hi]at h
 rcases Nat.lt_or_ge (val zs) (BB^k)with h1|h1
 ·exact h1
 have:=(Nat.div_pos_iff (a:=val zs) (b:=BB^k)).2 ⟨Nat.pow_pos (by decide),h1⟩
 omega
end Go.Eng
namespace Go.Eng
open Go
theorem freshRep {w w':World}{ok:Nat→Prop}{l:Loc}{B:Bk}{v:Value}(hf:B.flat)(hnew:∀g o,l.addr=some (g,o)→w.heap.size≤g∧g<w'.heap.size)
  (hl:l.len=B.len) (hrep:RepBk loc0 dom0 (fun g=>ok g∨(w.heap.size≤g∧g<w'.heap.size∧∀o,l.addr≠some (g,o))) w' l B) (hval:RepB (fun _=>l) (fun _=>True) (fun _=>False) w' (.own 0 B.wd 0 B.len) v):
  RepC loc0 dom0 (fun g=>ok g∨(w.heap.size≤g∧g<w'.heap.size)) w' (vwBk B B.wd 0 B.len) v:=by
 obtain⟨_,hle,cap,hcap,hv⟩:=hval;have hrep':RepBk loc0 dom0 (fun g=>ok g∨(w.heap.size≤g∧g<w'.heap.size)) w' l B:=hrep.plain_ext (Bk.flat_plain hf) fun g hg=>by
  rcases hg with hg|⟨h1,h2,_⟩
  ·exact .inl hg
  exact .inr ⟨h1,h2⟩
 refine RepC.of_repI ?_
 rcases hv with⟨g,o,o',ha,rfl,ho,_⟩|⟨_,rfl,h0,_⟩
 ·exact vwBk_sound ha hrep' (.inr (hnew g o ha)) hl hle hcap ho
 cases B with
 |var cs=>exact hf.elim
 |wins e b2 n g=>exact hf.elim
 |ints e k xs=>
  simp only[Bk.len]at h0;simp only[vwBk,Bk.wd,if_true,Bk.len];exact⟨none,0,by simp[h0],by simp[h0],.inl (by simp[h0])⟩
 |rows e w n f=>
  simp only[Bk.len]at h0;subst h0;simp only[vwBk,Bk.wd,if_true,Bk.len];exact⟨none,0,rfl,O1 _,.inl rfl⟩
theorem Fr.view {P:Program}{f:FuncId}{args:List V}{B:Bk}(h:Fr P f args B):Pr P f args (.one (vwBk B B.wd 0 B.len)):=by
 obtain⟨hc,hf,h⟩:=h;refine⟨hc,fun ok w vs hok hvs=>Calls.mono (h ok w vs hok hvs) fun e w' he=>?_⟩;obtain⟨v,l,rfl,hb,hl,hnew,hrep,hval⟩:=he;exact⟨v,rfl,hb,freshRep hf hnew hl hrep hval⟩
theorem Fr.ints {P:Program}{f:FuncId}{args:List V}{e:TypeId}{k:IntKind}{xs:List Int}(h:Fr P f args (.ints e k xs)):Pr P f args (.one (.ints k xs)):=by
 have h1:=h.view;simp only[vwBk,Bk.wd,Bk.len,if_true,List.drop_zero,List.take_length]at h1;exact h1
theorem Fr.rows {P:Program}{f:FuncId}{args:List V}{e:TypeId}{w n:Nat}{g:Nat→Nat→C}(h:Fr P f args (.rows e w n g)):Pr P f args (.one (.rows w n g)):=by
 have h1:=h.view;simp only[vwBk,Bk.wd,Bk.len,if_true,Nat.zero_add]at h1;exact h1
end Go.Eng
namespace Go.Proofs.YtcdijplheindaaaGreat
open Go Go.Proofs Go.RowKit Go.Shelf Go.Eng
attribute [local go_sem] Oper.semAt_some
def upB (zs:List Int)(m k:Nat):List (Nat×Int):=(List.range k).map fun j=>(m-1-j,zs[m-1-j]?.getD 0)
theorem upB_succ (zs:List Int)(m k:Nat):upB zs m (k+1)=upB zs m k++[(m-1-k,zs[m-1-k]?.getD 0)]:=by simp[upB,List.range_succ]
theorem upB_length (zs:List Int)(m k:Nat):(upB zs m k).length=k:=by simp[upB]
def KpB (n₀ Bs:Nat)(sv:Value)(W W':World):Prop:=Below n₀ W W'∧(W.cell? ⟨Bs,0,none⟩=some sv→W'.cell? ⟨Bs,0,none⟩=some sv)
theorem kpB_t {n₀ Bs:Nat}{sv:Value}{A B C:World}(h:KpB n₀ Bs sv A B)(k:KpB n₀ Bs sv B C):KpB n₀ Bs sv A C:=⟨h.1.trans k.1,fun e=>k.2 (h.2 e)⟩
theorem kpB_b {n₀ Bs:Nat}{sv:Value}{w:World}(hn:n₀≤w.heap.size)(hb:Bs<w.heap.size)(W:World)(l:Nat)(o o':Obj)(hl:w.heap.size≤l)(h:W.heap[l]? =some o)(hc:o.isCells=false)(hw:o.isWalk=false):KpB n₀ Bs sv W (W.putObj l o'):=
 ⟨belowK_b hn W l o o' hl h hc hw,fun e=>((belowK_b (n₀:=w.heap.size) (O1 _) W l o o' hl h hc hw).cell (p:=⟨Bs,0,none⟩) hb).trans e⟩
set_option maxRecDepth 100000 in
theorem back1_in (F:Fence)(n:Nat)(h8:F.fn 362)(hro:F.round=none)(hn:1≤n)(l Bs n₀ b off len cap:Nat)(zs:List Int)(hreach:len*8≤140737488351232)(hb:b<n₀)(J Jx:List (Nat×Int)→World→Prop)
  (hY:∀pre x W,J pre W→pre.length<len→YieldAt F (n-1) Tryz.prog l #[.int .i64 (x.1:Int),.int .u32 x.2] W fun e W'=>
   (e= .returned (.bool true)∧J (pre++[x]) W'∧KpB n₀ Bs (.slice (some ⟨b,off,none⟩) len cap) W W')∨(e= .returned (.bool false)∧Jx (pre++[x]) W'))
  (W:World) (hBs:W.cell? ⟨Bs,0,none⟩=some (.slice (some ⟨b,off,none⟩) len cap)) (hc:∀j,j<len→W.cell? ⟨b,off+j,none⟩=some (.int .u32 (zs[j]?.getD 0))) (h0:J [] W):
  CallsIn F n Tryz.prog 362 #[.func (.yield l) #[] #[],.pointer (some ⟨Bs,0,none⟩)] W fun e W'=>(∃v,e= .returned v)∧
   ((∃ys,ys=upB zs len len∧J ys W')∨(∃pre,(∃k,k≤len∧pre=upB zs len k)∧Jx pre W')):=by
 refine callsIn_of_wp Tryz.func362 rfl h8 ?_ hro;simp only[Tryz.ntmps362,List.size_toArray,List.length_cons,List.length_nil,J1,J3,Array.replicate_succ,Array.replicate_zero,List.push_toArray,List.append_toArray,List.nil_append,List.cons_append]
 gi_wp2
 gi_loopw [3] (fun i wr=>∃m k:Nat,m+k=len∧i= .int .i64 ((m:Int)-1)∧J (upB zs len k) wr∧KpB n₀ Bs (.slice (some ⟨b,off,none⟩) len cap) W wr)
  (fun i _=>(intOf i+1).toNat)
 case atStart=>exact⟨len,0,rfl,rfl,h0,Below.refl _ _,id⟩
 case round=>
  obtain⟨m,k,hk,rfl,hJs,hnx⟩:=hrel
  rcases m with _|m
  ·obtain rfl:k=len:=by omega
   gi_wp2
   go_end0
   exact⟨⟨_,rfl⟩,.inl ⟨_,rfl,hJs⟩⟩
  have hcx':wr.cell? ⟨b,off+m,none⟩=some (.int .u32 (zs[m]?.getD 0)):=(hnx.1.cell (p:=⟨b,off+m,none⟩) hb).trans (hc m (by omega));have hbx:=hnx.2 hBs;obtain⟨fn,tmps,assign,body,hy,hR⟩:=hY _ (m,zs[m]?.getD 0) wr hJs (by rw[upB_length];omega)
  dsimp only at hy
  have e0:upB zs len (k+1)=upB zs len k++[(m,zs[m]?.getD 0)]:=by rw[upB_succ,show len-1-k=m by omega]
  have hE:=Lib.hid e0;clear e0;obtain⟨i0,hi0⟩:∃i0:Int,i0=m:=⟨_,rfl⟩;have em:((m+1:Nat):Int)-1=m:=by omega
  rw[em];clear em;have hml:m<len:=by omega
  gi_wp2
  refine hR.mono ?_
  rintro e W3 (⟨rfl,hJ3,hk3⟩|⟨rfl,hJx3⟩)
  ·gi_wp2
   go_roundw
   case rel=>exact⟨m,k+1,by omega,by simp,by rw[hE.out];exact hJ3,kpB_t hnx hk3⟩
   case measure=>simp[intOf]
  gi_wp2
  refine bodyPost_ret (results_none rfl _ _ _) rfl ?_;exact⟨⟨_,rfl⟩,.inr ⟨_,⟨k+1,by omega,hE.out.symm⟩,hJx3⟩⟩
def WordsAt (n₀:Nat)(W:World)(sv:Value)(zs:List Int):Prop:=
 ∃a cap,sv= .slice a zs.length cap∧(zs.length=0∨∃b off,a=some ⟨b,off,none⟩∧b<n₀∧∀j,j<zs.length→W.cell? ⟨b,off+j,none⟩=some (.int .u32 (zs[j]?.getD 0)))
theorem WordsAt.below {n₀:Nat}{A B:World}(h:Below n₀ A B){sv:Value}{zs:List Int}:WordsAt n₀ A sv zs→WordsAt n₀ B sv zs
 |⟨a,cap,e,.inl h0⟩=>⟨a,cap,e,.inl h0⟩
 |⟨a,cap,e,.inr ⟨b,off,ha,hb,hc⟩⟩=>⟨a,cap,e,.inr ⟨b,off,ha,hb,fun j hj=>(h.cell (p:=⟨b,off+j,none⟩) hb).trans (hc j hj)⟩⟩
set_option maxRecDepth 100000 in
theorem back1_nil_in (F:Fence)(n:Nat)(h8:F.fn 362)(hro:F.round=none)(l Bs cap:Nat)(a:Option Addr)(J:List (Nat×Int)→World→Prop)(W:World)(hBs:W.cell? ⟨Bs,0,none⟩=some (.slice a 0 cap))(h0:J [] W):
  CallsIn F n Tryz.prog 362 #[.func (.yield l) #[] #[],.pointer (some ⟨Bs,0,none⟩)] W fun e W'=>(∃v,e= .returned v)∧J [] W':=by
 refine callsIn_of_wp Tryz.func362 rfl h8 ?_ hro;simp only[Tryz.ntmps362,List.size_toArray,List.length_cons,List.length_nil,J1,J3,Array.replicate_succ,Array.replicate_zero,List.push_toArray,List.append_toArray,List.nil_append,List.cons_append]
 gi_wp2
 gi_loopw [3] (fun i wr=>i= .int .i64 (-1)∧J [] wr) (fun _ _=>0)
 case atStart=>exact⟨rfl,h0⟩
 case round=>
  obtain⟨rfl,hJs⟩:=hrel
  gi_wp2
  go_end0
  exact⟨⟨_,rfl⟩,hJs⟩
theorem back_in (F:Fence)(n:Nat)(h6:F.fn 353)(hro:F.round=none)(a:Option Addr)(len cap:Nat)(w:World):
  CallsIn F n Tryz.prog 353 #[.slice a len cap] w fun e w'=>e= .returned (.func (.func 362) #[] #[.pointer (some ⟨w.heap.size,0,none⟩)])∧w'=w.alloc (.cells #[.slice a len cap] 63):=by
 refine callsIn_of_wp Tryz.func353 rfl h6 ?_ hro;simp only[Tryz.ntmps353,List.size_toArray,List.length_cons,List.length_nil,J1,J3,Array.replicate_succ,Array.replicate_zero,List.push_toArray,List.append_toArray,List.nil_append,List.cons_append]
 gi_wp2
 go_ret
 exact⟨rfl,rfl⟩
theorem back_stops (F:Fence)(n:Nat)(h8:F.fn 362)(hro:F.round=none)(hn:1≤n)(Bs n₀:Nat)(sv:Value)(zs:List Int)(hreach:zs.length*8≤140737488351232)(w:World)(hBs:Bs<w.heap.size)(hn₀:n₀≤w.heap.size)
  (hc:w.cell? ⟨Bs,0,none⟩=some sv) (hI:WordsAt n₀ w sv zs):
  SeqStopsK F n Tryz.prog 362 #[.pointer (some ⟨Bs,0,none⟩)] (fun x:Nat×Int=> #[Value.int .i64 (x.1:Int),Value.int .u32 x.2]) (KpB n₀ Bs sv) (fun ys=>ys=upB zs zs.length zs.length)
   (fun pre=>∃k,k≤zs.length∧pre=upB zs zs.length k) zs.length w:=fun l J Jx W hW _ _ hY h0=>by
 have hc':=(hW.cell (p:=⟨Bs,0,none⟩) hBs).trans hc
 obtain⟨a,cap,rfl,h1|⟨b,off,rfl,hb,hcs⟩⟩:=hI.below (hW.mono hn₀)
 ·rw[h1]at hc'⊢;exact(back1_nil_in F n h8 hro l Bs cap a J W hc' h0).mono fun e W' ⟨he,hj⟩=>⟨he,.inl ⟨_,by rfl,hj⟩⟩
 exact back1_in F n h8 hro hn l Bs n₀ b off zs.length cap zs hreach hb J Jx hY W hc' hcs h0
def touStep (s x:Int):Int:=bits .or .u64 (IntKind.u64.wrap (s*4294967296)) (IntKind.u64.wrap x)
def touW:List (Nat×Int)→Int:=List.foldl (fun s p=>touStep s p.2) 0
theorem touW_snoc (pre:List (Nat×Int))(x:Nat×Int):touW (pre++[x])=touStep (touW pre) x.2:=by simp[touW]
set_option maxRecDepth 100000 in
theorem toUint_in (F:Fence)(n:Nat)(h3:F.fn 334)(h5:F.fn 353)(h7:F.fn 362)(hro:F.round=none)(hn:3≤n)(a:Option Addr)(len cap:Nat)(zs:List Int)(hreach:zs.length*8≤140737488351232)(w:World)(hI:WordsAt w.heap.size w (.slice a len cap) zs):
  CallsIn F n Tryz.prog 334 #[.slice a len cap] w fun e W'=>e= .returned (.int .u64 (touW (upB zs zs.length zs.length)))∧Below w.heap.size w W':=by
 have h1:1≤n:=by omega
 refine callsIn_of_wp_marks Tryz.func334 rfl h3 ?_ hro;simp only[Tryz.ntmps334,List.size_toArray,List.length_cons,List.length_nil,J1,J3,Array.replicate_succ,Array.replicate_zero,List.push_toArray,List.append_toArray,List.nil_append,List.cons_append]
 gi_wp2_with (gi_at_call 353;refine(back_in F (n-1) h5 hro _ _ _ _).mono ?_;rintro e w' ⟨rfl,rfl⟩)
 have bS:=Boxed.new w 175 (.int .u64 0);have bN:=Boxed.new (w.alloc (.cells #[.int .u64 0] 175)) 63 (.slice a len cap);rw[World.size_alloc]at bN;have hB0:Below w.heap.size w ((w.alloc (.cells #[.int .u64 0] 175)).alloc (.cells #[.slice a len cap] 63)):=((Below.refl _ w).alloc (O1 _) _).alloc (by simp) _;refine wpIn_rangeFunc_ownG hro h1 (gf:=362) (lb:= #[.pointer (some ⟨w.heap.size+1,0,none⟩)]) rfl h7 (enters_of Tryz.func362 (by kernel_rfl) rfl)
  (back_stops F (n-1) h7 hro (by omega) (w.heap.size+1) w.heap.size _ zs hreach _ (by simp) (by simp;omega) bN.cell (hI.below hB0)) kpB_t (kpB_b (by simp;omega) (by simp)) (Below.refl _ _) (fun _=>rfl)
  (fun pre W=>(W.cell? ⟨w.heap.size,0,none⟩=some (.int .u64 (touW pre))∧W.frozen? ⟨w.heap.size,0,none⟩=false)∧Below w.heap.size w W)
  (fun _ _ _=>False)
  (OwnFrom.and (Own.from (fun s A B row hs hg hr=>⟨cell_kept hs.1 hg hr,(frozen_kept hs.1 hg hr).trans hs.2⟩) _) (ownFrom_below (O1 _) (by simp;omega)))
  (fun _ _ _ _ _ hs _ _=>hs)
  ⟨⟨(bS.alloc _).cell,(bS.alloc _).frozen⟩,hB0⟩
  (fun x=>{tmps:= #[.slice a len cap,undef,.int .u64 0,.pointer (some ⟨w.heap.size,0,none⟩),undef,.int .u32 x.2,.slice a len cap,.func (.func 362) #[] #[.pointer (some ⟨w.heap.size+1,0,none⟩)],.int .i64 (x.1:Int),.int .u32 x.2,undef,undef,undef,undef,undef,undef],defers:=[]}) ?assign ?body ?done ?stop
 case assign=>
  intro l x W K hK
  gi_wp2
  exact hK
 case body=>
  rintro l pre x W ⟨⟨hc,hf⟩,hB⟩ _
  gi_wp2
  exact⟨(KeepsOthers.setCell _ _ _).from _,⟨(Below.refl w.heap.size W).setCell (p:=⟨w.heap.size,0,none⟩) (O1 _) _,fun e=>(World.cell?_setCell_other _ _ _ _ (by intro h;simp only[Addr.mk.injEq]at h;omega)).trans e⟩,
   ⟨by rw[touW_snoc];exact World.cell?_setCell_same' _ _ _ (by rw[hc];rfl),by rw[World.frozen?_setCell];exact hf⟩,hB.setCell (p:=⟨w.heap.size,0,none⟩) (O1 _) _⟩
 case done=>
  rintro D ys W hD rfl ⟨⟨hc,_⟩,hB⟩ hK
  gi_wp2
  refine⟨by simp,.inl ⟨_,_,rfl,run_takeDeferred hK,?_⟩⟩;exact⟨_,results_tmp rfl _ _ _,rfl,hB.trans (belowK_b (w:=w) (O1 _) W D _ _ (by simp at hD;omega) hK rfl rfl)⟩
 case stop=>
  rintro D c pre W _ _ h _;exact h.elim
theorem tou_step {s x:Nat}(hs:s<BB)(hx:x<BB):touStep (s:Int) (x:Int)=((s*BB+x:Nat):Int):=by
 have h:bitsOp .or .u64 ((s:Int)*4294967296) (x:Int)=((s*BB+x:Nat):Int):=by
  rw[show ((s:Int)*4294967296)=((s*4294967296:Nat):Int) by omega];unfold BB at*
  have e:=Nat.two_pow_add_eq_or_of_lt (i:=32) (b:=x) (by omega) s;rw[bits_or64 (by omega) (by omega)];have e2:s*4294967296=2^32*s:=O6 _ _;rw[e2,←e]
 unfold touStep;rw[Q5 _ (by unfold BB at*;omega),Q5 _ (by unfold BB at*;omega)];exact h
theorem touW_limbs {n:Nat}(hn:n<2^64):touW (upB (limbs n) (nl n) (nl n))=n:=by
 have h2:nl n≤2:=nl_le_of_lt (by unfold BB;omega);have hr:=InR.limbs n;have hv:=val_limbs n;unfold nl at*
 generalize limbs n=l at*
 match l,h2 with
 |[],_=>simp[val]at hv;subst hv;rfl
 |[x],_=>
  obtain⟨x0,x1⟩:=hr.head;obtain⟨a,rfl⟩:=Int.eq_ofNat_of_zero_le x0
  simp[val]at hv
  have e:touW (upB [(a:Int)] 1 1)=touStep ((0:Nat):Int) a:=rfl;show touW (upB [(a:Int)] 1 1)=_;rw[e,tou_step (by decide) (by unfold BB;omega)];omega
 |[x,y],_=>
  obtain⟨x0,x1⟩:=hr.head;obtain⟨a,rfl⟩:=Int.eq_ofNat_of_zero_le x0;obtain⟨y0,y1⟩:=hr.tail.head;obtain⟨b,rfl⟩:=Int.eq_ofNat_of_zero_le y0
  simp[val]at hv
  have e:touW (upB [(a:Int),(b:Int)] 2 2)=touStep (touStep ((0:Nat):Int) b) a:=rfl;show touW (upB [(a:Int),(b:Int)] 2 2)=_;rw[e,tou_step (by decide) (by unfold BB;omega),Nat.zero_mul,Nat.zero_add,tou_step (by unfold BB;omega) (by unfold BB;omega)];unfold BB at*
  omega
theorem itoUint_spec (n:Nat)(hn:n<2^64):Pr Tryz.prog 334 [.one (.ints .u32 (limbs n))] (.one (.int .u64 n)):=by
 refine⟨⟨_,Tryz.func334,by rfl,by rfl⟩,fun ok w vs hok hr=>?_⟩;obtain⟨vs⟩:=vs
 match vs,hr with
 |[v],hr=>
  obtain⟨⟨a,cap,rfl,hle,hc⟩,_⟩:=hr;have h2:(limbs n).length≤2:=nl_le_of_lt (by unfold BB;omega);have hI:WordsAt w.heap.size w (.slice a (limbs n).length cap) (limbs n):=by
   refine⟨a,cap,rfl,?_⟩
   rcases hc with hc|⟨g,o,ha,hg,hc⟩
   ·exact .inl hc
   exact .inr ⟨g,o,ha,hok g hg,fun j hj=>by rw[hc j hj,X7]⟩
  refine(callsIn_wide.1 (toUint_in Fence.wide 3 trivial trivial trivial rfl (by omega) a (limbs n).length cap (limbs n) (by omega) w hI)).mono ?_
  rintro e W' ⟨rfl,hB⟩;refine⟨_,rfl,hB,?_⟩;show Value.int .u64 (touW (upB (limbs n) (nl n) (nl n)))= .int .u64 n;rw[touW_limbs hn]
open Go Go.Proofs Go.Eng
theorem bitLen_bl (x:Nat)(h:x<2^64):Lib.bitLen x=bl x:=by
 induction x using Nat.strongRecOn with
 |_ x ih=>
  by_cases h0:x=0
  ·subst h0;rw[bl_zero];rfl
  rw[Lib.bitLen_half x h0 h,bl_pos (by omega),ih (x/2) (by omega) (by omega)]
theorem lz_spec (x:Nat)(hx:x<BB):Pr Tryz.prog 348 [.one (.int .u32 x)] (.one (.int .i64 (32-bl x:Nat))):=by
 refine⟨⟨_,Tryz.func348,by rfl,by rfl⟩,fun ok w vs hok hr=>?_⟩;obtain⟨vs⟩:=vs
 match vs,hr with
 |[v],hr=>
  obtain⟨hv,_⟩:=hr;have hv:v= .int .u32 x:=hv;subst hv;have h2:bl x≤32:=bl_le (by unfold BB at hx;omega)
  refine(Tryz.bits_LeadingZeros32 x w (by omega) (by unfold BB at hx;omega)).mono ?_
  rintro e W' ⟨rfl,rfl⟩;refine⟨_,rfl,Go.RowKit.Below.refl _ _,?_⟩;show Value.int .i64 (32-(Lib.bitLen (x:Int).toNat:Int))= .int .i64 ((32-bl x:Nat):Int);rw[Q1,bitLen_bl x (by unfold BB at hx;omega)]
  congr 1
  omega
end Go.Proofs.YtcdijplheindaaaGreat
set_option maxHeartbeats 2000000
namespace Go.Proofs.YtcdijplheindaaaGreat
open Go Go.Eng
theorem cmpI_neg {m n:Nat}(h:cmpI m n<0):m<n:=by
 unfold cmpI at h
 split at h
 ·omega
 split at h<;>omega
theorem cmpI_nneg {m n:Nat}(h:¬cmpI m n<0):n≤m:=by
 rcases Nat.lt_or_ge m n with h1|h1
 ·rw[cmpI_lt (by omega)]at h;omega
 exact h1
theorem idivide_spec (a b:Nat)(h0:0<b)(ha:nl a<2^43)(hb:nl b<2^43):Pr Tryz.prog 333 [.one (.ints .u32 (limbs a)),.one (.ints .u32 (limbs b))] (.tup [.one (.ints .u32 (limbs (a/b))),.one (.ints .u32 (limbs (a%b)))]):=by
 have hnb:=nl_pos.2 h0;refine pw Tryz.func333 ⟨[0,1,4,5,6,7,8,9,10,11,12,13,14,15,16,17,18,19,26,42,90,134,141,151],[(12,.nil),(17,.nil)]⟩ ?_;simp only[Tryz.f333,Tryz.ntmps333,iz,seval];simp only[vx,T,seval];refine Cg (icompare_spec a b (by omega) (by omega)) ?_;simp only[vx,T,seval];refine⟨fun h1=>Lg ?_,fun h1=>Lg ?_⟩
 ·simp only[vx,T,seval];refine Cg (cloneU_spec _ (by rw[limbs_length];omega)) ?_;simp only[vx,T,seval];have hlt:a<b:=cmpI_neg h1;refine Va ?_;simp only[vLe,vLeL,ry,seval,Nat.div_eq_of_lt hlt,O7 hlt,limbs_zero]
 have hle:b≤a:=cmpI_nneg h1;simp only[vx,T,seval];refine⟨fun h2=>Lg ?_,fun h2=>Lg ?_⟩
 ·simp only[vx,T,seval];have ha2:a<2^64:=by have:=nl_le_iff.1 (show nl a≤2 by omega);unfold BB at this;omega
  refine Cg (itoUint_spec a ha2) ?_;simp only[vx,T,seval];refine Cg (itoUint_spec b (by omega)) ?_;simp only[vx,T,seval];refine⟨by omega,?_⟩;have e1:IntKind.u64.wrap ((a:Int).tdiv b)=((a/b:Nat):Int):=by
   have e3:(a:Int).tdiv b=((a/b:Nat):Int):=rfl
   have:=Nat.div_le_self a b
   generalize a/b=q at*
   rw[e3,Q5 _ (by omega)]
  have e2:(a:Int).tmod b=((a%b:Nat):Int):=rfl;simp only[e1,e2];refine Cg (ifromUint_spec (a/b) (Nat.lt_of_le_of_lt (Nat.div_le_self a b) ha2)) ?_;simp only[vx,T,seval];refine⟨by omega,?_⟩;simp only[e2];refine Cg (ifromUint_spec (a%b) (Nat.lt_of_le_of_lt (Nat.mod_le a b) ha2)) ?_;simp only[vx,T,seval];refine Va ?_;simp only[vLe,vLeL,ry,seval]
 simp only[vx,T,seval];refine⟨fun h3=>Lg ?_,fun h3=>Lg ?_⟩
 ·have h3':nl b=1:=by omega
  have hb1:b<BB:=by have:=nl_le_iff.1 (show nl b≤1 by omega);simpa using this
  simp only[vx,T,seval]
  simp(disch:=omega) only[lG,←X2,←Q2,Q1,Q4,Q5,wrapBB,fdivBB,true_and,and_true,Nat.pow_zero,Nat.div_one,O7 hb1]
  refine⟨by omega,Cg (idivideWord_spec a b (by omega) h0 hb1) ?_⟩;simp only[vx,T,seval];refine Va ?_;simp only[vLe,vLeL,ry,seval]
 simp only[vx,T,seval];have e1:IntKind.i64.wrap ((nl b:Int)-1)=((nl b-1:Nat):Int):=by rw[Q4 _ (by omega)];omega
 have ht:=topW_mod h0;obtain⟨t1,t2⟩:=topW_lt h0;obtain⟨s1,s2,s3⟩:=shf_spec h0;have s4:=shf_nl h0
 simp(disch:=omega) only[lG,←X2,←Q2,Q1,Q4,Q5,wrapBB,fdivBB,true_and,and_true,e1,ht]
 refine⟨by omega,Cg (lz_spec (topW b) t2) ?_⟩;have eS:32-bl (topW b)=shf b:=rfl;rw[eS];simp only[vx,T,seval];refine CallK.fresh (ishiftLeft_spec a (shf b) (by omega) s1) ?_;simp only[vx,T,seval];refine CallK.fresh (ishiftLeft_spec b (shf b) (by omega) s1) ?_;simp only[vx,T,seval,dig_length];have hA2:2*(a*2^shf b)<BB^(nl a+1):=by
  have h5:=lt_of_nl a;have h6:2^shf b≤2^31:=O3 (by decide) (by omega);have h7:a*2^shf b≤a*2^31:=O9 _ h6;have h8:BB^(nl a+1)=BB^nl a*BB:=O4 _ _;have h9:a*(2*2^31)<BB^nl a*BB:=Nat.mul_lt_mul_of_lt_of_le h5 (by decide) (by decide);omega
 have hV2:val (dig (nl b+1) (b*2^shf b))=b*2^shf b:=val_dig_lt (Nat.lt_of_lt_of_le s2 (O3 (by decide) (by omega)));rw[List.take_of_length_le (by rw[dig_length];exact O1 _)];refine Cg (itrim_spec _ (dig_inr _ _) (by rw[dig_length];omega)) ?_;rw[hV2];have hN:Nrm (b*2^shf b) (nl (b*2^shf b)):=⟨rfl,by omega,by rw[s4];exact s3⟩;obtain⟨A,hA⟩:∃A,A=a*2^shf b:=⟨_,rfl⟩;obtain⟨V,hV⟩:∃V,V=b*2^shf b:=⟨_,rfl⟩;have hmono:nl b≤nl a:=nl_mono hle;rw[←hA]at hA2⊢;rw[←hV]at s4 hN⊢;clear hV2 s2 s3;simp only[vx,T,seval,dig_length];have e4:IntKind.i64.wrap (((nl a+1:Nat):Int)-(nl V:Nat))=((nl a+1-nl V:Nat):Int):=by rw[Q4 _ (by omega)];omega
 have e5:IntKind.i64.wrap ((nl V:Int)-1)=((nl V-1:Nat):Int):=by rw[Q4 _ (by omega)];omega
 have e6:IntKind.i64.wrap ((nl V:Int)-2)=((nl V-2:Nat):Int):=by rw[Q4 _ (by omega)];omega
 have w1:=hN.high;have w2:V/BB^(nl V-1)%BB=V/BB^(nl V-1):=O7 w1.2.1;have wN:V/BB^(nl V-2)%BB<BB:=modBB _;obtain⟨hi,hhi⟩:∃hi,hi=V/BB^(nl V-1):=⟨_,rfl⟩;obtain⟨nx,hnx⟩:∃nx,nx=V/BB^(nl V-2)%BB:=⟨_,rfl⟩;rw[←hhi]at w1 w2;rw[←hnx]at w1 wN;obtain⟨w3,w4,_⟩:=w1;have w5:IntKind.u64.wrap (hi:Int)=hi:=Q5 _ (by unfold BB at w4;omega);have w6:IntKind.u64.wrap (nx:Int)=nx:=Q5 _ (by unfold BB at wN;omega)
 simp(disch:=omega) only[lG,←X2,←Q2,Q1,Q4,Q5,wrapBB,fdivBB,true_and,and_true,e4,e5,e6,←hhi,←hnx,w2,w5,w6]
 refine⟨⟨by omega,by omega,by omega,by omega⟩,⟨by omega,by omega⟩,⟨by omega,by omega⟩,Lk (fun y:{y:Nat×List Int×List Int//DvInv A V (nl a+1) y.1 y.2.1 y.2.2∧y.2.2.length=nl a+1-nl V}=>⟨[(8,.one (.int .i64 (shf b))),(9,.one (.own 1 1 0 (nl a+1))),(10,.one (.ints .u32 (limbs V))),(11,.one (.int .i64 (nl V))),(12,.one (.own 2 1 0 (nl a+1-nl V))),(13,.one (.int .u64 hi)),(14,.one (.int .u64 nx)),(15,.one (.int .i64 ((y.1.1:Int)-1)))],[(1,⟨.ints 187 .u32 y.1.2.1,true⟩),(2,⟨.ints 187 .u32 y.1.2.2,true⟩)],3,177⟩) (fun y=>y.1.1) ⟨(nl a+1-nl V,_,List.replicate (nl a+1-nl V) 0),DvInv.init hN (by omega) hA2 (by omega),by simp⟩ ?_ (fun⟨⟨j,us,qs⟩,hy,hql⟩=>?_)⟩
 ·refine Sa ?_;simp only[ry,seval,rz];rfl
 simp only at hy hql;simp only[vx,T,seval];refine⟨fun h6=>Lg ?_,fun h6=>Lg ?_⟩
 ·obtain⟨i,rfl⟩:∃i,j=i+1:=⟨j-1,by omega⟩;have hAt:=hy.at;obtain⟨d0,d1,d2,d3⟩:=hAt.words;have hul:=hy.ulen;have hus0:val us<BB^(i+nl V+1):=by
   refine Nat.lt_of_lt_of_le hAt.lt ?_
   have:=O8 (BB^(i+1)) (Nat.le_of_lt hAt.nrm.lt)
   rw[←Nat.pow_add,show nl V+(i+1)=i+nl V+1 by omega]at this;exact this
  have hjl:=hy.le;have g0:us.getD (i+nl V-2) 0=((q3 (nl V) i (val us)%BB:Nat):Int):=by rw[getD_val hy.uin,d0]
  have g1:us.getD (i+nl V-1) 0=((q3 (nl V) i (val us)/BB%BB:Nat):Int):=by rw[getD_val hy.uin,d1]
  have g2:us.getD (i+nl V) 0=((q3 (nl V) i (val us)/BB/BB:Nat):Int):=by rw[getD_val hy.uin,d2]
  have dg0:=Dg.init hAt;obtain⟨tp,htp⟩:∃tp,tp=q3 (nl V) i (val us)/BB:=⟨_,rfl⟩;rw[←htp]at g1 g2 d1 d2 d3 dg0;have d4:tp/BB<BB:=by rw[Nat.div_lt_iff_lt_mul (by decide)];exact d3
  have d5:=or_low64 d4 (modBB tp);rw[show tp/BB*BB+tp%BB=tp by rw[O6];exact Nat.div_add_mod tp BB]at d5;have d6:IntKind.u64.wrap (((tp/BB:Nat):Int)*4294967296)=((tp/BB:Nat):Int)*4294967296:=by
   generalize tp/BB=q at d4⊢
   exact Q5 _ (by unfold BB at d4;omega)
  have d7:IntKind.u64.wrap ((tp:Int).tdiv hi)=((tp/hi:Nat):Int):=by
   have e3:(tp:Int).tdiv hi=((tp/hi:Nat):Int):=rfl
   have:=Nat.div_le_self tp hi
   generalize tp/hi=q at*
   rw[e3,Q5 _ (by unfold BB at d3;omega)]
  have d8:(tp:Int).tmod hi=((tp%hi:Nat):Int):=rfl;have d9:IntKind.u64.wrap ((tp/BB:Nat):Int)=((tp/BB:Nat):Int):=by
   generalize tp/BB=q at d4⊢
   exact Q5 _ (by unfold BB at d4;omega)
  have d10:IntKind.u64.wrap ((tp%BB:Nat):Int)=((tp%BB:Nat):Int):=by
   have:=modBB tp
   generalize tp%BB=q at this⊢
   exact Q5 _ (by omega)
  have x0:((i+1:Nat):Int)-1=(i:Int):=by omega
  have x1:IntKind.i64.wrap (((i+nl V:Nat):Int)-1)=((i+nl V-1:Nat):Int):=by rw[Q4 _ (by omega)];omega
  have x2:IntKind.i64.wrap (((i+nl V:Nat):Int)-2)=((i+nl V-2:Nat):Int):=by rw[Q4 _ (by omega)];omega
  have x3:IntKind.i64.wrap ((i:Int)+(nl V:Nat))=((i+nl V:Nat):Int):=by rw[←X2,Q4 _ (by omega)]
  have x4:¬(hi:Int)=0:=by unfold BB at w3;omega
  rw[x0];simp only[vx,T,seval]
  simp(disch:=omega) only[lG,←X2,←Q2,Q1,Q4,Q5,wrapBB,fdivBB,true_and,and_true,x1,x2,x3,g0,g1,g2,d9,d10,d5,d6,d7,d8]
  refine⟨⟨by omega,by omega⟩,⟨by omega,by omega⟩,x4,x4,Lk (fun y:{y:Nat×Nat//Dg V (nl V) i (val us) y.1 y.2}=>⟨[(8,.one (.int .i64 (shf b))),(9,.one (.own 1 1 0 (nl a+1))),(10,.one (.ints .u32 (limbs V))),(11,.one (.int .i64 (nl V))),(12,.one (.own 2 1 0 (nl a+1-nl V))),(13,.one (.int .u64 hi)),(14,.one (.int .u64 nx)),(15,.one (.int .i64 i)),(17,.one (.int .u64 y.1.1)),(18,.one (.int .u64 y.1.2))],[(1,⟨.ints 187 .u32 us,true⟩),(2,⟨.ints 187 .u32 qs,true⟩)],3,177⟩) (fun y=>y.1.1) ⟨(tp/hi,tp%hi),by rw[hhi];exact dg0⟩ ?_ (fun⟨⟨D,rest⟩,hD⟩=>?_)⟩
  ·refine Sa ?_;simp only[ry,seval,rz]
  simp only at hD;have hDl:=hD.lt;have hDr:=hD.rest;have hDt:=hD.top;rw[←htp,←hhi]at hDt;have hqb:=modBB (q3 (nl V) i (val us));simp only[vx,T,seval];refine⟨fun c1=>Lg ?_,fun c1=>Lg ?_⟩
  ·have c2:BB≤D:=by unfold BB;omega
   obtain⟨n1,n2,n3⟩:=hD.next hAt (.inl c2);rw[←htp,←hhi]at n2;simp only[vx,T,seval];have m1:IntKind.u64.wrap ((D:Int)-1)=((D-1:Nat):Int):=by rw[Q5 _ (by unfold BB at hDl;omega)];omega
   have m2:IntKind.u64.wrap ((rest+hi:Nat):Int)=((rest+hi:Nat):Int):=Q5 _ (by unfold BB at hDr w4;omega)
   simp(disch:=omega) only[lG,←X2,←Q2,Q1,Q4,Q5,wrapBB,fdivBB,true_and,and_true,m1,m2]
   refine⟨fun c4=>Lg ?_,fun c4=>Lg ?_⟩
   ·obtain⟨f1,f2,f3⟩:=Dg.fin (D:=D-1) (rest:=rest+hi) hAt (by rw[←htp,←hhi];exact n2) n3 (.inr (by unfold BB;omega))
    generalize D-1=E at f1 f2 f3⊢
    simp only[vx,T,seval];have p1:IntKind.i64.wrap (((i+nl V:Nat):Int)+1)=((i+nl V+1:Nat):Int):=by rw[Q4 _ (by omega)];omega
    have p2:(((i+nl V+1:Nat):Int)-(i:Int)).toNat=nl V+1:=by omega
    simp(disch:=omega) only[lG,←X2,←Q2,Q1,Q4,Q5,wrapBB,fdivBB,true_and,and_true,x3,p1,p2]
    refine⟨⟨by omega,by omega,by omega⟩,Cm 1 rfl trivial (isubtract_spec us i V E hy.uin (by omega) (by omega) f1) ?_⟩;rintro r B' ⟨t,zs,rfl,rfl,hzl,hzi,hzu,hzv⟩ _;have hzd:val zs<BB^(i+nl V+1):=drop_val hzi (by rw[hzu,val_drop hy.uin,Nat.div_eq_of_lt hus0]);simp only[vx,T,seval];refine⟨fun ht=>Lg ?_,fun ht=>Lg ?_⟩
    ·subst ht;have m1:IntKind.u64.wrap ((E:Int)-1)=((E-1:Nat):Int):=by
      have:0<E:=by
       rcases Nat.eq_zero_or_pos E with hE0|hE0
       ·subst hE0;simp only[Nat.zero_mul,Nat.mul_zero,Nat.add_zero,if_true,Nat.mul_one]at hzv;omega
       exact hE0
      rw[Q5 _ (by unfold BB at f1;omega)];omega
     simp only[vx,T,seval]
     simp(disch:=omega) only[lG,←X2,←Q2,Q1,Q4,Q5,wrapBB,fdivBB,true_and,and_true,x3,p1,p2,m1]
     refine⟨⟨by omega,by omega,by omega⟩,Cm 1 rfl trivial (irestore_spec zs i V hzi (by omega) (by omega)) ?_⟩;rintro r B' ⟨rfl,zs2,k,rfl,hl2,hi2,hu2,hv2⟩ _;simp only[if_true,Nat.mul_one]at hzv;obtain⟨k1,k2⟩:=hAt.sub_yes f3 f2 hzd (drop_val hi2 (by rw[hu2,hzu,val_drop hy.uin,Nat.div_eq_of_lt hus0])) hzv hv2;have k3:E-1=val us/BB^i/V:=by rw[k1];rfl
     have k4:IntKind.u32.wrap ((E-1:Nat):Int)=((val us/BB^i/V:Nat):Int):=by
      rw[k3]
      have:=hy.q
      generalize val us/BB^i/V=q at this⊢
      exact IntWalk.u32_in _ (by unfold BB at this;omega)
     simp only[vx,T,seval]
     simp(disch:=omega) only[lG,←X2,←Q2,Q1,Q4,Q5,wrapBB,fdivBB,true_and,and_true,k4]
     refine⟨by omega,Lq ⟨(i,zs2,_),hy.step (by rw[hl2,hzl]) hi2 k2,by simp only[List.length_set];exact hql⟩ ?_ ?_⟩
     ·refine Sa ?_;simp only[ry,seval,rz]
     simp only;omega
    subst ht;simp only[Bool.false_eq_true,if_false,Nat.mul_zero,Nat.add_zero]at hzv;obtain⟨k1,k2⟩:=hAt.sub_no f2 hzv;have k4:IntKind.u32.wrap (E:Int)=((val us/BB^i/V:Nat):Int):=by
     rw[←k1];exact IntWalk.u32_in _ (by unfold BB at f1;omega)
    simp only[vx,T,seval]
    simp(disch:=omega) only[lG,←X2,←Q2,Q1,Q4,Q5,wrapBB,fdivBB,true_and,and_true,k4]
    refine⟨by omega,Lq ⟨(i,zs,_),hy.step hzl hzi k2,by simp only[List.length_set];exact hql⟩ ?_ ?_⟩
    ·refine Sa ?_;simp only[ry,seval,rz]
    simp only;omega
   simp only[vx,T,seval];refine Lq ⟨(D-1,rest+hi),⟨by rw[←htp,←hhi];exact n2,n3,by simp only;unfold BB;omega,by simp only;omega⟩⟩ ?_ ?_
   ·refine Sa ?_;simp only[ry,seval,rz]
   simp only;omega
  have c2:D<BB:=by unfold BB;omega
  simp only[vx,T,seval];have z1:IntKind.u64.wrap ((D*nx:Nat):Int)=((D*nx:Nat):Int):=by
   have:D*nx≤4294967295*4294967295:=Nat.mul_le_mul (by unfold BB at c2;omega) (by unfold BB at wN;omega)
   exact Q5 _ (by omega)
  have z2:IntKind.u64.wrap ((rest:Int)*4294967296)=(rest:Int)*4294967296:=Q5 _ (by unfold BB at hDr;omega);have z3:=or_low64 hDr hqb;have z4:IntKind.u64.wrap ((q3 (nl V) i (val us)%BB:Nat):Int)=((q3 (nl V) i (val us)%BB:Nat):Int):=by
   generalize q3 (nl V) i (val us)%BB=q at hqb⊢
   exact Q5 _ (by omega)
  simp(disch:=omega) only[lG,←X2,←Q2,Q1,Q4,Q5,wrapBB,fdivBB,true_and,and_true,x1,x2,x3,g0,z1,z2,z4,z3]
  refine⟨⟨by omega,by omega⟩,?_⟩;refine⟨fun c3=>Lg ?_,fun c3=>Lg ?_⟩
  ·obtain⟨n1,n2,n3⟩:=hD.next hAt (.inr (by rw[←hnx];omega));rw[←htp,←hhi]at n2;simp only[vx,T,seval];have m1:IntKind.u64.wrap ((D:Int)-1)=((D-1:Nat):Int):=by rw[Q5 _ (by unfold BB at hDl;omega)];omega
   have m2:IntKind.u64.wrap ((rest+hi:Nat):Int)=((rest+hi:Nat):Int):=Q5 _ (by unfold BB at hDr w4;omega)
   simp(disch:=omega) only[lG,←X2,←Q2,Q1,Q4,Q5,wrapBB,fdivBB,true_and,and_true,m1,m2]
   refine⟨fun c4=>Lg ?_,fun c4=>Lg ?_⟩
   ·obtain⟨f1,f2,f3⟩:=Dg.fin (D:=D-1) (rest:=rest+hi) hAt (by rw[←htp,←hhi];exact n2) n3 (.inr (by unfold BB;omega))
    generalize D-1=E at f1 f2 f3⊢
    simp only[vx,T,seval];have p1:IntKind.i64.wrap (((i+nl V:Nat):Int)+1)=((i+nl V+1:Nat):Int):=by rw[Q4 _ (by omega)];omega
    have p2:(((i+nl V+1:Nat):Int)-(i:Int)).toNat=nl V+1:=by omega
    simp(disch:=omega) only[lG,←X2,←Q2,Q1,Q4,Q5,wrapBB,fdivBB,true_and,and_true,x3,p1,p2]
    refine⟨⟨by omega,by omega,by omega⟩,Cm 1 rfl trivial (isubtract_spec us i V E hy.uin (by omega) (by omega) f1) ?_⟩;rintro r B' ⟨t,zs,rfl,rfl,hzl,hzi,hzu,hzv⟩ _;have hzd:val zs<BB^(i+nl V+1):=drop_val hzi (by rw[hzu,val_drop hy.uin,Nat.div_eq_of_lt hus0]);simp only[vx,T,seval];refine⟨fun ht=>Lg ?_,fun ht=>Lg ?_⟩
    ·subst ht;have m1:IntKind.u64.wrap ((E:Int)-1)=((E-1:Nat):Int):=by
      have:0<E:=by
       rcases Nat.eq_zero_or_pos E with hE0|hE0
       ·subst hE0;simp only[Nat.zero_mul,Nat.mul_zero,Nat.add_zero,if_true,Nat.mul_one]at hzv;omega
       exact hE0
      rw[Q5 _ (by unfold BB at f1;omega)];omega
     simp only[vx,T,seval]
     simp(disch:=omega) only[lG,←X2,←Q2,Q1,Q4,Q5,wrapBB,fdivBB,true_and,and_true,x3,p1,p2,m1]
     refine⟨⟨by omega,by omega,by omega⟩,Cm 1 rfl trivial (irestore_spec zs i V hzi (by omega) (by omega)) ?_⟩;rintro r B' ⟨rfl,zs2,k,rfl,hl2,hi2,hu2,hv2⟩ _;simp only[if_true,Nat.mul_one]at hzv;obtain⟨k1,k2⟩:=hAt.sub_yes f3 f2 hzd (drop_val hi2 (by rw[hu2,hzu,val_drop hy.uin,Nat.div_eq_of_lt hus0])) hzv hv2;have k3:E-1=val us/BB^i/V:=by rw[k1];rfl
     have k4:IntKind.u32.wrap ((E-1:Nat):Int)=((val us/BB^i/V:Nat):Int):=by
      rw[k3]
      have:=hy.q
      generalize val us/BB^i/V=q at this⊢
      exact IntWalk.u32_in _ (by unfold BB at this;omega)
     simp only[vx,T,seval]
     simp(disch:=omega) only[lG,←X2,←Q2,Q1,Q4,Q5,wrapBB,fdivBB,true_and,and_true,k4]
     refine⟨by omega,Lq ⟨(i,zs2,_),hy.step (by rw[hl2,hzl]) hi2 k2,by simp only[List.length_set];exact hql⟩ ?_ ?_⟩
     ·refine Sa ?_;simp only[ry,seval,rz]
     simp only;omega
    subst ht;simp only[Bool.false_eq_true,if_false,Nat.mul_zero,Nat.add_zero]at hzv;obtain⟨k1,k2⟩:=hAt.sub_no f2 hzv;have k4:IntKind.u32.wrap (E:Int)=((val us/BB^i/V:Nat):Int):=by
     rw[←k1];exact IntWalk.u32_in _ (by unfold BB at f1;omega)
    simp only[vx,T,seval]
    simp(disch:=omega) only[lG,←X2,←Q2,Q1,Q4,Q5,wrapBB,fdivBB,true_and,and_true,k4]
    refine⟨by omega,Lq ⟨(i,zs,_),hy.step hzl hzi k2,by simp only[List.length_set];exact hql⟩ ?_ ?_⟩
    ·refine Sa ?_;simp only[ry,seval,rz]
    simp only;omega
   simp only[vx,T,seval];refine Lq ⟨(D-1,rest+hi),⟨by rw[←htp,←hhi];exact n2,n3,by simp only;unfold BB;omega,by simp only;omega⟩⟩ ?_ ?_
   ·refine Sa ?_;simp only[ry,seval,rz]
   simp only;omega
  obtain⟨f1,f2,f3⟩:=Dg.fin hAt hD.top hD.ge (.inl ⟨c2,by rw[←hnx];omega⟩);obtain⟨E,hE⟩:∃E,E=D:=⟨D,rfl⟩;rw[←hE]at f1 f2 f3⊢;simp only[vx,T,seval];have p1:IntKind.i64.wrap (((i+nl V:Nat):Int)+1)=((i+nl V+1:Nat):Int):=by rw[Q4 _ (by omega)];omega
  have p2:(((i+nl V+1:Nat):Int)-(i:Int)).toNat=nl V+1:=by omega
  simp(disch:=omega) only[lG,←X2,←Q2,Q1,Q4,Q5,wrapBB,fdivBB,true_and,and_true,x3,p1,p2]
  refine⟨⟨by omega,by omega,by omega⟩,Cm 1 rfl trivial (isubtract_spec us i V E hy.uin (by omega) (by omega) f1) ?_⟩;rintro r B' ⟨t,zs,rfl,rfl,hzl,hzi,hzu,hzv⟩ _;have hzd:val zs<BB^(i+nl V+1):=drop_val hzi (by rw[hzu,val_drop hy.uin,Nat.div_eq_of_lt hus0]);simp only[vx,T,seval];refine⟨fun ht=>Lg ?_,fun ht=>Lg ?_⟩
  ·subst ht;have m1:IntKind.u64.wrap ((E:Int)-1)=((E-1:Nat):Int):=by
    have:0<E:=by
     rcases Nat.eq_zero_or_pos E with hE0|hE0
     ·subst hE0;simp only[Nat.zero_mul,Nat.mul_zero,Nat.add_zero,if_true,Nat.mul_one]at hzv;omega
     exact hE0
    rw[Q5 _ (by unfold BB at f1;omega)];omega
   simp only[vx,T,seval]
   simp(disch:=omega) only[lG,←X2,←Q2,Q1,Q4,Q5,wrapBB,fdivBB,true_and,and_true,x3,p1,p2,m1]
   refine⟨⟨by omega,by omega,by omega⟩,Cm 1 rfl trivial (irestore_spec zs i V hzi (by omega) (by omega)) ?_⟩;rintro r B' ⟨rfl,zs2,k,rfl,hl2,hi2,hu2,hv2⟩ _;simp only[if_true,Nat.mul_one]at hzv;obtain⟨k1,k2⟩:=hAt.sub_yes f3 f2 hzd (drop_val hi2 (by rw[hu2,hzu,val_drop hy.uin,Nat.div_eq_of_lt hus0])) hzv hv2;have k3:E-1=val us/BB^i/V:=by rw[k1];rfl
   have k4:IntKind.u32.wrap ((E-1:Nat):Int)=((val us/BB^i/V:Nat):Int):=by
    rw[k3]
    have:=hy.q
    generalize val us/BB^i/V=q at this⊢
    exact IntWalk.u32_in _ (by unfold BB at this;omega)
   simp only[vx,T,seval]
   simp(disch:=omega) only[lG,←X2,←Q2,Q1,Q4,Q5,wrapBB,fdivBB,true_and,and_true,k4]
   refine⟨by omega,Lq ⟨(i,zs2,_),hy.step (by rw[hl2,hzl]) hi2 k2,by simp only[List.length_set];exact hql⟩ ?_ ?_⟩
   ·refine Sa ?_;simp only[ry,seval,rz]
   simp only;omega
  subst ht;simp only[Bool.false_eq_true,if_false,Nat.mul_zero,Nat.add_zero]at hzv;obtain⟨k1,k2⟩:=hAt.sub_no f2 hzv;have k4:IntKind.u32.wrap (E:Int)=((val us/BB^i/V:Nat):Int):=by
   rw[←k1];exact IntWalk.u32_in _ (by unfold BB at f1;omega)
  simp only[vx,T,seval]
  simp(disch:=omega) only[lG,←X2,←Q2,Q1,Q4,Q5,wrapBB,fdivBB,true_and,and_true,k4]
  refine⟨by omega,Lq ⟨(i,zs,_),hy.step hzl hzi k2,by simp only[List.length_set];exact hql⟩ ?_ ?_⟩
  ·refine Sa ?_;simp only[ry,seval,rz]
  simp only;omega
 have hj0:j=0:=by omega
 subst hj0;rw[hA,hV]at hy;obtain⟨r1,r2,r3⟩:=hy.done h0;rw[←hV]at r3;have hul:=hy.ulen;have hqi:=hy.qin;have hui:=hy.uin;have hjl:=hy.le;simp only[←hV]at hjl;clear hy;simp only[vx,T,seval];rw[List.take_of_length_le (by omega)];refine Cg (itrim_spec qs hqi (by omega)) ?_;rw[r1];simp only[vx,T,seval];have r4:val (us.take (nl V))=val us:=by rw[val_take hui,O7 r3]
 have r5:nl (val us)<2^44:=Nat.lt_of_le_of_lt (nl_le_of_lt r3) (by omega);refine⟨by omega,Cg (itrim_spec _ (hui.take _) (by rw[X5];omega)) ?_⟩;rw[r4];simp only[vx,T,seval];refine Cg (ishiftRight_spec (val us) (shf b) r5 s1).ints ?_;simp only[vx,T,seval];have r6:val (dig (nl (val us)) (val us/2^shf b))=a%b:=by
  rw[val_dig_lt (Nat.lt_of_le_of_lt (Nat.div_le_self _ _) (lt_of_nl _)),r2,Nat.mul_div_cancel _ (Nat.pow_pos (by decide))]
 refine Cg (itrim_spec _ (dig_inr _ _) (by rw[dig_length];omega)) ?_;rw[r6];simp only[vx,T,seval];refine Va ?_;simp only[vLe,vLeL,ry,seval]
end Go.Proofs.YtcdijplheindaaaGreat
set_option maxHeartbeats 2000000
namespace Go.Proofs.YtcdijplheindaaaGreat
open Go Go.Eng
theorem dig_get {b lb:Nat}(h:b<BB^lb)(i:Nat):(dig lb b).getD i 0=((b/BB^i%BB:Nat):Int):=by
 rw[getD_val (dig_inr _ _),val_dig,O7 h]
theorem take_dig (lb b:Nat):(dig lb b).take lb=dig lb b:=List.take_of_length_le (by rw[dig_length];exact O1 _)
structure MulOutD (a b lb i:Nat) (os:List Int):Prop where
 le:i≤nl a
 len:os.length=nl a+lb
 inr:InR os
 zero:∀j,i+lb≤j→os.getD j 0=0
 eq:val os=(a%BB^i)*b
structure MulInD (a b lb i k:Nat) (os:List Int) (c:Nat):Prop where
 le:k≤lb
 len:os.length=nl a+lb
 inr:InR os
 zero:∀j,i+lb≤j→os.getD j 0=0
 eq:val os+BB^(i+k)*c=(a%BB^i)*b+BB^i*((a/BB^i%BB)*(b%BB^k))
 c:c<BB
theorem MulOutD.init (a b lb:Nat):MulOutD a b lb 0 (List.replicate (nl a+lb) 0):=
 ⟨O2 _,by simp,InR.replicate _,fun j _=>by simp[X7,List.getElem?_replicate];split<;>rfl,by rw[val_replicate];simp[Nat.mod_one]⟩
theorem MulOutD.start {a b lb i:Nat}{os:List Int}(h:MulOutD a b lb i os):MulInD a b lb i 0 os 0:=
 ⟨O2 _,h.len,h.inr,h.zero,by rw[h.eq];simp[Nat.mod_one],by decide⟩
theorem MulInD.put {a b lb i k:Nat}{os:List Int}{c o s:Nat}(h:MulInD a b lb i k os c)(hi:i<nl a)(hk:k<lb)(ho:os.getD (i+k) 0=(o:Int))(hs:s=(a/BB^i%BB)*(b/BB^k%BB)+o+c):
  MulInD a b lb i (k+1) (os.set (i+k) ((s%BB:Nat):Int)) (s/BB):=by
 have hl:i+k<os.length:=by rw[h.len];omega
 have hx:=modBB (a/BB^i);have hy:=modBB (b/BB^k);have ho2:o<BB:=by have:=h.inr.getD (i+k);rw[ho]at this;unfold BB;omega
 refine⟨hk,by rw[List.length_set];exact h.len,h.inr.set _ ⟨by omega,by have:=modBB s;omega⟩,fun j hj=>?_,?_,?_⟩
 ·rw[getD_set_ne (by omega)];exact h.zero j hj
 ·have e:=val_set (xs:=os) (x:=((s%BB:Nat):Int)) hl;rw[ho]at e;simp only[Q1]at e;have h1:=h.eq;have e2:BB^(i+(k+1))*(s/BB)+BB^(i+k)*(s%BB)=BB^(i+k)*s:=by
   rw[←Nat.add_assoc,O4,Nat.mul_assoc,←Nat.mul_add,Nat.div_add_mod]
  have e3:BB^(i+k)*s=BB^i*((a/BB^i%BB)*(BB^k*(b/BB^k%BB)))+BB^(i+k)*o+BB^(i+k)*c:=by
   rw[hs,Nat.mul_add,Nat.mul_add,Nat.pow_add]
   congr 2
   simp only[O6,Nat.mul_left_comm]
  rw[mod_next b k,Nat.mul_add,Nat.mul_add];omega
 have hp:(a/BB^i%BB)*(b/BB^k%BB)≤4294967295*4294967295:=Nat.mul_le_mul (by omega) (by omega);have h3:=h.c;rw[Nat.div_lt_iff_lt_mul (by decide)];unfold BB at*
 omega
theorem MulInD.next {a b lb i:Nat}{os:List Int}{c:Nat}(hb':b<BB^lb)(h:MulInD a b lb i (lb) os c)(hi:i<nl a):MulOutD a b lb (i+1) (os.set (i+lb) ((c%BB:Nat):Int)):=by
 have hl:i+lb<os.length:=by rw[h.len];omega
 have hc:c%BB=c:=O7 h.c;refine⟨hi,by rw[List.length_set];exact h.len,h.inr.set _ ⟨by omega,by have:=modBB c;omega⟩,fun j hj=>?_,?_⟩
 ·rw[getD_set_ne (by omega)];exact h.zero j (by omega)
 have e:=val_set (xs:=os) (x:=((c%BB:Nat):Int)) hl;rw[h.zero _ (O1 _),hc]at e;simp only[Q1,Int.toNat_zero,Nat.mul_zero,Nat.add_zero]at e;rw[hc,e,h.eq,O7 hb',mod_next a,Nat.add_mul,Nat.mul_assoc]
theorem MulOutD.done {a b lb:Nat}{os:List Int}(h:MulOutD a b lb (nl a) os):val os=a*b:=by
 rw[h.eq,mod_all (O1 _)]
theorem rtimesD_spec (a b lb:Nat)(ha:nl a<2^44)(hb:lb<2^44)(hb':b<BB^lb):Pr Tryz.prog 339 [.one (.ints .u32 (limbs a)),.one (.ints .u32 (dig lb b))] (.one (.ints .u32 (limbs (a*b)))):=by
 refine pw Tryz.func339 ⟨[0,1,4,5,6,7,8,18,24],[]⟩ ?_;simp only[Tryz.f339,Tryz.ntmps339,iz,seval];simp only[vx,T,seval,dig_length,take_dig]
 simp(disch:=omega) only[lG,←X2,←Q2,Q1,Q4,Q5,wrapBB,fdivBB,true_and,and_true,dig_get hb']
 refine⟨⟨by omega,by omega,by omega,by omega⟩,Lk (fun i:{i:Nat×List Int//MulOutD a b lb i.1 i.2}=>⟨[(0,.one (.ints .u32 (limbs a))),(1,.one (.ints .u32 (dig lb b))),(5,.one (.own 1 1 0 (nl a+lb))),(6,.one (.int .i64 i.1.1))],[(1,⟨.ints 187 .u32 i.1.2,true⟩)],3,67⟩) (fun i=>nl a-i.1.1) ⟨(0,List.replicate (nl a+lb) 0),MulOutD.init a b lb⟩ ?_ (fun⟨⟨i,os⟩,hi⟩=>?_)⟩
 ·refine Sa ?_;simp only[ry,seval,rz,take_dig]
 have h1:=hi.le;have h2:=hi.len;simp only at h1 h2;simp only[vx,T,seval,dig_length,take_dig];refine⟨fun h=>Lg ?_,fun h=>Lg ?_⟩
 ·simp only[vx,T,seval,dig_length,take_dig];have hx:=modBB (a/BB^i);refine Lk (fun k:{k:Nat×List Int×Nat//MulInD a b lb i k.1 k.2.1 k.2.2}=>⟨[(0,.one (.ints .u32 (limbs a))),(1,.one (.ints .u32 (dig lb b))),(5,.one (.own 1 1 0 (nl a+lb))),(6,.one (.int .i64 i)),(7,.one (.int .u64 k.1.2.2)),(8,.one (.int .i64 k.1.1))],[(1,⟨.ints 187 .u32 k.1.2.1,true⟩)],3,67⟩) (fun k=>lb-k.1.1) ⟨(0,os,0),hi.start⟩ ?_ (fun⟨⟨k,os',c⟩,hk⟩=>?_)
  ·refine Sa ?_;simp only[ry,seval,rz,lG,take_dig]
  have h3:=hk.le;have h4:=hk.len;have h5:=hk.c;have h5:c<4294967296:=h5;have hz:=hk.inr.getD (i+k);simp only at h3 h4 hz;obtain⟨o,ho⟩:=Int.eq_ofNat_of_zero_le hz.1;rw[ho]at hz;simp only[vx,T,seval,dig_length,take_dig];refine⟨fun h'=>Lg ?_,fun h'=>Lg ?_⟩
  ·simp only[vx,T,seval,dig_length,take_dig];have hy:=modBB (b/BB^k);have hp:(a/BB^i%BB)*(b/BB^k%BB)≤4294967295*4294967295:=Nat.mul_le_mul (by omega) (by omega)
   simp(disch:=omega) only[lG,←X2,←Q2,Q1,Q4,Q5,wrapBB,fdivBB,true_and,and_true,ho,dig_get hb']
   refine⟨by omega,by omega,by omega,by omega,Lq ⟨(k+1,_,_),hk.put (s:=c+o+(a/BB^i%BB)*(b/BB^k%BB)) (by omega) (by omega) ho (by simp only;omega)⟩ ?_ ?_⟩
   ·refine Sa ?_;simp only[ry,seval,rz,take_dig]
   simp only;omega
  simp only[vx,T,seval,dig_length,take_dig];have hkb:k=lb:=by omega
  subst hkb
  simp(disch:=omega) only[lG,←X2,←Q2,Q1,Q4,Q5,wrapBB,fdivBB,true_and,and_true,dig_get hb']
  refine⟨by omega,Lq ⟨(i+1,_),MulInD.next hb' hk (by omega)⟩ ?_ ?_⟩
  ·refine Sa ?_;simp only[ry,seval,rz,take_dig]
  simp only;omega
 simp only[vx,T,seval,dig_length,take_dig];have hia:i=nl a:=by omega
 subst hia;have hr:=hi.inr;have hv:=hi.done;simp only at hr hv;rw[List.take_of_length_le (by omega)];refine Cg (rtrim_spec _ hr (by omega)) ?_;rw[hv];simp only[vx,T,seval,dig_length,take_dig];refine Va ?_;simp only[vLe,vLeL,ry,seval]
end Go.Proofs.YtcdijplheindaaaGreat
set_option maxHeartbeats 2000000
namespace Go.Proofs.YtcdijplheindaaaGreat
open Go Go.Eng
theorem view_inr {xs:List Int}(h:InR xs)(off l:Nat):InR ((xs.drop off).take l):=(h.drop off).take l
theorem view_get {xs:List Int}{off l i:Nat}(h:i<l):((xs.drop off).take l).getD i 0=xs.getD (off+i) 0:=by
 rw[X7,X7,List.getElem?_take,if_pos h,List.getElem?_drop]
theorem view_len {xs:List Int}{off l:Nat}(h:off+l≤xs.length):((xs.drop off).take l).length=l:=by
 rw[X5,List.length_drop];omega
theorem view_take {xs:List Int}{off l k:Nat}(h:k≤l):((xs.drop off).take l).take k=(xs.drop off).take k:=by
 rw[List.take_take,Nat.min_eq_left h]
theorem view_limbs {xs:List Int}{off l:Nat}(hx:InR xs)(h:off+l≤xs.length):nl (val ((xs.drop off).take l))≤l∧(xs.drop off).take (nl (val ((xs.drop off).take l)))=limbs (val ((xs.drop off).take l)):=by
 have hr:=view_inr hx off l;have hl:=view_len h;have h1:nl (val ((xs.drop off).take l))≤l:=by
  refine nl_le_of_lt ?_
  have:=val_lt hr
  rw[hl]at this;exact this
 refine⟨h1,?_⟩;have h2:=val_take hr (nl (val ((xs.drop off).take l)));rw[view_take h1,O7 (lt_of_nl _)]at h2;have h3:=dig_of (view_inr hx off (nl (val ((xs.drop off).take l)))) (view_len (by omega)) h2;rw[dig_full]at h3;exact h3
theorem rtrimM_spec (xs:List Int)(off len:Nat)(hx:InR xs)(hl:off+len≤xs.length)(hlen:xs.length<2^45):Mc Tryz.prog 165 [.one (.own 0 1 off len)] (.ints 187 .u32 xs) (fun r B'=>r= .one (.own 0 1 off (nl (val ((xs.drop off).take len))))∧B'= .ints 187 .u32 xs):=by
 refine mw Tryz.func165 ⟨[0,2,14],[]⟩ ?_;simp only[Tryz.f165,Tryz.ntmps165,iz,seval];simp only[vx,T,seval];refine Lk (fun l:{l:Nat//l≤len∧val ((xs.drop off).take l)=val ((xs.drop off).take len)}=>⟨[(0,.one (.own 0 1 off l.1))],[(0,⟨.ints 187 .u32 xs,true⟩)],3,21⟩) (fun l=>l.1) ⟨len,O1 _,rfl⟩ ?_ (fun⟨l,hl1,hl2⟩=>?_)
 ·refine Sa ?_;simp only[ry,seval,rz]
 have hv:=view_limbs (l:=len) hx hl;have hfin:(l=0∨xs.getD (off+(l-1)) 0≠0)→nl (val ((xs.drop off).take len))=l:=by
  intro hc;rw[←hl2];have h1:limbs (val ((xs.drop off).take l))=(xs.drop off).take l:=by
   refine limbs_val_last (view_inr hx off l) ?_
   rcases hc with hc|hc
   ·subst hc;exact .inl (List.take_zero)
   rcases Nat.eq_zero_or_pos l with h0|h0
   ·subst h0;exact .inl (List.take_zero)
   refine .inr ?_;rw[view_len (by omega),view_get (by omega)];exact hc
  unfold nl;rw[h1,view_len (by omega)]
 simp only[vx,T,seval];refine⟨fun h=>Lg ?_,fun h=>Lg ?_⟩
 ·simp only[vx,T,seval];have e1:IntKind.i64.wrap ((l:Int)-1)=((l-1:Nat):Int):=by rw[Q4 _ (by omega)];omega
  simp(disch:=omega) only[lG,←X2,←Q2,Q1,Q4,Q5,wrapBB,fdivBB,true_and,and_true,e1]
  refine⟨by omega,?_⟩;refine⟨fun h0=>Lg ?_,fun h0=>Lg ?_⟩
  ·simp only[vx,T,seval]
   simp(disch:=omega) only[lG,←X2,←Q2,Q1,Q4,Q5,wrapBB,fdivBB,true_and,and_true,e1]
   refine⟨by omega,Lq ⟨l-1,by omega,?_⟩ ?_ ?_⟩
   ·have e2:=val_trim (ys:=(xs.drop off).take l) (view_inr hx off l) (by rw[view_len (by omega)];omega) (by rw[view_len (by omega),view_get (by omega)];exact h0);rw[view_len (by omega),view_take (by omega)]at e2;rw[e2,hl2]
   ·refine Sa ?_;simp only[ry,seval,rz]
   simp only;omega
  simp only[vx,T,seval];rw[hfin (.inr h0)]
 simp only[vx,T,seval];rw[hfin (.inl (by omega))]
end Go.Proofs.YtcdijplheindaaaGreat
set_option maxHeartbeats 2000000
namespace Go.Proofs.YtcdijplheindaaaGreat
open Go Go.Eng
theorem rminusM_spec (xs:List Int)(off a b:Nat)(hx:InR xs)(hl:off+nl a≤xs.length)(hlen:xs.length<2^45)(hv:(xs.drop off).take (nl a)=limbs a)(hab:b≤a)(ha:nl a<2^44):
  Mc Tryz.prog 317 [.one (.own 0 1 off (nl a)),.one (.ints .u32 (limbs b))] (.ints 187 .u32 xs) (fun r B'=>r= .one (.ints .u32 (limbs (a-b)))∧B'= .ints 187 .u32 xs):=by
 have hba:=nl_mono hab;have hg:∀i,i<nl a→xs.getD (off+i) 0=((a/BB^i%BB:Nat):Int):=fun i hi=>by rw[←lG,←hv,view_get hi]
 refine mw Tryz.func317 ⟨[0,1,4,5,6,7,8,9,16,22],[]⟩ ?_;simp only[Tryz.f317,Tryz.ntmps317,iz,seval];simp only[vx,T,seval];refine⟨⟨by omega,by omega,by omega,by omega⟩,Lk (fun i:{i:Nat×List Int×Nat//MinusInv a b i.1 i.2.1 i.2.2}=>⟨[(0,.one (.own 0 1 off (nl a))),(1,.one (.ints .u32 (limbs b))),(5,.one (.own 1 1 0 (nl a))),(6,.one (.int .u64 i.1.2.2)),(7,.one (.int .i64 i.1.1))],[(0,⟨.ints 187 .u32 xs,true⟩),(1,⟨.ints 187 .u32 i.1.2.1,true⟩)],3,48⟩) (fun i=>nl a-i.1.1) ⟨(0,List.replicate (nl a) 0,0),O2 _,InR.nil,by simp,by simp[val,Nat.mod_one],O2 _⟩ ?_ (fun⟨⟨i,os,c⟩,hi⟩=>?_)⟩
 ·refine Sa ?_;simp only[ry,seval,rz]
 have h1:=hi.le;have h2:=hi.len;have h3:=hi.c;simp only at h1 h2 h3;simp only[vx,T,seval];refine⟨fun h=>Lg ?_,fun h=>Lg ?_⟩
 ·simp only[vx,T,seval];have hx1:=modBB (a/BB^i);have hy:=modBB (b/BB^i);have e1:=Q5 (a/BB^i%BB:Nat) (by omega);have e2:=Q5 (b/BB^i%BB:Nat) (by omega);have hgi:=hg i (by omega);refine⟨fun h'=>Lg ?_,fun h'=>Lg ?_⟩
  ·simp only[vx,T,seval];have hp:=hi.put (by omega);simp only[lG,hgi,e1,e2,rsub_dig hx1 hy h3,rsub_bor hx1 hy h3,Q4 _ (show-9223372036854775808≤(i:Int)+1∧(i:Int)+1≤9223372036854775807 by omega)];refine⟨⟨by omega,by omega⟩,⟨by omega,by omega⟩,⟨by omega,by omega⟩,Lq ⟨(i+1,_,_),hp⟩ ?_ ?_⟩
   ·refine Sa ?_;simp only[ry,seval,rz]
   simp only;omega
  simp only[vx,T,seval];have hy0:=digit_out (x:=b) (k:=i) (by omega);have hp:=hi.put (by omega);rw[hy0]at hp;simp only[lG,hgi,e1,e2,rsub_dig0 hx1 h3,rsub_bor0 hx1 h3,Q4 _ (show-9223372036854775808≤(i:Int)+1∧(i:Int)+1≤9223372036854775807 by omega)];refine⟨⟨by omega,by omega⟩,⟨by omega,by omega⟩,Lq ⟨(i+1,_,_),hp⟩ ?_ ?_⟩
  ·refine Sa ?_;simp only[ry,seval,rz]
  simp only;omega
 simp only[vx,T,seval];have hia:i=nl a:=by omega
 subst hia;obtain⟨hv2,hr⟩:=hi.last hab;simp only at hv2 hr;rw[List.take_of_length_le (by omega)];refine Cg (rtrim_spec _ hr (by omega)) ?_;rw[hv2];simp only[vx,T,seval]
theorem top_div {U V n:Nat}(hn:nl V=n)(h0:0<V):U/V≤U/BB^(n-1)/(V/BB^(n-1)):=by
 have hp:0<BB^(n-1):=Nat.pow_pos (by decide);have hv:0<V/BB^(n-1):=Nat.div_pos (by rw[←hn];exact ge_of_nl h0) hp;rw[Nat.le_div_iff_mul_le hv,Nat.le_div_iff_mul_le hp,Nat.mul_assoc];refine O0 (O9 _ ?_) (Nat.div_mul_le_self U V);rw[O6];exact Nat.mul_div_le _ _
theorem rdigit_spec (xs:List Int)(off V:Nat)(hx:InR xs)(hV:0<V)(hl:off+(nl V+1)≤xs.length)(hlen:xs.length<2^43)(hU:val ((xs.drop off).take (nl V+1))<V*BB):
  Mc Tryz.prog 316 [.one (.own 0 1 off (nl V+1)),.one (.ints .u32 (limbs V))] (.ints 187 .u32 xs)
   (fun r B'=>r= .tup [.one (.int .u32 (val ((xs.drop off).take (nl V+1))/V:Nat)),.one (.ints .u32 (limbs (V*(val ((xs.drop off).take (nl V+1))/V))))]∧B'= .ints 187 .u32 xs):=by
 obtain⟨U,hUd⟩:∃U,U=val ((xs.drop off).take (nl V+1)):=⟨_,rfl⟩;have hnV:=nl_pos.2 hV;have htm:=rtrimM_spec xs off (nl V+1) hx hl (by omega);have hvl:=view_limbs (l:=nl V+1) hx hl;have hr:=view_inr hx off (nl V+1);have g1:xs.getD (off+nl V) 0=((U/BB^nl V%BB:Nat):Int):=by rw[hUd,←getD_val hr,view_get (by omega)]
 have g2:xs.getD (off+(nl V-1)) 0=((U/BB^(nl V-1)%BB:Nat):Int):=by rw[hUd,←getD_val hr,view_get (by omega)]
 have hUl:=val_lt hr;rw[view_len hl]at hUl;rw[←hUd]at htm hvl hU hUl⊢;have htop:=topW_mod hV;obtain⟨t1,t2⟩:=topW_lt hV;have ed:U/BB^nl V*BB+U/BB^(nl V-1)%BB=U/BB^(nl V-1):=by
  have:=div_next2 U (nl V-1)
  rw[show nl V-1+1=nl V by omega]at this;exact this
 have d1:U/BB^nl V<BB:=by
  rw[Nat.div_lt_iff_lt_mul (Nat.pow_pos (by decide)),O6,←O4];exact hUl
 have d2:U/BB^nl V%BB=U/BB^nl V:=O7 d1;have d3:=or_low64 d1 (modBB (U/BB^(nl V-1)));rw[ed]at d3;have hq0:=top_div (U:=U) rfl hV;have hq1:U/V<BB:=by rw[Nat.div_lt_iff_lt_mul hV,O6];exact hU
 have htp:U/BB^(nl V-1)<BB*BB:=by
  rw[←ed]
  have:=modBB (U/BB^(nl V-1))
  generalize U/BB^nl V=p at*
  generalize U/BB^(nl V-1)%BB=q at*
  unfold BB at*
  omega
 obtain⟨tp,htpd⟩:∃tp,tp=U/BB^(nl V-1):=⟨_,rfl⟩;obtain⟨hi,hhi⟩:∃hi,hi=topW V:=⟨_,rfl⟩;have hq0':U/V≤tp/hi:=by rw[htpd,hhi];exact hq0
 rw[←htpd]at d3 htp g2;rw[←hhi]at htop t1 t2;obtain⟨u1,hu1⟩:∃u1,u1=U/BB^nl V:=⟨_,rfl⟩;rw[d2]at g1;rw[←hu1]at g1 d1 d3;obtain⟨u0,hu0⟩:∃u0,u0=tp%BB:=⟨_,rfl⟩;have hu0l:u0<BB:=by rw[hu0];exact modBB tp
 rw[←hu0]at g2 d3;have d4:IntKind.u64.wrap (u1:Int)=u1:=Q5 _ (by unfold BB at d1;omega);have d5:IntKind.u64.wrap (u0:Int)=u0:=Q5 _ (by unfold BB at hu0l;omega);have d6:IntKind.u64.wrap ((u1:Int)*4294967296)=(u1:Int)*4294967296:=Q5 _ (by unfold BB at d1;omega);have d7:IntKind.u64.wrap (hi:Int)=hi:=Q5 _ (by unfold BB at t2;omega);have d8:IntKind.u64.wrap ((tp:Int).tdiv hi)=((tp/hi:Nat):Int):=by
  have e3:(tp:Int).tdiv hi=((tp/hi:Nat):Int):=rfl
  have:=Nat.div_le_self tp hi
  generalize tp/hi=q at*
  rw[e3,Q5 _ (by unfold BB at htp;omega)]
 have x1:IntKind.i64.wrap ((nl V:Int)-1)=((nl V-1:Nat):Int):=by rw[Q4 _ (by omega)];omega
 refine mw Tryz.func316 ⟨[0,1,4,5,6,7,8,32,42],[]⟩ ?_;simp only[Tryz.f316,Tryz.ntmps316,iz,seval];simp only[vx,T,seval]
 simp(disch:=omega) only[lG,←X2,←Q2,Q1,Q4,Q5,wrapBB,fdivBB,true_and,and_true,x1,g1,g2,htop,d4,d5,d6,d3,d7,d8]
 refine⟨⟨by omega,by omega⟩,⟨by omega,by omega⟩,⟨by omega,by omega⟩,by omega,?_⟩;refine⟨fun hq=>Lg ?_,fun hq=>Lg ?_⟩
 ·obtain⟨Q,hQ⟩:∃Q:Nat,(4294967295:Int)=Q:=⟨4294967295,rfl⟩;have hQ1:U/V≤Q:=by unfold BB at hq1;generalize U/V=q at*;omega
  have hQ2:Q<BB:=by unfold BB;omega
  simp only[vx,T,seval];simp only[hQ];simp only[wrapBB];refine Cg (rtimesD_spec V Q 1 (by omega) (by decide) (by rw[Nat.pow_one];exact hQ2)) ?_;simp only[vx,T,seval];refine Lk (fun q:{q:Nat//U/V≤q∧q<BB}=>⟨[(0,.one (.own 0 1 off (nl V+1))),(1,.one (.ints .u32 (limbs V))),(7,.one (.int .u64 q.1)),(8,.one (.ints .u32 (limbs (V*q.1))))],[(0,⟨.ints 187 .u32 xs,true⟩)],3,51⟩) (fun q=>q.1) ⟨Q,hQ1,hQ2⟩ ?_ (fun⟨q,hqa,hqb⟩=>?_)
  ·refine Sa ?_;simp only[ry,seval,rz]
  have hq3:nl (V*q)≤nl V+1:=by
   have h1:=nl_mul V q;have h2:nl q≤1:=nl_le_of_lt (by rw[Nat.pow_one];exact hqb);omega
  simp only[vx,T,seval];refine Cm 0 rfl trivial htm ?_;rintro r B' ⟨rfl,rfl⟩ _;simp only[vx,T,seval];rw[hvl.2];refine Cg (rcompare_spec U (V*q) (by omega) (by omega)) ?_;simp only[vx,T,seval];refine⟨fun hc=>Lg ?_,fun hc=>Lg ?_⟩
  ·have hc2:=cmpI_neg hc;have hc3:U/V<q:=by rw[Nat.div_lt_iff_lt_mul hV,O6];exact hc2
   have hc4:V*(q-1)=V*q-V:=by rw[Nat.mul_sub,Nat.mul_one]
   have hc5:0<q:=Nat.lt_of_le_of_lt (O2 _) hc3;have hc6:V≤V*q:=Nat.le_mul_of_pos_right _ hc5;have hc7:=Nat.le_sub_one_of_lt hc3;have m1:IntKind.u64.wrap ((q:Int)-1)=((q-1:Nat):Int):=by rw[Q5 _ (by unfold BB at hqb;omega)];omega
   simp only[vx,T,seval];simp only[m1];refine Cg (rminus_spec (V*q) V hc6 (by omega)) ?_;rw[←hc4];simp only[vx,T,seval];refine Lq ⟨q-1,hc7,by omega⟩ ?_ ?_
   ·refine Sa ?_;simp only[ry,seval,rz]
   simp only;omega
  have hc2:=cmpI_nneg hc;have hc3:q=U/V:=Nat.le_antisymm ((Nat.le_div_iff_mul_le hV).2 (by rw[O6];exact hc2)) hqa;simp only[vx,T,seval];have m2:IntKind.u32.wrap (q:Int)=q:=IntWalk.u32_in _ (by unfold BB at hqb;omega);rw[m2,hc3]
 obtain⟨Q,hQ⟩:∃Q:Nat,Q=tp/hi:=⟨_,rfl⟩;rw[←hQ]at hq hq0'⊢;have hQ1:U/V≤Q:=hq0';have hQ2:Q<BB:=by unfold BB;omega
 simp only[vx,T,seval];simp only[wrapBB];refine Cg (rtimesD_spec V Q 1 (by omega) (by decide) (by rw[Nat.pow_one];exact hQ2)) ?_;simp only[vx,T,seval];refine Lk (fun q:{q:Nat//U/V≤q∧q<BB}=>⟨[(0,.one (.own 0 1 off (nl V+1))),(1,.one (.ints .u32 (limbs V))),(7,.one (.int .u64 q.1)),(8,.one (.ints .u32 (limbs (V*q.1))))],[(0,⟨.ints 187 .u32 xs,true⟩)],3,51⟩) (fun q=>q.1) ⟨Q,hQ1,hQ2⟩ ?_ (fun⟨q,hqa,hqb⟩=>?_)
 ·refine Sa ?_;simp only[ry,seval,rz]
 have hq3:nl (V*q)≤nl V+1:=by
  have h1:=nl_mul V q;have h2:nl q≤1:=nl_le_of_lt (by rw[Nat.pow_one];exact hqb);omega
 simp only[vx,T,seval];refine Cm 0 rfl trivial htm ?_;rintro r B' ⟨rfl,rfl⟩ _;simp only[vx,T,seval];rw[hvl.2];refine Cg (rcompare_spec U (V*q) (by omega) (by omega)) ?_;simp only[vx,T,seval];refine⟨fun hc=>Lg ?_,fun hc=>Lg ?_⟩
 ·have hc2:=cmpI_neg hc;have hc3:U/V<q:=by rw[Nat.div_lt_iff_lt_mul hV,O6];exact hc2
  have hc4:V*(q-1)=V*q-V:=by rw[Nat.mul_sub,Nat.mul_one]
  have hc5:0<q:=Nat.lt_of_le_of_lt (O2 _) hc3;have hc6:V≤V*q:=Nat.le_mul_of_pos_right _ hc5;have hc7:=Nat.le_sub_one_of_lt hc3;have m1:IntKind.u64.wrap ((q:Int)-1)=((q-1:Nat):Int):=by rw[Q5 _ (by unfold BB at hqb;omega)];omega
  simp only[vx,T,seval];simp only[m1];refine Cg (rminus_spec (V*q) V hc6 (by omega)) ?_;rw[←hc4];simp only[vx,T,seval];refine Lq ⟨q-1,hc7,by omega⟩ ?_ ?_
  ·refine Sa ?_;simp only[ry,seval,rz]
  simp only;omega
 have hc2:=cmpI_nneg hc;have hc3:q=U/V:=Nat.le_antisymm ((Nat.le_div_iff_mul_le hV).2 (by rw[O6];exact hc2)) hqa;simp only[vx,T,seval];have m2:IntKind.u32.wrap (q:Int)=q:=IntWalk.u32_in _ (by unfold BB at hqb;omega);rw[m2,hc3]
end Go.Proofs.YtcdijplheindaaaGreat
