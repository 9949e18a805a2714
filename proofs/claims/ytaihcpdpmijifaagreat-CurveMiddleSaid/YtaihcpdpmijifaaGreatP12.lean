/-
  CurveMiddle: for every input the law returns true, and each argument reads afterwards as it read before. No condition.
  (Text 12 of 12; made by a program out of smaller texts.)
-/
import Derived.ProofKit
import Derived.Test.YtaihcpdpmijifaaGreatRows
import Derived.Test.YtaihcpdpmijifaaGreatP11
set_option linter.unusedSimpArgs false
set_option linter.unusedVariables false
set_option maxHeartbeats 16000000
set_option maxRecDepth 10000
open Nat renaming reduceAdd→J1,reduceMul→J2,reduceSub→J3,reduceEqDiff→J4,reduceLT→J5,reduceLeDiff→J6,reduceBEq→J7,reduceDiv→J8,reduceMod→J9,reducePow→J0
open Int renaming reduceToNat→K1,reduceLE→K2,reduceLT→K3,reduceEq→K4,reducePow→K5,reduceSub→K6,reduceNeg→K7,natCast_add→X2,natCast_one→X3,natCast_zero→X4
open List renaming getD_cons_zero→X0,getD_cons_succ→X1,length_take→X5,length_append→X6,getD_eq_getElem?_getD→X7,getElem?_eq_getElem→X8
open Nat renaming zero_le→O2
namespace Go.Proofs.YtaihcpdpmijifaaGreat
open Go Go.Geo Go.Proofs Go.Eng Go.ChangeShapes Go.WideShapes Go.ChangeAt Go.RowKit
theorem Tryz.own:ownKnob Tryz.prog.godebug=none:=by kernel_rfl
theorem Tryz.laidOut:laidOutB Tryz.prog=true:=by kernel_rfl
set_option maxRecDepth 100000 in
theorem curveMiddle_lifted (os:Os)(started:os.Started)(H:Type)(enc:TypeId×Value→H):
  ReturnsInHanded {} Tryz.checked os 3 .any (Rows.curveMiddleSpec.pre6 enc Tryz.prog Tryz.f3 Rows.curveMiddleRow.domain false) (Rows.curveMiddleSpec.post enc Tryz.prog Tryz.f3 false true false false):=by
 refine returnsInHanded_of_change (C:=Tryz.checked) Tryz.own started (by kernel_rfl) Tryz.func3
  (ChangeSpec.witness6 (enc:=enc) (C:=Tryz.checked) false ⟨#[],#[.slice none 0 0],[]⟩ 8 (by kernel_rfl) (by kernel_rfl) (by kernel_rfl) (by kernel_rfl)) ?_
 intro W base args ds gs before hval0 hW hcnd _;have hval:∀(j:Nat) t v,Tryz.f3.params[j]? =some t→args[j]? =some v→Value.okWide Tryz.prog W .any base t v:=hval0;have hW':=hW;obtain⟨p,q,hA0,hV,rfl,hfz,hnd⟩:=hW;have hA:DataW.TrodAll enc Tryz.prog W 0 (fun _=>true) true Tryz.f3.params.toList args.toList ds p:=hA0;rw[Tryz.params3]at hA hval;obtain⟨v0,d0,rfl,rfl,h0⟩:=trodAll_one hA;obtain⟨rfl,rfl⟩:=trodVars_none hV;clear hA0 hval0;simp only[List.append_nil]at hW';have hlt:=fun x hx=>hW'.lt x hx;have o0:v0.oneCell'=true:=slice_one Tryz.underlying22 (hval 0 22 v0 rfl rfl);have s0:=fun W' hb=>arg_stays (W':=W') Tryz.laidOut (by kernel_rfl) (of_decide_eq_true (by kernel_rfl)) h0 hb (fun x hx=>hlt x (hx));obtain⟨n,c,hc,hr⟩:=open_arg closedD (by decide) o0 h0;obtain⟨c',m,f,e1,hf,hle⟩:=okD_drs hc;obtain rfl:c=c':=by simpa using e1
 have hcon:=lawMid m f hf;have hargs:RepVL loc0 dom0 (fun g=>g<W.heap.size) W [.one (drC m f)] [v0]:=⟨RepC.of_repI (ρ:=loc0) (dom:=dom0) (hle _ _ _ hr),trivial⟩
 refine((hcon.2 (fun g=>g<W.heap.size) W #[v0] (fun _ h=>h) hargs).mono ?_)
 rintro e W' ⟨v,rfl,hB,hv⟩;have hv:v= .bool true:=hv;subst hv;exact⟨_,rfl,law_post hW' rfl rfl Tryz.underlying4 rfl (trodAll_mk1 (s0 W' hB)) rfl hB⟩
theorem Tryz.j1:Tryz.pinned.checked.prog.funcNamed Rows.curveMiddleRow.func=some 3:=by kernel_rfl
theorem Tryz.j2:joinedFacts Tryz.pinned.checked.prog 3 Tryz.f3 Rows.curveMiddleSpec Rows.curveMiddleRow=true:=by kernel_rfl
theorem Tryz.j3:Func.isInstance Tryz.pinned.checked.prog Tryz.f3 Rows.curveMiddleRow.origin Rows.curveMiddleRow.targs:=of_decide_eq_true (by kernel_rfl)
theorem Tryz.j4:Func.isWrapper Tryz.pinned.checked.prog Tryz.f3 Rows.curveMiddleRow.wrapper Rows.curveMiddleRow.mainSum:=by
 unfold Func.isWrapper;first|(rw[if_pos (by decide+kernel)];kernel_rfl)|(rw[if_neg (by decide+kernel)];exact⟨rfl,rfl⟩)
theorem curveMiddle_holds:Rows.CurveMiddleSaid:=
 OpenClaim.holds_of_wide 3 Tryz.f3 rfl rfl rfl rfl rfl rfl rfl ⟨rfl,rfl,rfl,rfl,rfl⟩ rfl rfl rfl rfl rfl Tryz.j1 Tryz.func3 Tryz.j2 Tryz.j3 Tryz.j4
  (fun os started H enc _=>curveMiddle_lifted os started H enc)
end Go.Proofs.YtaihcpdpmijifaaGreat
