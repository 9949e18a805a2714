/-
  ArrangementErrors: for every input the law returns true, and each argument reads afterwards as it read before. No condition.
  (Text 10 of 10; made by a program out of smaller texts.)
-/
import Derived.Lib.AppendZerosOnto
import Derived.Lib.Walk
import Derived.Lib.Overlaps
import Derived.Laws.Externs
import Derived.Laws.NewBlocks
import Derived.Shelf.RegionOpenPlain
import Derived.Deep.Slices
import Derived.ChangeArms
import Derived.ChangeSame
import Derived.Below
import Derived.OpenShut
import Derived.ProofKit
import Derived.Test.YtcdijplheindaaaGreatRows
import Derived.Test.YtcdijplheindaaaGreatP9
set_option linter.unusedSimpArgs false
set_option linter.unusedVariables false
set_option maxHeartbeats 16000000
set_option maxRecDepth 10000
open Nat renaming reduceAdd→J1,reduceMul→J2,reduceSub→J3,reduceEqDiff→J4,reduceLT→J5,reduceLeDiff→J6,reduceBEq→J7,reduceDiv→J8,reduceMod→J9,reducePow→J0
open Int renaming reduceToNat→K1,reduceLE→K2,reduceLT→K3,reduceEq→K4,reducePow→K5,reduceSub→K6,reduceNeg→K7,natCast_add→X2,natCast_one→X3,natCast_zero→X4
open List renaming getD_cons_zero→X0,getD_cons_succ→X1,length_take→X5,length_append→X6,getD_eq_getElem?_getD→X7,getElem?_eq_getElem→X8
open Nat renaming le_trans→O0,le_refl→O1,zero_le→O2,not_lt_zero→O5,mod_eq_of_lt→O7,mul_le_mul_right→O8
open Int renaming toNat_natCast→Q1
open Go.IntWalk renaming i64_in→Q4
open Option.some renaming injEq→Q6
open Go.Result renaming andThen_ok→Q7
noncomputable section
set_option maxHeartbeats 2000000
namespace Go.Proofs.YtcdijplheindaaaGreat
open Go Go.Geo Go.Proofs Go.Eng Go.ChangeShapes Go.WideShapes Go.ChangeAt Go.RowKit
theorem Tryz.own:ownKnob Tryz.prog.godebug=none:=by kernel_rfl
theorem Tryz.laidOut:laidOutB Tryz.prog=true:=by kernel_rfl
set_option maxRecDepth 100000 in
theorem arrangementErrors_lifted (os:Os)(started:os.Started)(H:Type)(enc:TypeId×Value→H):
  ReturnsInHanded {} Tryz.checked os 3 .any (Rows.arrangementErrorsSpec.pre6 enc Tryz.prog Tryz.f3 Rows.arrangementErrorsRow.domain false) (Rows.arrangementErrorsSpec.post enc Tryz.prog Tryz.f3 false true false false):=by
 refine returnsInHanded_of_change (C:=Tryz.checked) Tryz.own started (by kernel_rfl) Tryz.func3
  (ChangeSpec.witness6 (enc:=enc) (C:=Tryz.checked) false ⟨#[],#[.slice none 0 0,.int .u8 0,.int .u8 0],[]⟩ 8 (by kernel_rfl) (by kernel_rfl) (by kernel_rfl) (by kernel_rfl)) ?_
 intro W base args ds gs before hval0 hW hcnd _;have hval:∀(j:Nat) t v,Tryz.f3.params[j]? =some t→args[j]? =some v→Value.okWide Tryz.prog W .any base t v:=hval0;have hW':=hW;obtain⟨p,q,hA0,hV,rfl,hfz,hnd⟩:=hW;have hA:DataW.TrodAll enc Tryz.prog W 0 (fun _=>true) true Tryz.f3.params.toList args.toList ds p:=hA0;rw[Tryz.params3]at hA hval;obtain⟨v0,v1,v2,d0,d1,d2,p0,p1,p2,rfl,rfl,rfl,h0,h1,h2⟩:=trodAll_three hA;obtain⟨rfl,rfl⟩:=trodVars_none hV;clear hA0 hval0;simp only[List.append_nil]at hW';have hlt:=fun x hx=>hW'.lt x hx;have o0:v0.oneCell'=true:=slice_one Tryz.underlying22 (hval 0 22 v0 rfl rfl);have o1:v1.oneCell'=true:=by obtain⟨_,rfl,_⟩:=open_int Tryz.underlying5 (hval 1 5 v1 rfl rfl) h1;rfl
 have o2:v2.oneCell'=true:=by obtain⟨_,rfl,_⟩:=open_int Tryz.underlying5 (hval 2 5 v2 rfl rfl) h2;rfl
 have s0:=fun W' hb=>arg_stays (W':=W') Tryz.laidOut (by kernel_rfl) (of_decide_eq_true (by kernel_rfl)) h0 hb (fun x hx=>hlt x (List.mem_append_left _ (List.mem_append_left _ hx)));have s1:=fun W' hb=>arg_stays (W':=W') Tryz.laidOut (by kernel_rfl) (of_decide_eq_true (by kernel_rfl)) h1 hb (fun x hx=>hlt x (List.mem_append_left _ (List.mem_append_right _ hx)));have s2:=fun W' hb=>arg_stays (W':=W') Tryz.laidOut (by kernel_rfl) (of_decide_eq_true (by kernel_rfl)) h2 hb (fun x hx=>hlt x (List.mem_append_right _ hx));obtain⟨n,c,hc,hr⟩:=open_arg closedD (by decide) o0 h0;obtain⟨c',m,f,e1,hf,hle⟩:=okD_drs hc;obtain rfl:c=c':=by simpa using e1
 obtain⟨n1,c1,hc1,hr1⟩:=open_arg closedD (by decide) o1 h1;obtain⟨x1,e2,y0,y1⟩:=okD_u8 hc1;obtain rfl:c1= .int .u8 x1:=by simpa using e2
 obtain⟨n2,c2,hc2,hr2⟩:=open_arg closedD (by decide) o2 h2;obtain⟨x2,e3,y2,y3⟩:=okD_u8 hc2;obtain rfl:c2= .int .u8 x2:=by simpa using e3
 obtain⟨x1,rfl⟩:=Int.eq_ofNat_of_zero_le y0;obtain⟨x2,rfl⟩:=Int.eq_ofNat_of_zero_le y2;have hcon:=lawErr m f hf x1 x2 (by omega) (by omega);have hargs:RepVL loc0 dom0 (fun g=>g<W.heap.size) W [.one (drC m f),.one (.int .u8 x1),.one (.int .u8 x2)] [v0,v1,v2]:=⟨RepC.of_repI (ρ:=loc0) (dom:=dom0) (hle _ _ _ hr),RepC.of_repI (ρ:=loc0) (dom:=dom0) hr1,RepC.of_repI (ρ:=loc0) (dom:=dom0) hr2,trivial⟩
 refine((hcon.2 (fun g=>g<W.heap.size) W #[v0,v1,v2] (fun _ h=>h) hargs).mono ?_)
 rintro e W' ⟨v,rfl,hB,hv⟩;have hv:v= .bool true:=hv;subst hv;exact⟨_,rfl,law_post hW' rfl rfl Tryz.underlying4 rfl (by rw[List.append_assoc p0 p1 p2];exact trodAll_mk3 (s0 W' hB) (s1 W' hB) (s2 W' hB)) rfl hB⟩
theorem Tryz.j1:Tryz.pinned.checked.prog.funcNamed Rows.arrangementErrorsRow.func=some 3:=by kernel_rfl
theorem Tryz.j2:joinedFacts Tryz.pinned.checked.prog 3 Tryz.f3 Rows.arrangementErrorsSpec Rows.arrangementErrorsRow=true:=by kernel_rfl
theorem Tryz.j3:Func.isInstance Tryz.pinned.checked.prog Tryz.f3 Rows.arrangementErrorsRow.origin Rows.arrangementErrorsRow.targs:=of_decide_eq_true (by kernel_rfl)
theorem Tryz.j4:Func.isWrapper Tryz.pinned.checked.prog Tryz.f3 Rows.arrangementErrorsRow.wrapper Rows.arrangementErrorsRow.mainSum:=by
 unfold Func.isWrapper;first|(rw[if_pos (by decide+kernel)];kernel_rfl)|(rw[if_neg (by decide+kernel)];exact⟨rfl,rfl⟩)
theorem arrangementErrors_holds:Rows.ArrangementErrorsSaid:=
 OpenClaim.holds_of_wide 3 Tryz.f3 rfl rfl rfl rfl rfl rfl rfl ⟨rfl,rfl,rfl,rfl,rfl⟩ rfl rfl rfl rfl rfl Tryz.j1 Tryz.func3 Tryz.j2 Tryz.j3 Tryz.j4
  (fun os started H enc _=>arrangementErrors_lifted os started H enc)
end Go.Proofs.YtcdijplheindaaaGreat
