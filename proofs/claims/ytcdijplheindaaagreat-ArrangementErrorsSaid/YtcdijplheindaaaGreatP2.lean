/-
  ArrangementErrors: for every input the law returns true, and each argument reads afterwards as it read before. No condition.
  (Text 2 of 8; made by a program out of smaller texts.)
-/
import Derived.Test.YtcdijplheindaaaGreatP1
set_option linter.unusedSimpArgs false
set_option linter.unusedVariables false
set_option maxHeartbeats 16000000
set_option maxRecDepth 10000
open Nat renaming reduceAdd→J1,reduceMul→J2,reduceSub→J3,reduceEqDiff→J4,reduceLT→J5,reduceLeDiff→J6,reduceBEq→J7,reduceDiv→J8,reduceMod→J9,reducePow→J0
open Int renaming reduceToNat→K1,reduceLE→K2,reduceLT→K3,reduceEq→K4,reducePow→K5,reduceSub→K6,reduceNeg→K7,natCast_add→X2,natCast_one→X3,natCast_zero→X4
open List renaming getD_cons_zero→X0,getD_cons_succ→X1,length_take→X5,length_append→X6,getD_eq_getElem?_getD→X7,getElem?_eq_getElem→X8
open Nat renaming le_refl→O1,not_lt_zero→O5,mul_comm→O6,mod_eq_of_lt→O7,mul_le_mul_right→O8
open Option.some renaming injEq→Q6
open Go.Result renaming andThen_ok→Q7
namespace Go.Eng
open Go
theorem wrap64_id {n:Int}(h0:0≤n)(h1:n≤9223372036854775807):IntKind.i64.wrap n=n:=by
 have h2:n% (2^64:Int)=n:=Int.emod_eq_of_lt h0 (by omega);have e:IntKind.i64.wrap n=if(true&&decide (n% (2^64:Int)≥2^63))=true then n% (2^64:Int)-2^64 else n% (2^64:Int):=rfl
 rw[e,h2,if_neg (by simp;omega)]
theorem RepVL.get {ρ:Nat→Loc}{dom ok:Nat→Prop}{w:World}:∀{xs:List V} {vs:List Value},RepVL ρ dom ok w xs vs→∀(j:Nat) x,xs[j]? =some x→∃v,vs[j]? =some v∧RepV1 ρ dom ok w x v
 |[],[],_,j,x,hj=>by simp at hj
 |x0::xs,v0::vs,h,0,x,hj=>by simp at hj;subst hj;exact⟨v0,rfl,h.1⟩
 |x0::xs,v0::vs,h,j+1,x,hj=>by simpa using RepVL.get h.2 j x (by simpa using hj)
 |[],_::_,h,_,_,_=>h.elim
 |_::_,[],h,_,_,_=>h.elim
theorem RepV.of_V1 {ρ:Nat→Loc}{dom ok:Nat→Prop}{w:World}{x:V}{v:Value}(h:RepV1 ρ dom ok w x v):RepV ρ dom ok w x v:=by
 cases x with
 |unk=>trivial
 |one c=>exact h
 |agg cs=>exact h
 |tup xs=>exact h.elim
section
variable {P:Program}{T:Tab}(hT:TabOk P T){o:Oper}{s:St}{nx0 id:Nat}{K:Eff→Prop}
include hT in
theorem sMakeSlice {
          t:TypeId} {l c:Operand} {fz:Bool} (ho:o.op= .makeSlice t l c) (hd:dstLt o s.n) (h:rMakeSlice T s id fz t l c K):∃f,K f∧REff P o s nx0 id f:=by
 have hlm:l∈o.op.operands:=by rw[ho];simp[Op.operands]
 have hcm:c∈o.op.operands:=by rw[ho];simp[Op.operands]
 unfold rMakeSlice at h
 cases hTt:T t with
 |none=>rw[hTt]at h;exact h.elim
 |some S=>
  rw[hTt]at h;simp only at h
  split at h
  ·rename_i e hSk
   have hu:=T_slice hT hTt hSk
   cases hTe:T e with
   |none=>rw[hTe]at h;exact h.elim
   |some E=>
    rw[hTe]at h;simp only at h;obtain⟨ei,ed,ez,hei,heu,hez,hek,hes,heb,hzc,hall⟩:=T_parts hT hTe
    split at h
    ·rename_i kl ln kc cn hl hc
     obtain⟨hzl,hpos,⟨h0,h1,h2,h3⟩,h⟩:=h;have hzs:ez.cells.size=E.size:=by rw[←hzl,hzc];simp
     have hrun:∀(G:Ctx) (dom:Nat→Prop) (ρ:Nat→Loc) (Z:St) (a:Act) (w:World),SimR G dom ρ Z a w→Agr s Z nx0 o→
       (execOp a.eval o).run P w= .ok (.value (.slice (some ⟨w.heap.size,0,none⟩) ln.toNat cn.toNat)) (w.alloc (.cells ((Array.range (cn.toNat*ez.cells.size)).map (fun i=>ez.cells[i%ez.cells.size]!)) e)):=by
      intro G dom ρ Z a w hs ha;have hlv:=hs.ev l;rw[ev_one ha hlm hl]at hlv;have hcv:=hs.ev c;rw[ev_one ha hcm hc]at hcv;have hlv:a.eval l= .int kl ln:=hlv;have hcv:a.eval c= .int kc cn:=hcv;unfold execOp;rw[ho];refine run_v ?_;have hwl:IntKind.i64.wrap ln=ln:=wrap64_id h0 (by omega);have hwc:IntKind.i64.wrap cn=cn:=wrap64_id (by omega) h3;have hbig:¬((ei.bytes:Int)*cn>2^48):=by rw[←heb,Int.mul_comm];omega
      have hbigb:decide ((ei.bytes:Int)*cn>2^48)=false:=by simpa using hbig
      have hneg:decide (cn<0)=false:=by simp;omega
      have hneg2:decide (ln<0)=false:=by simp;omega
      have hneg3:decide (ln>cn)=false:=by simp;omega
      simp only[Instr.makeSlice,Sem.run_bind,run_underlying' hu,Q7,hlv,hcv,asInt,asIntOf,Sem.run_pure,run_typeInfo hei,hwl,hwc,hneg,hneg2,hneg3,hbigb,Bool.or_self,Bool.false_eq_true,↓reduceIte,run_askRoom,run_sizeOf hei,Sem.run_ite,ite_self];rw[←hes,←hzs]
      by_cases hz:cn.toNat*ez.cells.size=0
      ·rw[if_pos hz];have hr0:∀f:Nat→Value,Array.map f (Array.range 0)= #[]:=fun f=>by simp
       simp only[hz,hr0];rfl
      rw[if_neg hz];simp only[run_zeroValue hei hez,Q7];rfl
     have hszc:((Array.range (cn.toNat*ez.cells.size)).map (fun i=>ez.cells[i%ez.cells.size]!)).size=cn.toNat*ez.cells.size:=by simp
     split at h
     ·rename_i k hk
      obtain⟨hz,hK⟩:=h;have hE1:E.size=1:=by rw[←hzl,hz];rfl
      have key:∀{hK':K ⟨.one (.own id 1 0 ln.toNat),some (.ints e k (List.replicate cn.toNat 0)),[]⟩},∃f,K f∧REff P o s nx0 id f:=by
       intro hK;refine⟨_,hK,REff.newRow (e:=e) [] (by rw[ho];rfl) hd (fun cs=>by simp) (by simp[Bk.len];omega) fun G dom ρ Z a w hs ha=>?_⟩;refine⟨_,cn.toNat,hrun G dom ρ Z a w hs ha,by omega,by rw[hszc,hzs,hE1];exact O1 _,fun j c' hj=>?_⟩;have hzr:=zeros_rep (ρ:=loc0) (dom:=dom0) (ok:=okOf G (frz Z.own []) ρ w) (w:=w) ez.cells cn.toNat (by omega) hall;rw[←hzc,hz]at hzr;have hj':=ints_cell j c' hj
       have:(zerosC [C.int k 0] cn.toNat)=(List.replicate cn.toNat (0:Int)).map (C.int k):=by
        generalize cn.toNat=n
        induction n with
        |zero=>rfl
        |succ n ih=>simp[zerosC,ih,List.replicate_succ]
       rw[←this]at hj';obtain⟨u,hu',hr⟩:=RepL.get hzr j c' hj';exact⟨u,by rw[←Array.getElem?_toList];exact hu',RepI.of_loc0 hr⟩
      split at hK
      ·split at hK
       ·have hzr0:∀{ok:Nat→Prop} {w:World},RepL loc0 dom0 ok w ((List.replicate cn.toNat (0:Int)).map (C.int k)) ((Array.range (cn.toNat*ez.cells.size)).map (fun i=>ez.cells[i%ez.cells.size]!)).toList:=by
         intro ok w;have hzr:=zeros_rep (ρ:=loc0) (dom:=dom0) (ok:=ok) (w:=w) ez.cells cn.toNat (by omega) hall;rw[←hzc,hz]at hzr
         have:(zerosC [C.int k 0] cn.toNat)=(List.replicate cn.toNat (0:Int)).map (C.int k):=by
          generalize cn.toNat=n
          induction n with
          |zero=>rfl
          |succ n ih=>simp[zerosC,ih,List.replicate_succ]
         rw[←this];exact hzr
        refine⟨_,hK,REff.newIm (e:=e) [] (by rw[ho];rfl) hd fun G dom ρ Z a w hs ha=>?_⟩;refine⟨_,_,hrun G dom ρ Z a w hs ha,some ⟨w.heap.size,0,none⟩,cn.toNat,by simp,by simp;omega,.inr ⟨w.heap.size,0,rfl,(hs.frz []).okNew,fun i hi=>?_⟩⟩;simp only[List.length_replicate]at hi;obtain⟨u,hu,hr⟩:=RepL.get (hzr0 (ok:=fun _=>True) (w:=w)) i (.int k 0) (by rw[List.getElem?_map,List.getElem?_replicate,if_pos (by omega)];rfl);have hr:u= .int k 0:=hr;rw[Nat.zero_add,World.cell?_alloc_new,←Array.getElem?_toList,hu,hr]
        simp[X7,hi]
       exact key (hK':=hK)
      exact key (hK':=hK)
     refine⟨_,h,REff.newRow (e:=e) [] (by rw[ho];rfl) hd (fun cs=>by simp) (by simp[Bk.len];omega) fun G dom ρ Z a w hs ha=>?_⟩;refine⟨_,cn.toNat,hrun G dom ρ Z a w hs ha,by omega,by rw[hszc,hzs];exact O1 _,fun j c' hj=>?_⟩;have hzr:=zeros_rep (ρ:=loc0) (dom:=dom0) (ok:=okOf G (frz Z.own []) ρ w) (w:=w) ez.cells cn.toNat (by omega) hall;rw[←hzc]at hzr;simp only[Bk.cell]at hj
     split at hj
     ·rename_i hlt
      simp only[Q6]at hj;have hg:=zerosC_get E.zero cn.toNat j (by rw[hzl];exact hlt);rw[hzl]at hg;have hm:j%E.size<E.zero.length:=by rw[hzl];exact Nat.mod_lt _ hpos
      rw[X7,X8 hm]at hj;rw[X8 hm]at hg;obtain⟨u,hu',hr⟩:=RepL.get hzr j _ hg;simp only[Option.getD_some]at hj;rw[←hj];exact⟨u,by rw[←Array.getElem?_toList];exact hu',RepI.of_loc0 hr⟩
     cases hj
    exact h.elim
  exact h.elim
theorem lenC_is {ρ:Nat→Loc}{dom ok:Nat→Prop}{w:World}{c:C}{n:Nat}{v:Value}(hl:lenC c=some n)(h:RepC ρ dom ok w c v):∃a cap,v= .slice a n cap∧n≤cap∧(c= .nil→cap=0):=by
 cases c with
 |own b wd off len=>
  simp only[lenC,Q6]at hl;subst hl;obtain⟨_,_,cap,hc,h⟩:=h
  rcases h with⟨g,o,o',_,rfl,_⟩|⟨_,rfl,h1,h2⟩
  ·exact⟨_,cap,rfl,hc,fun e=>by cases e⟩
  exact⟨none,0,by rw[h1],by omega,fun e=>by cases e⟩
 |win b b2 off len=>
  simp only[lenC,Q6]at hl;subst hl;obtain⟨_,_,_,cap,hc,h⟩:=h
  rcases h with⟨g,o,o',_,rfl,_⟩|⟨_,rfl,h1,h2⟩
  ·exact⟨_,cap,rfl,hc,fun e=>by cases e⟩
  exact⟨none,0,by rw[h1],by omega,fun e=>by cases e⟩
 |ints k xs=>simp only[lenC,Q6]at hl;subst hl;obtain⟨a,cap,rfl,hc,_⟩:=h;exact⟨a,cap,rfl,hc,fun e=>by cases e⟩
 |rows wd n' f=>simp only[lenC,Q6]at hl;subst hl;obtain⟨a,cap,rfl,hc,_⟩:=h;exact⟨a,cap,rfl,hc,fun e=>by cases e⟩
 |nil=>simp only[lenC,Q6]at hl;subst hl;exact⟨none,0,h,O1 _,fun _=>rfl⟩
 |_=>simp[lenC]at hl
include hT in
theorem sBuiltin {c:Call}{b:Builtin}(ho:o.op= .call c)(hc:c.callee= .builtin b)(hd:dstLt o s.n)(h:rBuiltin T s b c.args.toList c.argTypes.toList K):∃f,K f∧REff P o s nx0 id f:=by
 have ham:∀x∈c.args.toList,x∈o.op.operands:=fun x hx=>by rw[ho];simp only[Op.operands,Call.operands];exact Array.mem_append_right _ (by simpa using hx)
 have hex:∀(a:Act) (w:World) (v:Value),(match b with
    |.len=>Builtin.len_ c.argTypes o.type (c.args.map a.eval)
    |.max=>Builtin.max_ c.argTypes o.type (c.args.map a.eval)
    |.min=>Builtin.min_ c.argTypes o.type (c.args.map a.eval)
    |_=>stuck "").run P w= .ok v w→(execOp a.eval o).run P w= .ok (.value v) w:=by
  intro a w v hv;unfold execOp;rw[ho];simp only[resolve,hc,Sem.run_bind,Sem.run_pure,Q7,invoke,Go.builtin]
  cases b<;>simp only at hv<;>first|exact run_v hv|(simp at hv;done)
 unfold rBuiltin at h
 split at h
 ·-- len
  rename_i x t hargs htys
  have hxm:x∈o.op.operands:=ham x (by rw[hargs];simp);have ea:c.args= #[x]:=Array.toList_inj.1 hargs;have et:c.argTypes= #[t]:=Array.toList_inj.1 htys
  cases hTt:T t with
  |none=>rw[hTt]at h;exact h.elim
  |some E=>
   rw[hTt]at h;simp only at h
   split at h
   ·rename_i e hEk
    have hu:=T_slice hT hTt hEk
    split at h
    ·rename_i cc hx
     split at h
     ·rename_i n hl
      refine⟨_,h,REff.pure hd fun G dom ρ Z a w hs ha=>⟨.int .i64 n,?_,rfl⟩⟩;have hev:=hs.ev x;rw[ev_one ha hxm hx]at hev;obtain⟨ad,cap,hv,_,_⟩:=lenC_is hl hev;refine hex a w _ ?_;simp only[ea,et,Builtin.len_,hv,List.map_toArray,List.map_cons,List.map_nil,List.getElem?_toArray,List.getElem?_cons_zero,Sem.run_bind,run_underlying' hu,Q7,Sem.run_pure];rfl
     exact h.elim
    exact h.elim
   ·rename_i hEk
    obtain⟨_,d,_,_,hu,_,hk,_⟩:=T_parts hT hTt;rw[hEk]at hk;have hdb:d= .string:=by
     cases d<;>simp only[kindOf]at hk
     case string=>rfl
     case struct fs=>split at hk<;>cases hk
     all_goals cases hk
    subst hdb
    split at h
    ·rename_i bs hx
     refine⟨_,h,REff.pure hd fun G dom ρ Z a w hs ha=>⟨.int .i64 bs.size,?_,rfl⟩⟩;have hev:=hs.ev x;rw[ev_one ha hxm hx]at hev;have hv:a.eval x= .string bs:=hev;refine hex a w _ ?_;simp only[ea,et,Builtin.len_,hv,List.map_toArray,List.map_cons,List.map_nil,List.getElem?_toArray,List.getElem?_cons_zero,Sem.run_bind,run_underlying' hu,Q7,Sem.run_pure];rfl
    exact h.elim
   exact h.elim
 ·-- max
  rename_i x y hargs
  have hxm:x∈o.op.operands:=ham x (by rw[hargs];simp);have hym:y∈o.op.operands:=ham y (by rw[hargs];simp);have ea:c.args= #[x,y]:=Array.toList_inj.1 hargs
  split at h
  ·rename_i v hv
   unfold maxC at hv
   split at hv
   ·rename_i k x0 k' y0 hx hy
    simp only[Q6]at hv;subst hv;refine⟨_,h,REff.pure hd fun G dom ρ Z a w hs ha=>⟨.int k (if x0<y0 then y0 else x0),?_,rfl⟩⟩;have hvx:=hs.ev x;rw[ev_one ha hxm hx]at hvx;have hvy:=hs.ev y;rw[ev_one ha hym hy]at hvy;have hvx:a.eval x= .int k x0:=hvx;have hvy:a.eval y= .int k' y0:=hvy;refine hex a w _ ?_;simp only[ea,Builtin.max_,hvx,hvy,List.map_toArray,List.map_cons,List.map_nil,List.foldlM_cons,List.foldlM_nil,Builtin.max2,Sem.run_bind,Sem.run_pure,Q7]
   cases hv
  exact h.elim
 ·-- min
  rename_i x y hargs
  have hxm:x∈o.op.operands:=ham x (by rw[hargs];simp);have hym:y∈o.op.operands:=ham y (by rw[hargs];simp);have ea:c.args= #[x,y]:=Array.toList_inj.1 hargs
  split at h
  ·rename_i v hv
   unfold minC at hv
   split at hv
   ·rename_i k x0 k' y0 hx hy
    simp only[Q6]at hv;subst hv;refine⟨_,h,REff.pure hd fun G dom ρ Z a w hs ha=>⟨.int k (if y0<x0 then y0 else x0),?_,rfl⟩⟩;have hvx:=hs.ev x;rw[ev_one ha hxm hx]at hvx;have hvy:=hs.ev y;rw[ev_one ha hym hy]at hvy;have hvx:a.eval x= .int k x0:=hvx;have hvy:a.eval y= .int k' y0:=hvy;refine hex a w _ ?_;simp only[ea,Builtin.min_,hvx,hvy,List.map_toArray,List.map_cons,List.map_nil,List.foldlM_cons,List.foldlM_nil,Builtin.min2,Sem.run_bind,Sem.run_pure,Q7]
   cases hv
  exact h.elim
 ·-- min of three
  rename_i x y z hargs
  have hxm:x∈o.op.operands:=ham x (by rw[hargs];simp);have hym:y∈o.op.operands:=ham y (by rw[hargs];simp);have hzm:z∈o.op.operands:=ham z (by rw[hargs];simp);have ea:c.args= #[x,y,z]:=Array.toList_inj.1 hargs
  split at h
  ·rename_i v hv
   unfold minC at hv
   split at hv
   ·rename_i k x0 k' y0 hx hy
    simp only[Q6]at hv;subst hv
    split at h
    ·rename_i u hu
     unfold minC at hu
     split at hu
     ·rename_i k2 x2 k3 z0 e2 hz
      simp only[V.one.injEq,C.int.injEq]at e2;obtain⟨rfl,rfl⟩:=e2;simp only[Q6]at hu;subst hu;refine⟨_,h,REff.pure hd fun G dom ρ Z a w hs ha=>⟨.int k (if z0<(if y0<x0 then y0 else x0)then z0 else(if y0<x0 then y0 else x0)),?_,rfl⟩⟩;have hvx:=hs.ev x;rw[ev_one ha hxm hx]at hvx;have hvy:=hs.ev y;rw[ev_one ha hym hy]at hvy;have hvz:=hs.ev z;rw[ev_one ha hzm hz]at hvz;have hvx:a.eval x= .int k x0:=hvx;have hvy:a.eval y= .int k' y0:=hvy;have hvz:a.eval z= .int k3 z0:=hvz;refine hex a w _ ?_;simp only[ea,Builtin.min_,hvx,hvy,hvz,List.map_toArray,List.map_cons,List.map_nil,List.foldlM_cons,List.foldlM_nil,Builtin.min2,Sem.run_bind,Sem.run_pure,Q7]
     cases hu
    exact h.elim
   cases hv
  exact h.elim
 exact h.elim
theorem rOp_sound (hT:TabOk P T){fz:Bool}(hd:dstLt o s.n)(h:rOp T P o.op s nx0 id fz K):∃f,K f∧REff P o s nx0 id f:=by
 cases ho:o.op with
 |move x=>rw[ho]at h;exact sMove (.inl ho) hd h
 |assign x=>rw[ho]at h;exact sMove (.inr ho) hd h
 |pick c a b=>
  rw[ho]at h;simp only[rOp]at h
  split at h
  ·rename_i t ht;exact sPick ho hd ht h
  exact h.elim
 |alloc e=>
  rw[ho]at h;simp only[rOp]at h
  split at h
  ·rename_i E hE;exact sAlloc hT ho hd hE h
  exact h.elim
 |box e x=>rw[ho]at h;exact sBox ho hd h.1 h.2
 |build t parts=>
  rw[ho]at h;simp only[rOp]at h
  split at h
  ·rename_i E hE
   split at h
   ·rename_i fs hfs
    split at h
    ·rename_i cs hf;exact sBuild hT ho hd hE hfs hf h
    exact h.elim
   exact h.elim
  exact h.elim
 |buildSlice t len parts=>rw[ho]at h;exact sBuildSlice hT ho hd h
 |load t x=>rw[ho]at h;exact sLoad hT ho hd h
 |binOp op t x y t'=>rw[ho]at h;exact sBin hT ho hd h
 |unOp op t x=>rw[ho]at h;exact sUn ho hd h
 |convert src dst x=>rw[ho]at h;exact sConvert hT ho hd h
 |makeSlice t l c=>rw[ho]at h;exact sMakeSlice hT ho hd h
 |slice t x lo hi mx=>rw[ho]at h;exact sSlice hT ho hd h
 |fieldAddr t x f=>rw[ho]at h;exact sFieldAddr hT ho hd h
 |indexAddr t x i=>rw[ho]at h;exact sIndexAddr hT ho hd h
 |index t x i=>rw[ho]at h;exact sIndex hT ho hd h
 |extract x i=>
  have hxm:x∈o.op.operands:=by rw[ho];simp[Op.operands]
  rw[ho]at h;simp only[rOp]at h
  split at h
  ·rename_i vs hx
   split at h
   ·rename_i v hv
    refine⟨_,h,REff.pure hd fun G dom ρ Z a w hs ha=>?_⟩;have hev:=hs.ev x;rw[ev_one ha hxm hx]at hev;obtain⟨us,hus,hl⟩:=hev;obtain⟨u,hu,hr⟩:=RepVL.get hl _ _ hv;refine⟨u,?_,RepV.of_V1 hr⟩;unfold execOp;rw[ho];refine run_v ?_;rw[Array.getElem?_toList]at hu;simp only[hus,Instr.extract,hu,Sem.run_pure]
   exact h.elim
  exact h.elim
 |nilCheck x=>
  have hxm:x∈o.op.operands:=by rw[ho];simp[Op.operands]
  rw[ho]at h;simp only[rOp]at h;have key:∀(c:C),s.ev x= .one c→(∀ρ dom ok w v,RepC ρ dom ok w c v→∃ad,v= .pointer (some ad))→K ⟨.one c,none,[]⟩→∃f,K f∧REff P o s nx0 id f:=by
   intro c hx hp hK;refine⟨_,hK,REff.pure hd fun G dom ρ Z a w hs ha=>?_⟩;have hev:=hs.ev x;rw[ev_one ha hxm hx]at hev;obtain⟨ad,hv⟩:=hp _ _ _ _ _ hev;refine⟨a.eval x,?_,hev⟩;unfold execOp;rw[ho];simp only[hv];rfl
  split at h
  ·rename_i b off hx
   exact key _ hx (fun _ _ _ _ _ hr=>by obtain⟨_,g,o,_,hv⟩:=hr;exact⟨_,hv⟩) h
  ·rename_i c wd i off hx
   exact key _ hx (fun _ _ _ _ _ hr=>by obtain⟨g,o,_,_,_,_,hv⟩:=hr;exact⟨_,hv⟩) h
  ·rename_i b wd i off hx
   exact key _ hx (fun _ _ _ _ _ hr=>by obtain⟨_,_,g,o,_,hv⟩:=hr;exact⟨_,hv⟩) h
  exact h.elim
 |field t x f=>rw[ho]at h;exact sField hT ho hd h
 |makeFunc fn first captured=>
  rw[ho]at h;simp only[rOp]at h
  split at h
  ·rename_i f hf
   obtain⟨hcap,h⟩:=h;have e1:first= #[]:=Array.eq_empty_of_size_eq_zero hf;have hcm:∀x∈captured.toList,x∈o.op.operands:=fun x hx=>by rw[ho];simp only[Op.operands];exact Array.mem_append_right _ (by simpa using hx)
   refine⟨_,h,REff.pure hd fun G dom ρ Z a w hs ha=>⟨.func (.func f) #[] (captured.map a.eval),?_,⟨captured.map a.eval,rfl,by simp,fun i hi=>?_⟩⟩⟩
   ·unfold execOp;rw[ho,e1];refine run_v ?_
    simp[Instr.makeFunc]
   have hx:captured.toList[i]? =some captured[i]:=by simp[hi]
   have hm:captured[i]∈captured.toList:=List.mem_of_getElem? hx;have h1:capOk (s.ev captured[i])=true:=List.all_eq_true.1 hcap _ hm;have e2:(captured.toList.map s.ev).getD i .unk=s.ev captured[i]:=by
    rw[X7,List.getElem?_map,hx];rfl
   have e3:(captured.map a.eval).getD i undef=a.eval captured[i]:=by
    simp[Array.getD_eq_getD_getElem?,hi]
   show RepB ρ dom _ w (capOf ((captured.toList.map s.ev).getD i .unk)) ((captured.map a.eval).getD i undef);rw[e2,e3];have hev:=hs.ev captured[i];rw[ha.ev _ (hcm _ hm)]at hev
   cases hv:s.ev captured[i]with
   |one c=>
    rw[hv]at hev h1;refine RepB.of_repC (fun f n cs hc=>?_) hev;have hc:c= .fn f n cs:=hc;rw[hc]at h1
    simp[capOk]at h1
   |agg cs=>rw[hv]at h1;simp[capOk]at h1
   |tup cs=>rw[hv]at h1;simp[capOk]at h1
   |unk=>rw[hv]at h1;simp[capOk]at h1
  exact h.elim
 |call c=>
  rw[ho]at h;simp only[rOp]at h
  split at h
  ·rename_i b hb;exact sBuiltin hT ho hb hd h
  ·rename_i g hg;exact sCall ho hg hd h
  exact h.elim
 |_=>rw[ho]at h;exact h.elim
end
end Go.Eng
namespace Go.Eng
open Go
def WEff (P:Program)(o:Oper)(s:St)(K:St→Prop):Prop:=
 ∀G a w,Sim G s a w→∀Q next,(∀s' a' w',K s'→Sim G s' a' w'→next a' w')→o.wp P a w next Q
theorem frzs_nil (l:List (Nat×Blk)):frz l []=l:=by
 induction l with
 |nil=>rfl
 |cons x l ih=>obtain⟨b,B⟩:=x;simp[frz,ih]
theorem frzs_eq (l:List (Nat×Blk))(ids:List Nat):frzs l ids=frz l ids:=by
 cases ids with
 |nil=>rw[frzs_nil];rfl
 |cons x r=>rfl
theorem rowSize_of {w:World}{g:Nat}{cur:Array Value}{e:TypeId}{f:Nat×Nat}(h:w.heap[g]? =some (.cells cur e f)):rowSize w g=cur.size:=by simp[rowSize,h]
theorem SimR.rewrite {G:Ctx}{dom:Nat→Prop}{ρ:Nat→Loc}{s:St}{a:Act}{w:World}(h:SimR G dom ρ s a w){b g o:Nat}{B:Bk}(hl:lo s.own b=some ⟨B,true⟩)(haddr:(ρ b).addr=some (g,o))
  {cur cur':Array Value} {e:TypeId} (hg:w.heap[g]? =some (.cells cur e (0,0))) (hsz:cur'.size=cur.size) {id:Nat} (hid:¬dom id) (B':Bk) (o1:Nat)
  (hrep:∀j c,B'.cell j=some c→∃u,cur'[o1+j]? =some u∧(match B' with|.var _=>RepC ρ dom (okOf G s.own ρ w) w c u|.wins .. =>RepC ρ dom (okOf G s.own ρ w) w c u|_=>RepI (okOf G s.own ρ w) w c u)):
  SimR G (fun b=>dom b∨b=id) (setLoc ρ id ⟨some (g,o1),B'.len⟩) {s with own:=upd (del s.own b) id ⟨B',true⟩} a (w.setRow g cur'):=by
 have hs:=Same.setLoc ρ ⟨some (g,o1),B'.len⟩ hid;have hne:∀b B',lo s.own b=some B'→b≠id:=fun b B' hl e=>hid (e▸(h.own b B' hl).1);obtain⟨_,_,_,hloc⟩:=h.own b _ hl;obtain⟨hgl,hgf,hgm⟩:=hloc g o haddr;have hheap:∀g',g'≠g→(w.setRow g cur').heap[g']? =w.heap[g']? :=fun g' hn=>setRow_other w g g' cur' hn;have hext:Ext (okOf G s.own ρ w) (okOf G (upd (del s.own b) id ⟨B',true⟩) (setLoc ρ id ⟨some (g,o1),B'.len⟩) (w.setRow g cur')) w (w.setRow g cur'):=by
  refine⟨fun g' hg'=>?_,fun g'=>?_⟩
  ·have hng:g'≠g:=fun e=>by subst e;exact hg'.2.2 b _ hl rfl o haddr
   refine⟨⟨by simpa using hg'.1,hg'.2.1,fun b2 B2 hl2 hrw o2=>?_⟩,hheap g' hng⟩;rw[lo_upd]at hl2
   by_cases hbi:b2=id
   ·subst hbi;rw[sLs];intro he
    have:g=g':=by simpa using congrArg (Option.map Prod.fst) he
    exact hng this.symm
   rw[if_neg hbi,lo_del]at hl2;rw[setLoc_ne _ _ hbi]
   split at hl2
   ·cases hl2
   exact hg'.2.2 b2 B2 hl2 hrw o2
  by_cases hng:g'=g
  ·subst hng;rw[rowSize_of hg,rowSize_of (setRow_heap w g' cur cur' e (0,0) hg),hsz];exact O1 _
  rw[rowSize_of_block (hheap g' hng)];exact O1 _
 refine h.turn hext hs ?_ ?_ rfl rfl rfl (by simp) (fun k hk hm=>hheap k (fun e=>?_))
 ·intro b2 B2 hl2;rw[lo_upd]at hl2
  by_cases hbi:b2=id
  ·subst hbi;rw[if_pos rfl]at hl2;obtain rfl:=Option.some.inj hl2;rw[sLs];refine⟨.inr rfl,rfl,?_,fun g' o' ha=>?_⟩
   ·unfold RepBk;refine⟨cur',e,setRow_heap w g cur cur' e (0,0) hg,fun j c hj=>?_⟩;obtain⟨u,hu,hr⟩:=hrep j c hj;refine⟨u,hu,?_⟩
    cases B' with
    |var cs=>exact RepC.ext hext hs _ _ hr
    |ints e k xs=>exact RepI.ext hext _ _ hr
    |rows e wd n f=>exact RepI.ext hext _ _ hr
    |wins e b2 n g=>exact RepC.ext hext hs _ _ hr
   have:g=g':=by simpa using congrArg (Option.map Prod.fst) ha
   subst this;exact⟨by simpa using hgl,hgf,hgm⟩
  rw[if_neg hbi,lo_del]at hl2;rw[setLoc_ne _ _ hbi]
  split at hl2
  ·cases hl2
  rename_i hbb
  obtain⟨h1,h2,h3,h4⟩:=h.own b2 B2 hl2;refine⟨.inl h1,h2,RepBk.ext hext hs _ _ (fun g' o' ha=>hheap g' (fun e=>?_)) h3,fun g' o' ha=>by simpa using h4 g' o' ha⟩;subst e;exact h.inj b _ b2 B2 hl hl2 (fun e=>hbb e.symm) rfl g' o o' haddr ha
 ·intro b2 B2 b3 B3 hl2 hl3 hne' hrw g' o2 o3 ha;rw[lo_upd]at hl2 hl3
  by_cases hbi:b2=id
  ·subst hbi;rw[if_neg (fun e=>hne' e.symm),lo_del]at hl3;rw[sLs]at ha;rw[setLoc_ne _ _ (fun e=>hne' e.symm)];have hgg:g=g':=by simpa using congrArg (Option.map Prod.fst) ha
   subst hgg
   split at hl3
   ·cases hl3
   rename_i hbb
   exact h.inj b _ b3 B3 hl hl3 (fun e=>hbb e.symm) rfl g o o3 haddr
  rw[if_neg hbi,lo_del]at hl2;rw[setLoc_ne _ _ hbi]at ha
  split at hl2
  ·cases hl2
  rename_i hbb
  by_cases hbi':b3=id
  ·subst hbi';rw[sLs];intro ha';have hgg:g=g':=by simpa using congrArg (Option.map Prod.fst) ha'
   subst hgg;exact h.inj b2 B2 b _ hl2 hl hbb hrw g o2 o ha haddr
  rw[if_neg hbi',lo_del]at hl3;rw[setLoc_ne _ _ hbi']
  split at hl3
  ·cases hl3
  exact h.inj b2 B2 b3 B3 hl2 hl3 hne' hrw g' o2 o3 ha
 subst e
 rcases hgm with hgm|hgm
 ·omega
 exact hm hgm
theorem SimR.write {G:Ctx}{dom:Nat→Prop}{ρ:Nat→Loc}{s:St}{a:Act}{w:World}(h:SimR G dom ρ s a w){b g o:Nat}{B:Bk}(hl:lo s.own b=some ⟨B,true⟩)(haddr:(ρ b).addr=some (g,o))
  {cur cur':Array Value} {e:TypeId} (hg:w.heap[g]? =some (.cells cur e (0,0))) (hsz:cur'.size=cur.size) (B':Bk) (hlen:B'.len=B.len)
  (hrep:∀j c,B'.cell j=some c→∃u,cur'[o+j]? =some u∧(match B' with|.var _=>RepC ρ dom (okOf G s.own ρ w) w c u|.wins .. =>RepC ρ dom (okOf G s.own ρ w) w c u|_=>RepI (okOf G s.own ρ w) w c u)):
  SimR G dom ρ {s with own:=upd s.own b ⟨B',true⟩} a (w.setRow g cur'):=by
 have hs:Same dom dom ρ ρ:=⟨fun _ h=>h,fun _ _=>rfl⟩;obtain⟨hdomb,hlenb,_,hloc⟩:=h.own b _ hl;obtain⟨hgl,hgf,hgm⟩:=hloc g o haddr;have hheap:∀g',g'≠g→(w.setRow g cur').heap[g']? =w.heap[g']? :=fun g' hn=>setRow_other w g g' cur' hn;have hext:Ext (okOf G s.own ρ w) (okOf G (upd s.own b ⟨B',true⟩) ρ (w.setRow g cur')) w (w.setRow g cur'):=by
  refine⟨fun g' hg'=>?_,fun g'=>?_⟩
  ·have hng:g'≠g:=fun e=>by subst e;exact hg'.2.2 b _ hl rfl o haddr
   refine⟨⟨by simpa using hg'.1,hg'.2.1,fun b2 B2 hl2 hrw o2=>?_⟩,hheap g' hng⟩;rw[lo_upd]at hl2
   by_cases hbi:b2=b
   ·subst hbi;intro he;rw[haddr]at he
    have:g=g':=by simpa using congrArg (Option.map Prod.fst) he
    exact hng this.symm
   rw[if_neg hbi]at hl2;exact hg'.2.2 b2 B2 hl2 hrw o2
  by_cases hng:g'=g
  ·subst hng;rw[rowSize_of hg,rowSize_of (setRow_heap w g' cur cur' e (0,0) hg),hsz];exact O1 _
  rw[rowSize_of_block (hheap g' hng)];exact O1 _
 refine h.turn hext hs ?_ ?_ rfl rfl rfl (by simp) (fun k hk hm=>hheap k (fun e=>?_))
 ·intro b2 B2 hl2;rw[lo_upd]at hl2
  by_cases hbi:b2=b
  ·subst hbi;rw[if_pos rfl]at hl2;obtain rfl:=Option.some.inj hl2;refine⟨hdomb,by rw[hlenb];exact hlen.symm,?_,fun g' o' ha=>by simpa using hloc g' o' ha⟩;unfold RepBk;rw[haddr];refine⟨cur',e,setRow_heap w g cur cur' e (0,0) hg,fun j c hj=>?_⟩;obtain⟨u,hu,hr⟩:=hrep j c hj;refine⟨u,hu,?_⟩
   cases B' with
   |var cs=>exact RepC.ext hext hs _ _ hr
   |ints e k xs=>exact RepI.ext hext _ _ hr
   |rows e wd n f=>exact RepI.ext hext _ _ hr
   |wins e b2 n g=>exact RepC.ext hext hs _ _ hr
  rw[if_neg hbi]at hl2;obtain⟨h1,h2,h3,h4⟩:=h.own b2 B2 hl2;refine⟨h1,h2,RepBk.ext hext hs _ _ (fun g' o' ha=>hheap g' (fun e=>?_)) h3,fun g' o' ha=>by simpa using h4 g' o' ha⟩;subst e;exact h.inj b _ b2 B2 hl hl2 (fun e=>hbi e.symm) rfl g' o o' haddr ha
 ·intro b2 B2 b3 B3 hl2 hl3 hne' hrw g' o2 o3 ha;rw[lo_upd]at hl2 hl3
  by_cases hbi:b2=b
  ·subst hbi;rw[if_neg (fun e=>hne' e.symm)]at hl3;exact h.inj b2 _ b3 B3 hl hl3 hne' rfl g' o2 o3 ha
  rw[if_neg hbi]at hl2
  by_cases hbi':b3=b
  ·subst hbi';exact h.inj b2 B2 b3 _ hl2 hl hne' hrw g' o2 o3 ha
  rw[if_neg hbi']at hl3;exact h.inj b2 B2 b3 B3 hl2 hl3 hne' hrw g' o2 o3 ha
 subst e
 rcases hgm with hgm|hgm
 ·omega
 exact hm hgm
def setElt (f:Nat→Nat→C)(i off:Nat)(l:List C):Nat→Nat→C:=
 fun i' j'=>if i'=i then(if off≤j' then(if j'<off+l.length then l.getD (j'-off) .any else f i' j')else f i' j')else f i' j'
def winC:C→Bool
 |.own _ _ _ _=>true
 |.nil=>true
 |.ints _ _=>true
 |.rows _ _ _=>true
 |_=>false
def winId (b2:Nat):C→Nat
 |.own b _ _ _=>b
 |_=>b2
def retagV (b b3:Nat):V→V
 |.one (.win b' x o l)=>if b'=b then .one (.win b' b3 o l)else .one (.win b' x o l)
 |v=>v
def retagE (b b3:Nat):List (Nat×V)→List (Nat×V)
 |[]=>[]
 |p::r=>(p.1,retagV b b3 p.2)::retagE b b3 r
theorem lk_retag (b b3:Nat):∀(l:List (Nat×V)) (t:Nat),lk (retagE b b3 l) t=retagV b b3 (lk l t)
 |[],_=>rfl
 |(t',v)::r,t=>by
  show(if t=t' then retagV b b3 v else lk (retagE b b3 r) t)=retagV b b3 (if t=t' then v else lk r t)
  split
  ·rfl
  exact lk_retag b b3 r t
theorem retagV_rep {ρ:Nat→Loc}{dom ok:Nat→Prop}{w:World}{b b3:Nat}(hd:dom b3){x:V}{v:Value}(h:RepV ρ dom ok w x v):RepV ρ dom ok w (retagV b b3 x) v:=by
 unfold retagV
 split
 ·split
  ·exact⟨hd,h.2⟩
  exact h
 exact h
theorem SimR.retag {G:Ctx}{dom:Nat→Prop}{ρ:Nat→Loc}{s:St}{a:Act}{w:World}(h:SimR G dom ρ s a w)(b b3:Nat)(hd:dom b3):SimR G dom ρ {s with env:=retagE b b3 s.env} a w:=
 {h with env:=fun t=>by rw[lk_retag];exact retagV_rep hd (h.env t)}
def wStore (T:Tab)(s:St)(t:TypeId)(x y:Operand)(K:St→Prop):Prop:=
 match T t with
 |some E=>match s.ev x with
  |.one (.ptr b off)=>match lo s.own b with
   |some ⟨.var cs,rw⟩=>rw=true∧0<E.size∧(s.ev y).solid=true∧(cellsOf (s.ev y)).length=E.size∧off+E.size≤cs.length∧
     K {s with own:=upd s.own b ⟨.var (splice cs off (cellsOf (s.ev y))),true⟩}
   |_=>False
  |.one (.eptr b wd i off)=>match lo s.own b with
   |some ⟨.ints e k xs,rw⟩=>match s.ev y with
    |.one (.int k' n)=>rw=true∧k'=k∧wd=1∧E.size=1∧off=0∧K {s with own:=upd s.own b ⟨.ints e k (xs.set i n),true⟩}
    |_=>False
   |some ⟨.rows e w n f,rw⟩=>rw=true∧wd=w∧0<E.size∧(s.ev y).solid=true∧(cellsOf (s.ev y)).length=E.size∧off+E.size≤wd∧(idsV (s.ev y)).contains b=false∧
     K {s with own:=upd (frzs s.own (idsV (s.ev y))) b ⟨.rows e w n (setElt f i off ((cellsOf (s.ev y)).map (vwC s.own s.nx))),true⟩}
   |some ⟨.wins e b2 n g,rw⟩=>match s.ev y with
    |.one c=>rw=true∧wd=1∧E.size=1∧off=0∧winC c=true∧K {s with env:=if winId b2 c=b2 then s.env else retagE b (winId b2 c) s.env,own:=upd s.own b ⟨.wins e (winId b2 c) n (fun j=>if j=i then c else g j),true⟩}
    |_=>False
   |_=>False
  |_=>False
 |none=>False
theorem storeVar_run {P:Program}{w:World}{t:TypeId}{i:TypeInfo}(hi:P.info? t=some i){g o:Nat}{cur:Array Value}{e:TypeId}(hg:w.heap[g]? =some (.cells cur e (0,0)))(v:Value)(hv:v.cells.size=i.size)
  (hfit:o+i.size≤cur.size) (h1:∀u∈v.cells.toList,u.oneCell'=true):
  (storeVar t ⟨g,o,none⟩ v).run P w= .ok () (w.setRow g (cur.toList.take o++v.cells.toList++cur.toList.drop (o+i.size)).toArray):=by
 have hst:=run_storeCells_at P g o e v.cells.toList 0 cur w hg (by simp;omega) h1;simp only[Nat.add_zero,Array.length_toList,hv]at hst;simp only[storeVar,Sem.run_bind,run_sizeOf hi,Q7,hv,ne_eq,not_true_eq_false,↓reduceIte,Sem.run_ite,Sem.run_pure,hst]
theorem laid_get (cur:List Value)(o:Nat)(us:List Value)(h:o+us.length≤cur.length)(j:Nat):
  (cur.take o++us++cur.drop (o+us.length))[j]? =if o≤j∧j<o+us.length then us[j-o]? else cur[j]? :=by
 rw[List.append_assoc,List.getElem?_append,List.getElem?_append,X5]
 by_cases h1:j<o
 ·rw[if_pos (by omega),if_neg (by omega),List.getElem?_take,if_pos h1]
 rw[if_neg (by omega)]
 by_cases h2:j<o+us.length
 ·rw[if_pos (by omega),if_pos (by omega)];congr 1;omega
 rw[if_neg (by omega),if_neg (by omega),List.getElem?_drop];congr 1;omega
theorem RepL.oneCells {ρ:Nat→Loc}{dom ok:Nat→Prop}{w:World}:∀{cs:List C} {vs:List Value},RepL ρ dom ok w cs vs→∀u∈vs,u.oneCell'=true
 |[],[],_,u,hu=>by simp at hu
 |_::cs,_::vs,h,u,hu=>by
  rcases List.mem_cons.1 hu with rfl|hu
  ·exact(RepC.plain h.1).1
  exact RepL.oneCells h.2 u hu
 |[],_::_,h,_,_=>h.elim
 |_::_,[],h,_,_=>h.elim
section
variable {P:Program}{T:Tab}(hT:TabOk P T){o:Oper}{s:St}{K:St→Prop}
include hT in
theorem sStore {t:TypeId}{x y:Operand}(ho:o.op= .store t x y)(hd:o.dst=none)(h:wStore T s t x y K):WEff P o s K:=by
 intro G a w hsim Q next hk;obtain⟨ρ,hs⟩:=hsim;have hevx:=hs.ev x;have hevy:=hs.ev y;have hrun:∀(g off:Nat) (w':World),a.eval x= .pointer (some ⟨g,off,none⟩)→(storeVar t ⟨g,off,none⟩ (a.eval y)).run P w= .ok () w'→next a w'→o.wp P a w next Q:=by
  intro g off w' he hr hn;unfold Oper.wp execOp;rw[ho];simp only[Instr.storeAt,he,Instr.sureAddr,Sem.run_bind,Sem.run_pure,Q7,hr,Oper.upon_skip,hd];exact hn
 unfold wStore at h
 cases hTt:T t with
 |none=>rw[hTt]at h;exact h.elim
 |some E=>
  rw[hTt]at h;simp only at h;obtain⟨i,d,z,hi,hu,_,hkk,hsz,_⟩:=T_parts hT hTt
  split at h
  ·rename_i b off hx
   rw[hx]at hevx;obtain⟨_,g,o',haddr,hval⟩:=hevx
   split at h
   ·rename_i cs rw_ hl
    obtain⟨rfl,hpos,hsol,hlen,hle,hK⟩:=h;obtain⟨_,_,hrep,_⟩:=hs.own b _ hl;unfold RepBk at hrep;rw[haddr]at hrep;obtain⟨cur,e,hg,hc⟩:=hrep;simp only at hc;have hcells:=RepV.cells hevy hsol;have hvs:(a.eval y).cells.size=i.size:=by have:=RepL.length hcells;simp only[Array.length_toList]at this;omega
    have hfit:o'+off+i.size≤cur.size:=by
     obtain⟨u,hu',_⟩:=hc (off+i.size-1) cs[off+i.size-1] (by simp only[Bk.cell];exact X8 (by omega))
     have:=(Array.getElem?_eq_some_iff.1 hu').1
     omega
    refine hrun g _ _ hval (storeVar_run hi hg _ hvs hfit (RepL.oneCells hcells)) (hk _ _ _ hK ⟨ρ,?_⟩);have hvl:(a.eval y).cells.toList.length=i.size:=by simpa using hvs
    refine hs.write hl haddr hg (by simp[hvs];omega) (.var (splice cs off (cellsOf (s.ev y)))) rfl fun j c hj=>?_;simp only[Bk.cell]at hj;rw[splice_get _ _ _ (by omega)]at hj;have hlg:=laid_get cur.toList (o'+off) (a.eval y).cells.toList (by simp only[Array.length_toList]at hvl⊢;omega) (o'+j);rw[hvl]at hlg;simp only[List.getElem?_toArray,hlg]
    by_cases hm:off≤j∧j<off+(cellsOf (s.ev y)).length
    ·rw[if_pos hm]at hj;rw[if_pos (by omega),show o'+j-(o'+off)=j-off by omega];exact RepL.get hcells _ _ hj
    rw[if_neg hm]at hj;rw[if_neg (by omega),Array.getElem?_toList];exact hc j c hj
   exact h.elim
  ·rename_i b wd ix off hx
   rw[hx]at hevx;obtain⟨_,hix,g,o',haddr,hval⟩:=hevx
   split at h
   ·rename_i e k xs rw_ hl
    split at h
    ·rename_i k' n hy
     obtain⟨rfl,rfl,rfl,hE1,rfl,hK⟩:=h;obtain⟨_,hlenρ,hrep,_⟩:=hs.own b _ hl;unfold RepBk at hrep;rw[haddr]at hrep;obtain⟨cur,e',hg,hc⟩:=hrep;simp only at hc;rw[hlenρ]at hix;simp only[Bk.len]at hix;rw[hy]at hevy;have hyv:a.eval y= .int k' n:=hevy;have hfit:o'+(ix*1+0)+i.size≤cur.size:=by
      obtain⟨u,hu',_⟩:=hc ix (.int k' (xs.getD ix 0)) (by simp[Bk.cell,X8 hix])
      have:=(Array.getElem?_eq_some_iff.1 hu').1
      omega
     have hvs:(a.eval y).cells.size=i.size:=by rw[hyv,←hsz,hE1];rfl
     have hvl:(a.eval y).cells.toList.length=i.size:=by simpa using hvs
     refine hrun g _ _ hval (storeVar_run hi hg _ hvs hfit (by rw[hyv];simp[Value.cells,Value.oneCell'])) (hk _ _ _ hK ⟨ρ,?_⟩);refine hs.write hl haddr hg (by simp[hvs];omega) (.ints e k' (xs.set ix n)) (by simp[Bk.len]) fun j c hj=>?_;have hlg:=laid_get cur.toList (o'+(ix*1+0)) (a.eval y).cells.toList (by simp only[Array.length_toList]at hvl⊢;omega) (o'+j);rw[hvl]at hlg;simp only[List.getElem?_toArray,hlg];simp only[Bk.cell,List.getElem?_set]at hj
     by_cases hm:j=ix
     ·subst hm;rw[if_pos (by omega),hyv];rw[if_pos rfl,if_pos hix]at hj;simp only[Option.map_some,Q6]at hj;subst hj;exact⟨.int k' n,by simp[Value.cells],rfl⟩
     rw[if_neg (by omega),Array.getElem?_toList];rw[if_neg (fun e=>hm e.symm)]at hj;exact hc j c hj
    exact h.elim
   ·rename_i e wd' n f rw_ hl
    obtain⟨rfl,rfl,hpos,hsol,hlen,hle,hnid,hK⟩:=h;obtain⟨_,hlenρ,hrep,_⟩:=hs.own b _ hl;unfold RepBk at hrep;rw[haddr]at hrep;obtain⟨cur,e',hg,hc⟩:=hrep;simp only at hc;rw[hlenρ]at hix;simp only[Bk.len]at hix;have hcells:=RepV.cells hevy hsol;have hvs:(a.eval y).cells.size=i.size:=by have:=RepL.length hcells;simp only[Array.length_toList]at this;omega
    have hvl:(a.eval y).cells.toList.length=i.size:=by simpa using hvs
    have hrow:∀j,j<wd→ix*wd+j<n*wd:=fun j hj=>by
     have:(ix+1)*wd≤n*wd:=O8 _ hix
     rw[Nat.add_mul]at this;omega
    have hfit:o'+(ix*wd+off)+i.size≤cur.size:=by
     have hlt:=hrow (off+i.size-1) (by omega);obtain⟨u,hu',_⟩:=hc (ix*wd+(off+i.size-1)) (f ((ix*wd+(off+i.size-1))/wd) ((ix*wd+(off+i.size-1))%wd)) (by simp only[Bk.cell,if_pos hlt])
     have:=(Array.getElem?_eq_some_iff.1 hu').1
     omega
    have hids:∀x:V,(cellsOf x).flatMap idsC=idsV x:=fun x=>by cases x<;>simp [cellsOf,idsV]
    have hview:=vwL_sound hs (Agr.refl s s.nx o) (idsV (s.ev y)) (cellsOf (s.ev y)) _ (fun b hb _=>by rw[hids]at hb;exact hb) hcells;have h1:=hs.frz (idsV (s.ev y));have hl1:lo (frz s.own (idsV (s.ev y))) b=some ⟨.rows e wd n f,true⟩:=by
     rw[lo_frz,hl];simp only[Option.map_some,hnid,Bool.false_eq_true,↓reduceIte]
    rw[frzs_eq]at hK;refine hrun g _ _ hval (storeVar_run hi hg _ hvs hfit (RepL.oneCells hcells)) (hk _ _ _ hK ⟨ρ,?_⟩);refine h1.write hl1 haddr hg (by simp[hvs];omega) (.rows e wd n (setElt f ix off ((cellsOf (s.ev y)).map (vwC s.own s.nx)))) rfl fun j c hj=>?_;have hlg:=laid_get cur.toList (o'+(ix*wd+off)) (a.eval y).cells.toList (by simp only[Array.length_toList]at hvl⊢;omega) (o'+j);rw[hvl]at hlg;simp only[List.getElem?_toArray,hlg];simp only[Bk.cell]at hj
    split at hj
    ·rename_i hjn
     simp only[Q6,setElt,List.length_map]at hj;have hwd:0<wd:=by omega
     have hdm:j/wd*wd+j%wd=j:=by rw[O6];exact Nat.div_add_mod j wd
     have hml:j%wd<wd:=Nat.mod_lt _ hwd
     by_cases hm:ix*wd+off≤j∧j<ix*wd+off+i.size
     ·have hjd:j/wd=ix:=by
       rw[Nat.div_eq_iff hwd]
       constructor
       ·omega
       omega
      have hjm:j%wd=j-ix*wd:=by rw[hjd]at hdm;omega
      rw[if_pos hjd,hjm,if_pos (by omega),if_pos (by omega)]at hj;rw[if_pos (by omega),show o'+j-(o'+(ix*wd+off))=j-ix*wd-off by omega];have hq:j-ix*wd-off<(cellsOf (s.ev y)).length:=by omega
      have hgl:((cellsOf (s.ev y)).map (vwC s.own s.nx))[j-ix*wd-off]? =some c:=by
       rw[←hj,X7];rw[X8 (by simpa using hq)];rfl
      obtain⟨u,hu',hr⟩:=RepL.get hview _ _ hgl;exact⟨u,hu',RepI.ext (Ext.of_imp fun g' hg'=>okIds_frz hs _ hg') _ _ (RepI.of_loc0 hr)⟩
     rw[if_neg (by omega),Array.getElem?_toList];have hfc:f (j/wd) (j%wd)=c:=by
      by_cases hjd:j/wd=ix
      ·rw[if_pos hjd]at hj;have hjm:j%wd=j-ix*wd:=by rw[hjd]at hdm;omega
       have hge:ix*wd≤j:=by rw[hjd]at hdm;omega
       by_cases h2:off≤j%wd
       ·rw[if_pos h2,if_neg (by omega)]at hj;exact hj
       rw[if_neg h2]at hj;exact hj
      rw[if_neg hjd]at hj;exact hj
     obtain⟨u,hu',hr⟩:=hc j c (by simp only[Bk.cell,if_pos hjn,hfc]);exact⟨u,hu',RepI.ext (Ext.of_imp fun g' hg'=>okOf_frz hg') _ _ hr⟩
    cases hj
   ·rename_i e b2 n f rw_ hl
    split at h
    ·rename_i c hy
     obtain⟨rfl,rfl,hE1,rfl,_,hK⟩:=h;obtain⟨_,hlenρ,hrep,_⟩:=hs.own b _ hl;unfold RepBk at hrep;rw[haddr]at hrep;obtain⟨cur,e',hg,hc⟩:=hrep;simp only at hc;rw[hlenρ]at hix;simp only[Bk.len]at hix;rw[hy]at hevy;have hyv:RepC ρ (fun b=>b<s.nx) (okOf G s.own ρ w) w c (a.eval y):=hevy;have hpl:=RepC.plain hyv;have hfit:o'+(ix*1+0)+i.size≤cur.size:=by
      obtain⟨u,hu',_⟩:=hc ix (f ix) (by simp only[Bk.cell,if_pos hix])
      have:=(Array.getElem?_eq_some_iff.1 hu').1
      omega
     have hvs:(a.eval y).cells.size=i.size:=by rw[hpl.2,←hsz,hE1];rfl
     have hvl:(a.eval y).cells.toList.length=i.size:=by simpa using hvs
     refine hrun g _ _ hval (storeVar_run hi hg _ hvs hfit (by rw[hpl.2];simpa using hpl.1)) (hk _ _ _ hK ⟨ρ,?_⟩);have key:∀s',SimR G (fun b=>b<s.nx) ρ s' a (w.setRow g (cur.toList.take (o'+(ix*1+0))++(a.eval y).cells.toList++cur.toList.drop (o'+(ix*1+0)+i.size)).toArray)→∀b3,(b3=winId b2 c)→SimR G (fun b=>b<s.nx) ρ {s' with env:=if b3=b2 then s'.env else retagE b b3 s'.env} a (w.setRow g (cur.toList.take (o'+(ix*1+0))++(a.eval y).cells.toList++cur.toList.drop (o'+(ix*1+0)+i.size)).toArray):=by
      intro s' h' b3 e3
      by_cases e4:b3=b2
      ·rw[if_pos e4];exact h'
      rw[if_neg e4];refine h'.retag b b3 ?_
      cases c with
      |own bb ww oo ll=>subst e3;exact hyv.1
      |_=>exact absurd e3 e4
     refine key {s with own:=upd s.own b ⟨.wins e (winId b2 c) n (fun j=>if j=ix then c else f j),true⟩} ?_ (winId b2 c) rfl;refine hs.write hl haddr hg (by simp[hvs];omega) (.wins e (winId b2 c) n (fun j=>if j=ix then c else f j)) rfl fun j c' hj=>?_;have hlg:=laid_get cur.toList (o'+(ix*1+0)) (a.eval y).cells.toList (by simp only[Array.length_toList]at hvl⊢;omega) (o'+j);rw[hvl]at hlg;simp only[List.getElem?_toArray,hlg];simp only[Bk.cell]at hj
     split at hj
     ·rename_i hjn
      simp only[Q6]at hj
      by_cases hm:j=ix
      ·subst hm;rw[if_pos rfl]at hj;rw[if_pos (by omega),hpl.2,←hj];exact⟨a.eval y,by simp,hyv⟩
      rw[if_neg hm]at hj;rw[if_neg (by omega),Array.getElem?_toList];exact hc j c' (by simp only[Bk.cell,if_pos hjn,hj])
     cases hj
    exact h.elim
   exact h.elim
  exact h.elim
end
end Go.Eng
namespace Go.Eng
open Go
def HoldsAt (w:World)(a:Option Addr)(us:List Value):Prop:=us=[]∨∃ad,a=some ad∧∀(j:Nat) u,us[j]? =some u→w.cell? (ad.add j)=some u
theorem firstCells_run {P:Program}{w:World}(size n:Nat)(a:Option Addr)(len cap:Nat)(us:List Value)(hl:us.length=n*size)(h:HoldsAt w a us):
  (Builtin.firstCells size n (.slice a len cap)).run P w= .ok us.toArray w:=by
 rcases h with rfl|⟨ad,rfl,h⟩
 ·cases a with
  |none=>simp[Builtin.firstCells]
  |some ad=>
   simp only[Builtin.firstCells];rw[←hl];exact loadCells_run ad [] (fun j u hj=>by simp at hj)
 exact run_firstCells_some w size n ad len cap us hl h
structure Cells (ok:Nat→Prop) (w:World) (wd n:Nat) (f:Nat→Nat→C) (a:Option Addr) (us:List Value):Prop where
 len:us.length=n*wd
 at_:HoldsAt w a us
 one:∀u∈us,u.oneCell'=true
 rep:∀i j,i<n→j<wd→∃u,us[i*wd+j]? =some u∧RepI ok w (f i j) u
theorem cells_of {ok:Nat→Prop}{w:World}{wd n g o:Nat}{f:Nat→Nat→C}(h:∀i j,i<n→j<wd→∃u,w.cell? ⟨g,o+(i*wd+j),none⟩=some u∧RepI ok w (f i j) u):
  ∃us,Cells ok w wd n f (some ⟨g,o,none⟩) us:=by
 refine⟨(List.range (n*wd)).map (fun t=>(w.cell? ⟨g,o+t,none⟩).getD undef),?_⟩;have key:∀t,t<n*wd→∃u,w.cell? ⟨g,o+t,none⟩=some u∧RepI ok w (f (t/wd) (t%wd)) u:=by
  intro t ht
  have hwd:0<wd:=by rcases Nat.eq_zero_or_pos wd with h0|h0;(subst h0;simp at ht);exact h0
  have h1:t/wd<n:=by rw[Nat.div_lt_iff_lt_mul hwd];exact ht
  obtain⟨u,hu,hr⟩:=h (t/wd) (t%wd) h1 (Nat.mod_lt _ hwd)
  have:t/wd*wd+t%wd=t:=by rw[O6];exact Nat.div_add_mod t wd
  rw[this]at hu;exact⟨u,hu,hr⟩
 refine⟨by simp,.inr ⟨_,rfl,fun j u hj=>?_⟩,fun u hu=>?_,fun i j hi hj=>?_⟩
 ·simp only[List.getElem?_map]at hj;obtain⟨t,ht,he⟩:=Option.map_eq_some_iff.1 hj;obtain⟨hlt,rfl⟩:j<n*wd∧j=t:=by
   have:=List.getElem?_eq_some_iff.1 ht
   obtain⟨h1,h2⟩:=this;simp at h1 h2;exact⟨h1,h2⟩
  obtain⟨u',hu',_⟩:=key j hlt;rw[add_lit',hu'];rw[hu']at he
  simpa using he
 ·obtain⟨t,ht,he⟩:=List.mem_map.1 hu;obtain⟨u',hu',hr⟩:=key t (by simpa using ht);rw[hu']at he;simp only[Option.getD_some]at he;subst he;exact(RepI.plain hr).1
 obtain⟨u,hu,hr⟩:=h i j hi hj;have hlt:i*wd+j<n*wd:=by
  have:(i+1)*wd≤n*wd:=O8 _ hi
  rw[Nat.add_mul]at this;omega
 exact⟨u,by simp[hlt,hu],hr⟩
theorem cells_nil {ok:Nat→Prop}{w:World}{wd:Nat}{f:Nat→Nat→C}{a:Option Addr}:Cells ok w wd 0 f a []:=
 ⟨by simp,.inl rfl,fun u hu=>by simp at hu,fun i j hi=>absurd hi (O5 _)⟩
def intsC (k:IntKind):C→Option (List Int)
 |.nil=>some []
 |.ints k' xs=>if k'=k then some xs else none
 |_=>none
theorem cells_im {ok:Nat→Prop}{w:World}{c:C}{v:Value}(h:RepI ok w c v):
  (∀k xs,intsC k c=some xs→∃a cap us,v= .slice a xs.length cap∧Cells ok w 1 xs.length (fun i _=>.int k (xs.getD i 0)) a us)∧
  (∀wd n f,(match c with|.nil=>n=0|.rows w' n' f'=>w'=wd∧n'=n∧f'=f|_=>False)→∃a cap us,v= .slice a n cap∧Cells ok w wd n f a us):=by
 constructor
 ·intro k xs hx
  cases c with
  |nil=>
   simp only[intsC,Q6]at hx;subst hx;exact⟨none,0,[],h,cells_nil⟩
  |ints k' ys=>
   simp only[intsC]at hx
   split at hx
   ·rename_i hk
    simp only[Q6]at hx;subst hx;subst hk;obtain⟨a,cap,rfl,_,hr⟩:=h
    rcases hr with hr|⟨g,o,rfl,_,hcs⟩
    ·refine⟨a,cap,[],rfl,?_⟩;rw[hr];exact cells_nil
    obtain⟨us,hus⟩:=cells_of (ok:=ok) (wd:=1) (n:=ys.length) (f:=fun i _=>.int k' (ys.getD i 0)) (fun i j hi hj=>⟨_,by rw[show i*1+j=i by omega];exact hcs i hi,rfl⟩);exact⟨_,cap,us,rfl,hus⟩
   cases hx
  |_=>simp[intsC]at hx
 intro wd n f hm
 cases c with
 |nil=>
  simp only at hm;subst hm;exact⟨none,0,[],h,cells_nil⟩
 |rows w' n' f'=>
  simp only at hm;obtain⟨rfl,rfl,rfl⟩:=hm;obtain⟨a,cap,rfl,_,hr⟩:=h
  rcases hr with hr|⟨g,o,rfl,_,hcs⟩
  ·refine⟨a,cap,[],rfl,?_⟩;rw[hr];exact cells_nil
  obtain⟨us,hus⟩:=cells_of hcs;exact⟨_,cap,us,rfl,hus⟩
 |_=>exact hm.elim
theorem append_new_run {P:Program}{w:World}{t ty e:TypeId}{i:TypeInfo}{z:Value}(ht:P.underlying t=some (.slice e))(hi:P.info? e=some i)(hz:i.zero=some z)
  (b:Option Addr) (sLen sCap:Nat) (olds:List Value) (hlo:olds.length=sLen*i.size) (holds:HoldsAt w b olds)
  (a:Option Addr) (n c:Nat) (news:List Value) (hl:news.length=n*i.size) (hnews:HoldsAt w a news)
  (hg:sCap<sLen+n) (hb:(sLen+n)*i.bytes≤140737488355328) (h63:sLen+n≤9223372036854775807):
  (Builtin.append_ #[t,t] ty #[.slice b sLen sCap,.slice a n c]).run P w=
   .ok (.slice (some ⟨w.heap.size,0,none⟩) (sLen+n) (grownCap w (sLen+n) sCap e))
    (w.drew.alloc (.cells (olds.toArray++news.toArray++Builtin.zeroCells z.cells (grownCap w (sLen+n) sCap e-(sLen+n))) e)):=by
 have hn:¬(sLen+n≤sCap):=by omega
 have h63':¬(9223372036854775807<((sLen:Int)+(n:Int))):=by omega
 have hfit:=growslice_fits hg hb;have h48':¬(281474976710656<Builtin.nextslicecap (sLen+n) sCap*i.bytes):=by omega
 have hf:=firstCells_run (P:=P) (w:=w.drew) i.size n a n c news hl hnews;have hfo:=firstCells_run (P:=P) (w:=w.drew) i.size sLen b sLen sCap olds hlo holds
 simp[Builtin.append_,Go.run_underlying ht,sizeOf,typeInfo,zeroValue,hi,hz,Builtin.lenOf,hn,h63',h48',Question.forced,hf,hfo,newRow,grownCap]
 congr 2
 apply Array.ext'
 simp[List.append_assoc]
theorem append_room_run {P:Program}{w:World}{t ty e:TypeId}{i:TypeInfo}(ht:P.underlying t=some (.slice e))(hi:P.info? e=some i)
  (g o sLen sCap:Nat) {cur:Array Value} {e':TypeId} (hg:w.heap[g]? =some (.cells cur e' (0,0)))
  (a:Option Addr) (n c:Nat) (news:List Value) (hl:news.length=n*i.size) (hnews:HoldsAt w a news) (h1:∀u∈news,u.oneCell'=true)
  (hroom:sLen+n≤sCap) (hfit:o+sLen*i.size+news.length≤cur.size):
  (Builtin.append_ #[t,t] ty #[.slice (some ⟨g,o,none⟩) sLen sCap,.slice a n c]).run P w=
   .ok (.slice (some ⟨g,o,none⟩) (sLen+n) sCap) (w.setRow g (cur.toList.take (o+sLen*i.size)++news++cur.toList.drop (o+sLen*i.size+news.length)).toArray):=by
 have hf:=firstCells_run (P:=P) (w:=w) i.size n a n c news hl hnews;have hst:=run_storeCells_at P g (o+sLen*i.size) e' news 0 cur w hg (by simpa using hfit) h1;simp only[Nat.add_zero]at hst
 simp[Builtin.append_,Go.run_underlying ht,sizeOf,typeInfo,hi,Builtin.lenOf,hroom,hf,add_lit',hst]
theorem append_none_run {P:Program}{w:World}{t ty e:TypeId}{i:TypeInfo}(ht:P.underlying t=some (.slice e))(hi:P.info? e=some i)(a:Option Addr)(c:Nat):
  (Builtin.append_ #[t,t] ty #[.slice none 0 0,.slice a 0 c]).run P w= .ok (.slice none 0 0) w:=by
 have hf:=firstCells_run (P:=P) (w:=w) i.size 0 a 0 c [] (by simp) (.inl rfl)
 simp[Builtin.append_,Go.run_underlying ht,sizeOf,typeInfo,hi,Builtin.lenOf,hf]
end Go.Eng
namespace Go.Eng
open Go
def rowsR (wd:Nat):C→Option (Nat×(Nat→Nat→C))
 |.nil=>some (0,fun _ _=>.any)
 |.rows w n f=>if w=wd then some (n,f)else none
 |_=>none
def base0 (own:List (Nat×Blk))(wd:Nat):C→Option (List (Nat×Blk))
 |.nil=>some own
 |.own b w _ _=>if w=wd then(match lo own b with
  |some B=>if B.rw then some (del own b)else none
  |none=>none)else none
 |_=>none
def vwA (own:List (Nat×Blk))(nx0:Nat):C→C
 |.win _ _ _ _=>.any
 |.any=>vwC own nx0 .any
 |.bool b=>vwC own nx0 (.bool b)
 |.int k n=>vwC own nx0 (.int k n)
 |.str s=>vwC own nx0 (.str s)
 |.nil=>vwC own nx0 .nil
 |.ints k xs=>vwC own nx0 (.ints k xs)
 |.rows w n f=>vwC own nx0 (.rows w n f)
 |.own b w o l=>vwC own nx0 (.own b w o l)
 |.ptr b o=>vwC own nx0 (.ptr b o)
 |.elt c w i o=>vwC own nx0 (.elt c w i o)
 |.eptr b w i o=>vwC own nx0 (.eptr b w i o)
 |.fn f n caps=>vwC own nx0 (.fn f n caps)
def isWin:C→Bool
 |.win _ _ _ _=>true
 |_=>false
def asOwn:C→C
 |.win b _ o l=>.own b 1 o l
 |c=>c
def winR (own:List (Nat×Blk))(nx0:Nat)(c:C):Option (Nat×Nat×(Nat→C)):=
 match c with
 |.win b _ off len=>match lo own b with
  |some ⟨.wins _ b3 n g,_⟩=>if off=0 then(if len=n then some (b3,n,g)else none)else none
  |_=>none
 |c=>match rowsR 1 (vwA own nx0 c)with
  |some (n,f)=>some (0,n,fun i=>f i 0)
  |none=>none
def wAppend (T:Tab)(s:St)(dst:Option Tmp)(t:TypeId)(x y:Operand)(K:St→Prop):Prop:=
 match dst with
 |none=>False
 |some d=>
       match T t with
  |some S=>
        match S.k with
   |.sl e=>match T e with
    |some E=>
          match s.ev x,s.ev y with
     |.one cx,.one cy=>match base0 s.own E.size (asOwn cx)with
      |some own0=>match E.k with
       |.int k=>match intsC k (vwA s.own s.nx cx),intsC k (vwA s.own s.nx cy)with
        |some xs,some ys=>E.zero.length=E.size∧E.size=1∧((xs.length+ys.length)*E.bytes≤140737488355328∧xs.length+ys.length≤9223372036854775807)∧
          K {env:=(d,.one (.own s.nx 1 0 (xs++ys).length))::s.env,own:=upd own0 s.nx ⟨.ints e k (xs++ys),true⟩,nx:=s.nx+1,n:=s.n}
        |_,_=>False
       |_=>if(isWin cx||isWin cy)=true then(match winR s.own s.nx cx,winR s.own s.nx cy with
        |some (b3,n,f),some (b4,m,g)=>E.zero.length=E.size∧E.size=1∧((n+m)*E.bytes≤140737488355328∧n+m≤9223372036854775807)∧(if isWin cy=true then b4 else b3)<s.nx∧
          K {env:=(d,.one (.win s.nx (if isWin cy=true then b4 else b3) 0 (n+m)))::s.env,own:=upd own0 s.nx ⟨.wins e (if isWin cy=true then b4 else b3) (n+m) (fun i=>if i<n then f i else g (i-n)),true⟩,nx:=s.nx+1,n:=s.n}
        |_,_=>False)else match rowsR E.size (vwA s.own s.nx cx),rowsR E.size (vwA s.own s.nx cy)with
        |some (n,f),some (m,g)=>E.zero.length=E.size∧0<E.size∧((n+m)*E.bytes≤140737488355328∧n+m≤9223372036854775807)∧
          K {env:=(d,.one (.own s.nx E.size 0 (n+m)))::s.env,own:=upd own0 s.nx ⟨.rows e E.size (n+m) (fun i j=>if i<n then f i j else g (i-n) j),true⟩,nx:=s.nx+1,n:=s.n}
        |_,_=>False
      |none=>False
     |_,_=>False
    |none=>False
   |_=>False
  |none=>False
section
variable {G:Ctx}{dom:Nat→Prop}{ρ:Nat→Loc}{s:St}{a:Act}{w:World}
theorem own_cells (hs:SimR G dom ρ s a w){b wd off len:Nat}{B:Blk}{v:Value}(hl:lo s.own b=some B)(hw:bkW B.bk=wd)(hfl:B.bk.flat)(hr:RepC ρ dom (okOf G s.own ρ w) w (.own b wd off len) v):
  ∃ad cap us,v= .slice ad len cap∧Cells (okOf G s.own ρ w) w wd len (fun i j=>bkElt B.bk (off+i) j) ad us:=by
 obtain⟨_,hlen,hrep,_⟩:=hs.own b B hl;obtain⟨_,hle,cap,hc,hr⟩:=hr
 rcases hr with⟨g,o,o',haddr,rfl,ho,_⟩|⟨_,rfl,rfl,_⟩
 ·by_cases h0:len=0
  ·subst h0;exact⟨_,cap,[],rfl,cells_nil⟩
  unfold RepBk at hrep;rw[haddr]at hrep;obtain⟨cur,e,hg,hcell⟩:=hrep
  have ho':o'=o+off*wd:=by rcases ho with ho|ho<;>omega
  rw[hlen]at hle;obtain⟨us,hus⟩:=cells_of (ok:=okOf G s.own ρ w) (w:=w) (wd:=wd) (n:=len) (g:=g) (o:=o') (f:=fun i j=>bkElt B.bk (off+i) j) (fun i j hi hj=>by
   rw[cell_of_row w g _ cur e (0,0) hg,ho']
   cases hB:B.bk with
   |var cs=>rw[hB]at hfl;exact hfl.elim
   |wins e b2 n g=>rw[hB]at hfl;exact hfl.elim
   |ints e' k xs=>
    rw[hB]at hcell hw hle;simp only[bkW]at hw;subst hw;simp only[Bk.len]at hle;have hx:off+i<xs.length:=by omega
    obtain⟨u,hu',hr⟩:=hcell (off+i) (.int k (xs.getD (off+i) 0)) (by simp[Bk.cell,X8 hx]);exact⟨u,by rw[show o+off*1+(i*1+j)=o+(off+i) by omega];exact hu',hr⟩
   |rows e' wd' n' f=>
    rw[hB]at hcell hw hle;simp only[bkW]at hw;subst hw;simp only[Bk.len]at hle;have hlt:(off+i)*wd'+j<n'*wd':=by
     have:(off+i+1)*wd'≤n'*wd':=O8 _ (by omega)
     rw[Nat.add_mul (off+i)]at this;omega
    obtain⟨u,hu',hr⟩:=hcell ((off+i)*wd'+j) (f (off+i) j) (by
     simp only[Bk.cell,if_pos hlt];rw[O6 (off+i) wd',Nat.mul_add_div (by omega),Nat.div_eq_of_lt hj,Nat.mul_add_mod,O7 hj];simp)
    exact⟨u,by rw[show o+off*wd'+(i*wd'+j)=o+((off+i)*wd'+j) by rw[Nat.add_mul];omega];exact hu',hr⟩)
  exact⟨_,cap,us,rfl,hus⟩
 exact⟨none,0,[],rfl,cells_nil⟩
theorem Cells.congr {ok:Nat→Prop}{wd n:Nat}{f g:Nat→Nat→C}{ad:Option Addr}{us:List Value}(h:Cells ok w wd n f ad us)(he:∀i j,i<n→j<wd→f i j=g i j):Cells ok w wd n g ad us:=
 ⟨h.len,h.at_,h.one,fun i j hi hj=>by rw[←he i j hi hj];exact h.rep i j hi hj⟩
def RepW (B:Bk)(ρ:Nat→Loc)(dom ok:Nat→Prop)(w:World)(c:C)(u:Value):Prop:=match B with
 |.wins .. =>RepC ρ dom ok w c u
 |_=>RepI ok w c u
structure CellsR (R:C→Value→Prop) (w:World) (wd n:Nat) (f:Nat→Nat→C) (a:Option Addr) (us:List Value):Prop where
 len:us.length=n*wd
 at_:HoldsAt w a us
 one:∀u∈us,u.oneCell'=true
 rep:∀i j,i<n→j<wd→∃u,us[i*wd+j]? =some u∧R (f i j) u
theorem Cells.toR {ok:Nat→Prop}{w:World}{wd n:Nat}{f:Nat→Nat→C}{a:Option Addr}{us:List Value}(B:Bk){ρ:Nat→Loc}{dom:Nat→Prop}(h:Cells ok w wd n f a us):CellsR (RepW B ρ dom ok w) w wd n f a us:=
 ⟨h.len,h.at_,h.one,fun i j hi hj=>by
  obtain⟨u,hu,hr⟩:=h.rep i j hi hj;refine⟨u,hu,?_⟩
  cases B with
  |wins e b2 n g=>exact RepC.of_repI hr
  |_=>exact hr⟩
theorem win_cells (hs:SimR G dom ρ s a w){b n:Nat}{e:TypeId}{b3:Nat}{g:Nat→C}{rw_:Bool}{v:Value}(hl:lo s.own b=some ⟨.wins e b3 n g,rw_⟩)(hr:RepC ρ dom (okOf G s.own ρ w) w (.own b 1 0 n) v):
  ∃ad cap us,v= .slice ad n cap∧CellsR (RepC ρ dom (okOf G s.own ρ w) w) w 1 n (fun i _=>g i) ad us:=by
 obtain⟨_,hlen,hrep,_⟩:=hs.own b _ hl;obtain⟨_,hle,cap,hc,hr⟩:=hr
 rcases hr with⟨q,o,o',haddr,rfl,ho,_⟩|⟨_,rfl,rfl,_⟩
 ·by_cases h0:n=0
  ·subst h0;exact⟨_,cap,[],rfl,rfl,.inl rfl,(by simp),fun i j hi=>absurd hi (O5 _)⟩
  unfold RepBk at hrep;rw[haddr]at hrep;obtain⟨cur,e',hg,hcell⟩:=hrep
  have ho':o'=o:=by rcases ho with ho|ho<;>omega
  subst ho';have hcl:∀i,i<n→∃u,w.cell? ⟨q,o'+i,none⟩=some u∧RepC ρ dom (okOf G s.own ρ w) w (g i) u:=fun i hi=>by
   obtain⟨u,hu',hr⟩:=hcell i (g i) (if_pos hi);exact⟨u,by rw[cell_of_row w q _ cur e' (0,0) hg];exact hu',hr⟩
  obtain⟨us,hus⟩:=cells_of (ok:=okOf G s.own ρ w) (w:=w) (wd:=1) (n:=n) (g:=q) (o:=o') (f:=fun _ _=>.any) (fun i j hi hj=>by
   obtain⟨u,hu,hr⟩:=hcl i hi;obtain rfl:j=0:=by omega
   exact⟨u,by rw[show o'+(i*1+0)=o'+i by omega];exact hu,(RepC.plain hr).1⟩)
  refine⟨_,cap,us,rfl,hus.len,hus.at_,hus.one,fun i j hi hj=>?_⟩;obtain rfl:j=0:=by omega
  obtain⟨u,hu,_⟩:=hus.rep i 0 hi hj;obtain⟨u',hu',hr⟩:=hcl i hi;refine⟨u,hu,?_⟩
  rcases hus.at_ with h1|⟨ad,had,hat⟩
  ·rw[h1]at hu;simp at hu
  obtain rfl:=Option.some.inj had
  have:=hat _ u hu
  rw[show i*1+0=i by omega,add_lit',hu']at this;rw[←Option.some.inj this];exact hr
 exact⟨none,0,[],rfl,rfl,.inl rfl,(by simp),fun i j hi=>absurd hi (O5 _)⟩
theorem ptr_none (own:List (Nat×Blk))(nx b off:Nat)(k:IntKind)(wd:Nat):intsC k (vwC own nx (.ptr b off))=none∧rowsR wd (vwC own nx (.ptr b off))=none:=by
 simp only[vwC]
 split
 ·cases lo own b with
  |none=>exact⟨rfl,rfl⟩
  |some B=>obtain⟨B,r⟩:=B;cases B<;>exact ⟨rfl,rfl⟩
 exact⟨rfl,rfl⟩
theorem src_ints (hs:SimR G dom ρ s a w)(hdom:∀b,dom b→b<s.nx){c:C}{v:Value}(hr:RepC ρ dom (okOf G s.own ρ w) w c v){k:IntKind}{xs:List Int}(hx:intsC k (vwA s.own s.nx c)=some xs):
  ∃ad cap us,v= .slice ad xs.length cap∧Cells (okOf G s.own ρ w) w 1 xs.length (fun i _=>.int k (xs.getD i 0)) ad us:=by
 cases c with
 |own b wd off len=>
  have hb:=hdom b hr.1;simp only[vwA,vwC,if_pos hb]at hx
  cases hl:lo s.own b with
  |none=>rw[hl]at hx;simp[intsC]at hx
  |some B=>
   rw[hl]at hx;simp only at hx
   cases hB:B.bk with
   |var cs=>rw[hB]at hx;simp[vwBk,intsC]at hx
   |wins e b2 n g=>rw[hB]at hx;simp[vwBk,intsC]at hx
   |rows e w' n f=>rw[hB]at hx;simp only[vwBk]at hx;split at hx<;>simp [intsC]at hx
   |ints e k' ys=>
    rw[hB]at hx;simp only[vwBk]at hx
    split at hx
    ·rename_i hwd
     subst hwd;simp only[intsC]at hx
     split at hx
     ·rename_i hk
      subst hk;simp only[Q6]at hx;obtain⟨ad,cap,us,hv,hc⟩:=own_cells hs hl (by rw[hB];rfl) (by rw[hB];trivial) hr;obtain⟨_,hlen,_,_⟩:=hs.own b B hl;have hle:=hr.2.1;rw[hlen,hB]at hle;simp only[Bk.len]at hle;have hxl:xs.length=len:=by rw[←hx];simp;omega
      refine⟨ad,cap,us,by rw[hxl];exact hv,?_⟩;rw[hxl];refine hc.congr fun i j hi hj=>?_;simp only[hB,bkElt,←hx,X7,List.getElem?_take,List.getElem?_drop];rw[if_pos hi]
     cases hx
    simp[intsC]at hx
 |nil=>exact(cells_im (c:=.nil) hr).1 k xs hx
 |ints k' ys=>exact(cells_im (c:=.ints k' ys) hr).1 k xs hx
 |fn f n caps=>simp only[vwA,vwC]at hx;split at hx<;>simp [intsC]at hx
 |ptr b off=>rw[vwA,(ptr_none s.own s.nx b off k 0).1]at hx;cases hx
 |_=>simp[vwA,vwC,intsC]at hx
theorem src_rows (hs:SimR G dom ρ s a w)(hdom:∀b,dom b→b<s.nx){c:C}{v:Value}(hr:RepC ρ dom (okOf G s.own ρ w) w c v){wd n:Nat}{f:Nat→Nat→C}(hx:rowsR wd (vwA s.own s.nx c)=some (n,f)):
  ∃ad cap us,v= .slice ad n cap∧Cells (okOf G s.own ρ w) w wd n f ad us:=by
 cases c with
 |own b wd' off len=>
  have hb:=hdom b hr.1;simp only[vwA,vwC,if_pos hb]at hx
  cases hl:lo s.own b with
  |none=>rw[hl]at hx;simp[rowsR]at hx
  |some B=>
   rw[hl]at hx;simp only at hx
   cases hB:B.bk with
   |var cs=>rw[hB]at hx;simp[vwBk,rowsR]at hx
   |wins e b2 n g=>rw[hB]at hx;simp[vwBk,rowsR]at hx
   |ints e k' ys=>rw[hB]at hx;simp only[vwBk]at hx;split at hx<;>simp [rowsR]at hx
   |rows e w' n' f'=>
    rw[hB]at hx;simp only[vwBk]at hx
    split at hx
    ·rename_i hwd
     subst hwd;simp only[rowsR]at hx
     split at hx
     ·rename_i hww
      subst hww;simp only[Q6,Prod.mk.injEq]at hx;obtain⟨rfl,rfl⟩:=hx;obtain⟨ad,cap,us,hv,hc⟩:=own_cells hs hl (by rw[hB];rfl) (by rw[hB];trivial) hr;refine⟨ad,cap,us,hv,hc.congr fun i j hi hj=>by rw[hB];rfl⟩
     cases hx
    simp[rowsR]at hx
 |nil=>
  simp only[vwA,vwC,rowsR,Q6,Prod.mk.injEq]at hx;exact(cells_im (c:=.nil) hr).2 wd n f hx.1.symm
 |rows w' n' f'=>
  simp only[vwA,vwC,rowsR]at hx
  split at hx
  ·rename_i hw
   simp only[Q6,Prod.mk.injEq]at hx;exact(cells_im (c:=.rows w' n' f') hr).2 wd n f ⟨hw,hx.1,hx.2⟩
  cases hx
 |fn f n caps=>simp only[vwA,vwC]at hx;split at hx<;>simp [rowsR]at hx
 |ptr b off=>rw[vwA,(ptr_none s.own s.nx b off .i64 wd).2]at hx;cases hx
 |_=>simp[vwA,vwC,rowsR]at hx
theorem SimR.del (h:SimR G dom ρ s a w)(b:Nat):SimR G dom ρ {s with own:=Eng.del s.own b} a w:=by
 have hext:Ext (okOf G s.own ρ w) (okOf G (Eng.del s.own b) ρ w) w w:=Ext.of_imp fun g hg=>⟨hg.1,hg.2.1,fun b2 B2 hl2 hrw=>by
  rw[lo_del]at hl2
  split at hl2
  ·cases hl2
  exact hg.2.2 b2 B2 hl2 hrw⟩
 have hs:Same dom dom ρ ρ:=⟨fun _ h=>h,fun _ _=>rfl⟩;refine h.turn hext hs (fun b2 B2 hl2=>?_) (fun b2 B2 b3 B3 hl2 hl3=>?_) rfl rfl rfl (O1 _) (fun _ _ _=>rfl)
 ·rw[lo_del]at hl2
  split at hl2
  ·cases hl2
  obtain⟨h1,h2,h3,h4⟩:=h.own b2 B2 hl2;exact⟨h1,h2,RepBk.ext hext hs _ _ (fun _ _ _=>rfl) h3,h4⟩
 rw[lo_del]at hl2 hl3
 split at hl2
 ·cases hl2
 split at hl3
 ·cases hl3
 exact h.inj b2 B2 b3 B3 hl2 hl3
theorem SimR.nowhere (h:SimR G dom ρ s a w){id:Nat}(hid:¬dom id)(B:Bk)(hB:∀j,B.cell j=none)(hlen:B.len=0):
  SimR G (fun b=>dom b∨b=id) (setLoc ρ id ⟨none,0⟩) {s with own:=upd s.own id ⟨B,true⟩} a w:=by
 have hs:=Same.setLoc ρ ⟨none,0⟩ hid;have hext:Ext (okOf G s.own ρ w) (okOf G (upd s.own id ⟨B,true⟩) (Eng.setLoc ρ id ⟨none,0⟩) w) w w:=Ext.of_imp fun g hg=>⟨hg.1,hg.2.1,fun b2 B2 hl2 hrw o=>by
  rw[lo_upd]at hl2
  by_cases hbi:b2=id
  ·subst hbi;rw[sLs];simp
  rw[if_neg hbi]at hl2;rw[setLoc_ne _ _ hbi];exact hg.2.2 b2 B2 hl2 hrw o⟩
 refine h.turn hext hs (fun b2 B2 hl2=>?_) (fun b2 B2 b3 B3 hl2 hl3 hne hrw g o o' ha=>?_) rfl rfl rfl (O1 _) (fun _ _ _=>rfl)
 ·rw[lo_upd]at hl2
  by_cases hbi:b2=id
  ·subst hbi;rw[if_pos rfl]at hl2;obtain rfl:=Option.some.inj hl2;rw[sLs];exact⟨.inr rfl,hlen.symm,hB,fun g o ha=>by cases ha⟩
  rw[if_neg hbi]at hl2;rw[setLoc_ne _ _ hbi];obtain⟨h1,h2,h3,h4⟩:=h.own b2 B2 hl2;exact⟨.inl h1,h2,RepBk.ext hext hs _ _ (fun _ _ _=>rfl) h3,h4⟩
 rw[lo_upd]at hl2 hl3
 by_cases hbi:b2=id
 ·subst hbi;rw[sLs]at ha;cases ha
 rw[if_neg hbi]at hl2;rw[setLoc_ne _ _ hbi]at ha
 by_cases hbi':b3=id
 ·subst hbi';rw[sLs];simp
 rw[if_neg hbi']at hl3;rw[setLoc_ne _ _ hbi'];exact h.inj b2 B2 b3 B3 hl2 hl3 hne hrw g o o' ha
theorem SimR.drew (h:SimR G dom ρ s a w):SimR G dom ρ s a w.drew:=h.grown ((Go.RowKit.Below.refl _ _).drew)
end
theorem append_zero_run {P:Program}{w:World}{t ty e:TypeId}{i:TypeInfo}(ht:P.underlying t=some (.slice e))(hi:P.info? e=some i)(b:Option Addr)(n cap:Nat)(a:Option Addr)(c:Nat)(h:n≤cap):
  (Builtin.append_ #[t,t] ty #[.slice b n cap,.slice a 0 c]).run P w= .ok (.slice b n cap) w:=by
 have hf:=firstCells_run (P:=P) (w:=w) i.size 0 a 0 c [] (by simp) (.inl rfl)
 cases b<;>simp [Builtin.append_,Go.run_underlying ht,sizeOf,typeInfo,hi,Builtin.lenOf,hf,h,storeCells]
section
variable {P:Program}{T:Tab}{o:Oper}{s:St}{K:St→Prop}
theorem append_types {P:Program}{t t' e e':TypeId}(ht:P.underlying t=some (.slice e))(ht':P.underlying t'=some (.slice e'))(ty:TypeId)(u v:Value)(w:World):
  (Builtin.append_ #[t,t'] ty #[u,v]).run P w=(Builtin.append_ #[t,t] ty #[u,v]).run P w:=by
 simp only[Builtin.append_,List.getElem?_toArray,List.getElem?_cons_zero,List.getElem?_cons_succ,Sem.run_bind,run_underlying' ht,run_underlying' ht',Q7,Sem.run_pure]
 cases u<;>simp only[Sem.run_bind,run_underlying' ht,run_underlying' ht',Q7,Sem.run_pure]
theorem append_sound {d:Tmp}(hd:o.dst=some d)(hdn:d<s.n){c:Call}(ho:o.op= .call c)(hcal:c.callee= .builtin .append){x y:Operand}(hargs:c.args= #[x,y]){t t':TypeId}(htys:c.argTypes= #[t,t']){e':TypeId}(ht':P.underlying t'=some (.slice e'))
  {e:TypeId} {ei:TypeInfo} {ez:Value} (ht:P.underlying t=some (.slice e)) (hei:P.info? e=some ei) (hez:ei.zero=some ez) (hzs:ez.cells.size=ei.size)
  {cx:C} (hxr:∀G ρ a w,SimR G (fun b=>b<s.nx) ρ s a w→RepC ρ (fun b=>b<s.nx) (okOf G s.own ρ w) w cx (a.eval x)) {wd:Nat} (hwd:wd=ei.size) (hpos:0<wd) {own0:List (Nat×Blk)} (hbase:base0 s.own wd cx=some own0)
  {n m:Nat} {f0 f1:Nat→Nat→C} (B':Bk) (hBv:∀cs,B'≠ .var cs) (hBl:B'.len=n+m)
  (hB':∀j c,B'.cell j=some c→j<(n+m)*wd∧c=if j/wd<n then f0 (j/wd) (j%wd)else f1 (j/wd-n) (j%wd))
  (hb:(n+m)*ei.bytes≤140737488355328) (h63:n+m≤9223372036854775807)
  (hcx:∀G ρ a w,SimR G (fun b=>b<s.nx) ρ s a w→∃ad cap us,a.eval x= .slice ad n cap∧CellsR (RepW B' ρ (fun b=>b<s.nx) (okOf G s.own ρ w) w) w wd n f0 ad us)
  (hcy:∀G ρ a w,SimR G (fun b=>b<s.nx) ρ s a w→∃ad cap us,a.eval y= .slice ad m cap∧CellsR (RepW B' ρ (fun b=>b<s.nx) (okOf G s.own ρ w) w) w wd m f1 ad us)
  (rv:C) (hrv:∀ρ' ok' w' v,RepC ρ' (fun b=>b<s.nx∨b=s.nx) ok' w' (.own s.nx wd 0 (n+m)) v→RepC ρ' (fun b=>b<s.nx∨b=s.nx) ok' w' rv v)
  (hK:K {env:=(d,.one rv)::s.env,own:=upd own0 s.nx ⟨B',true⟩,nx:=s.nx+1,n:=s.n}):WEff P o s K:=by
 subst hwd;intro G a w hsim Q next hk;obtain⟨ρ,hs⟩:=hsim;obtain⟨ad0,cap0,us0,hv0,hc0⟩:=hcx G ρ a w hs;obtain⟨ad1,cap1,us1,hv1,hc1⟩:=hcy G ρ a w hs;have hid:¬(s.nx<s.nx):=Nat.lt_irrefl _;have hexec:∀(v:Value) (w':World),(Builtin.append_ #[t,t] o.type #[a.eval x,a.eval y]).run P w= .ok v w'→(execOp a.eval o).run P w= .ok (.value v) w':=by
  intro v w' hr;unfold execOp;rw[ho];simp only[resolve,hcal,Sem.run_bind,Sem.run_pure,Q7,invoke,Go.builtin,hargs,htys];rw[show Array.map a.eval #[x,y]= #[a.eval x,a.eval y] by simp,append_types ht ht',hr];rfl
 -- from the block's state to the whole
 have fin:∀(v:Value) (w':World) (ρ':Nat→Loc),(execOp a.eval o).run P w= .ok (.value v) w'→
   SimR G (fun b=>b<s.nx∨b=s.nx) ρ' {s with own:=upd own0 s.nx ⟨B',true⟩} a w'→RepC ρ' (fun b=>b<s.nx∨b=s.nx) (okOf G (upd own0 s.nx ⟨B',true⟩) ρ' w') w' (.own s.nx ei.size 0 (n+m)) v→o.wp P a w next Q:=by
  intro v w' ρ' hr h1 h2;refine Oper.wp_value hr (hk _ _ _ hK ⟨ρ',?_⟩);rw[hd];have h3:=h1.put (dst:=some d) (x:=.one rv) (v:=v) (fun d' hh=>by cases hh;exact hdn) (hrv _ _ _ _ h2)
  have h4:=h3.mono_dom (dom':=fun b=>b<s.nx+1) (fun b hb=>by rcases hb with hb|hb<;>omega)
  exact{hd:=h4.hd,hn:=h4.hn,env:=h4.env,own:=h4.own,inj:=h4.inj,os:=h4.os,tape:=h4.tape,output:=h4.output,size:=h4.size,keep:=h4.keep,wf:=h4.wf,home:=h4.home,room:=h4.room}
 -- a new row
 have cellAt:∀(pre:List Value),pre=us0++us1→∀j c,B'.cell j=some c→∃u,pre[j]? =some u∧RepW B' ρ (fun b=>b<s.nx) (okOf G s.own ρ w) w c u:=by
  intro pre hpre j c hj;obtain⟨hlt,rfl⟩:=hB' j c hj;have hdm:j/ei.size*ei.size+j%ei.size=j:=by rw[O6];exact Nat.div_add_mod j ei.size
  have hml:j%ei.size<ei.size:=Nat.mod_lt _ hpos;have hdl:j/ei.size<n+m:=(Nat.div_lt_iff_lt_mul hpos).2 hlt;have hl0:=hc0.len
  by_cases hn:j/ei.size<n
  ·rw[if_pos hn];obtain⟨u,hu,hr⟩:=hc0.rep _ _ hn hml;rw[hdm]at hu;refine⟨u,?_,hr⟩;have hju:=(List.getElem?_eq_some_iff.1 hu).1;rw[hpre,List.getElem?_append_left hju];exact hu
  rw[if_neg hn];obtain⟨u,hu,hr⟩:=hc1.rep (j/ei.size-n) _ (by omega) hml;refine⟨u,?_,hr⟩;have hge:n*ei.size≤j:=by
   have:n*ei.size≤j/ei.size*ei.size:=O8 _ (by omega)
   omega
  rw[hpre,List.getElem?_append_right (by omega),hl0,←hu]
  congr 1
  have hmul:n*ei.size≤j/ei.size*ei.size:=O8 _ (by omega);rw[Nat.sub_mul,←Nat.sub_add_comm hmul,hdm]
 have hzz:(us0.toArray++us1.toArray).toList=us0++us1:=by simp
 have newRow:cap0<n+m→(own0=s.own∨∃b,own0=Eng.del s.own b)→o.wp P a w next Q:=by
  intro hcap hown;have hr:=append_new_run (ty:=o.type) ht hei hez ad0 n cap0 us0 hc0.len hc0.at_ ad1 m cap1 us1 hc1.len hc1.at_ hcap hb h63;rw[←hv0,←hv1]at hr;have hgc:n+m≤grownCap w (n+m) cap0 e:=grownCap_ge w _ _ _;have h1:SimR G (fun b=>b<s.nx) ρ {s with own:=own0} a w.drew:=by
   rcases hown with rfl|⟨b,rfl⟩
   ·exact hs.drew
   exact hs.drew.del b
  have hokm:∀g,okOf G s.own ρ w g→okOf G own0 ρ w.drew g:=fun g hg=>by
   rcases hown with rfl|⟨b,rfl⟩
   ·exact hg
   exact⟨hg.1,hg.2.1,fun b2 B2 hl2 hrw=>by
    rw[lo_del]at hl2
    split at hl2
    ·cases hl2
    exact hg.2.2 b2 B2 hl2 hrw⟩
  have hextd:Ext (okOf G s.own ρ w) (okOf G own0 ρ w.drew) w w.drew:=⟨fun g hg=>⟨hokm g hg,rfl⟩,fun _=>O1 _⟩;have h2:=h1.newBlk hid B' (us0.toArray++us1.toArray++Builtin.zeroCells ez.cells (grownCap w (n+m) cap0 e-(n+m))) e (fun j c hj=>by
   obtain⟨u,hu,hr⟩:=cellAt _ rfl j c hj;refine⟨u,?_,?_⟩
   ·have hju:=(List.getElem?_eq_some_iff.1 hu).1;rw[Array.getElem?_append_left (by simpa using hju)];rw[←Array.getElem?_toList,hzz];exact hu
   cases B' with
   |var cs=>exact absurd rfl (hBv cs)
   |ints e k xs=>exact RepI.ext hextd _ _ hr
   |rows e w n f=>exact RepI.ext hextd _ _ hr
   |wins e b2 n g=>exact RepC.ext hextd ⟨fun _ h=>h,fun _ _=>rfl⟩ _ _ hr)
  refine fin _ _ _ (hexec _ _ hr) h2 ⟨.inr rfl,by rw[sLs];simp[hBl],grownCap w (n+m) cap0 e,hgc,.inl ⟨w.heap.size,0,0,by rw[sLs];rfl,rfl,.inr (by simp),?_⟩⟩;have hrs:rowSize (w.drew.alloc (.cells (us0.toArray++us1.toArray++Builtin.zeroCells ez.cells (grownCap w (n+m) cap0 e-(n+m))) e)) w.heap.size=(us0.toArray++us1.toArray++Builtin.zeroCells ez.cells (grownCap w (n+m) cap0 e-(n+m))).size:=rowSize_of (heap_alloc_new w.drew _);rw[hrs];simp only[Array.size_append,List.size_toArray,size_zeroCells,hc0.len,hc1.len,hzs]
  have:grownCap w (n+m) cap0 e=n+m+(grownCap w (n+m) cap0 e-(n+m)):=by omega
  rw[Nat.zero_add,Nat.zero_add]
  conv=>lhs;rw[this]
  rw[Nat.add_mul,Nat.add_mul];exact O1 _
 unfold base0 at hbase
 split at hbase
 ·-- the base is nil
  simp only[Q6]at hbase;have hxn:=hxr G ρ a w hs;have hxn:a.eval x= .slice none 0 0:=hxn;rw[hxn]at hv0;simp only[Value.slice.injEq]at hv0;obtain⟨rfl,rfl,rfl⟩:=hv0
  by_cases hm:m=0
  ·subst hm;have hr:=append_none_run (P:=P) (w:=w) (ty:=o.type) ht hei ad1 cap1;rw[←hv1,←hxn]at hr;subst hbase;have h2:=hs.nowhere hid B' (fun j=>by
    cases hc:B'.cell j with
    |none=>rfl
    |some c=>have:=(hB' j c hc).1;simp at this) (by rw[hBl])
   exact fin _ _ _ (hexec _ _ hr) h2 ⟨.inr rfl,by rw[sLs];simp,0,by simp,.inr ⟨by rw[sLs],hxn,by simp,rfl⟩⟩
  exact newRow (by omega) (.inl hbase.symm)
 ·-- it is a slice of the frame's own
  rename_i b w' off len
  split at hbase
  ·rename_i hww
   subst hww
   cases hlo:lo s.own b with
   |none=>rw[hlo]at hbase;simp at hbase
   |some B=>
    rw[hlo]at hbase;simp only at hbase
    split at hbase
    ·rename_i hrw
     simp only[Q6]at hbase
     by_cases hcap:cap0<n+m
     ·exact newRow hcap (.inr ⟨b,hbase.symm⟩)
     have hxo:=hxr G ρ a w hs;obtain⟨hdb,hle,cap,hc,hxo⟩:=hxo
     rcases hxo with⟨g,o1,o2,haddr,hvx,ho,hroom⟩|⟨haddr,hvx,rfl,rfl⟩
     ·rw[hvx]at hv0;simp only[Value.slice.injEq]at hv0;obtain⟨rfl,rfl,rfl⟩:=hv0;obtain⟨_,hlenb,hrepb,hlocb⟩:=hs.own b B hlo;unfold RepBk at hrepb;rw[haddr]at hrepb;obtain⟨cur,e',hg,hcells⟩:=hrepb;rw[rowSize_of hg]at hroom;have hlo':lo s.own b=some ⟨B.bk,true⟩:=by rw[hlo,←hrw]
      -- the base's place
      have hfit:o2+len*ei.size+us1.length≤cur.size∨len+m=0:=by
       by_cases h0:len+m=0
       ·exact .inr h0
       left
       have ho2:o2=o1+off*ei.size:=by rcases ho with ho|ho<;>omega
       have hl1:=hc1.len;have h3:(len+m)*ei.size≤cap*ei.size:=O8 _ (by omega);rw[Nat.add_mul]at h3 hroom;omega
      rcases hfit with hfit|h0
      ·have hr:=append_room_run (P:=P) (w:=w) (ty:=o.type) ht hei g o2 len cap hg ad1 m cap1 us1 hc1.len hc1.at_ hc1.one (by omega) hfit;rw[←hvx,←hv1]at hr;have hsz':((cur.toList.take (o2+len*ei.size)++us1++cur.toList.drop (o2+len*ei.size+us1.length)).toArray).size=cur.size:=by simp;omega
       have h2:=hs.rewrite hlo' haddr hg hsz' hid B' o2 (fun j c hj=>by
        obtain⟨hlt,rfl⟩:=hB' j c hj;have hdm:j/ei.size*ei.size+j%ei.size=j:=by rw[O6];exact Nat.div_add_mod j ei.size
        have hml:j%ei.size<ei.size:=Nat.mod_lt _ hpos;have hdl:j/ei.size<len+m:=(Nat.div_lt_iff_lt_mul hpos).2 hlt;have hlg:=laid_get cur.toList (o2+len*ei.size) us1 (by simpa using hfit) (o2+j);have hl1:=hc1.len
        by_cases hn:j/ei.size<len
        ·rw[if_pos hn];obtain⟨u,hu,hr⟩:=hc0.rep _ _ hn hml;rw[hdm]at hu;have hjl:j<len*ei.size:=by
          have:(j/ei.size+1)*ei.size≤len*ei.size:=O8 _ hn
          rw[Nat.add_mul]at this;omega
         rw[if_neg (by omega)]at hlg;refine⟨u,?_,?_⟩
         ·rw[List.getElem?_toArray,hlg,Array.getElem?_toList]
          rcases hc0.at_ with h0|⟨ad,had,hat⟩
          ·rw[h0]at hu;simp at hu
          simp only[Q6]at had;subst had
          have:=hat j u hu
          rw[add_lit',cell_of_row w g _ cur e' (0,0) hg]at this;exact this
         cases B' with
         |var cs=>exact absurd rfl (hBv cs)
         |ints e k xs=>exact hr
         |rows e w n f=>exact hr
         |wins e b2 n g=>exact hr
        rw[if_neg hn];obtain⟨u,hu,hr⟩:=hc1.rep (j/ei.size-len) _ (by omega) hml;have hmul:len*ei.size≤j/ei.size*ei.size:=O8 _ (by omega);have hge:len*ei.size≤j:=by omega
        rw[Nat.sub_mul,←Nat.sub_add_comm hmul,hdm]at hu;have hju:=(List.getElem?_eq_some_iff.1 hu).1;rw[if_pos (by omega),show o2+j-(o2+len*ei.size)=j-len*ei.size by omega]at hlg;refine⟨u,?_,?_⟩
        ·rw[List.getElem?_toArray,hlg,←hu]
        cases B' with
        |var cs=>exact absurd rfl (hBv cs)
        |ints e k xs=>exact hr
        |rows e w n f=>exact hr
        |wins e b2 n g=>exact hr)
       subst hbase;refine fin _ _ _ (hexec _ _ hr) h2 ⟨.inr rfl,by rw[sLs];simp[hBl],cap,by omega,.inl ⟨g,o2,o2,by rw[sLs],rfl,.inr (by simp),?_⟩⟩;rw[rowSize_of (setRow_heap w g cur _ e' (0,0) hg),hsz']
       by_cases hc0':cap=0
       ·subst hc0';simp;omega
       have ho2:o2=o1+off*ei.size:=by rcases ho with ho|ho<;>omega
       rw[Nat.add_mul]at hroom;rw[ho2,Nat.zero_add];omega
      -- nothing at all is laid
      have hl0:len=0:=by omega
      have hm0:m=0:=by omega
      subst hl0;subst hm0;have hr:=append_zero_run (P:=P) (w:=w) (ty:=o.type) ht hei (some ⟨g,o2,none⟩) 0 cap ad1 cap1 hc;rw[←hvx,←hv1]at hr;have h2:=hs.rewrite (cur':=cur) hlo' haddr hg rfl hid B' (o1+off*ei.size) (fun j c hj=>by have:=(hB' j c hj).1;simp at this);rw[setRow_self w g cur e' (0,0) hg]at h2;subst hbase;refine fin _ _ _ (hexec _ _ hr) h2 ⟨.inr rfl,by rw[sLs];simp,cap,hc,.inl ⟨g,o1+off*ei.size,o2,by rw[sLs],hvx,?_,?_⟩⟩
      ·rcases ho with ho|ho
       ·exact .inl ho
       exact .inr (by rw[ho];omega)
      rw[rowSize_of hg];rw[Nat.add_mul]at hroom;rw[Nat.zero_add];omega
     rw[hvx]at hv0;simp only[Value.slice.injEq]at hv0;obtain⟨rfl,rfl,rfl⟩:=hv0;have hm:m=0:=by omega
     subst hm;have hr:=append_none_run (P:=P) (w:=w) (ty:=o.type) ht hei ad1 cap1;rw[←hv1,←hvx]at hr;subst hbase;have h2:=(hs.del b).nowhere hid B' (fun j=>by
      cases hc:B'.cell j with
      |none=>rfl
      |some c=>have:=(hB' j c hc).1;simp at this) (by rw[hBl])
     exact fin _ _ _ (hexec _ _ hr) h2 ⟨.inr rfl,by rw[sLs];simp,0,by simp,.inr ⟨by rw[sLs],hvx,by simp,rfl⟩⟩
    cases hbase
  cases hbase
 cases hbase
theorem sAppend (hT:TabOk P T){c:Call}(ho:o.op= .call c)(hcal:c.callee= .builtin .append){x y:Operand}(hargs:c.args= #[x,y]){t t':TypeId}(htys:c.argTypes= #[t,t']){e':TypeId}(ht':P.underlying t'=some (.slice e'))
  (hdn:dstLt o s.n) (h:wAppend T s o.dst t x y K):WEff P o s K:=by
 unfold wAppend at h
 cases hd:o.dst with
 |none=>rw[hd]at h;exact h.elim
 |some d=>
  rw[hd]at h;simp only at h
  cases hTt:T t with
  |none=>rw[hTt]at h;exact h.elim
  |some S=>
   rw[hTt]at h;simp only at h
   split at h
   ·rename_i e hSk
    have hu:=T_slice hT hTt hSk
    cases hTe:T e with
    |none=>rw[hTe]at h;exact h.elim
    |some E=>
     rw[hTe]at h;simp only at h;obtain⟨ei,ed,ez,hei,heu,hez,hek,hes,heb,hzc,hall⟩:=T_parts hT hTe
     split at h
     ·rename_i cx cy hx hy
      cases hb:base0 s.own E.size (asOwn cx)with
      |none=>rw[hb]at h;exact h.elim
      |some own0=>
       rw[hb]at h;simp only at h;have hcx:∀G ρ a w,SimR G (fun b=>b<s.nx) ρ s a w→RepC ρ (fun b=>b<s.nx) (okOf G s.own ρ w) w cx (a.eval x):=fun G ρ a w hs=>by
        have:=hs.ev x;rw[hx]at this;exact this
       have hcy:∀G ρ a w,SimR G (fun b=>b<s.nx) ρ s a w→RepC ρ (fun b=>b<s.nx) (okOf G s.own ρ w) w cy (a.eval y):=fun G ρ a w hs=>by
        have:=hs.ev y;rw[hy]at this;exact this
       have hxr:∀G ρ a w,SimR G (fun b=>b<s.nx) ρ s a w→RepC ρ (fun b=>b<s.nx) (okOf G s.own ρ w) w (asOwn cx) (a.eval x):=fun G ρ a w hs=>by
        have:=hcx G ρ a w hs
        cases cx with
        |win b b2 o l=>exact this.2
        |_=>exact this
       split at h
       ·rename_i k hk
        split at h
        ·rename_i xs ys hxs hys
         obtain⟨hzl,hE1,⟨hbd,h63⟩,hK⟩:=h;have hzs:ez.cells.size=ei.size:=by rw[←hes,←hzl,hzc];simp
         refine append_sound (wd:=E.size) (n:=xs.length) (m:=ys.length) (f0:=fun i _=>.int k (xs.getD i 0)) (f1:=fun i _=>.int k (ys.getD i 0)) hd (hdn d hd) ho hcal hargs htys ht' hu hei hez hzs hxr hes (by omega) hb (.ints e k (xs++ys)) (fun cs=>by simp) (by simp[Bk.len]) (fun j c hj=>?_) (by rw[←heb];exact hbd) h63 (fun G ρ a w hs=>?_) (fun G ρ a w hs=>?_) _ (fun _ _ _ _ h=>h) (by rw[hE1,←X6];exact hK)
         ·simp only[Bk.cell]at hj;obtain⟨v,hv,rfl⟩:=Option.map_eq_some_iff.1 hj;obtain⟨hjl,hjv⟩:=List.getElem?_eq_some_iff.1 hv;rw[X6]at hjl;rw[hE1,Nat.mul_one,Nat.div_one];refine⟨hjl,?_⟩;subst hjv
          by_cases hjx:j<xs.length
          ·rw[if_pos hjx]
           congr 1
           rw[List.getElem_append_left hjx]
           simp[X8 hjx]
          rw[if_neg hjx]
          congr 1
          rw[List.getElem_append_right (by omega)]
          have:j-xs.length<ys.length:=by omega
          simp[X8 this]
         ·rw[hE1];obtain⟨ad,cap,us,h1,h2⟩:=src_ints hs (fun _ h=>h) (hcx G ρ a w hs) hxs;exact⟨ad,cap,us,h1,h2.toR _⟩
         rw[hE1];obtain⟨ad,cap,us,h1,h2⟩:=src_ints hs (fun _ h=>h) (hcy G ρ a w hs) hys;exact⟨ad,cap,us,h1,h2.toR _⟩
        exact h.elim
       split at h
       ·split at h
        ·rename_i b3 n f b4 m g hxs hys
         obtain⟨hzl,hE1,⟨hbd,h63⟩,htag,hK⟩:=h;have hzs:ez.cells.size=ei.size:=by rw[←hes,←hzl,hzc];simp
         have src:∀{c:C} {v:Value} {G:Ctx} {ρ:Nat→Loc} {a:Act} {w:World} {bb k:Nat} {h:Nat→C} (B:Bk) (_:∃e b n g,B= .wins e b n g),SimR G (fun b=>b<s.nx) ρ s a w→RepC ρ (fun b=>b<s.nx) (okOf G s.own ρ w) w c v→winR s.own s.nx c=some (bb,k,h)→
           ∃ad cap us,v= .slice ad k cap∧CellsR (RepW B ρ (fun b=>b<s.nx) (okOf G s.own ρ w) w) w 1 k (fun i _=>h i) ad us:=by
          intro c v G ρ a w bb k h B hB hs hr hw;obtain⟨e1,b1,n1,g1,rfl⟩:=hB;unfold winR at hw
          split at hw
          ·rename_i b b2 off len
           split at hw
           ·rename_i e3 b3 n3 g3 rw3 hl3
            split at hw
            ·rename_i h0
             split at hw
             ·rename_i hln
              subst h0;subst hln;simp only[Q6,Prod.mk.injEq]at hw;obtain⟨rfl,rfl,rfl⟩:=hw;exact win_cells hs hl3 hr.2
             cases hw
            cases hw
           cases hw
          split at hw
          ·rename_i n3 f3 hr3
           simp only[Q6,Prod.mk.injEq]at hw;obtain⟨rfl,rfl,rfl⟩:=hw;obtain⟨ad,cap,us,h1,h2⟩:=src_rows hs (fun _ h=>h) hr hr3;exact⟨ad,cap,us,h1,(h2.congr (g:=fun i _=>f3 i 0) (fun i j _ hj=>by rw[show j=0 by omega])).toR _⟩
          cases hw
         refine append_sound (wd:=E.size) (n:=n) (m:=m) (f0:=fun i _=>f i) (f1:=fun i _=>g i) hd (hdn d hd) ho hcal hargs htys ht' hu hei hez hzs hxr hes (by omega) hb (.wins e (if isWin cy=true then b4 else b3) (n+m) (fun i=>if i<n then f i else g (i-n))) (fun cs=>by simp) rfl (fun j c hj=>?_) (by rw[←heb];exact hbd) h63 (fun G ρ a w hs=>?_) (fun G ρ a w hs=>?_) _ (fun ρ' ok' w' v h=>?_) hK
         ·simp only[Bk.cell]at hj;rw[hE1,Nat.mul_one,Nat.div_one]
          split at hj
          ·rename_i hlt
           simp only[Q6]at hj;exact⟨hlt,hj.symm⟩
          cases hj
         ·rw[hE1];exact src _ ⟨_,_,_,_,rfl⟩ hs (hcx G ρ a w hs) hxs
         ·rw[hE1];exact src _ ⟨_,_,_,_,rfl⟩ hs (hcy G ρ a w hs) hys
         rw[hE1]at h;exact⟨.inl htag,h⟩
        exact h.elim
       split at h
       ·rename_i n f m g hxs hys
        obtain⟨hzl,hpos,⟨hbd,h63⟩,hK⟩:=h;have hzs:ez.cells.size=ei.size:=by rw[←hes,←hzl,hzc];simp
        refine append_sound (wd:=E.size) (n:=n) (m:=m) (f0:=f) (f1:=g) hd (hdn d hd) ho hcal hargs htys ht' hu hei hez hzs hxr hes hpos hb (.rows e E.size (n+m) (fun i j=>if i<n then f i j else g (i-n) j)) (fun cs=>by simp) rfl (fun j c hj=>?_) (by rw[←heb];exact hbd) h63 (fun G ρ a w hs=>?_) (fun G ρ a w hs=>?_) _ (fun _ _ _ _ h=>h) hK
        ·simp only[Bk.cell]at hj
         split at hj
         ·rename_i hlt
          simp only[Q6]at hj;exact⟨hlt,hj.symm⟩
         cases hj
        ·obtain⟨ad,cap,us,h1,h2⟩:=src_rows hs (fun _ h=>h) (hcx G ρ a w hs) hxs;exact⟨ad,cap,us,h1,h2.toR _⟩
        obtain⟨ad,cap,us,h1,h2⟩:=src_rows hs (fun _ h=>h) (hcy G ρ a w hs) hys;exact⟨ad,cap,us,h1,h2.toR _⟩
       exact h.elim
     exact h.elim
   exact h.elim
end
end Go.Eng
namespace Go.Eng
open Go
def Bk.plain:Bk→Prop
 |.var cs=>cs.all scalarC=true
 |.wins .. =>False
 |_=>True
structure MBelow (l:Loc) (w w':World):Prop where
 os:w'.os=w.os
 tape:w'.tape=w.tape
 output:w'.output=w.output
 size:w.heap.size≤w'.heap.size
 block:∀k,k<w.heap.size→(∀o,l.addr≠some (k,o))→w'.heap[k]? =w.heap[k]?
 room:∀g,rowSize w g≤rowSize w' g
def okM (ok:Nat→Prop)(w w':World)(g:Nat):Prop:=ok g∨(w.heap.size≤g∧g<w'.heap.size)
def Mc (P:Program)(f:FuncId)(args:List V)(B:Bk)(R:V→Bk→Prop):Prop:=
 Callable P f∧∀(ok:Nat→Prop) (w:World) (vs:Array Value) (l:Loc),(∀g,ok g→g<w.heap.size)→l.len=B.len→(∀g o,l.addr=some (g,o)→g<w.heap.size∧¬ok g)→
  RepBk loc0 dom0 ok w l B→RepVL (fun _=>l) (fun b=>b=0) ok w args vs.toList→
  Calls P f vs w fun e w'=>∃v r B',e= .returned v∧R r B'∧B'.plain∧B'.len=B.len∧MBelow l w w'∧
   RepBk loc0 dom0 (okM ok w w') w' l B'∧RepV (fun _=>l) (fun b=>b=0) (okM ok w w') w' r v
def muC (b:Nat)(own:List (Nat×Blk))(nx:Nat)(c:C):C:=
 match c with
 |.own b' wd off len=>if b'=b then .own 0 wd off len else vwC own nx (.own b' wd off len)
 |.ptr b' off=>if b'=b then .ptr 0 off else vwC own nx (.ptr b' off)
 |.win _ _ _ _=>.any
 |c=>vwC own nx c
def muV (b:Nat)(own:List (Nat×Blk))(nx:Nat):V→V
 |.one c=>.one (muC b own nx c)
 |.agg cs=>.agg (cs.map (muC b own nx))
 |_=>.unk
def backC (b:Nat)(c:C):C:=
 match c with
 |.own _ wd off len=>.own b wd off len
 |.ptr _ off=>.ptr b off
 |.eptr _ _ _ _=>.any
 |.win _ _ _ _=>.any
 |.fn _ _ _=>.any
 |c=>c
def back1 (b:Nat):V→V
 |.one c=>.one (backC b c)
 |.agg cs=>.agg (cs.map (backC b))
 |_=>.unk
def backV (b:Nat):V→V
 |.one c=>.one (backC b c)
 |.agg cs=>.agg (cs.map (backC b))
 |.tup xs=>.tup (xs.map (back1 b))
 |_=>.unk
theorem RepBk.plain_ext {ρ ρ':Nat→Loc}{dom dom' ok ok':Nat→Prop}{w:World}{l:Loc}{B:Bk}(hp:B.plain)(h:∀g,ok g→ok' g)(hr:RepBk ρ dom ok w l B):RepBk ρ' dom' ok' w l B:=by
 unfold RepBk at*
 cases ha:l.addr with
 |none=>rw[ha]at hr;exact hr
 |some p=>
  obtain⟨g,o⟩:=p;rw[ha]at hr;obtain⟨cur,e,hg,hc⟩:=hr;refine⟨cur,e,hg,fun j c hj=>?_⟩;obtain⟨u,hu,hr⟩:=hc j c hj;refine⟨u,hu,?_⟩
  cases B with
  |var cs=>
   have hm:c∈cs:=List.mem_of_getElem? hj;exact scalarC_any (List.all_eq_true.1 hp c hm) hr
  |ints e k xs=>exact RepI.ext (Ext.of_imp h) _ _ hr
  |rows e wd n f=>exact RepI.ext (Ext.of_imp h) _ _ hr
  |wins e b2 n g=>exact hp.elim
section
variable {G:Ctx}{dom:Nat→Prop}{ρ:Nat→Loc}{s:St}{a:Act}{w:World}
theorem muC_sound (hs:SimR G dom ρ s a w)(b:Nat)(ids:List Nat)(c:C)(v:Value)(hi:∀b'∈idsC c,b'≠b→b'∈ids)(hr:RepC ρ dom (okOf G s.own ρ w) w c v):
  RepC (fun _=>ρ b) (fun i=>i=0) (okIds G s.own ρ w ids) w (muC b s.own s.nx c) v:=by
 have o:Oper:=default;have hsame:Same dom0 (fun i:Nat=>i=0) loc0 (fun _=>ρ b):=⟨fun _ h=>h.elim,fun _ h=>h.elim⟩;have hx:Ext (okIds G s.own ρ w ids) (okIds G s.own ρ w ids) w w:=Ext.refl _ _;have view:(∀b'∈idsC c,b'<s.nx→b'∈ids)→RepC (fun _=>ρ b) (fun i=>i=0) (okIds G s.own ρ w ids) w (vwC s.own s.nx c) v:=fun hi'=>
  RepC.ext hx hsame _ _ (vwC_sound hs (Agr.refl s s.nx o) c v ids hi' hr)
 cases c with
 |own b' wd off len=>
  show RepC _ _ _ w (muC b s.own s.nx (.own b' wd off len)) v;simp only[muC]
  by_cases hb:b'=b
  ·rw[if_pos hb];subst hb;obtain⟨_,h2,h3⟩:=hr;exact⟨rfl,h2,h3⟩
  rw[if_neg hb];refine view fun b2 hb2 _=>hi b2 hb2 ?_;simp only[idsC,List.mem_singleton]at hb2;subst hb2;exact hb
 |ptr b' off=>
  show RepC _ _ _ w (muC b s.own s.nx (.ptr b' off)) v;simp only[muC]
  by_cases hb:b'=b
  ·rw[if_pos hb];subst hb;obtain⟨_,h2⟩:=hr;exact⟨rfl,h2⟩
  rw[if_neg hb];refine view fun b2 hb2 _=>hi b2 hb2 ?_;simp only[idsC,List.mem_singleton]at hb2;subst hb2;exact hb
 |win b' b2 off len=>exact(RepC.plain (c:=.win b' b2 off len) hr).1
 |any=>exact view (fun _ h=>by simp[idsC]at h)
 |bool t=>exact view (fun _ h=>by simp[idsC]at h)
 |int k n=>exact view (fun _ h=>by simp[idsC]at h)
 |str t=>exact view (fun _ h=>by simp[idsC]at h)
 |nil=>exact view (fun _ h=>by simp[idsC]at h)
 |ints k xs=>exact view (fun _ h=>by simp[idsC]at h)
 |rows wd n f=>exact view (fun _ h=>by simp[idsC]at h)
 |elt c wd i off=>exact view (fun _ h=>by simp[idsC]at h)
 |eptr b wd i off=>exact view (fun _ h=>by simp[idsC]at h)
 |fn f n caps=>exact view (fun _ h=>by simp[idsC]at h)
theorem muV_sound (hs:SimR G dom ρ s a w)(b:Nat)(ids:List Nat)(x:V)(v:Value)(hi:∀b'∈idsV x,b'≠b→b'∈ids)(hr:RepV ρ dom (okOf G s.own ρ w) w x v):
  RepV1 (fun _=>ρ b) (fun i=>i=0) (okIds G s.own ρ w ids) w (muV b s.own s.nx x) v:=by
 cases x with
 |one c=>exact muC_sound hs b ids c v hi hr
 |agg cs=>
  obtain⟨vs,hv,hl⟩:=hr;refine⟨vs,hv,?_⟩
  generalize vs.toList=l at hl
  have hi':∀c∈cs,∀b'∈idsC c,b'≠b→b'∈ids:=fun c hc b' hb'=>hi b' (List.mem_flatMap.2 ⟨c,hc,hb'⟩);clear hv hi
  induction cs generalizing l with
  |nil=>cases l with
   |nil=>trivial
   |cons u l=>exact hl.elim
  |cons c cs ih=>
   cases l with
   |nil=>exact hl.elim
   |cons u l=>exact⟨muC_sound hs b ids c u (hi' c (List.mem_cons_self ..)) hl.1,ih l hl.2 fun c' hc=>hi' c' (List.mem_cons_of_mem _ hc)⟩
 |tup xs=>trivial
 |unk=>trivial
theorem backC_sound {dom:Nat→Prop}{ρ:Nat→Loc}{ok ok':Nat→Prop}{w:World}{b:Nat}(hb:dom b)(h:∀g,ok g→ok' g){c:C}{v:Value}(hr:RepC (fun _=>ρ b) (fun i=>i=0) ok w c v):RepC ρ dom ok' w (backC b c) v:=by
 have hx:Ext ok ok' w w:=Ext.of_imp h
 cases c with
 |own b' wd off len=>
  obtain⟨_,h2,h3⟩:=hr;exact⟨hb,h2,h3⟩
 |ptr b' off=>
  obtain⟨_,h2⟩:=hr;exact⟨hb,h2⟩
 |eptr b' wd i off=>exact(RepC.plain (c:=.eptr b' wd i off) hr).1
 |win b' b2 off len=>exact(RepC.plain (c:=.win b' b2 off len) hr).1
 |fn f n caps=>exact(RepC.plain (c:=.fn f n caps) hr).1
 |any=>exact RepI.ext hx .any v hr
 |bool t=>exact RepI.ext hx (.bool t) v hr
 |int k n=>exact RepI.ext hx (.int k n) v hr
 |str t=>exact RepI.ext hx (.str t) v hr
 |nil=>exact RepI.ext hx .nil v hr
 |ints k xs=>exact RepI.ext hx (.ints k xs) v hr
 |rows wd n f=>exact RepI.ext hx (.rows wd n f) v hr
 |elt c wd i off=>exact RepI.ext hx (.elt c wd i off) v hr
theorem backL_sound {dom:Nat→Prop}{ρ:Nat→Loc}{ok ok':Nat→Prop}{w:World}{b:Nat}(hb:dom b)(h:∀g,ok g→ok' g):∀{cs:List C} {vs:List Value},RepL (fun _=>ρ b) (fun i=>i=0) ok w cs vs→RepL ρ dom ok' w (cs.map (backC b)) vs
 |[],[],_=>trivial
 |_::_,_::_,hr=>⟨backC_sound hb h hr.1,backL_sound hb h hr.2⟩
 |[],_::_,hr=>hr.elim
 |_::_,[],hr=>hr.elim
theorem back1_sound {dom:Nat→Prop}{ρ:Nat→Loc}{ok ok':Nat→Prop}{w:World}{b:Nat}(hb:dom b)(h:∀g,ok g→ok' g):∀{xs:List V} {vs:List Value},RepVL (fun _=>ρ b) (fun i=>i=0) ok w xs vs→RepVL ρ dom ok' w (xs.map (back1 b)) vs
 |[],[],_=>trivial
 |x::xs,v::vs,hr=>by
  refine⟨?_,back1_sound hb h hr.2⟩
  cases x with
  |one c=>exact backC_sound (c:=c) hb h hr.1
  |unk=>trivial
  |agg cs=>obtain⟨us,h1,h2⟩:=hr.1;exact⟨us,h1,backL_sound hb h h2⟩
  |tup ys=>trivial
 |[],_::_,hr=>hr.elim
 |_::_,[],hr=>hr.elim
theorem backV_sound {dom:Nat→Prop}{ρ:Nat→Loc}{ok ok':Nat→Prop}{w:World}{b:Nat}(hb:dom b)(h:∀g,ok g→ok' g){x:V}{v:Value}(hr:RepV (fun _=>ρ b) (fun i=>i=0) ok w x v):RepV ρ dom ok' w (backV b x) v:=by
 cases x with
 |one c=>exact backC_sound (c:=c) hb h hr
 |unk=>trivial
 |agg cs=>obtain⟨us,h1,h2⟩:=hr;exact⟨us,h1,backL_sound hb h h2⟩
 |tup xs=>
  obtain⟨vs,h1,h2⟩:=hr;exact⟨vs,h1,back1_sound hb h h2⟩
theorem SimR.turned (h:SimR G dom ρ s a w){b:Nat}{B:Bk}(hl:lo s.own b=some ⟨B,true⟩){ids:List Nat}(hids:b∉ids){w':World}(hm:MBelow (ρ b) w w'){B':Bk}(hp:B'.plain)(hlen:B'.len=B.len)
  (hrep:RepBk loc0 dom0 (okM (okIds G s.own ρ w ids) w w') w' (ρ b) B'):
  SimR G dom ρ {s with own:=upd (Eng.frz s.own ids) b ⟨B',true⟩} a w'∧∀g,okM (okIds G s.own ρ w ids) w w' g→okOf G (upd (Eng.frz s.own ids) b ⟨B',true⟩) ρ w' g:=by
 obtain⟨hd,hlB,hrB,hgB⟩:=h.own b _ hl;have hlo:∀b2 B2,b2≠b→lo (Eng.frz s.own ids) b2=some B2→∃B3,lo s.own b2=some B3∧B2.bk=B3.bk∧(B2.rw=true→B3.rw=true∧b2∉ids):=by
  intro b2 B2 _ h2;rw[lo_frz]at h2
  cases h3:lo s.own b2 with
  |none=>rw[h3]at h2;simp at h2
  |some B3=>
   rw[h3]at h2;simp only[Option.map_some,Q6]at h2
   by_cases hm:ids.contains b2=true
   ·rw[if_pos hm]at h2;subst h2;exact⟨B3,rfl,rfl,fun h=>by simp at h⟩
   rw[if_neg hm]at h2;subst h2;exact⟨B3,rfl,rfl,fun h=>⟨h,by simpa using hm⟩⟩
 have hok:∀g,okM (okIds G s.own ρ w ids) w w' g→okOf G (upd (Eng.frz s.own ids) b ⟨B',true⟩) ρ w' g:=by
  have step:∀g,g<w'.heap.size→¬G.forb g→(∀o,(ρ b).addr≠some (g,o))→(∀b2 B2,b2≠b→lo (Eng.frz s.own ids) b2=some B2→B2.rw=true→∀o2,(ρ b2).addr≠some (g,o2))→okOf G (upd (Eng.frz s.own ids) b ⟨B',true⟩) ρ w' g:=by
   intro g h1 h2 h3 h4;refine⟨h1,h2,fun b2 B2 hl2 hrw o2=>?_⟩;rw[lo_upd]at hl2
   by_cases hbi:b2=b
   ·subst hbi;exact h3 o2
   rw[if_neg hbi]at hl2;exact h4 b2 B2 hbi hl2 hrw o2
  rintro g ((h3|⟨b1,hbi,B2,o',hl1,ha'⟩)|⟨h3,h4⟩)
  ·refine step g (Nat.lt_of_lt_of_le h3.1 hm.size) h3.2.1 (h3.2.2 b _ hl rfl) fun b2 B2 hne h2 hrw o2=>?_;obtain⟨B3,h5,_,h6⟩:=hlo b2 B2 hne h2;exact h3.2.2 b2 B3 h5 (h6 hrw).1 o2
  ·obtain⟨_,_,_,h4⟩:=h.own b1 B2 hl1;obtain⟨h5,h6,_⟩:=h4 g o' ha';have hne1:b≠b1:=fun e=>hids (e▸hbi);refine step g (Nat.lt_of_lt_of_le h5 hm.size) h6 (fun o he=>h.inj b _ b1 B2 hl hl1 hne1 rfl g o o' he ha') fun b2 B3 hne h2 hrw o2 he=>?_;obtain⟨B4,h7,_,h8⟩:=hlo b2 B3 hne h2;obtain⟨h9,h10⟩:=h8 hrw;exact h.inj b2 B4 b1 B2 h7 hl1 (fun e=>h10 (e▸hbi)) h9 g o2 o' he ha'
  refine step g h4 (fun hf=>absurd (h.wf _ hf) (by have:=h.size;omega)) (fun o he=>absurd (hgB g o he).1 (by omega)) fun b2 B2 hne h2 hrw o2 he=>?_;obtain⟨B3,h5,_,_⟩:=hlo b2 B2 hne h2;exact absurd ((h.own b2 B3 h5).2.2.2 g o2 he).1 (by omega)
 have hext:Ext (okOf G s.own ρ w) (okOf G (upd (Eng.frz s.own ids) b ⟨B',true⟩) ρ w') w w':=
  ⟨fun g hg=>⟨hok g (.inl (.inl hg)),hm.block g hg.1 (hg.2.2 b _ hl rfl)⟩,hm.room⟩
 have hs:Same dom dom ρ ρ:=⟨fun _ h=>h,fun _ _=>rfl⟩;refine⟨h.turn hext hs ?_ ?_ hm.os hm.tape hm.output hm.size ?_,hok⟩
 ·intro b2 B2 hl2;rw[lo_upd]at hl2
  by_cases hbi:b2=b
  ·subst hbi;rw[if_pos rfl]at hl2;obtain rfl:=Option.some.inj hl2;exact⟨hd,by rw[hlB];exact hlen.symm,hrep.plain_ext hp hok,fun g o ha=>⟨Nat.lt_of_lt_of_le (hgB g o ha).1 hm.size,(hgB g o ha).2⟩⟩
  rw[if_neg hbi]at hl2;obtain⟨B3,h5,h6,_⟩:=hlo b2 B2 hbi hl2;obtain⟨h7,h8,h9,h10⟩:=h.own b2 B3 h5;rw[h6];exact⟨h7,h8,RepBk.ext hext hs _ _ (fun g o ha=>hm.block g (h10 g o ha).1 fun o2 he=>h.inj b _ b2 B3 hl h5 (fun e=>hbi e.symm) rfl g o2 o he ha) h9,fun g o ha=>⟨Nat.lt_of_lt_of_le (h10 g o ha).1 hm.size,(h10 g o ha).2⟩⟩
 ·have hget:∀b2 B2,lo (upd (Eng.frz s.own ids) b ⟨B',true⟩) b2=some B2→∃B3,lo s.own b2=some B3∧(B2.rw=true→B3.rw=true):=by
   intro b2 B2 hl2;rw[lo_upd]at hl2
   by_cases hbi:b2=b
   ·subst hbi;exact⟨_,hl,fun _=>rfl⟩
   rw[if_neg hbi]at hl2;obtain⟨B3,h5,_,h7⟩:=hlo b2 B2 hbi hl2;exact⟨B3,h5,fun h=>(h7 h).1⟩
  intro b1 B1 b2 B2 hl1 hl2 hne hrw;obtain⟨B3,h5,h6⟩:=hget b1 B1 hl1;obtain⟨B4,h7,_⟩:=hget b2 B2 hl2;exact h.inj b1 B3 b2 B4 h5 h7 hne (h6 hrw)
 intro k hk hmine;refine hm.block k (Nat.lt_of_lt_of_le hk h.size) fun o he=>?_
 rcases(hgB k o he).2.2 with h1|h1
 ·omega
 exact hmine h1
end
def mIds (b:Nat)(raw:List V):List Nat:=(raw.map idsV).flatten.filter (fun b'=>b' !=b)
def mSt (s:St)(dst:Option Tmp)(b:Nat)(raw:List V)(r:V)(B':Bk):St:={s.put dst (backV b r)with own:=upd (frz s.own (mIds b raw)) b ⟨B',true⟩}
def wRes (c:Option C)(v u:Value):Value:=match c with
 |some _=>.tuple #[v,u]
 |none=>v
def FreshW (P:Program)(f:FuncId)(args:List V)(n:Nat)(g:Nat→Nat→C)(B:Bk)(c:Option C):Prop:=
 (∀c',c=some c'→scalarC' c')∧Callable P f∧B.flat∧∀(ok:Nat→Prop) (w:World) (vs:Array Value),(∀g,ok g→g<w.heap.size)→RepVL loc0 dom0 ok w args vs.toList→
  Calls P f vs w fun e w'=>∃v u l1 l2,e= .returned (wRes c v u)∧Go.RowKit.Below w.heap.size w w'∧l1.len=n∧l2.len=B.len∧
   (∀g o,l1.addr=some (g,o)→w.heap.size≤g∧g<w'.heap.size)∧(∀g o,l2.addr=some (g,o)→w.heap.size≤g∧g<w'.heap.size)∧(∀g o o',l1.addr=some (g,o)→l2.addr≠some (g,o'))∧
   RepBk loc0 dom0 (fun g=>ok g∨(w.heap.size≤g∧g<w'.heap.size∧∀o,l1.addr≠some (g,o)∧l2.addr≠some (g,o))) w' l2 B∧
   (∀(ρ:Nat→Loc) (dom ok':Nat→Prop) (b b2:Nat),ρ b=l1→ρ b2=l2→dom b→dom b2→(∀g,(ok g∨(w.heap.size≤g∧g<w'.heap.size∧∀o,l1.addr≠some (g,o)∧l2.addr≠some (g,o)))→ok' g)→
    RepBk ρ dom ok' w' l1 (.wins 0 b2 n (g b2))∧RepC ρ dom ok' w' (.win b b2 0 n) v)∧∀c',c=some c'→RepC loc0 dom0 (fun _=>False) w' c' u
def wVal (c:Option C)(x:C):V:=match c with
 |some c=>.tup [.one x,.one c]
 |none=>.one x
def wIds (raw:List V):List Nat:=(raw.map idsV).flatten
def wSt (s:St)(dst:Option Tmp)(raw:List V)(n:Nat)(g:Nat→Nat→C)(B:Bk)(c:Option C):St:=
 {s.put dst (wVal c (.win s.nx (s.nx+1) 0 n))with own:=upd (upd (frz s.own (wIds raw)) s.nx ⟨.wins 0 (s.nx+1) n (g (s.nx+1)),true⟩) (s.nx+1) ⟨B,true⟩,nx:=s.nx+2}
def FreshG (P:Program)(f:FuncId)(args:List V)(R:C→V)(B:Bk):Prop:=
 Callable P f∧B.flat∧∀(ok:Nat→Prop) (w:World) (vs:Array Value),(∀g,ok g→g<w.heap.size)→RepVL loc0 dom0 ok w args vs.toList→
  Calls P f vs w fun e w'=>∃v l,e= .returned v∧Go.RowKit.Below w.heap.size w w'∧l.len=B.len∧
   (∀g o,l.addr=some (g,o)→w.heap.size≤g∧g<w'.heap.size)∧
   RepBk loc0 dom0 (fun g=>ok g∨(w.heap.size≤g∧g<w'.heap.size∧∀o,l.addr≠some (g,o))) w' l B∧
   (∀(ρ:Nat→Loc) (dom ok':Nat→Prop) (b:Nat),ρ b=l→dom b→(∀g,(ok g∨(w.heap.size≤g∧g<w'.heap.size∧∀o,l.addr≠some (g,o)))→ok' g)→RepV ρ dom ok' w' (R (.own b B.wd 0 B.len)) v)
def gSt (s:St)(dst:Option Tmp)(raw:List V)(R:C→V)(B:Bk):St:=
 {s.put dst (R (.own s.nx B.wd 0 B.len))with own:=upd (frz s.own (wIds raw)) s.nx ⟨B,true⟩,nx:=s.nx+1}
def MCallK (P:Program)(f:FuncId)(raw:List V)(s:St)(dst:Option Tmp)(K:St→Prop):Prop:=
 (∃b B R,lo s.own b=some ⟨B,true⟩∧B.plain∧Mc P f (raw.map (muV b s.own s.nx)) B R∧∀r B',R r B'→B'.len=B.len→Later K (mSt s dst b raw r B'))∨
 (∃n g B c,FreshW P f (raw.map (vwV s.own s.nx)) n g B c∧Later K (wSt s dst raw n g B c))∨
 (∃R B,FreshG P f (raw.map (vwV s.own s.nx)) R B∧Later K (gSt s dst raw R B))
theorem wFresh {P:Program}{f:FuncId}{s:St}{dst:Option Tmp}{K:St→Prop}{raw:List V}{n:Nat}{g:Nat→Nat→C}{B:Bk}{c0:Option C}(hF:FreshW P f (raw.map (vwV s.own s.nx)) n g B c0)(hK:K (wSt s dst raw n g B c0))(hd:∀d,dst=some d→d<s.n)
  {G:Ctx} {a:Act} {w:World} {ρ:Nat→Loc} (hs:SimR G (fun b=>b<s.nx) ρ s a w) {vs:Array Value} (hvs:RepVL loc0 dom0 (okIds G s.own ρ w (wIds raw)) w (raw.map (vwV s.own s.nx)) vs.toList):
  Calls P f vs w fun e w'=>∃v,e= .returned v∧∃s',K s'∧Sim G s' (a.put dst v) w':=by
 obtain⟨hsc,hcall,hfl,hF⟩:=hF;have o:Oper:=default
 let ids:=wIds raw
 have hlt:∀g,okIds G s.own ρ w ids g→g<w.heap.size:=by
  rintro g (h1|⟨b,_,B,o',hl,ha'⟩)
  ·exact h1.1
  exact((hs.own b B hl).2.2.2 g o' ha').1
 refine Calls.mono (hF _ w _ hlt hvs) fun e w' he=>?_;obtain⟨v,u,l1,l2,rfl,hb,hl1,hl2,hn1,hn2,hdj,hrep,hwin,hu⟩:=he;refine⟨_,rfl,_,hK,?_⟩;have h2:=hs.frz ids
 let own2:=upd (upd (frz s.own ids) s.nx ⟨.wins 0 (s.nx+1) n (g (s.nx+1)),true⟩) (s.nx+1) ⟨B,true⟩
 let ρ2:=setLoc (setLoc ρ s.nx l1) (s.nx+1) l2
 have hr1:ρ2 s.nx=l1:=by show setLoc _ _ _ _=_;rw[setLoc_ne _ _ (by omega),sLs]
 have hr2:ρ2 (s.nx+1)=l2:=sLs ..;have hwh:∀b B3,lo own2 b=some B3→(ρ2 b=l2)∨(ρ2 b=l1)∨(lo (frz s.own ids) b=some B3∧ρ2 b=ρ b):=by
  intro b B3 hl;rw[lo_upd]at hl
  by_cases h1:b=s.nx+1
  ·exact .inl (by rw[h1];exact hr2)
  rw[if_neg h1,lo_upd]at hl
  by_cases h3:b=s.nx
  ·exact .inr (.inl (by rw[h3];exact hr1))
  rw[if_neg h3]at hl;exact .inr (.inr ⟨hl,by show setLoc _ _ _ _=_;rw[setLoc_ne _ _ h1,setLoc_ne _ _ h3]⟩)
 have hok:∀g,(okIds G s.own ρ w ids g∨(w.heap.size≤g∧g<w'.heap.size∧∀o,l1.addr≠some (g,o)∧l2.addr≠some (g,o)))→okOf G own2 ρ2 w' g:=by
  have step:∀g,g<w'.heap.size→¬G.forb g→(∀o,l1.addr≠some (g,o)∧l2.addr≠some (g,o))→(∀b2 B2,lo (frz s.own ids) b2=some B2→B2.rw=true→∀o2,(ρ b2).addr≠some (g,o2))→okOf G own2 ρ2 w' g:=by
   intro g h1 h2 h3 h4;refine⟨h1,h2,fun b2 B2 hl2 hrw o2=>?_⟩
   rcases hwh b2 B2 hl2 with e|e|⟨e1,e⟩<;>rw [e]
   ·exact(h3 o2).2
   ·exact(h3 o2).1
   exact h4 b2 B2 e1 hrw o2
  rintro g ((h3|⟨b,hbi,B2,o',hl,ha'⟩)|⟨h3,h4,h5⟩)
  ·exact step g (Nat.lt_of_lt_of_le h3.1 hb.size) h3.2.1 (fun o=>⟨fun he=>absurd h3.1 (by have:=(hn1 g o he).1;omega),fun he=>absurd h3.1 (by have:=(hn2 g o he).1;omega)⟩) (okOf_frz h3).2.2
  ·obtain⟨_,_,_,h4⟩:=hs.own b B2 hl;obtain⟨h5,h6,_⟩:=h4 g o' ha';refine step g (Nat.lt_of_lt_of_le h5 hb.size) h6 (fun o=>⟨fun he=>absurd h5 (by have:=(hn1 g o he).1;omega),fun he=>absurd h5 (by have:=(hn2 g o he).1;omega)⟩) fun b2 B3 hl2 hrw o2 ha2=>?_;rw[lo_frz]at hl2
   cases hl3:lo s.own b2 with
   |none=>rw[hl3]at hl2;simp at hl2
   |some B4=>
    rw[hl3]at hl2;simp only[Option.map_some,Q6]at hl2
    by_cases hm:ids.contains b2=true
    ·rw[if_pos hm]at hl2;subst hl2;simp at hrw
    rw[if_neg hm]at hl2;subst hl2
    by_cases hbb:b2=b
    ·subst hbb;exact hm (by simpa using hbi)
    exact hs.inj b2 B4 b B2 hl3 hl hbb hrw g o2 o' ha2 ha'
  refine step g h4 (fun hf=>absurd (hs.wf _ hf) (by have:=hs.size;omega)) h5 fun b2 B2 hl2 _ o2 ha2=>?_;rw[lo_frz]at hl2
  cases hl3:lo s.own b2 with
  |none=>rw[hl3]at hl2;simp at hl2
  |some B3=>exact absurd ((hs.own b2 B3 hl3).2.2.2 g o2 ha2).1 (by omega)
 let dom2:Nat→Prop:=fun b=>(b<s.nx∨b=s.nx)∨b=s.nx+1
 obtain⟨hw1,hw2⟩:=hwin ρ2 dom2 (okOf G own2 ρ2 w') s.nx (s.nx+1) hr1 hr2 (.inl (.inr rfl)) (.inr rfl) hok;have h3:=h2.newBlk2 hb (i:=s.nx) (j:=s.nx+1) (Nat.lt_irrefl _) (by omega) (by omega) (.wins 0 (s.nx+1) n (g (s.nx+1))) B l1 l2 hl1 hl2 hn1 hn2 hdj hw1
  (RepBk.ext (dom:=dom0) (ρ:=loc0) (Ext.of_imp hok) ⟨fun b hb=>hb.elim,fun b hb=>hb.elim⟩ _ _ (fun _ _ _=>rfl) hrep)
 have hcu:RepV ρ2 dom2 (okOf G own2 ρ2 w') w' (wVal c0 (.win s.nx (s.nx+1) 0 n)) (wRes c0 v u):=by
  cases c0 with
  |none=>exact hw2
  |some c=>
   have h1:=hsc c rfl;have h2:=hu c rfl
   exact⟨_,rfl,hw2,(by cases c<;>first|exact h1.elim|exact h2),trivial⟩
 have h4:=h3.put (dst:=dst) (x:=wVal c0 (.win s.nx (s.nx+1) 0 n)) (v:=wRes c0 v u) hd hcu;refine⟨ρ2,?_⟩;have e2:SimR G dom2 ρ2 (wSt s dst raw n g B c0) (a.put dst (wRes c0 v u)) w':=by
  obtain⟨q1,q2,q3,q4,q5,q6,q7,q8,q9,q10,q11,q12,q13⟩:=h4
  cases dst
  ·exact⟨q1,q2,q3,q4,q5,q6,q7,q8,q9,q10,q11,q12,q13⟩
  exact⟨q1,q2,q3,q4,q5,q6,q7,q8,q9,q10,q11,q12,q13⟩
 have e3:dom2=fun b=>b<(wSt s dst raw n g B c0).nx:=by
  funext b
  show((b<s.nx∨b=s.nx)∨b=s.nx+1)=(b<s.nx+2)
  exact propext ⟨fun h=>by omega,fun h=>by omega⟩
 rw[e3]at e2;exact e2
theorem gFresh {P:Program}{f:FuncId}{s:St}{dst:Option Tmp}{K:St→Prop}{raw:List V}{R:C→V}{B:Bk}(hF:FreshG P f (raw.map (vwV s.own s.nx)) R B)(hK:K (gSt s dst raw R B))(hd:∀d,dst=some d→d<s.n)
  {G:Ctx} {a:Act} {w:World} {ρ:Nat→Loc} (hs:SimR G (fun b=>b<s.nx) ρ s a w) {vs:Array Value} (hvs:RepVL loc0 dom0 (okIds G s.own ρ w (wIds raw)) w (raw.map (vwV s.own s.nx)) vs.toList):
  Calls P f vs w fun e w'=>∃v,e= .returned v∧∃s',K s'∧Sim G s' (a.put dst v) w':=by
 obtain⟨hcall,hfl,hF⟩:=hF
 let ids:=wIds raw
 have hlt:∀g,okIds G s.own ρ w ids g→g<w.heap.size:=by
  rintro g (h1|⟨b,_,B,o',hl,ha'⟩)
  ·exact h1.1
  exact((hs.own b B hl).2.2.2 g o' ha').1
 refine Calls.mono (hF _ w _ hlt hvs) fun e w' he=>?_;obtain⟨v,l,rfl,hb,hl1,hn1,hrep,hval⟩:=he;refine⟨_,rfl,_,hK,?_⟩;have h2:=hs.frz ids
 let own2:=upd (frz s.own ids) s.nx ⟨B,true⟩
 let ρ2:=setLoc ρ s.nx l
 have hr1:ρ2 s.nx=l:=sLs ..;have hwh:∀b B3,lo own2 b=some B3→(ρ2 b=l)∨(lo (frz s.own ids) b=some B3∧ρ2 b=ρ b):=by
  intro b B3 hl;rw[lo_upd]at hl
  by_cases h1:b=s.nx
  ·exact .inl (by rw[h1];exact hr1)
  rw[if_neg h1]at hl;exact .inr ⟨hl,setLoc_ne _ _ h1⟩
 have hok:∀g,(okIds G s.own ρ w ids g∨(w.heap.size≤g∧g<w'.heap.size∧∀o,l.addr≠some (g,o)))→okOf G own2 ρ2 w' g:=by
  have step:∀g,g<w'.heap.size→¬G.forb g→(∀o,l.addr≠some (g,o))→(∀b2 B2,lo (frz s.own ids) b2=some B2→B2.rw=true→∀o2,(ρ b2).addr≠some (g,o2))→okOf G own2 ρ2 w' g:=by
   intro g h1 h2 h3 h4;refine⟨h1,h2,fun b2 B2 hl2 hrw o2=>?_⟩
   rcases hwh b2 B2 hl2 with e|⟨e1,e⟩<;>rw [e]
   ·exact h3 o2
   exact h4 b2 B2 e1 hrw o2
  rintro g ((h3|⟨b,hbi,B2,o',hl,ha'⟩)|⟨h3,h4,h5⟩)
  ·exact step g (Nat.lt_of_lt_of_le h3.1 hb.size) h3.2.1 (fun o he=>absurd h3.1 (by have:=(hn1 g o he).1;omega)) (okOf_frz h3).2.2
  ·obtain⟨_,_,_,h4⟩:=hs.own b B2 hl;obtain⟨h5,h6,_⟩:=h4 g o' ha';refine step g (Nat.lt_of_lt_of_le h5 hb.size) h6 (fun o he=>absurd h5 (by have:=(hn1 g o he).1;omega)) fun b2 B3 hl2 hrw o2 ha2=>?_;rw[lo_frz]at hl2
   cases hl3:lo s.own b2 with
   |none=>rw[hl3]at hl2;simp at hl2
   |some B4=>
    rw[hl3]at hl2;simp only[Option.map_some,Q6]at hl2
    by_cases hm:ids.contains b2=true
    ·rw[if_pos hm]at hl2;subst hl2;simp at hrw
    rw[if_neg hm]at hl2;subst hl2
    by_cases hbb:b2=b
    ·subst hbb;exact hm (by simpa using hbi)
    exact hs.inj b2 B4 b B2 hl3 hl hbb hrw g o2 o' ha2 ha'
  refine step g h4 (fun hf=>absurd (hs.wf _ hf) (by have:=hs.size;omega)) h5 fun b2 B2 hl2 _ o2 ha2=>?_;rw[lo_frz]at hl2
  cases hl3:lo s.own b2 with
  |none=>rw[hl3]at hl2;simp at hl2
  |some B3=>exact absurd ((hs.own b2 B3 hl3).2.2.2 g o2 ha2).1 (by omega)
 let dom2:Nat→Prop:=fun b=>b<s.nx∨b=s.nx
 have h3:=h2.newBlk' hb (id:=s.nx) (Nat.lt_irrefl _) B l hl1 hn1 (RepBk.ext (dom:=dom0) (ρ:=loc0) (Ext.of_imp hok) ⟨fun b hb=>hb.elim,fun b hb=>hb.elim⟩ _ _ (fun _ _ _=>rfl) hrep);have h4:=h3.put (dst:=dst) (x:=R (.own s.nx B.wd 0 B.len)) (v:=v) hd (hval ρ2 dom2 (okOf G own2 ρ2 w') s.nx hr1 (.inr rfl) hok);refine⟨ρ2,?_⟩;have e2:SimR G dom2 ρ2 (gSt s dst raw R B) (a.put dst v) w':=by
  obtain⟨q1,q2,q3,q4,q5,q6,q7,q8,q9,q10,q11,q12,q13⟩:=h4
  cases dst
  ·exact⟨q1,q2,q3,q4,q5,q6,q7,q8,q9,q10,q11,q12,q13⟩
  exact⟨q1,q2,q3,q4,q5,q6,q7,q8,q9,q10,q11,q12,q13⟩
 have e3:dom2=fun b=>b<(gSt s dst raw R B).nx:=by
  funext b
  show(b<s.nx∨b=s.nx)=(b<s.nx+1)
  exact propext ⟨fun h=>by omega,fun h=>by omega⟩
 rw[e3]at e2;exact e2
def mCall (P:Program)(op:Op)(dst:Option Tmp)(s:St)(K:St→Prop):Prop:=
 match op with
 |.call c=>match c.callee with
  |.value g=>match s.ev g with
   |.one (.fn f n _)=>n=0∧MCallK P f (c.args.toList.map s.ev) s dst K
   |_=>False
  |_=>False
 |_=>False
theorem sMCall {P:Program}{o:Oper}{s:St}{K:St→Prop}(hd:dstLt o s.n)(h:mCall P o.op o.dst s K):WEff P o s K:=by
 unfold mCall at h
 split at h
 ·rename_i c ho
  split at h
  ·rename_i g hc
   split at h
   ·rename_i f n caps hg
    obtain⟨rfl,h⟩:=h;intro G a w hsim Q next hk;obtain⟨ρ,hs⟩:=hsim;have hgv:=hs.ev g;rw[hg]at hgv;obtain⟨cs,hgv,hcs,_⟩:=hgv;obtain rfl:cs= #[]:=Array.eq_empty_of_size_eq_zero hcs;have hrun:Callable P f→(execOp a.eval o).run P w= .ok (.enter f (c.args.map a.eval)) w:=by
     intro hcall;unfold execOp;rw[ho];simp only[resolve,hc,Sem.run_bind,hgv,Deferred.ofValue,Sem.run_pure,Q7,invoke]
     have:=callFunc_run (w:=w) hcall (c.args.map a.eval)
     simpa using this
    rcases h with⟨b,B,R,hl,hpl,⟨hcall,hmut⟩,hK⟩|⟨n0,g0,B,c0,hF,hK⟩|⟨R,B,hF,hK⟩
    rotate_left
    ·unfold Oper.wp;rw[hrun hF.2.1,Oper.upon_enter];refine Calls.mono (wFresh hF hK (dst:=o.dst) hd hs (vs:=c.args.map a.eval) ?_) fun e w' he=>?_
     ·rw[Array.toList_map]
      have:=RepVL.map_eval (ρ:=loc0) (dom:=dom0) (ok:=okIds G s.own ρ w (wIds (c.args.toList.map s.ev))) (w:=w) (fun x=>vwV s.own s.nx (s.ev x)) a.eval c.args.toList fun x hx=>
       vwV_sound hs (Agr.refl s s.nx o) _ _ _ (fun b' hb' _=>List.mem_flatten.2 ⟨_,List.mem_map.2 ⟨s.ev x,List.mem_map.2 ⟨x,hx,rfl⟩,rfl⟩,hb'⟩) (hs.ev x)
      simpa[List.map_map,Function.comp_def]using this
     obtain⟨v,rfl,s',h1,h2⟩:=he;exact hk _ _ _ h1 h2
    ·unfold Oper.wp;rw[hrun hF.1,Oper.upon_enter];refine Calls.mono (gFresh hF hK (dst:=o.dst) hd hs (vs:=c.args.map a.eval) ?_) fun e w' he=>?_
     ·rw[Array.toList_map]
      have:=RepVL.map_eval (ρ:=loc0) (dom:=dom0) (ok:=okIds G s.own ρ w (wIds (c.args.toList.map s.ev))) (w:=w) (fun x=>vwV s.own s.nx (s.ev x)) a.eval c.args.toList fun x hx=>
       vwV_sound hs (Agr.refl s s.nx o) _ _ _ (fun b' hb' _=>List.mem_flatten.2 ⟨_,List.mem_map.2 ⟨s.ev x,List.mem_map.2 ⟨x,hx,rfl⟩,rfl⟩,hb'⟩) (hs.ev x)
      simpa[List.map_map,Function.comp_def]using this
     obtain⟨v,rfl,s',h1,h2⟩:=he;exact hk _ _ _ h1 h2
    unfold Oper.wp;rw[hrun hcall,Oper.upon_enter]
    let raw:=c.args.toList.map s.ev
    let ids:=mIds b raw
    have hids:b∉ids:=by simp[ids,mIds]
    obtain⟨hdb,hlB,hrB,hgB⟩:=hs.own b _ hl;have hlt:∀g,okIds G s.own ρ w ids g→g<w.heap.size:=by
     rintro g (h1|⟨b,_,B,o',hl,ha'⟩)
     ·exact h1.1
     exact((hs.own b B hl).2.2.2 g o' ha').1
    have hnot:∀g o1,(ρ b).addr=some (g,o1)→g<w.heap.size∧¬okIds G s.own ρ w ids g:=by
     intro g o1 ha;refine⟨(hgB g o1 ha).1,?_⟩
     rintro(h1|⟨b1,hb1,B1,o',hl1,ha'⟩)
     ·exact h1.2.2 b _ hl rfl o1 ha
     exact hs.inj b _ b1 B1 hl hl1 (fun e=>hids (e▸hb1)) rfl g o1 o' ha ha'
    have hargs:RepVL (fun _=>ρ b) (fun i=>i=0) (okIds G s.own ρ w ids) w (raw.map (muV b s.own s.nx)) (c.args.map a.eval).toList:=by
     rw[Array.toList_map]
     have:=RepVL.map_eval (ρ:=fun _=>ρ b) (dom:=fun i=>i=0) (ok:=okIds G s.own ρ w ids) (w:=w) (fun x=>muV b s.own s.nx (s.ev x)) a.eval c.args.toList fun x hx=>by
      refine muV_sound hs b ids _ _ (fun b' hb' hne=>?_) (hs.ev x);refine List.mem_filter.2 ⟨List.mem_flatten.2 ⟨_,List.mem_map.2 ⟨s.ev x,List.mem_map.2 ⟨x,hx,rfl⟩,rfl⟩,hb'⟩,by simpa using hne⟩
     simpa[raw,List.map_map,Function.comp_def]using this
    have hrB':RepBk loc0 dom0 (okIds G s.own ρ w ids) w (ρ b) B:=hrB.plain_ext hpl fun g hg=>.inl hg;refine Calls.mono (hmut _ w _ (ρ b) hlt hlB hnot hrB' hargs) fun e w' he=>?_;obtain⟨v,r,B',rfl,hR,hp',hlen',hm,hrep,hval⟩:=he;obtain⟨hsim',hok⟩:=hs.turned hl hids hm hp' hlen' hrep;refine hk _ _ _ (hK r B' hR hlen') ⟨ρ,?_⟩;have hv2:RepV ρ (fun i=>i<s.nx) (okOf G (upd (frz s.own ids) b ⟨B',true⟩) ρ w') w' (backV b r) v:=backV_sound (dom:=fun i=>i<s.nx) hdb hok hval;have h4:=hsim'.put (dst:=o.dst) (x:=backV b r) (v:=v) hd hv2;have e2:mSt s o.dst b raw r B'=St.put {s with own:=upd (frz s.own ids) b ⟨B',true⟩} o.dst (backV b r):=by
     unfold mSt St.put
     cases o.dst<;>rfl
    show SimR G _ _ (mSt s o.dst b raw r B') _ w';rw[e2]
    have hnx:(St.put {s with own:=upd (frz s.own ids) b ⟨B',true⟩} o.dst (backV b r)).nx=s.nx:=by cases o.dst<;>rfl
    rw[hnx];exact h4
   exact h.elim
  exact h.elim
 exact h.elim
end Go.Eng
namespace Go.Eng
open Go
structure Alk (s s':St):Prop where
 env:∀t,lk s.env t=lk s'.env t
 own:∀b,lo s.own b=lo s'.own b
 n:s.n=s'.n
theorem Alk.refl (s:St):Alk s s:=⟨fun _=>rfl,fun _=>rfl,rfl⟩
theorem Alk.trans {a b c:St}(h:Alk a b)(k:Alk b c):Alk a c:=⟨fun t=>(h.env t).trans (k.env t),fun t=>(h.own t).trans (k.own t),h.n.trans k.n⟩
theorem Alk.symm {a b:St}(h:Alk a b):Alk b a:=⟨fun t=>(h.env t).symm,fun t=>(h.own t).symm,h.n.symm⟩
theorem SimR.alk {G:Ctx}{dom:Nat→Prop}{ρ:Nat→Loc}{s s':St}{a:Act}{w:World}(h:SimR G dom ρ s a w)(hs:Alk s s'):SimR G dom ρ s' a w:=by
 have hok:okOf G s'.own ρ w=okOf G s.own ρ w:=by
  funext g
  unfold okOf;simp only[hs.own]
 exact{
     hd:=h.hd,hn:=h.hn.trans hs.n,env:=fun t=>by rw[hok,←hs.env t];exact h.env t,own:=fun b B hl=>by rw[hok];exact h.own b B (by rw[hs.own];exact hl),
     inj:=fun b B b' B' hl hl'=>h.inj b B b' B' (by rw[hs.own];exact hl) (by rw[hs.own];exact hl'),os:=h.os,tape:=h.tape,output:=h.output,size:=h.size,keep:=h.keep,wf:=h.wf,home:=h.home,room:=h.room}
theorem put_env (s:St)(dst:Option Tmp)(v:V)(t:Nat):lk (s.put dst v).env t=if dst=some t then v else lk s.env t:=by
 cases dst with
 |none=>simp[St.put]
 |some d=>
  simp only[St.put,lk_cons,Q6]
  by_cases h:t=d
  ·subst h;simp
  rw[if_neg h,if_neg (fun e=>h e.symm)]
theorem add_env (s:St)(dst:Option Tmp)(id:Nat)(e:Eff)(t:Nat):lk (s.add dst id e).env t=if dst=some t then e.val else lk s.env t:=by
 have:(s.add dst id e).env=(s.put dst e.val).env:=by unfold St.add;split<;>rfl
 rw[this,put_env]
def frzIf (fz:List Nat)(b:Nat)(v:Blk):Blk:=if fz.contains b then⟨v.bk,false⟩else v
theorem add_own (s:St)(dst:Option Tmp)(id:Nat)(e:Eff)(b:Nat):lo (s.add dst id e).own b=(match e.blk with
  |some B=>if b=id then some ⟨B,true⟩else(lo s.own b).map (frzIf e.fz b)
  |none=>(lo s.own b).map (frzIf e.fz b)):=by
 unfold St.add
 cases e.blk with
 |none=>simp only[frzs_eq];rw[lo_frz];rfl
 |some B=>simp only[frzs_eq,lo_upd];split<;>first|rfl|(rw[lo_frz];rfl)
theorem add_n (s:St)(dst:Option Tmp)(id:Nat)(e:Eff):(s.add dst id e).n=s.n:=by
 unfold St.add;split<;>(cases dst<;>rfl)
theorem Alk.add {s s':St}(h:Alk s s')(dst:Option Tmp)(id:Nat)(e:Eff):Alk (s.add dst id e) (s'.add dst id e):=
 ⟨fun t=>by rw[add_env,add_env,h.env],fun b=>by rw[add_own,add_own,h.own],by rw[add_n,add_n,h.n]⟩
theorem add_comm' (s:St){d1 d2:Option Tmp}{i1 i2:Nat}{e1 e2:Eff}(hd:∀t,d1=some t→d2≠some t)(hi:i1≠i2)(h1:∀b∈e1.fz,b≠i2)(h2:∀b∈e2.fz,b≠i1):
  Alk ((s.add d1 i1 e1).add d2 i2 e2) ((s.add d2 i2 e2).add d1 i1 e1):=by
 refine⟨fun t=>?_,fun b=>?_,by simp only[add_n]⟩
 ·simp only[add_env]
  by_cases h:d1=some t
  ·rw[if_pos h,if_neg (hd t h),if_pos h]
  rw[if_neg h,if_neg h]
 simp only[add_own];have hc:∀(v:Blk),frzIf e2.fz b (frzIf e1.fz b v)=frzIf e1.fz b (frzIf e2.fz b v):=fun v=>by
  unfold frzIf;split<;>split<;>rfl
 have hcc:(lo s.own b).map (frzIf e2.fz b∘frzIf e1.fz b)=(lo s.own b).map (frzIf e1.fz b∘frzIf e2.fz b):=by
  congr 1;funext v;exact hc v
 have n1:b=i2→∀B:Bk,(some (⟨B,true⟩:Blk)).map (frzIf e1.fz b)=some ⟨B,true⟩:=fun hb B=>by
  subst hb;simp only[Option.map_some,frzIf];rw[if_neg (fun hc=>h1 b (by simpa using hc) rfl)]
 have n2:b=i1→∀B:Bk,(some (⟨B,true⟩:Blk)).map (frzIf e2.fz b)=some ⟨B,true⟩:=fun hb B=>by
  subst hb;simp only[Option.map_some,frzIf];rw[if_neg (fun hc=>h2 b (by simpa using hc) rfl)]
 cases e1.blk with
 |none=>
  cases e2.blk with
  |none=>simp only[Option.map_map];exact hcc
  |some B2=>
   simp only
   by_cases hb:b=i2
   ·rw[if_pos hb,if_pos hb,n1 hb]
   rw[if_neg hb,if_neg hb];simp only[Option.map_map];exact hcc
 |some B1=>
  cases e2.blk with
  |none=>
   simp only
   by_cases hb:b=i1
   ·rw[if_pos hb,if_pos hb,n2 hb]
   rw[if_neg hb,if_neg hb];simp only[Option.map_map];exact hcc
  |some B2=>
   simp only
   by_cases hb:b=i1
   ·rw[if_pos hb,if_neg (fun e=>hi (hb.symm.trans e)),if_pos hb,n2 hb]
   by_cases hb2:b=i2
   ·rw[if_pos hb2,if_neg hb,if_pos hb2,n1 hb2]
   rw[if_neg hb2,if_neg hb,if_neg hb,if_neg hb2];simp only[Option.map_map];exact hcc
def Eff.skip:Eff:=⟨.tup [],none,[]⟩
def gv:V→Option (Option Bool)
 |.one (.bool b)=>some (some b)
 |.tup []=>some none
 |_=>none
def stepOk (P:Program)(ops:Array Oper)(nx0 i:Nat)(o:Oper)(s:St)(e:Eff):Prop:=
 dstLt o s.n∧match o.guard with
 |none=>REff P o s nx0 (nx0+i) e
 |some (g,want)=>∃t b,(ops[g]?).bind (·.dst)=some t∧gv (lk s.env t)=some b∧(if b=some want then REff P o s nx0 (nx0+i) e else e=Eff.skip)
def dstOf (ops:Array Oper)(k:Nat):Option Tmp:=(ops[k]?).bind (·.dst)
def accum (σ:St)(nx0:Nat)(ops:Array Oper)(e:Nat→Eff)(L:Nat→Bool):Nat→St
 |0=>σ
 |k+1=>if L k then(accum σ nx0 ops e L k).add (dstOf ops k) (nx0+k) (e k)else accum σ nx0 ops e L k
section
variable {σ:St}{nx0:Nat}{ops:Array Oper}{e:Nat→Eff}
theorem accum_n (L:Nat→Bool)(k:Nat):(accum σ nx0 ops e L k).n=σ.n:=by
 induction k with
 |zero=>rfl
 |succ k ih=>simp only[accum];split<;>simp only[add_n,ih]
theorem accum_congr {L L':Nat→Bool}(k:Nat)(h:∀j,j<k→L j=L' j):accum σ nx0 ops e L k=accum σ nx0 ops e L' k:=by
 induction k with
 |zero=>rfl
 |succ k ih=>simp only[accum,h k (Nat.lt_succ_self k),ih (fun j hj=>h j (Nat.lt_succ_of_lt hj))]
theorem accum_one {N:Nat}{L:Nat→Bool}{i:Nat}(hi:L i=false)(hdst:∀j k t,j<N→k<N→j≠k→dstOf ops j=some t→dstOf ops k=some t→False)(hfz:∀j,∀b∈(e j).fz,b<nx0):
  ∀k,k≤N→i<k→Alk (accum σ nx0 ops e (fun j=>L j||j==i) k) ((accum σ nx0 ops e L k).add (dstOf ops i) (nx0+i) (e i)):=by
 intro k
 induction k with
 |zero=>intro _ h;omega
 |succ k ih=>
  intro hkN hik
  by_cases hk:i=k
  ·subst hk;simp only[accum,beq_self_eq_true,Bool.or_true,if_true,hi,Bool.false_eq_true,if_false]
   rw[accum_congr (L:=fun j=>L j||j==i) (L':=L) i (fun j hj=>by simp;omega)]
   exact Alk.refl _
  have ih':=ih (by omega) (by omega);have hne:(k==i)=false:=by simp;omega
  simp only[accum,hne,Bool.or_false]
  by_cases hL:L k=true
  ·simp only[hL,if_true];exact(ih'.add _ _ _).trans (add_comm' _ (fun t h1 h2=>hdst i k t (by omega) (by omega) hk h1 h2) (by omega) (fun b hb h=>by have:=hfz i b hb;omega) (fun b hb h=>by have:=hfz k b hb;omega))
  simp only[hL,Bool.false_eq_true,if_false];exact ih'
theorem accum_env_out (L:Nat→Bool)(t:Nat):∀k,(∀j,j<k→dstOf ops j≠some t)→lk (accum σ nx0 ops e L k).env t=lk σ.env t:=by
 intro k
 induction k with
 |zero=>intro _;rfl
 |succ k ih=>
  intro h;simp only[accum]
  split
  ·rw[add_env,if_neg (h k (Nat.lt_succ_self k))];exact ih (fun j hj=>h j (Nat.lt_succ_of_lt hj))
  exact ih (fun j hj=>h j (Nat.lt_succ_of_lt hj))
theorem accum_env_in {N:Nat}(L:Nat→Bool){t j:Nat}(hj:dstOf ops j=some t)(hL:L j=true)(hdst:∀j k t,j<N→k<N→j≠k→dstOf ops j=some t→dstOf ops k=some t→False):
  ∀k,k≤N→j<k→lk (accum σ nx0 ops e L k).env t=(e j).val:=by
 intro k
 induction k with
 |zero=>intro _ h;omega
 |succ k ih=>
  intro hkN h;simp only[accum]
  by_cases hjk:j=k
  ·subst hjk;rw[if_pos hL,add_env];exact if_pos hj
  have ih':=ih (by omega) (by omega)
  split
  ·rw[add_env,if_neg (fun h2=>hdst j k t (by omega) (by omega) hjk hj h2)];exact ih'
  exact ih'
theorem accum_own (L:Nat→Bool):∀k b,b<nx0→(lo (accum σ nx0 ops e L k).own b).map (·.bk)=(lo σ.own b).map (·.bk):=by
 intro k
 induction k with
 |zero=>intro b _;rfl
 |succ k ih=>
  intro b hb;simp only[accum]
  split
  ·rw[add_own];have hm:((lo (accum σ nx0 ops e L k).own b).map (frzIf (e k).fz b)).map (·.bk)=(lo σ.own b).map (·.bk):=by
    rw[←ih b hb,Option.map_map]
    congr 1
    funext v
    simp only[Function.comp,frzIf]
    split<;>rfl
   cases(e k).blk with
   |none=>exact hm
   |some B=>simp only;rw[if_neg (by omega)];exact hm
  exact ih b hb
end
def OpW (P:Program)(ops:Array Oper)(o:Oper)(s:St)(K:St→Prop):Prop:=
 match o.guard with
 |none=>WEff P o s K
 |some (g,want)=>∃t b,dstOf ops g=some t∧gv (lk s.env t)=some b∧(b=some want→WEff P o s K)∧(b≠some want→K (s.put o.dst (.tup [])))
def OpsW (P:Program)(ops:Array Oper):List Oper→St→(St→Prop)→Prop
 |[],s,K=>K s
 |o::os,s,K=>dstLt o s.n∧OpW P ops o s (fun s'=>OpsW P ops os s' K)
theorem getD_bool {a:Array Value}{t:Nat}{b:Bool}(h:a.getD t undef= .bool b):a[t]? =some (.bool b):=by
 rw[Array.getD_eq_getD_getElem?]at h
 cases ha:a[t]? with
 |none=>rw[ha]at h;cases h
 |some v=>rw[ha]at h;simpa using h
theorem wanted_of {G:Ctx}{dom:Nat→Prop}{ρ:Nat→Loc}{s:St}{a:Act}{w:World}(hs:SimR G dom ρ s a w){ops:Array Oper}{o:Oper}{g:Nat}{want:Bool}{b:Option Bool}{t:Nat}(hg:o.guard=some (g,want))(ht:dstOf ops g=some t)
  (hb:gv (lk s.env t)=some b):Region.wanted o (yielded ops a.tmps)=(b==some want):=by
 have hev:=hs.env t;have hd:(ops[g]?).bind (·.dst)=some t:=ht;have hy:yielded ops a.tmps g=b:=by
  unfold gv at hb
  split at hb
  ·rename_i b' he
   obtain rfl:=Option.some.inj hb;rw[he]at hev;have hev:a.tmps.getD t undef= .bool b':=hev;unfold yielded;simp only[hd,Option.bind_some,getD_bool hev]
  ·rename_i he
   obtain rfl:=Option.some.inj hb;rw[he]at hev;obtain⟨vs,hv,_⟩:=hev;unfold yielded;simp only[hd,Option.bind_some]
   cases ha:a.tmps[t]? with
   |none=>rfl
   |some v=>
    rw[Array.getD_eq_getD_getElem?,ha]at hv;simp only[Option.getD_some]at hv;rw[hv]
  cases hb
 unfold Region.wanted;simp only[hg,hy]
theorem wanted_none {o:Oper}{y:Nat→Option Bool}(hg:o.guard=none):Region.wanted o y=true:=by unfold Region.wanted;rw[hg]
theorem OpW.step {P:Program}{ops:Array Oper}{i:Nat}{o:Oper}(ho:ops[i]? =some o){s:St}{K:St→Prop}(h:OpW P ops o s K)(hd:dstLt o s.n){G:Ctx}{a:Act}{w:World}(hs:Sim G s a w){Q:Exit→Act→World→Prop}{next:Act→World→Prop}
  (hk:∀s' a' w',K s'→Sim G s' a' w'→next a' w'):wpOp P ops Q i next a w:=by
 unfold wpOp;simp only[ho];unfold OpW at h
 split at h
 ·rename_i hg
  rw[wanted_none hg,if_pos rfl];exact .inl (h G a w hs Q next hk)
 rename_i g want hg
 obtain⟨t,b,ht,hb,h1,h2⟩:=h;obtain⟨ρ,hr⟩:=hs;rw[wanted_of hr hg ht hb]
 by_cases hbw:b=some want
 ·rw[if_pos (by simp[hbw])];exact .inl (h1 hbw G a w ⟨ρ,hr⟩ Q next hk)
 rw[if_neg (by simpa using hbw)]
 have:=hr.put (dst:=o.dst) (x:=.tup []) (v:=undef) hd ⟨#[],rfl,trivial⟩
 refine hk _ _ _ (h2 hbw) ⟨ρ,?_⟩
 cases hdst:o.dst with
 |none=>rw[hdst]at this;exact this
 |some d=>rw[hdst]at this;exact this
theorem REff.toW {P:Program}{o:Oper}{s:St}{e:Eff}{K:St→Prop}(h:REff P o s s.nx s.nx e)(hK:K {s.add o.dst s.nx e with nx:=s.nx+1}):WEff P o s K:=by
 intro G a w hsim Q next hk;obtain⟨ρ,hs⟩:=hsim;refine h.1 G (fun b=>b<s.nx) ρ s a w hs (Nat.lt_irrefl _) (Agr.refl _ _ _) Q next fun v w' hs'=>?_;refine hk _ _ _ hK ?_;obtain⟨ρ',h1⟩:=hs'
 have h2:=h1.mono_dom (dom':=fun b=>b<s.nx+1) (fun b hb=>by rcases hb with hb|hb<;>omega)
 exact⟨ρ',h2.alk ⟨fun _=>rfl,fun _=>rfl,rfl⟩⟩
def preds (ops:Array Oper)(i:Nat):List Nat:=
 match ops[i]? with
 |some o=>(o.after.toList.filter (Region.binds .any)).map (·.on)
 |none=>[]
def closes (ops:Array Oper):Nat→Nat→Nat→Bool
 |0,_,_=>false
 |n+1,i,j=>(preds ops i).contains j||(preds ops i).any (fun p=>closes ops n p j)
def tmpsOf (o:Oper):List Tmp:=o.op.operands.toList.filterMap fun|.tmp t=>some t|_=>none
def drawOkR (ops:Array Oper)(nR i:Nat)(o:Oper):Bool:=
 ((tmpsOf o).all fun t=>(List.range nR).all fun j=>dstOf ops j !=some t||(decide (j<i)&&(preds ops i).contains j))&&
 (
  match o.guard with
  |none=>true
  |some (g,_)=>decide (g<i)&&(preds ops i).contains g)&&
 ((List.range nR).all fun j=>j==i||(dstOf ops j).isNone||dstOf ops j !=dstOf ops i)
def drawOk (ops:Array Oper)(nR:Nat):Bool:=
 decide (nR≤ops.size)&&
 (List.range ops.size).all fun i=>match ops[i]? with
  |none=>false
  |some o=>((preds ops i).all fun p=>decide (p<i))&&
   (if i<nR then drawOkR ops nR i o else(List.range i).all fun j=>closes ops ops.size i j)
structure DrawOk (ops:Array Oper) (nR:Nat):Prop where
 le:nR≤ops.size
 pred:∀i o,ops[i]? =some o→∀p∈preds ops i,p<i
 data:∀i o,ops[i]? =some o→i<nR→∀t,t∈tmpsOf o→∀j,j<nR→dstOf ops j=some t→j<i∧j∈preds ops i
 guard:∀i o g want,ops[i]? =some o→i<nR→o.guard=some (g,want)→g<i∧g∈preds ops i
 dst:∀j k t,j<nR→k<nR→j≠k→dstOf ops j=some t→dstOf ops k=some t→False
 clos:∀i,i<ops.size→nR≤i→∀j,j<i→closes ops ops.size i j=true
theorem drawOk_spec {ops:Array Oper}{nR:Nat}(h:drawOk ops nR=true):DrawOk ops nR:=by
 unfold drawOk at h;simp only[Bool.and_eq_true,decide_eq_true_eq,List.all_eq_true,List.mem_range]at h;obtain⟨hle,h⟩:=h;have hi:∀i o,ops[i]? =some o→((preds ops i).all fun p=>decide (p<i))=true∧(if i<nR then drawOkR ops nR i o else(List.range i).all fun j=>closes ops ops.size i j)=true:=by
  intro i o ho
  have:=h i (Array.getElem?_eq_some_iff.1 ho).1
  rw[ho]at this
  simpa using this
 have hR:∀i o,ops[i]? =some o→i<nR→drawOkR ops nR i o=true:=fun i o ho hlt=>by
  have:=(hi i o ho).2
  rw[if_pos hlt]at this;exact this
 refine⟨hle,fun i o ho p hp=>?_,fun i o ho hlt t ht j hj hd=>?_,fun i o g want ho hlt hg=>?_,fun j k t hj hk hjk h1 h2=>?_,fun i hi' hge j hj=>?_⟩
 ·have:=List.all_eq_true.1 (hi i o ho).1 p hp
  simpa using this
 ·have:=hR i o ho hlt
  unfold drawOkR at this;simp only[Bool.and_eq_true,List.all_eq_true,List.mem_range]at this
  have:=this.1.1 t ht j hj
  rw[hd]at this;simp at this;exact this
 ·have:=hR i o ho hlt
  unfold drawOkR at this;simp only[Bool.and_eq_true]at this
  have:=this.1.2
  rw[hg]at this
  simpa using this
 ·have hkk:k<ops.size:=by omega
  have:=hR k ops[k] (Array.getElem?_eq_getElem hkk) hk
  unfold drawOkR at this;simp only[Bool.and_eq_true,List.all_eq_true,List.mem_range]at this
  have:=this.2 j hj
  rw[h1,h2]at this;simp at this;exact hjk this
 have:=(hi i ops[i] (Array.getElem?_eq_getElem hi')).2
 rw[if_neg (by omega)]at this;exact List.all_eq_true.1 this j (by simpa using hj)
end Go.Eng
namespace Go.Eng
open Go
section
variable {P:Program}{ops:Array Oper}{nR:Nat}
theorem listed_set {listed:Array Bool}{i j:Nat}(hi:i<listed.size):(listed.setIfInBounds i true).getD j false=(listed.getD j false||j==i):=by
 by_cases h:i=j
 ·subst h
  simp[Array.getD,hi]
 rw[getD_set_ne false h]
 simp;intro e;exact absurd e.symm h
theorem closes_listed {listed:Array Bool}(hdown:∀i,listed.getD i false=true→∀p∈preds ops i,listed.getD p false=true):∀n i j,(∀p∈preds ops i,listed.getD p false=true)→closes ops n i j=true→listed.getD j false=true:=by
 intro n
 induction n with
 |zero=>intro i j _ h;simp[closes]at h
 |succ n ih=>
  intro i j hp h;simp only[closes,Bool.or_eq_true,List.any_eq_true]at h
  rcases h with h|⟨p,hpm,h⟩
  ·exact hp j (by simpa using h)
  exact ih p j (hdown p (hp p hpm)) h
theorem ready_preds {listed:Array Bool}{i:Nat}(h:i∈Region.ready .any ops listed):(∀p∈preds ops i,listed.getD p false=true)∧i<ops.size∧listed.getD i true=false:=by
 obtain⟨h0,o,ho,hall⟩:=mem_ready.1 h;refine⟨fun p hp=>?_,(Array.getElem?_eq_some_iff.1 ho).1,h0⟩;unfold preds at hp;rw[ho]at hp;obtain⟨e,he,rfl⟩:=List.mem_map.1 hp;obtain⟨he1,he2⟩:=List.mem_filter.1 he;exact hall e (by simpa using he1) he2
theorem ready_of_preds {listed:Array Bool}{i:Nat}{o:Oper}(ho:ops[i]? =some o)(hu:listed.getD i true=false)(h:∀p∈preds ops i,listed.getD p false=true):i∈Region.ready .any ops listed:=by
 refine mem_ready.2 ⟨hu,o,ho,fun e he hb=>h e.on ?_⟩;unfold preds;rw[ho];exact List.mem_map.2 ⟨e,List.mem_filter.2 ⟨by simpa using he,hb⟩,rfl⟩
def toCome (ops:Array Oper)(listed:Array Bool):Nat:=(List.range ops.size).countP (fun i=>!listed.getD i false)
theorem toCome_set {listed:Array Bool}{i:Nat}(hsz:listed.size=ops.size)(hi:i<ops.size)(hu:listed.getD i true=false):toCome ops (listed.setIfInBounds i true)+1=toCome ops listed:=by
 unfold toCome;have hf:listed.getD i false=false:=by
  have hlt:i<listed.size:=by omega
  simp[Array.getD,hlt]at hu⊢
  exact hu
 have key:∀l:List Nat,l.Nodup→(l.countP (fun j=>!(listed.setIfInBounds i true).getD j false))+(if i∈l then 1 else 0)=l.countP (fun j=>!listed.getD j false):=by
  intro l
  induction l with
  |nil=>intro _;simp
  |cons x l ih=>
   intro hnd;obtain⟨hx,hnd⟩:=List.nodup_cons.1 hnd;have ih':=ih hnd;simp only[List.countP_cons,listed_set (by omega:i<listed.size)]
   by_cases hxi:x=i
   ·subst hxi;rw[if_neg hx]at ih';simp only[hf,beq_self_eq_true,Bool.or_true,Bool.not_true,Bool.false_eq_true,if_false,Bool.not_false,if_true,List.mem_cons,true_or];simp only[listed_set (by omega:x<listed.size)]at ih';omega
   have hne:(x==i)=false:=by simpa using hxi
   have hmem:(i∈x::l)↔i∈l:=by simp[List.mem_cons];intro e;exact absurd e.symm hxi
   simp only[hne,Bool.or_false];simp only[hmem];simp only[listed_set (by omega:i<listed.size)]at ih';omega
 have:=key (List.range ops.size) List.nodup_range
 rw[if_pos (by simpa using hi)]at this;exact this
theorem toCome_zero {listed:Array Bool}(h:toCome ops listed=0):∀i,i<ops.size→listed.getD i false=true:=by
 intro i hi;unfold toCome at h;rw[List.countP_eq_zero]at h
 have:=h i (by simpa using hi)
 simpa using this
variable {σ:St}{es:Nat→Eff}{K:St→Prop}
structure Stand (P:Program) (G:Ctx) (ops:Array Oper) (nR:Nat) (σ:St) (es:Nat→Eff) (K:St→Prop) (listed:Array Bool) (a:Act) (w:World):Prop where
 size:listed.size=ops.size
 down:∀i,listed.getD i false=true→∀p∈preds ops i,listed.getD p false=true
 where_:((∀i,listed.getD i false=true→i<nR)∧SimD G (fun b=>b<σ.nx∨∃j,j<nR∧listed.getD j false=true∧b=σ.nx+j) (accum σ σ.nx ops es (fun j=>listed.getD j false) nR) a w)∨
  (∃k,nR≤k∧k≤ops.size∧(∀i,i<ops.size→(listed.getD i false=true↔i<k))∧∃s,OpsW P ops (ops.toList.drop k) s K∧Sim G s a w)
theorem Stand.later (hck:DrawOk ops nR)(hW:OpsW P ops (ops.toList.drop nR) {accum σ σ.nx ops es (fun _=>true) nR with nx:=σ.nx+ops.size} K)
  {G:Ctx} {listed:Array Bool} {a:Act} {w:World} (h:Stand P G ops nR σ es K listed a w) (hall:∀j,j<nR→listed.getD j false=true):
  ∃k,nR≤k∧k≤ops.size∧(∀i,i<ops.size→(listed.getD i false=true↔i<k))∧∃s,OpsW P ops (ops.toList.drop k) s K∧Sim G s a w:=by
 rcases h.where_ with⟨hlt,ρ,hsim⟩|hk
 ·refine⟨nR,O1 _,hck.le,fun i _=>⟨hlt i,hall i⟩,_,hW,ρ,?_⟩;rw[accum_congr (L:=fun j=>listed.getD j false) (L':=fun _=>true) nR (fun j hj=>hall j hj)]at hsim;have h2:=hsim.mono_dom (dom':=fun b=>b<σ.nx+ops.size) (fun b hb=>by
   have:=hck.le
   rcases hb with hb|⟨j,hj,_,rfl⟩<;>omega)
  exact h2.alk ⟨fun _=>rfl,fun _=>rfl,rfl⟩
 exact hk
theorem agr_of (hck:DrawOk ops nR){i:Nat}{o:Oper}(ho:ops[i]? =some o)(hi:i<nR){listed:Array Bool}(hp:∀p∈preds ops i,listed.getD p false=true):
  Agr (accum σ σ.nx ops es (fun _=>true) i) (accum σ σ.nx ops es (fun j=>listed.getD j false) nR) σ.nx o:=by
 refine⟨by rw[accum_n,accum_n],fun x hx=>?_,fun b hb=>by rw[accum_own _ nR b hb,accum_own _ i b hb]⟩
 cases x with
 |tmp t=>
  have htm:t∈tmpsOf o:=List.mem_filterMap.2 ⟨.tmp t,by simpa using hx,rfl⟩;show lk _ t=lk _ t
  by_cases hex:∃j,j<nR∧dstOf ops j=some t
  ·obtain⟨j,hj,hd⟩:=hex;obtain⟨hji,hjp⟩:=hck.data i o ho hi t htm j hj hd;rw[accum_env_in (N:=nR) (fun j=>listed.getD j false) hd (hp j hjp) hck.dst nR (O1 _) hj,accum_env_in (N:=nR) (fun _=>true) hd rfl hck.dst i (by omega) hji]
  rw[accum_env_out _ t nR (fun j hj h=>hex ⟨j,hj,h⟩),accum_env_out _ t i (fun j hj h=>hex ⟨j,by omega,h⟩)]
 |const v=>rfl
 |global g=>rfl
 |func f=>rfl
theorem wpAny_stand (hck:DrawOk ops nR)(hfz:∀j,∀b∈(es j).fz,b<σ.nx)
  (hstep:∀(i:Nat) o,i<nR→ops[i]? =some o→stepOk P ops σ.nx i o (accum σ σ.nx ops es (fun _=>true) i) (es i))
  (hW:OpsW P ops (ops.toList.drop nR) {accum σ σ.nx ops es (fun _=>true) nR with nx:=σ.nx+ops.size} K)
  {G:Ctx} {Q:Exit→Act→World→Prop} (hQ:∀s a w,K s→Sim G s a w→Q .normal a w):
  ∀(fuel:Nat) (listed:Array Bool) (a:Act) (w:World),Stand P G ops nR σ es K listed a w→toCome ops listed≤fuel→wpAny P .any ops Q fuel listed a w:=by
 intro fuel
 induction fuel with
 |zero=>
  intro listed a w h hf;have hall:=toCome_zero (Nat.le_zero.1 hf);refine⟨?_,?_⟩
  ·cases hr:Region.ready .any ops listed with
   |nil=>rfl
   |cons i l=>
    obtain⟨_,hi,hu⟩:=ready_preds (i:=i) (listed:=listed) (ops:=ops) (by rw[hr];simp);have h1:=hall i hi;have hlt:i<listed.size:=by rw[h.size];exact hi
    simp[Array.getD,hlt]at h1 hu
    rw[h1]at hu;cases hu
  obtain⟨k,hk1,hk2,hk3,s,hs,hsim⟩:=h.later hck hW (fun j hj=>hall j (by have:=hck.le;omega));have hke:k=ops.size:=by
   rcases Nat.lt_or_ge k ops.size with hlt|hge
   ·have:=(hk3 k hlt).1 (hall k hlt);omega
   omega
  subst hke;rw[List.drop_eq_nil_of_le (by simp)]at hs;exact hQ s a w hs hsim
 |succ fuel ih=>
  intro listed a w h hf;refine⟨fun hr=>?_,fun i hi=>?_⟩
  ·-- none is ready: all have been
   have hall:∀n i,i<n→i<ops.size→listed.getD i false=true:=by
    intro n
    induction n with
    |zero=>intro i hi;omega
    |succ n ihn=>
     intro i hin his
     by_cases hu:listed.getD i false=true
     ·exact hu
     have hlt:i<listed.size:=by rw[h.size];exact his
     have hu':listed.getD i true=false:=by
      simp[Array.getD,hlt]at hu⊢
      exact hu
     have hm:=ready_of_preds (ops:=ops) (Array.getElem?_eq_getElem his) hu' (fun p hp=>ihn p (by have:=hck.pred i _ (Array.getElem?_eq_getElem his) p hp;omega) (by have:=hck.pred i _ (Array.getElem?_eq_getElem his) p hp;omega));rw[hr]at hm;cases hm
   obtain⟨k,hk1,hk2,hk3,s,hs,hsim⟩:=h.later hck hW (fun j hj=>hall _ j (Nat.lt_succ_self _) (by have:=hck.le;omega));have hke:k=ops.size:=by
    rcases Nat.lt_or_ge k ops.size with hlt|hge
    ·have:=(hk3 k hlt).1 (hall _ k (Nat.lt_succ_self _) hlt);omega
    omega
   subst hke;rw[List.drop_eq_nil_of_le (by simp)]at hs;exact hQ s a w hs hsim
  obtain⟨hp,his,hu⟩:=ready_preds hi;have ho:=Array.getElem?_eq_getElem his;have hcount:=toCome_set h.size his hu;have hlt:i<listed.size:=by rw[h.size];exact his
  have hu':listed.getD i false=false:=by
   simp[Array.getD,hlt]at hu⊢
   exact hu
  have hdown':∀j,(listed.setIfInBounds i true).getD j false=true→∀p∈preds ops j,(listed.setIfInBounds i true).getD p false=true:=by
   intro j hj p hpj;rw[listed_set hlt]at hj⊢
   rcases Bool.or_eq_true_iff.1 hj with hj|hj
   ·rw[h.down j hj p hpj];rfl
   have:j=i:=by simpa using hj
   subst this;rw[hp p hpj];rfl
  by_cases hiR:i<nR
  ·-- one that only looks
   rcases h.where_ with⟨hlR,ρ,hsim⟩|⟨k,hk1,hk2,hk3,_⟩
   ·have hst:=hstep i ops[i] hiR ho;have hagr:=agr_of (σ:=σ) (es:=es) hck ho hiR hp;have hstand:∀a' w',SimD G (fun b=>(b<σ.nx∨∃j,j<nR∧listed.getD j false=true∧b=σ.nx+j)∨b=σ.nx+i) ((accum σ σ.nx ops es (fun j=>listed.getD j false) nR).add (dstOf ops i) (σ.nx+i) (es i)) a' w'→
      Stand P G ops nR σ es K (listed.setIfInBounds i true) a' w':=by
     rintro a' w' ⟨ρ',h1⟩;refine⟨by simpa using h.size,hdown',.inl ⟨fun j hj=>?_,ρ',?_⟩⟩
     ·rw[listed_set hlt]at hj
      rcases Bool.or_eq_true_iff.1 hj with hj|hj
      ·exact hlR j hj
      have:j=i:=by simpa using hj
      omega
     have h2:=h1.mono_dom (dom':=fun b=>b<σ.nx∨∃j,j<nR∧(listed.setIfInBounds i true).getD j false=true∧b=σ.nx+j) (fun b hb=>by
      rcases hb with(hb|⟨j,hj,hlj,rfl⟩)|rfl
      ·exact .inl hb
      ·exact .inr ⟨j,hj,by rw[listed_set hlt,hlj];rfl,rfl⟩
      exact .inr ⟨i,hiR,by rw[listed_set hlt];simp,rfl⟩)
     have h3:=accum_one (σ:=σ) (nx0:=σ.nx) (e:=es) (N:=nR) (L:=fun j=>listed.getD j false) (i:=i) hu' hck.dst hfz nR (O1 _) hiR;have h4:=h2.alk h3.symm
     rw[accum_congr (L:=fun j=>listed.getD j false||j==i) (L':=fun j=>(listed.setIfInBounds i true).getD j false) nR (fun j _=>(listed_set hlt).symm)]at h4
     exact h4
    have hdst:dstOf ops i=ops[i].dst:=by unfold dstOf;rw[ho];rfl
    have hid:¬(σ.nx+i<σ.nx∨∃j,j<nR∧listed.getD j false=true∧σ.nx+i=σ.nx+j):=by
     rintro(h1|⟨j,_,hj,he⟩)
     ·omega
     have:i=j:=by omega
     subst this;rw[hu']at hj;cases hj
    unfold wpOp;simp only[ho];obtain⟨hdl,hst⟩:=hst;have doit:REff P ops[i] (accum σ σ.nx ops es (fun _=>true) i) σ.nx (σ.nx+i) (es i)→ops[i].wp P a w (wpAny P .any ops Q fuel (listed.setIfInBounds i true)) Q:=by
     intro hre;refine hre.1 G _ ρ _ a w hsim hid hagr Q _ fun v w' h5=>?_;refine ih _ _ _ (hstand _ _ ?_) (by omega);rw[hdst];exact h5
    split at hst
    ·rename_i hg
     rw[wanted_none hg,if_pos rfl];exact .inl (doit hst)
    rename_i g want hg
    obtain⟨t,b,ht,hb,hst⟩:=hst;obtain⟨hgi,hgp⟩:=hck.guard i _ g want ho hiR hg;have hgR:g<nR:=by omega
    have hb':gv (lk (accum σ σ.nx ops es (fun j=>listed.getD j false) nR).env t)=some b:=by
     rw[accum_env_in (N:=nR) (fun j=>listed.getD j false) (t:=t) (j:=g) ht (hp g hgp) hck.dst nR (O1 _) hgR];rw[accum_env_in (N:=nR) (fun _=>true) (t:=t) (j:=g) ht rfl hck.dst i (by omega) hgi]at hb;exact hb
    rw[wanted_of hsim hg ht hb']
    by_cases hbw:b=some want
    ·rw[if_pos hbw]at hst;rw[if_pos (by simp[hbw])];exact .inl (doit hst)
    rw[if_neg hbw]at hst;rw[if_neg (by simpa using hbw)];refine ih _ _ _ (hstand _ _ ⟨ρ,?_⟩) (by omega);rw[hst,hdst];have h5:=hsim.put (dst:=ops[i].dst) (x:=.tup []) (v:=undef) (fun d hd=>by have:=hdl d hd;rw[accum_n]at this⊢;exact this) ⟨#[],rfl,trivial⟩;have h6:=h5.mono_dom (dom':=fun b=>(b<σ.nx∨∃j,j<nR∧listed.getD j false=true∧b=σ.nx+j)∨b=σ.nx+i) (fun b hb=>Or.inl hb);unfold Eff.skip;rw[St.add_plain];exact h6
   have:=(hk3 i his).2 (by omega)
   rw[hu']at this;cases this
  -- one that writes: all that stand ahead of it have been
  have hahead:∀j,j<i→listed.getD j false=true:=fun j hj=>closes_listed h.down _ i j hp (hck.clos i his (by omega) j hj);obtain⟨k,hk1,hk2,hk3,s,hs,hsim⟩:=h.later hck hW (fun j hj=>hahead j (by omega));have hki:k=i:=by
   rcases Nat.lt_trichotomy k i with hlt'|rfl|hgt
   ·have:=(hk3 k (by omega)).1 (hahead k hlt');omega
   ·rfl
   have:=(hk3 i his).2 hgt;rw[hu']at this;cases this
  subst hki;have hdrop:ops.toList.drop k=ops[k]::ops.toList.drop (k+1):=by
   rw[List.drop_eq_getElem_cons (by simpa using his)];rfl
  rw[hdrop]at hs;refine OpW.step ho hs.2 hs.1 hsim fun s' a' w' hs'' hsim'=>ih _ _ _ ?_ (by omega);refine⟨by simpa using h.size,hdown',.inr ⟨k+1,by omega,by omega,fun j hj=>?_,s',hs'',hsim'⟩⟩;rw[listed_set hlt]
  by_cases hjk:j=k
  ·subst hjk;simp
  have hne:(j==k)=false:=by simpa using hjk
  rw[hne,Bool.or_false,hk3 j hj];omega
end
def clrF (f:Nat→Nat→C)(off len:Nat):Nat→Nat→C:=fun i j=>if off≤i then(if i<off+len then .any else f i j)else f i j
def clrL (xs:List Int)(off len:Nat):List Int:=xs.take off++(List.replicate len 0++xs.drop (off+len))
def wClear (T:Tab)(s:St)(dst:Option Tmp)(t:TypeId)(x:Operand)(K:St→Prop):Prop:=
 match T t with
 |some S=>match S.k with
  |.sl e=>match T e with
   |some E=>match s.ev x with
    |.one (.own b wd off len)=>match lo s.own b with
     |some ⟨.rows e' w n f,rw⟩=>rw=true∧wd=w∧E.size=w∧E.zero.length=w∧0<w∧K {s.put dst .unk with own:=upd s.own b ⟨.rows e' w n (clrF f off len),true⟩}
     |some ⟨.ints e' k xs,rw⟩=>rw=true∧wd=1∧E.size=1∧E.zero=[.int k 0]∧K {s.put dst .unk with own:=upd s.own b ⟨.ints e' k (clrL xs off len),true⟩}
     |_=>False
    |_=>False
   |none=>False
  |_=>False
 |none=>False
theorem clrL_get (xs:List Int)(off len:Nat)(h:off+len≤xs.length)(j:Nat):(clrL xs off len)[j]? =if off≤j∧j<off+len then some 0 else xs[j]? :=by
 unfold clrL;rw[List.getElem?_append,List.getElem?_append,X5,List.length_replicate]
 by_cases h1:j<off
 ·rw[if_pos (by omega),if_neg (by omega),List.getElem?_take,if_pos h1]
 rw[if_neg (by omega)]
 by_cases h2:j<off+len
 ·rw[if_pos (by omega),if_pos (by omega),List.getElem?_replicate,if_pos (by omega)]
 rw[if_neg (by omega),if_neg (by omega),List.getElem?_drop];congr 1;omega
theorem clrL_length (xs:List Int)(off len:Nat)(h:off+len≤xs.length):(clrL xs off len).length=xs.length:=by
 unfold clrL;simp;omega
theorem clear_run {P:Program}{w:World}{t ty e:TypeId}{i:TypeInfo}{z:Value}(ht:P.underlying t=some (.slice e))(hi:P.info? e=some i)(hz:i.zero=some z)(g o len cap:Nat){cur:Array Value}{e':TypeId}(hg:w.heap[g]? =some (.cells cur e' (0,0)))
  (hfit:o+len*z.cells.size≤cur.size) (h1:z.cells.toList.all Value.oneCell'=true) (hsz:0<z.cells.size) (hlen:0<len):
  (Builtin.clear_ #[t] ty #[.slice (some ⟨g,o,none⟩) len cap]).run P w= .ok (.tuple #[]) (w.setRow g (cur.toList.take o++(Builtin.zeroCells z.cells len).toList++cur.toList.drop (o+len*z.cells.size)).toArray):=by
 have hzl:(Builtin.zeroCells z.cells len).toList.length=len*z.cells.size:=by simp[Builtin.zeroCells]
 have hone:∀u∈(Builtin.zeroCells z.cells len).toList,u.oneCell'=true:=by
  intro u hu;simp only[Builtin.zeroCells,Array.toList_map,List.mem_map]at hu;obtain⟨k,_,rfl⟩:=hu;have hk:k%z.cells.size<z.cells.size:=Nat.mod_lt _ hsz;rw[getElem!_pos z.cells _ hk];exact List.all_eq_true.1 h1 _ (by simp)
 have hst:=run_storeCells_at P g o e' (Builtin.zeroCells z.cells len).toList 0 cur w hg (by rw[hzl];simpa using hfit) hone;simp only[Nat.add_zero,hzl]at hst
 cases len with
 |zero=>omega
 |succ len=>
  simp only[Builtin.clear_,List.getElem?_toArray,List.getElem?_cons_zero,Sem.run_bind,run_underlying' ht,Q7,run_zeroValue hi hz,hst,Sem.run_pure]
section
variable {P:Program}{T:Tab}(hT:TabOk P T)
include hT
theorem sClear {
        o:Oper} {s:St} {K:St→Prop} {c:Call} (ho:o.op= .call c) (hcal:c.callee= .builtin .clear) {x:Operand} (hargs:c.args= #[x]) {t:TypeId} (htys:c.argTypes= #[t]) (hdn:dstLt o s.n) (h:wClear T s o.dst t x K):WEff P o s K:=by
 unfold wClear at h
 cases hTt:T t with
 |none=>rw[hTt]at h;exact h.elim
 |some S=>
  rw[hTt]at h;simp only at h
  split at h
  ·rename_i e hSk
   have hu:=T_slice hT hTt hSk
   cases hTe:T e with
   |none=>rw[hTe]at h;exact h.elim
   |some E=>
    rw[hTe]at h;simp only at h;obtain⟨ei,ed,ez,hei,heu,hez,hek,hes,_,hzc,hall⟩:=T_parts hT hTe;have hzl:E.zero.length=ez.cells.size:=by rw[hzc];simp
    split at h
    ·rename_i b wd off len hx
     intro G a w hsim Q next hk;obtain⟨ρ,hs⟩:=hsim;have hev:=hs.ev x;rw[hx]at hev;have hrun:∀(v:Value) (w':World),a.eval x=v→(∀ty,(Builtin.clear_ #[t] ty #[v]).run P w= .ok (.tuple #[]) w')→(execOp a.eval o).run P w= .ok (.value (.tuple #[])) w':=by
      intro v w' hv hr;unfold execOp;rw[ho];simp only[resolve,hcal,Sem.run_bind,Sem.run_pure,Q7,invoke,Go.builtin,hargs,htys,List.map_toArray,List.map_cons,List.map_nil,hv,hr]
     obtain⟨_,hle,cap,hcap,hval⟩:=hev;have hput:∀(w':World) (own':List (Nat×Blk)),SimR G (fun b=>b<s.nx) ρ {s with own:=own'} a w'→Sim G {s.put o.dst .unk with own:=own'} (a.put o.dst (.tuple #[])) w':=by
      intro w' own' h1;have h2:=h1.put (dst:=o.dst) (x:=.unk) (v:=.tuple #[]) hdn trivial
      cases hd:o.dst with
      |none=>rw[hd]at h2;exact⟨ρ,h2⟩
      |some d=>rw[hd]at h2;exact⟨ρ,h2⟩
     by_cases hl0:len=0
     ·subst hl0;have hclr:∀v,v=a.eval x→(∃ad,v= .slice ad 0 cap)→∀ty,(Builtin.clear_ #[t] ty #[v]).run P w= .ok (.tuple #[]) w:=by
       rintro v _ ⟨ad,rfl⟩ ty
       cases ad<;>simp only[Builtin.clear_,List.getElem?_toArray,List.getElem?_cons_zero,Sem.run_bind,run_underlying' hu,Q7,Sem.run_pure]
      have hsl:∃ad,a.eval x= .slice ad 0 cap:=by
       rcases hval with⟨g,o1,o2,_,hv,_⟩|⟨_,hv,_,hc0⟩
       ·exact⟨_,hv⟩
       exact⟨none,by rw[hv,hc0]⟩
      have hr:=hrun _ w rfl (hclr _ rfl hsl);have hsame:∀own',(∀b',lo own' b'=lo s.own b')→SimR G (fun b=>b<s.nx) ρ {s with own:=own'} a w:=fun own' he=>hs.alk ⟨fun _=>rfl,fun b'=>(he b').symm,rfl⟩
      split at h
      ·rename_i e' w0 n f rw_ hlo
       obtain⟨rfl,rfl,_,_,_,hK⟩:=h;refine Oper.wp_value hr (hk _ _ _ hK (hput _ _ (hsame _ fun b'=>?_)));rw[lo_upd]
       split
       ·rename_i hb;subst hb;rw[hlo]
        have:clrF f off 0=f:=by funext i j;unfold clrF;by_cases h1:off≤i<;>simp [h1];omega
        rw[this]
       rfl
      ·rename_i e' k xs rw_ hlo
       obtain⟨rfl,rfl,_,_,hK⟩:=h;refine Oper.wp_value hr (hk _ _ _ hK (hput _ _ (hsame _ fun b'=>?_)));rw[lo_upd]
       split
       ·rename_i hb;subst hb;rw[hlo]
        have:clrL xs off 0=xs:=by unfold clrL;simp
        rw[this]
       rfl
      exact h.elim
     rcases hval with⟨g,o1,o2,haddr,hv,ho2,_⟩|⟨_,_,h0,_⟩
     ·have ho3:o2=o1+off*wd:=by rcases ho2 with h1|h1<;>omega
      subst ho3
      split at h
      ·rename_i e' w0 n f rw_ hlo
       obtain⟨rfl,rfl,hE,hEz,hpos,hK⟩:=h;have hzs:ez.cells.size=wd:=by omega
       obtain⟨_,hlenρ,hrep,_⟩:=hs.own b _ hlo;unfold RepBk at hrep;rw[haddr]at hrep;obtain⟨cur,ee,hg,hc⟩:=hrep;simp only at hc;rw[hlenρ]at hle;simp only[Bk.len]at hle;have hmul:(off+len)*wd≤n*wd:=O8 _ hle;have hmul2:(off+len)*wd=off*wd+len*wd:=Nat.add_mul _ _ _;have hlw:0<len*wd:=Nat.mul_pos (by omega) hpos;have hfit:o1+off*wd+len*ez.cells.size≤cur.size:=by
        rw[hzs];obtain⟨u,hu',_⟩:=hc (n*wd-1) (f ((n*wd-1)/wd) ((n*wd-1)%wd)) (by simp only[Bk.cell];rw[if_pos (by omega)])
        have:=(Array.getElem?_eq_some_iff.1 hu').1
        omega
       have hr:=hrun _ _ hv (fun ty=>clear_run (ty:=ty) hu hei hez g (o1+off*wd) len cap hg hfit hall (by omega) (by omega));refine Oper.wp_value hr (hk _ _ _ hK (hput _ _ ?_));have hzl2:(Builtin.zeroCells ez.cells len).toList.length=len*wd:=by simp[Builtin.zeroCells,hzs]
       have hsz:((cur.toList.take (o1+off*wd)++(Builtin.zeroCells ez.cells len).toList++cur.toList.drop (o1+off*wd+len*ez.cells.size)).toArray).size=cur.size:=by
        simp only[List.size_toArray,X6,X5,List.length_drop,hzl2,Array.length_toList];rw[hzs]at hfit⊢;omega
       refine hs.write hlo haddr hg hsz (.rows e' wd n (clrF f off len)) rfl fun j c' hj=>?_;simp only[Bk.cell]at hj
       split at hj
       ·rename_i hjn
        simp only[Q6]at hj;have hlg:=laid_get cur.toList (o1+off*wd) (Builtin.zeroCells ez.cells len).toList (by rw[hzl2];simp only[Array.length_toList];rw[hzs]at hfit;omega) (o1+j);rw[hzl2]at hlg;have hd1:=Nat.div_add_mod j wd;have hd2:=Nat.mod_lt j hpos;simp only[List.getElem?_toArray,hzs,hlg]
        by_cases hm:off*wd≤j∧j<off*wd+len*wd
        ·rw[if_pos (by omega)];have hi1:off≤j/wd:=(Nat.le_div_iff_mul_le hpos).2 hm.1;have hi2:j/wd<off+len:=(Nat.div_lt_iff_lt_mul hpos).2 (by omega);have hcany:c'= .any:=by rw[←hj];unfold clrF;rw[if_pos hi1,if_pos hi2]
         subst hcany;have hlt:o1+j-(o1+off*wd)<(Builtin.zeroCells ez.cells len).toList.length:=by rw[hzl2];omega
         refine⟨_,X8 hlt,?_⟩;show Value.oneCell' _=true;simp only[Builtin.zeroCells,Array.getElem_toList,Array.getElem_map,Array.getElem_range];have hkk:(o1+j-(o1+off*wd))%ez.cells.size<ez.cells.size:=Nat.mod_lt _ (by omega);rw[getElem!_pos ez.cells _ hkk];exact List.all_eq_true.1 hall _ (by simp)
        rw[if_neg (by omega),Array.getElem?_toList];have hcf:c'=f (j/wd) (j%wd):=by
         rw[←hj];unfold clrF
         by_cases hi1:off≤j/wd
         ·rw[if_pos hi1,if_neg];intro hi2;have a1:=(Nat.le_div_iff_mul_le hpos).1 hi1;have a2:=(Nat.div_lt_iff_lt_mul hpos).1 hi2;omega
         rw[if_neg hi1]
        exact hc j c' (by simp only[Bk.cell];rw[if_pos hjn,hcf])
       cases hj
      ·rename_i e' k xs rw_ hlo
       obtain⟨rfl,rfl,hE,hEz,hK⟩:=h;have hzs:ez.cells.size=1:=by rw[←hzl,hEz];rfl
       have hmm:len*ez.cells.size=len:=by rw[hzs,Nat.mul_one]
       obtain⟨_,hlenρ,hrep,_⟩:=hs.own b _ hlo;unfold RepBk at hrep;rw[haddr]at hrep;obtain⟨cur,ee,hg,hc⟩:=hrep;simp only at hc;rw[hlenρ]at hle;simp only[Bk.len]at hle;have hfit:o1+off*1+len*ez.cells.size≤cur.size:=by
        obtain⟨u,hu',_⟩:=hc (xs.length-1) (.int k xs[xs.length-1]) (by simp only[Bk.cell];rw[X8 (by omega)];rfl)
        have:=(Array.getElem?_eq_some_iff.1 hu').1
        omega
       have hr:=hrun _ _ hv (fun ty=>clear_run (ty:=ty) hu hei hez g (o1+off*1) len cap hg hfit hall (by omega) (by omega));refine Oper.wp_value hr (hk _ _ _ hK (hput _ _ ?_));have hzl2:(Builtin.zeroCells ez.cells len).toList.length=len:=by simp[Builtin.zeroCells,hzs]
       have hsz:((cur.toList.take (o1+off*1)++(Builtin.zeroCells ez.cells len).toList++cur.toList.drop (o1+off*1+len*ez.cells.size)).toArray).size=cur.size:=by
        simp only[List.size_toArray,X6,X5,List.length_drop,hzl2,Array.length_toList];omega
       refine hs.write hlo haddr hg hsz (.ints e' k (clrL xs off len)) (clrL_length xs off len hle) fun j c' hj=>?_;simp only[Bk.cell,clrL_get xs off len hle]at hj;have hlg:=laid_get cur.toList (o1+off*1) (Builtin.zeroCells ez.cells len).toList (by rw[hzl2];simp only[Array.length_toList];omega) (o1+j);rw[hzl2]at hlg;simp only[List.getElem?_toArray,hmm,hlg]
       by_cases hm:off≤j∧j<off+len
       ·rw[if_pos hm]at hj;simp only[Option.map_some,Q6]at hj;subst hj;rw[if_pos (by omega)];have hlt:o1+j-(o1+off*1)<(Builtin.zeroCells ez.cells len).toList.length:=by rw[hzl2];omega
        refine⟨_,X8 hlt,?_⟩;simp only[Builtin.zeroCells,Array.getElem_toList,Array.getElem_map,Array.getElem_range];have hz0:ez.cells.toList.map cvC=[.int k 0]:=by rw[←hzc];exact hEz
        obtain⟨v0,hv0⟩:∃v0,ez.cells.toList=[v0]:=List.length_eq_one_iff.1 (by simpa using hzs);rw[hv0]at hz0;have hcv:cvC v0= .int k 0:=by simpa using hz0
        have hone:v0.oneCell'=true:=List.all_eq_true.1 hall _ (by rw[hv0];simp);have hrr:=cvC_repI (ok:=okOf G s.own ρ w) (w:=w) v0 hone;rw[hcv]at hrr;have hkk:(o1+j-(o1+off*1))%ez.cells.size<ez.cells.size:=Nat.mod_lt _ (by omega);rw[getElem!_pos ez.cells _ hkk];have hv1:ez.cells[(o1+j-(o1+off*1))%ez.cells.size]=v0:=by
         have:ez.cells.toList[(o1+j-(o1+off*1))%ez.cells.size]? =some v0:=by
          rw[hv0,hzs,Nat.mod_one];rfl
         rw[Array.getElem?_toList,Array.getElem?_eq_getElem hkk]at this;exact Option.some.inj this
        rw[hv1];exact hrr
       rw[if_neg hm]at hj;rw[if_neg (by omega),Array.getElem?_toList];exact hc j c' hj
      exact h.elim
     omega
    exact h.elim
  exact h.elim
end
def cpyF (f g:Nat→Nat→C)(off n:Nat):Nat→Nat→C:=fun i j=>if off≤i then(if i<off+n then g (i-off) j else f i j)else f i j
def wCopy (T:Tab)(s:St)(dst:Option Tmp)(t:TypeId)(x y:Operand)(K:St→Prop):Prop:=
 match T t with
 |some S=>
       match S.k with
  |.sl e=>match T e with
   |some E=>match s.ev x with
    |.one (.own b wd off len)=>match lo s.own b with
     |some ⟨.rows e' w n f,rw⟩=>match s.ev y with
      |.one cy=>match rowsR w (vwA s.own s.nx cy)with
       |some (m,g)=>rw=true∧wd=w∧E.size=w∧0<w∧K {s.put dst (.one (.int .i64 ((if m<len then m else len:Nat):Int)))with own:=upd s.own b ⟨.rows e' w n (cpyF f g off (if m<len then m else len)),true⟩}
       |none=>False
      |_=>False
     |_=>False
    |_=>False
   |none=>False
  |_=>False
 |none=>False
theorem copy_run {P:Program}{w:World}{t t' ty e:TypeId}{i:TypeInfo}(ht:P.underlying t=some (.slice e))(hi:P.info? e=some i)(dv sv:Option Addr)(len cap m cap' n:Nat)(hn:n=if m<len then m else len){us:List Value}(hl:us.length=n*i.size)(hh:HoldsAt w sv us){w':World}
  (hst:(match dv with|some a=>storeCells a us|none=>pure ()).run P w= .ok () w'):
  (Builtin.copy_ #[t,t'] ty #[.slice dv len cap,.slice sv m cap']).run P w= .ok (goInt n) w':=by
 have hf:=firstCells_run (P:=P) i.size n sv m cap' us hl hh
 have hm:Nat.min m len=n:=by rw[hn];show min m len=_;split<;>omega
 cases dv with
 |none=>
  obtain rfl:w=w':=by simpa using hst
  simp[Builtin.copy_,Go.run_underlying ht,sizeOf,typeInfo,hi,Builtin.lenOf,hm,hf]
 |some a=>
  simp only at hst
  simp[Builtin.copy_,Go.run_underlying ht,sizeOf,typeInfo,hi,Builtin.lenOf,hm,hf,hst]
section
variable {P:Program}{T:Tab}(hT:TabOk P T)
include hT
theorem sCopy {o:Oper}{s:St}{K:St→Prop}{c:Call}(ho:o.op= .call c)(hcal:c.callee= .builtin .copy){x y:Operand}(hargs:c.args= #[x,y]){t t':TypeId}(htys:c.argTypes= #[t,t'])(hdn:dstLt o s.n)(h:wCopy T s o.dst t x y K):WEff P o s K:=by
 unfold wCopy at h
 cases hTt:T t with
 |none=>rw[hTt]at h;exact h.elim
 |some S=>
  rw[hTt]at h;simp only at h
  split at h
  rotate_left
  ·exact h.elim
  rename_i e hSk
  have hu:=T_slice hT hTt hSk
  cases hTe:T e with
  |none=>rw[hTe]at h;exact h.elim
  |some E=>
   rw[hTe]at h;simp only at h;obtain⟨ei,ed,ez,hei,heu,hez,hek,hes,_,hzc,hall⟩:=T_parts hT hTe
   split at h
   rotate_left
   ·exact h.elim
   rename_i b wd off len hx
   split at h
   rotate_left
   ·exact h.elim
   rename_i e' w0 n f rw_ hlo
   split at h
   rotate_left
   ·exact h.elim
   rename_i cy hy
   split at h
   rotate_left
   ·exact h.elim
   rename_i m g hm
   obtain⟨rfl,rfl,hE,hpos,hK⟩:=h;intro G a w hsim Q next hk;obtain⟨ρ,hs⟩:=hsim;have hev:=hs.ev x;rw[hx]at hev;have hevy:=hs.ev y;rw[hy]at hevy;obtain⟨ad,cap',us,hvy,hcs⟩:=src_rows hs (fun _ hb=>hb) hevy hm;obtain⟨_,hle,cap,hcap,hval⟩:=hev;obtain⟨nn,hnn⟩:∃nn,nn=if m<len then m else len:=⟨_,rfl⟩
   rw[←hnn]at hK
   have hnm:nn≤m∧nn≤len:=by rw[hnn];split<;>omega
   have hmul:nn*wd≤m*wd:=O8 _ hnm.1;have hes':ei.size=wd:=by omega
   have hl:(us.take (nn*wd)).length=nn*ei.size:=by rw[X5,hcs.len,hes'];omega
   have hh:HoldsAt w ad (us.take (nn*wd)):=by
    rcases hcs.at_ with h1|⟨a1,h1,h2⟩
    ·left;rw[h1];simp
    refine .inr ⟨a1,h1,fun j u hj=>h2 j u ?_⟩;rw[List.getElem?_take]at hj
    split at hj
    ·exact hj
    cases hj
   have hrun:∀(v:Value) (w':World) (dv:Option Addr),a.eval x=v→v= .slice dv len cap→(match dv with|some a=>storeCells a (us.take (nn*wd))|none=>pure ()).run P w= .ok () w'→(execOp a.eval o).run P w= .ok (.value (goInt nn)) w':=by
    intro v w' dv hv hv2 hst;subst hv2;have hr:=copy_run (t':=t') (ty:=o.type) hu hei dv ad len cap m cap' nn hnn hl hh hst;unfold execOp;rw[ho];simp only[resolve,hcal,Sem.run_bind,Sem.run_pure,Q7,invoke,Go.builtin,hargs,htys,List.map_toArray,List.map_cons,List.map_nil,hv,hvy,hr]
   have hput:∀(w':World) (own':List (Nat×Blk)),SimR G (fun b=>b<s.nx) ρ {s with own:=own'} a w'→Sim G {s.put o.dst (.one (.int .i64 (nn:Int)))with own:=own'} (a.put o.dst (goInt nn)) w':=by
    intro w' own' h1;have h2:=h1.put (dst:=o.dst) (x:=.one (.int .i64 (nn:Int))) (v:=goInt nn) hdn rfl
    cases hd:o.dst with
    |none=>rw[hd]at h2;exact⟨ρ,h2⟩
    |some d=>rw[hd]at h2;exact⟨ρ,h2⟩
   by_cases hl0:nn=0
   ·subst hl0;have hsl:∃dv,a.eval x= .slice dv len cap:=by
     rcases hval with⟨g,o1,o2,_,hv,_⟩|⟨_,hv,h1,h2⟩
     ·exact⟨_,hv⟩
     exact⟨none,by rw[hv,h1,h2]⟩
    obtain⟨dv,hv⟩:=hsl
    have hr:=hrun _ w dv hv rfl (by cases dv<;>simp [storeCells])
    refine Oper.wp_value hr (hk _ _ _ hK (hput _ _ (hs.alk ⟨fun _=>rfl,fun b'=>?_,rfl⟩)));rw[lo_upd]
    split
    ·rename_i hb;subst hb;rw[hlo]
     have:cpyF f g off 0=f:=by funext i j;unfold cpyF;by_cases h1:off≤i<;>simp [h1];omega
     rw[this]
    rfl
   rcases hval with⟨g1,o1,o2,haddr,hv,ho2,_⟩|⟨_,_,h0,_⟩
   rotate_left
   ·omega
   have ho3:o2=o1+off*wd:=by rcases ho2 with h1|h1<;>omega
   subst ho3;obtain⟨_,hlenρ,hrep,_⟩:=hs.own b _ hlo;unfold RepBk at hrep;rw[haddr]at hrep;obtain⟨cur,ee,hg,hc⟩:=hrep;simp only at hc;rw[hlenρ]at hle;simp only[Bk.len]at hle;have hmul1:(off+nn)*wd≤n*wd:=O8 _ (by omega);have hmul2:(off+nn)*wd=off*wd+nn*wd:=Nat.add_mul _ _ _;have hlw:0<nn*wd:=Nat.mul_pos (by omega) hpos;have hl2:(us.take (nn*wd)).length=nn*wd:=by rw[hl,hes']
   have hfit:o1+off*wd+nn*wd≤cur.size:=by
    obtain⟨u,hu',_⟩:=hc (n*wd-1) (f ((n*wd-1)/wd) ((n*wd-1)%wd)) (by simp only[Bk.cell];rw[if_pos (by omega)])
    have:=(Array.getElem?_eq_some_iff.1 hu').1
    omega
   have hone:∀u∈us.take (nn*wd),u.oneCell'=true:=fun u hu=>hcs.one u (List.mem_of_mem_take hu);have hst:=run_storeCells_at P g1 (o1+off*wd) ee (us.take (nn*wd)) 0 cur w hg (by rw[hl2];omega) hone;simp only[Nat.add_zero,hl2]at hst;have hr:=hrun _ _ _ hv rfl hst;refine Oper.wp_value hr (hk _ _ _ hK (hput _ _ ?_));refine hs.write hlo haddr hg (by simp only[List.size_toArray,X6,X5,List.length_drop,Array.length_toList,hcs.len];omega) (.rows e' wd n (cpyF f g off nn)) rfl fun j c' hj=>?_;simp only[Bk.cell]at hj
   split at hj
   rotate_left
   ·cases hj
   rename_i hjn
   simp only[Q6]at hj;have hlg:=laid_get cur.toList (o1+off*wd) (us.take (nn*wd)) (by rw[hl2];simp only[Array.length_toList];omega) (o1+j);rw[hl2]at hlg;have hd1:=Nat.div_add_mod j wd;have hd2:=Nat.mod_lt j hpos;simp only[List.getElem?_toArray,hlg]
   by_cases hmm:off*wd≤j∧j<off*wd+nn*wd
   ·rw[if_pos (by omega)];have hi1:off≤j/wd:=(Nat.le_div_iff_mul_le hpos).2 hmm.1;have hi2:j/wd<off+nn:=(Nat.div_lt_iff_lt_mul hpos).2 (by omega);have hcg:c'=g (j/wd-off) (j%wd):=by rw[←hj];unfold cpyF;rw[if_pos hi1,if_pos hi2]
    obtain⟨u,hu1,hu2⟩:=hcs.rep (j/wd-off) (j%wd) (by omega) hd2;refine⟨u,?_,by rw[hcg];exact hu2⟩;have ej:o1+j-(o1+off*wd)=(j/wd-off)*wd+j%wd:=by
     rw[Nat.sub_mul]
     have:off*wd≤j/wd*wd:=O8 _ hi1
     have:=O6 (j/wd) wd
     omega
    rw[List.getElem?_take,if_pos (by omega),ej,hu1]
   rw[if_neg (by omega),Array.getElem?_toList];have hcf:c'=f (j/wd) (j%wd):=by
    rw[←hj];unfold cpyF
    by_cases hi1:off≤j/wd
    ·rw[if_pos hi1,if_neg];intro hi2;have a1:=(Nat.le_div_iff_mul_le hpos).1 hi1;have a2:=(Nat.div_lt_iff_lt_mul hpos).1 hi2;omega
    rw[if_neg hi1]
   exact hc j c' (by simp only[Bk.cell];rw[if_pos hjn,hcf])
end
end Go.Eng
