/-
  ArrangementErrors: for every input the law returns true, and each argument reads afterwards as it read before. No condition.
  (Text 8 of 9; made by a program out of smaller texts.)
-/
import Derived.Lib.AppendZerosOnto
import Derived.Lib.Walk
import Derived.Lib.Overlaps
import Derived.Laws.Externs
import Derived.Laws.NewBlocks
import Derived.Shelf.RegionOpenPlain
import Derived.Deep.Slices
import Derived.ChangeArms
import Derived.ChangeSame
import Derived.Below
import Derived.OpenShut
import Derived.ProofKit
import Derived.Test.YtcdijplheindaaaGreatRows
import Derived.Test.YtcdijplheindaaaGreatP7
set_option linter.unusedSimpArgs false
set_option linter.unusedVariables false
set_option maxHeartbeats 16000000
set_option maxRecDepth 10000
open Nat renaming reduceAdd→J1,reduceMul→J2,reduceSub→J3,reduceEqDiff→J4,reduceLT→J5,reduceLeDiff→J6,reduceBEq→J7,reduceDiv→J8,reduceMod→J9,reducePow→J0
open Int renaming reduceToNat→K1,reduceLE→K2,reduceLT→K3,reduceEq→K4,reducePow→K5,reduceSub→K6,reduceNeg→K7,natCast_add→X2,natCast_one→X3,natCast_zero→X4
open List renaming getD_cons_zero→X0,getD_cons_succ→X1,length_take→X5,length_append→X6,getD_eq_getElem?_getD→X7,getElem?_eq_getElem→X8
open Nat renaming le_trans→O0,le_refl→O1,zero_le→O2,not_lt_zero→O5,mod_eq_of_lt→O7,mul_le_mul_right→O8
open Int renaming toNat_natCast→Q1
open Go.IntWalk renaming i64_in→Q4
open Option.some renaming injEq→Q6
open Go.Result renaming andThen_ok→Q7
noncomputable section
namespace Go.Eng.Run
open Go
section
variable {P:Program}{T:Tab}(hT:TabOk P T)(hmo:P.follows .mixedOrders=true){n:Nat}{forb dom:Nat→Prop}{ρ:Nat→Loc}{w:World}{a:Act}
theorem envT_get:∀(args:List EV) (i:Nat) (env:Tr EV) (t:Nat),(envT args i env).get t=if i≤t∧t<i+args.length then args[t-i]? else env.get t
 |[],i,env,t=>by simp[envT];omega
 |x::xs,i,env,t=>by
  simp only[envT,envT_get xs,Tr.get_put,List.length_cons]
  by_cases h:t=i
  ·subst h;rw[if_neg (by omega),if_pos rfl,if_pos (by omega)]
   simp
  by_cases h2:i+1≤t∧t<i+1+xs.length
  ·rw[if_pos h2,if_pos (by omega)];obtain⟨q,rfl⟩:∃q,t=i+1+q:=⟨t-(i+1),by omega⟩;rw[show i+1+q-(i+1)=q by omega,show i+1+q-i=q+1 by omega,List.getElem?_cons_succ]
  rw[if_neg h2,if_neg h,if_neg (by omega)]
theorem RepEL.get {ok:Nat→Prop}:∀{xs:List EV} {vs:List Value},RepEL ρ dom ok w xs vs→∀(j:Nat) x,xs[j]? =some x→∃v,vs[j]? =some v∧RepE ρ dom ok w x v
 |[],[],_,j,c,hj=>by simp at hj
 |c0::cs,v0::vs,h,0,c,hj=>by simp at hj;subst hj;exact⟨v0,rfl,h.1⟩
 |c0::cs,v0::vs,h,j+1,c,hj=>by simpa using RepEL.get h.2 j c (by simpa using hj)
 |[],_::_,h,_,_,_=>h.elim
 |_::_,[],h,_,_,_=>h.elim
theorem RepEL.length {ok:Nat→Prop}:∀{xs:List EV} {vs:List Value},RepEL ρ dom ok w xs vs→xs.length=vs.length
 |[],[],_=>rfl
 |_::xs,_::vs,h=>by simp[RepEL.length h.2]
 |[],_::_,h=>h.elim
 |_::_,[],h=>h.elim
include hT in
theorem resE1_run {S:Nat→Option EB}{env:Nat→Option EV}{r:ResultVar}{x:TV}(hs:SimE forb dom ρ S w)(h:EnvOk ρ dom (okE forb ρ S w) w n env a)(hr:resE1 T env S r=some x):∃v,(evRes a.tmps r).run P w= .ok v w∧RepT ρ dom (okE forb ρ S w) w x v:=by
 cases r with
 |tmp t=>
  simp only[resE1]at hr
  split at hr
  ·rename_i y he
   cases hr
   exact⟨_,rfl,h.env t _ he⟩
  cases hr
 |cell ad t=>
  simp only[resE1]at hr
  split at hr
  ·rename_i y he
   obtain⟨b,hb,hr⟩:=Option.bind_eq_some_iff.1 hr;obtain⟨B,hB,hr⟩:=Option.bind_eq_some_iff.1 hr
   split at hr
   ·rename_i z hl
    cases hr
    obtain⟨g,o',hv,v,h1,h2⟩:=loadAt hT hs (h.env ad _ he) hb hB hl;refine⟨v,?_,h2⟩;simp only[evRes,Sem.run_bind,hv];exact h1
   cases hr
  cases hr
include hT in
theorem resEL_run {S:Nat→Option EB}{env:Nat→Option EV}(hs:SimE forb dom ρ S w)(h:EnvOk ρ dom (okE forb ρ S w) w n env a):∀(rs:List ResultVar) (xs:List TV),resEL T env S rs=some xs→∃vs,(rs.mapM (evRes a.tmps)).run P w= .ok vs w∧RepTL ρ dom (okE forb ρ S w) w xs vs
 |[],xs,hr=>by cases hr;exact⟨[],rfl,trivial⟩
 |r::rs,xs,hr=>by
  simp only[resEL]at hr
  split at hr
  ·rename_i x xs' hx hxs
   cases hr
   obtain⟨v,hv,h1⟩:=resE1_run hT hs h hx;obtain⟨vs,hvs,h2⟩:=resEL_run hs h rs xs' hxs;refine⟨v::vs,?_,h1,h2⟩;rw[List.mapM_cons];simp only[Sem.run_bind,hv,Q7,hvs,Sem.run_pure]
  cases hr
theorem RepTL.length {ok:Nat→Prop}:∀{xs:List TV} {vs:List Value},RepTL ρ dom ok w xs vs→xs.length=vs.length
 |[],[],_=>rfl
 |_::xs,_::vs,h=>by simp[RepTL.length h.2]
 |[],_::_,h=>h.elim
 |_::_,[],h=>h.elim
include hT in
theorem results_run {S:Nat→Option EB}{env:Nat→Option EV}{fn:Func}{xs:List TV}(hs:SimE forb dom ρ S w)(h:EnvOk ρ dom (okE forb ρ S w) w n env a)(hr:resEL T env S fn.results.toList=some xs):
  ∃v,(results fn a.tmps).run P w= .ok v w∧RepE ρ dom (okE forb ρ S w) w (resV1 xs) v:=by
 obtain⟨us,hus,hrep⟩:=resEL_run hT hs h _ _ hr;have hmap:(fn.results.mapM fun
   |.tmp t=>pure (a.tmps.getD t undef)
   |.cell ad t=>do loadVar t (←asAddr (a.tmps.getD ad undef)):Sem (Array Value)).run P w= .ok us.toArray w:=by
  have e:(fun r:ResultVar=>(match r with
   |.tmp t=>pure (a.tmps.getD t undef)
   |.cell ad t=>do loadVar t (←asAddr (a.tmps.getD ad undef)):Sem Value))=evRes a.tmps:=by
   funext r;cases r<;>rfl
  have e2:=congrArg (fun g=>(fn.results.mapM g).run P w) e;refine e2.trans ?_;rw[Array.mapM_eq_mapM_toList,Sem.run_map,hus];rfl
 have hres:(results fn a.tmps).run P w= .ok (if h:us.toArray.size=1 then us.toArray[0]else .tuple us.toArray) w:=by
  unfold results;rw[Sem.run_bind];refine Eq.trans (congrArg (fun x=>Result.andThen x _) hmap) ?_;rfl
 refine⟨_,hres,?_⟩;have hl2:=RepTL.length hrep
 match xs,us,hrep,hl2 with
 |[x],[u],hrep,_=>
  rw[dif_pos (by simp)];exact hrep.1
 |[],[],_,_=>
  rw[dif_neg (by simp)];exact⟨#[],rfl,trivial⟩
 |x::y::xs,u::v::us,hrep,_=>
  rw[dif_neg (by simp)];exact⟨_,rfl,hrep⟩
include hT hmo in
theorem callB_ok {call:CallT}(hcall:CallOk P call)(fuel:Nat):CallOk P (callB P T call fuel):=by
 intro f args st nx outs h;unfold callB at h
 split at h
 ·cases h
 rename_i fn hf
 split at h
 ·cases h
 rename_i c hb
 split at h
 ·cases h
 rename_i hn
 have hn:(fn.name== "runtime.NumGoroutine")=false:=by simpa using hn
 split at h
 ·rename_i hlen
  obtain⟨l,hl,h⟩:=Option.bind_eq_some_iff.1 h;obtain⟨outs0,h0,rfl⟩:=Option.map_eq_some_iff.1 h;refine⟨⟨fn,hf,by rw[hb];rfl,hn⟩,fun forb dom ρ w vs hs hlt hvs=>?_⟩;have hvl:=RepEL.length hvs;simp only[Array.length_toList]at hvl;have he:EnvOk ρ dom (okE forb ρ st.get w) w fn.ntmps (envT args 0 .lf).get {tmps:=vs++Array.replicate (fn.ntmps-vs.size) undef,defers:=[]}:=by
   refine⟨rfl,by simp;omega,fun t e he=>?_⟩;rw[envT_get]at he
   split at he
   ·rename_i ht
    rw[Nat.sub_zero]at he;obtain⟨v,hv,hr⟩:=RepEL.get hvs t e he
    have:(vs++Array.replicate (fn.ntmps-vs.size) undef).getD t undef=v:=by
     rw[Array.getElem?_toList]at hv;have hlt:=(Array.getElem?_eq_some_iff.1 hv).1;simp only[Array.getD_eq_getD_getElem?];rw[Array.getElem?_append_left hlt,hv];rfl
    rw[this];exact hr
   cases he
  refine calls_of_wp hf hb (wp_mono (runC_sound hT hmo hcall fuel c _ l hl forb dom ρ _ w hs hlt he).1 ?_);rintro e a' w' ⟨q,hq,hqe,dom',ρ',hat,he'⟩;obtain⟨L',h1,h2⟩:=bindL_mem h0 q hq;have fin:∀xs,resEL T q.2.1.get q.2.2.1.get fn.results.toList=some xs→L'=[(resV1 xs,q.2.2.1,q.2.2.2)]→a'.defers=[]∧∃v,(results fn a'.tmps).run P w'= .ok v w'∧∃u,Ending.returned v= .returned u∧
    ∃q∈mergeL outs0,∃dom' ρ',At forb dom ρ st.get w nx dom' ρ' q.2.1.get w' q.2.2∧RepE ρ' dom' (okE forb ρ' q.2.1.get w') w' q.1 u:=by
   intro xs hx hL;obtain⟨v,hv,hr⟩:=results_run hT hat.sim he' hx;obtain⟨q',hq',e1,e2,hsub⟩:=mergeL_mem _ (h2 _ (by rw[hL];exact List.mem_singleton.2 rfl));have hat2:=hat.sub hsub;refine⟨he'.hd,v,hv,v,rfl,q',hq',dom',ρ',by rw[e2];exact hat2,?_⟩;rw[e1];exact RepE.ext (hsub.ext hat.sim.wf) ⟨fun _ h=>h,fun _ _=>rfl⟩ hr
  cases hq1:q.1 with
  |ex id=>rw[hq1]at h1;cases h1
  |nm=>
   rw[hq1]at h1 hqe;subst hqe;obtain⟨xs,hx,hL⟩:=Option.map_eq_some_iff.1 h1;exact fin xs hx hL.symm
  |rt=>
   rw[hq1]at h1 hqe;subst hqe;obtain⟨xs,hx,hL⟩:=Option.map_eq_some_iff.1 h1;exact fin xs hx hL.symm
 cases h
def frzD:C→Bool
 |.own .. =>false
 |.win .. =>false
 |.ptr .. =>false
 |.eptr .. =>false
 |.fn .. =>false
 |_=>true
def frzX:X→Bool
 |.cl c=>frzD c
 |.op _ _=>true
 |.oe _ _ _ _=>true
 |_=>false
def frzT:TV→Bool
 |.one x=>frzX x
 |.agg xs=>xs.all frzX
def frzE:EV→Bool
 |.un=>true
 |.v t=>frzT t
 |.tup ts=>ts.all frzT
theorem frzD_rep {ok:Nat→Prop}{c:C}{v:Value}(hc:frzD c=true)(h:RepC ρ dom ok w c v):RepI ok w c v:=by
 cases c<;>simp [frzD]at hc<;>exact h
theorem frzX_rep {ok:Nat→Prop}{x:X}{v:Value}(hx:frzX x=true)(h:RepX ρ dom ok w x v):RepI ok w x.den v:=by
 cases x with
 |cl c=>exact frzD_rep hx h
 |op k d=>exact h
 |oe k d i o=>exact h
 |_=>simp[frzX]at hx
theorem frzXL_rep {ok:Nat→Prop}:∀(xs:List X) (vs:List Value),xs.all frzX=true→RepXL ρ dom ok w xs vs→RepL loc0 dom0 ok w (xs.map X.den) vs
 |[],[],_,_=>trivial
 |x::xs,v::vs,hx,h=>by
  simp only[List.all_cons,Bool.and_eq_true]at hx;exact⟨RepC.of_repI (frzX_rep hx.1 h.1),frzXL_rep xs vs hx.2 h.2⟩
 |[],_::_,_,h=>h.elim
 |_::_,[],_,h=>h.elim
theorem frzT_rep {ok:Nat→Prop}{x:TV}{v:Value}(hx:frzT x=true)(h:RepT ρ dom ok w x v):RepV1 loc0 dom0 ok w x.den v:=by
 cases x with
 |one x=>exact RepC.of_repI (frzX_rep hx h)
 |agg xs=>
  obtain⟨vs,hv,hl⟩:=h;exact⟨vs,hv,frzXL_rep xs vs.toList hx hl⟩
def argOk:EV→Bool
 |.un=>true
 |.v t=>frzT t
 |.tup _=>false
def argV:EV→V
 |.un=>.unk
 |.v t=>t.den
 |.tup _=>.unk
theorem frzA_rep {ok:Nat→Prop}:∀{xs:List EV} {vs:List Value},xs.all argOk=true→RepEL ρ dom ok w xs vs→RepVL loc0 dom0 ok w (xs.map argV) vs
 |[],[],_,_=>trivial
 |x::xs,v::vs,hx,h=>by
  simp only[List.all_cons,Bool.and_eq_true]at hx;refine⟨?_,frzA_rep hx.2 h.2⟩
  cases x with
  |un=>trivial
  |v t=>exact frzT_rep hx.1 h.1
  |tup ts=>cases hx.1
 |[],_::_,_,h=>h.elim
 |_::_,[],_,h=>h.elim
theorem frzX_of {ok:Nat→Prop}{x:X}{v:Value}(hx:frzX x=true)(h:RepC loc0 dom0 ok w x.den v):RepX ρ dom ok w x v:=by
 cases x with
 |cl c=>exact RepC.of_repI (frzD_rep hx h)
 |op k d=>exact h
 |oe k d i o=>exact h
 |_=>simp[frzX]at hx
theorem frzXL_of {ok:Nat→Prop}:∀{xs:List X} {vs:List Value},xs.all frzX=true→RepL loc0 dom0 ok w (xs.map X.den) vs→RepXL ρ dom ok w xs vs
 |[],[],_,_=>trivial
 |x::xs,v::vs,hx,h=>by
  simp only[List.all_cons,Bool.and_eq_true]at hx;exact⟨frzX_of hx.1 h.1,frzXL_of hx.2 h.2⟩
 |[],_::_,_,h=>h.elim
 |_::_,[],_,h=>h.elim
theorem frzT_of {ok:Nat→Prop}{x:TV}{v:Value}(hx:frzT x=true)(h:RepV1 loc0 dom0 ok w x.den v):RepT ρ dom ok w x v:=by
 cases x with
 |one x=>exact frzX_of hx h
 |agg xs=>obtain⟨vs,hv,hl⟩:=h;exact⟨vs,hv,frzXL_of hx hl⟩
theorem frzTL_of {ok:Nat→Prop}:∀{xs:List TV} {vs:List Value},xs.all frzT=true→RepVL loc0 dom0 ok w (xs.map TV.den) vs→RepTL ρ dom ok w xs vs
 |[],[],_,_=>trivial
 |x::xs,v::vs,hx,h=>by
  simp only[List.all_cons,Bool.and_eq_true]at hx;exact⟨frzT_of hx.1 h.1,frzTL_of hx.2 h.2⟩
 |[],_::_,_,h=>h.elim
 |_::_,[],_,h=>h.elim
theorem TV.den_one {t:TV}{ok:Nat→Prop}{v:Value}(h:RepV ρ dom ok w t.den v):RepV1 ρ dom ok w t.den v:=by
 cases t<;>exact h
theorem frzE_of {ok:Nat→Prop}{x:EV}{v:Value}(hx:frzE x=true)(h:RepV loc0 dom0 ok w x.den v):RepE ρ dom ok w x v:=by
 cases x with
 |un=>trivial
 |v t=>exact frzT_of hx (TV.den_one h)
 |tup ts=>obtain⟨vs,hv,hl⟩:=h;exact⟨vs,hv,frzTL_of hx hl⟩
theorem frzA_of {ok:Nat→Prop}:∀{xs:List EV} {vs:List Value},xs.all argOk=true→RepVL loc0 dom0 ok w (xs.map argV) vs→RepEL ρ dom ok w xs vs
 |[],[],_,_=>trivial
 |x::xs,v::vs,hx,h=>by
  simp only[List.all_cons,Bool.and_eq_true]at hx;refine⟨?_,frzA_of hx.2 h.2⟩
  cases x with
  |un=>trivial
  |v t=>exact frzT_of hx.1 h.1
  |tup ts=>cases hx.1
 |[],_::_,_,h=>h.elim
 |_::_,[],_,h=>h.elim
def frzLB (g:X→Option X):List X→Option (List X)
 |[]=>some []
 |x::xs=>match g x with
  |some y=>(frzLB g xs).map fun l=>y::l
  |none=>none
def frzB (
     D:Nat→Bool) (S:Nat→Option EB):Nat→X→Option X
 |0,_=>none
 |f+1,x=>match x with
  |.cl c=>match c with
   |.own b wd off len=>match S b with
    |some (.mem wd' cs)=>match D b with
     |true=>if wd=wd'∧0<wd then(frzLB (frzB D S f) ((cs.drop (off*wd)).take (len*wd))).map fun l=>.op wd l else none
     |false=>none
    |_=>none
   |c=>if frzD c=true then some (.cl c)else none
  |.op w cs=>some (.op w cs)
  |.oe w cs i off=>some (.oe w cs i off)
  |.emp=>some (.op 1 [])
  |_=>none
def frzTB (D:Nat→Bool)(S:Nat→Option EB)(f:Nat):TV→Option TV
 |.one x=>(frzB D S f x).map .one
 |.agg xs=>(frzLB (frzB D S f) xs).map .agg
def frzTL (g:TV→Option TV):List TV→Option (List TV)
 |[]=>some []
 |x::xs=>match g x with
  |some y=>(frzTL g xs).map fun l=>y::l
  |none=>none
def frzEB (D:Nat→Bool)(S:Nat→Option EB)(f:Nat):EV→Option EV
 |.un=>none
 |.v t=>(frzTB D S f t).map .v
 |.tup ts=>(frzTL (frzTB D S f) ts).map .tup
def allD:Nat→Bool:=fun _=>true
theorem frzLB_get {g:X→Option X}:∀{xs ys:List X},frzLB g xs=some ys→ys.length=xs.length∧∀(j:Nat) x,xs[j]? =some x→∃y,ys[j]? =some y∧g x=some y
 |[],ys,h=>by cases h;exact⟨rfl,fun j x hj=>by simp at hj⟩
 |x::xs,ys,h=>by
  simp only[frzLB]at h
  split at h
  ·rename_i y hy
   obtain⟨l,hl,rfl⟩:=Option.map_eq_some_iff.1 h;obtain⟨h1,h2⟩:=frzLB_get hl;refine⟨by simp[h1],fun j x' hj=>?_⟩
   cases j with
   |zero=>simp at hj;subst hj;exact⟨y,rfl,hy⟩
   |succ j=>exact h2 j x' (by simpa using hj)
  cases h
def okW (forb:Nat→Prop)(w:World)(g:Nat):Prop:=g<w.heap.size∧¬forb g
theorem frzB_rep {S:Nat→Option EB}{D:Nat→Bool}{ok':Nat→Prop}(hs:SimE forb dom ρ S w)(k1:∀g,okE forb ρ S w g→ok' g)(k2:∀b B,S b=some B→D b=true→∀g o,(ρ b).addr=some (g,o)→ok' g):∀(f:Nat) (x y:X) (v:Value),frzB D S f x=some y→RepX ρ dom (okE forb ρ S w) w x v→frzX y=true∧RepI ok' w y.den v
 |0,_,_,_,h,_=>by cases h
 |f+1,x,y,v,h,hr=>by
  have hx:Ext (okE forb ρ S w) ok' w w:=Ext.of_imp k1;simp only[frzB]at h
  split at h
  ·rename_i c
   split at h
   ·rename_i b wd off len
    split at h
    ·rename_i wd' cs hl
     split at h
     rotate_left
     ·cases h
     rename_i hDb
     split at h
     ·rename_i hc
      obtain⟨rfl,hw⟩:=hc;obtain⟨l,hfl,rfl⟩:=Option.map_eq_some_iff.1 h;refine⟨rfl,?_⟩;obtain⟨_,g,og,ha,hg1,hg2,hlen,cur,e,hg,hcell⟩:=hs.own b _ hl;obtain⟨_,hle,cap,hcap,hv⟩:=hr;have hle2:(off+len)*wd≤cs.length:=by rw[←hlen];exact O8 _ hle
      rw[Nat.add_mul]at hle2;obtain⟨h1,h2⟩:=frzLB_get hfl;have hll:l.length=len*wd:=by rw[h1];simp;omega
      rcases hv with⟨g',o',o'',ha',hv,ho,_⟩|⟨hn,_⟩
      ·rw[ha]at ha'
       cases ha'
       refine⟨some ⟨g,o'',none⟩,cap,?_,?_,?_⟩
       ·rw[hll,Nat.mul_div_cancel _ hw];exact hv
       ·rw[hll,Nat.mul_div_cancel _ hw];exact hcap
       rw[hll,Nat.mul_div_cancel _ hw]
       by_cases h0:len=0
       ·exact .inl h0
       refine .inr ⟨g,o'',rfl,k2 b _ hl hDb g og ha,fun i j hi hj=>?_⟩
       have ho:o''=og+off*wd:=by rcases ho with ho|ho;omega;exact ho
       have hij:i*wd+j<len*wd:=by
        have:=O8 wd (show i+1≤len by omega)
        rw[Nat.add_mul]at this;omega
       have hjl:i*wd+j<((cs.drop (off*wd)).take (len*wd)).length:=by simp;omega
       obtain⟨y,hy,hgy⟩:=h2 _ _ (X8 hjl);have hcx:cs[off*wd+(i*wd+j)]? =some ((cs.drop (off*wd)).take (len*wd))[i*wd+j]:=by
        rw[←X8 hjl,List.getElem?_take,if_pos hij,List.getElem?_drop]
       obtain⟨u,hu,hru⟩:=hcell _ _ hcx;refine⟨u,?_,?_⟩
       ·rw[cell_of_row w g _ cur e (0,0) hg,ho,Nat.add_assoc];exact hu
       simp only[denL_getD,hy];exact(frzB_rep hs k1 k2 f _ _ _ hgy hru).2
      rw[ha]at hn;cases hn
     cases h
    cases h
   split at h
   ·rename_i hc
    cases h
    exact⟨hc,RepI.ext hx _ _ (frzD_rep hc hr)⟩
   cases h
  ·rename_i w' cs
   cases h
   exact⟨rfl,RepI.ext hx _ _ (frzX_rep (x:=.op w' cs) rfl hr)⟩
  ·rename_i w' cs i off
   cases h
   exact⟨rfl,RepI.ext hx _ _ (frzX_rep (x:=.oe w' cs i off) rfl hr)⟩
  ·cases h
   obtain⟨ad,rfl⟩:=hr;exact⟨rfl,ad,0,rfl,O1 _,.inl rfl⟩
  cases h
theorem frzLB_rep {S:Nat→Option EB}{D:Nat→Bool}{ok':Nat→Prop}(hs:SimE forb dom ρ S w)(k1:∀g,okE forb ρ S w g→ok' g)(k2:∀b B,S b=some B→D b=true→∀g o,(ρ b).addr=some (g,o)→ok' g)(f:Nat):∀(xs ys:List X) (vs:List Value),frzLB (frzB D S f) xs=some ys→RepXL ρ dom (okE forb ρ S w) w xs vs→ys.all frzX=true∧RepL loc0 dom0 ok' w (ys.map X.den) vs
 |[],ys,[],h,_=>by cases h;exact⟨rfl,trivial⟩
 |x::xs,ys,v::vs,h,hr=>by
  simp only[frzLB]at h
  split at h
  ·rename_i y hy
   obtain⟨l,hl,rfl⟩:=Option.map_eq_some_iff.1 h;obtain⟨h1,h2⟩:=frzB_rep hs k1 k2 f _ _ _ hy hr.1;obtain⟨h3,h4⟩:=frzLB_rep hs k1 k2 f xs l vs hl hr.2;exact⟨by simp[h1,h3],RepC.of_repI h2,h4⟩
  cases h
 |[],_,_::_,_,hr=>hr.elim
 |_::_,_,[],_,hr=>hr.elim
theorem frzTB_rep {S:Nat→Option EB}{D:Nat→Bool}{ok':Nat→Prop}(hs:SimE forb dom ρ S w)(k1:∀g,okE forb ρ S w g→ok' g)(k2:∀b B,S b=some B→D b=true→∀g o,(ρ b).addr=some (g,o)→ok' g){f:Nat}{x y:TV}{v:Value}(h:frzTB D S f x=some y)(hr:RepT ρ dom (okE forb ρ S w) w x v):frzT y=true∧RepV1 loc0 dom0 ok' w y.den v:=by
 cases x with
 |one x=>
  obtain⟨z,hz,rfl⟩:=Option.map_eq_some_iff.1 h;obtain⟨h1,h2⟩:=frzB_rep hs k1 k2 f _ _ _ hz hr;exact⟨h1,RepC.of_repI h2⟩
 |agg xs=>
  obtain⟨z,hz,rfl⟩:=Option.map_eq_some_iff.1 h;obtain⟨vs,hv,hl⟩:=hr;obtain⟨h1,h2⟩:=frzLB_rep hs k1 k2 f _ _ _ hz hl;exact⟨h1,vs,hv,h2⟩
theorem frzTL_rep {S:Nat→Option EB}{D:Nat→Bool}{ok':Nat→Prop}(hs:SimE forb dom ρ S w)(k1:∀g,okE forb ρ S w g→ok' g)(k2:∀b B,S b=some B→D b=true→∀g o,(ρ b).addr=some (g,o)→ok' g)(f:Nat):∀(xs ys:List TV) (vs:List Value),frzTL (frzTB D S f) xs=some ys→RepTL ρ dom (okE forb ρ S w) w xs vs→ys.all frzT=true∧RepVL loc0 dom0 ok' w (ys.map TV.den) vs
 |[],ys,[],h,_=>by cases h;exact⟨rfl,trivial⟩
 |x::xs,ys,v::vs,h,hr=>by
  simp only[frzTL]at h
  split at h
  ·rename_i y hy
   obtain⟨l,hl,rfl⟩:=Option.map_eq_some_iff.1 h;obtain⟨h1,h2⟩:=frzTB_rep hs k1 k2 hy hr.1;obtain⟨h3,h4⟩:=frzTL_rep hs k1 k2 f xs l vs hl hr.2;exact⟨by simp[h1,h3],h2,h4⟩
  cases h
 |[],_,_::_,_,hr=>hr.elim
 |_::_,_,[],_,hr=>hr.elim
theorem frzEB_rep {S:Nat→Option EB}{D:Nat→Bool}{ok':Nat→Prop}(hs:SimE forb dom ρ S w)(k1:∀g,okE forb ρ S w g→ok' g)(k2:∀b B,S b=some B→D b=true→∀g o,(ρ b).addr=some (g,o)→ok' g){f:Nat}{x y:EV}{v:Value}(h:frzEB D S f x=some y)(hr:RepE ρ dom (okE forb ρ S w) w x v):frzE y=true∧RepV loc0 dom0 ok' w y.den v:=by
 cases x with
 |un=>cases h
 |v t=>
  obtain⟨z,hz,rfl⟩:=Option.map_eq_some_iff.1 h;obtain⟨h1,h2⟩:=frzTB_rep hs k1 k2 hz hr;exact⟨h1,RepV.of_V1 h2⟩
 |tup ts=>
  obtain⟨z,hz,rfl⟩:=Option.map_eq_some_iff.1 h;obtain⟨vs,hv,hl⟩:=hr;obtain⟨h1,h2⟩:=frzTL_rep hs k1 k2 f _ _ _ hz hl;exact⟨h1,vs,hv,h2⟩
abbrev Orc:=FuncId→Option (List EV→Option EV)
def frzAL (D:Nat→Bool)(S:Nat→Option EB)(f:Nat):List EV→Option (List EV)
 |[]=>some []
 |x::xs=>match frzEB D S f x with
  |some y=>(frzAL D S f xs).map fun l=>y::l
  |none=>none
def visB (S:Nat→Option EB):Nat→X→List Nat
 |0,_=>[]
 |f+1,x=>match x with
  |.cl (.own b _ _ _)=>match S b with
   |some (.mem _ cs)=>b::(cs.map (visB S f)).flatten
   |_=>[b]
  |_=>[]
def visT (S:Nat→Option EB)(f:Nat):TV→List Nat
 |.one x=>visB S f x
 |.agg xs=>(xs.map (visB S f)).flatten
def visE (S:Nat→Option EB)(f:Nat):EV→List Nat
 |.un=>[]
 |.v t=>visT S f t
 |.tup ts=>(ts.map (visT S f)).flatten
def isMem:Option EB→Bool
 |some (.mem _ _)=>true
 |_=>false
def sclX:X→Bool
 |.cl (.bool _)=>true
 |.cl (.int _ _)=>true
 |.cl (.str _)=>true
 |.cl .nil=>true
 |_=>false
def sclT:TV→Bool
 |.one x=>sclX x
 |.agg xs=>xs.all sclX
def sclE:EV→Bool
 |.un=>false
 |.v t=>sclT t
 |.tup ts=>ts.all sclT
def knownC (g:List EV→Option EV)(args:List EV)(st:Sto):Option EV:=
 match g args with
 |some r=>some r
 |none=>bif args.all argOk then none else match frzAL allD st.get 8 args with
  |some az=>match g az with
   |some r=>bif sclE r then some r else none
   |none=>none
  |none=>none
def dropC (g:List EV→Option EV)(args:List EV)(st:Sto):Option (EV×Sto):=
 let ids:=(args.map (visE st.get 8)).flatten
 match ids.all fun b=>isMem (st.get b)with
 |true=>match frzAL (fun b=>ids.contains b) st.get 8 args with
  |some az=>match g az with
   |some r=>some (r,hideT st ids)
   |none=>none
  |none=>none
 |false=>none
structure Dx (P:Program) where
 d:FuncId→Bool
 x:CallT
 ok:CallOk P x
def noX:CallT:=fun _ _ _ _=>none
theorem noX_ok:CallOk P noX:=fun _ _ _ _ _ h=>by cases h
def callN (P:Program)(T:Tab)(orc:Orc)(dr:Dx P)(fuel:Nat):Nat→CallT
 |0=>fun _ _ _ _=>none
 |k+1=>fun f args st nx=>match dr.x f args st nx with
  |some outs=>some outs
  |none=>match orc f with
   |some g=>match knownC g args st with
    |some r=>some [(r,st,nx)]
    |none=>match dr.d f with
     |true=>match dropC g args st with
      |some q=>some [(q.1,q.2,nx)]
      |none=>callB P T (callN P T orc dr fuel k) fuel f args st nx
     |false=>callB P T (callN P T orc dr fuel k) fuel f args st nx
   |none=>callB P T (callN P T orc dr fuel k) fuel f args st nx
theorem frzAL_rep {S:Nat→Option EB}{D:Nat→Bool}{ok':Nat→Prop}(hs:SimE forb dom ρ S w)(k1:∀g,okE forb ρ S w g→ok' g)(k2:∀b B,S b=some B→D b=true→∀g o,(ρ b).addr=some (g,o)→ok' g){f:Nat}:∀{xs ys:List EV} {vs:List Value},frzAL D S f xs=some ys→ys.all argOk=true→RepEL ρ dom (okE forb ρ S w) w xs vs→RepVL loc0 dom0 ok' w (ys.map argV) vs
 |[],_,[],h,_,_=>by cases h;trivial
 |x::xs,ys,v::vs,h,ha,hr=>by
  simp only[frzAL]at h
  split at h
  ·rename_i y hy
   obtain⟨l,hl,rfl⟩:=Option.map_eq_some_iff.1 h;simp only[List.all_cons,Bool.and_eq_true]at ha;refine⟨?_,frzAL_rep hs k1 k2 hl ha.2 hr.2⟩;have h1:=(frzEB_rep hs k1 k2 hy hr.1).2
   cases y with
   |un=>trivial
   |v t=>exact TV.den_one h1
   |tup ts=>cases ha.1
  cases h
 |[],_,_::_,_,_,h=>h.elim
 |_::_,_,[],_,_,h=>h.elim
theorem okW_1 {S:Nat→Option EB}:∀g,okE forb ρ S w g→okW forb w g:=fun _ hg=>⟨hg.1,hg.2.1⟩
theorem okW_2 {S:Nat→Option EB}{D:Nat→Bool}(hs:SimE forb dom ρ S w):∀b B,S b=some B→D b=true→∀g o,(ρ b).addr=some (g,o)→okW forb w g:=fun b B hb _ g o ha=>by
 obtain⟨_,g',o',ha',h1,h2,_⟩:=hs.own b B hb;rw[ha]at ha'
 cases ha'
 exact⟨h1,h2⟩
section
variable {st:Sto}{ids:List Nat}
theorem isMem_of {x:Option EB}(h:isMem x=true){B:EB}(hx:x=some B):∃wd cs,B= .mem wd cs:=by
 subst hx
 cases B<;>first|exact ⟨_,_,rfl⟩|cases h
theorem drop_get {b:Nat}{B:EB}(h:(hideT st ids).get b=some B):b∉ids∧st.get b=some B:=by
 rw[hideT_get]at h
 split at h
 ·cases h
 rename_i hb;exact⟨hb,h⟩
theorem drop_1:∀g,okE forb ρ st.get w g→okE forb ρ (hideT st ids).get w g:=fun _ hg=>⟨hg.1,hg.2.1,fun b B hb=>hg.2.2 b B (drop_get hb).2⟩
theorem drop_2 (hs:SimE forb dom ρ st.get w):∀b B,st.get b=some B→ids.contains b=true→∀g o,(ρ b).addr=some (g,o)→okE forb ρ (hideT st ids).get w g:=fun b B hb hD g o ha=>by
 obtain⟨_,g',o',ha',h1,h2,_⟩:=hs.own b B hb;rw[ha]at ha'
 cases ha'
 refine⟨h1,h2,fun b2 B2 hb2 o2 ha2=>?_⟩;obtain⟨hn,hb3⟩:=drop_get hb2;exact hs.inj b B b2 B2 hb hb3 (fun e=>hn (e▸(by simpa using hD))) g o o2 ha ha2
theorem SimE.drop (hs:SimE forb dom ρ st.get w)(hm:(ids.all fun b=>isMem (st.get b))=true):SimE forb dom ρ (hideT st ids).get w:=by
 refine⟨fun b B hB=>?_,fun n B n' B' hB hB'=>hs.inj n B n' B' (drop_get hB).2 (drop_get hB').2,hs.wf,hs.adr⟩;obtain⟨hn,hb⟩:=drop_get hB;obtain⟨hd,g,o,ha,hg,hf,hk⟩:=hs.own b B hb;refine⟨hd,g,o,ha,hg,hf,BlkOk.ext (Ext.of_imp drop_1) ⟨fun _ h=>h,fun _ _=>rfl⟩ rfl (fun b' hb'=>⟨?_,(hs.own b' _ hb').1,fun _ _ _=>rfl⟩) hk⟩;rw[hideT_get]
 split
 ·rename_i hi
  obtain⟨_,_,h⟩:=isMem_of (List.all_eq_true.1 hm b' hi) hb'
  cases h
 exact hb'
end
theorem sclX_of {ok ok':Nat→Prop}{w':World}{x:X}{v:Value}(hx:sclX x=true)(h:RepC loc0 dom0 ok w x.den v):RepX ρ dom ok' w' x v:=by
 unfold sclX at hx
 split at hx<;>first|exact h|cases hx
theorem sclXL_of {ok ok':Nat→Prop}{w':World}:∀{xs:List X} {vs:List Value},xs.all sclX=true→RepL loc0 dom0 ok w (xs.map X.den) vs→RepXL ρ dom ok' w' xs vs
 |[],[],_,_=>trivial
 |x::xs,v::vs,hx,h=>by
  simp only[List.all_cons,Bool.and_eq_true]at hx;exact⟨sclX_of hx.1 h.1,sclXL_of hx.2 h.2⟩
 |[],_::_,_,h=>h.elim
 |_::_,[],_,h=>h.elim
theorem sclT_of {ok ok':Nat→Prop}{w':World}{x:TV}{v:Value}(hx:sclT x=true)(h:RepV1 loc0 dom0 ok w x.den v):RepT ρ dom ok' w' x v:=by
 cases x with
 |one x=>exact sclX_of hx h
 |agg xs=>obtain⟨vs,hv,hl⟩:=h;exact⟨vs,hv,sclXL_of hx hl⟩
theorem sclTL_of {ok ok':Nat→Prop}{w':World}:∀{xs:List TV} {vs:List Value},xs.all sclT=true→RepVL loc0 dom0 ok w (xs.map TV.den) vs→RepTL ρ dom ok' w' xs vs
 |[],[],_,_=>trivial
 |x::xs,v::vs,hx,h=>by
  simp only[List.all_cons,Bool.and_eq_true]at hx;exact⟨sclT_of hx.1 h.1,sclTL_of hx.2 h.2⟩
 |[],_::_,_,h=>h.elim
 |_::_,[],_,h=>h.elim
theorem sclE_of {ok ok':Nat→Prop}{w':World}{x:EV}{v:Value}(hx:sclE x=true)(h:RepV loc0 dom0 ok w x.den v):RepE ρ dom ok' w' x v:=by
 cases x with
 |un=>cases hx
 |v t=>exact sclT_of hx (TV.den_one h)
 |tup ts=>obtain⟨vs,hv,hl⟩:=h;exact⟨vs,hv,sclTL_of hx hl⟩
def OrcOk (P:Program)(orc:Orc):Prop:=∀f g,orc f=some g→∀args r,g args=some r→args.all argOk=true∧frzE r=true∧Pr P f (args.map argV) r.den
include hT hmo in
theorem callN_ok {orc:Orc}(horc:OrcOk P orc)(dr:Dx P)(fuel:Nat):∀k,CallOk P (callN P T orc dr fuel k)
 |0=>fun f args st nx outs h=>by cases h
 |k+1=>fun f args st nx outs h=>by
  simp only[callN]at h
  split at h
  ·rename_i outs' ho
   cases h
   exact dr.ok f args st nx _ ho
  split at h
  ·rename_i g hg
   split at h
   ·rename_i r hr
    cases h
    have fin:∀forb dom (ρ:Nat→Loc) (w w':World) (hs:SimE forb dom ρ st.get w) (_:∀b,dom b→b<nx) (v:Value),Go.RowKit.Below w.heap.size w w'→(∀ρ' dom' ok',ρ'=ρ→dom'=dom→ok'=okE forb ρ st.get w'→RepE ρ' dom' ok' w' r v)→
      ∃v',Ending.returned v= .returned v'∧∃q∈[((r,st,nx):Oc)],∃dom' ρ',At forb dom ρ st.get w nx dom' ρ' q.2.1.get w' q.2.2∧RepE ρ' dom' (okE forb ρ' q.2.1.get w') w' q.1 v':=fun forb dom ρ w w' hs hlt v hb hrv=>
     ⟨v,rfl,(r,st,nx),List.mem_singleton.2 rfl,dom,ρ,⟨Stp.grown hb,hs.grown hb,hlt,O1 _,fun _ _ h=>h⟩,hrv _ _ _ rfl rfl rfl⟩
    unfold knownC at hr
    split at hr
    ·rename_i r' hr'
     cases hr
     obtain⟨h1,h2,h3,h4⟩:=horc f g hg args r hr';refine⟨h3,fun forb dom ρ w vs hs hlt hvs=>?_⟩;refine Calls.mono (h4 (okE forb ρ st.get w) w vs (fun g hg=>hg.1) (frzA_rep h1 hvs)) fun e w' he=>?_;obtain⟨v,rfl,hb,hrv⟩:=he;refine fin forb dom ρ w w' hs hlt v hb fun ρ' dom' ok' e1 e2 e3=>?_;subst e1;subst e2;subst e3;have hat:Stp dom' ρ' st.get w dom' ρ' st.get w':=Stp.grown hb;refine frzE_of h2 (RepV.ext (Ext.of_imp fun g hg=>?_) ⟨fun _ h=>h,fun _ _=>rfl⟩ _ _ hrv)
     rcases hg with hg|⟨hg1,hg2⟩
     ·exact(hat.ext.block g hg).1
     exact⟨hg2,fun hf=>by have:=hs.wf g hf;omega,fun b B hb' o ha=>by have:=hs.lt hb' ha;omega⟩
    cases hall:args.all argOk with
    |true=>rw[hall]at hr;cases hr
    |false=>
     rw[hall]at hr;simp only[cond_false]at hr
     split at hr
     ·rename_i az has
      split at hr
      ·rename_i r' hr'
       cases hsc:sclE r' with
       |false=>rw[hsc]at hr;cases hr
       |true=>
        rw[hsc]at hr;simp only[cond_true,Q6]at hr;subst hr;obtain⟨h1,h2,h3,h4⟩:=horc f g hg az r' hr';refine⟨h3,fun forb dom ρ w vs hs hlt hvs=>?_⟩;refine Calls.mono (h4 (okW forb w) w vs (fun g hg=>hg.1) (frzAL_rep hs okW_1 (okW_2 hs) has h1 hvs)) fun e w' he=>?_;obtain⟨v,rfl,hb,hrv⟩:=he;exact fin forb dom ρ w w' hs hlt v hb fun ρ' dom' ok' _ _ _=>sclE_of hsc hrv
      cases hr
     cases hr
   split at h
   ·split at h
    ·rename_i q hq
     cases h
     unfold dropC at hq;simp only at hq
     split at hq
     ·rename_i hm
      split at hq
      ·rename_i az has
       split at hq
       ·rename_i r hr
        obtain rfl:=Option.some.inj hq
        generalize hids:(args.map (visE st.get 8)).flatten=ids at hm has⊢
        obtain⟨h1,h2,h3,h4⟩:=horc f g hg az r hr;refine⟨h3,fun forb dom ρ w vs hs hlt hvs=>?_⟩;refine Calls.mono (h4 (okE forb ρ (hideT st ids).get w) w vs (fun g hg=>hg.1) (frzAL_rep hs drop_1 (drop_2 hs) has h1 hvs)) fun e w' he=>?_;obtain⟨v,rfl,hb,hrv⟩:=he;have hs':=hs.drop hm;have hat0:Stp dom ρ (hideT st ids).get w dom ρ (hideT st ids).get w':=Stp.grown hb;have hat:Stp dom ρ st.get w dom ρ st.get w':=Stp.grown hb;refine⟨v,rfl,(r,hideT st ids,nx),List.mem_singleton.2 rfl,dom,ρ,⟨⟨hat.same,hat.os,hat.tape,hat.output,hat.size,hat.keep,hat.room,fun n B hB hd=>hat.back n B (drop_get hB).2 hd,fun n B hB g o ha=>hat.from_ n B (drop_get hB).2 g o ha⟩,hs'.grown hb,hlt,O1 _,fun _ _ h=>h⟩,?_⟩;refine frzE_of h2 (RepV.ext (Ext.of_imp fun g hg=>?_) ⟨fun _ h=>h,fun _ _=>rfl⟩ _ _ hrv)
        rcases hg with hg|⟨hg1,hg2⟩
        ·exact(hat0.ext.block g hg).1
        exact⟨hg2,fun hf=>by have:=hs.wf g hf;omega,fun b B hb' o ha=>by have:=hs'.lt hb' ha;omega⟩
       cases hq
      cases hq
     cases hq
    exact callB_ok hT hmo (callN_ok horc dr fuel k) fuel f args st nx outs h
   exact callB_ok hT hmo (callN_ok horc dr fuel k) fuel f args st nx outs h
  exact callB_ok hT hmo (callN_ok horc dr fuel k) fuel f args st nx outs h
def allR (l:Option (List Oc))(fz:Nat)(r:EV):Bool:=
 match l with
 |some l=>l.all fun q=>match frzEB allD q.2.1.get fz q.1 with
  |some e=>eqE e r
  |none=>false
 |none=>false
include hT hmo in
theorem pure_of_runs {orc:Orc}(horc:OrcOk P orc)(dr:Dx P){fuel k fz:Nat}{f:FuncId}{args:List EV}{r:EV}(ha:args.all argOk=true)(h:allR (callN P T orc dr fuel k f args .lf 1) fz r=true):Pr P f (args.map argV) r.den:=by
 unfold allR at h
 split at h
 ·rename_i l hl
  obtain⟨h1,h2⟩:=callN_ok hT hmo horc dr fuel k f args .lf 1 l hl;refine⟨h1,fun ok w vs hok hvs=>?_⟩;have hs:SimE (fun g=>g<w.heap.size∧¬ok g) (fun _=>False) loc0 (Tr.lf:Sto).get w:=⟨fun b B hb=>(by cases hb),fun b B b' B' hb=>(by cases hb),fun g hg=>hg.1,fun b hb=>hb.elim⟩;have hx:Ext ok (okE (fun g=>g<w.heap.size∧¬ok g) loc0 (Tr.lf:Sto).get w) w w:=Ext.of_imp fun g hg=>⟨hok g hg,fun hf=>hf.2 hg,fun b B hb=>by cases hb⟩;have hargs:=frzA_of (ρ:=loc0) (dom:=fun _=>False) ha (RepVL.ext hx ⟨fun _ h=>h,fun _ _=>rfl⟩ _ _ hvs);refine Calls.mono (h2 _ _ _ w vs hs (fun b hb=>hb.elim) hargs) fun e w' he=>?_;obtain⟨v,rfl,q,hq,dom',ρ',hat,hr⟩:=he;have hq':=List.all_eq_true.1 h q hq;refine⟨v,rfl,⟨hat.stp.os,hat.stp.tape,hat.stp.output,hat.stp.size,fun g hg=>hat.stp.keep g hg fun b B hb=>by cases hb⟩,?_⟩
  split at hq'
  ·rename_i e he
   rw[←eqE_eq hq'];refine RepV.ext (Ext.of_imp fun g hg=>?_) ⟨fun _ h=>h,fun _ _=>rfl⟩ _ _ (frzEB_rep hat.sim okW_1 (okW_2 hat.sim) he hr).2;obtain⟨h3,h4⟩:=hg
   by_cases h5:g<w.heap.size
   ·exact .inl (Classical.byContradiction fun h6=>h4 ⟨h5,h6⟩)
   exact .inr ⟨by omega,h3⟩
  cases hq'
 cases h
abbrev Tbl:=Tr (List (List EV×EV))
structure Ent where
 f:FuncId
 args:List EV
 r:EV
def findT:List (List EV×EV)→List EV→Option EV
 |[],_=>none
 |e::l,args=>if eqEL e.1 args then some e.2 else findT l args
def orcT (tb:Tbl):Orc:=fun f=>(tb.get f).map findT
def TblOk (P:Program)(tb:Tbl):Prop:=∀f l,tb.get f=some l→∀e∈l,e.1.all argOk=true∧frzE e.2=true∧Pr P f (e.1.map argV) e.2.den
theorem findT_mem:∀{l:List (List EV×EV)} {args:List EV} {r:EV},findT l args=some r→(args,r)∈l
 |[],_,_,h=>by cases h
 |e::l,args,r,h=>by
  simp only[findT]at h
  split at h
  ·rename_i he
   cases h
   rw[←eqEL_eq he];exact List.mem_cons_self
  exact List.mem_cons_of_mem _ (findT_mem h)
theorem orcT_ok {tb:Tbl}(h:TblOk P tb):OrcOk P (orcT tb):=by
 intro f g hg args r hr;obtain⟨l,hl,rfl⟩:=Option.map_eq_some_iff.1 hg;exact h f l hl _ (findT_mem hr)
def addT (tb:Tbl)(e:Ent):Tbl:=tb.put e.f (some ((e.args,e.r)::(tb.get e.f).getD []))
def addTs (tb:Tbl)(es:List Ent):Tbl:=es.foldl addT tb
theorem TblOk.nil:TblOk P .lf:=fun f l h=>by cases h
theorem TblOk.add {tb:Tbl}(h:TblOk P tb){e:Ent}(h1:e.args.all argOk=true)(h2:frzE e.r=true)(h3:Pr P e.f (e.args.map argV) e.r.den):TblOk P (addT tb e):=by
 intro f l hl e' he;rw[addT,Tr.get_put]at hl
 split at hl
 ·rename_i hf
  subst hf
  cases hl
  rcases List.mem_cons.1 he with rfl|he
  ·exact⟨h1,h2,h3⟩
  cases ht:tb.get e.f with
  |none=>rw[ht]at he;cases he
  |some l=>rw[ht]at he;exact h _ l ht e' he
 exact h f l hl e' he
def chkT (P:Program)(T:Tab)(dr:Dx P)(fuel k fz:Nat):Tbl→List Ent→Bool
 |_,[]=>true
 |tb,e::es=>e.args.all argOk&&frzE e.r&&allR (callN P T (orcT tb) dr fuel k e.f e.args .lf 1) fz e.r&&chkT P T dr fuel k fz (addT tb e) es
def noDr:Dx P:=⟨fun _=>false,noX,noX_ok⟩
include hT hmo in
theorem chkT_ok (dr:Dx P){fuel k fz:Nat}:∀{es:List Ent} {tb:Tbl},TblOk P tb→chkT P T dr fuel k fz tb es=true→TblOk P (addTs tb es)
 |[],tb,h,_=>h
 |e::es,tb,h,hc=>by
  simp only[chkT,Bool.and_eq_true]at hc;show TblOk P (addTs (addT tb e) es);exact chkT_ok dr (h.add hc.1.1.1 hc.1.1.2 (pure_of_runs hT hmo (orcT_ok h) dr hc.1.1.1 hc.1.2)) hc.2
end
end Go.Eng.Run
noncomputable section
namespace Go.Eng.Run
open Go
variable {P:Program}
theorem ints_of_op {ok:Nat→Prop}{w:World}{k:IntKind}{zs:List Int}{v:Value}(h:RepI ok w (X.op 1 (zs.map fun n=>X.cl (.int k n))).den v):RepI ok w (.ints k zs) v:=by
 obtain⟨ad,cap,h1,h2,h3⟩:=h;simp only[List.length_map,Nat.div_one]at h1 h2 h3;refine⟨ad,cap,h1,h2,h3.imp id ?_⟩;rintro⟨g,o,h4,h5,h6⟩;refine⟨g,o,h4,h5,fun i hi=>?_⟩;obtain⟨u,hu,hr⟩:=h6 i 0 hi (by omega);simp only[Nat.mul_one,Nat.add_zero,denL_getD,List.getElem?_map,X8 hi,Option.map_some,Option.getD_some,X.den]at hu hr;have hr:u= .int k zs[i]:=hr;rw[hu,hr,X7,X8 hi];rfl
theorem pure_ints {f:FuncId}{k:IntKind}{zs:List Int}{r:V}(h:Pr P f [.one (.ints k zs)] r):Pr P f ([.v (.one (X.op 1 (zs.map fun n=>X.cl (.int k n))))].map argV) r:=by
 obtain⟨h1,h2⟩:=h;refine⟨h1,fun ok w vs hok hr=>h2 ok w vs hok ?_⟩
 cases hv:vs.toList with
 |nil=>rw[hv]at hr;exact hr.elim
 |cons v l=>
  rw[hv]at hr;exact⟨ints_of_op hr.1,hr.2⟩
theorem pure_nil {f:FuncId}{k:IntKind}{r:V}(h:Pr P f [.one (.ints k [])] r):Pr P f ([.v (.one (X.cl .nil))].map argV) r:=by
 obtain⟨h1,h2⟩:=h;refine⟨h1,fun ok w vs hok hr=>h2 ok w vs hok ?_⟩
 cases hv:vs.toList with
 |nil=>rw[hv]at hr;exact hr.elim
 |cons v l=>
  rw[hv]at hr;refine⟨?_,hr.2⟩
  have:v= .slice none 0 0:=hr.1
  rw[this];exact⟨none,0,rfl,O1 _,.inl rfl⟩
theorem ints0_rows {k:IntKind}{f:Nat→Nat→C}:CLe (.ints k []) (.rows 1 0 f):=fun _ _ _ ⟨ad,cap,h1,h2,_⟩=>⟨ad,cap,h1,h2,.inl rfl⟩
theorem pure_zero {f:FuncId}{k:IntKind}(h:Pr P f [.one (.ints k [])] (.one (.ints k []))):Pr P f ([EV.v (.one (X.op 1 []))].map argV) (EV.v (.one (X.op 1 []))).den:=
 pure_ints (k:=k) (zs:=[]) (h.res fun ok w v hr=>ints0_rows ok w v hr)
abbrev yo (w:Nat)(cs:List X):X:=.op w cs
abbrev yi (n:Int):X:=.cl (.int .i64 n)
abbrev yu (n:Int):X:=.cl (.int .u32 n)
abbrev yk (k:IntKind)(n:Int):X:=.cl (.int k n)
abbrev yt:X:=.cl (.bool true)
abbrev yf:X:=.cl (.bool false)
abbrev yz:X:=.cl .nil
end Go.Eng.Run
noncomputable section
namespace Go.Eng.Run
open Go
def insC (sz i:Nat)(xs ys:List X):List X:=xs.take (i*sz)++(ys++xs.drop (i*sz))
def insE (sz bytes:Nat)(st:Sto)(nx:Nat)(x y:EV)(i:Int):Option Oc:=
 match x,y with
 |.v (
    .one (.cl (.own b wd off len))),.v (.one (.cl (.own b2 wd2 off2 m)))=>
  match srcE st.get sz x,srcE st.get sz y with
  |some (xs,_),some (ys,_)=>if b≠b2∧m=1∧0≤i∧i.toNat≤len∧(len+1)*bytes≤140737488355328∧len+1≤9223372036854775807 then
    some (ec (.own nx sz 0 (len+1)),(st.put b none).put nx (some (.mem sz (insC sz i.toNat xs ys))),nx+1)else none
  |_,_=>none
 |.v (
    .one (.cl .nil)),.v (.one (.cl (.own _ _ _ m)))=>
  match srcE st.get sz y with
  |some (ys,_)=>if m=1∧i=0∧bytes≤140737488355328 then
    some (ec (.own nx sz 0 1),st.put nx (some (.mem sz ys)),nx+1)else none
  |none=>none
 |_,_=>none
def insT (fi:FuncId)(sz bytes:Nat):CallT:=fun f args st nx=>
 match Nat.beq f fi with
 |true=>match args with
  |[x,.v (.one (.cl (.int .i64 i))),y]=>(insE sz bytes st nx x y i).map fun q=>[q]
  |_=>none
 |false=>none
end Go.Eng.Run
namespace Go.Proofs.YtcdijplheindaaaGreat
open Go Go.Proofs Go.RowKit Go.Lib Go.Eng Go.Eng.Run
set_option maxRecDepth 100000 in
theorem insEnd (g o n c vg vo vc:Nat)(w w1:World)(r:Value)(hn:n≤c)(hr:∀ty,(Builtin.append_ #[35,35] ty #[.slice (some ⟨g,o,none⟩) n c,.slice (some ⟨vg,vo,none⟩) 1 vc]).run Tryz.prog w= .ok r w1):
  Calls Tryz.prog 84 #[.slice (some ⟨g,o,none⟩) n c,.int .i64 n,.slice (some ⟨vg,vo,none⟩) 1 vc] w fun e w'=>e= .returned r∧w'=w1:=by
 have hb1:(0:Int)≤(n:Int):=by omega
 go_enter Tryz.func84,Tryz.ntmps84
 go_wp2_with (at_builtin;refine Lib.wpList_append_run _ rfl _ _ _ _ rfl _ _ rfl rfl _ _ (hr _) ?_)
 all_goals(go_ret;exact⟨rfl,rfl⟩)
set_option maxRecDepth 100000 in
theorem insNil (vg vo vc:Nat)(w w1:World)(r:Value)(hr:∀ty,(Builtin.append_ #[35,35] ty #[.slice none 0 0,.slice (some ⟨vg,vo,none⟩) 1 vc]).run Tryz.prog w= .ok r w1):
  Calls Tryz.prog 84 #[.slice none 0 0,.int .i64 0,.slice (some ⟨vg,vo,none⟩) 1 vc] w fun e w'=>e= .returned r∧w'=w1:=by
 go_enter Tryz.func84,Tryz.ntmps84
 go_wp2_with (at_builtin;refine Lib.wpList_append_run _ rfl _ _ _ _ rfl _ _ rfl rfl _ _ (hr _) ?_)
 go_ret
 exact⟨rfl,rfl⟩
theorem step_copyI {ops:Array Oper}{o:Oper}{a:Act}{w:World}{K:Act→World→Prop}{Q:Exit→Act→World→Prop}{E:Prop}
  (hg:o.guard=none) (d x:Operand) (dT sT:TypeId) (hop:o.op=Op.call {callee:=Callee.builtin Builtin.copy,args:= #[d,x],argTypes:= #[dT,sT]})
  (v u:Value) (hd:a.eval d=v) (hx:a.eval x=u) {v':Value} {w':World} (hr:(Builtin.copy_ #[dT,sT] o.type #[v,u]).run Tryz.prog w= .ok v' w') (hK:K (a.put o.dst v') w'):
  if Region.wanted o (yielded ops a.tmps)=true then Oper.wp Tryz.prog o a w K Q else E:=by
 have hw:Region.wanted o (yielded ops a.tmps)=true:=by simp[Region.wanted,hg]
 rw[if_pos hw];unfold Oper.wp
 simp[execOp,hop,resolve,invoke,builtin,hd,hx,hr,Result.andThen]
 exact hK
theorem wpList_copyI (w:World){ops:Array Oper}{rest:List Oper}{o:Oper}{a:Act}{Q:Exit→Act→World→Prop}(hgd:o.guard=none)(d s:Operand)(t t':TypeId)
  (ho:o.op= .call {callee:=.builtin .copy,args:= #[d,s],argTypes:= #[t,t']}) (v u:Value) (hd:a.eval d=v) (hs:a.eval s=u) {v':Value} {w':World}
  (hr:(Builtin.copy_ #[t,t'] o.type #[v,u]).run Tryz.prog w= .ok v' w') (h:wpList Tryz.prog ops Q rest (a.put o.dst v') w'):wpList Tryz.prog ops Q (o::rest) a w:=
 wpList_plain hgd fun _ hK=>by
  unfold Oper.wp execOp;simp only[ho,resolve,invoke,builtin,Sem.run_bind,Sem.run_pure,Q7,List.map_toArray,List.map_cons,List.map_nil,hd,hs,hr];exact hK _ _ h
set_option maxRecDepth 100000 in
theorem copy4 {W:World}{ty:TypeId}{g o len cap:Nat}{cur:Array Value}{e1:TypeId}{sv:Option Addr}{m cap' k:Nat}{us:List Value}(hk:k=if m<len then m else len)(hl:us.length=k*4)(hh:HoldsAt W sv us)(hg:W.heap[g]? =some (.cells cur e1 (0,0)))
  (hf:o+us.length≤cur.size) (h1:∀u∈us,u.oneCell'=true):
  (Builtin.copy_ #[35,35] ty #[.slice (some ⟨g,o,none⟩) len cap,.slice sv m cap']).run Tryz.prog W= .ok (goInt k) (W.setRow g (cur.toList.take o++us++cur.toList.drop (o+us.length)).toArray):=by
 obtain⟨i,d,z,hi,hu,hz,_,hs,hby,hzl,_⟩:=T_parts T_ok (show T 32=some _ from rfl);have hs:i.size=4:=hs.symm;have hst:=run_storeCells_at Tryz.prog g o e1 us 0 cur W hg (by simpa using hf) h1;simp only[Nat.add_zero]at hst;exact copy_run (by rfl) hi _ _ len cap m cap' k hk (by rw[hs];exact hl) hh hst
set_option maxRecDepth 100000 in
theorem ov_apart {w:World}{vg vo vc g x lb cb:Nat}{curv cur:Array Value}{e1 e2:TypeId}(hgv:w.heap[vg]? =some (.cells curv e2 (0,0)))(hg:w.heap[g]? =some (.cells cur e1 (0,0)))(hc0:cur.size≠0)(hvg:vg≠g):
  (callFunc 154 #[.slice (some ⟨vg,vo,none⟩) 1 vc,.slice (some ⟨g,x,none⟩) lb cb]).run Tryz.prog w= .ok (.value (.bool false)) w:=by
 obtain⟨i,d,z,hi,hu,hz,_,hs,hby,hzl,_⟩:=T_parts T_ok (show T 32=some _ from rfl);have hs:i.size=4:=hs.symm;rw[run_callFunc_extern Tryz.func154 (by kernel_rfl) (by kernel_rfl) (by kernel_rfl) (e:=Extern.SlicesOverlaps.overlaps #[35,35] #[4]) (by kernel_rfl),
  Lib.run_overlaps_apart w 35 4 32 (by rfl) 4 (fun w=>by simp[sizeOf,typeInfo,hi,hs]) ⟨vg,vo,none⟩ ⟨g,x,none⟩ 1 vc lb cb hvg e2 e1 curv.size cur.size (by simp[World.shape?,hgv]) (by simp[World.shape?,hg]) hc0 (by simp[World.frozen?,hgv]) (by simp[World.frozen?,hgv])]
 rfl
theorem row_ins {L us:List Value}{a k r:Nat}(hus:us.length=4)(hL:a+k+4≤L.length)(hr:r=a+k+4):
  ((L.take (a+4)++(L.drop a).take k++L.drop (a+4+((L.drop a).take k).length)).take a++us++(L.take (a+4)++(L.drop a).take k++L.drop (a+4+((L.drop a).take k).length)).drop (a+us.length))=L.take a++us++(L.drop a).take k++L.drop r:=by
 subst hr;have hk:((L.drop a).take k).length=k:=by simp;omega
 rw[hk,hus];have e1:(L.take (a+4)++(L.drop a).take k++L.drop (a+4+k)).take a=L.take a:=by
  rw[List.append_assoc,List.take_append_of_le_length (by simp;omega),List.take_take]
  congr 1;omega
 have e2:(L.take (a+4)++(L.drop a).take k++L.drop (a+4+k)).drop (a+4)=(L.drop a).take k++L.drop (a+k+4):=by
  rw[List.append_assoc,List.drop_append];have h0:(L.take (a+4)).length=a+4:=by simp;omega
  rw[h0,List.drop_eq_nil_of_le (by omega),Nat.sub_self,List.drop_zero,List.nil_append]
  congr 2;omega
 rw[e1,e2];simp only[List.append_assoc]
set_option maxRecDepth 100000 in
theorem insRoomW (g o n c i vg vo vc:Nat)(w W1 W2:World)(x y:Value)(hi:i<n)(hc:n+1≤c)(hn63:n+1≤9223372036854775807)
  (hov:∀lb cb,(callFunc 154 #[.slice (some ⟨vg,vo,none⟩) 1 vc,.slice (some ⟨g,o+(i+1)*4,none⟩) lb cb]).run Tryz.prog w= .ok (.value (.bool false)) w)
  (hcp1:∀ty dc sc,(Builtin.copy_ #[35,35] ty #[.slice (some ⟨g,o+(i+1)*4,none⟩) (n-i) dc,.slice (some ⟨g,o+i*4,none⟩) (n+1-i) sc]).run Tryz.prog w.drew= .ok x W1)
  (hcp2:∀ty dc,(Builtin.copy_ #[35,35] ty #[.slice (some ⟨g,o+i*4,none⟩) (n+1-i) dc,.slice (some ⟨vg,vo,none⟩) 1 vc]).run Tryz.prog W1= .ok y W2):
  Calls Tryz.prog 84 #[.slice (some ⟨g,o,none⟩) n c,.int .i64 i,.slice (some ⟨vg,vo,none⟩) 1 vc] w fun e w'=>e= .returned (.slice (some ⟨g,o,none⟩) (n+1) c)∧w'=W2:=by
 have hb1:(0:Int)≤(n:Int):=by omega
 have hz2:¬((i:Int)=(n:Int)):=by omega
 go_enter Tryz.func84,Tryz.ntmps84
 go_wp2_with (simp only[hov])
 have mixed:=mixed;have hw1:IntKind.i64.wrap ((i:Int)+1)=(i:Int)+1:=by rw[IntKind.wrap_i64];omega
 have hb1':(0:Int)≤(i:Int)+1:=by omega
 have hin:i≤n:=by omega
 have htn:((i:Int)+1).toNat=i+1:=by omega
 have hb2:¬(c=i+1):=by omega
 have hb3:(i:Int)≤(n:Int)+1:=by omega
 have hb4:¬(c=i):=by omega
 go_region_law_o (refine step_copyI rfl _ _ _ _ rfl _ _ (by simp[Act.eval,Act.put]) (by simp[Act.eval,Act.put]) (hcp1 _ (c-(i+1)) (c-i)) ?_)
 go_wp2_with (at_builtin;refine wpList_copyI _ rfl _ _ _ _ rfl _ _ rfl rfl (hcp2 _ _) ?_)
 go_ret
 exact⟨rfl,rfl⟩
set_option maxRecDepth 100000 in
theorem insRoom (g o n c i vg vo vc:Nat)(w:World)(cur curv:Array Value)(e1 e2:TypeId)(us:List Value)(hi:i<n)(hc:n+1≤c)(hn63:n+1≤9223372036854775807)(hg:w.heap[g]? =some (.cells cur e1 (0,0)))(hgv:w.heap[vg]? =some (.cells curv e2 (0,0)))(hf:o+(n+1)*4≤cur.size)(hvg:vg≠g)(hus:us.length=4)
  (hv:HoldsAt w (some ⟨vg,vo,none⟩) us) (h1:∀u∈us,u.oneCell'=true) (h2:∀u∈(cur.toList.drop (o+i*4)).take ((n-i)*4),u.oneCell'=true):
  Calls Tryz.prog 84 #[.slice (some ⟨g,o,none⟩) n c,.int .i64 i,.slice (some ⟨vg,vo,none⟩) 1 vc] w fun e w'=>e= .returned (.slice (some ⟨g,o,none⟩) (n+1) c)∧
   w'=w.drew.setRow g (cur.toList.take (o+i*4)++us++(cur.toList.drop (o+i*4)).take ((n-i)*4)++cur.toList.drop (o+(n+1)*4)).toArray:=by
 have hb1:(0:Int)≤(n:Int):=by omega
 have hz2:¬((i:Int)=(n:Int)):=by omega
 have hov:∀lb cb,(callFunc 154 #[.slice (some ⟨vg,vo,none⟩) 1 vc,.slice (some ⟨g,o+(i+1)*4,none⟩) lb cb]).run Tryz.prog w= .ok (.value (.bool false)) w:=fun lb cb=>ov_apart hgv hg (by omega) hvg;obtain⟨us1,hu1⟩:∃us1,us1=(cur.toList.drop (o+i*4)).take ((n-i)*4):=⟨_,rfl⟩;have hl1:us1.length=(n-i)*4:=by rw[hu1];simp;omega
 obtain⟨R1,hR1⟩:∃R1,R1=(cur.toList.take (o+i*4+4)++us1++cur.toList.drop (o+i*4+4+us1.length)).toArray:=⟨_,rfl⟩;have hgd:w.drew.heap[g]? =some (.cells cur e1 (0,0)):=hg;have hcp1:∀ty dc sc,(Builtin.copy_ #[35,35] ty #[.slice (some ⟨g,o+(i+1)*4,none⟩) (n-i) dc,.slice (some ⟨g,o+i*4,none⟩) (n+1-i) sc]).run Tryz.prog w.drew= .ok (goInt (n-i:Nat)) (w.drew.setRow g R1):=fun ty dc sc=>by
  rw[hR1,show o+i*4+4=o+(i+1)*4 by omega]
  refine copy4 (by split<;>omega) hl1 (.inr ⟨_,rfl,fun j u hj=>?_⟩) hgd (by omega) (by rw[hu1];exact h2)
  rw[add_lit',cell_of_row w.drew g _ cur e1 (0,0) hgd];rw[hu1,List.getElem?_take]at hj
  split at hj
  ·rw[List.getElem?_drop]at hj;simpa using hj
  cases hj
 have hR1s:R1.size=cur.size:=by rw[hR1];simp;omega
 have hg1:=setRow_heap w.drew g cur R1 e1 (0,0) hgd;have hcp2:∀ty dc,(Builtin.copy_ #[35,35] ty #[.slice (some ⟨g,o+i*4,none⟩) (n+1-i) dc,.slice (some ⟨vg,vo,none⟩) 1 vc]).run Tryz.prog (w.drew.setRow g R1)= .ok (goInt (1:Nat)) ((w.drew.setRow g R1).setRow g (R1.toList.take (o+i*4)++us++R1.toList.drop (o+i*4+us.length)).toArray):=fun ty dc=>by
  refine copy4 (by split<;>omega) hus ?_ hg1 (by omega) h1
  rcases hv with rfl|⟨ad,had,hv⟩
  ·exact .inl rfl
  cases had
  refine .inr ⟨_,rfl,fun j u hj=>?_⟩
  have:=hv j u hj
  rw[add_lit']at this⊢;rw[cell_setRow_other _ _ _ _ hvg];exact this
 refine(insRoomW g o n c i vg vo vc w _ _ _ _ hi hc hn63 hov hcp1 hcp2).mono ?_
 rintro e w' ⟨rfl,rfl⟩;refine⟨rfl,?_⟩;rw[setRow_setRow,hR1,hu1]
 congr 2
 exact row_ins hus (by simp;omega) (by omega)
theorem alloc_setRow (W:World)(R R':Array Value)(e:TypeId):(W.alloc (.cells R e)).setRow W.heap.size R'=W.alloc (.cells R' e):=by
 unfold World.setRow World.alloc
 congr 1
 apply Array.ext
 ·simp
 intro i h1 h2;simp only[Array.getElem_modify,Array.getElem_push]
 by_cases hi:i<W.heap.size
 ·simp[hi,show ¬W.heap.size=i by omega]
 have:W.heap.size=i:=by simp at h2;omega
 simp[hi,this]
set_option maxRecDepth 100000 in
theorem insGrowW (g o n c i vg vo vc N G:Nat)(w W1 W2 W3:World)(x y:Value)(hi:i<n)(hnc:n≤c)(hc:c<n+1)(hG:n+1≤G)(hG63:G≤9223372036854775807)
  (hap:∀ty,(Builtin.append_ #[35,3] ty #[.slice (some ⟨g,o,none⟩) i c,.int .i64 ((n:Int)+1-i)]).run Tryz.prog w= .ok (.slice (some ⟨N,0,none⟩) (n+1) G) W1)
  (hcp1:∀ty dc,(Builtin.copy_ #[35,35] ty #[.slice (some ⟨N,i*4,none⟩) (n+1-i) dc,.slice (some ⟨vg,vo,none⟩) 1 vc]).run Tryz.prog W1= .ok x W2)
  (hcp2:∀ty dc sc,(Builtin.copy_ #[35,35] ty #[.slice (some ⟨N,(i+1)*4,none⟩) (n-i) dc,.slice (some ⟨g,o+i*4,none⟩) (n-i) sc]).run Tryz.prog W2.drew= .ok y W3):
  Calls Tryz.prog 84 #[.slice (some ⟨g,o,none⟩) n c,.int .i64 i,.slice (some ⟨vg,vo,none⟩) 1 vc] w fun e w'=>e= .returned (.slice (some ⟨N,0,none⟩) (n+1) G)∧w'=W3:=by
 have hb1:(0:Int)≤(n:Int):=by omega
 have hz2:¬((i:Int)=(n:Int)):=by omega
 have hz3:(c:Int)<(n:Int)+1:=by omega
 have hw1:IntKind.i64.wrap ((i:Int)+1)=(i:Int)+1:=by rw[IntKind.wrap_i64];omega
 have hb1':(0:Int)≤(i:Int)+1:=by omega
 have hin:i≤n:=by omega
 have htn:((i:Int)+1).toNat=i+1:=by omega
 have hb3:(i:Int)≤(n:Int):=by omega
 have hb4:¬(c=i):=by omega
 have hb5:¬(G=i):=by omega
 have hb6:¬(G=i+1):=by omega
 have hb7:(i:Int)≤(n:Int)+1:=by omega
 have mixed:=mixed
 go_enter Tryz.func84,Tryz.ntmps84
 go_wp2_with (first
  |(at_builtin;refine Lib.wpList_append_run _ rfl _ _ _ _ rfl _ _ rfl rfl _ _ (hap _) ?_)
  |(at_builtin;refine wpList_copyI _ rfl _ _ _ _ rfl _ _ rfl rfl (hcp1 _ _) ?_))
 go_region_law_o (refine step_copyI rfl _ _ _ _ rfl _ _ (by simp[Act.eval,Act.put]) (by simp[Act.eval,Act.put]) (hcp2 _ (G-(i+1)) (c-i)) ?_)
 go_wp2
 go_ret
 exact⟨rfl,rfl⟩
theorem row_grow {A Z1 Z2 us us1:List Value}{a k:Nat}(hA:A.length=a)(hZ:Z1.length=k+4)(hus:us.length=4)(hu1:us1.length=k){R0 R1:List Value}(h0:R0=A++Z1++Z2)(h1:R1=R0.take a++us++R0.drop (a+us.length)):
  R1.take (a+4)++us1++R1.drop (a+4+us1.length)=A++us++us1++Z2:=by
 have e0:R0.take a=A:=by rw[h0,List.append_assoc,←hA];simp
 have e1:R0.drop (a+us.length)=Z1.drop 4++Z2:=by
  rw[h0,hus,List.append_assoc,←hA,List.drop_append,List.drop_eq_nil_of_le (by omega),List.nil_append,Nat.add_sub_cancel_left,List.drop_append];rw[show 4-Z1.length=0 by omega,List.drop_zero]
 have e2:R1=(A++us)++(Z1.drop 4++Z2):=by rw[h1,e0,e1]
 have hl:(A++us).length=a+4:=by simp[hA,hus]
 have e3:R1.take (a+4)=A++us:=by rw[e2,←hl,List.take_append_of_le_length (O1 _),List.take_length]
 have e4:R1.drop (a+4+us1.length)=Z2:=by
  rw[e2,hu1,←hl,List.drop_append,List.drop_eq_nil_of_le (by omega),List.nil_append,Nat.add_sub_cancel_left,List.drop_append,List.drop_eq_nil_of_le (by simp;omega)]
  simp[hZ]
 rw[e3,e4]
set_option maxRecDepth 100000 in
theorem insGrow (g o n c i vg vo vc:Nat)(w:World)(olds us:List Value)(ei:TypeInfo)(ez:Value)(hei:Tryz.prog.info? 32=some ei)(hez:ei.zero=some ez)(hes:ei.size=4)(heb:ei.bytes=96)(hzs:ez.cells.size=4)(hi:i<n)(hnc:n≤c)(hc:c<n+1)(hb:(n+1)*96≤140737488355328)(hol:olds.length=n*4)(hho:HoldsAt w (some ⟨g,o,none⟩) olds)
  (hgw:g<w.heap.size) (hvw:vg<w.heap.size) (hus:us.length=4) (hv:HoldsAt w (some ⟨vg,vo,none⟩) us) (h1:∀u∈us,u.oneCell'=true) (h2:∀u∈olds,u.oneCell'=true):
  Calls Tryz.prog 84 #[.slice (some ⟨g,o,none⟩) n c,.int .i64 i,.slice (some ⟨vg,vo,none⟩) 1 vc] w fun e w'=>
   e= .returned (.slice (some ⟨w.heap.size,0,none⟩) (n+1) (grownCap w (n+1) c 32))∧
   w'=w.drew.drew.alloc (.cells (olds.take (i*4)++us++olds.drop (i*4)++(Builtin.zeroCells ez.cells (grownCap w (n+1) c 32-(n+1))).toList).toArray 32):=by
 have happ:=(App.ofMake (w:=w) (t:=35) (t':=3) (k:=.i64) (k':=.i64) (by rfl) (by rfl) hei hez (by rw[hes];exact hzs) (by omega) (m:=n+1-i) (by rw[heb];omega) (by omega)).new (by omega);obtain⟨G,hG⟩:∃G,G=grownCap w (n+1) c 32:=⟨_,rfl⟩;have hGn:n+1≤G:=by rw[hG];exact grownCap_ge w _ _ _
 have hG63:G≤9223372036854775807:=by
  have:=grownCap_le_maxLen w (n+1) c 32 (by unfold maxLen;omega)
  rw[←hG]at this;unfold maxLen at this;omega
 have hhi:HoldsAt w (some ⟨g,o,none⟩) (olds.take (i*4)):=by
  rcases hho with h|⟨ad,had,h⟩
  ·rw[h]at hol;simp at hol;omega
  exact .inr ⟨ad,had,fun j u hj=>by
   rw[List.getElem?_take]at hj
   split at hj
   ·exact h j u hj
   cases hj⟩
 have hap:∀ty,(Builtin.append_ #[35,3] ty #[.slice (some ⟨g,o,none⟩) i c,.int .i64 ((n:Int)+1-i)]).run Tryz.prog w= .ok (.slice (some ⟨w.heap.size,0,none⟩) (n+1) G) (w.drew.alloc (.cells ((olds.take (i*4)).toArray++(Builtin.zeroCells ez.cells (n+1-i)).toList.toArray++Builtin.zeroCells ez.cells (G-(n+1))) 32)):=fun ty=>by
  have h:=happ ty (some ⟨g,o,none⟩) i c (olds.take (i*4)) (by rw[hes,X5];omega) hhi (by omega) (by rw[heb];omega) (by omega);rw[show i+(n+1-i)=n+1 by omega,←hG,show ((n+1-i:Nat):Int)=(n:Int)+1-i by omega]at h;exact h
 rw[←hG];obtain⟨A,hA⟩:∃A,A=olds.take (i*4):=⟨_,rfl⟩;obtain⟨Z1,hZ1⟩:∃Z1,Z1=(Builtin.zeroCells ez.cells (n+1-i)).toList:=⟨_,rfl⟩;obtain⟨Z2,hZ2⟩:∃Z2,Z2=(Builtin.zeroCells ez.cells (G-(n+1))).toList:=⟨_,rfl⟩;have hAl:A.length=i*4:=by rw[hA,X5];omega
 have hZl:Z1.length=(n-i)*4+4:=by rw[hZ1];simp[zeroCells_size,hzs];omega
 obtain⟨R0,hR0⟩:∃R0,R0=A++Z1++Z2:=⟨_,rfl⟩;have hR:(olds.take (i*4)).toArray++(Builtin.zeroCells ez.cells (n+1-i)).toList.toArray++Builtin.zeroCells ez.cells (G-(n+1))=R0.toArray:=by
  rw[hR0,hA,hZ1,hZ2];simp
 rw[hR]at hap;rw[←hA,←hZ2];obtain⟨R1,hR1⟩:∃R1,R1=R0.take (i*4)++us++R0.drop (i*4+us.length):=⟨_,rfl⟩;have hR0l:i*4+4+(n-i)*4≤R0.length:=by rw[hR0];simp[hAl,hZl];omega
 have hR1l:R1.length=R0.length:=by rw[hR1];simp[hus];omega
 have hW1:∀W:World,W.heap.size=w.heap.size→∀R:List Value,(W.alloc (.cells R.toArray 32)).heap[w.heap.size]? =some (.cells R.toArray 32 (0,0)):=fun W hW R=>by rw[←hW];exact heap_alloc_new W _
 have hcp1:∀ty dc,(Builtin.copy_ #[35,35] ty #[.slice (some ⟨w.heap.size,i*4,none⟩) (n+1-i) dc,.slice (some ⟨vg,vo,none⟩) 1 vc]).run Tryz.prog (w.drew.alloc (.cells R0.toArray 32))= .ok (goInt (1:Nat)) (w.drew.alloc (.cells R1.toArray 32)):=fun ty dc=>by
  have:=copy4 (W:=w.drew.alloc (.cells R0.toArray 32)) (ty:=ty) (g:=w.heap.size) (o:=i*4) (len:=n+1-i) (cap:=dc) (sv:=some ⟨vg,vo,none⟩) (m:=1) (cap':=vc) (k:=1) (us:=us) (by split<;>omega) hus (by
   rcases hv with rfl|⟨ad,had,hv⟩
   ·exact .inl rfl
   cases had
   refine .inr ⟨_,rfl,fun j u hj=>?_⟩
   have:=hv j u hj
   rw[add_lit']at this⊢;rw[World.cell?_alloc_past (w:=w.drew) _ vg _ hvw];exact this) (hW1 w.drew rfl R0) (by simp;omega) h1
  rw[this,show w.heap.size=w.drew.heap.size from rfl,alloc_setRow,hR1]
 obtain⟨us1,hus1⟩:∃us1,us1=olds.drop (i*4):=⟨_,rfl⟩;have hl1:us1.length=(n-i)*4:=by rw[hus1,List.length_drop];omega
 have hcp2:∀ty dc sc,(Builtin.copy_ #[35,35] ty #[.slice (some ⟨w.heap.size,(i+1)*4,none⟩) (n-i) dc,.slice (some ⟨g,o+i*4,none⟩) (n-i) sc]).run Tryz.prog (w.drew.alloc (.cells R1.toArray 32)).drew= .ok (goInt (n-i:Nat)) (w.drew.drew.alloc (.cells (A++us++us1++Z2).toArray 32)):=fun ty dc sc=>by
  have:=copy4 (W:=w.drew.drew.alloc (.cells R1.toArray 32)) (ty:=ty) (g:=w.heap.size) (o:=i*4+4) (len:=n-i) (cap:=dc) (sv:=some ⟨g,o+i*4,none⟩) (m:=n-i) (cap':=sc) (k:=n-i) (us:=us1) (by split<;>omega) hl1 (by
   rcases hho with h|⟨ad,had,h⟩
   ·rw[h]at hol;simp at hol;omega
   cases had
   refine .inr ⟨_,rfl,fun j u hj=>?_⟩;rw[hus1,List.getElem?_drop]at hj
   have:=h _ u hj
   rw[add_lit']at this⊢;rw[World.cell?_alloc_past (w:=w.drew.drew) _ g _ hgw,Nat.add_assoc];exact this) (hW1 w.drew.drew rfl R1) (by simp;omega) (fun u hu=>h2 u (List.mem_of_mem_drop (hus1▸hu)))
  rw[show i*4+4=(i+1)*4 by omega]at this;refine this.trans ?_;rw[show w.heap.size=w.drew.drew.heap.size from rfl,alloc_setRow]
  congr 3
  have:=row_grow (us1:=us1) hAl hZl hus hl1 hR0 hR1
  rw[show i*4+4=(i+1)*4 by omega]at this;exact congrArg _ this
 refine(insGrowW g o n c i vg vo vc w.heap.size G w _ _ _ _ _ hi hnc hc hGn hG63 hap hcp1 hcp2).mono ?_
 rintro e w' ⟨rfl,rfl⟩;exact⟨rfl,by rw[hus1]⟩
end Go.Proofs.YtcdijplheindaaaGreat
namespace Go.Proofs.YtcdijplheindaaaGreat
open Go Go.Proofs Go.RowKit Go.Eng Go.Eng.Run
def insRow (olds us:List Value)(i:Nat):List Value:=olds.take (i*4)++(us++olds.drop (i*4))
def DrewOf (w w1:World):Prop:=w1=w∨w1=w.drew∨w1=w.drew.drew
theorem DrewOf.below {w w1:World}(h:DrewOf w w1):Below w.heap.size w w1∧w1.heap=w.heap:=by
 rcases h with rfl|rfl|rfl
 ·exact⟨Below.refl _ _,rfl⟩
 ·exact⟨(Below.refl _ _).drew,rfl⟩
 exact⟨((Below.refl _ _).drew).drew,rfl⟩
def InsOut (w:World)(g o n c:Nat)(cur:Array Value)(NEW:List Value)(e:Ending)(w':World):Prop:=
 (n+1≤c∧e= .returned (.slice (some ⟨g,o,none⟩) (n+1) c)∧∃w1,DrewOf w w1∧w'=w1.setRow g (cur.toList.take o++NEW++cur.toList.drop (o+NEW.length)).toArray)∨
 ∃G Z w1,n+1≤G∧Z.length=(G-(n+1))*4∧e= .returned (.slice (some ⟨w.heap.size,0,none⟩) (n+1) G)∧DrewOf w w1∧w'=w1.alloc (.cells (NEW++Z).toArray 32)
theorem insRow_len {olds us:List Value}{i n:Nat}(ho:olds.length=n*4)(hus:us.length=4)(hi:i≤n):(insRow olds us i).length=(n+1)*4:=by
 unfold insRow;simp only[X6,X5,List.length_drop];omega
set_option maxRecDepth 100000 in
theorem insAll (g o n c i vg vo vc:Nat)(w:World)(cur curv:Array Value)(e1 e2:TypeId)(us:List Value)(hi:i≤n)(hnc:n≤c)(hg:w.heap[g]? =some (.cells cur e1 (0,0)))(hgv:w.heap[vg]? =some (.cells curv e2 (0,0)))(hf:o+n*4≤cur.size)(hfc:n+1≤c→o+(n+1)*4≤cur.size)
  (hb:(n+1)*96≤140737488355328) (hvg:vg≠g) (hus:us.length=4) (hv:HoldsAt w (some ⟨vg,vo,none⟩) us) (h1:∀u∈us,u.oneCell'=true) (h2:∀u∈(cur.toList.drop o).take (n*4),u.oneCell'=true):
  Calls Tryz.prog 84 #[.slice (some ⟨g,o,none⟩) n c,.int .i64 i,.slice (some ⟨vg,vo,none⟩) 1 vc] w (InsOut w g o n c cur (insRow ((cur.toList.drop o).take (n*4)) us i)):=by
 obtain⟨ei,d,ez,hei,heu,hez,_,hes,heb,hzl,hall⟩:=T_parts T_ok (show T 32=some _ from rfl);have hes:ei.size=4:=hes.symm;have heb:ei.bytes=96:=heb.symm;have hzs:ez.cells.size=4:=by
  have:=congrArg List.length hzl
  simpa[T]using this.symm
 obtain⟨olds,hol⟩:∃olds,olds=(cur.toList.drop o).take (n*4):=⟨_,rfl⟩;have holl:olds.length=n*4:=by rw[hol];simp;omega
 have hho:HoldsAt w (some ⟨g,o,none⟩) olds:=.inr ⟨_,rfl,fun j u hj=>by
  rw[hol,List.getElem?_take]at hj
  split at hj
  ·rw[List.getElem?_drop]at hj;rw[add_lit',cell_of_row w g _ cur e1 (0,0) hg];simpa using hj
  cases hj⟩
 have hgw:g<w.heap.size:=(Array.getElem?_eq_some_iff.1 hg).1;have hvw:vg<w.heap.size:=(Array.getElem?_eq_some_iff.1 hgv).1;have hdt:olds.drop (i*4)=(cur.toList.drop (o+i*4)).take ((n-i)*4):=by
  rw[hol,List.drop_take,List.drop_drop]
  congr 1;omega
 have htk:cur.toList.take (o+i*4)=cur.toList.take o++olds.take (i*4):=by
  rw[hol,List.take_take,Nat.min_eq_left (O8 _ hi),List.take_add]
 have hnl:=insRow_len (i:=i) holl hus hi;rw[←hol]
 by_cases hin:i=n
 ·subst hin;have app:=App.ofSlice (P:=Tryz.prog) (w:=w) (t:=35) (t':=35) (ad:=some ⟨vg,vo,none⟩) (m:=1) (cap:=vc) (us:=us) (by rfl) (by rfl) hei hez (by rw[hus,hes]) hv;have hrow:insRow olds us i=olds++us:=by
   unfold insRow;rw[List.take_of_length_le (by omega),List.drop_eq_nil_of_le (by omega),List.append_nil]
  by_cases hc:i+1≤c
  ·refine(insEnd g o i c vg vo vc w _ _ hnc fun ty=>app.room (by decide) ty g o i c cur e1 hg h1 hc (by rw[hes,hus];have:=hfc hc;omega) (by rw[heb];exact hb) (by omega)).mono ?_
   rintro e w' ⟨rfl,rfl⟩;refine .inl ⟨hc,rfl,w,.inl rfl,?_⟩;rw[hes,htk,hrow];rw[show olds.take (i*4)=olds from List.take_of_length_le (by omega),List.append_assoc (cur.toList.take o),X6,holl,Nat.add_assoc]
  refine(insEnd g o i c vg vo vc w _ _ hnc fun ty=>app.new (by decide) ty _ i c olds (by rw[hes];exact holl) hho (by omega) (by rw[heb];exact hb) (by omega)).mono ?_
  rintro e w' ⟨rfl,rfl⟩;refine .inr ⟨_,(Builtin.zeroCells ez.cells (grownCap w (i+1) c 32-(i+1))).toList,w.drew,grownCap_ge w _ _ _,by simp[zeroCells_size,hzs],rfl,.inr (.inl rfl),?_⟩;rw[hrow]
  congr 2
  refine Array.ext' ?_
  simp
 by_cases hc:n+1≤c
 ·refine(insRoom g o n c i vg vo vc w cur curv e1 e2 us (by omega) hc (by omega) hg hgv (hfc hc) hvg hus hv h1 (fun u hu=>h2 u (by rw[←hol];exact List.mem_of_mem_drop (hdt▸hu)))).mono ?_
  rintro e w' ⟨rfl,rfl⟩;refine .inl ⟨hc,rfl,w.drew,.inr (.inl rfl),?_⟩;rw[hnl,htk,←hdt];unfold insRow;simp only[List.append_assoc]
 refine(insGrow g o n c i vg vo vc w olds us ei ez hei hez hes heb hzs (by omega) hnc (by omega) hb holl hho hgw hvw hus hv h1 (hol▸h2)).mono ?_
 rintro e w' ⟨rfl,rfl⟩;refine .inr ⟨_,(Builtin.zeroCells ez.cells (grownCap w (n+1) c 32-(n+1))).toList,w.drew.drew,grownCap_ge w _ _ _,by simp[zeroCells_size,hzs],rfl,.inr (.inr rfl),?_⟩;unfold insRow;simp only[List.append_assoc]
theorem mem_insC {xs ys:List X}{olds us:List Value}{ρ:Nat→Eng.Loc}{dom ok:Nat→Prop}{w:World}(i:Nat)(h1:RepXL ρ dom ok w xs olds)(h2:RepXL ρ dom ok w ys us):
  ∀(j:Nat) z,(insC 4 i xs ys)[j]? =some z→∃u,(insRow olds us i)[j]? =some u∧RepX ρ dom ok w z u:=by
 have hl1:=RepXL.length h1;have hl2:=RepXL.length h2;intro j z hj;unfold insC at hj;unfold insRow;have hta:(xs.take (i*4)).length=(olds.take (i*4)).length:=by simp[hl1]
 rw[List.getElem?_append]at hj⊢;rw[←hta]
 split at hj
 ·rename_i h3
  rw[if_pos h3];rw[List.getElem?_take]at hj;rw[List.getElem?_take]
  split at hj
  ·rename_i h4;rw[if_pos h4];exact RepXL.get h1 j z hj
  cases hj
 rename_i h3
 rw[if_neg h3];rw[List.getElem?_append]at hj⊢;rw[←hl2]
 split at hj
 ·rename_i h4;rw[if_pos h4];exact RepXL.get h2 _ z hj
 rename_i h4
 rw[if_neg h4];rw[List.getElem?_drop]at hj⊢;exact RepXL.get h1 _ z hj
set_option maxRecDepth 100000 in
theorem ins_run {forb dom:Nat→Prop}{ρ:Nat→Eng.Loc}{st:Sto}{nx:Nat}{w:World}{x y:EV}{v u:Value}{i:Int}{q:Oc}(hs:SimE forb dom ρ st.get w)(hlt:∀b,dom b→b<nx)
  (hxv:RepE ρ dom (okE forb ρ st.get w) w x v) (hyv:RepE ρ dom (okE forb ρ st.get w) w y u) (hq:insE 4 96 st nx x y i=some q):
  Calls Tryz.prog 84 #[v,.int .i64 i,u] w fun e w'=>∃r,e= .returned r∧∃q'∈[q],∃dom' ρ',At forb dom ρ st.get w nx dom' ρ' q'.2.1.get w' q'.2.2∧RepE ρ' dom' (okE forb ρ' q'.2.1.get w') w' q'.1 r:=by
 unfold insE at hq
 split at hq
 ·rename_i b wd off len b2 wd2 off2 m
  split at hq
  ·rename_i xs n0 ys m0 hxs hys
   split at hq
   ·rename_i hcond
    obtain⟨hbb,rfl,hi0,hin,hb,h63⟩:=hcond
    cases hq
    obtain⟨i,rfl⟩:=Int.eq_ofNat_of_zero_le hi0;rw[Q1]at hin⊢;obtain⟨ad0,cap0,us0,hv0,hcap0,hl0,hh0,hr0⟩:=srcE_run hs hxv hxs;obtain⟨ad1,cap1,us1,hv1,hcap1,hl1,hh1,hr1⟩:=srcE_run hs hyv hys;unfold srcE at hxs hys;simp only at hxs hys
    split at hxs
    ·rename_i wd3 cs hl
     split at hxs
     ·rename_i hww
      obtain⟨rfl,rfl⟩:=hww;simp only[Q6,Prod.mk.injEq]at hxs;obtain⟨hxc,rfl⟩:=hxs
      split at hys
      ·rename_i wd4 cs2 hl2
       split at hys
       ·rename_i hww2
        obtain⟨rfl,rfl⟩:=hww2;simp only[Q6,Prod.mk.injEq]at hys;obtain⟨hyc,rfl⟩:=hys;obtain⟨_,g,og,ha,_,_,hlen,cur,e1,hg,hcell⟩:=hs.own b _ hl;obtain⟨_,g2,og2,ha2,_,_,hlen2,cur2,e2,hg2,hcell2⟩:=hs.own b2 _ hl2;have hne:g2≠g:=fun e=>by subst e;exact hs.inj b _ b2 _ hl hl2 hbb g2 og og2 ha ha2
        obtain⟨_,hle,cap,hcap,hvv⟩:=hxv;obtain⟨_,hle2,cap2,hcap2,huu⟩:=hyv
        rcases hvv with⟨g',o',o'',ha',hvv,hof,hrm⟩|⟨hn,_⟩
        rotate_left
        ·rw[ha]at hn;cases hn
        rcases huu with⟨g2',o2',o2'',ha2',huu,hof2,hrm2⟩|⟨hn,_⟩
        rotate_left
        ·rw[ha2]at hn;cases hn
        rw[ha]at ha';rw[ha2]at ha2'
        cases ha'
        cases ha2'
        rw[hvv]at hv0;rw[huu]at hv1;simp only[Value.slice.injEq]at hv0 hv1;obtain⟨rfl,_,rfl⟩:=hv0;obtain⟨rfl,_,rfl⟩:=hv1;rw[hvv,huu];rw[rowSize_of hg]at hrm;have hxl:=RepXL.length hr0;have hyl:=RepXL.length hr1;have hNl:(insRow us0 us1 i).length=(len+1)*4:=insRow_len hl0 hl1 hin;have hcl:(len+1)*4=(insC 4 i xs ys).length:=by
         unfold insC;simp only[X6,X5,List.length_drop];omega
        have h1o:=RepXL.oneCells hr1;have h0o:=RepXL.oneCells hr0;have H:Calls Tryz.prog 84 #[.slice (some ⟨g,o'',none⟩) len cap,.int .i64 i,.slice (some ⟨g2,o2'',none⟩) 1 cap2] w (InsOut w g o'' len cap cur (insRow us0 us1 i)):=by
         by_cases hc0:cap=0
         ·have hlen0:len=0:=by omega
          have hi00:i=0:=by omega
          subst hlen0 hi00 hc0;obtain⟨ei,d,ez,hei,heu,hez,_,hes,heb,hzl,hall⟩:=T_parts T_ok (show T 32=some _ from rfl);have hes:ei.size=4:=hes.symm;have heb:ei.bytes=96:=heb.symm;have hzs:ez.cells.size=4:=by
           have:=congrArg List.length hzl
           simpa[T]using this.symm
          have app:=App.ofSlice (P:=Tryz.prog) (w:=w) (t:=35) (t':=35) (ad:=some ⟨g2,o2'',none⟩) (m:=1) (cap:=cap2) (us:=us1) (by rfl) (by rfl) hei hez (by rw[hes];omega) hh1
          refine(insEnd g o'' 0 0 g2 o2'' cap2 w _ _ (O1 _) fun ty=>app.new (by decide) ty _ 0 0 [] (by simp) (.inl rfl) (by decide) (by rw[heb];decide) (by decide)).mono ?_
          rintro e w' ⟨rfl,rfl⟩;have h00:us0=[]:=List.eq_nil_of_length_eq_zero (by omega);refine .inr ⟨_,(Builtin.zeroCells ez.cells (grownCap w (0+1) 0 32-(0+1))).toList,w.drew,grownCap_ge w _ _ _,by simp[zeroCells_size,hzs],rfl,.inr (.inl rfl),?_⟩;rw[h00]
          congr 2
          refine Array.ext' ?_
          simp[insRow]
         have hof':o''=og+off*4:=by rcases hof with h|h;exact absurd h hc0;exact h
         have hsz:o''+cap*4≤cur.size:=by
          rw[Nat.add_mul]at hrm;omega
         have hus0:us0=(cur.toList.drop o'').take (len*4):=by
          refine List.ext_getElem? fun j=>?_
          by_cases hj:j<len*4
          ·rw[List.getElem?_take,if_pos hj,List.getElem?_drop]
           rcases hh0 with h|⟨ad,had,h⟩
           ·rw[h]at hl0;simp at hl0;omega
           cases had
           have hj':us0[j]? =some us0[j]:=X8 (by omega)
           have:=h j _ hj'
           rw[add_lit',cell_of_row w g _ cur e1 (0,0) hg]at this;rw[hj',←this];simp
          rw[List.getElem?_eq_none (by omega),List.getElem?_eq_none (by simp;omega)]
         have hm:len+1≤cap→o''+(len+1)*4≤cur.size:=fun h=>by
          have:=O8 4 h
          omega
         rw[hus0];refine insAll g o'' len cap i g2 o2'' cap2 w cur cur2 e1 e2 us1 hin hcap0 hg hg2 ?_ hm hb hne (by omega) hh1 h1o (hus0▸h0o)
         have:=O8 4 hcap0
         omega
        refine H.mono ?_;intro e w' ho
        rcases ho with⟨hc,rfl,w1,hw1,rfl⟩|⟨G,Z,w1,hG,hZ,rfl,hw1,rfl⟩
        ·obtain⟨hbl,hhp⟩:=hw1.below;have hg1:w1.heap[g]? =some (.cells cur e1 (0,0)):=by rw[hhp];exact hg
         have hof':o''=og+off*4:=by rcases hof with h|h;omega;exact h
         have hfit:o''+(insRow us0 us1 i).length≤cur.size:=by
          rw[hNl]
          have:=O8 4 hc
          rw[Nat.add_mul]at hrm;omega
         obtain⟨NEW,hNEW⟩:∃NEW,NEW=insRow us0 us1 i:=⟨_,rfl⟩;rw[←hNEW]at hfit hNl⊢;have hwr0:=wr_setRow hg1 (cs:=(cur.toList.take o''++NEW++cur.toList.drop (o''+NEW.length)).toArray) (by simp;omega);obtain⟨R,hR⟩:∃R,R=(cur.toList.take o''++NEW++cur.toList.drop (o''+NEW.length)).toArray:=⟨_,rfl⟩;rw[←hR]at hwr0⊢;have hwr:Wr w (w1.setRow g R) g:=by
          rcases hw1 with rfl|rfl|rfl
          ·exact hwr0
          ·exact⟨hwr0.os,hwr0.tape,hwr0.output,hwr0.size,hwr0.other,hwr0.room⟩
          exact⟨hwr0.os,hwr0.tape,hwr0.output,hwr0.size,hwr0.other,hwr0.room⟩
         have hid:¬dom nx:=fun hd=>Nat.lt_irrefl _ (hlt _ hd);have hst:=Stp.rename (S:=st.get) hs hl ha hwr hid (.mem 4 (insC 4 i xs ys)) o'' (len+1);have hsim:=hs.rename hl (by simp) ha hwr hid (.mem 4 (insC 4 i xs ys)) o'' (len+1) ⟨hcl,_,e1,setRow_heap w1 g cur _ e1 (0,0) hg1,fun j z hj=>by
          obtain⟨u,hu,hrz⟩:=mem_insC i hr0 hr1 j z hj;refine⟨u,?_,RepX.ext hst.ext hst.same hrz⟩;have hju:=(List.getElem?_eq_some_iff.1 hu).1;have hlg:=laid_get cur.toList o'' NEW (by simpa using hfit) (o''+j);rw[←hNEW]at hu hju;rw[hR,List.getElem?_toArray,hlg,if_pos (by omega),Nat.add_sub_cancel_left];exact hu⟩
         have hat:At forb dom ρ st.get w nx _ _ _ _ (nx+1):=⟨hst,hsim,fun b hb=>by rcases hb with hb|hb;have:=hlt b hb;omega;omega,by omega,fun b hb hd=>by rcases hd with hd|hd;exact hd;omega⟩
         rw[←get_put_upS,←get_put_upS]at hat;refine⟨_,rfl,_,List.mem_singleton.2 rfl,_,_,hat,.inr rfl,by rw[sLs];simp,cap,hc,.inl ⟨g,o'',o'',by rw[sLs],rfl,.inr (by simp),?_⟩⟩;have h6:=hwr.room g;rw[rowSize_of hg]at h6;refine O0 ?_ h6;rw[Nat.zero_add,hof',Nat.add_assoc,←Nat.add_mul];exact hrm
        obtain⟨hbl,hhp⟩:=hw1.below;have hkill:=At.kill hs hlt hl (by simp);rw[←get_put_upS]at hkill;have h2:=mem_new hkill.sim hkill.lt (w1:=w1) hbl (cells:=(insRow us0 us1 i++Z).toArray) (e:=32) (cs:=insC 4 i xs ys) (wd:=4) (len:=len+1) (fun j z hj=>by
         obtain⟨u,hu,hr⟩:=mem_insC i hr0 hr1 j z hj;refine⟨u,?_,RepX.ext hkill.stp.ext hkill.stp.same hr⟩;have hju:=(List.getElem?_eq_some_iff.1 hu).1;rw[List.getElem?_toArray,List.getElem?_append_left hju];exact hu) hcl (by rw[hhp])
        rw[←get_put_upS]at h2;refine⟨_,rfl,_,List.mem_singleton.2 rfl,_,_,hkill.trans h2,own_new (O1 _) hG ?_⟩;have hrs:rowSize (w1.alloc (.cells (insRow us0 us1 i++Z).toArray 32)) w.heap.size=(insRow us0 us1 i++Z).toArray.size:=by
         have:=heap_alloc_new w1 (.cells (insRow us0 us1 i++Z).toArray 32)
         rw[hhp]at this;exact rowSize_of this
        rw[hrs];simp only[List.size_toArray,X6,hNl,hZ];omega
       cases hys
      cases hys
     cases hxs
    cases hxs
   cases hq
  cases hq
 ·rename_i b2 wd2 off2 m
  split at hq
  ·rename_i ys m0 hys
   split at hq
   ·rename_i hcond
    obtain⟨rfl,rfl,hb⟩:=hcond
    cases hq
    obtain⟨ad1,cap1,us1,hv1,hcap1,hl1,hh1,hr1⟩:=srcE_run hs hyv hys;have hxv:v= .slice none 0 0:=hxv;subst hxv;unfold srcE at hys;simp only at hys
    split at hys
    ·rename_i wd4 cs2 hl2
     split at hys
     ·rename_i hww2
      obtain⟨rfl,rfl⟩:=hww2;simp only[Q6,Prod.mk.injEq]at hys;obtain⟨hyc,rfl⟩:=hys;obtain⟨_,g2,og2,ha2,_,_,hlen2,cur2,e2,hg2,hcell2⟩:=hs.own b2 _ hl2;obtain⟨_,hle2,cap2,hcap2,huu⟩:=hyv
      rcases huu with⟨g2',o2',o2'',ha2',huu,hof2,hrm2⟩|⟨hn,_⟩
      rotate_left
      ·rw[ha2]at hn;cases hn
      rw[ha2]at ha2'
      cases ha2'
      rw[huu]at hv1;simp only[Value.slice.injEq]at hv1;obtain⟨rfl,_,rfl⟩:=hv1;rw[huu];obtain⟨ei,d,ez,hei,heu,hez,_,hes,heb,hzl,hall⟩:=T_parts T_ok (show T 32=some _ from rfl);have hes:ei.size=4:=hes.symm;have heb:ei.bytes=96:=heb.symm;have hzs:ez.cells.size=4:=by
       have:=congrArg List.length hzl
       simpa[T]using this.symm
      have hyl:=RepXL.length hr1;have app:=App.ofSlice (P:=Tryz.prog) (w:=w) (t:=35) (t':=35) (ad:=some ⟨g2,o2'',none⟩) (m:=1) (cap:=cap2) (us:=us1) (by rfl) (by rfl) hei hez (by rw[hes];omega) hh1
      refine(insNil g2 o2'' cap2 w _ _ fun ty=>app.new (by decide) ty none 0 0 [] (by simp) (.inl rfl) (by decide) (by rw[heb];decide) (by decide)).mono ?_
      rintro e w' ⟨rfl,rfl⟩;have h2:=mem_new hs hlt (w1:=w.drew) ((below_self w).drew) (cells:=([]:List Value).toArray++us1.toArray++Builtin.zeroCells ez.cells (grownCap w (0+1) 0 32-(0+1))) (e:=32) (cs:=ys) (wd:=4) (len:=1) (fun j z hj=>by
       obtain⟨u,hu,hr⟩:=RepXL.get hr1 j z hj;refine⟨u,?_,hr⟩;have hju:=(List.getElem?_eq_some_iff.1 hu).1;rw[Array.getElem?_append_left (by simpa using hju)]
       simpa using hu) (by omega) rfl
      rw[←get_put_upS]at h2;have hG:=grownCap_ge w (0+1) 0 32;refine⟨_,rfl,_,List.mem_singleton.2 rfl,_,_,h2,own_new (O1 _) hG ?_⟩;have hrs:rowSize (w.drew.alloc (.cells (([]:List Value).toArray++us1.toArray++Builtin.zeroCells ez.cells (grownCap w (0+1) 0 32-(0+1))) 32)) w.heap.size=(([]:List Value).toArray++us1.toArray++Builtin.zeroCells ez.cells (grownCap w (0+1) 0 32-(0+1))).size:=rowSize_of (heap_alloc_new w.drew _);rw[hrs];simp only[Array.size_append,List.size_toArray,List.length_nil,size_zeroCells,hl1,hzs];omega
     cases hys
    cases hys
   cases hq
  cases hq
 cases hq
set_option maxRecDepth 100000 in
theorem ins_ok:CallOk Tryz.prog (insT 84 4 96):=by
 intro f args st nx outs h;unfold insT at h
 split at h
 ·rename_i hf
  obtain rfl:=Nat.eq_of_beq_eq_true hf
  split at h
  ·rename_i x i y
   obtain⟨q,hq,rfl⟩:=Option.map_eq_some_iff.1 h;refine⟨⟨_,Tryz.func84,by rfl,by rfl⟩,fun forb dom ρ w vs hs hlt hvs=>?_⟩;obtain⟨vs⟩:=vs
   match vs,hvs with
   |[v,iv,u],hvs=>
    obtain⟨hv,hiv,hu,_⟩:=hvs;have hiv:iv= .int .i64 i:=hiv;subst hiv;exact ins_run hs hlt hv hu hq
  cases h
 cases h
end Go.Proofs.YtcdijplheindaaaGreat
namespace Go.Proofs.YtcdijplheindaaaGreat
open Go Go.Eng Go.Eng.Run
theorem tou (n:Nat)(hn:n<2^64)(zs:List Int)(h:limbs n=zs):Pr Tryz.prog 334 ([EV.v (.one (X.op 1 (zs.map fun n=>X.cl (.int .u32 n))))].map argV) (EV.v (.one (.cl (.int .u64 n)))).den:=by
 have:=itoUint_spec n hn
 rw[h]at this;exact pure_ints this
theorem tou0:Pr Tryz.prog 334 ([EV.v (.one (X.cl .nil))].map argV) (EV.v (.one (.cl (.int .u64 0)))).den:=by
 have:=itoUint_spec 0 (by decide)
 rw[limbs_zero]at this;exact pure_nil this
theorem lim1 {n:Nat}(h0:0<n)(h:n<4294967296):limbs n=[(n:Int)]:=by
 rw[limbs_pos h0,show n%BB=n from O7 h,show n/BB=0 from Nat.div_eq_of_lt h,limbs_zero]
section
noncomputable def tbA:Tbl:=addTs .lf [⟨334,[(.v (.one (yo 1 [(yu 1)])))],(.v (.one (yk .u64 1)))⟩,
 ⟨334,[(.v (.one (yo 1 [(yu 2)])))],(.v (.one (yk .u64 2)))⟩,
 ⟨334,[(.v (.one yz))],(.v (.one (yk .u64 0)))⟩,
 ⟨334,[(.v (.one (yo 1 [])))],(.v (.one (yk .u64 0)))⟩,
 ⟨218,[(.v (.one (yo 1 [])))],(.v (.one (yo 1 [])))⟩]
theorem tbA_ok:TblOk Tryz.prog tbA:=(((((TblOk.nil).add (e:=⟨334,[(.v (.one (yo 1 [(yu 1)])))],(.v (.one (yk .u64 1)))⟩) rfl rfl (tou 1 (by decide) [1] (lim1 (by decide) (by decide)))).add (e:=⟨334,[(.v (.one (yo 1 [(yu 2)])))],(.v (.one (yk .u64 2)))⟩) rfl rfl (tou 2 (by decide) [2] (lim1 (by decide) (by decide)))).add (e:=⟨334,[(.v (.one yz))],(.v (.one (yk .u64 0)))⟩) rfl rfl (tou0)).add (e:=⟨334,[(.v (.one (yo 1 [])))],(.v (.one (yk .u64 0)))⟩) rfl rfl (tou 0 (by decide) [] limbs_zero)).add (e:=⟨218,[(.v (.one (yo 1 [])))],(.v (.one (yo 1 [])))⟩) rfl rfl (pure_zero (cloneU_spec [] (by decide)))
end
noncomputable def drX:Dx Tryz.prog:=⟨fun f=>Nat.beq f 6,insT 84 4 96,ins_ok⟩
end Go.Proofs.YtcdijplheindaaaGreat
namespace Go.Proofs.YtcdijplheindaaaGreat
open Go Go.Eng Go.Eng.Run
section
noncomputable def esB:List Ent:=[⟨102,[(.v (.one (yk .u64 1)))],(.v (.one (yo 1 [(yu 1)])))⟩,
 ⟨21,[(.v (.one (yi (-1))))],(.v (.agg [yt,(yo 1 [(yu 1)]),yf,(yo 1 [(yu 1)])]))⟩,
 ⟨102,[(.v (.one (yk .u64 0)))],(.v (.one (yo 1 [])))⟩,
 ⟨21,[(.v (.one (yi 0)))],(.v (.agg [yf,(yo 1 []),yf,(yo 1 [(yu 1)])]))⟩,
 ⟨21,[(.v (.one (yi 1)))],(.v (.agg [yf,(yo 1 [(yu 1)]),yf,(yo 1 [(yu 1)])]))⟩,
 ⟨7,[(.v (.one (yi (-1)))),(.v (.one (yi 0))),(.v (.one (yi 1))),(.v (.one (yi 0)))],(.v (.agg [yf,yz,(yo 4 [yt,(yo 1 [(yu 1)]),yf,(yo 1 [(yu 1)])]),yz,(yo 4 [yf,(yo 1 []),yf,(yo 1 [(yu 1)])]),yz,(yo 4 [yf,(yo 1 [(yu 1)]),yf,(yo 1 [(yu 1)])]),yz,(yo 4 [yf,(yo 1 []),yf,(yo 1 [(yu 1)])]),yz,yz,yz,yz,yf]))⟩,
 ⟨7,[(.v (.one (yi 0))),(.v (.one (yi (-1)))),(.v (.one (yi 0))),(.v (.one (yi 1)))],(.v (.agg [yf,yz,(yo 4 [yf,(yo 1 []),yf,(yo 1 [(yu 1)])]),yz,(yo 4 [yt,(yo 1 [(yu 1)]),yf,(yo 1 [(yu 1)])]),yz,(yo 4 [yf,(yo 1 []),yf,(yo 1 [(yu 1)])]),yz,(yo 4 [yf,(yo 1 [(yu 1)]),yf,(yo 1 [(yu 1)])]),yz,yz,yz,yz,yf]))⟩,
 ⟨73,[(.v (.one yz)),(.v (.one yz))],(.v (.one yt))⟩,
 ⟨238,[(.v (.one (yo 1 [(yu 1)])))],(.v (.one (yo 1 [(yu 1)])))⟩,
 ⟨234,[(.v (.agg [yt,(yo 1 [(yu 1)])]))],(.v (.one (yi (-1))))⟩,
 ⟨234,[(.v (.agg [yf,(yo 1 [(yu 1)])]))],(.v (.one (yi 1)))⟩,
 ⟨32,[(.v (.agg [yz,(yo 4 [yt,(yo 1 [(yu 1)]),yf,(yo 1 [(yu 1)])])])),(.v (.agg [yz,(yo 4 [yf,(yo 1 [(yu 1)]),yf,(yo 1 [(yu 1)])])]))],(.v (.one yf))⟩,
 ⟨238,[(.v (.one (yo 1 [])))],(.v (.one (yo 1 [])))⟩,
 ⟨234,[(.v (.agg [yf,(yo 1 [])]))],(.v (.one (yi 0)))⟩,
 ⟨239,[(.v (.one (yo 1 []))),(.v (.one (yo 1 [(yu 1)])))],(.v (.one yz))⟩,
 ⟨238,[(.v (.one yz))],(.v (.one yz))⟩,
 ⟨219,[(.v (.one yf)),(.v (.one yz))],(.v (.agg [yf,yz]))⟩,
 ⟨234,[(.v (.agg [yf,yz]))],(.v (.one (yi 0)))⟩,
 ⟨32,[(.v (.agg [yz,(yo 4 [yf,(yo 1 []),yf,(yo 1 [(yu 1)])])])),(.v (.agg [yz,(yo 4 [yf,(yo 1 []),yf,(yo 1 [(yu 1)])])]))],(.v (.one yt))⟩,
 ⟨79,[(.v (.one yz)),(.v (.one (yo 4 [yt,(yo 1 [(yu 1)]),yf,(yo 1 [(yu 1)])])))],(.v (.one (yo 4 [yt,(yo 1 [(yu 1)]),yf,(yo 1 [(yu 1)])])))⟩,
 ⟨130,[(.v (.agg [yz,(yo 4 [yt,(yo 1 [(yu 1)]),yf,(yo 1 [(yu 1)])])]))],(.v (.agg [yz,(yo 4 [yt,(yo 1 [(yu 1)]),yf,(yo 1 [(yu 1)])])]))⟩,
 ⟨79,[(.v (.one yz)),(.v (.one (yo 4 [yf,(yo 1 [(yu 1)]),yf,(yo 1 [(yu 1)])])))],(.v (.one (yo 4 [yf,(yo 1 [(yu 1)]),yf,(yo 1 [(yu 1)])])))⟩,
 ⟨130,[(.v (.agg [yz,(yo 4 [yf,(yo 1 [(yu 1)]),yf,(yo 1 [(yu 1)])])]))],(.v (.agg [yz,(yo 4 [yf,(yo 1 [(yu 1)]),yf,(yo 1 [(yu 1)])])]))⟩,
 ⟨220,[(.v (.one (yk .u64 1)))],(.v (.one (yo 1 [(yu 1)])))⟩,
 ⟨219,[(.v (.one yf)),(.v (.one (yo 1 [(yu 1)])))],(.v (.agg [yf,(yo 1 [(yu 1)])]))⟩,
 ⟨290,[(.v (.agg [yf,(yo 1 [(yu 1)])]))],(.v (.one yt))⟩,
 ⟨249,[(.v (.one (yo 4 [yt,(yo 1 [(yu 1)]),yf,(yo 1 [(yu 1)])]))),(.v (.one (yi 1)))],(.v (.one yt))⟩,
 ⟨199,[(.v (.one yz)),(.v (.one (yo 4 [yt,(yo 1 [(yu 1)]),yf,(yo 1 [(yu 1)])])))],(.v (.one yt))⟩,
 ⟨249,[(.v (.one (yo 4 [yf,(yo 1 [(yu 1)]),yf,(yo 1 [(yu 1)])]))),(.v (.one (yi 1)))],(.v (.one yt))⟩,
 ⟨251,[(.v (.agg [yf,(yo 1 [(yu 1)]),yf,(yo 1 [(yu 1)])]))],(.v (.agg [yt,(yo 1 [(yu 1)]),yf,(yo 1 [(yu 1)])]))⟩,
 ⟨170,[],(.v (.agg [yf,(yo 1 [(yu 1)])]))⟩,
 ⟨107,[(.v (.agg [yz,(yo 4 [yt,(yo 1 [(yu 1)]),yf,(yo 1 [(yu 1)])])])),(.v (.agg [yz,(yo 4 [yf,(yo 1 [(yu 1)]),yf,(yo 1 [(yu 1)])])]))],(.tup [(.agg [yz,(yo 4 [yt,(yo 1 [(yu 2)]),yf,(yo 1 [(yu 1)])])]),(.one (yi 0))])⟩,
 ⟨238,[(.v (.one (yo 1 [(yu 2)])))],(.v (.one (yo 1 [(yu 2)])))⟩,
 ⟨249,[(.v (.one (yo 4 [yt,(yo 1 [(yu 2)]),yf,(yo 1 [(yu 1)])]))),(.v (.one (yi 1)))],(.v (.one yt))⟩,
 ⟨199,[(.v (.one yz)),(.v (.one (yo 4 [yt,(yo 1 [(yu 2)]),yf,(yo 1 [(yu 1)])])))],(.v (.one yt))⟩,
 ⟨220,[(.v (.one (yk .u64 0)))],(.v (.one (yo 1 [])))⟩,
 ⟨219,[(.v (.one yf)),(.v (.one (yo 1 [])))],(.v (.agg [yf,yz]))⟩,
 ⟨249,[(.v (.one (yo 4 [yf,yz,yf,(yo 1 [(yu 1)])]))),(.v (.one (yi 1)))],(.v (.one yt))⟩,
 ⟨199,[(.v (.one yz)),(.v (.one (yo 4 [yf,yz,yf,(yo 1 [(yu 1)])])))],(.v (.one yt))⟩,
 ⟨200,[(.v (.one yz))],(.v (.one yt))⟩,
 ⟨234,[(.v (.agg [yt,(yo 1 [(yu 2)])]))],(.v (.one (yi (-1))))⟩,
 ⟨61,[(.v (.agg [yz,(yo 4 [yt,(yo 1 [(yu 2)]),yf,(yo 1 [(yu 1)])])]))],(.v (.one (yi (-1))))⟩,
 ⟨79,[(.v (.one yz)),(.v (.one (yo 4 [yf,(yo 1 []),yf,(yo 1 [(yu 1)])])))],(.v (.one (yo 4 [yf,(yo 1 []),yf,(yo 1 [(yu 1)])])))⟩,
 ⟨130,[(.v (.agg [yz,(yo 4 [yf,(yo 1 []),yf,(yo 1 [(yu 1)])])]))],(.v (.agg [yz,(yo 4 [yf,(yo 1 []),yf,(yo 1 [(yu 1)])])]))⟩,
 ⟨249,[(.v (.one (yo 4 [yf,(yo 1 []),yf,(yo 1 [(yu 1)])]))),(.v (.one (yi 1)))],(.v (.one yt))⟩,
 ⟨199,[(.v (.one yz)),(.v (.one (yo 4 [yf,(yo 1 []),yf,(yo 1 [(yu 1)])])))],(.v (.one yt))⟩,
 ⟨219,[(.v (.one yt)),(.v (.one (yo 1 [])))],(.v (.agg [yf,yz]))⟩,
 ⟨251,[(.v (.agg [yf,(yo 1 []),yf,(yo 1 [(yu 1)])]))],(.v (.agg [yf,yz,yf,(yo 1 [(yu 1)])]))⟩,
 ⟨107,[(.v (.agg [yz,(yo 4 [yf,(yo 1 []),yf,(yo 1 [(yu 1)])])])),(.v (.agg [yz,(yo 4 [yf,(yo 1 []),yf,(yo 1 [(yu 1)])])]))],(.tup [(.agg [yz,(yo 4 [yf,yz,yf,(yo 1 [(yu 1)])])]),(.one (yi 0))])⟩,
 ⟨199,[(.v (.one yz)),(.v (.one (yo 4 [yf,(yo 1 [(yu 1)]),yf,(yo 1 [(yu 1)])])))],(.v (.one yt))⟩,
 ⟨251,[(.v (.agg [yt,(yo 1 [(yu 1)]),yf,(yo 1 [(yu 1)])]))],(.v (.agg [yf,(yo 1 [(yu 1)]),yf,(yo 1 [(yu 1)])]))⟩,
 ⟨107,[(.v (.agg [yz,(yo 4 [yf,(yo 1 [(yu 1)]),yf,(yo 1 [(yu 1)])])])),(.v (.agg [yz,(yo 4 [yt,(yo 1 [(yu 1)]),yf,(yo 1 [(yu 1)])])]))],(.tup [(.agg [yz,(yo 4 [yf,(yo 1 [(yu 2)]),yf,(yo 1 [(yu 1)])])]),(.one (yi 0))])⟩,
 ⟨55,[(.v (.agg [yz,(yo 4 [yf,(yo 1 []),yf,(yo 1 [(yu 1)])]),yz,(yo 4 [yf,(yo 1 [(yu 1)]),yf,(yo 1 [(yu 1)])])])),(.v (.agg [yz,(yo 4 [yf,(yo 1 []),yf,(yo 1 [(yu 1)])]),yz,(yo 4 [yt,(yo 1 [(yu 1)]),yf,(yo 1 [(yu 1)])])]))],(.tup [(.agg [yz,(yo 4 [yf,yz,yf,(yo 1 [(yu 1)])]),yz,(yo 4 [yf,(yo 1 [(yu 2)]),yf,(yo 1 [(yu 1)])])]),(.one (yi 0))])⟩,
 ⟨130,[(.v (.agg [yz,(yo 4 [yf,yz,yf,(yo 1 [(yu 1)])])]))],(.v (.agg [yz,(yo 4 [yf,yz,yf,(yo 1 [(yu 1)])])]))⟩,
 ⟨219,[(.v (.one yt)),(.v (.one yz))],(.v (.agg [yf,yz]))⟩,
 ⟨251,[(.v (.agg [yf,yz,yf,(yo 1 [(yu 1)])]))],(.v (.agg [yf,yz,yf,(yo 1 [(yu 1)])]))⟩,
 ⟨166,[(.v (.agg [yz,(yo 4 [yf,yz,yf,(yo 1 [(yu 1)])])]))],(.v (.agg [yz,(yo 4 [yf,yz,yf,(yo 1 [(yu 1)])])]))⟩,
 ⟨79,[(.v (.one yz)),(.v (.one (yo 4 [yf,(yo 1 [(yu 2)]),yf,(yo 1 [(yu 1)])])))],(.v (.one (yo 4 [yf,(yo 1 [(yu 2)]),yf,(yo 1 [(yu 1)])])))⟩,
 ⟨130,[(.v (.agg [yz,(yo 4 [yf,(yo 1 [(yu 2)]),yf,(yo 1 [(yu 1)])])]))],(.v (.agg [yz,(yo 4 [yf,(yo 1 [(yu 2)]),yf,(yo 1 [(yu 1)])])]))⟩,
 ⟨249,[(.v (.one (yo 4 [yf,(yo 1 [(yu 2)]),yf,(yo 1 [(yu 1)])]))),(.v (.one (yi 1)))],(.v (.one yt))⟩,
 ⟨239,[(.v (.one (yo 1 []))),(.v (.one (yo 1 [(yu 2)])))],(.v (.one yz))⟩,
 ⟨172,[(.v (.agg [yz,(yo 4 [yf,(yo 1 []),yf,(yo 1 [(yu 1)])])])),(.v (.agg [yz,(yo 4 [yf,(yo 1 [(yu 2)]),yf,(yo 1 [(yu 1)])])]))],(.tup [(.agg [yz,(yo 4 [yf,yz,yf,(yo 1 [(yu 1)])])]),(.one (yi 0))])⟩,
 ⟨79,[(.v (.one yz)),(.v (.one (yo 4 [yf,yz,yf,(yo 1 [(yu 1)])])))],(.v (.one (yo 4 [yf,yz,yf,(yo 1 [(yu 1)])])))⟩,
 ⟨239,[(.v (.one (yo 1 [(yu 1)]))),(.v (.one yz))],(.v (.one yz))⟩,
 ⟨172,[(.v (.agg [yz,(yo 4 [yt,(yo 1 [(yu 1)]),yf,(yo 1 [(yu 1)])])])),(.v (.agg [yz,(yo 4 [yf,yz,yf,(yo 1 [(yu 1)])])]))],(.tup [(.agg [yz,(yo 4 [yf,yz,yf,(yo 1 [(yu 1)])])]),(.one (yi 0))])⟩,
 ⟨173,[(.v (.agg [yz,(yo 4 [yf,yz,yf,(yo 1 [(yu 1)])])])),(.v (.agg [yz,(yo 4 [yf,yz,yf,(yo 1 [(yu 1)])])]))],(.tup [(.agg [yz,(yo 4 [yf,yz,yf,(yo 1 [(yu 1)])])]),(.one (yi 0))])⟩,
 ⟨199,[(.v (.one yz)),(.v (.one (yo 4 [yf,(yo 1 [(yu 2)]),yf,(yo 1 [(yu 1)])])))],(.v (.one yt))⟩,
 ⟨234,[(.v (.agg [yf,(yo 1 [(yu 2)])]))],(.v (.one (yi 1)))⟩,
 ⟨61,[(.v (.agg [yz,(yo 4 [yf,(yo 1 [(yu 2)]),yf,(yo 1 [(yu 1)])])]))],(.v (.one (yi 1)))⟩,
 ⟨239,[(.v (.one (yo 1 [(yu 1)]))),(.v (.one (yo 1 [(yu 1)])))],(.v (.one (yo 1 [(yu 1)])))⟩,
 ⟨239,[(.v (.one (yo 1 [(yu 1)]))),(.v (.one (yo 1 [(yu 2)])))],(.v (.one (yo 1 [(yu 2)])))⟩,
 ⟨219,[(.v (.one yf)),(.v (.one (yo 1 [(yu 2)])))],(.v (.agg [yf,(yo 1 [(yu 2)])]))⟩,
 ⟨338,[(.v (.one yz)),(.v (.one (yo 4 [yf,(yo 1 [(yu 2)]),yf,(yo 1 [(yu 1)])])))],(.tup [(.one (yo 4 [yf,(yo 1 [(yu 1)]),yf,(yo 1 [(yu 2)])])),(.one yt)])⟩,
 ⟨79,[(.v (.one yz)),(.v (.one (yo 4 [yf,(yo 1 [(yu 1)]),yf,(yo 1 [(yu 2)])])))],(.v (.one (yo 4 [yf,(yo 1 [(yu 1)]),yf,(yo 1 [(yu 2)])])))⟩,
 ⟨130,[(.v (.agg [yz,(yo 4 [yf,(yo 1 [(yu 1)]),yf,(yo 1 [(yu 2)])])]))],(.v (.agg [yz,(yo 4 [yf,(yo 1 [(yu 1)]),yf,(yo 1 [(yu 2)])])]))⟩,
 ⟨249,[(.v (.one (yo 4 [yf,(yo 1 [(yu 1)]),yf,(yo 1 [(yu 2)])]))),(.v (.one (yi 1)))],(.v (.one yt))⟩,
 ⟨290,[(.v (.agg [yf,(yo 1 [(yu 2)])]))],(.v (.one yf))⟩,
 ⟨239,[(.v (.one (yo 1 [(yu 2)]))),(.v (.one (yo 1 [(yu 1)])))],(.v (.one (yo 1 [(yu 2)])))⟩,
 ⟨220,[(.v (.one (yk .u64 2)))],(.v (.one (yo 1 [(yu 2)])))⟩,
 ⟨354,[(.v (.agg [yf,(yo 1 [(yu 2)])])),(.v (.agg [yf,(yo 1 [(yu 2)])]))],(.tup [(.agg [yf,(yo 1 [(yu 1)])]),(.agg [yf,yz]),(.one (yi 0))])⟩,
 ⟨172,[(.v (.agg [yz,(yo 4 [yf,(yo 1 [(yu 2)]),yf,(yo 1 [(yu 1)])])])),(.v (.agg [yz,(yo 4 [yf,(yo 1 [(yu 1)]),yf,(yo 1 [(yu 2)])])]))],(.tup [(.agg [yz,(yo 4 [yf,(yo 1 [(yu 1)]),yf,(yo 1 [(yu 1)])])]),(.one (yi 0))])⟩,
 ⟨239,[(.v (.one yz)),(.v (.one (yo 1 [(yu 1)])))],(.v (.one yz))⟩,
 ⟨354,[(.v (.agg [yf,yz])),(.v (.agg [yf,(yo 1 [(yu 2)])]))],(.tup [(.agg [yf,yz]),(.agg [yf,yz]),(.one (yi 0))])⟩,
 ⟨172,[(.v (.agg [yz,(yo 4 [yf,yz,yf,(yo 1 [(yu 1)])])])),(.v (.agg [yz,(yo 4 [yf,(yo 1 [(yu 1)]),yf,(yo 1 [(yu 2)])])]))],(.tup [(.agg [yz,(yo 4 [yf,yz,yf,(yo 1 [(yu 1)])])]),(.one (yi 0))])⟩,
 ⟨55,[(.v (.agg [yz,(yo 4 [yf,(yo 1 [(yu 1)]),yf,(yo 1 [(yu 1)])]),yz,(yo 4 [yf,(yo 1 []),yf,(yo 1 [(yu 1)])])])),(.v (.agg [yz,(yo 4 [yt,(yo 1 [(yu 1)]),yf,(yo 1 [(yu 1)])]),yz,(yo 4 [yf,(yo 1 []),yf,(yo 1 [(yu 1)])])]))],(.tup [(.agg [yz,(yo 4 [yf,(yo 1 [(yu 2)]),yf,(yo 1 [(yu 1)])]),yz,(yo 4 [yf,yz,yf,(yo 1 [(yu 1)])])]),(.one (yi 0))])⟩,
 ⟨251,[(.v (.agg [yf,(yo 1 [(yu 2)]),yf,(yo 1 [(yu 1)])]))],(.v (.agg [yt,(yo 1 [(yu 2)]),yf,(yo 1 [(yu 1)])]))⟩,
 ⟨166,[(.v (.agg [yz,(yo 4 [yf,(yo 1 [(yu 2)]),yf,(yo 1 [(yu 1)])])]))],(.v (.agg [yz,(yo 4 [yt,(yo 1 [(yu 2)]),yf,(yo 1 [(yu 1)])])]))⟩,
 ⟨79,[(.v (.one yz)),(.v (.one (yo 4 [yt,(yo 1 [(yu 2)]),yf,(yo 1 [(yu 1)])])))],(.v (.one (yo 4 [yt,(yo 1 [(yu 2)]),yf,(yo 1 [(yu 1)])])))⟩,
 ⟨130,[(.v (.agg [yz,(yo 4 [yt,(yo 1 [(yu 2)]),yf,(yo 1 [(yu 1)])])]))],(.v (.agg [yz,(yo 4 [yt,(yo 1 [(yu 2)]),yf,(yo 1 [(yu 1)])])]))⟩,
 ⟨172,[(.v (.agg [yz,(yo 4 [yf,(yo 1 []),yf,(yo 1 [(yu 1)])])])),(.v (.agg [yz,(yo 4 [yt,(yo 1 [(yu 2)]),yf,(yo 1 [(yu 1)])])]))],(.tup [(.agg [yz,(yo 4 [yf,yz,yf,(yo 1 [(yu 1)])])]),(.one (yi 0))])⟩,
 ⟨61,[(.v (.agg [yz,(yo 4 [yf,yz,yf,(yo 1 [(yu 1)])])]))],(.v (.one (yi 0)))⟩,
 ⟨219,[(.v (.one yt)),(.v (.one (yo 1 [(yu 2)])))],(.v (.agg [yt,(yo 1 [(yu 2)])]))⟩,
 ⟨290,[(.v (.agg [yt,(yo 1 [(yu 1)])]))],(.v (.one yf))⟩,
 ⟨219,[(.v (.one yt)),(.v (.one (yo 1 [(yu 1)])))],(.v (.agg [yt,(yo 1 [(yu 1)])]))⟩,
 ⟨338,[(.v (.one yz)),(.v (.one (yo 4 [yt,(yo 1 [(yu 2)]),yf,(yo 1 [(yu 1)])])))],(.tup [(.one (yo 4 [yt,(yo 1 [(yu 1)]),yf,(yo 1 [(yu 2)])])),(.one yt)])⟩,
 ⟨79,[(.v (.one yz)),(.v (.one (yo 4 [yt,(yo 1 [(yu 1)]),yf,(yo 1 [(yu 2)])])))],(.v (.one (yo 4 [yt,(yo 1 [(yu 1)]),yf,(yo 1 [(yu 2)])])))⟩,
 ⟨130,[(.v (.agg [yz,(yo 4 [yt,(yo 1 [(yu 1)]),yf,(yo 1 [(yu 2)])])]))],(.v (.agg [yz,(yo 4 [yt,(yo 1 [(yu 1)]),yf,(yo 1 [(yu 2)])])]))⟩,
 ⟨249,[(.v (.one (yo 4 [yt,(yo 1 [(yu 1)]),yf,(yo 1 [(yu 2)])]))),(.v (.one (yi 1)))],(.v (.one yt))⟩,
 ⟨172,[(.v (.agg [yz,(yo 4 [yf,yz,yf,(yo 1 [(yu 1)])])])),(.v (.agg [yz,(yo 4 [yt,(yo 1 [(yu 1)]),yf,(yo 1 [(yu 2)])])]))],(.tup [(.agg [yz,(yo 4 [yf,yz,yf,(yo 1 [(yu 1)])])]),(.one (yi 0))])⟩,
 ⟨172,[(.v (.agg [yz,(yo 4 [yt,(yo 1 [(yu 2)]),yf,(yo 1 [(yu 1)])])])),(.v (.agg [yz,(yo 4 [yt,(yo 1 [(yu 1)]),yf,(yo 1 [(yu 2)])])]))],(.tup [(.agg [yz,(yo 4 [yf,(yo 1 [(yu 1)]),yf,(yo 1 [(yu 1)])])]),(.one (yi 0))])⟩,
 ⟨32,[(.v (.agg [yz,(yo 4 [yf,(yo 1 [(yu 1)]),yf,(yo 1 [(yu 1)])])])),(.v (.agg [yz,(yo 4 [yf,yz,yf,(yo 1 [(yu 1)])])]))],(.v (.one yf))⟩,
 ⟨166,[(.v (.agg [yz,(yo 4 [yf,(yo 1 [(yu 1)]),yf,(yo 1 [(yu 1)])])]))],(.v (.agg [yz,(yo 4 [yt,(yo 1 [(yu 1)]),yf,(yo 1 [(yu 1)])])]))⟩,
 ⟨166,[(.v (.agg [yz,(yo 4 [yt,(yo 1 [(yu 1)]),yf,(yo 1 [(yu 1)])])]))],(.v (.agg [yz,(yo 4 [yf,(yo 1 [(yu 1)]),yf,(yo 1 [(yu 1)])])]))⟩,
 ⟨239,[(.v (.one yz)),(.v (.one yz))],(.v (.one yz))⟩,
 ⟨172,[(.v (.agg [yz,(yo 4 [yf,yz,yf,(yo 1 [(yu 1)])])])),(.v (.agg [yz,(yo 4 [yf,yz,yf,(yo 1 [(yu 1)])])]))],(.tup [(.agg [yz,(yo 4 [yf,yz,yf,(yo 1 [(yu 1)])])]),(.one (yi 0))])⟩,
 ⟨172,[(.v (.agg [yz,(yo 4 [yf,(yo 1 [(yu 1)]),yf,(yo 1 [(yu 1)])])])),(.v (.agg [yz,(yo 4 [yf,(yo 1 [(yu 1)]),yf,(yo 1 [(yu 1)])])]))],(.tup [(.agg [yz,(yo 4 [yf,(yo 1 [(yu 1)]),yf,(yo 1 [(yu 1)])])]),(.one (yi 0))])⟩,
 ⟨173,[(.v (.agg [yz,(yo 4 [yf,yz,yf,(yo 1 [(yu 1)])])])),(.v (.agg [yz,(yo 4 [yf,(yo 1 [(yu 1)]),yf,(yo 1 [(yu 1)])])]))],(.tup [(.agg [yz,(yo 4 [yf,(yo 1 [(yu 1)]),yf,(yo 1 [(yu 1)])])]),(.one (yi 0))])⟩,
 ⟨172,[(.v (.agg [yz,(yo 4 [yf,yz,yf,(yo 1 [(yu 1)])])])),(.v (.agg [yz,(yo 4 [yf,(yo 1 [(yu 1)]),yf,(yo 1 [(yu 1)])])]))],(.tup [(.agg [yz,(yo 4 [yf,yz,yf,(yo 1 [(yu 1)])])]),(.one (yi 0))])⟩,
 ⟨172,[(.v (.agg [yz,(yo 4 [yf,(yo 1 [(yu 1)]),yf,(yo 1 [(yu 1)])])])),(.v (.agg [yz,(yo 4 [yf,yz,yf,(yo 1 [(yu 1)])])]))],(.tup [(.agg [yz,(yo 4 [yf,yz,yf,(yo 1 [(yu 1)])])]),(.one (yi 0))])⟩,
 ⟨338,[(.v (.one yz)),(.v (.one (yo 4 [yf,(yo 1 [(yu 1)]),yf,(yo 1 [(yu 1)])])))],(.tup [(.one (yo 4 [yf,(yo 1 [(yu 1)]),yf,(yo 1 [(yu 1)])])),(.one yt)])⟩,
 ⟨32,[(.v (.agg [yz,(yo 4 [yf,(yo 1 []),yf,(yo 1 [(yu 1)])])])),(.v (.agg [yz,(yo 4 [yf,yz,yf,(yo 1 [(yu 1)])])]))],(.v (.one yt))⟩,
 ⟨32,[(.v (.agg [yz,(yo 4 [yt,(yo 1 [(yu 1)]),yf,(yo 1 [(yu 1)])])])),(.v (.agg [yz,(yo 4 [yf,yz,yf,(yo 1 [(yu 1)])])]))],(.v (.one yf))⟩,
 ⟨107,[(.v (.agg [yz,(yo 4 [yf,yz,yf,(yo 1 [(yu 1)])])])),(.v (.agg [yz,(yo 4 [yf,(yo 1 []),yf,(yo 1 [(yu 1)])])]))],(.tup [(.agg [yz,(yo 4 [yf,yz,yf,(yo 1 [(yu 1)])])]),(.one (yi 0))])⟩]
end
noncomputable def tbB:Tbl:=addTs tbA esB
set_option maxRecDepth 100000 in
theorem tbB_ok:TblOk Tryz.prog tbB:=chkT_ok T_ok mixed drX (fuel:=2000) (k:=100) (fz:=20) tbA_ok (by kernel_rfl)
end Go.Proofs.YtcdijplheindaaaGreat
namespace Go.Proofs.YtcdijplheindaaaGreat
open Go Go.Eng Go.Eng.Run
section
noncomputable def esC:List Ent:=[⟨107,[(.v (.agg [yz,(yo 4 [yf,yz,yf,(yo 1 [(yu 1)])])])),(.v (.agg [yz,(yo 4 [yt,(yo 1 [(yu 1)]),yf,(yo 1 [(yu 1)])])]))],(.tup [(.agg [yz,(yo 4 [yf,(yo 1 [(yu 1)]),yf,(yo 1 [(yu 1)])])]),(.one (yi 0))])⟩,
 ⟨55,[(.v (.agg [yz,(yo 4 [yf,yz,yf,(yo 1 [(yu 1)])]),yz,(yo 4 [yf,yz,yf,(yo 1 [(yu 1)])])])),(.v (.agg [yz,(yo 4 [yf,(yo 1 []),yf,(yo 1 [(yu 1)])]),yz,(yo 4 [yt,(yo 1 [(yu 1)]),yf,(yo 1 [(yu 1)])])]))],(.tup [(.agg [yz,(yo 4 [yf,yz,yf,(yo 1 [(yu 1)])]),yz,(yo 4 [yf,(yo 1 [(yu 1)]),yf,(yo 1 [(yu 1)])])]),(.one (yi 0))])⟩,
 ⟨239,[(.v (.one (yo 1 [(yu 2)]))),(.v (.one yz))],(.v (.one yz))⟩,
 ⟨172,[(.v (.agg [yz,(yo 4 [yt,(yo 1 [(yu 2)]),yf,(yo 1 [(yu 1)])])])),(.v (.agg [yz,(yo 4 [yf,yz,yf,(yo 1 [(yu 1)])])]))],(.tup [(.agg [yz,(yo 4 [yf,yz,yf,(yo 1 [(yu 1)])])]),(.one (yi 0))])⟩,
 ⟨85,[(.v (.agg [yz,(yo 4 [yf,(yo 1 []),yf,(yo 1 [(yu 1)])]),yz,(yo 4 [yt,(yo 1 [(yu 1)]),yf,(yo 1 [(yu 1)])])])),(.v (.agg [yz,(yo 4 [yf,(yo 1 []),yf,(yo 1 [(yu 1)])]),yz,(yo 4 [yf,(yo 1 [(yu 1)]),yf,(yo 1 [(yu 1)])])])),(.v (.agg [yz,(yo 4 [yf,yz,yf,(yo 1 [(yu 1)])]),yz,(yo 4 [yf,yz,yf,(yo 1 [(yu 1)])])]))],(.tup [(.one (yi 0)),(.one (yi 0))])⟩,
 ⟨107,[(.v (.agg [yz,(yo 4 [yf,(yo 1 []),yf,(yo 1 [(yu 1)])])])),(.v (.agg [yz,(yo 4 [yf,yz,yf,(yo 1 [(yu 1)])])]))],(.tup [(.agg [yz,(yo 4 [yf,yz,yf,(yo 1 [(yu 1)])])]),(.one (yi 0))])⟩,
 ⟨336,[(.v (.one (yo 1 [(yu 1)]))),(.v (.one yz))],(.v (.one (yo 1 [(yu 1)])))⟩,
 ⟨107,[(.v (.agg [yz,(yo 4 [yt,(yo 1 [(yu 1)]),yf,(yo 1 [(yu 1)])])])),(.v (.agg [yz,(yo 4 [yf,yz,yf,(yo 1 [(yu 1)])])]))],(.tup [(.agg [yz,(yo 4 [yt,(yo 1 [(yu 1)]),yf,(yo 1 [(yu 1)])])]),(.one (yi 0))])⟩,
 ⟨55,[(.v (.agg [yz,(yo 4 [yf,(yo 1 []),yf,(yo 1 [(yu 1)])]),yz,(yo 4 [yt,(yo 1 [(yu 1)]),yf,(yo 1 [(yu 1)])])])),(.v (.agg [yz,(yo 4 [yf,yz,yf,(yo 1 [(yu 1)])]),yz,(yo 4 [yf,yz,yf,(yo 1 [(yu 1)])])]))],(.tup [(.agg [yz,(yo 4 [yf,yz,yf,(yo 1 [(yu 1)])]),yz,(yo 4 [yt,(yo 1 [(yu 1)]),yf,(yo 1 [(yu 1)])])]),(.one (yi 0))])⟩,
 ⟨107,[(.v (.agg [yz,(yo 4 [yf,(yo 1 [(yu 1)]),yf,(yo 1 [(yu 1)])])])),(.v (.agg [yz,(yo 4 [yf,yz,yf,(yo 1 [(yu 1)])])]))],(.tup [(.agg [yz,(yo 4 [yf,(yo 1 [(yu 1)]),yf,(yo 1 [(yu 1)])])]),(.one (yi 0))])⟩,
 ⟨55,[(.v (.agg [yz,(yo 4 [yf,(yo 1 []),yf,(yo 1 [(yu 1)])]),yz,(yo 4 [yf,(yo 1 [(yu 1)]),yf,(yo 1 [(yu 1)])])])),(.v (.agg [yz,(yo 4 [yf,yz,yf,(yo 1 [(yu 1)])]),yz,(yo 4 [yf,yz,yf,(yo 1 [(yu 1)])])]))],(.tup [(.agg [yz,(yo 4 [yf,yz,yf,(yo 1 [(yu 1)])]),yz,(yo 4 [yf,(yo 1 [(yu 1)]),yf,(yo 1 [(yu 1)])])]),(.one (yi 0))])⟩,
 ⟨172,[(.v (.agg [yz,(yo 4 [yt,(yo 1 [(yu 1)]),yf,(yo 1 [(yu 1)])])])),(.v (.agg [yz,(yo 4 [yf,(yo 1 [(yu 1)]),yf,(yo 1 [(yu 1)])])]))],(.tup [(.agg [yz,(yo 4 [yt,(yo 1 [(yu 1)]),yf,(yo 1 [(yu 1)])])]),(.one (yi 0))])⟩,
 ⟨173,[(.v (.agg [yz,(yo 4 [yf,yz,yf,(yo 1 [(yu 1)])])])),(.v (.agg [yz,(yo 4 [yt,(yo 1 [(yu 1)]),yf,(yo 1 [(yu 1)])])]))],(.tup [(.agg [yz,(yo 4 [yt,(yo 1 [(yu 1)]),yf,(yo 1 [(yu 1)])])]),(.one (yi 0))])⟩,
 ⟨61,[(.v (.agg [yz,(yo 4 [yt,(yo 1 [(yu 1)]),yf,(yo 1 [(yu 1)])])]))],(.v (.one (yi (-1))))⟩,
 ⟨86,[(.v (.agg [yz,(yo 4 [yf,(yo 1 []),yf,(yo 1 [(yu 1)])]),yz,(yo 4 [yt,(yo 1 [(yu 1)]),yf,(yo 1 [(yu 1)])])])),(.v (.agg [yz,(yo 4 [yf,(yo 1 []),yf,(yo 1 [(yu 1)])]),yz,(yo 4 [yf,(yo 1 [(yu 1)]),yf,(yo 1 [(yu 1)])])])),(.v (.agg [yz,(yo 4 [yf,yz,yf,(yo 1 [(yu 1)])]),yz,(yo 4 [yf,yz,yf,(yo 1 [(yu 1)])])]))],(.v (.one yt))⟩,
 ⟨55,[(.v (.agg [yz,(yo 4 [yf,yz,yf,(yo 1 [(yu 1)])]),yz,(yo 4 [yf,yz,yf,(yo 1 [(yu 1)])])])),(.v (.agg [yz,(yo 4 [yt,(yo 1 [(yu 1)]),yf,(yo 1 [(yu 1)])]),yz,(yo 4 [yf,(yo 1 []),yf,(yo 1 [(yu 1)])])]))],(.tup [(.agg [yz,(yo 4 [yf,(yo 1 [(yu 1)]),yf,(yo 1 [(yu 1)])]),yz,(yo 4 [yf,yz,yf,(yo 1 [(yu 1)])])]),(.one (yi 0))])⟩,
 ⟨251,[(.v (.agg [yt,(yo 1 [(yu 2)]),yf,(yo 1 [(yu 1)])]))],(.v (.agg [yf,(yo 1 [(yu 2)]),yf,(yo 1 [(yu 1)])]))⟩,
 ⟨166,[(.v (.agg [yz,(yo 4 [yt,(yo 1 [(yu 2)]),yf,(yo 1 [(yu 1)])])]))],(.v (.agg [yz,(yo 4 [yf,(yo 1 [(yu 2)]),yf,(yo 1 [(yu 1)])])]))⟩,
 ⟨172,[(.v (.agg [yz,(yo 4 [yf,(yo 1 [(yu 2)]),yf,(yo 1 [(yu 1)])])])),(.v (.agg [yz,(yo 4 [yf,yz,yf,(yo 1 [(yu 1)])])]))],(.tup [(.agg [yz,(yo 4 [yf,yz,yf,(yo 1 [(yu 1)])])]),(.one (yi 0))])⟩,
 ⟨85,[(.v (.agg [yz,(yo 4 [yt,(yo 1 [(yu 1)]),yf,(yo 1 [(yu 1)])]),yz,(yo 4 [yf,(yo 1 []),yf,(yo 1 [(yu 1)])])])),(.v (.agg [yz,(yo 4 [yf,(yo 1 [(yu 1)]),yf,(yo 1 [(yu 1)])]),yz,(yo 4 [yf,(yo 1 []),yf,(yo 1 [(yu 1)])])])),(.v (.agg [yz,(yo 4 [yf,yz,yf,(yo 1 [(yu 1)])]),yz,(yo 4 [yf,yz,yf,(yo 1 [(yu 1)])])]))],(.tup [(.one (yi 0)),(.one (yi 0))])⟩,
 ⟨55,[(.v (.agg [yz,(yo 4 [yt,(yo 1 [(yu 1)]),yf,(yo 1 [(yu 1)])]),yz,(yo 4 [yf,(yo 1 []),yf,(yo 1 [(yu 1)])])])),(.v (.agg [yz,(yo 4 [yf,yz,yf,(yo 1 [(yu 1)])]),yz,(yo 4 [yf,yz,yf,(yo 1 [(yu 1)])])]))],(.tup [(.agg [yz,(yo 4 [yt,(yo 1 [(yu 1)]),yf,(yo 1 [(yu 1)])]),yz,(yo 4 [yf,yz,yf,(yo 1 [(yu 1)])])]),(.one (yi 0))])⟩,
 ⟨55,[(.v (.agg [yz,(yo 4 [yf,(yo 1 [(yu 1)]),yf,(yo 1 [(yu 1)])]),yz,(yo 4 [yf,(yo 1 []),yf,(yo 1 [(yu 1)])])])),(.v (.agg [yz,(yo 4 [yf,yz,yf,(yo 1 [(yu 1)])]),yz,(yo 4 [yf,yz,yf,(yo 1 [(yu 1)])])]))],(.tup [(.agg [yz,(yo 4 [yf,(yo 1 [(yu 1)]),yf,(yo 1 [(yu 1)])]),yz,(yo 4 [yf,yz,yf,(yo 1 [(yu 1)])])]),(.one (yi 0))])⟩,
 ⟨173,[(.v (.agg [yz,(yo 4 [yt,(yo 1 [(yu 1)]),yf,(yo 1 [(yu 1)])])])),(.v (.agg [yz,(yo 4 [yf,yz,yf,(yo 1 [(yu 1)])])]))],(.tup [(.agg [yz,(yo 4 [yt,(yo 1 [(yu 1)]),yf,(yo 1 [(yu 1)])])]),(.one (yi 0))])⟩,
 ⟨86,[(.v (.agg [yz,(yo 4 [yt,(yo 1 [(yu 1)]),yf,(yo 1 [(yu 1)])]),yz,(yo 4 [yf,(yo 1 []),yf,(yo 1 [(yu 1)])])])),(.v (.agg [yz,(yo 4 [yf,(yo 1 [(yu 1)]),yf,(yo 1 [(yu 1)])]),yz,(yo 4 [yf,(yo 1 []),yf,(yo 1 [(yu 1)])])])),(.v (.agg [yz,(yo 4 [yf,yz,yf,(yo 1 [(yu 1)])]),yz,(yo 4 [yf,yz,yf,(yo 1 [(yu 1)])])]))],(.v (.one yt))⟩,
 ⟨107,[(.v (.agg [yz,(yo 4 [yt,(yo 1 [(yu 1)]),yf,(yo 1 [(yu 1)])])])),(.v (.agg [yz,(yo 4 [yf,(yo 1 []),yf,(yo 1 [(yu 1)])])]))],(.tup [(.agg [yz,(yo 4 [yt,(yo 1 [(yu 1)]),yf,(yo 1 [(yu 1)])])]),(.one (yi 0))])⟩,
 ⟨107,[(.v (.agg [yz,(yo 4 [yf,(yo 1 [(yu 1)]),yf,(yo 1 [(yu 1)])])])),(.v (.agg [yz,(yo 4 [yf,(yo 1 []),yf,(yo 1 [(yu 1)])])]))],(.tup [(.agg [yz,(yo 4 [yf,(yo 1 [(yu 1)]),yf,(yo 1 [(yu 1)])])]),(.one (yi 0))])⟩,
 ⟨61,[(.v (.agg [yz,(yo 4 [yf,(yo 1 [(yu 1)]),yf,(yo 1 [(yu 1)])])]))],(.v (.one (yi 1)))⟩,
 ⟨32,[(.v (.agg [yz,(yo 4 [yt,(yo 1 [(yu 1)]),yf,(yo 1 [(yu 1)])])])),(.v (.agg [yz,(yo 4 [yt,(yo 1 [(yu 1)]),yf,(yo 1 [(yu 1)])])]))],(.v (.one yt))⟩,
 ⟨32,[(.v (.agg [yz,(yo 4 [yt,(yo 1 [(yu 1)]),yf,(yo 1 [(yu 1)])])])),(.v (.agg [yz,(yo 4 [yf,(yo 1 []),yf,(yo 1 [(yu 1)])])]))],(.v (.one yf))⟩,
 ⟨32,[(.v (.agg [yz,(yo 4 [yf,(yo 1 [(yu 1)]),yf,(yo 1 [(yu 1)])])])),(.v (.agg [yz,(yo 4 [yf,(yo 1 []),yf,(yo 1 [(yu 1)])])]))],(.v (.one yf))⟩,
 ⟨107,[(.v (.agg [yz,(yo 4 [yf,(yo 1 []),yf,(yo 1 [(yu 1)])])])),(.v (.agg [yz,(yo 4 [yt,(yo 1 [(yu 1)]),yf,(yo 1 [(yu 1)])])]))],(.tup [(.agg [yz,(yo 4 [yf,(yo 1 [(yu 1)]),yf,(yo 1 [(yu 1)])])]),(.one (yi 0))])⟩,
 ⟨55,[(.v (.agg [yz,(yo 4 [yf,(yo 1 []),yf,(yo 1 [(yu 1)])]),yz,(yo 4 [yt,(yo 1 [(yu 1)]),yf,(yo 1 [(yu 1)])])])),(.v (.agg [yz,(yo 4 [yt,(yo 1 [(yu 1)]),yf,(yo 1 [(yu 1)])]),yz,(yo 4 [yf,(yo 1 []),yf,(yo 1 [(yu 1)])])]))],(.tup [(.agg [yz,(yo 4 [yf,(yo 1 [(yu 1)]),yf,(yo 1 [(yu 1)])]),yz,(yo 4 [yt,(yo 1 [(yu 1)]),yf,(yo 1 [(yu 1)])])]),(.one (yi 0))])⟩,
 ⟨172,[(.v (.agg [yz,(yo 4 [yf,(yo 1 [(yu 2)]),yf,(yo 1 [(yu 1)])])])),(.v (.agg [yz,(yo 4 [yt,(yo 1 [(yu 1)]),yf,(yo 1 [(yu 1)])])]))],(.tup [(.agg [yz,(yo 4 [yt,(yo 1 [(yu 2)]),yf,(yo 1 [(yu 1)])])]),(.one (yi 0))])⟩,
 ⟨336,[(.v (.one (yo 1 [(yu 2)]))),(.v (.one yz))],(.v (.one (yo 1 [(yu 2)])))⟩,
 ⟨173,[(.v (.agg [yz,(yo 4 [yf,yz,yf,(yo 1 [(yu 1)])])])),(.v (.agg [yz,(yo 4 [yt,(yo 1 [(yu 2)]),yf,(yo 1 [(yu 1)])])]))],(.tup [(.agg [yz,(yo 4 [yt,(yo 1 [(yu 2)]),yf,(yo 1 [(yu 1)])])]),(.one (yi 0))])⟩,
 ⟨85,[(.v (.agg [yz,(yo 4 [yt,(yo 1 [(yu 1)]),yf,(yo 1 [(yu 1)])]),yz,(yo 4 [yf,(yo 1 []),yf,(yo 1 [(yu 1)])])])),(.v (.agg [yz,(yo 4 [yf,(yo 1 [(yu 1)]),yf,(yo 1 [(yu 1)])]),yz,(yo 4 [yf,(yo 1 []),yf,(yo 1 [(yu 1)])])])),(.v (.agg [yz,(yo 4 [yf,(yo 1 []),yf,(yo 1 [(yu 1)])]),yz,(yo 4 [yt,(yo 1 [(yu 1)]),yf,(yo 1 [(yu 1)])])]))],(.tup [(.one (yi (-1))),(.one (yi 0))])⟩,
 ⟨55,[(.v (.agg [yz,(yo 4 [yf,(yo 1 []),yf,(yo 1 [(yu 1)])]),yz,(yo 4 [yf,(yo 1 [(yu 1)]),yf,(yo 1 [(yu 1)])])])),(.v (.agg [yz,(yo 4 [yt,(yo 1 [(yu 1)]),yf,(yo 1 [(yu 1)])]),yz,(yo 4 [yf,(yo 1 []),yf,(yo 1 [(yu 1)])])]))],(.tup [(.agg [yz,(yo 4 [yf,(yo 1 [(yu 1)]),yf,(yo 1 [(yu 1)])]),yz,(yo 4 [yf,(yo 1 [(yu 1)]),yf,(yo 1 [(yu 1)])])]),(.one (yi 0))])⟩,
 ⟨172,[(.v (.agg [yz,(yo 4 [yf,(yo 1 [(yu 2)]),yf,(yo 1 [(yu 1)])])])),(.v (.agg [yz,(yo 4 [yf,(yo 1 [(yu 1)]),yf,(yo 1 [(yu 1)])])]))],(.tup [(.agg [yz,(yo 4 [yf,(yo 1 [(yu 2)]),yf,(yo 1 [(yu 1)])])]),(.one (yi 0))])⟩,
 ⟨173,[(.v (.agg [yz,(yo 4 [yf,yz,yf,(yo 1 [(yu 1)])])])),(.v (.agg [yz,(yo 4 [yf,(yo 1 [(yu 2)]),yf,(yo 1 [(yu 1)])])]))],(.tup [(.agg [yz,(yo 4 [yf,(yo 1 [(yu 2)]),yf,(yo 1 [(yu 1)])])]),(.one (yi 0))])⟩,
 ⟨85,[(.v (.agg [yz,(yo 4 [yt,(yo 1 [(yu 1)]),yf,(yo 1 [(yu 1)])]),yz,(yo 4 [yf,(yo 1 []),yf,(yo 1 [(yu 1)])])])),(.v (.agg [yz,(yo 4 [yf,(yo 1 [(yu 1)]),yf,(yo 1 [(yu 1)])]),yz,(yo 4 [yf,(yo 1 []),yf,(yo 1 [(yu 1)])])])),(.v (.agg [yz,(yo 4 [yf,(yo 1 []),yf,(yo 1 [(yu 1)])]),yz,(yo 4 [yf,(yo 1 [(yu 1)]),yf,(yo 1 [(yu 1)])])]))],(.tup [(.one (yi 1)),(.one (yi 0))])⟩,
 ⟨32,[(.v (.agg [yz,(yo 4 [yf,(yo 1 [(yu 1)]),yf,(yo 1 [(yu 1)])])])),(.v (.agg [yz,(yo 4 [yf,(yo 1 [(yu 1)]),yf,(yo 1 [(yu 1)])])]))],(.v (.one yt))⟩,
 ⟨32,[(.v (.agg [yz,(yo 4 [yf,yz,yf,(yo 1 [(yu 1)])])])),(.v (.agg [yz,(yo 4 [yt,(yo 1 [(yu 1)]),yf,(yo 1 [(yu 1)])])]))],(.v (.one yf))⟩,
 ⟨32,[(.v (.agg [yz,(yo 4 [yf,yz,yf,(yo 1 [(yu 1)])])])),(.v (.agg [yz,(yo 4 [yf,(yo 1 [(yu 1)]),yf,(yo 1 [(yu 1)])])]))],(.v (.one yf))⟩,
 ⟨32,[(.v (.agg [yz,(yo 4 [yf,(yo 1 [(yu 1)]),yf,(yo 1 [(yu 1)])])])),(.v (.agg [yz,(yo 4 [yt,(yo 1 [(yu 1)]),yf,(yo 1 [(yu 1)])])]))],(.v (.one yf))⟩,
 ⟨32,[(.v (.agg [yz,(yo 4 [yf,yz,yf,(yo 1 [(yu 1)])])])),(.v (.agg [yz,(yo 4 [yf,yz,yf,(yo 1 [(yu 1)])])]))],(.v (.one yt))⟩,
 ⟨32,[(.v (.agg [yz,(yo 4 [yf,(yo 1 []),yf,(yo 1 [(yu 1)])])])),(.v (.agg [yz,(yo 4 [yf,(yo 1 [(yu 1)]),yf,(yo 1 [(yu 1)])])]))],(.v (.one yf))⟩,
 ⟨32,[(.v (.agg [yz,(yo 4 [yf,(yo 1 []),yf,(yo 1 [(yu 1)])])])),(.v (.agg [yz,(yo 4 [yt,(yo 1 [(yu 1)]),yf,(yo 1 [(yu 1)])])]))],(.v (.one yf))⟩,
 ⟨55,[(.v (.agg [yz,(yo 4 [yt,(yo 1 [(yu 1)]),yf,(yo 1 [(yu 1)])]),yz,(yo 4 [yf,(yo 1 []),yf,(yo 1 [(yu 1)])])])),(.v (.agg [yz,(yo 4 [yf,(yo 1 []),yf,(yo 1 [(yu 1)])]),yz,(yo 4 [yt,(yo 1 [(yu 1)]),yf,(yo 1 [(yu 1)])])]))],(.tup [(.agg [yz,(yo 4 [yt,(yo 1 [(yu 1)]),yf,(yo 1 [(yu 1)])]),yz,(yo 4 [yf,(yo 1 [(yu 1)]),yf,(yo 1 [(yu 1)])])]),(.one (yi 0))])⟩,
 ⟨172,[(.v (.agg [yz,(yo 4 [yt,(yo 1 [(yu 2)]),yf,(yo 1 [(yu 1)])])])),(.v (.agg [yz,(yo 4 [yt,(yo 1 [(yu 1)]),yf,(yo 1 [(yu 1)])])]))],(.tup [(.agg [yz,(yo 4 [yf,(yo 1 [(yu 2)]),yf,(yo 1 [(yu 1)])])]),(.one (yi 0))])⟩,
 ⟨173,[(.v (.agg [yz,(yo 4 [yf,(yo 1 [(yu 2)]),yf,(yo 1 [(yu 1)])])])),(.v (.agg [yz,(yo 4 [yf,yz,yf,(yo 1 [(yu 1)])])]))],(.tup [(.agg [yz,(yo 4 [yf,(yo 1 [(yu 2)]),yf,(yo 1 [(yu 1)])])]),(.one (yi 0))])⟩,
 ⟨85,[(.v (.agg [yz,(yo 4 [yf,(yo 1 []),yf,(yo 1 [(yu 1)])]),yz,(yo 4 [yt,(yo 1 [(yu 1)]),yf,(yo 1 [(yu 1)])])])),(.v (.agg [yz,(yo 4 [yf,(yo 1 []),yf,(yo 1 [(yu 1)])]),yz,(yo 4 [yf,(yo 1 [(yu 1)]),yf,(yo 1 [(yu 1)])])])),(.v (.agg [yz,(yo 4 [yt,(yo 1 [(yu 1)]),yf,(yo 1 [(yu 1)])]),yz,(yo 4 [yf,(yo 1 []),yf,(yo 1 [(yu 1)])])]))],(.tup [(.one (yi 1)),(.one (yi 0))])⟩,
 ⟨55,[(.v (.agg [yz,(yo 4 [yf,(yo 1 [(yu 1)]),yf,(yo 1 [(yu 1)])]),yz,(yo 4 [yf,(yo 1 []),yf,(yo 1 [(yu 1)])])])),(.v (.agg [yz,(yo 4 [yf,(yo 1 []),yf,(yo 1 [(yu 1)])]),yz,(yo 4 [yt,(yo 1 [(yu 1)]),yf,(yo 1 [(yu 1)])])]))],(.tup [(.agg [yz,(yo 4 [yf,(yo 1 [(yu 1)]),yf,(yo 1 [(yu 1)])]),yz,(yo 4 [yf,(yo 1 [(yu 1)]),yf,(yo 1 [(yu 1)])])]),(.one (yi 0))])⟩,
 ⟨172,[(.v (.agg [yz,(yo 4 [yt,(yo 1 [(yu 2)]),yf,(yo 1 [(yu 1)])])])),(.v (.agg [yz,(yo 4 [yf,(yo 1 [(yu 1)]),yf,(yo 1 [(yu 1)])])]))],(.tup [(.agg [yz,(yo 4 [yt,(yo 1 [(yu 2)]),yf,(yo 1 [(yu 1)])])]),(.one (yi 0))])⟩,
 ⟨173,[(.v (.agg [yz,(yo 4 [yt,(yo 1 [(yu 2)]),yf,(yo 1 [(yu 1)])])])),(.v (.agg [yz,(yo 4 [yf,yz,yf,(yo 1 [(yu 1)])])]))],(.tup [(.agg [yz,(yo 4 [yt,(yo 1 [(yu 2)]),yf,(yo 1 [(yu 1)])])]),(.one (yi 0))])⟩,
 ⟨85,[(.v (.agg [yz,(yo 4 [yf,(yo 1 []),yf,(yo 1 [(yu 1)])]),yz,(yo 4 [yt,(yo 1 [(yu 1)]),yf,(yo 1 [(yu 1)])])])),(.v (.agg [yz,(yo 4 [yf,(yo 1 []),yf,(yo 1 [(yu 1)])]),yz,(yo 4 [yf,(yo 1 [(yu 1)]),yf,(yo 1 [(yu 1)])])])),(.v (.agg [yz,(yo 4 [yf,(yo 1 [(yu 1)]),yf,(yo 1 [(yu 1)])]),yz,(yo 4 [yf,(yo 1 []),yf,(yo 1 [(yu 1)])])]))],(.tup [(.one (yi (-1))),(.one (yi 0))])⟩,
 ⟨32,[(.v (.agg [yz,(yo 4 [yf,yz,yf,(yo 1 [(yu 1)])])])),(.v (.agg [yz,(yo 4 [yf,(yo 1 []),yf,(yo 1 [(yu 1)])])]))],(.v (.one yt))⟩]
end
noncomputable def tbC:Tbl:=addTs tbB esC
set_option maxRecDepth 100000 in
theorem tbC_ok:TblOk Tryz.prog tbC:=chkT_ok T_ok mixed drX (fuel:=2000) (k:=100) (fz:=20) tbB_ok (by kernel_rfl)
end Go.Proofs.YtcdijplheindaaaGreat
namespace Go.Proofs.YtcdijplheindaaaGreat
open Go Go.Eng Go.Eng.Run
section
noncomputable def esD:List Ent:=[⟨6,[(.v (.one (yo 14 [yf,yz,(yo 4 [yt,(yo 1 [(yu 1)]),yf,(yo 1 [(yu 1)])]),yz,(yo 4 [yf,(yo 1 []),yf,(yo 1 [(yu 1)])]),yz,(yo 4 [yf,(yo 1 [(yu 1)]),yf,(yo 1 [(yu 1)])]),yz,(yo 4 [yf,(yo 1 []),yf,(yo 1 [(yu 1)])]),yz,yz,yz,yz,yf,yf,yz,(yo 4 [yf,(yo 1 []),yf,(yo 1 [(yu 1)])]),yz,(yo 4 [yt,(yo 1 [(yu 1)]),yf,(yo 1 [(yu 1)])]),yz,(yo 4 [yf,(yo 1 []),yf,(yo 1 [(yu 1)])]),yz,(yo 4 [yf,(yo 1 [(yu 1)]),yf,(yo 1 [(yu 1)])]),yz,yz,yz,yz,yf])))],(.tup [(.agg [(yo 4 [yz,(yo 4 [yt,(yo 1 [(yu 1)]),yf,(yo 1 [(yu 1)])]),yz,(yo 4 [yf,(yo 1 []),yf,(yo 1 [(yu 1)])]),yz,(yo 4 [yf,(yo 1 []),yf,(yo 1 [(yu 1)])]),yz,(yo 4 [yt,(yo 1 [(yu 1)]),yf,(yo 1 [(yu 1)])]),yz,(yo 4 [yf,yz,yf,(yo 1 [(yu 1)])]),yz,(yo 4 [yf,yz,yf,(yo 1 [(yu 1)])]),yz,(yo 4 [yf,(yo 1 []),yf,(yo 1 [(yu 1)])]),yz,(yo 4 [yf,(yo 1 [(yu 1)]),yf,(yo 1 [(yu 1)])]),yz,(yo 4 [yf,(yo 1 [(yu 1)]),yf,(yo 1 [(yu 1)])]),yz,(yo 4 [yf,(yo 1 []),yf,(yo 1 [(yu 1)])])]),(yo 17 [(yi 0),(yi 2),yf,yz,(yo 4 [yt,(yo 1 [(yu 1)]),yf,(yo 1 [(yu 1)])]),yz,(yo 4 [yf,(yo 1 []),yf,(yo 1 [(yu 1)])]),yz,(yo 4 [yf,yz,yf,(yo 1 [(yu 1)])]),yz,(yo 4 [yf,yz,yf,(yo 1 [(yu 1)])]),yz,yz,yz,yz,yf,(yo 1 [(yi 0)]),(yi 2),(yi 4),yf,yz,(yo 4 [yf,yz,yf,(yo 1 [(yu 1)])]),yz,(yo 4 [yf,yz,yf,(yo 1 [(yu 1)])]),yz,(yo 4 [yf,(yo 1 [(yu 1)]),yf,(yo 1 [(yu 1)])]),yz,(yo 4 [yf,(yo 1 []),yf,(yo 1 [(yu 1)])]),yz,yz,yz,yz,yf,(yo 1 [(yi 0)]),(yi 1),(yi 2),yf,yz,(yo 4 [yf,(yo 1 []),yf,(yo 1 [(yu 1)])]),yz,(yo 4 [yt,(yo 1 [(yu 1)]),yf,(yo 1 [(yu 1)])]),yz,(yo 4 [yf,yz,yf,(yo 1 [(yu 1)])]),yz,(yo 4 [yf,yz,yf,(yo 1 [(yu 1)])]),yz,yz,yz,yz,yf,(yo 1 [(yi 1)]),(yi 2),(yi 3),yf,yz,(yo 4 [yf,yz,yf,(yo 1 [(yu 1)])]),yz,(yo 4 [yf,yz,yf,(yo 1 [(yu 1)])]),yz,(yo 4 [yf,(yo 1 []),yf,(yo 1 [(yu 1)])]),yz,(yo 4 [yf,(yo 1 [(yu 1)]),yf,(yo 1 [(yu 1)])]),yz,yz,yz,yz,yf,(yo 1 [(yi 1)])])]),(.one (yi 0))])⟩,
 ⟨8,[(.v (.one (yi 1))),(.v (.one (yi 0)))],(.v (.agg [yz,(yo 4 [yf,(yo 1 [(yu 1)]),yf,(yo 1 [(yu 1)])]),yz,(yo 4 [yf,(yo 1 []),yf,(yo 1 [(yu 1)])])]))⟩,
 ⟨8,[(.v (.one (yi 0))),(.v (.one (yi 0)))],(.v (.agg [yz,(yo 4 [yf,(yo 1 []),yf,(yo 1 [(yu 1)])]),yz,(yo 4 [yf,(yo 1 []),yf,(yo 1 [(yu 1)])])]))⟩,
 ⟨173,[(.v (.agg [yz,(yo 4 [yf,(yo 1 [(yu 1)]),yf,(yo 1 [(yu 1)])])])),(.v (.agg [yz,(yo 4 [yf,yz,yf,(yo 1 [(yu 1)])])]))],(.tup [(.agg [yz,(yo 4 [yf,(yo 1 [(yu 1)]),yf,(yo 1 [(yu 1)])])]),(.one (yi 0))])⟩,
 ⟨31,[(.v (.agg [yz,(yo 4 [yf,(yo 1 []),yf,(yo 1 [(yu 1)])]),yz,(yo 4 [yf,(yo 1 []),yf,(yo 1 [(yu 1)])])])),(.v (.agg [yz,(yo 4 [yf,(yo 1 [(yu 1)]),yf,(yo 1 [(yu 1)])]),yz,(yo 4 [yf,(yo 1 []),yf,(yo 1 [(yu 1)])])]))],(.tup [(.agg [yz,(yo 4 [yf,(yo 1 []),yf,(yo 1 [(yu 1)])]),yz,(yo 4 [yf,(yo 1 []),yf,(yo 1 [(yu 1)])]),yz,(yo 4 [yf,(yo 1 [(yu 1)]),yf,(yo 1 [(yu 1)])])]),(.one (yi 0))])⟩,
 ⟨336,[(.v (.one (yo 1 [(yu 1)]))),(.v (.one (yo 1 [(yu 1)])))],(.v (.one (yo 1 [])))⟩,
 ⟨107,[(.v (.agg [yz,(yo 4 [yf,(yo 1 [(yu 1)]),yf,(yo 1 [(yu 1)])])])),(.v (.agg [yz,(yo 4 [yf,(yo 1 [(yu 1)]),yf,(yo 1 [(yu 1)])])]))],(.tup [(.agg [yz,(yo 4 [yf,yz,yf,(yo 1 [(yu 1)])])]),(.one (yi 0))])⟩,
 ⟨92,[(.v (.agg [yz,(yo 4 [yf,(yo 1 []),yf,(yo 1 [(yu 1)])]),yz,(yo 4 [yf,(yo 1 []),yf,(yo 1 [(yu 1)])]),yz,(yo 4 [yf,(yo 1 [(yu 1)]),yf,(yo 1 [(yu 1)])])])),(.v (.agg [yz,(yo 4 [yf,(yo 1 [(yu 1)]),yf,(yo 1 [(yu 1)])]),yz,(yo 4 [yf,(yo 1 []),yf,(yo 1 [(yu 1)])])]))],(.tup [(.agg [yz,(yo 4 [yf,yz,yf,(yo 1 [(yu 1)])])]),(.one (yi 0))])⟩,
 ⟨6,[(.v (.one (yo 14 [yt,yz,(yo 4 [yf,(yo 1 [(yu 1)]),yf,(yo 1 [(yu 1)])]),yz,(yo 4 [yf,(yo 1 []),yf,(yo 1 [(yu 1)])]),yz,(yo 4 [yf,(yo 1 [(yu 1)]),yf,(yo 1 [(yu 1)])]),yz,(yo 4 [yf,(yo 1 []),yf,(yo 1 [(yu 1)])]),yz,(yo 4 [yf,(yo 1 []),yf,(yo 1 [(yu 1)])]),yz,(yo 4 [yf,(yo 1 []),yf,(yo 1 [(yu 1)])]),yf])))],(.tup [(.agg [(yo 4 [yz,(yo 4 [yf,(yo 1 [(yu 1)]),yf,(yo 1 [(yu 1)])]),yz,(yo 4 [yf,(yo 1 []),yf,(yo 1 [(yu 1)])])]),(yo 17 [(yi 0),(yi 0),yt,yz,(yo 4 [yf,(yo 1 [(yu 1)]),yf,(yo 1 [(yu 1)])]),yz,(yo 4 [yf,(yo 1 []),yf,(yo 1 [(yu 1)])]),yz,(yo 4 [yf,(yo 1 [(yu 1)]),yf,(yo 1 [(yu 1)])]),yz,(yo 4 [yf,(yo 1 []),yf,(yo 1 [(yu 1)])]),yz,(yo 4 [yf,(yo 1 []),yf,(yo 1 [(yu 1)])]),yz,(yo 4 [yf,(yo 1 []),yf,(yo 1 [(yu 1)])]),yf,(yo 1 [(yi 0)])])]),(.one (yi 0))])⟩,
 ⟨7,[(.v (.one (yi 0))),(.v (.one (yi 0))),(.v (.one (yi 1))),(.v (.one (yi 0)))],(.v (.agg [yf,yz,(yo 4 [yf,(yo 1 []),yf,(yo 1 [(yu 1)])]),yz,(yo 4 [yf,(yo 1 []),yf,(yo 1 [(yu 1)])]),yz,(yo 4 [yf,(yo 1 [(yu 1)]),yf,(yo 1 [(yu 1)])]),yz,(yo 4 [yf,(yo 1 []),yf,(yo 1 [(yu 1)])]),yz,yz,yz,yz,yf]))⟩,
 ⟨7,[(.v (.one (yi 1))),(.v (.one (yi 0))),(.v (.one (yi 0))),(.v (.one (yi 0)))],(.v (.agg [yf,yz,(yo 4 [yf,(yo 1 [(yu 1)]),yf,(yo 1 [(yu 1)])]),yz,(yo 4 [yf,(yo 1 []),yf,(yo 1 [(yu 1)])]),yz,(yo 4 [yf,(yo 1 []),yf,(yo 1 [(yu 1)])]),yz,(yo 4 [yf,(yo 1 []),yf,(yo 1 [(yu 1)])]),yz,yz,yz,yz,yf]))⟩,
 ⟨336,[(.v (.one (yo 1 [(yu 1)]))),(.v (.one (yo 1 [])))],(.v (.one (yo 1 [(yu 1)])))⟩,
 ⟨107,[(.v (.agg [yz,(yo 4 [yf,(yo 1 []),yf,(yo 1 [(yu 1)])])])),(.v (.agg [yz,(yo 4 [yf,(yo 1 [(yu 1)]),yf,(yo 1 [(yu 1)])])]))],(.tup [(.agg [yz,(yo 4 [yt,(yo 1 [(yu 1)]),yf,(yo 1 [(yu 1)])])]),(.one (yi 0))])⟩,
 ⟨55,[(.v (.agg [yz,(yo 4 [yf,(yo 1 []),yf,(yo 1 [(yu 1)])]),yz,(yo 4 [yf,(yo 1 []),yf,(yo 1 [(yu 1)])])])),(.v (.agg [yz,(yo 4 [yf,(yo 1 [(yu 1)]),yf,(yo 1 [(yu 1)])]),yz,(yo 4 [yf,(yo 1 []),yf,(yo 1 [(yu 1)])])]))],(.tup [(.agg [yz,(yo 4 [yt,(yo 1 [(yu 1)]),yf,(yo 1 [(yu 1)])]),yz,(yo 4 [yf,yz,yf,(yo 1 [(yu 1)])])]),(.one (yi 0))])⟩,
 ⟨172,[(.v (.agg [yz,(yo 4 [yf,(yo 1 []),yf,(yo 1 [(yu 1)])])])),(.v (.agg [yz,(yo 4 [yf,(yo 1 [(yu 1)]),yf,(yo 1 [(yu 1)])])]))],(.tup [(.agg [yz,(yo 4 [yf,yz,yf,(yo 1 [(yu 1)])])]),(.one (yi 0))])⟩,
 ⟨55,[(.v (.agg [yz,(yo 4 [yf,(yo 1 [(yu 1)]),yf,(yo 1 [(yu 1)])]),yz,(yo 4 [yf,(yo 1 []),yf,(yo 1 [(yu 1)])])])),(.v (.agg [yz,(yo 4 [yf,(yo 1 []),yf,(yo 1 [(yu 1)])]),yz,(yo 4 [yf,(yo 1 []),yf,(yo 1 [(yu 1)])])]))],(.tup [(.agg [yz,(yo 4 [yf,(yo 1 [(yu 1)]),yf,(yo 1 [(yu 1)])]),yz,(yo 4 [yf,yz,yf,(yo 1 [(yu 1)])])]),(.one (yi 0))])⟩,
 ⟨239,[(.v (.one (yo 1 []))),(.v (.one yz))],(.v (.one yz))⟩,
 ⟨172,[(.v (.agg [yz,(yo 4 [yf,(yo 1 []),yf,(yo 1 [(yu 1)])])])),(.v (.agg [yz,(yo 4 [yf,yz,yf,(yo 1 [(yu 1)])])]))],(.tup [(.agg [yz,(yo 4 [yf,yz,yf,(yo 1 [(yu 1)])])]),(.one (yi 0))])⟩,
 ⟨172,[(.v (.agg [yz,(yo 4 [yf,(yo 1 []),yf,(yo 1 [(yu 1)])])])),(.v (.agg [yz,(yo 4 [yt,(yo 1 [(yu 1)]),yf,(yo 1 [(yu 1)])])]))],(.tup [(.agg [yz,(yo 4 [yf,yz,yf,(yo 1 [(yu 1)])])]),(.one (yi 0))])⟩,
 ⟨338,[(.v (.one yz)),(.v (.one (yo 4 [yt,(yo 1 [(yu 1)]),yf,(yo 1 [(yu 1)])])))],(.tup [(.one (yo 4 [yt,(yo 1 [(yu 1)]),yf,(yo 1 [(yu 1)])])),(.one yt)])⟩,
 ⟨172,[(.v (.agg [yz,(yo 4 [yf,yz,yf,(yo 1 [(yu 1)])])])),(.v (.agg [yz,(yo 4 [yt,(yo 1 [(yu 1)]),yf,(yo 1 [(yu 1)])])]))],(.tup [(.agg [yz,(yo 4 [yf,yz,yf,(yo 1 [(yu 1)])])]),(.one (yi 0))])⟩,
 ⟨172,[(.v (.agg [yz,(yo 4 [yt,(yo 1 [(yu 1)]),yf,(yo 1 [(yu 1)])])])),(.v (.agg [yz,(yo 4 [yt,(yo 1 [(yu 1)]),yf,(yo 1 [(yu 1)])])]))],(.tup [(.agg [yz,(yo 4 [yf,(yo 1 [(yu 1)]),yf,(yo 1 [(yu 1)])])]),(.one (yi 0))])⟩]
end
noncomputable def tbD:Tbl:=addTs tbC esD
set_option maxRecDepth 100000 in
theorem tbD_ok:TblOk Tryz.prog tbD:=chkT_ok T_ok mixed drX (fuel:=2000) (k:=100) (fz:=20) tbC_ok (by kernel_rfl)
end Go.Proofs.YtcdijplheindaaaGreat
namespace Go.Proofs.YtcdijplheindaaaGreat
open Go Go.Eng Go.Eng.Run
section
noncomputable def esE:List Ent:=[⟨55,[(.v (.agg [yz,(yo 4 [yf,(yo 1 []),yf,(yo 1 [(yu 1)])]),yz,(yo 4 [yf,(yo 1 []),yf,(yo 1 [(yu 1)])])])),(.v (.agg [yz,(yo 4 [yf,(yo 1 []),yf,(yo 1 [(yu 1)])]),yz,(yo 4 [yf,(yo 1 []),yf,(yo 1 [(yu 1)])])]))],(.tup [(.agg [yz,(yo 4 [yf,yz,yf,(yo 1 [(yu 1)])]),yz,(yo 4 [yf,yz,yf,(yo 1 [(yu 1)])])]),(.one (yi 0))])⟩,
 ⟨55,[(.v (.agg [yz,(yo 4 [yf,(yo 1 [(yu 1)]),yf,(yo 1 [(yu 1)])]),yz,(yo 4 [yf,(yo 1 []),yf,(yo 1 [(yu 1)])])])),(.v (.agg [yz,(yo 4 [yf,(yo 1 [(yu 1)]),yf,(yo 1 [(yu 1)])]),yz,(yo 4 [yf,(yo 1 []),yf,(yo 1 [(yu 1)])])]))],(.tup [(.agg [yz,(yo 4 [yf,yz,yf,(yo 1 [(yu 1)])]),yz,(yo 4 [yf,yz,yf,(yo 1 [(yu 1)])])]),(.one (yi 0))])⟩,
 ⟨6,[(.v (.one (yo 14 [yf,yz,(yo 4 [yf,(yo 1 []),yf,(yo 1 [(yu 1)])]),yz,(yo 4 [yf,(yo 1 []),yf,(yo 1 [(yu 1)])]),yz,(yo 4 [yf,(yo 1 [(yu 1)]),yf,(yo 1 [(yu 1)])]),yz,(yo 4 [yf,(yo 1 []),yf,(yo 1 [(yu 1)])]),yz,yz,yz,yz,yf,yf,yz,(yo 4 [yf,(yo 1 [(yu 1)]),yf,(yo 1 [(yu 1)])]),yz,(yo 4 [yf,(yo 1 []),yf,(yo 1 [(yu 1)])]),yz,(yo 4 [yf,(yo 1 []),yf,(yo 1 [(yu 1)])]),yz,(yo 4 [yf,(yo 1 []),yf,(yo 1 [(yu 1)])]),yz,yz,yz,yz,yf])))],(.tup [(.agg [(yo 4 [yz,(yo 4 [yf,(yo 1 []),yf,(yo 1 [(yu 1)])]),yz,(yo 4 [yf,(yo 1 []),yf,(yo 1 [(yu 1)])]),yz,(yo 4 [yf,(yo 1 [(yu 1)]),yf,(yo 1 [(yu 1)])]),yz,(yo 4 [yf,(yo 1 []),yf,(yo 1 [(yu 1)])])]),(yo 17 [(yi 0),(yi 1),yf,yz,(yo 4 [yf,(yo 1 []),yf,(yo 1 [(yu 1)])]),yz,(yo 4 [yf,(yo 1 []),yf,(yo 1 [(yu 1)])]),yz,(yo 4 [yf,(yo 1 [(yu 1)]),yf,(yo 1 [(yu 1)])]),yz,(yo 4 [yf,(yo 1 []),yf,(yo 1 [(yu 1)])]),yz,yz,yz,yz,yf,(yo 1 [(yi 0),(yi (-2))])])]),(.one (yi 0))])⟩,
 ⟨54,[(.v (.one (yi 1)))],(.v (.agg [yz,(yo 4 [yf,(yo 1 [(yu 1)]),yf,(yo 1 [(yu 1)])])]))⟩,
 ⟨56,[(.v (.agg [yz,(yo 4 [yf,(yo 1 [(yu 1)]),yf,(yo 1 [(yu 1)])]),yz,(yo 4 [yf,yz,yf,(yo 1 [(yu 1)])])]))],(.tup [(.agg [yz,(yo 4 [yf,(yo 1 [(yu 1)]),yf,(yo 1 [(yu 1)])])]),(.one (yi 0))])⟩,
 ⟨9,[(.v (.agg [(yo 4 [yz,(yo 4 [yf,(yo 1 [(yu 1)]),yf,(yo 1 [(yu 1)])]),yz,(yo 4 [yf,(yo 1 []),yf,(yo 1 [(yu 1)])])]),(yo 17 [(yi 0),(yi 0),yt,yz,(yo 4 [yf,(yo 1 [(yu 1)]),yf,(yo 1 [(yu 1)])]),yz,(yo 4 [yf,(yo 1 []),yf,(yo 1 [(yu 1)])]),yz,(yo 4 [yf,(yo 1 [(yu 1)]),yf,(yo 1 [(yu 1)])]),yz,(yo 4 [yf,(yo 1 []),yf,(yo 1 [(yu 1)])]),yz,(yo 4 [yf,(yo 1 []),yf,(yo 1 [(yu 1)])]),yz,(yo 4 [yf,(yo 1 []),yf,(yo 1 [(yu 1)])]),yf,(yo 1 [(yi 0)])])])),(.v (.one (yi 0)))],(.tup [(.one (yi 0)),(.one (yi 0))])⟩,
 ⟨172,[(.v (.agg [yz,(yo 4 [yf,(yo 1 [(yu 1)]),yf,(yo 1 [(yu 1)])])])),(.v (.agg [yz,(yo 4 [yt,(yo 1 [(yu 1)]),yf,(yo 1 [(yu 1)])])]))],(.tup [(.agg [yz,(yo 4 [yt,(yo 1 [(yu 1)]),yf,(yo 1 [(yu 1)])])]),(.one (yi 0))])⟩,
 ⟨10,[(.v (.agg [(yo 4 [yz,(yo 4 [yt,(yo 1 [(yu 1)]),yf,(yo 1 [(yu 1)])]),yz,(yo 4 [yf,(yo 1 []),yf,(yo 1 [(yu 1)])]),yz,(yo 4 [yf,(yo 1 []),yf,(yo 1 [(yu 1)])]),yz,(yo 4 [yt,(yo 1 [(yu 1)]),yf,(yo 1 [(yu 1)])]),yz,(yo 4 [yf,yz,yf,(yo 1 [(yu 1)])]),yz,(yo 4 [yf,yz,yf,(yo 1 [(yu 1)])]),yz,(yo 4 [yf,(yo 1 []),yf,(yo 1 [(yu 1)])]),yz,(yo 4 [yf,(yo 1 [(yu 1)]),yf,(yo 1 [(yu 1)])]),yz,(yo 4 [yf,(yo 1 [(yu 1)]),yf,(yo 1 [(yu 1)])]),yz,(yo 4 [yf,(yo 1 []),yf,(yo 1 [(yu 1)])])]),(yo 17 [(yi 0),(yi 2),yf,yz,(yo 4 [yt,(yo 1 [(yu 1)]),yf,(yo 1 [(yu 1)])]),yz,(yo 4 [yf,(yo 1 []),yf,(yo 1 [(yu 1)])]),yz,(yo 4 [yf,yz,yf,(yo 1 [(yu 1)])]),yz,(yo 4 [yf,yz,yf,(yo 1 [(yu 1)])]),yz,yz,yz,yz,yf,(yo 1 [(yi 0)]),(yi 2),(yi 4),yf,yz,(yo 4 [yf,yz,yf,(yo 1 [(yu 1)])]),yz,(yo 4 [yf,yz,yf,(yo 1 [(yu 1)])]),yz,(yo 4 [yf,(yo 1 [(yu 1)]),yf,(yo 1 [(yu 1)])]),yz,(yo 4 [yf,(yo 1 []),yf,(yo 1 [(yu 1)])]),yz,yz,yz,yz,yf,(yo 1 [(yi 0)]),(yi 1),(yi 2),yf,yz,(yo 4 [yf,(yo 1 []),yf,(yo 1 [(yu 1)])]),yz,(yo 4 [yt,(yo 1 [(yu 1)]),yf,(yo 1 [(yu 1)])]),yz,(yo 4 [yf,yz,yf,(yo 1 [(yu 1)])]),yz,(yo 4 [yf,yz,yf,(yo 1 [(yu 1)])]),yz,yz,yz,yz,yf,(yo 1 [(yi 1)]),(yi 2),(yi 3),yf,yz,(yo 4 [yf,yz,yf,(yo 1 [(yu 1)])]),yz,(yo 4 [yf,yz,yf,(yo 1 [(yu 1)])]),yz,(yo 4 [yf,(yo 1 []),yf,(yo 1 [(yu 1)])]),yz,(yo 4 [yf,(yo 1 [(yu 1)]),yf,(yo 1 [(yu 1)])]),yz,yz,yz,yz,yf,(yo 1 [(yi 1)])])])),(.v (.one (yi 2)))],(.tup [(.one (yo 1 [(yi 2),(yi 6),(yi 1),(yi 5)])),(.one (yi 0))])⟩,
 ⟨11,[(.v (.one (yo 1 [(yi 0),(yi (-2))]))),(.v (.one (yo 1 [(yi 0),(yi (-2))])))],(.v (.one yt))⟩]
end
noncomputable def tbE:Tbl:=addTs tbD esE
set_option maxRecDepth 100000 in
theorem tbE_ok:TblOk Tryz.prog tbE:=chkT_ok T_ok mixed drX (fuel:=2000) (k:=100) (fz:=20) tbD_ok (by kernel_rfl)
end Go.Proofs.YtcdijplheindaaaGreat
namespace Go.Proofs.YtcdijplheindaaaGreat
open Go Go.Eng Go.Eng.Run
set_option maxRecDepth 100000 in
theorem awakeR:Pr Tryz.prog 4 [] (.one (.bool true)):=pure_of_runs T_ok mixed (orcT_ok tbE_ok) drX (fuel:=2000) (k:=100) (fz:=20) (args:=[]) (r:=.v (.one (.cl (.bool true)))) rfl (by kernel_rfl)
end Go.Proofs.YtcdijplheindaaaGreat
