/-
  ArrangementErrors: for every input the law returns true, and each argument reads afterwards as it read before. No condition.
  (Text 9 of 9; made by a program out of smaller texts.)
-/
import Derived.Lib.AppendZerosOnto
import Derived.Lib.Walk
import Derived.Lib.Overlaps
import Derived.Laws.Externs
import Derived.Laws.NewBlocks
import Derived.Shelf.RegionOpenPlain
import Derived.Deep.Slices
import Derived.ChangeArms
import Derived.ChangeSame
import Derived.Below
import Derived.OpenShut
import Derived.ProofKit
import Derived.Test.YtcdijplheindaaaGreatRows
import Derived.Test.YtcdijplheindaaaGreatP8
set_option linter.unusedSimpArgs false
set_option linter.unusedVariables false
set_option maxHeartbeats 16000000
set_option maxRecDepth 10000
open Nat renaming reduceAdd→J1,reduceMul→J2,reduceSub→J3,reduceEqDiff→J4,reduceLT→J5,reduceLeDiff→J6,reduceBEq→J7,reduceDiv→J8,reduceMod→J9,reducePow→J0
open Int renaming reduceToNat→K1,reduceLE→K2,reduceLT→K3,reduceEq→K4,reducePow→K5,reduceSub→K6,reduceNeg→K7,natCast_add→X2,natCast_one→X3,natCast_zero→X4
open List renaming getD_cons_zero→X0,getD_cons_succ→X1,length_take→X5,length_append→X6,getD_eq_getElem?_getD→X7,getElem?_eq_getElem→X8
open Nat renaming le_trans→O0,le_refl→O1,zero_le→O2,not_lt_zero→O5,mod_eq_of_lt→O7,mul_le_mul_right→O8
open Int renaming toNat_natCast→Q1
open Go.IntWalk renaming i64_in→Q4
open Option.some renaming injEq→Q6
open Go.Result renaming andThen_ok→Q7
noncomputable section
set_option maxHeartbeats 2000000
namespace Go.Proofs.YtcdijplheindaaaGreat
open Go Go.Eng Go.Geo
open Go.Eng.Run in
set_option maxRecDepth 100000 in
theorem ofNil (F:Nat→Nat→C):Pr Tryz.prog 6 [.one (.rows 14 0 F)] (.tup [.agg [.nil,.nil],.one (.int .i64 0)]):=by
 have h:=pure_of_runs T_ok mixed (orcT_ok (P:=Tryz.prog) TblOk.nil) noDr (fuel:=2000) (k:=100) (fz:=20) (f:=6) (args:=[.v (.one (.op 14 []))]) (r:=.tup [.agg [.cl .nil,.cl .nil],.one (.cl (.int .i64 0))]) rfl (by kernel_rfl);obtain⟨h1,h2⟩:=h;refine⟨h1,fun ok w vs hok hr=>h2 ok w vs hok ?_⟩
 cases hv:vs.toList with
 |nil=>rw[hv]at hr;exact hr.elim
 |cons v l=>
  rw[hv]at hr;obtain⟨⟨ad,cap,h1,h2,h3⟩,hr2⟩:=hr;exact⟨⟨ad,cap,h1,h2,.inl rfl⟩,hr2⟩
theorem rw_fun {N:Nat}{zs:Nat→Bool}{cs:Nat→Cu}{F:Nat→Nat→C}{f:FuncId}{r:V}(h:Pr Tryz.prog f [.one (rwC N zs cs)] r)(he:∀i j,F i j=(cuX (zs i) (cs i)).getD j .any):Pr Tryz.prog f [.one (.rows 14 N F)] r:=by
 have:F=fun i j=>(cuX (zs i) (cs i)).getD j .any:=funext fun i=>funext (he i)
 subst this;exact h
def zCu (z:Cu):Cu:=⟨false,false,z.ax,z.ay,z.ax,z.ay,0,0⟩
def manyC (m k:Nat)(cs:Nat→Cu)(i:Nat):Cu:=if i=k then zCu (cs 0)else cs (i%m)
theorem manyOk {m n k:Nat}{cs:Nat→Cu}(hm:0<m)(hk:k<n)(hn:n≤12)(hs:∀i,i<m→CuSm (cs i) 16)(hv:∀i,i<m→(cs i).vld=true):
  Pr Tryz.prog 6 [.one (rwC n (fun i=>decide (i=k)) (manyC m k cs))] (.tup [.agg [.nil,.nil],.one (.int .i64 1)]):=by
 refine ofBad hn (hasCu _ (K:=k) (by omega) hk (fun i hi=>?_) ?_)
 ·have e:(i=k)=False:=by simp;omega
  simp only[e,decide_false,manyC,if_false];exact ofOne false _ true (cuVal _ (hs _ (Nat.mod_lt _ hm)) (hv _ (Nat.mod_lt _ hm)))
 simp only[decide_true,manyC,if_true];obtain⟨⟨s1,s2⟩,_⟩:=hs 0 hm
 have:=cuValS false (cs 0).ax (cs 0).ay (cs 0).ax (cs 0).ay .nil .nil .nil .nil (B:=16) (by decide) s1 s2 s1 s2
 simp only[decide_true,Bool.and_self,Bool.not_true]at this;exact ofOne true (zCu (cs 0)) false this
theorem errNo {m:Nat}{f:Nat→Dr}{n a:Nat}(h:Pr Tryz.prog 5 [.one (drC m f)] (.tup [.one .nil,.one (.bool false)])):
  Pr Tryz.prog 3 [.one (drC m f),.one (.int .u8 n),.one (.int .u8 a)] (.one (.bool true)):=by
 have w:=awakeR;refine pw Tryz.func3 ⟨[0,1,2,6,7,8,9,10,11,12,13,15,31,33,34,35,49,71,74],[]⟩ ?_;simp only[Tryz.f3,Tryz.ntmps3,iz,seval];simp only[vx,T,seval,drC];refine Cg w ?_;simp only[vx,T,seval,drC];refine Cg h ?_;simp only[vx,T,seval,drC];exact Ve rfl
theorem errOff {m:Nat}{f:Nat→Dr}{n a:Nat}{cs:Nat→Cu}(h:Pr Tryz.prog 5 [.one (drC m f)] (.tup [.one (cuC m cs),.one (.bool false)])):
  Pr Tryz.prog 3 [.one (drC m f),.one (.int .u8 n),.one (.int .u8 a)] (.one (.bool true)):=by
 have w:=awakeR;refine pw Tryz.func3 ⟨[0,1,2,6,7,8,9,10,11,12,13,15,31,33,34,35,49,71,74],[]⟩ ?_;simp only[Tryz.f3,Tryz.ntmps3,iz,seval];simp only[vx,T,seval,drC];refine Cg w ?_;simp only[vx,T,seval,drC];refine Cg h ?_;simp only[vx,T,seval,drC,cuC];exact Ve rfl
theorem errYes {m:Nat}{f:Nat→Dr}{n a:Nat}{cs:Nat→Cu}(hm:m≤5)(hn:n<256)(ha:a<256)(hs:∀i,i<m→CuSm (cs i) 16)(hv:∀i,i<m→(cs i).vld=true)(h:Pr Tryz.prog 5 [.one (drC m f)] (.tup [.one (cuC m cs),.one (.bool true)])):
  Pr Tryz.prog 3 [.one (drC m f),.one (.int .u8 n),.one (.int .u8 a)] (.one (.bool true)):=by
 have w:=awakeR;have w1:IntKind.i64.wrap (n:Int)=n:=by rw[Q4 _ (by omega)]
 have w2:IntKind.i64.wrap (a:Int)=a:=by rw[Q4 _ (by omega)]
 refine pw Tryz.func3 ⟨[0,1,2,6,7,8,9,10,11,12,13,15,31,33,34,35,49,71,74],[]⟩ ?_;simp only[Tryz.f3,Tryz.ntmps3,iz,seval];simp only[vx,T,seval,drC];refine Cg w ?_;simp only[vx,T,seval,drC];refine Cg h ?_;simp only[vx,T,seval,drC,cuC,w1,w2];refine⟨fun g0=>Lg ?_,fun g0=>Lg ?_⟩
 ·simp only[vx,T,seval];exact Ve rfl
 simp only[vx,T,seval];refine⟨fun g1=>Lg ?_,fun g1=>Lg ?_⟩
 ·simp only[vx,T,seval];exact Ve rfl
 simp only[vx,T,seval,w1];have hn20:n≤20:=by omega
 have hm0:0<m:=by omega
 refine Lk (fun y:{i:Nat//i≤n}=>⟨[(1,.one (.int .u8 n)),(2,.one (.int .u8 a)),(7,.one (cuC m cs)),(9,.one (.own 1 14 0 y.1)),(33,.one (.int .i64 n)),(34,.one (.int .i64 y.1))],[(1,⟨.rows 34 14 y.1 (fun i j=>(cuL (cs (i%m))).getD j .any),true⟩)],2,90⟩) (fun y=>n-y.1) ⟨0,O2 _⟩ ?_ (fun⟨i,hi⟩=>?_)
 ·refine Sa ?_;simp only[ry,seval,rz,cuC]
 have hi':i≤n:=hi;have i1:=wI i (by omega);simp only[vx,T,seval,cuC];refine⟨fun g2=>Lg ?_,fun g2=>Lg ?_⟩
 ·have him:i%m<m:=Nat.mod_lt _ hm0;have r0:(i:Int).tmod (m:Int)=((i%m:Nat):Int):=rfl;have r1:IntKind.i64.wrap ((i%m:Nat):Int)=((i%m:Nat):Int):=by rw[Q4 _ (by omega)]
  obtain⟨c,hc⟩:∃c,c=cs (i%m):=⟨_,rfl⟩;simp only[vx,T,seval,cuC,r0,r1,i1,Q1,←hc,cuL,CuC,QsC];refine⟨by omega,⟨by omega,by omega⟩,⟨by omega,by omega⟩,Lq ⟨i+1,by omega⟩ ?_ ?_⟩
  ·refine Sa ?_;simp only[ry,seval,rz,cuC,cuL,CuC,QsC];exact snocCu (g:=fun i j=>(cuL (cs (i%m))).getD j .any) (c:=c) fun j _=>by rw[hc]
  simp only;omega
 have hin:i=n:=by omega
 rw[hin];clear i1 hi' hi hin;simp only[vx,T,seval,cuC];refine⟨fun g3=>Lg ?_,fun g3=>Lg ?_⟩
 ·have hk:a%n<n:=Nat.mod_lt _ (by omega);have r0:(a:Int).tmod (n:Int)=((a%n:Nat):Int):=rfl;have r1:IntKind.i64.wrap ((a%n:Nat):Int)=((a%n:Nat):Int):=by rw[Q4 _ (by omega)]
  obtain⟨z,hz⟩:∃z,z=cs 0:=⟨_,rfl⟩;simp only[vx,T,seval,cuC,w2,r0,r1,Q1,←hz,cuL,CuC,QsC];have he:∀F:Nat→Nat→C,F=(fun i j=>setElt (fun i j=>(cuL (cs (i%m))).getD j .any) (a%n) 0 (cuX true (zCu z)) i j)→∀i j,F i j=(cuX (decide (i=a%n)) (manyC m (a%n) cs i)).getD j .any:=by
   intro F hF i j;have e0:F i j=if i=a%n then(if 0≤j then(if j<0+(cuX true (zCu z)).length then(cuX true (zCu z)).getD (j-0) .any else(cuL (cs (i%m))).getD j .any)else(cuL (cs (i%m))).getD j .any)else(cuL (cs (i%m))).getD j .any:=by rw[hF];rfl
   rw[e0];unfold manyC
   by_cases e:i=a%n
   ·rw[if_pos e,if_pos e,decide_eq_true e,if_pos (O2 _),←hz]
    by_cases hj:j<14
    ·rw[if_pos (by show j<0+14;omega),Nat.sub_zero]
    rw[if_neg (by show¬j<0+14;omega),X7,X7,List.getElem?_eq_none (by show 14≤j;omega),List.getElem?_eq_none (by show 14≤j;omega)]
   rw[if_neg e,if_neg e,decide_eq_false e];rfl
  refine⟨by omega,by omega,by omega,⟨by omega,by omega⟩,?_⟩
  by_cases hn12:n≤12
  ·have c:=manyOk hm0 hk hn12 hs hv;refine Cg (rw_fun c (he _ rfl)) ?_;simp only[vx,T,seval];refine⟨fun g=>absurd g (by omega),fun _=>Lg ?_⟩;simp only[vx,T,seval];refine⟨fun _=>Lg ?_,fun g=>absurd g3 g⟩;simp only[vx,T,seval];exact Ve rfl
  have c:=ofBig (N:=n) (zs:=fun i=>decide (i=a%n)) (cs:=manyC m (a%n) cs) (by omega) (by omega);refine Cg (rw_fun c (he _ rfl)) ?_;simp only[vx,T,seval];refine⟨fun _=>Lg ?_,fun g=>absurd g (by omega)⟩;simp only[vx,T,seval];exact Ve rfl
 obtain rfl:n=0:=by omega
 simp only[vx,T,seval,cuC];refine Cg (ofNil _) ?_;simp only[vx,T,seval];exact Ve rfl
theorem lawErr (m:Nat)(f:Nat→Dr)(hf:∀i,i<m→(f i).ok)(n a:Nat)(hn:n<256)(ha:a<256):
  Pr Tryz.prog 3 [.one (drC m f),.one (.int .u8 n),.one (.int .u8 a)] (.one (.bool true)):=by
 by_cases hm:m≤5
 ·obtain⟨K,h1,h2,h3⟩:=firstNo (fun i=>(f i).cu.vld) m;have c:=r47Curves m f hf 5 (by decide) hm K h2 h1 h3
  by_cases hK:K=m
  ·rw[if_pos hK]at c;subst hK;have c':=r48Yes hm c
   cases hb:decide ((cntA (fun i=>(f i).cu) K:Int)≤3)with
   |true=>
    rw[hb]at c';exact errYes hm hn ha (fun i hi=>drSm (hf i hi)) h2 c'
   |false=>
    rw[hb]at c';exact errOff c'
  rw[if_neg hK]at c;exact errNo (r48No c)
 exact errNo (r48No (r47CurvesN m f 5 (by decide) (by omega)))
end Go.Proofs.YtcdijplheindaaaGreat
namespace Go.Eng
open Go Go.ChangeShapes Go.WideShapes Go.Deep
def contigF (P:Program):Nat→List Field→Nat→Bool
 |off,[],tot=>off==tot
 |off,f::r,tot=>f.offset==off&&contigF P (off+P.cellsOf f.type) r tot
def closedB (P:Program)(S:List TypeId):Bool:=S.all fun t=>
 match P.underlying t with
 |some .bool=>true
 |some (.int _)=>true
 |some .string=>true
 |some (.slice e)=>decide (0<P.cellsOf e)&&S.contains e&&(match P.underlying e with|some (.int _)=>P.cellsOf e==1|_=>true)
 |some (.struct fs)=>contigF P 0 fs.toList (P.cellsOf t)&&fs.toList.all fun f=>S.contains f.type
 |some (.array n e)=>S.contains e&&P.cellsOf t==n*P.cellsOf e
 |_=>false
def OkF (R:TypeId→List C→Prop):List Field→List C→Prop
 |[],cs=>cs=[]
 |f::r,cs=>∃c1 c2,cs=c1++c2∧R f.type c1∧OkF R r c2
def OkC (P:Program)(B:Nat):Nat→TypeId→List C→Prop
 |0,_,_=>False
 |n+1,t,cs=>
  match P.underlying t with
  |some .bool=>∃b,cs=[.bool b]
  |some (.int k)=>∃x,cs=[.int k x]∧k.min≤x∧x≤k.max
  |some .string=>∃s:ByteArray,cs=[.str s]∧s.size≤B
  |some (.slice e)=>
   match P.underlying e with
   |some (.int k)=>∃xs:List Int,cs=[.ints k xs]∧xs.length≤B∧∀x∈xs,k.min≤x∧x≤k.max
   |_=>∃m f,cs=[.rows (P.cellsOf e) m f]∧m≤B∧∀i,i<m→OkC P B n e ((List.range (P.cellsOf e)).map (f i))
  |some (.struct fs)=>OkF (OkC P B n) fs.toList cs
  |some (.array m e)=>∃l:List (List C),cs=l.flatten∧l.length=m∧∀c∈l,OkC P B n e c
  |_=>False
theorem OkC.mono {P:Program}{B B':Nat}(hB:B≤B'):∀{n:Nat} {t:TypeId} {cs:List C},OkC P B n t cs→OkC P B' n t cs:=by
 intro n
 induction n with
 |zero=>intro t cs h;exact h
 |succ n ih=>
  intro t cs h;have hf:∀(fs:List Field) (cs:List C),OkF (OkC P B n) fs cs→OkF (OkC P B' n) fs cs:=by
   intro fs
   induction fs with
   |nil=>intro cs h;exact h
   |cons f r ihf=>
    rintro cs ⟨c1,c2,rfl,h1,h2⟩;exact⟨c1,c2,rfl,ih h1,ihf c2 h2⟩
  simp only[OkC]at h⊢
  split at h
  ·exact h
  ·exact h
  ·obtain⟨s,h1,h2⟩:=h;exact⟨s,h1,O0 h2 hB⟩
  ·split at h
   ·obtain⟨xs,h1,h2,h3⟩:=h;exact⟨xs,h1,O0 h2 hB,h3⟩
   obtain⟨m,f,h1,h2,h3⟩:=h;exact⟨m,f,h1,O0 h2 hB,fun i hi=>ih (h3 i hi)⟩
  ·exact hf _ _ h
  ·obtain⟨l,h1,h2,h3⟩:=h;exact⟨l,h1,h2,fun c hc=>ih (h3 c hc)⟩
  exact h
structure BulkOk {H:Type} (bulk:DataW H→Nat):Prop where
 str:∀s:List UInt8,s.length≤bulk (.lit (.string s))
 sl:∀el sp,el.length≤bulk (.slice el sp)∧∀d∈el,bulk d≤bulk (.slice el sp)
 agg:∀ps d,d∈ps→bulk d≤bulk (.agg ps)
def Bnd {H:Type}(bulk:DataW H→Nat)(B:Nat)(d:DataW H):Prop:=maxLen≤B∨(BulkOk bulk∧bulk d≤B)
def RepIL (ok:Nat→Prop)(w:World):List C→List Value→Prop
 |[],[]=>True
 |c::cs,v::vs=>RepI ok w c v∧RepIL ok w cs vs
 |_,_=>False
theorem RepIL.append {ok:Nat→Prop}{w:World}:∀{a b:List C} {x y:List Value},RepIL ok w a x→RepIL ok w b y→RepIL ok w (a++b) (x++y)
 |[],_,[],_,_,h=>h
 |_::_,_,_::_,_,h1,h2=>⟨h1.1,RepIL.append h1.2 h2⟩
 |[],_,_::_,_,h,_=>h.elim
 |_::_,_,[],_,h,_=>h.elim
theorem RepIL.length {ok:Nat→Prop}{w:World}:∀{a:List C} {x:List Value},RepIL ok w a x→a.length=x.length
 |[],[],_=>rfl
 |_::_,_::_,h=>by simp[RepIL.length h.2]
 |[],_::_,h=>h.elim
 |_::_,[],h=>h.elim
theorem RepIL.get {ok:Nat→Prop}{w:World}:∀{a:List C} {x:List Value},RepIL ok w a x→∀j,j<a.length→∃u,x[j]? =some u∧RepI ok w (a.getD j .any) u
 |_::_,u::_,h,0,_=>⟨u,rfl,h.1⟩
 |_::_,_::_,h,j+1,hj=>by simpa using RepIL.get h.2 j (by simpa using hj)
 |[],[],_,j,hj=>absurd hj (by simp)
 |[],_::_,h,_,_=>h.elim
 |_::_,[],h,_,_=>h.elim
theorem cell_lt {w:World}{a:Addr}{v:Value}(h:w.cell? a=some v):a.block<w.heap.size∧a.spot=none:=by
 unfold World.cell? at h
 split at h
 ·rename_i c _ _ hb
  refine⟨(Array.getElem?_eq_some_iff.1 hb).1,?_⟩
  split at h
  ·cases h
  rename_i hs
  cases hsp:a.spot with
  |none=>rfl
  |some x=>rw[hsp]at hs;simp at hs
 cases h
section
variable {H:Type}{bulk:DataW H→Nat}{B:Nat}{enc:TypeId×Value→H}{P:Program}{w:World}{base:Nat}{spare:Nat→Bool}{held:Bool}
theorem open_data {S:List TypeId}(hS:closedB P S=true):∀(fuel:Nat) (t:TypeId) (vs:List Value) (x:DataW H×List MemPlace),t∈S→DataW.trod enc P w base spare held fuel t vs=some x→Bnd bulk B x.1→
  ∃cs,OkC P B fuel t cs∧RepIL (fun g=>g<w.heap.size) w cs vs:=by
 intro fuel
 induction fuel with
 |zero=>intro t vs x _ h _;simp[DataW.trod]at h
 |succ fuel ih=>
  intro t vs x ht h hb;have hc:=List.all_eq_true.1 hS t ht;simp only[OkC]
  cases hu:P.underlying t with
  |none=>rw[hu]at hc;simp at hc
  |some d=>
   rw[hu]at hc
   cases d with
   |bool=>
    obtain⟨b,rfl,_⟩:=DataW.trod_bool hu h;exact⟨[.bool b],⟨b,rfl⟩,rfl,trivial⟩
   |int k=>
    obtain⟨n,rfl,_,hw⟩:=DataW.trod_int hu h;simp only[Lit.wf,Bool.and_eq_true,decide_eq_true_eq]at hw;exact⟨[.int k n],⟨n,rfl,hw⟩,rfl,trivial⟩
   |string=>
    obtain⟨s,rfl,hx,hs⟩:=DataW.trod_string hu h;refine⟨[.str s],⟨s,rfl,?_⟩,rfl,trivial⟩
    rcases hb with hb|⟨hb,hb2⟩
    ·omega
    have h1:=hb.str s.data.toList;rw[hx]at hb2;have hb2:bulk (.lit (.string s.data.toList))≤B:=hb2;have h2:s.data.toList.length=s.size:=Array.length_toList;omega
   |slice e=>
    simp only[Bool.and_eq_true,decide_eq_true_eq]at hc;obtain⟨⟨hpos,he⟩,hk⟩:=hc;have he:e∈S:=by simpa using he
    have hfit:(vs=[.slice none 0 0])∨∃(a:Addr) (len cap:Nat),vs=[.slice (some a) len cap]∧len≤cap∧len≤B∧
      ∀i,i<len→∃cs',w.cells? base (a.add (i*P.cellsOf e)) (P.cellsOf e)=some cs'∧∃y,DataW.trod enc P w base spare held fuel e cs'=some y∧Bnd bulk B y.1:=by
     rcases DataW.trod_slice hu h with⟨rfl,_⟩|⟨a,len,cap,elems,rest,n,hn,rfl,hx,_,hl,hm,hlen,hel,_,_⟩
     ·exact .inl rfl
     have hlB:len≤B:=by
      rcases hb with hb|⟨hb,hb2⟩
      ·omega
      have h1:=(hb.sl (elems.map (·.1)) (rest.map (·.1))).1;rw[hx]at hb2;rw[List.length_map]at h1;have hb2:bulk (.slice (elems.map (·.1)) (rest.map (·.1)))≤B:=hb2;omega
     refine .inr ⟨a,len,cap,rfl,hl,hlB,fun i hi=>?_⟩;obtain rfl:fuel=n:=by omega
     have h1:=hel i hi;rw[X8 (by omega)]at h1
     cases hcs:w.cells? base (a.add (i*P.cellsOf e)) (P.cellsOf e)with
     |none=>rw[hcs]at h1;simp at h1
     |some cs'=>
      rw[hcs]at h1;refine⟨cs',rfl,_,h1,?_⟩
      rcases hb with hb|⟨hb,hb2⟩
      ·exact .inl hb
      refine .inr ⟨hb,?_⟩;have h2:=(hb.sl (elems.map (·.1)) (rest.map (·.1))).2 elems[i].1 (List.mem_map.2 ⟨elems[i],List.getElem_mem _,rfl⟩);rw[hx]at hb2;exact O0 h2 hb2
    -- by rows
    have hrows:∃m f,m≤B∧(∀i,i<m→OkC P B fuel e ((List.range (P.cellsOf e)).map (f i)))∧∃v,vs=[v]∧RepI (fun g=>g<w.heap.size) w (.rows (P.cellsOf e) m f) v:=by
     rcases hfit with rfl|⟨a,len,cap,rfl,hl,hm,hel⟩
     ·exact⟨0,fun _ _=>.any,O2 _,fun i hi=>absurd hi (O5 _),_,rfl,none,0,rfl,O1 _,.inl rfl⟩
     have hex:∀i,i<len→∃cs,OkC P B fuel e cs∧cs.length=P.cellsOf e∧∀j,j<P.cellsOf e→∃u,w.cell? ((a.add (i*P.cellsOf e)).add j)=some u∧RepI (fun g=>g<w.heap.size) w (cs.getD j .any) u:=by
      intro i hi;obtain⟨cs',hcs',y,hy,hyb⟩:=hel i hi;obtain⟨_,hcl,hcell⟩:=World.cells?_some hcs';obtain⟨cs,hok,hrep⟩:=ih e cs' y he hy hyb;have hlen:cs.length=P.cellsOf e:=by rw[hrep.length,hcl]
      refine⟨cs,hok,hlen,fun j hj=>?_⟩;obtain⟨u,hu,hr⟩:=hrep.get j (by omega);exact⟨u,by rw[hcell j hj,hu],hr⟩
     obtain⟨g,hg⟩:=Classical.axiomOfChoice (r:=fun(i:Nat) (cs:List C)=>i<len→OkC P B fuel e cs∧cs.length=P.cellsOf e∧∀j,j<P.cellsOf e→∃u,w.cell? ((a.add (i*P.cellsOf e)).add j)=some u∧RepI (fun g=>g<w.heap.size) w (cs.getD j .any) u) (fun i=>by
      by_cases hi:i<len
      ·obtain⟨cs,h⟩:=hex i hi;exact⟨cs,fun _=>h⟩
      exact⟨[],fun h=>absurd h hi⟩)
     refine⟨len,fun i j=>(g i).getD j .any,hm,fun i hi=>?_,_,rfl,some a,cap,rfl,hl,?_⟩
     ·obtain⟨h1,h2,_⟩:=hg i hi;have e:(List.range (P.cellsOf e)).map (fun j=>(g i).getD j .any)=g i:=by
       refine List.ext_getElem (by simp[h2]) fun j hj1 hj2=>?_
       simp[X7,X8 hj2]
      rw[e];exact h1
     by_cases h0:len=0
     ·exact .inl h0
     right
     obtain⟨u,hu,_⟩:=(hg 0 (by omega)).2.2 0 hpos;rw[Nat.zero_mul]at hu;have ha0:(a.add 0).add 0=a:=by simp[Addr.add]
     rw[ha0]at hu;obtain⟨hlt,hsp⟩:=cell_lt hu;refine⟨a.block,a.off,?_,hlt,fun i j hi hj=>?_⟩
     ·obtain⟨b,o,s⟩:=a;simp only at hsp;subst hsp;rfl
     obtain⟨u,hu,hr⟩:=(hg i hi).2.2 j hj;refine⟨u,?_,hr⟩;rw[←hu]
     congr 1
     obtain⟨b,o,s⟩:=a;simp only at hsp;subst hsp;unfold Addr.add
     split<;>split<;>simp_all<;>omega
    simp only
    cases hue:P.underlying e with
    |none=>
     obtain⟨m,f,h1,h2,v,rfl,h3⟩:=hrows;exact⟨[.rows (P.cellsOf e) m f],⟨m,f,rfl,h1,h2⟩,h3,trivial⟩
    |some de=>
     cases de with
     |int k=>
      rw[hue]at hk;have hk:P.cellsOf e=1:=by simpa using hk
      obtain⟨m,f,h1,h2,v,rfl,a,cap,rfl,h4,h5⟩:=hrows;have h2':∀i,i<m→∃x,f i 0= .int k x∧k.min≤x∧x≤k.max:=by
       intro i hi
       have:=h2 i hi
       rw[hk]at this
       cases fuel with
       |zero=>exact this.elim
       |succ fuel=>
        simp only[OkC,hue]at this;obtain⟨x,hx,hr⟩:=this;simp only[List.range_succ,List.range_zero,List.nil_append,List.map_cons,List.map_nil,List.cons.injEq,and_true]at hx;exact⟨x,hx,hr⟩
      obtain⟨g,hg⟩:=Classical.axiomOfChoice (r:=fun(i:Nat) (x:Int)=>i<m→f i 0= .int k x∧k.min≤x∧x≤k.max) (fun i=>by
       by_cases hi:i<m
       ·obtain⟨x,h⟩:=h2' i hi;exact⟨x,fun _=>h⟩
       exact⟨0,fun h=>absurd h hi⟩)
      have hlen:((List.range m).map g).length=m:=by simp
      refine⟨[.ints k ((List.range m).map g)],⟨_,rfl,by rw[hlen];exact h1,fun x hx=>?_⟩,⟨a,cap,by rw[hlen],by rw[hlen];exact h4,?_⟩,trivial⟩
      ·obtain⟨i,hi,rfl⟩:=List.mem_map.1 hx;exact(hg i (List.mem_range.1 hi)).2
      rw[hlen]
      rcases h5 with h5|⟨b,o,ha,hb,hcell⟩
      ·exact .inl h5
      refine .inr ⟨b,o,ha,hb,fun i hi=>?_⟩;obtain⟨u,hu,hr⟩:=hcell i 0 hi (by omega);rw[(hg i hi).1]at hr;have hr:u= .int k (g i):=hr;rw[hk,Nat.mul_one,Nat.add_zero]at hu;rw[hu,hr]
      simp[X7,hi]
     |_=>
      obtain⟨m,f,h1,h2,v,rfl,h3⟩:=hrows;exact⟨[.rows (P.cellsOf e) m f],⟨m,f,rfl,h1,h2⟩,h3,trivial⟩
   |struct fs=>
    simp only[Bool.and_eq_true]at hc;obtain⟨hcon,hmem⟩:=hc;obtain⟨xs,n,hn,hx,hcl,hxl,hf⟩:=DataW.trod_struct hu h;obtain rfl:fuel=n:=by omega
    have hall:∀f∈fs.toList,∃y,DataW.trod enc P w base spare held fuel f.type ((vs.drop f.offset).take (P.cellsOf f.type))=some y∧Bnd bulk B y.1:=by
     intro f hfm;obtain⟨i,hi,rfl⟩:=List.mem_iff_getElem.1 hfm;have hi':i<fs.size:=by simpa using hi
     have h1:=hf i fs[i] (Array.getElem?_eq_getElem hi');rw[X8 (by omega)]at h1;refine⟨xs[i],by simpa using h1,?_⟩
     rcases hb with hb|⟨hb,hb2⟩
     ·exact .inl hb
     refine .inr ⟨hb,?_⟩;have h2:=hb.agg (xs.map (·.1)) xs[i].1 (List.mem_map.2 ⟨xs[i],List.getElem_mem _,rfl⟩);rw[hx]at hb2;exact O0 h2 hb2
    have hmem:∀f∈fs.toList,f.type∈S:=fun f hf=>by simpa using List.all_eq_true.1 hmem f hf
    simp only
    -- field by field
    have key:∀(l:List Field) (off:Nat),(∀f∈l,∃y,DataW.trod enc P w base spare held fuel f.type ((vs.drop f.offset).take (P.cellsOf f.type))=some y∧Bnd bulk B y.1)→(∀f∈l,f.type∈S)→contigF P off l vs.length=true→
      ∃cs,OkF (OkC P B fuel) l cs∧RepIL (fun g=>g<w.heap.size) w cs (vs.drop off):=by
     intro l
     induction l with
     |nil=>
      intro off _ _ hcf;simp only[contigF,beq_iff_eq]at hcf;exact⟨[],rfl,by rw[List.drop_eq_nil_of_le (by omega)];trivial⟩
     |cons f r ihl=>
      intro off hy hm hcf;simp only[contigF,Bool.and_eq_true,beq_iff_eq]at hcf;obtain⟨ho,hcf⟩:=hcf;obtain⟨y,hy1,hy2⟩:=hy f (by simp);obtain⟨c1,h1,h2⟩:=ih f.type _ y (hm f (by simp)) hy1 hy2;obtain⟨c2,h3,h4⟩:=ihl (off+P.cellsOf f.type) (fun g hg=>hy g (by simp[hg])) (fun g hg=>hm g (by simp[hg])) hcf;refine⟨c1++c2,⟨c1,c2,rfl,h1,h3⟩,?_⟩;have e:vs.drop off=(vs.drop f.offset).take (P.cellsOf f.type)++vs.drop (off+P.cellsOf f.type):=by
       rw[ho,←List.drop_drop,List.take_append_drop]
      rw[e];exact h2.append h4
    have:=key fs.toList 0 hall hmem (by rw[hcl];exact hcon)
    rwa [List.drop_zero]at this
   |array m e=>
    simp only[Bool.and_eq_true,beq_iff_eq]at hc;obtain⟨he,hsz⟩:=hc;have he:e∈S:=by simpa using he
    obtain⟨xs,n,hn,hx,hcl,hxl,hf⟩:=DataW.trod_array hu h;obtain rfl:fuel=n:=by omega
    simp only;have key:∀j,j≤m→∃l:List (List C),l.length=j∧(∀c∈l,OkC P B fuel e c)∧RepIL (fun g=>g<w.heap.size) w l.flatten (vs.take (j*P.cellsOf e)):=by
     intro j
     induction j with
     |zero=>intro _;exact⟨[],rfl,fun c hc=>(by cases hc),by rw[Nat.zero_mul];trivial⟩
     |succ j ihj=>
      intro hj;obtain⟨l,h1,h2,h3⟩:=ihj (by omega);have h4:=hf j (by omega);rw[X8 (by omega)]at h4;obtain⟨c,h5,h6⟩:=ih e _ xs[j] he h4 (by
       rcases hb with hb|⟨hb,hb2⟩
       ·exact .inl hb
       refine .inr ⟨hb,?_⟩;have h2:=hb.agg (xs.map (·.1)) xs[j].1 (List.mem_map.2 ⟨xs[j],List.getElem_mem _,rfl⟩);rw[hx]at hb2;exact O0 h2 hb2)
      refine⟨l++[c],by rw[X6,h1];rfl,fun x hx=>?_,?_⟩
      ·rcases List.mem_append.1 hx with hx|hx
       ·exact h2 x hx
       obtain rfl:=List.mem_singleton.1 hx;exact h5
      rw[List.flatten_append,Nat.add_mul,Nat.one_mul,List.take_add];refine h3.append ?_
      simpa using h6
    obtain⟨l,h1,h2,h3⟩:=key m (O1 _);rw[←hsz,←hcl,List.take_length]at h3;exact⟨l.flatten,⟨l,rfl,h1,h2⟩,h3⟩
   |_=>simp at hc
theorem open_argB {S:List TypeId}(hS:closedB P S=true){t:TypeId}(ht:t∈S){v:Value}{d:DataW H}{p:List MemPlace}(hv:v.oneCell'=true)(h:DataW.Trod enc P w base spare held t v d p)(hb:Bnd bulk B d):
  ∃n c,OkC P B n t [c]∧RepI (fun g=>g<w.heap.size) w c v:=by
 obtain⟨fuel,hf⟩:=h;have hvc:v.cells.toList=[v]:=by
  cases v<;>first|rfl|(simp[Value.oneCell']at hv)
 rw[hvc]at hf;obtain⟨cs,h1,h2⟩:=open_data hS fuel t _ _ ht hf hb
 match cs,h2 with
 |[c],h2=>exact⟨fuel,c,h1,h2.1⟩
theorem open_arg {S:List TypeId}(hS:closedB P S=true){t:TypeId}(ht:t∈S){v:Value}{d:DataW H}{p:List MemPlace}(hv:v.oneCell'=true)(h:DataW.Trod enc P w base spare held t v d p):
  ∃n c,OkC P maxLen n t [c]∧RepI (fun g=>g<w.heap.size) w c v:=open_argB (bulk:=fun _=>0) hS ht hv h (.inl (O1 _))
end
end Go.Eng
namespace Go.Eng
open Go Go.ChangeShapes Go.WideShapes Go.RowKit
section
variable {H:Type}{enc:TypeId×Value→H}{P:Program}
theorem arg_stays (hl:laidOutB P=true){t:TypeId}(hr:P.readableRec t=true)(hrow:t<P.types.size){W W':World}{v:Value}{d:DataW H}{ps:List MemPlace}(h:DataW.Trod enc P W 0 (fun _=>true) true t v d ps)
  (hb:Below W.heap.size W W') (hlt:∀x∈ps,x.block<W.heap.size):DataW.Trod enc P W' 0 (fun b=>decide (b<W.heap.size)) true t v d ps:=
 Below.trod hl hr hrow h hb hlt
theorem law_post {f:Func}{s:ChangeSpec}{W W':World}{args:Array Value}{ds:List (DataW H)}{before:List MemPlace}{tb:TypeId}
  (hW:DataW.Whole enc P f.params.toList s.vars false W args.toList ds [] before) (hv:s.vars=[]) (hrt:f.resultTypes= #[tb]) (htb:P.underlying tb=some .bool)
  (hres:(s.fn H (ds++[])).results=[.lit (.bool true)]) (hargs:DataW.TrodAll enc P W' 0 (fun b=>decide (b<W.heap.size)) true f.params.toList args.toList (s.fn H (ds++[])).args before)
  (hvs:(s.fn H (ds++[])).vars=[]) (hb:Below W.heap.size W W'):s.post enc P f false true false false W args (.bool true) W':=by
 refine⟨ds,[],before,[],before,[],hW,?_,hargs,?_,World.keptBut_mono (fun p hp=>⟨hp,.inr (.inl hp)⟩) (hb.frame (· ∈before)),fun h=>by cases h⟩
 ·rw[hres,hrt];exact trodAll_mk1 (shut_bool htb true)
 rw[hv,hvs];rfl
theorem slice_one {w:World}{r:Reach}{base:Nat}{t e:TypeId}{v:Value}(ht:P.underlying t=some (.slice e))(h:Value.okWide P w r base t v):v.oneCell'=true:=by
 obtain⟨a,len,cap,rfl⟩:=okWide_slice ht h;rfl
end
end Go.Eng
set_option maxHeartbeats 2000000
namespace Go.Proofs.YtcdijplheindaaaGreat
open Go Go.Eng Go.Geo
set_option maxRecDepth 100000 in
theorem closedD:closedB Tryz.prog [22,85,83,82,5,4]=true:=by kernel_rfl
theorem okD_u8 {n:Nat}{cs:List C}(h:OkC Tryz.prog maxLen n 5 cs):∃x:Int,cs=[.int .u8 x]∧0≤x∧x<256:=by
 cases n with
 |zero=>exact h.elim
 |succ n=>
  simp only[OkC,Tryz.underlying5]at h;obtain⟨x,rfl,h1,h2⟩:=h;have e1:IntKind.u8.min=0:=rfl;have e2:IntKind.u8.max=255:=rfl;rw[e1]at h1;rw[e2]at h2;exact⟨x,rfl,h1,by omega⟩
theorem okD_i8 {n:Nat}{cs:List C}(h:OkC Tryz.prog maxLen n 82 cs):∃x:Int,cs=[.int .i8 x]∧I8 x:=by
 cases n with
 |zero=>exact h.elim
 |succ n=>
  simp only[OkC,Tryz.underlying82]at h;obtain⟨x,rfl,h1,h2⟩:=h;exact⟨x,rfl,h1,h2⟩
theorem okD_bool {n:Nat}{cs:List C}(h:OkC Tryz.prog maxLen n 4 cs):∃x:Bool,cs=[.bool x]:=by
 cases n with
 |zero=>exact h.elim
 |succ n=>
  simp only[OkC,Tryz.underlying4]at h;exact h
theorem okD_pair {n:Nat}{cs:List C}(h:OkC Tryz.prog maxLen n 83 cs):∃x y:Int,cs=[.int .i8 x,.int .i8 y]∧I8 x∧I8 y:=by
 cases n with
 |zero=>exact h.elim
 |succ n=>
  simp only[OkC,Tryz.underlying83]at h;obtain⟨l,rfl,hl,h⟩:=h
  match l,hl with
  |[x,y],_=>
   obtain⟨a,ha,h1⟩:=okD_i8 (h x (by simp));obtain⟨b,hb,h2⟩:=okD_i8 (h y (by simp));exact⟨a,b,by rw[ha,hb];rfl,h1,h2⟩
set_option maxRecDepth 100000 in
theorem okD_dr {n:Nat}{cs:List C}(h:OkC Tryz.prog maxLen n 85 cs):∃d:Dr,cs=drL d∧d.ok:=by
 cases n with
 |zero=>exact h.elim
 |succ n=>
  simp only[OkC,Tryz.underlying85]at h;obtain⟨c1,r1,rfl,h1,c2,r2,rfl,h2,c3,r3,rfl,h3,c4,r4,rfl,h4,c5,r5,rfl,h5,c6,r6,rfl,h6,h7⟩:=h;have h7:r6=[]:=h7;subst h7;obtain⟨x1,rfl⟩:=okD_bool h1;obtain⟨x2,rfl⟩:=okD_bool h2;obtain⟨a0,a1,rfl,g1,g2⟩:=okD_pair h3;obtain⟨b0,b1,rfl,g3,g4⟩:=okD_pair h4;obtain⟨x5,rfl,g5⟩:=okD_u8 h5;obtain⟨x6,rfl,g6⟩:=okD_u8 h6;exact⟨⟨x1,x2,a0,a1,b0,b1,x5,x6⟩,rfl,⟨g1,g2,g3,g4⟩,g5,g6⟩
set_option maxRecDepth 100000 in
theorem okD_drs {n:Nat}{cs:List C}(h:OkC Tryz.prog maxLen n 22 cs):∃(c:C) (m:Nat) (f:Nat→Dr),cs=[c]∧(∀i,i<m→(f i).ok)∧CLe c (drC m f):=by
 cases n with
 |zero=>exact h.elim
 |succ n=>
  simp only[OkC,Tryz.underlying22,Tryz.underlying85]at h;obtain⟨m,g,hc,hm0,hm⟩:=h;have h5:Tryz.prog.cellsOf 85=8:=by kernel_rfl
  rw[h5]at hc hm;subst hc;obtain⟨f,hf⟩:=Classical.axiomOfChoice (r:=fun(i:Nat) (e:Dr)=>i<m→(List.range 8).map (g i)=drL e∧e.ok) (fun i=>by
   by_cases hi:i<m
   ·obtain⟨e,h1⟩:=okD_dr (hm i hi);exact⟨e,fun _=>h1⟩
   exact⟨⟨false,false,0,0,0,0,0,0⟩,fun h=>absurd h hi⟩)
  refine⟨_,m,f,rfl,fun i hi=>(hf i hi).2,CLe.rows rfl fun i j hi hj=>CLe.of_eq ?_⟩;rw[X7,←(hf i hi).1,List.getElem?_map,List.getElem?_range hj];rfl
end Go.Proofs.YtcdijplheindaaaGreat
