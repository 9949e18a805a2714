/-
  MatrixDeterminant: for every input the law returns true, and each argument reads afterwards as it read before. No condition beyond the given row's own cells.
  (Text 8 of 9; made by a program out of smaller texts.)
-/
import Derived.Test.YtchkplkghknabaaGreatP7
set_option linter.unusedSimpArgs false
set_option linter.unusedVariables false
set_option maxHeartbeats 16000000
set_option maxRecDepth 10000
open Nat renaming reduceAdd→J1,reduceMul→J2,reduceSub→J3,reduceEqDiff→J4,reduceLT→J5,reduceLeDiff→J6,reduceBEq→J7,reduceDiv→J8,reduceMod→J9,reducePow→J0
open Int renaming reduceToNat→K1,reduceLE→K2,reduceLT→K3,reduceEq→K4,reducePow→K5,reduceSub→K6,reduceNeg→K7,natCast_add→X2,natCast_one→X3,natCast_zero→X4
open List renaming getD_cons_zero→X0,getD_cons_succ→X1,length_take→X5,length_append→X6,getD_eq_getElem?_getD→X7,getElem?_eq_getElem→X8
namespace Go.Proofs.YtchkplkghknabaaGreat
open Go.Proofs.Tryz
open Go Go.Eng
open Go.Tw (El aE aH zE ai au QB cJ tB val In Rd lU TG cB bA a8 a5)
theorem M3 (a b:El)(hl:a.length<2^38)(ha:Qk a)(hb:Qk b):Pr prog 150 [eV a,eV b] (.one (.bool (decide (a=b)))):=by
 refine pw func150 ⟨[0,1,4,5,10,14,26],[]⟩ ?_;simp only[Tryz.f150,ntmps150,iz,seval];simp only[vx,T,seval,eV,ae];refine⟨fun h=>Lg ?_,fun h=>Lg ?_⟩
 ·rw[show decide (a=b)=false from decide_eq_false fun e=>h (by rw[e])];simp only[vx,T,seval,eV,ae];exact Ve rfl
 have hlen:a.length=b.length:=by omega
 simp only[vx,T,seval,eV,ae];refine Lk (fun y:{i:Nat//i≤a.length∧∀j,j<i→a.getD j default=b.getD j default}=>⟨[(0,eV a),(1,eV b),(4,.one (.bool false)),(5,.one (.int .i64 y.1))],[],2,27⟩) (fun y=>a.length-y.1) ⟨0,Nat.zero_le _,fun j hj=>absurd hj (Nat.not_lt_zero _)⟩ ?_ (fun⟨i,hi,hz⟩=>?_)
 ·refine Sa ?_;simp only[ry,seval,rz,eV,ae]
 have i1:=wI i (by omega);simp only[vx,T,seval,eV,ae];refine⟨fun g=>Lg ?_,fun g=>Lg ?_⟩
 ·have RP:i<a.length:=by omega
  have c:=AS _ _ (ha.get i) (hb.get i);have key:a.getD i default≠b.getD i default→decide (a=b)=false:=fun h=>decide_eq_false fun e=>h (by rw[e]);have SA:a.getD i default=b.getD i default→∀j,j<i+1→a.getD j default=b.getD j default:=fun h0 j hj=>by
   by_cases To:j<i
   ·exact hz j To
   obtain rfl:j=i:=by omega
   exact h0
  obtain⟨x,hx⟩:∃x,x=a.getD i default:=⟨_,rfl⟩;obtain⟨y,hy⟩:∃y,y=b.getD i default:=⟨_,rfl⟩;rw[←hx,←hy]at c key SA;simp only[vx,T,seval,eV,ae,←hx,←hy,qC];refine⟨by omega,by omega,Cg c ?_⟩;simp only[vx,T,seval,eV,ae];refine⟨fun h=>Lg ?_,fun h=>Lg ?_⟩
  ·rw[key fun e=>h (vo.2 e)];simp only[vx,T,seval,eV,ae];exact Ve rfl
  have e:x=y:=vo.1 (by omega);simp only[vx,T,seval,eV,ae,i1];refine Lq ⟨i+1,by omega,SA e⟩ ?_ (by show a.length-(i+1)<a.length-i;omega);refine Sa ?_;simp only[ry,seval,rz,eV,ae]
 have RP:i=a.length:=by omega
 subst RP;have e:a=b:=by
  refine List.ext_getElem hlen fun j h1 h2=>?_
  have:=hz j h1
  rwa [eN h1,eN h2]at this
 rw[decide_eq_true e];simp only[vx,T,seval,eV,ae];exact Ve rfl
theorem pz {h k:Nat}{t u:List El}(tk:Tk h t)(uk:Tk k u):Pr prog 110 [tV h t,tV k u] (.one (.bool (fa h k t u))):=by
 have h8:=tk.le8;have k8:=uk.le8;refine pw func110 ⟨[0,1,4,5,10,14,26],[]⟩ ?_;simp only[Tryz.f110,ntmps110,iz,seval];simp only[vx,T,seval,tV,tC];refine⟨fun g=>Lg ?_,fun g=>Lg ?_⟩
 ·rw[show fa h k t u=false by unfold fa;rw[decide_eq_false (by omega:¬k≤h)];rfl];simp only[vx,T,seval,tV,tC];exact Ve rfl
 have hkh:k≤h:=by omega
 simp only[vx,T,seval,tV,tC];refine Lk (fun y:{i:Nat//i≤k∧∀j,j<i→t.getD j []=u.getD j []}=>⟨[(0,tV h t),(1,tV k u),(4,.one (.bool false)),(5,.one (.int .i64 y.1))],[],2,27⟩) (fun y=>k-y.1) ⟨0,Nat.zero_le _,fun j hj=>absurd hj (Nat.not_lt_zero _)⟩ ?_ (fun⟨i,hi,hz⟩=>?_)
 ·refine Sa ?_;simp only[ry,seval,rz,tV,tC]
 have i1:=wI i (by omega);simp only[vx,T,seval,tV,tC];refine⟨fun g2=>Lg ?_,fun g2=>Lg ?_⟩
 ·have Ud:i<k:=by omega
  have c:=M3 (t.getD i []) (u.getD i []) (by rw[tk.len i (by omega)];exact aN (by omega)) (tk.q i (by omega)) (uk.q i Ud);have key:t.getD i []≠u.getD i []→fa h k t u=false:=fun h0=>by
   unfold fa;rw[Bool.and_eq_false_iff]
   right
   rw[List.all_eq_false];exact⟨i,List.mem_range.2 Ud,by simpa using h0⟩
  have SA:t.getD i []=u.getD i []→∀j,j<i+1→t.getD j []=u.getD j []:=fun h0 j hj=>by
   by_cases To:j<i
   ·exact hz j To
   obtain rfl:j=i:=by omega
   exact h0
  obtain⟨x,hx⟩:∃x,x=t.getD i []:=⟨_,rfl⟩;obtain⟨y,hy⟩:∃y,y=u.getD i []:=⟨_,rfl⟩;rw[←hx,←hy]at c key SA
  by_cases e:x=y
  ·rw[decide_eq_true e]at c;simp only[vx,T,seval,tV,tC,ae,←hx,←hy];refine⟨by omega,by omega,Cg c ?_⟩;simp only[vx,T,seval,tV,tC,i1];refine Lq ⟨i+1,by omega,SA e⟩ ?_ (by show k-(i+1)<k-i;omega);refine Sa ?_;simp only[ry,seval,rz,tV,tC]
  rw[decide_eq_false e]at c;rw[key e];simp only[vx,T,seval,tV,tC,ae,←hx,←hy];refine⟨by omega,by omega,Cg c ?_⟩;simp only[vx,T,seval,tV,tC];exact Ve rfl
 have Ud:i=k:=by omega
 subst Ud;rw[show fa h i t u=true by
  unfold fa;rw[decide_eq_true hkh,Bool.true_and,List.all_eq_true];exact fun j hj=>decide_eq_true (hz j (List.mem_range.1 hj))]
 simp only[vx,T,seval,tV,tC];exact Ve rfl
theorem xX {h:Nat}{t:List El}{a:El}(hh:h≤8)(hl:a.length≤2^h):Pr prog 112 [tV h t,eV a] (eV (cB h a)):=by
 have hp:=aN hh;have z:=ba 0 (by decide) (by decide);have hs:=dO (h:=h) hh;have e:cB h a=a++zE (2^h-a.length):=rfl;rw[e];obtain⟨N,hN⟩:∃N,N=2^h:=⟨_,rfl⟩;rw[←hN]at hs hl hp⊢;refine pw func112 ⟨[0,1,4,5,14],[]⟩ ?_;simp only[Tryz.f112,ntmps112,iz,seval];simp only[vx,T,seval,tV,tC,eV,ae];refine⟨⟨by omega,by omega⟩,?_⟩;refine Lk (fun y:{k:Nat//a.length+k≤N}=>⟨[(0,tV h t),(4,.one .nil),(5,.one (.own 1 4 0 (a.length+y.1)))],[(1,⟨.rows 62 4 (a.length+y.1) (fQ (a++zE y.1)),true⟩)],2,20⟩) (fun y=>N-(a.length+y.1)) ⟨0,by omega⟩ ?_ (fun⟨k,hk⟩=>?_)
 ·refine Sa ?_;simp only[ry,seval,rz,tV,tC,eV,ae];exact fun i j _ _=>by rw[show a++zE 0=a from List.append_nil a,if_neg (Nat.not_lt_zero _),Nat.sub_zero];rfl
 simp only;simp only[vx,T,seval,tV,tC,eV,ae,hs];refine⟨by omega,?_⟩;refine⟨fun g=>Lg ?_,fun g=>Lg ?_⟩
 ·simp only[vx,T,seval,tV,tC,eV,ae,hs];refine Cg z ?_;simp only[vx,T,seval,tV,tC,eV,ae,hs,QV,QC];refine⟨⟨by omega,by omega⟩,Lq ⟨k+1,by omega⟩ ?_ (by show N-(a.length+(k+1))<N-(a.length+k);omega)⟩;refine Sa ?_;simp only[ry,seval,rz,tV,tC,eV,ae,hs];exact⟨by omega,by omega,by rw[Dm];exact MD (by rw[X6,au])⟩
 simp only[vx,T,seval,tV,tC,eV,ae,hs];have ek:k=N-a.length:=by omega
 rw[←ek];exact fB.cell (dB.rows (by rw[X6,au]) fun i j _ _=>.refl _)
open Go Go.Eng
open Go.Tw (El aE aH zE ai au ar aq aa QB cJ ah ag tB aU ay val In Rd TG cB bA a8 a5 Ext lU)
theorem Gr {B X H:Nat}{U rs:List El}{N:Nat}{a:El}(hN:rs.length=N)(I:FK B X H 0 U rs)(ha:a.length=2^0)(hq:QB B a):Pr prog 113 [tV H U,tV N rs,eV a] (eV (a8 H U rs 0 a)):=by
 obtain⟨x,rfl⟩:=Go.Tw.bx ha;have hB:=I.hB;have hx:qm x≤B:=hq x (by simp);have f:=(dT (h:=H) (t:=U) I.tq.tk.le8 x).rows;have e:a8 H U rs 0 [x]=aU H x:=rfl;rw[e];refine pw func113 ⟨[0,1,2,6,7,8,9,10,13,27],[]⟩ ?_;simp only[Tryz.f113,ntmps113,iz,seval];simp only[vx,T,seval,tV,tC,eV,ae,QV,QC,qC,X0];refine Cg f ?_;simp only[vx,T,seval,tV,tC,eV,ae,QV,QC,qC,X0];exact Ve rfl
theorem xC {B X H:Nat}{U rs:List El}{N:Nat}(hN:rs.length=N):∀{k:Nat} {a:El},FK B X H k U rs→k≤rs.length→k≤8→a.length=2^k→QB B a→Pr prog 113 [tV H U,tV N rs,eV a] (eV (a8 H U rs k a))
 |0,a,I,_,_,ha,hq=>Gr hN I ha hq
 |k+1,a,I,Yo,XO,ha,hq=>by
  have I':=I.le (Nat.le_succ k);have Ss:=ah ha;have So:=ag ha;have c1:=xC hN I' (by omega) (by omega) Ss (hq.take _);have c2:=xC hN I' (by omega) (by omega) So (hq.drop _);have hB:=I.hB;have h3:=I.tq.h6;have hp:=aN (h:=k+1) XO;have hH:2^H≤64:=Nat.pow_le_pow_right (n:=2) (by decide) h3;have hn:(2^k:Nat)≤a.length:=by rw[ha,Nat.pow_succ];omega
  have cT:=fv hn;have cD:=eQ (a:=a) (n:=2^k);have c1:=c1.args (xs:=[tV H U,tV N rs,.one (bd a (2^k))]) ⟨.refl _,.refl _,.cell cT,trivial⟩;have c2:=c2.args (xs:=[tV H U,tV N rs,.one (a9 a (2^k))]) ⟨.refl _,.refl _,.cell cD,trivial⟩;have hg:∀i,i≤k→(IntKind.i64.wrap (1*2^(if i≤63 then i+1 else 64))<((a.length:Nat):Int)↔i<k):=fun i hi=>by
   have hs:=dO (h:=i+1) (by omega);rw[if_pos (by omega)]at hs⊢;rw[hs,ha]
   constructor
   ·intro h;refine Nat.lt_of_not_le fun h2=>?_
    have:=Nat.pow_le_pow_right (n:=2) (by decide) (show k+1≤i+1 by omega)
    omega
   intro h
   have:=Nat.pow_lt_pow_right (a:=2) (by decide) (show i+1<k+1 by omega)
   omega
  obtain⟨n,RS⟩:∃n,n=2^k:=⟨_,rfl⟩;have R4:a.length=2*n:=by rw[ha,Nat.pow_succ,RS];omega
  have w2:IntKind.i64.wrap (((a.length:Nat):Int).tdiv 2)=(n:Int):=by
   rw[R4,Int.tdiv_eq_ediv_of_nonneg (by omega),IntWalk.i64_in _ (by omega)];omega
  have w4:((a.length:Int)-(n:Int)).toNat=a.length-n:=by omega
  have RT:¬((a.length:Nat):Int)=1:=by
   have:=Nat.two_pow_pos k
   omega
  refine pw func113 ⟨[0,1,2,6,7,8,9,10,13,27],[]⟩ ?_;simp only[Tryz.f113,ntmps113,iz,seval];simp only[vx,T,seval,tV,tC,eV,ae,bd,a9,QV,QC,w2,w4];refine⟨fun h=>absurd h RT,fun _=>Lg ?_⟩;simp only[vx,T,seval,tV,tC,eV,ae,bd,a9,QV,QC,w2,w4];refine Lk (fun y:{i:Nat//i≤k}=>⟨[(0,tV H U),(1,tV N rs),(2,eV a),(6,.one .nil),(7,.one (.int .i64 n)),(8,.one (.int .i64 y.1))],[],1,54⟩) (fun y=>k-y.1) ⟨0,Nat.zero_le _⟩ ?_ (fun⟨i,hi⟩=>?_)
  ·refine Sa ?_;simp only[ry,seval,rz,tV,tC,eV,ae]
  simp only;have TK:=hg i hi;have wi:=wI i (by omega);simp only[vx,T,seval,tV,tC,eV,ae,bd,a9,QV,QC,w2,w4,wi];refine⟨by omega,?_⟩;refine⟨fun g=>Lg ?_,fun g=>Lg ?_⟩
  ·have Ud:=TK.1 g;simp only[vx,T,seval,tV,tC,eV,ae,bd,a9,QV,QC,w2,w4,wi];refine Lq ⟨i+1,by omega⟩ ?_ (by show k-(i+1)<k-i;omega);refine Sa ?_;simp only[ry,seval,rz,tV,tC,eV,ae]
  have Ud:i=k:=by
   have:¬i<k:=fun h=>g (TK.2 h)
   omega
  subst Ud;obtain⟨m,hm,lr⟩:=I.r i (by omega);have k1:=(I.m i (by omega) _ Ss (hq.take _)).q.1;have k2:=I.m i (by omega) _ So (hq.drop _);have Ts:(rs.getD i []).length≤2^H:=by rw[lr];exact Nat.pow_le_pow_right (by decide) hm
  have pd:=xX (h:=H) (t:=U) (a:=rs.getD i []) (by omega) Ts;have hX:=I.hX;have mu:=(fV I.hX I.tq.tk (a5 (H:=H) (T:=U) (rs:=rs) (k:=i) (a:=a.drop (2^i))) (bA Ts) k2).rows;have ad:=(ux (h:=H) (t:=U) (a8 H U rs i (a.take (2^i))) _ (by rw[a5];omega) (by rw[aa,a5]) (.of k1 (by omega)) (.of k2.q.2.2 (by omega))).rows;have er:a8 H U rs (i+1) a=aE (a8 H U rs i (a.take (2^i))) (ai H U (a8 H U rs i (a.drop (2^i))) (cB H (rs.getD i []))):=rfl;rw[←er]at ad;obtain⟨r,hr⟩:∃r,r=a8 H U rs (i+1) a:=⟨_,rfl⟩;obtain⟨x,hx⟩:∃x,x=a8 H U rs i (a.take (2^i)):=⟨_,rfl⟩;obtain⟨y,hy⟩:∃y,y=a8 H U rs i (a.drop (2^i)):=⟨_,rfl⟩;obtain⟨v,hv⟩:∃v,v=rs.getD i []:=⟨_,rfl⟩;obtain⟨p,UO⟩:∃p,p=cB H v:=⟨_,rfl⟩;rw[←hr,←hx]at ad;rw[←hx]at c1;rw[←hy]at c2;rw[←hr];rw[←hv]at pd;rw[←hy,←hv,←UO]at ad mu;rw[←UO]at pd;obtain⟨z,hz⟩:∃z,z=ai H U y p:=⟨_,rfl⟩;rw[←hz]at ad mu;have RP:i<rs.length:=by omega
  rw[←RS]at c1 c2;clear k1 k2 er hr hx hy UO hz lr Ts hm Ss So hq;simp only[vx,T,seval,tV,tC,eV,ae,bd,a9,QV,QC,w2,w4,wi,←hv];refine⟨⟨by omega,by omega⟩,Cg c1 ?_⟩;simp only[vx,T,seval,tV,tC,eV,ae,bd,a9,QV,QC,w2,w4,wi,←hv];refine⟨⟨by omega,by omega,by omega⟩,Cg c2 ?_⟩;simp only[vx,T,seval,tV,tC,eV,ae,bd,a9,QV,QC,w2,w4,wi,←hv];refine⟨⟨by omega,by omega⟩,Cg pd ?_⟩;simp only[vx,T,seval,tV,tC,eV,ae,bd,a9,QV,QC,w2,w4,wi,←hv];refine Cg mu ?_;simp only[vx,T,seval,tV,tC,eV,ae,bd,a9,QV,QC,w2,w4,wi,←hv];refine Cg ad ?_;simp only[vx,T,seval,tV,tC,eV,ae,bd,a9,QV,QC,w2,w4,wi,←hv];exact Ve rfl
theorem Dw {P:Program}{fn:FuncId}{x y:V}{w n n':Nat}{f g:Nat→Nat→C}{B:Bk}{R:V→Bk→Prop}(h:Mc P fn [x,y,.one (.rows w n' g)] B R)(hc:dB (.rows w n f) (.rows w n' g)):Mc P fn [x,y,.one (.rows w n f)] B R:=
 ⟨h.1,fun ok W vs l h1 h2 h3 h4 Sd=>h.2 ok W vs l h1 h2 h3 h4 (by
  generalize vs.toList=ls at Sd⊢
  match ls,Sd with
  |[_,_,v2],⟨a,b,c,_⟩=>exact⟨a,b,hc ok W v2 c,trivial⟩)⟩
theorem Eh {B X H:Nat}{U rs:List El}{N:Nat}{a:El}(hN:rs.length=N)(I:FK B X H 0 U rs)(ha:a.length=2^0)(hq:QB B a):Mc prog 113 [tV H U,.one (.own 0 1 0 N),eV a] (rB N rs) (Ml rs N (eV (a8 H U rs 0 a))):=by
 obtain⟨x,rfl⟩:=Go.Tw.bx ha;have hB:=I.hB;have hx:qm x≤B:=hq x (by simp);have f:=(dT (h:=H) (t:=U) I.tq.tk.le8 x).rows;have e:a8 H U rs 0 [x]=aU H x:=rfl;rw[e];refine mw func113 ⟨[0,1,2,6,7,8,9,10,13,27],[(7,(.cons 5 [6,7,8,9,10] (.cons 11 [] (.cons 12 [] (.cons 13 [] .nil .nil) .nil) .nil) .nil))]⟩ ?_;simp only[Tryz.f113,ntmps113,iz,seval];simp only[vx,T,seval,rB,tV,tC,eV,ae,QV,QC,qC,X0];refine Cg f ?_;simp only[vx,T,seval,rB,tV,tC,eV,ae,QV,QC,qC,X0];exact⟨rfl,rfl⟩
theorem uf {B X H:Nat}{U rs:List El}{N:Nat}(hN:rs.length=N):∀{k:Nat} {a:El},FK B X H k U rs→k≤rs.length→k≤8→a.length=2^k→QB B a→Mc prog 113 [tV H U,.one (.own 0 1 0 N),eV a] (rB N rs) (Ml rs N (eV (a8 H U rs k a)))
 |0,a,I,_,_,ha,hq=>Eh hN I ha hq
 |k+1,a,I,Yo,XO,ha,hq=>by
  have I':=I.le (Nat.le_succ k);have Ss:=ah ha;have So:=ag ha;have c1:=uf hN I' (by omega) (by omega) Ss (hq.take _);have c2:=uf hN I' (by omega) (by omega) So (hq.drop _);have hB:=I.hB;have h3:=I.tq.h6;have hp:=aN (h:=k+1) XO;have hH:2^H≤64:=Nat.pow_le_pow_right (n:=2) (by decide) h3;have hn:(2^k:Nat)≤a.length:=by rw[ha,Nat.pow_succ];omega
  have cT:=fv hn;have cD:=eQ (a:=a) (n:=2^k);have c1:Mc prog 113 [tV H U,.one (.own 0 1 0 N),.one (bd a (2^k))] (rB N rs) (Ml rs N (eV (a8 H U rs k (a.take (2^k))))):=Dw c1 cT;have c2:Mc prog 113 [tV H U,.one (.own 0 1 0 N),.one (a9 a (2^k))] (rB N rs) (Ml rs N (eV (a8 H U rs k (a.drop (2^k))))):=Dw c2 cD;have hg:∀i,i≤k→(IntKind.i64.wrap (1*2^(if i≤63 then i+1 else 64))<((a.length:Nat):Int)↔i<k):=fun i hi=>by
   have hs:=dO (h:=i+1) (by omega);rw[if_pos (by omega)]at hs⊢;rw[hs,ha]
   constructor
   ·intro h;refine Nat.lt_of_not_le fun h2=>?_
    have:=Nat.pow_le_pow_right (n:=2) (by decide) (show k+1≤i+1 by omega)
    omega
   intro h
   have:=Nat.pow_lt_pow_right (a:=2) (by decide) (show i+1<k+1 by omega)
   omega
  obtain⟨n,RS⟩:∃n,n=2^k:=⟨_,rfl⟩;have R4:a.length=2*n:=by rw[ha,Nat.pow_succ,RS];omega
  have w2:IntKind.i64.wrap (((a.length:Nat):Int).tdiv 2)=(n:Int):=by
   rw[R4,Int.tdiv_eq_ediv_of_nonneg (by omega),IntWalk.i64_in _ (by omega)];omega
  have w4:((a.length:Int)-(n:Int)).toNat=a.length-n:=by omega
  have RT:¬((a.length:Nat):Int)=1:=by
   have:=Nat.two_pow_pos k
   omega
  refine mw func113 ⟨[0,1,2,6,7,8,9,10,13,27],[(7,(.cons 5 [6,7,8,9,10] (.cons 11 [] (.cons 12 [] (.cons 13 [] .nil .nil) .nil) .nil) .nil))]⟩ ?_;simp only[Tryz.f113,ntmps113,iz,seval];simp only[vx,T,seval,rB,tV,tC,eV,ae,bd,a9,QV,QC,w2,w4];refine⟨fun h=>absurd h RT,fun _=>Lg ?_⟩;simp only[vx,T,seval,rB,tV,tC,eV,ae,bd,a9,QV,QC,w2,w4];refine Lk (fun y:{i:Nat//i≤k}=>⟨[(0,tV H U),(1,.one (.own 0 1 0 N)),(2,eV a),(6,.one .nil),(7,.one (.int .i64 n)),(8,.one (.int .i64 y.1))],[(0,⟨rB N rs,true⟩)],1,54⟩) (fun y=>k-y.1) ⟨0,Nat.zero_le _⟩ ?_ (fun⟨i,hi⟩=>?_)
  ·refine Sa ?_;simp only[ry,seval,rz,rB,tV,tC,eV,ae]
  simp only;have TK:=hg i hi;have wi:=wI i (by omega);simp only[vx,T,seval,rB,tV,tC,eV,ae,bd,a9,QV,QC,w2,w4,wi];refine⟨by omega,?_⟩;refine⟨fun g=>Lg ?_,fun g=>Lg ?_⟩
  ·have Ud:=TK.1 g;simp only[vx,T,seval,rB,tV,tC,eV,ae,bd,a9,QV,QC,w2,w4,wi];refine Lq ⟨i+1,by omega⟩ ?_ (by show k-(i+1)<k-i;omega);refine Sa ?_;simp only[ry,seval,rz,rB,tV,tC,eV,ae]
  have Ud:i=k:=by
   have:¬i<k:=fun h=>g (TK.2 h)
   omega
  subst Ud;obtain⟨m,hm,lr⟩:=I.r i (by omega);have k1:=(I.m i (by omega) _ Ss (hq.take _)).q.1;have k2:=I.m i (by omega) _ So (hq.drop _);have Ts:(rs.getD i []).length≤2^H:=by rw[lr];exact Nat.pow_le_pow_right (by decide) hm
  have pd:=xX (h:=H) (t:=U) (a:=rs.getD i []) (by omega) Ts;have hX:=I.hX;have mu:=(fV I.hX I.tq.tk (a5 (H:=H) (T:=U) (rs:=rs) (k:=i) (a:=a.drop (2^i))) (bA Ts) k2).rows;have ad:=(ux (h:=H) (t:=U) (a8 H U rs i (a.take (2^i))) _ (by rw[a5];omega) (by rw[aa,a5]) (.of k1 (by omega)) (.of k2.q.2.2 (by omega))).rows;have er:a8 H U rs (i+1) a=aE (a8 H U rs i (a.take (2^i))) (ai H U (a8 H U rs i (a.drop (2^i))) (cB H (rs.getD i []))):=rfl;rw[←er]at ad;obtain⟨r,hr⟩:∃r,r=a8 H U rs (i+1) a:=⟨_,rfl⟩;obtain⟨x,hx⟩:∃x,x=a8 H U rs i (a.take (2^i)):=⟨_,rfl⟩;obtain⟨y,hy⟩:∃y,y=a8 H U rs i (a.drop (2^i)):=⟨_,rfl⟩;obtain⟨v,hv⟩:∃v,v=rs.getD i []:=⟨_,rfl⟩;obtain⟨p,UO⟩:∃p,p=cB H v:=⟨_,rfl⟩;rw[←hr,←hx]at ad;rw[←hx]at c1;rw[←hy]at c2;rw[←hr];rw[←hv]at pd;rw[←hy,←hv,←UO]at ad mu;rw[←UO]at pd;obtain⟨z,hz⟩:∃z,z=ai H U y p:=⟨_,rfl⟩;rw[←hz]at ad mu;have RP:i<rs.length:=by omega
  rw[←RS]at c1 c2;clear k1 k2 er hr hx hy UO hz lr Ts hm Ss So hq;simp only[vx,T,seval,rB,tV,tC,eV,ae,bd,a9,QV,QC,w2,w4,wi,←hv];refine⟨⟨by omega,by omega⟩,⟨by omega,by omega,by omega⟩,Cm 0 (B:=rB N rs) rfl trivial c1 ?_⟩;rintro _ _ ⟨rfl,rfl⟩ _;simp only[vx,T,seval,rB,tV,tC,eV,ae,bd,a9,QV,QC,w2,w4,wi,←hv];refine⟨⟨by omega,by omega,by omega⟩,Cm 0 (B:=rB N rs) rfl trivial c2 ?_⟩;rintro _ _ ⟨rfl,rfl⟩ _;simp only[vx,T,seval,rB,tV,tC,eV,ae,bd,a9,QV,QC,w2,w4,wi,←hv];refine⟨⟨by omega,by omega⟩,Cg pd ?_⟩;simp only[vx,T,seval,rB,tV,tC,eV,ae,bd,a9,QV,QC,w2,w4,wi,←hv];refine Cg mu ?_;simp only[vx,T,seval,rB,tV,tC,eV,ae,bd,a9,QV,QC,w2,w4,wi,←hv];refine Cg ad ?_;simp only[vx,T,seval,rB,tV,tC,eV,ae,bd,a9,QV,QC,w2,w4,wi,←hv];exact⟨rfl,rfl⟩
open Go Go.Eng
open Go.Tw (El aE aH zE ai au QB cJ tB val In Rd lU TG cB bA a8 a5 Ext jC yX)
def QD (u:List El)(i:Nat)(x y:List El×List El):Prop:=
 ∃e w,Mc prog 113 [tV x.1.length x.1,.one (.own 0 1 0 i),eV (u.getD i [])] (rB i x.2) (Ml x.2 i (eV e))∧Pr prog 48 [tV x.1.length x.1,eV e] (.aB [tV y.1.length y.1,eV w,.one (.int .i64 0)])∧y.2=x.2++[w]
section
variable {A:List R}(S:Go.Tw.Src 64 A)(hA:Go.Tw.j9 A){t u:List El}
include S hA
theorem AV (G:TG A t)(Gu:TG A u):∃s:Nat→List El×List El,s 0=(t,[])∧(∀i,i≤u.length→KJ A t u i (s i))∧∀i,i<u.length→QD u i (s i) (s (i+1)):=by
 have h3:=Gu.nN hA;refine Go.Tw.chain (I:=KJ A t u) ⟨⟨[],(List.append_nil t).symm⟩,⟨G,rfl,fun i hi=>absurd hi (Nat.not_lt_zero _)⟩,fun _=>rfl⟩ fun i x hi hx=>?_;obtain⟨U,rs⟩:=x;obtain⟨⟨s,hs⟩,E,RI⟩:=hx;have hs:U=t++s:=hs;have E:Ext A u i U rs:=E;have lu:=(Gu.rd.rl i hi).1;have ci:=uf E.len (H3 S hA Gu E (by omega)) (by rw[E.len];exact Nat.le_refl _) (by omega) lu (Gu.qb S hA hi);have le:(a8 U.length U rs i (u.getD i [])).length=2^U.length:=a5;have ve:=Go.Tw.lv E (Nat.le_refl _) lu;have hm:val U.length U (a8 U.length U rs i (u.getD i []))∈A:=by rw[ve];exact Gu.mem i hi
 have hp:R.pos (val U.length U (a8 U.length U rs i (u.getD i []))):=by rw[ve];exact(Gu.rd.rl i hi).2
 have rb:=E.tg.Qj S hA le hm hp
 rcases tI S hA E.tg le (R.br.2 (.inr hp)) rb with⟨w,lw,vw,cw⟩|⟨no,c⟩
 ·refine⟨(U,rs++[w]),⟨_,w,ci,cw,rfl⟩,⟨s,hs⟩,?_,fun h=>RI fun j hj=>h j (by omega)⟩
  have:=E.up (S:=[]) (r:=w) (m:=U.length) (by rw[List.append_nil];exact E.tg) (by rw[List.append_nil];exact Nat.le_refl _) lw (by rw[List.append_nil,vw,ve])
  rwa [List.append_nil]at this
 have G':=E.tg.snoc le hm hp no;have hl:(U++[a8 U.length U rs i (u.getD i [])]).length=U.length+1:=by simp
 refine⟨(U++[a8 U.length U rs i (u.getD i [])],rs++[Go.Tw.dN U.length]),⟨_,Go.Tw.dN U.length,ci,?_,rfl⟩,⟨s++[a8 U.length U rs i (u.getD i [])],by rw[hs,List.append_assoc]⟩,?_,fun h=>?_⟩
 ·show Pr _ _ _ (.aB [tV (U++[a8 U.length U rs i (u.getD i [])]).length _,_,_]);rw[hl];exact c
 ·exact E.up G' (m:=U.length+1) (by rw[hl];exact Nat.le_refl _) Go.Tw.kC (by rw[Go.Tw.q0,ve])
 have eU:U=t:=RI fun j hj=>h j (by omega);have Se:=h i (by omega);rw[←eU]at Se;refine absurd ?_ (no _ Se);rw[ve];exact R.dk (R.br.2 (.inr (Gu.rd.rl i hi).2))
theorem Av (G:TG A t)(Gu:TG A u):∃U rs s,U=t++s∧Ext A u u.length U rs∧((∀j,j<u.length→In t.length t (R.sqrt (val j u (u.getD j []))))→U=t)∧
  Pr prog 111 [tV t.length t,tV u.length u] (.aB [tV U.length U,tV rs.length rs,.one (.int .i64 0)]):=by
 obtain⟨s,e0,hI,hS⟩:=AV S hA G Gu;have h3:=Gu.nN hA;obtain⟨⟨z,hz⟩,E,RI⟩:=hI u.length (Nat.le_refl _);refine⟨(s u.length).1,(s u.length).2,z,hz,E,RI,?_⟩;have hl:∀i,i≤u.length→(s i).2.length=i:=fun i hi=>(hI i hi).2.1.len;have Wi:∀i,i≤u.length→(s i).1.length≤6:=fun i hi=>(hI i hi).2.1.tg.nN hA;have e1:(s 0).1=t:=by rw[e0]
 rw[←e1];clear e0 e1 hI hz E RI;obtain⟨n,hn⟩:∃n,n=u.length:=⟨_,rfl⟩;rw[←hn]at hS h3 hl Wi⊢;rw[hl n (Nat.le_refl n)];refine pw func111 ⟨[0,1,4,5,6,7,8,9,10,11,15,32],[]⟩ ?_;simp only[Tryz.f111,ntmps111,iz,seval];simp only[vx,T,seval,tV,tC,eV,ae];refine Lk (fun y:{i:Nat//i≤n}=>⟨[(0,tV (s y.1).1.length (s y.1).1),(1,tV n u),(4,.one .nil),(5,.one .nil),(6,.one (.int .i64 0)),(7,.one (.own 1 1 0 y.1)),(8,.one (.int .i64 y.1))],[(1,⟨.rows 35 1 y.1 (fun j _=>ae ((s y.1).2.getD j [])),true⟩)],2,41⟩) (fun y=>n-y.1) ⟨0,Nat.zero_le _⟩ ?_ (fun⟨i,hi⟩=>?_)
 ·refine Sa ?_;simp only[ry,seval,rz,tV,tC,eV,ae]
 simp only;have wi:=wI i (by omega);simp only[vx,T,seval,tV,tC,eV,ae,wi];refine⟨fun g=>Lg ?_,fun g=>Lg ?_⟩
 ·have RP:i<n:=by omega
  obtain⟨e,w,ci,ca,er⟩:=hS i RP;have SZ:=hl i hi;have h3i:=Wi i hi;obtain⟨v,hv⟩:∃v,v=u.getD i []:=⟨_,rfl⟩;rw[←hv]at ci;obtain⟨U,hU⟩:∃U,U=(s i).1:=⟨_,rfl⟩;obtain⟨rs,S3⟩:∃rs,rs=(s i).2:=⟨_,rfl⟩;rw[←S3]at er SZ;rw[←hU,←S3]at ci;rw[←hU]at ca h3i;rw[←hU,←S3];simp only[vx,T,seval,tV,tC,eV,ae,←hv];refine⟨⟨by omega,by omega⟩,Cm 1 (B:=rB i rs) rfl trivial ci ?_⟩;rintro _ _ ⟨rfl,rfl⟩ _;simp only[vx,T,seval,rB,tV,tC,eV,ae,←hv];refine Cg ca ?_;simp only[vx,T,seval,rB,tV,tC,eV,ae,←hv,wi];have es:(s (i+1)).2=rs++[w]:=er;have e1:∀j,j<i→(rs++[w]).getD j []=rs.getD j []:=fun j hj=>Go.Tw.df (by omega);have e2:(rs++[w]).getD i []=w:=by rw[←SZ];exact Go.Tw.fO
  refine⟨⟨by omega,by omega⟩,Lq ⟨i+1,by omega⟩ ?_ (by show n-(i+1)<n-i;omega)⟩;refine Sa ?_;simp only[ry,seval,rz,tV,tC,eV,ae];rw[es];intro k j hk hj;obtain rfl:j=0:=by omega
  by_cases Vd:k<i
  ·rw[if_pos Vd,e1 k Vd]
  obtain rfl:k=i:=by omega
  rw[if_neg Vd,e2,Nat.sub_self];rfl
 have RP:i=n:=by omega
 subst RP;simp only[vx,T,seval,tV,tC,eV,ae,wi];exact Ve rfl
end
open Go Go.Eng
open Go.Tw (El aE aH zE ai au ar aq aa QB cJ tB val In Rd lU TG cB bA a8 a5 Ext jC yX ax qN lK)
theorem bJ {t u:List El}:fa t.length u.length t u=true↔∃s,t=u++s:=by
 unfold fa;rw[Bool.and_eq_true,decide_eq_true_eq,List.all_eq_true]
 constructor
 ·rintro⟨h1,h2⟩;refine⟨t.drop u.length,?_⟩;have e:t.take u.length=u:=by
   refine List.ext_getElem (by rw[X5];omega) fun i k1 k2=>?_
   have:=of_decide_eq_true (h2 i (List.mem_range.2 k2))
   rw[X7,X7,X8 (by omega),X8 k2]at this;rw[List.getElem_take];exact this
  conv=>lhs;rw[←List.take_append_drop u.length t,e]
 rintro⟨s,rfl⟩;exact⟨by rw[X6];omega,fun i hi=>decide_eq_true (Go.Tw.df (List.mem_range.1 hi))⟩
theorem Qk.pad {h:Nat}{a:El}(hq:Qk a):Qk (cB h a):=fun x hx=>by
 rcases List.mem_append.1 hx with hx|hx
 ·exact hq x hx
 rw[List.eq_of_mem_replicate hx];decide+kernel
theorem FY (x y:List El×El):dB (.rows 2 2 (fun i j=>[tC x.1.length x.1,ae x.2,tC y.1.length y.1,ae y.2].getD (i*2+j) .any)) (bU [x,y]):=by
 refine dB.rows rfl fun i j hi hj=>dB.of_eq ?_
 match i,hi,j,hj with
 |0,_,0,_=>rfl
 |0,_,1,_=>rfl
 |1,_,0,_=>rfl
 |1,_,1,_=>rfl
theorem pb (f:FuncId)(x y:List El×El)(U:List El)(ea eb ec:El)(hj:Pr prog 99 [.one (bU [x,y])] (.aB [.one (bU [(U,ea),(U,eb)]),.one (.int .i64 0)]))
  (hf:Pr prog f [tV U.length U,eV ea,eV eb] (eV ec)):Pr prog 143 [nX x,nX y,.one (.fn f 0 (fun _=>.any))] (.aB [nX (U,ec),.one (.int .i64 0)]):=by
 have hj:=hj.L9 (FY x y);refine pw func143 ⟨[0,1,2,3,4,6,7,8,9,10,19],[]⟩ ?_;simp only[Tryz.f143,ntmps143,iz,seval];simp only[vx,T,seval,nX,nV,tC,eV,ae];refine Cg hj ?_
 simp(config:={maxSteps:=400000}) only[vx,T,seval,bU,fp,bR,tC,ae,X0,X1]
 refine Cg hf ?_;simp only[vx,T,seval,eV,ae];exact Ve rfl
theorem I4 (x y:List El×El)(U:List El)(ea eb ec:El)(hj:Pr prog 99 [.one (bU [x,y])] (.aB [.one (bU [(U,ea),(U,eb)]),.one (.int .i64 0)]))
  (hf:Pr prog 144 [tV U.length U,eV ea,eV eb] (eV ec)):Pr prog 101 [nX x,nX y] (.aB [nX (U,ec),.one (.int .i64 0)]):=by
 have c:=pb _ x y U ea eb ec hj hf;refine pw func101 ⟨[0,1,2,3,4,5],[]⟩ ?_;simp only[Tryz.f101,ntmps101,iz,seval];simp only[vx,T,seval,nX,nV,tC,eV,ae];refine Cg c ?_;simp only[vx,T,seval,nX,nV,tC,eV,ae];exact Ve rfl
end Go.Proofs.YtchkplkghknabaaGreat
namespace Go.Tw
open Go Go.Eng
theorem ax.pad {A:List R}{t s:List El}{a:El}{x:R}{β μ:Nat}(h:ax A t a x β μ)(G:TG A (t++s)):ax A (t++s) (cB (t++s).length a) x β μ:=by
 have hl:t.length≤(t++s).length:=by rw[X6];omega
 refine⟨G,bA (by rw[h.len];exact Nat.pow_le_pow_right (by decide) hl),?_,h.sz⟩;rw[Go.Tw.so h.len hl,Go.Tw.eC (Nat.le_refl _),h.val]
theorem ax.image {A:List R}{t U rs:List El}{a:El}{x:R}{β μ:Nat}(h:ax A t a x β μ)(E:Ext A t t.length U rs):ax A U (a8 U.length U rs t.length a) x β μ:=
 ⟨E.tg,a5,by rw[Go.Tw.lv E (Nat.le_refl _) h.len,h.val],h.sz⟩
end Go.Tw
namespace Go.Proofs.YtchkplkghknabaaGreat
open Go.Proofs.Tryz
open Go Go.Eng
open Go.Tw (El aE aH zE ai au ar aq aa QB cJ tB val In Rd lU TG cB bA a8 a5 Ext jC yX ax qN lK jβ jμ)
theorem Gj:Tk 0 []:=⟨by decide,fun i h=>absurd h (Nat.not_lt_zero _),fun i h=>absurd h (Nat.not_lt_zero _)⟩
def Sm (β μ:Nat):Prop:=qN β μ<2^37
theorem Sm.of {β μ:Nat}(h1:β≤2^22)(h2:μ≤1000):Sm β μ:=by unfold Sm qN;omega
theorem Sm.mono {β μ β' μ':Nat}(H:Sm β' μ')(h1:β≤β')(h2:μ≤μ'):Sm β μ:=Nat.lt_of_le_of_lt (Go.Tw.Ld h1 h2) H
section
variable {A:List R}(S:Go.Tw.Src 64 A)(hA:Go.Tw.j9 A)
include S hA
theorem pT {t:List El}{a:El}{x:R}{β μ:Nat}(h:ax A t a x β μ)(hs:Sm β μ):Qk a:=.of (h.qb S hA) (Nat.lt_trans hs (by decide))
theorem mC {t:List El}(G:TG A t):Tk t.length t:=(lM S hA G).tk
theorem MC {x y:List El×El}{vx vy:R}{βx μx βy μy:Nat}(hx:ax A x.1 x.2 vx βx μx)(hy:ax A y.1 y.2 vy βy μy)(sx:Sm βx μx)(sy:Sm βy μy)(h1:βy≤jβ)(h2:μy≤jμ):
  ∃U ea eb,ax A U ea vx βx μx∧ax A U eb vy βy μy∧(∀z,In x.1.length x.1 z→In U.length U z)∧(∀z,In y.1.length y.1 z→In U.length U z)∧
   Pr prog 99 [.one (bU [x,y])] (.aB [.one (bU [(U,ea),(U,eb)]),.one (.int .i64 0)]):=by
 have xk:=mC S hA hx.tg;have yk:=mC S hA hy.tg;have x3:=hx.tg.nN hA;have y3:=hy.tg.nN hA;have s0:u6 [] x.1 x.1:=by
  by_cases h:x.1=[]
  ·rw[h];exact .inl ⟨bJ.2 ⟨[],rfl⟩,rfl⟩
  refine .inr (.inl ⟨?_,bJ.2 ⟨x.1,rfl⟩,rfl⟩);refine Bool.eq_false_iff.2 fun k=>?_;obtain⟨s,e⟩:=bJ.1 k;exact h (List.append_eq_nil_iff.1 e.symm).1
 -- what is shown of the common tower
 have fin:∀(U eb:_) (s:List El),U=x.1++s→u6 x.1 y.1 U→TG A U→ax A U eb vy βy μy→(∀z,In y.1.length y.1 z→In U.length U z)→vW U y eb→
   ∃U ea eb,ax A U ea vx βx μx∧ax A U eb vy βy μy∧(∀z,In x.1.length x.1 z→In U.length U z)∧(∀z,In y.1.length y.1 z→In U.length U z)∧
    Pr prog 99 [.one (bU [x,y])] (.aB [.one (bU [(U,ea),(U,eb)]),.one (.int .i64 0)]):=by
  intro U eb s hU st G nb iy sj;have uk:=mC S hA G;have na:ax A U (cB U.length x.2) vx βx μx:=by rw[hU]at G⊢;exact hx.pad G
  have ul:=G.nN hA;have pl:∀{e:El},e.length=2^U.length→e.length<2^38:=fun h=>by rw[h];exact aN (by omega)
  refine⟨U,cB U.length x.2,eb,na,nb,fun z hz=>?_,iy,?_⟩
  ·rw[hU];exact((Go.Tw.jJ (Nat.le_refl _) z).2 hz).le (by rw[X6];omega)
  have cm:=rN [x,y] (by simp) (fun i=>if i=0 then[]else if i=1 then x.1 else U) rfl (fun i hi=>by
    match i,hi with
    |0,_=>exact Gj
    |1,_=>exact xk
    |2,_=>exact uk) (fun i hi=>by
    match i,hi with
    |0,_=>exact xk
    |1,_=>exact yk) (fun i hi=>by
    match i,hi with
    |0,_=>exact s0
    |1,_=>exact st)
  refine Em [x,y] [(U,cB U.length x.2),(U,eb)] (by simp) rfl U uk (fun i hi=>by
    match i,hi with
    |0,_=>exact xk
    |1,_=>exact yk) cm fun i hi=>?_
  match i,hi with
  |0,_=>
   refine⟨rfl,pl na.len,pT S hA na sx,.inl ⟨bJ.2 ⟨s,hU⟩,?_⟩⟩;refine mD (by omega) ?_ ?_
   ·show 0<x.2.length;rw[hx.len];exact Nat.two_pow_pos _
   show x.2.length≤_;rw[hx.len,hU,X6];exact Nat.pow_le_pow_right (by decide) (by omega)
  |1,_=>exact⟨rfl,pl nb.len,pT S hA nb sy,sj⟩
 have ypos:0<y.2.length:=by rw[hy.len];exact Nat.two_pow_pos _
 -- padding y
 have padY:∀(U s:List El),U=y.1++s→TG A U→ax A U (cB U.length y.2) vy βy μy∧(∀z,In y.1.length y.1 z→In U.length U z)∧vW U y (cB U.length y.2):=by
  intro U s hU G;have ul:=G.nN hA;refine⟨by rw[hU]at G⊢;exact hy.pad G,fun z hz=>?_,.inl ⟨bJ.2 ⟨s,hU⟩,mD (by omega) ypos ?_⟩⟩
  ·rw[hU];exact((Go.Tw.jJ (Nat.le_refl _) z).2 hz).le (by rw[X6];omega)
  rw[hy.len,hU,X6];exact Nat.pow_le_pow_right (by decide) (by omega)
 cases hb:fa x.1.length y.1.length x.1 y.1 with
 |true=>
  obtain⟨s,e⟩:=bJ.1 hb;obtain⟨p1,p2,p3⟩:=padY x.1 s e hx.tg;exact fin x.1 _ [] (List.append_nil _).symm (.inl ⟨hb,rfl⟩) hx.tg p1 p2 p3
 |false=>
  cases Sl:fa y.1.length x.1.length y.1 x.1 with
  |true=>
   obtain⟨s,e⟩:=bJ.1 Sl;obtain⟨p1,p2,p3⟩:=padY y.1 [] (List.append_nil _).symm hy.tg;exact fin y.1 _ s e (.inr (.inl ⟨hb,Sl,rfl⟩)) hy.tg p1 p2 p3
  |false=>
   obtain⟨U,rs,s,eU,E,_,c⟩:=jN S hA hx.tg hy.tg;have st:u6 x.1 y.1 U:=.inr (.inr ⟨hb,Sl,rs,c⟩)
   cases Zy:fa U.length y.1.length U y.1 with
   |true=>
    obtain⟨s',e'⟩:=bJ.1 Zy;obtain⟨p1,p2,p3⟩:=padY U s' e' E.tg;exact fin U _ s eU st E.tg p1 p2 p3
   |false=>
    obtain⟨U',rs',s',eU',E',RI,c'⟩:=jN S hA E.tg hy.tg;obtain rfl:U'=U:=RI fun j hj=>E.Dt hj;obtain⟨_,_,n1,n2,qb,I⟩:=hy.Qp S hA h1 h2 E';have tq:=lM S hA E'.tg;have im:=kK (a:=y.2) ⟨tq,n1,n2,I.r,I.m⟩ (by rw[E'.len];exact Nat.le_refl _) (by omega) hy.len qb;exact fin U' _ s eU st E.tg (hy.image E') (fun z hz=>In.Bg E' (Nat.le_refl _) hz) (.inr ⟨Zy,U',rs',c',im⟩)
theorem E6 {x y:List El×El}{vx vy:R}{βx μx βy μy:Nat}(hx:ax A x.1 x.2 vx βx μx)(hy:ax A y.1 y.2 vy βy μy)(sx:Sm βx μx)(sy:Sm βy μy)(h1:βy≤jβ)(h2:μy≤jμ)
  (hm:Sm (βx+βy) (μx+μy)):
  ∃z:List El×El,ax A z.1 z.2 (vx*vy) (βx+βy) (μx+μy)∧Pr prog 101 [nX x,nX y] (.aB [nX z,.one (.int .i64 0)]):=by
 obtain⟨U,ea,eb,na,nb,_,_,j⟩:=MC S hA hx hy sx sy h1 h2;refine⟨(U,ai U.length U ea eb),⟨na.tg,aa,by rw[←na.val,←nb.val];exact Go.Tw.val_mul na.tg.rd.rl na.len nb.len,na.sz.mul nb.sz⟩,?_⟩;exact I4 x y U ea eb _ j (ft hm (lM S hA na.tg).tk _ _ na.len nb.len (na.QY S hA nb))
end
open Go Go.Eng
open Go.Tw (El aE aH zE ai au ar aq aa QB cJ tB val In Rd lU TG cB bA a8 a5 Ext jC yX ax qN lK jβ jμ)
def P9 (t x t':List El):Prop:=
 (t.length<x.length∧fa x.length t.length x t=true∧t'=x)∨(¬t.length<x.length∧fa t.length x.length t x=true∧t'=t)∨
 ((t.length<x.length→fa x.length t.length x t=false)∧fa t.length x.length t x=false∧∃rs:List El,Pr prog 111 [tV t.length t,tV x.length x] (.aB [tV t'.length t',tV rs.length rs,.one (.int .i64 0)]))
def PO (U:List El)(x:List El×El)(e:El):Prop:=
 (fa U.length x.1.length U x.1=true∧Pr prog 112 [tV U.length U,eV x.2] (eV e))∨
 (fa U.length x.1.length U x.1=false∧∃V rs:List El,Pr prog 111 [tV U.length U,tV x.1.length x.1] (.aB [tV V.length V,tV rs.length rs,.one (.int .i64 0)])∧Pr prog 113 [tV U.length U,tV rs.length rs,eV x.2] (eV e))
theorem y7 (l os:List (List El×El))(hl:l.length<2^30)(VB:os.length=l.length)(tt:Nat→List El)(h0:tt 0=[])(tk:∀i,i≤l.length→Tk (tt i).length (tt i))(xk:∀i,i<l.length→Tk (l.getD i default).1.length (l.getD i default).1)
  (sc:∀i,i<l.length→P9 (tt i) (l.getD i default).1 (tt (i+1)))
  (st:∀i,i<l.length→(os.getD i default).1=tt l.length∧(os.getD i default).2.length<2^38∧PO (tt l.length) (l.getD i default) (os.getD i default).2):
  Pr prog 74 [.one (bU l)] (.aB [.one (bU os),.one (.int .i64 0)]):=by
 have e0:(tt 0).length=0:=by rw[h0];rfl
 have uk:=tk l.length (Nat.le_refl _);have u8:=uk.le8;refine pw func74 ⟨[0,2,3,4,5,6,8,9,10,11,13,18,38,51,64,70,81],[]⟩ ?_;simp only[Tryz.f74,ntmps74,iz,seval];simp only[vx,T,seval,bU];refine Lk (fun y:{i:Nat//i≤l.length}=>⟨[(0,.one (bU l)),(2,.one .nil),(3,.one (.int .i64 0)),(4,tV (tt y.1).length (tt y.1)),(5,.one (.int .i64 y.1))],[],1,115⟩) (fun y=>l.length-y.1) ⟨0,Nat.zero_le _⟩ ?_ (fun⟨i,hi⟩=>?_)
 ·refine Sa ?_;simp only[ry,seval,rz,bU,tV,tC,e0]
 simp only;have wi:=wI i (by omega);simp only[vx,T,seval,bU,tV,tC,wi];refine⟨fun g=>Lg ?_,fun g=>Lg ?_⟩
 ·have RP:i<l.length:=by omega
  have sti:=sc i RP;have b1:=pz (tk i hi) (xk i RP);have b2:=pz (xk i RP) (tk i hi);have t8:=(tk i hi).le8;have x8:=(xk i RP).le8;obtain⟨x,hx⟩:∃x,x=l.getD i default:=⟨_,rfl⟩;rw[←hx]at sti b1 b2 x8;obtain⟨t,ht⟩:∃t,t=tt i:=⟨_,rfl⟩;rw[←ht]at sti b1 b2 t8;obtain⟨t',Ub⟩:∃t',t'=tt (i+1):=⟨_,rfl⟩;rw[←Ub]at sti;rw[←ht];clear uk u8 VB st;simp only[vx,T,seval,bU,fp,bR,tV,tC,←hx,wi];have mea:l.length-(i+1)<l.length-i:=by omega
  rcases sti with⟨g0,g1,e⟩|⟨g0,g1,e⟩|⟨g0,g1,rs,c⟩
  ·have b3:=pz (xk i RP) (tk i hi);rw[←hx,←ht,g1]at b3;refine⟨by omega,fun _=>Lg ?_,fun h=>absurd (by omega) h⟩;simp only[vx,T,seval,bU,fp,bR,tV,tC,←hx,wi]
   first|refine Cg b3 ?_|refine ⟨by omega,Cg b3 ?_⟩
   simp only[vx,T,seval,bU,fp,bR,tV,tC,←hx,wi]
   first|refine Lq ⟨i+1,by omega⟩ ?_ mea|refine ⟨by omega,Lq ⟨i+1,by omega⟩ ?_ mea⟩
   refine Sa ?_;simp only[ry,seval,rz,bU,tV,tC,←Ub,e]
  ·rw[g1]at b1;refine⟨by omega,fun h=>absurd h (by omega),fun _=>Lg ?_⟩;simp only[vx,T,seval,bU,fp,bR,tV,tC,←hx,wi]
   first|refine Cg b1 ?_|refine ⟨by omega,Cg b1 ?_⟩
   simp only[vx,T,seval,bU,fp,bR,tV,tC,←hx,wi]
   first|refine Lq ⟨i+1,by omega⟩ ?_ mea|refine ⟨by omega,Lq ⟨i+1,by omega⟩ ?_ mea⟩
   refine Sa ?_;simp only[ry,seval,rz,bU,tV,tC,←Ub,e]
  rw[g1]at b1;refine⟨by omega,fun h=>Lg ?_,fun _=>Lg ?_⟩
  ·rw[g0 (by omega)]at b2;simp only[vx,T,seval,bU,fp,bR,tV,tC,←hx,wi]
   first|refine Cg b2 ?_|refine ⟨by omega,Cg b2 ?_⟩
   simp only[vx,T,seval,bU,fp,bR,tV,tC,←hx,wi]
   first|refine Cg b1 ?_|refine ⟨by omega,Cg b1 ?_⟩
   simp only[vx,T,seval,bU,fp,bR,tV,tC,←hx,wi]
   first|refine Cg c ?_|refine ⟨by omega,Cg c ?_⟩
   simp only[vx,T,seval,bU,fp,bR,tV,tC,←hx,wi]
   first|refine Lq ⟨i+1,by omega⟩ ?_ mea|refine ⟨by omega,Lq ⟨i+1,by omega⟩ ?_ mea⟩
   refine Sa ?_;simp only[ry,seval,rz,bU,tV,tC,←Ub]
  simp only[vx,T,seval,bU,fp,bR,tV,tC,←hx,wi]
  first|refine Cg b1 ?_|refine ⟨by omega,Cg b1 ?_⟩
  simp only[vx,T,seval,bU,fp,bR,tV,tC,←hx,wi]
  first|refine Cg c ?_|refine ⟨by omega,Cg c ?_⟩
  simp only[vx,T,seval,bU,fp,bR,tV,tC,←hx,wi]
  first|refine Lq ⟨i+1,by omega⟩ ?_ mea|refine ⟨by omega,Lq ⟨i+1,by omega⟩ ?_ mea⟩
  refine Sa ?_;simp only[ry,seval,rz,bU,tV,tC,←Ub]
 have RP:i=l.length:=by omega
 subst RP;clear sc wi;obtain⟨U,hU⟩:∃U,U=tt l.length:=⟨_,rfl⟩;rw[←hU]at st uk u8⊢;simp only[vx,T,seval,bU,tV,tC];refine Lk (fun y:{i:Nat//i≤l.length}=>⟨[(0,.one (bU l)),(2,.one .nil),(3,.one (.int .i64 0)),(4,tV U.length U),(9,.one (.own 1 2 0 y.1)),(10,.one (.int .i64 y.1))],[(1,⟨.rows 37 2 y.1 (fp (os.take y.1)),true⟩)],2,115⟩) (fun y=>l.length-y.1) ⟨0,Nat.zero_le _⟩ ?_ (fun⟨i,hi⟩=>?_)
 ·refine Sa ?_;simp only[ry,seval,rz,bU,tV,tC]
 simp only;have wi:=wI i (by omega);simp only[vx,T,seval,bU,tV,tC,wi];refine⟨fun g=>Lg ?_,fun g=>Lg ?_⟩
 ·have RP:i<l.length:=by omega
  obtain⟨s1,s2,sj⟩:=st i RP;have b1:=pz uk (xk i RP);have RW:os.take (i+1)=os.take i++[os.getD i default]:=by rw[List.take_add_one,X7,X8 (by omega)];rfl
  have XP:(os.take i).length=i:=by rw[X5];omega
  have sn:=sZ XP (os.getD i default);rw[←RW]at sn;obtain⟨x,hx⟩:∃x,x=l.getD i default:=⟨_,rfl⟩;rw[←hx]at sj b1;obtain⟨o,ho⟩:∃o,o=os.getD i default:=⟨_,rfl⟩;rw[←ho]at s1 s2 sj sn;rw[s1]at sn;have mea:l.length-(i+1)<l.length-i:=by omega
  rcases sj with⟨g1,c⟩|⟨g1,V,rs,c,d⟩
  ·rw[g1]at b1;simp only[vx,T,seval,bU,fp,bR,tV,tC,←hx,wi]
   first|refine Cg b1 ?_|refine ⟨by omega,Cg b1 ?_⟩
   simp only[vx,T,seval,bU,fp,bR,tV,tC,←hx,wi]
   first|refine Cg c ?_|refine ⟨by omega,Cg c ?_⟩
   simp only[vx,T,seval,bU,fp,bR,tV,tC,eV,ae,←hx,wi];refine⟨⟨by omega,by omega⟩,Lq ⟨i+1,by omega⟩ ?_ mea⟩;refine Sa ?_;simp only[ry,seval,rz,bU,tV,tC,ae];exact sn
  rw[g1]at b1;simp only[vx,T,seval,bU,fp,bR,tV,tC,←hx,wi]
  first|refine Cg b1 ?_|refine ⟨by omega,Cg b1 ?_⟩
  simp only[vx,T,seval,bU,fp,bR,tV,tC,←hx,wi]
  first|refine Cg c ?_|refine ⟨by omega,Cg c ?_⟩
  simp only[vx,T,seval,bU,fp,bR,tV,tC,eV,ae,←hx,wi]
  first|refine Cg d ?_|refine ⟨by omega,Cg d ?_⟩
  simp only[vx,T,seval,bU,fp,bR,tV,tC,eV,ae,←hx,wi];refine⟨⟨by omega,by omega⟩,Lq ⟨i+1,by omega⟩ ?_ mea⟩;refine Sa ?_;simp only[ry,seval,rz,bU,tV,tC,ae];exact sn
 have RP:i=l.length:=by omega
 subst RP;have e:os.take l.length=os:=by rw[←VB,List.take_length]
 simp only[vx,T,seval,bU,tV,tC,wi,e];rw[VB];exact fB.refl _
open Go Go.Eng
open Go.Tw (El aE aH zE ai au ar aq aa QB cJ tB val In Rd lU TG cB bA a8 a5 Ext jC yX ax qN lK jβ jμ)
section
variable {A:List R}(S:Go.Tw.Src 64 A)(hA:Go.Tw.j9 A)
include S hA
theorem Hv {x y:List El×El}{vx vy:R}{βx μx βy μy:Nat}(hx:ax A x.1 x.2 vx βx μx)(hy:ax A y.1 y.2 vy βy μy)(sx:Sm βx μx)(sy:Sm βy μy)(h1:βy≤jβ)(h2:μy≤jμ):
  ∃U ea eb,ax A U ea vx βx μx∧ax A U eb vy βy μy∧(∀z,In x.1.length x.1 z→In U.length U z)∧(∀z,In y.1.length y.1 z→In U.length U z)∧
   Pr prog 74 [.one (bU [x,y])] (.aB [.one (bU [(U,ea),(U,eb)]),.one (.int .i64 0)]):=by
 have xk:=mC S hA hx.tg;have yk:=mC S hA hy.tg;have x3:=hx.tg.nN hA;have y3:=hy.tg.nN hA;have s0:P9 [] x.1 x.1:=by
  by_cases h:x.1=[]
  ·rw[h];exact .inr (.inl ⟨Nat.lt_irrefl _,bJ.2 ⟨[],rfl⟩,rfl⟩)
  exact .inl ⟨List.length_pos_iff.2 h,bJ.2 ⟨x.1,rfl⟩,rfl⟩
 -- what is shown of the common tower
 have fin:∀(U eb:_) (s:List El),U=x.1++s→P9 x.1 y.1 U→TG A U→ax A U eb vy βy μy→(∀z,In y.1.length y.1 z→In U.length U z)→PO U y eb→
   ∃U ea eb,ax A U ea vx βx μx∧ax A U eb vy βy μy∧(∀z,In x.1.length x.1 z→In U.length U z)∧(∀z,In y.1.length y.1 z→In U.length U z)∧
    Pr prog 74 [.one (bU [x,y])] (.aB [.one (bU [(U,ea),(U,eb)]),.one (.int .i64 0)]):=by
  intro U eb s hU st G nb iy sj;have uk:=mC S hA G;have na:ax A U (cB U.length x.2) vx βx μx:=by rw[hU]at G⊢;exact hx.pad G
  have ul:=G.nN hA;have pl:∀{e:El},e.length=2^U.length→e.length<2^38:=fun h=>by rw[h];exact aN (by omega)
  refine⟨U,cB U.length x.2,eb,na,nb,fun z hz=>?_,iy,?_⟩
  ·rw[hU];exact((Go.Tw.jJ (Nat.le_refl _) z).2 hz).le (by rw[X6];omega)
  refine y7 [x,y] [(U,cB U.length x.2),(U,eb)] (by simp) rfl (fun i=>if i=0 then[]else if i=1 then x.1 else U) rfl (fun i hi=>by
    match i,hi with
    |0,_=>exact Gj
    |1,_=>exact xk
    |2,_=>exact uk) (fun i hi=>by
    match i,hi with
    |0,_=>exact xk
    |1,_=>exact yk) (fun i hi=>by
    match i,hi with
    |0,_=>exact s0
    |1,_=>exact st) fun i hi=>?_
  have l0:PO U x (cB U.length x.2):=.inl ⟨bJ.2 ⟨s,hU⟩,xX (by omega) (by
   show x.2.length≤_;rw[hx.len,hU,X6];exact Nat.pow_le_pow_right (by decide) (by omega))⟩
  show _=U∧_∧PO U _ _
  match i,hi with
  |0,_=>exact⟨rfl,pl na.len,l0⟩
  |1,_=>exact⟨rfl,pl nb.len,sj⟩
 -- padding y
 have padY:∀(U s:List El),U=y.1++s→TG A U→ax A U (cB U.length y.2) vy βy μy∧(∀z,In y.1.length y.1 z→In U.length U z)∧PO U y (cB U.length y.2):=by
  intro U s hU G;have ul:=G.nN hA;refine⟨by rw[hU]at G⊢;exact hy.pad G,fun z hz=>?_,.inl ⟨bJ.2 ⟨s,hU⟩,xX (by omega) ?_⟩⟩
  ·rw[hU];exact((Go.Tw.jJ (Nat.le_refl _) z).2 hz).le (by rw[X6];omega)
  rw[hy.len,hU,X6];exact Nat.pow_le_pow_right (by decide) (by omega)
 have bl:∀{t u:List El},fa t.length u.length t u=true→u.length≤t.length:=fun h=>by
  obtain⟨s,e⟩:=bJ.1 h;rw[e,X6];omega
 cases hb:fa x.1.length y.1.length x.1 y.1 with
 |true=>
  obtain⟨s,e⟩:=bJ.1 hb
  have:=bl hb
  obtain⟨p1,p2,p3⟩:=padY x.1 s e hx.tg;exact fin x.1 _ [] (List.append_nil _).symm (.inr (.inl ⟨by omega,hb,rfl⟩)) hx.tg p1 p2 p3
 |false=>
  cases Sl:fa y.1.length x.1.length y.1 x.1 with
  |true=>
   obtain⟨s,e⟩:=bJ.1 Sl;have h1:=bl Sl;have RE:x.1.length<y.1.length:=by
    refine Nat.lt_of_le_of_ne h1 fun h=>?_;have l:=congrArg List.length e;rw[X6]at l;have s0:s=[]:=List.length_eq_zero_iff.1 (by omega);rw[s0,List.append_nil]at e;rw[bJ.2 ⟨[],by rw[List.append_nil];exact e.symm⟩]at hb
    cases hb
   obtain⟨p1,p2,p3⟩:=padY y.1 [] (List.append_nil _).symm hy.tg;exact fin y.1 _ s e (.inl ⟨RE,Sl,rfl⟩) hy.tg p1 p2 p3
  |false=>
   obtain⟨U,rs,s,eU,E,_,c⟩:=Av S hA hx.tg hy.tg;have st:P9 x.1 y.1 U:=.inr (.inr ⟨fun _=>Sl,hb,rs,c⟩)
   cases Zy:fa U.length y.1.length U y.1 with
   |true=>
    obtain⟨s',e'⟩:=bJ.1 Zy;obtain⟨p1,p2,p3⟩:=padY U s' e' E.tg;exact fin U _ s eU st E.tg p1 p2 p3
   |false=>
    obtain⟨U',rs',s',eU',E',RI,c'⟩:=Av S hA E.tg hy.tg;obtain rfl:U'=U:=RI fun j hj=>E.Dt hj;obtain⟨_,_,n1,n2,qb,I⟩:=hy.Qp S hA h1 h2 E';have tq:=lM S hA E'.tg;have y3':=hy.tg.nN hA;have im:=xC (a:=y.2) rfl ⟨tq,n1,n2,I.r,I.m⟩ (by rw[E'.len];exact Nat.le_refl _) (by omega) hy.len qb;exact fin U' _ s eU st E.tg (hy.image E') (fun z hz=>In.Bg E' (Nat.le_refl _) hz) (.inr ⟨Zy,U',rs',c',im⟩)
end
open Go Go.Eng
open Go.Tw (El aE aH zE ai au ar aq aa QB cJ tB val In Rd lU TG cB bA a8 a5 Ext jC yX ax qN lK jβ jμ)
theorem Mo (x y:List El×El)(U:List El)(ea eb:El)(hj:Pr prog 74 [.one (bU [x,y])] (.aB [.one (bU [(U,ea),(U,eb)]),.one (.int .i64 0)])):
  Pr prog 39 [nX x,nX y] (.aB [nX (U,ea),nX (U,eb),.one (.int .i64 0)]):=by
 have hj:=hj.L9 (FY x y);refine pw func39 ⟨[0,1,2,3,4,5,6,7,8,17],[(4,(.cons 6 [3,4,5] (.cons 7 [] (.cons 8 [] .nil .nil) .nil) .nil))]⟩ ?_;simp only[Tryz.f39,ntmps39,iz,seval];simp only[vx,T,seval,nX,nV,tC,eV,ae];refine Cg hj ?_;simp only[vx,T,seval,bU,fp,bR,tC,ae,X0,X1];exact Ve rfl
theorem HP (x y:List El×El)(U:List El)(ea eb ec:El)(hj:Pr prog 74 [.one (bU [x,y])] (.aB [.one (bU [(U,ea),(U,eb)]),.one (.int .i64 0)]))
  (hf:Pr prog 78 [tV U.length U,eV ea,eV eb] (eV ec)):Pr prog 55 [nX x,nX y] (.aB [nX (U,ec),.one (.int .i64 0)]):=by
 have c:=Mo x y U ea eb hj;refine pw func55 ⟨[0,1,2,3,4,5,6,15],[]⟩ ?_;simp only[Tryz.f55,ntmps55,iz,seval];simp only[vx,T,seval,nX,nV,tC,eV,ae];refine Cg c ?_;simp only[vx,T,seval,nX,nV,tV,tC,eV,ae];refine Cg hf ?_;simp only[vx,T,seval,nX,nV,tV,tC,eV,ae];exact Ve rfl
theorem IK (x y:List El×El)(U:List El)(ea eb ec:El)(hj:Pr prog 74 [.one (bU [x,y])] (.aB [.one (bU [(U,ea),(U,eb)]),.one (.int .i64 0)]))
  (hf:Pr prog 40 [tV U.length U,eV ea,eV eb] (eV ec)):Pr prog 13 [nX x,nX y] (.aB [nX (U,ec),.one (.int .i64 0)]):=by
 have c:=Mo x y U ea eb hj;refine pw func13 ⟨[0,1,2,3,4,5,6,15],[]⟩ ?_;simp only[Tryz.f13,ntmps13,iz,seval];simp only[vx,T,seval,nX,nV,tC,eV,ae];refine Cg c ?_;simp only[vx,T,seval,nX,nV,tV,tC,eV,ae];refine Cg hf ?_;simp only[vx,T,seval,nX,nV,tV,tC,eV,ae];exact Ve rfl
theorem Gx (x:List El×El)(ec:El)(hf:Pr prog 96 [tV x.1.length x.1,eV x.2] (eV ec)):Pr prog 60 [nX x] (nX (x.1,ec)):=by
 refine pw func60 ⟨[0,1,2],[]⟩ ?_;simp only[Tryz.f60,ntmps60,iz,seval];simp only[vx,T,seval,nX,nV,tC,eV,ae];refine Cg hf ?_;simp only[vx,T,seval,nX,nV,tV,tC,eV,ae];exact Ve rfl
theorem Gw (x y n z:List El×El)(hn:Pr prog 60 [nX y] (nX n))(ha:Pr prog 55 [nX x,nX n] (.aB [nX z,.one (.int .i64 0)])):
  Pr prog 57 [nX x,nX y] (.aB [nX z,.one (.int .i64 0)]):=by
 refine pw func57 ⟨[0,1,2,3,4,5],[]⟩ ?_;simp only[Tryz.f57,ntmps57,iz,seval];simp only[vx,T,seval,nX,nV,tC,eV,ae];refine Cg hn ?_;simp only[vx,T,seval,nX,nV,tV,tC,eV,ae];refine Cg ha ?_;simp only[vx,T,seval,nX,nV,tV,tC,eV,ae];exact Ve rfl
section
variable {A:List R}(S:Go.Tw.Src 64 A)(hA:Go.Tw.j9 A)
include S hA
theorem oA {x y:List El×El}{vx vy:R}{βx μx βy μy:Nat}(hx:ax A x.1 x.2 vx βx μx)(hy:ax A y.1 y.2 vy βy μy)(sx:Sm βx μx)(sy:Sm βy μy)(h1:βy≤jβ)(h2:μy≤jμ):
  ∃z:List El×El,ax A z.1 z.2 (vx+vy) (βx+βy+1) (μx+μy)∧Pr prog 55 [nX x,nX y] (.aB [nX z,.one (.int .i64 0)]):=by
 obtain⟨U,ea,eb,na,nb,_,_,j⟩:=Hv S hA hx hy sx sy h1 h2;refine⟨(U,aE ea eb),⟨na.tg,aq na.len nb.len,by rw[←na.val,←nb.val];exact Go.Tw.val_add na.len nb.len,na.sz.add nb.sz⟩,?_⟩;have u3:=na.tg.nN hA;have p8:2^U.length≤2^6:=Nat.pow_le_pow_right (by decide) u3;exact HP x y U ea eb _ j (ux ea eb (by rw[na.len];omega) (by rw[nb.len,na.len]) (pT S hA na sx) (pT S hA nb sy)).rows
theorem om {x y:List El×El}{vx vy:R}{βx μx βy μy:Nat}(hx:ax A x.1 x.2 vx βx μx)(hy:ax A y.1 y.2 vy βy μy)(sx:Sm βx μx)(sy:Sm βy μy)(h1:βy≤jβ)(h2:μy≤jμ)
  (hm:Sm (βx+βy) (μx+μy)):
  ∃z:List El×El,ax A z.1 z.2 (vx*vy) (βx+βy) (μx+μy)∧Pr prog 13 [nX x,nX y] (.aB [nX z,.one (.int .i64 0)]):=by
 obtain⟨U,ea,eb,na,nb,_,_,j⟩:=Hv S hA hx hy sx sy h1 h2;have tq:=lM S hA na.tg;refine⟨(U,ai U.length U ea eb),⟨na.tg,aa,by rw[←na.val,←nb.val];exact Go.Tw.val_mul na.tg.rd.rl na.len nb.len,na.sz.mul nb.sz⟩,?_⟩;exact IK x y U ea eb _ j (fV hm tq.tk na.len nb.len (na.QY S hA nb)).rows
theorem uI {x:List El×El}{vx:R}{βx μx:Nat}(hx:ax A x.1 x.2 vx βx μx)(sx:Sm βx μx):Pr prog 60 [nX x] (nX (x.1,aH x.2)):=by
 have u3:=hx.tg.nN hA;have p8:2^x.1.length≤2^6:=Nat.pow_le_pow_right (by decide) u3;exact Gx x _ (zj x.2 (by rw[hx.len];omega) (pT S hA hx sx)).rows
end
end Go.Proofs.YtchkplkghknabaaGreat
namespace Go.Tw
open Go Go.Eng
theorem ax.neg {A:List R}{t:List El}{a:El}{x:R}{β μ:Nat}(h:ax A t a x β μ):ax A t (aH a) (-x) β μ:=
 ⟨h.tg,by rw[ar,h.len],by rw[←h.val];exact Go.Tw.val_neg h.len,h.sz.neg⟩
end Go.Tw
namespace Go.Proofs.YtchkplkghknabaaGreat
open Go.Proofs.Tryz
open Go Go.Eng
open Go.Tw (El aE aH zE ai au ar aq aa QB cJ tB val In Rd lU TG cB bA a8 a5 Ext jC yX ax qN lK jβ jμ g9 bn)
theorem Ci {X:Nat}(hX:X<2^37){x:List El×El}(W:TQ x.1.length x.1)(ha:x.2.length=2^x.1.length)(hs:g9 X x.1.length x.1 x.2):
  Pr prog 59 [nX x] (.one (.int .i64 (bn x.1.length x.1 x.2))):=by
 have c:=N2 hX W ha hs;refine pw func59 ⟨[0,1,2],[]⟩ ?_;simp only[Tryz.f59,ntmps59,iz,seval];simp only[vx,T,seval,nX,nV,tC,eV,ae];refine Cg c ?_;simp only[vx,T,seval,nX,nV,tV,tC,eV,ae];exact Ve rfl
section
variable {A:List R}(S:Go.Tw.Src 64 A)(hA:Go.Tw.j9 A)
include S hA
theorem uy {x y:List El×El}{vx vy:R}{βx μx βy μy:Nat}(hx:ax A x.1 x.2 vx βx μx)(hy:ax A y.1 y.2 vy βy μy)(sx:Sm βx μx)(sy:Sm βy μy)(h1:βy≤jβ)(h2:μy≤jμ):
  ∃z:List El×El,ax A z.1 z.2 (vx+ -vy) (βx+βy+1) (μx+μy)∧Pr prog 57 [nX x,nX y] (.aB [nX z,.one (.int .i64 0)]):=by
 obtain⟨z,nz,c⟩:=oA S hA hx (x:=x) (y:=(y.1,aH y.2)) hy.neg sx sy h1 h2;exact⟨z,nz,Gw x y _ z (uI S hA hy sy) c⟩
end
open Go Go.Eng
open Go.Tw (El)
theorem rh (q:Rat)(t:List El):Pr prog 21 [QV q] (nV 0 t [q]):=by
 refine pw func21 ⟨[0,1,2],[]⟩ ?_;simp only[Tryz.f21,ntmps21,iz,seval];simp only[vx,T,seval,QV,QC];refine fB.Ps (.pN _ _) (.rows rfl fun i j hi hj=>.of_eq ?_);obtain rfl:i=0:=by omega
 show List.getD _ (0*4+j) _=_;rw[Nat.zero_mul,Nat.zero_add];exact dH q rfl j
theorem kH (z:Int)(h1: -9223372036854775808≤z)(h2:z≤9223372036854775807):Pr prog 20 [.one (.int .i64 z)] (nX ([],[Rat.ofInt z])):=by
 have c:=ba z h1 h2;have d:=rh (Rat.ofInt z) [];refine pw func20 ⟨[0,2],[]⟩ ?_;simp only[Tryz.f20,ntmps20,iz,seval];simp only[vx,T,seval];refine Cg c ?_;simp only[vx,T,seval,QV,QC];refine Cg d ?_;simp only[vx,T,seval,nX,nV,tC,ae];exact Ve rfl
open Go Go.Eng
open Go.Tw (El)
theorem Hr (x y z:List El×El)(s:Int)(hs:Pr prog 57 [nX x,nX y] (.aB [nX z,.one (.int .i64 0)]))(hg:Pr prog 59 [nX z] (.one (.int .i64 s))):
  Pr prog 41 [nX x,nX y] (.aB [.one (.int .i64 s),.one (.int .i64 0)]):=by
 refine pw func41 ⟨[0,1,2,3,4,5,6,7,15],[]⟩ ?_;simp only[Tryz.f41,ntmps41,iz,seval];simp only[vx,T,seval,nX,nV,tC,eV,ae];refine Cg hs ?_;simp only[vx,T,seval,nX,nV,tV,tC,eV,ae];refine Cg hg ?_;simp only[vx,T,seval,nX,nV,tV,tC,eV,ae];exact Ve rfl
theorem Cx (x y:List El×El)(s:Int)(hc:Pr prog 41 [nX x,nX y] (.aB [.one (.int .i64 s),.one (.int .i64 0)])):
  Pr prog 14 [nX x,nX y] (.one (.bool (decide (s=0)))):=by
 refine pw func14 ⟨[0,1,2,3,4,5,6],[]⟩ ?_;simp only[Tryz.f14,ntmps14,iz,seval];simp only[vx,T,seval,nX,nV,tC,eV,ae];refine Cg hc ?_;simp only[vx,T,seval,nX,nV,tV,tC,eV,ae];exact Ve rfl
theorem qj (x:List El×El)(U:List El)(w:El)(ha:Pr prog 48 [tV x.1.length x.1,eV x.2] (.aB [tV U.length U,eV w,.one (.int .i64 0)])):
  Pr prog 19 [nX x] (.aB [nX (U,w),.one (.int .i64 0)]):=by
 refine pw func19 ⟨[0,1,2,3,4,5,6,17],[]⟩ ?_;simp only[Tryz.f19,ntmps19,iz,seval];simp only[vx,T,seval,nX,nV,tC,eV,ae];refine Cg ha ?_;simp only[vx,T,seval,nX,nV,tV,tC,eV,ae];exact Ve rfl
theorem Is (x y z:List El×El)(v:El)(hi:Pr prog 94 [tV y.1.length y.1,eV y.2] (.aB [eV v,.one (.int .i64 0)]))(hm:Pr prog 13 [nX x,nX (y.1,v)] (.aB [nX z,.one (.int .i64 0)])):
  Pr prog 58 [nX x,nX y] (.aB [nX z,.one (.int .i64 0)]):=by
 refine pw func58 ⟨[0,1,2,3,4,5,6,7,17],[]⟩ ?_;simp only[Tryz.f58,ntmps58,iz,seval];simp only[vx,T,seval,nX,nV,tC,eV,ae];refine Cg hi ?_;simp only[vx,T,seval,nX,nV,tV,tC,eV,ae];refine Cg hm ?_;simp only[vx,T,seval,nX,nV,tV,tC,eV,ae];exact Ve rfl
open Go Go.Eng
open Go.Tw (El)
theorem Ob (n:Int)(d:Nat)(hn: -9223372036854775808≤n∧n≤9223372036854775807)(hd:d≤9223372036854775807)(h0:0<d)(k1:zn n<2^39)(k2:nl d<2^39):
  Pr prog 54 [.one (.int .i64 n),.one (.int .i64 d)] (nX ([],[mkRat n d])):=by
 have c:=oi n d hn hd h0 k1 k2;have e:=rh (mkRat n d) [];refine pw func54 ⟨[0,1,4],[]⟩ ?_;simp only[Tryz.f54,ntmps54,iz,seval];simp only[vx,T,seval];refine Cg c ?_;simp only[vx,T,seval,QV,QC];refine Cg e ?_;simp only[vx,T,seval,nX,nV,tC,ae];exact Ve rfl
open Go Go.Eng
open Go.Tw (El)
structure Bv where
 k:Nat
 a:Nat
 b:Nat
 n:Int
 d:Nat
instance:Inhabited Bv:=⟨⟨0,0,0,0,0⟩⟩
structure Bv.Ok (o:Bv):Prop where
 k:o.k<256
 a:o.a<256
 b:o.b<256
 n: -128≤o.n∧o.n≤127
 d:o.d<256
def oC (o:Bv):Nat→C
 |0=>.int .u8 o.k
 |1=>.int .u8 o.a
 |2=>.int .u8 o.b
 |3=>.int .i8 o.n
 |4=>.int .u8 o.d
 |_=>.any
def p7 (r:List Bv):V:=.one (.rows 5 r.length (fun i=>oC (r.getD i default)))
def BO (k q q':Nat)(a b x:List El×El):Prop:=
 (k=1∧q'=q∧Pr prog 55 [nX a,nX b] (.aB [nX x,.one (.int .i64 0)]))∨
 (k=2∧q'=q∧Pr prog 57 [nX a,nX b] (.aB [nX x,.one (.int .i64 0)]))∨
 (k=3∧q'=q∧Pr prog 13 [nX a,nX b] (.aB [nX x,.one (.int .i64 0)]))∨
 (k=4∧q'=q∧Pr prog 58 [nX a,nX b] (.aB [nX x,.one (.int .i64 0)]))∨
 (k=4∧q'=q∧x=a∧Pr prog 58 [nX a,nX b] (.aB [.agg [.nil,.nil],.one (.int .i64 6)]))∨
 (k=5∧∃s c,Pr prog 59 [nX a] (.one (.int .i64 s))∧((s<0∧Pr prog 60 [nX a] (nX c))∨(¬s<0∧c=a))∧
  ((q<3∧q'=q+1∧Pr prog 19 [nX c] (.aB [nX x,.one (.int .i64 0)]))∨(¬q<3∧q'=q∧x=a)))
def BS (o:Bv)(q:Nat)(l:List (List El×El))(q':Nat)(l':List (List El×El)):Prop:=
 ∃f x y z,Pr prog 54 [.one (.int .i64 o.n),.one (.int .i64 (o.d%8+1:Nat))] (nX f)∧
  (((l=[]∨o.k%6=0)∧q'=q∧x=f)∨(l≠[]∧BO (o.k%6) q q' (l.getD (o.a%l.length) default) (l.getD (o.b%l.length) default) x))∧
  ((l=[]∧y=x)∨(l≠[]∧Pr prog 61 [nX x] (.one (.bool false))∧y=x)∨(l≠[]∧Pr prog 61 [nX x] (.one (.bool true))∧y=l.getD (l.length-1) default))∧
  Pr prog 62 [nX y] (nX z)∧l'=l++[z]
theorem yi (r:List Bv)(hr:∀o∈r,o.Ok)(Vz:r.length<2^63)(ro:Nat→Nat)(l:Nat→List (List El×El))(h0:ro 0=0)(l0:l 0=[])(hll:∀i,i≤24→i≤r.length→(l i).length=i∧ro i≤3)
  (st:∀i,i<24→i<r.length→BS (r.getD i default) (ro i) (l i) (ro (i+1)) (l (i+1))):Pr prog 28 [p7 r] (.one (bU (l (min r.length 24)))):=by
 obtain⟨N,hN⟩:∃N,N=min r.length 24:=⟨_,rfl⟩;rw[←hN];have l0':(l 0).length=0:=by rw[l0];rfl
 refine pw func28 ⟨[0,2,3,4,5,6,7,8,9,10,11,12,13,14,15,16,17,18,19,27,51,73,76,80,92,104,116,128,146],[(9,(.cons 20 [9,10,11,12,13,14,15,16,17] (.cons 21 [] .nil .nil) .nil))]⟩ ?_;simp only[Tryz.f28,ntmps28,iz,seval];simp only[vx,T,seval,p7];refine Lk (fun y:{i:Nat//i≤24∧i≤r.length}=>⟨[(0,p7 r),(2,.one .nil),(3,.one (.own 1 2 0 (l y.1).length)),(4,.one (.int .i64 (ro y.1))),(5,.one (.int .i64 y.1))],[(1,⟨.rows 37 2 (l y.1).length (fp (l y.1)),true⟩)],2,159⟩) (fun y=>24-y.1) ⟨0,by omega,by omega⟩ ?_ (fun⟨i,hi,Xd⟩=>?_)
 ·refine Sa ?_;simp only[ry,seval,rz,p7,l0',h0]
 simp only;have wi:=wI i (by omega);simp only[vx,T,seval,p7];refine⟨fun g=>Lg ?_,fun g=>Lg ?_⟩
 ·simp only[vx,T,seval,p7];refine⟨fun g2=>Lg ?_,fun g2=>Lg ?_⟩
  ·have RP:i<r.length:=by omega
   have ok:(r.getD i default).Ok:=hr _ (by rw[X7,X8 RP];exact List.getElem_mem _);obtain⟨f,x,y,z,cf,hx,hy,ct,SE⟩:=st i (by omega) RP;obtain⟨SZ,hq⟩:=hll i hi Xd;have hq':=(hll (i+1) (by omega) RP).2;obtain⟨o,ho⟩:∃o,o=r.getD i default:=⟨_,rfl⟩;rw[←ho]at ok cf hx;obtain⟨L,hL⟩:∃L,L=l i:=⟨_,rfl⟩;rw[←hL]at hx hy SE SZ;obtain⟨L',hL'⟩:∃L',L'=l (i+1):=⟨_,rfl⟩;rw[←hL']at SE;obtain⟨q,hqe⟩:∃q,q=ro i:=⟨_,rfl⟩;rw[←hqe]at hx hq;obtain⟨q',WR⟩:∃q',q'=ro (i+1):=⟨_,rfl⟩;rw[←WR]at hx hq';rw[←hL,←hqe];obtain⟨k1,k2,k3,k4,k5⟩:=ok;have o1:(o.d:Int).tmod 8=((o.d%8:Nat):Int):=rfl;have w1:IntKind.i64.wrap o.n=o.n:=IntWalk.i64_in _ (by omega);have w2:IntKind.i64.wrap ((o.d%8:Nat):Int)=((o.d%8:Nat):Int):=IntWalk.i64_in _ (by omega);have w3:IntKind.i64.wrap (((o.d%8:Nat):Int)+1)=((o.d%8+1:Nat):Int):=by rw[IntWalk.i64_in _ (by omega)];omega
   have w4:IntKind.i64.wrap (o.a:Int)=o.a:=IntWalk.i64_in _ (by omega);have w5:IntKind.i64.wrap (o.b:Int)=o.b:=IntWalk.i64_in _ (by omega);have w6:IntKind.i64.wrap ((i:Int)-1)=(i:Int)-1:=IntWalk.i64_in _ (by omega);have o3:(o.a:Int).tmod (i:Int)=((o.a%i:Nat):Int):=rfl;have o4:(o.b:Int).tmod (i:Int)=((o.b%i:Nat):Int):=rfl;have o2:(o.k:Int).tmod 6=((o.k%6:Nat):Int):=rfl;clear st hr hll h0 l0 l0' hi Xd;simp only[vx,T,seval,p7,←ho,oC,o1,o2];refine⟨by omega,?_⟩;simp only[w1,w2,w3];refine Cg cf ?_
   by_cases RT:L=[]
   ·obtain⟨rfl,rfl⟩:q'=q∧x=f:=by
     rcases hx with⟨_,h⟩|⟨h,_⟩
     ·exact h
     exact absurd RT h
    obtain rfl:y=x:=by
     rcases hy with⟨_,h⟩|⟨h,_⟩|⟨h,_⟩
     ·exact h
     ·exact absurd RT h
     exact absurd RT h
    subst RT;obtain rfl:i=0:=SZ.symm;simp only[vx,T,seval,nX,nV,tC,ae,o2];refine Cg ct ?_;simp only[vx,T,seval,nX,nV,tC,ae,wi];refine Lq ⟨1,by omega,RP⟩ ?_ (by show 24-1<24-0;omega);have S7:L'=[z]:=SE;refine Sa ?_;simp only[ry,seval,rz,p7,←hL',S7,←WR,List.length_cons,List.length_nil];exact⟨rfl,sZ (ks:=[]) rfl z⟩
   have ip:0<i:=by rw[←SZ];exact List.length_pos_iff.2 RT
   obtain⟨b,cl,hyb⟩:∃b:Bool,Pr prog 61 [nX x] (.one (.bool b))∧((b=false∧y=x)∨(b=true∧y=L.getD (i-1) default)):=by
    rcases hy with⟨h,_⟩|⟨_,h1,h2⟩|⟨_,h1,h2⟩
    ·exact absurd h RT
    ·exact⟨false,h1,.inl ⟨rfl,h2⟩⟩
    exact⟨true,h1,.inr ⟨rfl,by rw[h2,SZ]⟩⟩
   clear hy;rw[SZ]at hx;have ia:o.a%i<i:=Nat.mod_lt _ ip;have ib:o.b%i<i:=Nat.mod_lt _ ip;obtain⟨a,V9⟩:∃a,a=L.getD (o.a%i) default:=⟨_,rfl⟩;obtain⟨c,Vg⟩:∃c,c=L.getD (o.b%i) default:=⟨_,rfl⟩;rw[←V9,←Vg]at hx;have w7:((i:Int)-1).toNat=i-1:=by omega
   have w8:=wI q (by omega)
   rcases hx with⟨hx,rfl,rfl⟩|⟨_,hbo⟩
   have hk:=hx.resolve_left RT;simp only[vx,T,seval,nX,nV,tC,ae,o2,hk,SZ,w4,w5,o3,o4,fp,←V9,←Vg,bR];refine⟨fun _=>Lg ?_,fun h=>absurd (by omega) h⟩;simp only[vx,T,seval,nX,nV,tC,ae,o2,hk,SZ,w4,w5,o3,o4,fp,←V9,←Vg,bR]
   rotate_left
   rcases hbo with⟨hk,rfl,c1⟩|⟨hk,rfl,c1⟩|⟨hk,rfl,c1⟩|⟨hk,rfl,c1⟩|⟨hk,rfl,rfl,c1⟩|⟨hk,s,d,c1,c2,c3⟩
   iterate 6 (simp only[vx,T,seval,nX,nV,tC,ae,o2,hk,SZ,w4,w5,o3,o4,fp,←V9,←Vg,bR];refine⟨fun _=>Lg ?_,fun h=>absurd (by omega) h⟩;simp only[vx,T,seval,nX,nV,tC,ae,o2,hk,SZ,w4,w5,o3,o4,fp,←V9,←Vg,bR];refine⟨by omega,by omega,by omega,by omega,by omega,Cg c1 ?_⟩;simp only[vx,T,seval,nX,nV,tC,ae,o2,hk,SZ,w4,w5,o3,o4,fp,←V9,←Vg,bR];rotate_left)
   rotate_left
   iterate 4 (refine Cg (vv x a) ?_;simp only[vx,T,seval,nX,nV,tC,ae,o2,hk,SZ,w4,w5,o3,o4,fp,←V9,←Vg,bR];rotate_left)
   refine Cg (Cp x) ?_;simp only[vx,T,seval,nX,nV,tC,ae,o2,hk,SZ,w4,w5,o3,o4,fp,←V9,←Vg,bR]
   rotate_left
   rcases c2 with⟨g3,c2⟩|⟨g3,rfl⟩
   refine⟨fun _=>Lg ?_,fun h=>absurd g3 h⟩;simp only[vx,T,seval,nX,nV,tC,ae,o2,hk,SZ,w4,w5,o3,o4,fp,←V9,←Vg,bR];refine Cg c2 ?_;simp only[vx,T,seval,nX,nV,tC,ae,o2,hk,SZ,w4,w5,o3,o4,fp,←V9,←Vg,bR]
   rotate_left
   refine⟨fun h=>absurd h g3,fun _=>Lg ?_⟩;simp only[vx,T,seval,nX,nV,tC,ae,o2,hk,SZ,w4,w5,o3,o4,fp,←V9,←Vg,bR]
   rotate_right
   iterate 2 (
    rcases c3 with⟨g4,rfl,c3⟩|⟨g4,rfl,rfl⟩
    refine⟨fun _=>Lg ?_,fun h=>absurd (by omega) h⟩;simp only[vx,T,seval,nX,nV,tC,ae,w8];refine Cg c3 ?_;simp only[vx,T,seval,nX,nV,tC,ae,w8];refine Cg (vv x d) ?_;simp only[vx,T,seval,nX,nV,tC,ae,w8,SZ]
    rotate_left
    refine⟨fun h=>absurd h (by omega),fun _=>Lg ?_⟩;simp only[vx,T,seval,nX,nV,tC,ae,w8,SZ]
    rotate_left)
   all_goals
    refine⟨fun _=>Lg ?_,fun h=>absurd (by omega) h⟩;simp only[vx,T,seval,nX,nV,tC,ae];refine Cg cl ?_;simp only[vx,T,seval,nX,nV,tC,ae]
    rcases hyb with⟨rfl,rfl⟩|⟨rfl,Zi⟩
    ·simp only[vx,T,seval,nX,nV,tC,ae];refine Cg ct ?_;simp only[vx,T,seval,nX,nV,tC,ae,wi,SZ];refine⟨by omega,Lq ⟨i+1,by omega,RP⟩ ?_ (by show 24-(i+1)<24-i;omega)⟩;refine Sa ?_;simp only[ry,seval,rz,p7,←hL',SE,←WR,X6,List.length_cons,List.length_nil,SZ];exact sZ SZ z
    simp only[vx,T,seval,nX,nV,tC,ae,SZ,w6,w7,fp,←Zi,bR];refine⟨by omega,?_⟩;refine Cg ct ?_;simp only[vx,T,seval,nX,nV,tC,ae,wi,SZ];refine⟨by omega,Lq ⟨i+1,by omega,RP⟩ ?_ (by show 24-(i+1)<24-i;omega)⟩;refine Sa ?_;simp only[ry,seval,rz,p7,←hL',SE,←WR,X6,List.length_cons,List.length_nil,SZ];exact sZ SZ z
  obtain rfl:i=N:=by omega
  simp only[vx,T,seval,p7];exact Ve rfl
 obtain rfl:i=N:=by omega
 simp only[vx,T,seval,p7];exact Ve rfl
open Go Go.Eng
open Go.Tw (El ax qN jβ jμ bn)
section
variable {A:List R}(S:Go.Tw.Src 64 A)(hA:Go.Tw.j9 A)
include S hA
end
open Go Go.Eng
open Go.Tw (El ax qN jβ jμ bn bO TG gW QB lK val dN In cJ tB aH)
theorem E0 (x y:List El×El)(hi:Pr prog 94 [tV y.1.length y.1,eV y.2] (.aB [.one .nil,.one (.int .i64 6)])):
  Pr prog 58 [nX x,nX y] (.aB [.agg [.nil,.nil],.one (.int .i64 6)]):=by
 refine pw func58 ⟨[0,1,2,3,4,5,6,7,17],[]⟩ ?_;simp only[Tryz.f58,ntmps58,iz,seval];simp only[vx,T,seval,nX,nV,tC,eV,ae];refine Cg hi ?_;simp only[vx,T,seval,nX,nV,tV,tC,eV,ae];exact Ve rfl
theorem DP {a:El}(h:∀i,i<a.length→¬nD 2 (a.getD i default)):gW 64 a:=by
 have:QB 2 a:=fun c hc=>by
  obtain⟨i,hi,rfl⟩:=List.mem_iff_getElem.1 hc
  have:=h i hi
  rw[X7,X8 hi,Option.getD_some]at this;unfold nD at this;unfold qm;omega
 exact this.bits
theorem FU {A:List R}{x:List El×El}{v:R}{β μ:Nat}(h:ax A x.1 x.2 v β μ)(hl:¬Po 2 x):bO A 64 x.1 x.2 v:=
 ⟨h.tg,h.len,h.val,DP fun i hi hq=>hl (.inl ⟨i,hi,hq⟩),fun j hj=>DP fun i hi hq=>hl (.inr ⟨j,hj,i,hi,hq⟩)⟩
theorem lA {A:List R}{n:Int}{d:Nat}(hn: -128≤n∧n≤127)(h0:0<d)(hd:d≤8):bO A 64 [] [mkRat n d] (R.q (mkRat n d)):=by
 refine⟨⟨⟨fun i hi=>absurd hi (Nat.not_lt_zero _),fun i hi=>absurd hi (Nat.not_lt_zero _)⟩,fun i hi=>absurd hi (Nat.not_lt_zero _)⟩,rfl,rfl,QB.bits (B:=2) fun c hc=>?_,fun i hi=>absurd hi (Nat.not_lt_zero _)⟩;rw[List.mem_singleton.1 hc];refine Nat.le_trans (Mh h0) ?_;have h1:nl n.natAbs≤2:=aD (by have:BB^2=18446744073709551616:=rfl;omega);have h2:nl d≤2:=aD (by have:BB^2=18446744073709551616:=rfl;omega);show max (nl n.natAbs) _≤_;omega
theorem Ed:R.sqrt (R.q 0)=R.q 0:=R.P7 (R.dk (R.br.2 (.inl rfl)))
theorem xq:Sm 520 8∧Sm (520+520) (8+8):=⟨.of (by decide) (by decide),.of (by decide) (by decide)⟩
section
variable {A:List R}(S:Go.Tw.Src 64 A)(XR:A.length≤3)
include S XR
omit S in
theorem re {x:List El×El}{v:R}(h:bO A 64 x.1 x.2 v):ax A x.1 x.2 v 520 8:=by
 have h8:2^x.1.length≤2^3:=Nat.pow_le_pow_right (by decide) (Nat.le_trans h.tg.mn XR);exact h.num.mono (by omega) h8
theorem ME (h2:A.length≤2){c:List El×El}{v:R}(h:bO A 64 c.1 c.2 v)(hn:R.nn v):∃(A':List R) (x:List El×El),Go.Tw.Src 64 A'∧(∀a,a∈A→a∈A')∧A'.length≤A.length+1∧ax A' x.1 x.2 (R.sqrt v) 0 1∧Pr prog 19 [nX c] (.aB [nX x,.one (.int .i64 0)]):=by
 have hv:=h.val;have hA:Go.Tw.j9 A:=.inl XR
 by_cases h0:v=R.q 0
 ·have tl:=h.tg.mn;have rb:=h.tg.QI S hA (by omega) h.len (by rw[hv,h0])
  rcases tI S hA h.tg h.len (by rw[hv];exact hn) rb with⟨w,lw,ew,cw⟩|⟨no,_⟩
  ·refine⟨A,(c.1,w),S,fun _ h=>h,by omega,⟨h.tg,lw,by rw[ew,hv],?_⟩,qj c c.1 w cw⟩;rw[h0,Ed];exact(lK.rat (by decide) (by decide)).mono (Nat.le_refl _) (by omega)
  exact absurd (by rw[hv,h0,R.zero_mul]) (no _ (In.rat 0))
 have hp:R.pos v:=(R.br.1 hn).resolve_left h0;have S':Go.Tw.Src 64 (A++[val c.1.length c.1 c.2]):=S.snoc h.tg h.len h.bits (by rw[hv];exact hp);rw[hv]at S';have Zz:Go.Tw.j9 (A++[v]):=.inl (by rw[X6];show _+1≤3;omega);have sub:∀a,a∈A→a∈A++[v]:=fun a ha=>List.mem_append_left _ ha;have mem:v∈A++[v]:=List.mem_append_right _ (by simp);have G:=h.tg.sub sub;have rb:=G.Qj S' Zz h.len (by rw[hv];exact mem) (by rw[hv];exact hp);have hl:(A++[v]).length≤A.length+1:=by rw[X6];exact Nat.le_refl _
 rcases tI S' Zz G h.len (by rw[hv];exact hn) rb with⟨w,lw,ew,cw⟩|⟨no,cw⟩
 ·exact⟨_,(c.1,w),S',sub,hl,⟨G,lw,by rw[ew,hv],.root mem⟩,qj c c.1 w cw⟩
 have T':=G.snoc h.len (by rw[hv];exact mem) (by rw[hv];exact hp) no;have e1:(c.1++[c.2]).length=c.1.length+1:=by simp
 have lr:(dN c.1.length).length=2^(c.1++[c.2]).length:=by rw[e1];exact Go.Tw.kC
 have vr:val (c.1++[c.2]).length (c.1++[c.2]) (dN c.1.length)=R.sqrt v:=by rw[e1,Go.Tw.q0,hv]
 rw[←e1]at cw;exact⟨_,(c.1++[c.2],dN c.1.length),S',sub,hl,⟨T',lr,vr,.root mem⟩,qj c _ _ cw⟩
theorem Q8 {k:Nat}(hk:k<6)(h0:k≠0){a b:List El×El}{va vb:R}(ha:bO A 64 a.1 a.2 va)(hb:bO A 64 b.1 b.2 vb){q:Nat}(hq:A.length≤q)(Yj:q≤3):
  ∃(A':List R) (q':Nat) (x:List El×El) (v:R),BO k q q' a b x∧Go.Tw.Src 64 A'∧(∀y,y∈A→y∈A')∧A'.length≤q'∧q'≤3∧ax A' x.1 x.2 v 2000 32:=by
 have hA:Go.Tw.j9 A:=.inl XR;have na:=re XR ha;have nb:=re XR hb;have sm:Sm 520 8:=.of (by decide) (by decide);have j1:520≤jβ:=by decide
 have j2:8≤jμ:=by decide
 have same:∀{x:List El×El} {v:R},BO k q q a b x→ax A x.1 x.2 v 2000 32→∃(A':List R) (q':Nat) (x:List El×El) (v:R),BO k q q' a b x∧Go.Tw.Src 64 A'∧(∀y,y∈A→y∈A')∧A'.length≤q'∧q'≤3∧ax A' x.1 x.2 v 2000 32:=
  fun hb hx=>⟨A,q,_,_,hb,S,fun _ h=>h,hq,Yj,hx⟩
 have hm:=xq.2
 match k,hk,h0 with
 |1,_,_=>
  obtain⟨z,nz,c⟩:=oA S hA na nb sm sm j1 j2;exact same (.inl ⟨rfl,rfl,c⟩) (nz.mono (by decide) (by decide))
 |2,_,_=>
  obtain⟨z,nz,c⟩:=uy S hA na nb sm sm j1 j2;exact same (.inr (.inl ⟨rfl,rfl,c⟩)) (nz.mono (by decide) (by decide))
 |3,_,_=>
  obtain⟨z,nz,c⟩:=om S hA na nb sm sm j1 j2 hm;exact same (.inr (.inr (.inl ⟨rfl,rfl,c⟩))) (nz.mono (by decide) (by decide))
 |4,_,_=>
  have iv:=vD xq.1 (lM S hA hb.tg) hb.tg.rd hb.len (nb.QO S hA)
  cases e:Go.Tw.cA b.1.length b.1 b.2 with
  |none=>exact same (.inr (.inr (.inr (.inr (.inl ⟨rfl,rfl,rfl,E0 a b (iv.2 e)⟩))))) (na.mono (by decide) (by decide))
  |some n=>
   obtain⟨ln,en⟩:=Go.Tw.dh hb.tg.rd.rl hb.len e;rw[hb.val]at en;obtain⟨z,nz,c⟩:=om S hA na (y:=(b.1,n)) ⟨hb.tg,ln,rfl,nb.sz.inv en⟩ sm sm j1 j2 hm;exact same (.inr (.inr (.inr (.inl ⟨rfl,rfl,Is a b z n (iv.1 n e).rows c⟩)))) (nz.mono (by decide) (by decide))
 |5,_,_=>
  have sg:=Ci xq.1 (lM S hA ha.tg) ha.len (na.Pw S hA);rw[Go.Tw.cE ha.tg.rd.rl ha.len,ha.val]at sg;have key:∃(c:List El×El) (w:R),bO A 64 c.1 c.2 w∧R.nn w∧((R.b9 va<0∧Pr prog 60 [nX a] (nX c))∨(¬R.b9 va<0∧c=a)):=by
   rcases R.dg va with⟨e,es⟩|⟨e,es⟩|⟨e,es⟩
   ·exact⟨a,va,ha,R.br.2 (.inl e),.inr ⟨by omega,rfl⟩⟩
   ·exact⟨a,va,ha,R.br.2 (.inr e),.inr ⟨by omega,rfl⟩⟩
   refine⟨(a.1,aH a.2),-va,⟨ha.tg,by rw[Go.Tw.ar,ha.len],by rw[←ha.val];exact Go.Tw.val_neg ha.len,fun c hc=>?_,ha.tb⟩,R.br.2 (.inr e),.inl ⟨by omega,uI S hA na sm⟩⟩;obtain⟨x,hx,rfl⟩:=List.mem_map.1 hc
   have:=ha.bits x hx
   rw[Rat.neg_num,Rat.neg_den,Int.natAbs_neg];exact this
  obtain⟨c,w,hc,hw,hs⟩:=key
  by_cases g:q<3
  ·obtain⟨A',x,S',sub,hl,nx,cs⟩:=ME S XR (by omega) hc hw;exact⟨A',q+1,x,_,.inr (.inr (.inr (.inr (.inr ⟨rfl,_,c,sg,hs,.inl ⟨g,rfl,cs⟩⟩)))),S',sub,by omega,by omega,nx.mono (by decide) (by decide)⟩
  exact same (.inr (.inr (.inr (.inr (.inr ⟨rfl,_,c,sg,hs,.inr ⟨g,rfl,rfl⟩⟩))))) (na.mono (by decide) (by decide))
end
open Go Go.Eng
open Go.Tw (El ax bO TG)
theorem PF {A:List R}(S:Go.Tw.Src 64 A){o:Bv}(ho:o.Ok){q:Nat}(hq:A.length≤q)(Yj:q≤3){l:List (List El×El)}(hl:∀x∈l,∃v,bO A 64 x.1 x.2 v):
  ∃(A':List R) (q':Nat) (l':List (List El×El)),BS o q l q' l'∧Go.Tw.Src 64 A'∧A'.length≤q'∧q'≤3∧l'.length=l.length+1∧∀x∈l',∃v,bO A' 64 x.1 x.2 v:=by
 have hA:A.length≤3:=by omega
 have hn:=ho.n;have fc:=Ob o.n (o.d%8+1) (by omega) (by omega) (by omega) (Nat.lt_of_le_of_lt (show zn o.n≤2 from aD (by have:BB^2=18446744073709551616:=rfl;omega)) (by decide)) (Nat.lt_of_le_of_lt (show nl _≤2 from aD (by have:BB^2=18446744073709551616:=rfl;omega)) (by decide));have fs:bO A 64 [] [mkRat o.n (o.d%8+1:Nat)] _:=lA hn (by omega) (by omega);have get:∀i,i<l.length→∃v,bO A 64 (l.getD i default).1 (l.getD i default).2 v:=fun i hi=>hl _ (by rw[X7,X8 hi];exact List.getElem_mem _)
 -- the number made
 have hx:∃(A':List R) (q':Nat) (x:List El×El) (v:R),Go.Tw.Src 64 A'∧(∀y,y∈A→y∈A')∧A'.length≤q'∧q'≤3∧ax A' x.1 x.2 v 2000 32∧(l=[]→∃v,bO A' 64 x.1 x.2 v)∧
   (((l=[]∨o.k%6=0)∧q'=q∧x=([],[mkRat o.n (o.d%8+1:Nat)]))∨(l≠[]∧BO (o.k%6) q q' (l.getD (o.a%l.length) default) (l.getD (o.b%l.length) default) x)):=by
  by_cases h:l=[]∨o.k%6=0
  ·exact⟨A,q,_,_,S,fun _ h=>h,hq,Yj,(re hA (x:=([],[mkRat o.n (o.d%8+1:Nat)])) fs).mono (by decide) (by decide),fun _=>⟨_,fs⟩,.inl ⟨h,rfl,rfl⟩⟩
  have RT:l≠[]:=fun e=>h (.inl e);have lp:=List.length_pos_iff.2 RT;obtain⟨va,ha⟩:=get _ (Nat.mod_lt o.a lp);obtain⟨vb,hb⟩:=get _ (Nat.mod_lt o.b lp);obtain⟨A',q',x,v,b,S',sub,h1,h2,nx⟩:=Q8 S hA (k:=o.k%6) (Nat.mod_lt _ (by decide)) (fun e=>h (.inr e)) ha hb hq Yj;exact⟨A',q',x,v,S',sub,h1,h2,nx,fun e=>absurd e RT,.inr ⟨RT,b⟩⟩
 obtain⟨A',q',x,v,S',sub,h1,h2,nx,Xn,hx⟩:=hx;have Zz:A'.length≤3:=by omega
 have x3:=Nat.le_trans nx.tg.mn Zz;have xl:x.2.length<2^38:=by rw[nx.len];exact aN (by omega)
 have lg:∀b:Bool,(b=true↔Po 2 x)→Pr prog 61 [nX x] (.one (.bool b)):=fun b hb=>Oq x xl (by omega) (fun j hj=>by rw[(nx.tg.rd.rl j hj).1];exact aN (by omega)) hb;have SE:∀x∈l,∃v,bO A' 64 x.1 x.2 v:=fun x hx=>(hl x hx).imp fun _ h=>h.sub sub
 -- the number kept
 have hy:∃(y:List El×El) (w:R),bO A' 64 y.1 y.2 w∧((l=[]∧y=x)∨(l≠[]∧Pr prog 61 [nX x] (.one (.bool false))∧y=x)∨(l≠[]∧Pr prog 61 [nX x] (.one (.bool true))∧y=l.getD (l.length-1) default)):=by
  by_cases h:l=[]
  ·obtain⟨w,hw⟩:=Xn h;exact⟨x,w,hw,.inl ⟨h,rfl⟩⟩
  by_cases g:Po 2 x
  ·have lp:=List.length_pos_iff.2 h;obtain⟨w,hw⟩:=get (l.length-1) (by omega);exact⟨_,w,hw.sub sub,.inr (.inr ⟨h,lg true ⟨fun _=>g,fun _=>rfl⟩,rfl⟩)⟩
  exact⟨x,v,FU nx g,.inr (.inl ⟨h,lg false ⟨fun e=>(by cases e),fun k=>absurd k g⟩,rfl⟩)⟩
 obtain⟨y,w,sy,hy⟩:=hy;refine⟨A',q',l++[kr y.1.length y],⟨_,x,y,_,fc,hx,hy,NR (.inl Zz) y sy,rfl⟩,S',h1,h2,by rw[X6];rfl,fun z hz=>?_⟩
 rcases List.mem_append.1 hz with hz|hz
 ·exact SE z hz
 rw[List.mem_singleton.1 hz];exact⟨w,l6 _ (Nat.le_refl _) sy⟩
theorem Jl (r:List Bv)(hr:∀o∈r,o.Ok)(Vz:r.length<2^63):∃(A:List R) (l:List (List El×El)),Go.Tw.Src 64 A∧A.length≤3∧l.length≤24∧(∀x∈l,∃v,bO A 64 x.1 x.2 v)∧Pr prog 28 [p7 r] (.one (bU l)):=by
 obtain⟨s,e0,hI,hS⟩:=Go.Tw.chain (α:=List R×Nat×List (List El×El)) (x0:=([],0,[])) (n:=min r.length 24)
  (I:=fun i y=>Go.Tw.Src 64 y.1∧y.1.length≤y.2.1∧y.2.1≤3∧y.2.2.length=i∧∀x∈y.2.2,∃v,bO y.1 64 x.1 x.2 v)
  (St:=fun i y y'=>BS (r.getD i default) y.2.1 y.2.2 y'.2.1 y'.2.2)
  ⟨⟨fun k hk=>absurd hk (Nat.not_lt_zero _),fun k hk=>absurd hk (Nat.not_lt_zero _)⟩,Nat.le_refl _,by decide,rfl,fun x hx=>(by cases hx)⟩
  (fun i y hi ⟨h1,h2,h3,h4,h5⟩=>by
   obtain⟨A',q',l',b,k1,k2,k3,k4,k5⟩:=PF h1 (o:=r.getD i default) (hr _ (by rw[X7,X8 (by omega)];exact List.getElem_mem _)) h2 h3 h5;exact⟨(A',q',l'),b,k1,k2,k3,by show l'.length=i+1;rw[k4,h4],k5⟩)
 obtain⟨k1,k2,k3,k4,k5⟩:=hI _ (Nat.le_refl _);refine⟨_,_,k1,by omega,by omega,k5,yi r hr Vz (fun i=>(s i).2.1) (fun i=>(s i).2.2) (by rw[e0]) (by rw[e0]) (fun i h1 h2=>?_) (fun i h1 h2=>hS i (by omega))⟩;obtain⟨_,_,g3,g4,_⟩:=hI i (by omega);exact⟨g4,g3⟩
end Go.Proofs.YtchkplkghknabaaGreat
namespace Go.Mx
open Go Go.R
instance:Std.Associative (α:=R) (· * ·):=⟨mul_assoc⟩
instance:Std.Commutative (α:=R) (· * ·):=⟨mul_comm⟩
def sm:Nat→(Nat→R)→R
 |0,_=>q 0
 |n+1,f=>sm n f+f n
theorem yT {f g:Nat→R}:∀{n:Nat},(∀i,i<n→f i=g i)→sm n f=sm n g
 |0,_=>rfl
 |n+1,h=>by rw[sm,sm,yT (n:=n) fun i hi=>h i (by omega),h n (by omega)]
noncomputable def iv (x:R):R:=open Classical in if h:x≠q 0 then Classical.choose (inv h)else q 0
theorem oy {x:R}(h:x≠q 0):x*iv x=q 1:=by
 unfold iv;rw[dif_pos h];exact Classical.choose_spec (inv h)
theorem il:q 1≠q 0:=fun h=>absurd (jT h) (by decide)
abbrev Mt:=Nat→Nat→R
noncomputable def ka (M:Mt)(k:Nat):Nat→Nat→Nat
 |0,p=>p
 |n+1,p=>open Classical in if M p k=q 0 then ka M k n (p+1)else p
theorem mN (M:Mt)(k:Nat):∀n p,p≤ka M k n p∧ka M k n p≤p+n∧(∀i,p≤i→i<ka M k n p→M i k=q 0)∧(ka M k n p<p+n→M (ka M k n p) k≠q 0)
 |0,p=>⟨Nat.le_refl _,Nat.le_refl _,fun i h1 h2=>by unfold ka at h2;omega,fun h=>by unfold ka at h;omega⟩
 |n+1,p=>by
  unfold ka
  split
  ·rename_i h0
   obtain⟨h1,h2,h3,h4⟩:=mN M k n (p+1);refine⟨by omega,by omega,fun i h5 h6=>?_,fun h=>h4 (by omega)⟩
   by_cases e:i=p
   ·rw[e];exact h0
   exact h3 i (by omega) h6
  rename_i h0
  exact⟨Nat.le_refl _,by omega,fun i h1 h2=>by omega,fun _=>h0⟩
def lS (M:Mt)(a b:Nat):Mt:=fun i=>if i=a then M b else if i=b then M a else M i
noncomputable def iH (M:Mt)(t k:Nat):Mt:=fun i j=>if i=t then M t j*iv (M t k)else M i j-M t j*iv (M t k)*M i k
noncomputable def j7 (r k:Nat)(s:Mt×List Nat):Mt×List Nat:=
 open Classical in if ka s.1 k (r-s.2.length) s.2.length<r then(iH (lS s.1 s.2.length (ka s.1 k (r-s.2.length) s.2.length)) s.2.length k,s.2++[k])else s
noncomputable def red (r:Nat)(M:Mt):Nat→Mt×List Nat
 |0=>(M,[])
 |k+1=>j7 r k (red r M k)
structure PN (r k:Nat) (N:Mt) (p:List Nat):Prop where
 len:p.length≤r
 lt:∀i,i<p.length→p.getD i 0<k
 asc:∀i j,i<j→j<p.length→p.getD i 0<p.getD j 0
 one:∀i j,i<r→j<p.length→N i (p.getD j 0)=if i=j then q 1 else q 0
 low:∀i j,p.length≤i→i<r→j<k→N i j=q 0
 left:∀i j,i<p.length→j<p.getD i 0→N i j=q 0
theorem xd {s:Mt×List Nat}{r k:Nat}(h:s.2.length≤r)(hf:ka s.1 k (r-s.2.length) s.2.length<r):s.2.length≤ka s.1 k (r-s.2.length) s.2.length∧s.1 (ka s.1 k (r-s.2.length) s.2.length) k≠q 0:=by
 obtain⟨h1,_,_,h4⟩:=mN s.1 k (r-s.2.length) s.2.length;exact⟨h1,h4 (by omega)⟩
theorem PN.step {r k:Nat}{s:Mt×List Nat}(E:PN r k s.1 s.2):PN r (k+1) (j7 r k s).1 (j7 r k s).2:=by
 obtain⟨N,p⟩:=s;have E:PN r k N p:=E;unfold j7
 split
 ·rename_i hf
  obtain⟨hp,hn⟩:=xd (s:=(N,p)) E.len hf;simp only at hf hp hn⊢
  generalize ka N k (r-p.length) p.length=t at hf hp hn⊢
  have hz:∀i j,p.length≤i→i<r→j<k→lS N p.length t i j=q 0:=by
   intro i j h1 h2 h3;unfold lS
   split
   ·exact E.low t j hp hf h3
   split
   ·exact E.low _ j (Nat.le_refl _) (by omega) h3
   exact E.low i j h1 h2 h3
  have ht:lS N p.length t p.length k≠q 0:=by
   unfold lS;rw[if_pos rfl];exact hn
  have Wa:∀i,i<p.length→lS N p.length t i=N i:=by
   intro i hi;unfold lS;rw[if_neg (by omega),if_neg (by omega)]
  generalize lS N p.length t=S at hz ht Wa
  have hl:∀i j,i<r→j<k→iH S p.length k i j=S i j:=by
   intro i j hi hj;unfold iH;have h0:=hz p.length j (Nat.le_refl _) (by omega) hj
   split
   ·rename_i e
    rw[h0,zero_mul,e,h0]
   rw[h0,zero_mul,zero_mul,sub_zero]
  have hg:∀j,j<p.length→(p++[k]).getD j 0=p.getD j 0:=fun j hj=>by
   rw[X7,X7,List.getElem?_append_left hj]
  have hk:(p++[k]).getD p.length 0=k:=by
   rw[X7,List.getElem?_append_right (Nat.le_refl _),Nat.sub_self];rfl
  have RY:∀i,i<r→iH S p.length k i k=if i=p.length then q 1 else q 0:=by
   intro i hi;unfold iH
   split
   ·rename_i e
    rw[oy ht]
   rw[oy ht,one_mul,sub_self]
  have hlen:(p++[k]).length=p.length+1:=by simp
  refine⟨by rw[hlen];omega,fun i hi=>?_,fun i j US hj=>?_,fun i j hi hj=>?_,fun i j h1 h2 h3=>?_,fun i j h1 h2=>?_⟩
  ·rw[hlen]at hi
   by_cases e:i<p.length
   ·rw[hg i e];have:=E.lt i e;omega
   obtain rfl:i=p.length:=by omega
   rw[hk];omega
  ·rw[hlen]at hj
   by_cases e:j<p.length
   ·rw[hg i (by omega),hg j e];exact E.asc i j US e
   obtain rfl:j=p.length:=by omega
   rw[hk,hg i US];exact E.lt i US
  ·rw[hlen]at hj
   by_cases e:j<p.length
   ·rw[hg j e,hl i _ hi (E.lt j e)]
    by_cases e2:i<p.length
    ·rw[Wa i e2];exact E.one i j hi e
    rw[hz i _ (by omega) hi (E.lt j e),if_neg (by omega)]
   obtain rfl:j=p.length:=by omega
   rw[hk];exact RY i hi
  ·rw[hlen]at h1
   by_cases e:j<k
   ·rw[hl i j h2 e];exact hz i j (by omega) h2 e
   obtain rfl:j=k:=by omega
   rw[RY i h2,if_neg (by omega)]
  rw[hlen]at h1
  by_cases e:i<p.length
  ·rw[hg i e]at h2
   have:=E.lt i e
   rw[hl i j (by omega) (by omega),Wa i e];exact E.left i j e h2
  obtain rfl:i=p.length:=by omega
  rw[hk]at h2;rw[hl _ j (by omega) h2];exact hz _ j (Nat.le_refl _) (by omega) h2
 rename_i hf
 have h1:=E.len;obtain⟨_,_,h3,_⟩:=mN N k (r-p.length) p.length;refine⟨E.len,fun i hi=>Nat.lt_succ_of_lt (E.lt i hi),E.asc,E.one,fun i j h4 h5 h6=>?_,E.left⟩
 by_cases e:j<k
 ·exact E.low i j h4 h5 e
 obtain rfl:j=k:=by omega
 exact h3 i h4 (by simp only at hf;omega)
theorem dQ (r:Nat)(M:Mt):∀k,PN r k (red r M k).1 (red r M k).2
 |0=>⟨Nat.zero_le _,fun i hi=>absurd hi (Nat.not_lt_zero _),fun i j _ hj=>absurd hj (Nat.not_lt_zero _),fun i j _ hj=>absurd hj (Nat.not_lt_zero _),fun i j _ _ hj=>absurd hj (Nat.not_lt_zero _),fun i j hi=>absurd hi (Nat.not_lt_zero _)⟩
 |k+1=>(dQ r M k).step
theorem Ks {x y:R}:x-y=q 0↔x=y:=⟨gC,fun h=>by rw[h,sub_self]⟩
end Go.Mx
namespace Go.Proofs.YtchkplkghknabaaGreat
open Go.Proofs.Tryz
open Go Go.Eng
open Go.Tw (El ax bO TG qN cJ tB jβ jμ g9 jC aE aH)
open Go.Mx (iv)
structure Nu (A:List R) where
 x:List El×El
 v:R
 w:Nat
 hw:1≤w
 ok:ax A x.1 x.2 v (300*w-1) (3*w)
def wB:Nat:=3400
def wA:Nat:=8000
theorem MF {w:Nat}(h:w≤wA+wB):Sm (300*w) (3*w):=by
 unfold Sm Go.Tw.qN;unfold wA wB at h;omega
def Ff {A:List R}(f:FuncId)(a b:Nu A)(v:R):Prop:=∃c:Nu A,c.v=v∧c.w=a.w+b.w∧Pr prog f [nX a.x,nX b.x] (.aB [nX c.x,.one (.int .i64 0)])
section
variable {A:List R}
theorem Nu.sm (a:Nu A)(h:a.w≤wA):Sm (300*a.w-1) (3*a.w):=(MF (by omega)).mono (by omega) (Nat.le_refl _)
theorem AN {n:Nat}(h:n≤wB):n≤wA:=Nat.le_trans h (by decide)
theorem Nu.j1 (a:Nu A)(h:a.w≤wB):300*a.w-1≤jβ:=by
 have:300*wB≤jβ:=by decide
 omega
theorem Nu.j2 (a:Nu A)(h:a.w≤wB):3*a.w≤jμ:=by
 have:3*wB≤jμ:=by decide
 omega
theorem GD {a b:Nat}(ha:a≤wA)(hb:b≤wB):Sm (300*a-1+(300*b-1)) (3*a+3*b):=(MF (w:=a+b) (by omega)).mono (by omega) (by omega)
variable (S:Go.Tw.Src 64 A)(hA:Go.Tw.j9 A)
include S hA
theorem Jo {a b:Nu A}(ha:a.w≤wA)(hb:b.w≤wB):Ff 55 a b (a.v+b.v):=by
 obtain⟨z,nz,c⟩:=oA S hA a.ok b.ok (a.sm ha) (b.sm (AN hb)) (b.j1 hb) (b.j2 hb)
 have:=a.hw;have:=b.hw
 exact⟨⟨z,_,a.w+b.w,by omega,nz.mono (by omega) (by omega)⟩,rfl,rfl,c⟩
theorem JR {a b:Nu A}(ha:a.w≤wA)(hb:b.w≤wB):Ff 57 a b (a.v-b.v):=by
 obtain⟨z,nz,c⟩:=uy S hA a.ok b.ok (a.sm ha) (b.sm (AN hb)) (b.j1 hb) (b.j2 hb)
 have:=a.hw;have:=b.hw
 exact⟨⟨z,_,a.w+b.w,by omega,nz.mono (by omega) (by omega)⟩,rfl,rfl,c⟩
theorem xj {a b:Nu A}(ha:a.w≤wA)(hb:b.w≤wB):Ff 13 a b (a.v*b.v):=by
 obtain⟨z,nz,c⟩:=om S hA a.ok b.ok (a.sm ha) (b.sm (AN hb)) (b.j1 hb) (b.j2 hb) (GD ha hb)
 have:=a.hw;have:=b.hw
 exact⟨⟨z,_,a.w+b.w,by omega,nz.mono (by omega) (by omega)⟩,rfl,rfl,c⟩
omit S hA in
theorem xW {x y:R}(h:x*y=R.q 1):y=iv x:=by
 have h0:x≠R.q 0:=fun e=>Go.Mx.il (by rw[←h,e,R.zero_mul]);refine R.gB (z:=x) ?_ h0;rw[R.mul_comm,h,R.mul_comm,Go.Mx.oy h0]
omit S hA in
theorem Nu.inv {b:Nu A}(h0:b.v≠R.q 0):∃n,Go.Tw.cA b.x.1.length b.x.1 b.x.2=some n∧ax A b.x.1 n (iv b.v) (300*b.w-1) (3*b.w):=by
 cases e:Go.Tw.cA b.x.1.length b.x.1 b.x.2 with
 |none=>exact absurd (by rw[←b.ok.val];exact Go.Tw.mU b.ok.tg.rd b.ok.len e) h0
 |some n=>
  obtain⟨ln,en⟩:=Go.Tw.dh b.ok.tg.rd.rl b.ok.len e;rw[b.ok.val]at en;exact⟨n,rfl,b.ok.tg,ln,xW en,b.ok.sz.inv (by rw[←xW en];exact en)⟩
theorem IL {a:Nu A}(ha:a.w≤wA):Pr prog 59 [nX a.x] (.one (.int .i64 (R.b9 a.v))):=by
 have g:=Ci (a.sm ha) (lM S hA a.ok.tg) a.ok.len (a.ok.Pw S hA);rw[Go.Tw.cE a.ok.tg.rd.rl a.ok.len,a.ok.val]at g;exact g
theorem Qm {t:List El}{e:El}(T:TG A t)(he:e.length=2^t.length)(hv:Go.Tw.val t.length t e=R.q 0):g9 jC t.length t e:=by
 obtain⟨z,w,d,E,_,_⟩:=T.ev S hA;have hx:Go.Tw.Ht t.length z w (Go.Tw.val t.length t e) 0:=by rw[hv];exact Go.Tw.Ht.rat (by decide) (by decide)
 exact(g9.of E he hx).mono (Go.Tw.Br _ (T.nN hA)).2
theorem NC {z:List El×El}{β μ:Nat}(nz:ax A z.1 z.2 (R.q 0) β μ):Pr prog 59 [nX z] (.one (.int .i64 0)):=by
 have g:=Ci (show jC<2^37 by decide) (lM S hA nz.tg) nz.len (Qm S hA nz.tg nz.len nz.val);rw[Go.Tw.cE nz.tg.rd.rl nz.len,nz.val,R.gg]at g;exact g
theorem rf {a b:Nu A}(ha:a.w≤wA)(hb:b.w≤wB)(h:a.v=b.v∨a.w+b.w≤wA){r:Bool}(hr:r=true↔a.v=b.v):Pr prog 14 [nX a.x,nX b.x] (.one (.bool r)):=by
 obtain⟨c,c1,c2,c3⟩:=JR S hA ha hb;have g:Pr prog 59 [nX c.x] (.one (.int .i64 (R.b9 c.v))):=by
  rcases h with h|h
  ·have e:c.v=R.q 0:=by rw[c1,h,R.sub_self]
   have:=c.ok
   rw[e]at this⊢;rw[R.gg];exact NC S hA this
  exact IL S hA (by omega)
 have:=Cx a.x b.x _ (Hr a.x b.x c.x _ c3 g)
 have e:decide (R.b9 c.v=0)=r:=by
  rw[Bool.eq_iff_iff,decide_eq_true_iff,R.mX,hr,c1,Go.Mx.Ks]
 rw[e]at this;exact this
end
variable {A:List R}
def AA (n:Nat)(r:Nat→Nu A):C:=ak n fun i=>(r i).x
def eA (r:Nat)(c:Nat→Nat)(m:Nat→Nat→Nu A):C:=ao r c fun i j=>(m i j).x
open Go Go.Eng
open Go.Tw (El aE aH zE ai QB cJ tB val In Rd TG cB bA a8 Ext ax qN jβ jμ)
section
variable {A:List R}(S:Go.Tw.Src 64 A)(hA:Go.Tw.j9 A)
include S hA
omit S hA in
theorem In.lR {t s:List El}{z:R}(h:In t.length t z):In (t++s).length (t++s) z:=((Go.Tw.jJ (Nat.le_refl _) z).2 h).le (by rw[X6];omega)
theorem GP {t x:List El}(G:TG A t)(X:TG A x):∃U,u6 t x U∧TG A U∧(∀z,In t.length t z→In U.length U z)∧∀z,In x.length x z→In U.length U z:=by
 cases hb:fa t.length x.length t x with
 |true=>
  obtain⟨s,e⟩:=bJ.1 hb;exact⟨t,.inl ⟨hb,rfl⟩,G,fun _ h=>h,fun z h=>by rw[e];exact In.lR h⟩
 |false=>
  cases Sl:fa x.length t.length x t with
  |true=>
   obtain⟨s,e⟩:=bJ.1 Sl;exact⟨x,.inr (.inl ⟨hb,Sl,rfl⟩),X,fun z h=>by rw[e];exact In.lR h,fun _ h=>h⟩
  |false=>
   obtain⟨U,rs,s,eU,E,_,c⟩:=jN S hA G X;exact⟨U,.inr (.inr ⟨hb,Sl,rs,c⟩),E.tg,fun z h=>by rw[eU];exact In.lR h,fun _ h=>Go.Tw.In.Bg E (Nat.le_refl _) h⟩
theorem HC {U:List El}(G:TG A U){a:Nu A}(hw:a.w≤wB)(Se:∀z,In a.x.1.length a.x.1 z→In U.length U z):∃e,ax A U e a.v (300*a.w-1) (3*a.w)∧vW U a.x e:=by
 have ul:=G.nN hA
 cases hb:fa U.length a.x.1.length U a.x.1 with
 |true=>
  obtain⟨s,e⟩:=bJ.1 hb;refine⟨cB U.length a.x.2,by rw[e]at G⊢;exact a.ok.pad G,.inl ⟨hb,mD (by omega) (by rw[a.ok.len];exact Nat.two_pow_pos _) ?_⟩⟩;rw[a.ok.len,e,X6];exact Nat.pow_le_pow_right (by decide) (by omega)
 |false=>
  obtain⟨U',rs,s,eU,E,RI,c⟩:=jN S hA G a.ok.tg;obtain rfl:U'=U:=RI fun j hj=>Se _ ((Go.Tw.In.root (h:=j)).le (by omega));obtain⟨_,_,n1,n2,qb,I⟩:=a.ok.Qp S hA (a.j1 hw) (a.j2 hw) E;have tq:=lM S hA E.tg;have a3:=a.ok.tg.nN hA;have im:=kK (a:=a.x.2) ⟨tq,n1,n2,I.r,I.m⟩ (by rw[E.len];exact Nat.le_refl _) (by omega) a.ok.len qb;exact⟨_,a.ok.image E,.inr ⟨hb,U',rs,c,im⟩⟩
omit S hA in
theorem mY {n:Nat}(l:Nat→List El×El){i:Nat}(hi:i<n):((List.range n).map l).getD i default=l i:=by
 rw[X7,List.getElem?_map,List.getElem?_range hi];rfl
omit S hA in
theorem Nq {n:Nat}{l:Nat→Nu A}:dB (AA n l) (bU ((List.range n).map fun i=>(l i).x)):=
 .rows (by simp) fun i j hi _=>.of_eq (by unfold fp;rw[mY (fun i=>(l i).x) hi])
omit S hA in
theorem AY {P:Program}{f:FuncId}{args:List V}{e:TypeId}{w n n':Nat}{g g':Nat→Nat→C}{c:C}(h:dL P f args (.rows e w n g) c)(hn:n=n')(hg:∀i j,i<n→j<w→g i j=g' i j):dL P f args (.rows e w n' g') c:=by
 subst hn;obtain⟨h1,h2,h3,h4⟩:=h;refine⟨h1,h2,trivial,fun ok w0 vs R6 Sd=>Calls.mono (h4 ok w0 vs R6 Sd) fun e0 w' he=>?_⟩;obtain⟨v,u,l,k1,k2,k3,k4,k5,k6,k7⟩:=he;refine⟨v,u,l,k1,k2,k3,k4,?_,k6,k7⟩;unfold aL at k5⊢;have hc:∀j,(Bk.rows e w n g').cell j=(Bk.rows e w n g).cell j:=by
  intro j;simp only[Bk.cell]
  split
  ·rename_i hj
   have h0:0<w:=Nat.pos_of_ne_zero fun e=>by subst e;omega
   rw[hg _ _ ((Nat.div_lt_iff_lt_mul h0).2 hj) (Nat.mod_lt _ h0)]
  rfl
 cases hl:l.addr with
 |none=>rw[hl]at k5;exact fun j=>(hc j).trans (k5 j)
 |some p=>
  obtain⟨a,b⟩:=p;rw[hl]at k5;obtain⟨cur,e',UL,U0⟩:=k5;exact⟨cur,e',UL,fun j c hj=>U0 j c (by rw[←hc];exact hj)⟩
theorem PQ {n:Nat}(hn:n<2^30)(l:Nat→Nu A)(hw:∀i,i<n→(l i).w≤wB):∃o:Nat→Nu A,(∀i,i<n→(o i).v=(l i).v∧(o i).w=(l i).w)∧
  dL prog 99 [.one (AA n l)] (.rows 37 2 n (fun i=>bR (o i).x)) (.int .i64 0):=by
 have T0:TG A []:=⟨⟨fun i hi=>absurd hi (Nat.not_lt_zero _),fun i hi=>absurd hi (Nat.not_lt_zero _)⟩,fun i hi=>absurd hi (Nat.not_lt_zero _)⟩;obtain⟨tt,e0,hI,hS⟩:=Go.Tw.chain (α:=List El) (I:=fun k t=>TG A t∧∀i,i<k→∀z,In (l i).x.1.length (l i).x.1 z→In t.length t z) (St:=fun k t u=>u6 t (l k).x.1 u) (x0:=[]) ⟨T0,fun i hi=>absurd hi (Nat.not_lt_zero _)⟩ (n:=n) (fun k t _ hk=>by
  obtain⟨U,h1,h2,h3,h4⟩:=GP S hA hk.1 (l k).ok.tg;refine⟨U,h1,h2,fun i hi z hz=>?_⟩
  by_cases e:i=k
  ·subst e;exact h4 z hz
  exact h3 z (hk.2 i (by omega) z hz))
 have G:=(hI n (Nat.le_refl _)).1;have ul:=G.nN hA;have hE:∀i,∃e,i<n→ax A (tt n) e (l i).v (300*(l i).w-1) (3*(l i).w)∧vW (tt n) (l i).x e:=fun i=>by
  by_cases hi:i<n
  ·obtain⟨e,h⟩:=HC S hA G (hw i hi) ((hI n (Nat.le_refl _)).2 i hi);exact⟨e,fun _=>h⟩
  exact⟨[],fun h=>absurd h hi⟩
 obtain⟨e,he⟩:=Classical.skolem.1 hE
 let o:Nat→Nu A:=fun i=>open Classical in if h:i<n then⟨(tt n,e i),(l i).v,(l i).w,(l i).hw,(he i h).1⟩else l i
 have ho:∀i,i<n→(o i).x=(tt n,e i)∧(o i).v=(l i).v∧(o i).w=(l i).w:=fun i hi=>by
  have e1:o i=⟨(tt n,e i),(l i).v,(l i).w,(l i).hw,(he i hi).1⟩:=dif_pos hi;rw[e1];exact⟨rfl,rfl,rfl⟩
 refine⟨o,fun i hi=>(ho i hi).2,?_⟩;have xk:∀i,i<((List.range n).map fun i=>(l i).x).length→Tk (((List.range n).map fun i=>(l i).x).getD i default).1.length (((List.range n).map fun i=>(l i).x).getD i default).1:=fun i hi=>by
  rw[List.length_map,List.length_range]at hi;rw[mY (fun i=>(l i).x) hi];exact mC S hA (l i).ok.tg
 have ll:((List.range n).map fun i=>(l i).x).length=n:=by simp
 have cm:=rN ((List.range n).map fun i=>(l i).x) (by rw[ll];exact hn) tt e0 (fun i hi=>mC S hA (hI i (by rw[ll]at hi;exact hi)).1) xk (fun i hi=>by
  rw[ll]at hi;rw[mY (fun i=>(l i).x) hi];exact hS i hi)
 rw[ll]at cm;have j:=tf ((List.range n).map fun i=>(l i).x) ((List.range n).map fun i=>(tt n,e i)) (by rw[ll];exact hn) (by simp) (tt n) (mC S hA G) xk cm (fun i hi=>by
  rw[ll]at hi;rw[mY (fun i=>(tt n,e i)) hi,mY (fun i=>(l i).x) hi];obtain⟨h1,h2⟩:=he i hi;refine⟨rfl,by rw[h1.len];exact aN (by omega),pT S hA h1 ((l i).sm (AN (hw i hi))),h2⟩)
 refine AY (j.args ⟨.cell Nq,trivial⟩) (by simp) fun i j hi _=>?_;rw[List.length_map,List.length_range]at hi;unfold fp;rw[mY (fun i=>(tt n,e i)) hi,(ho i hi).1]
end
open Go Go.Eng
open Go.Tw (El aE aH zE ai QB cJ tB val In Rd TG ax qN jβ jμ g9 jC)
open Go.Mx (iv)
theorem Lv (x y:List El×El)(U:List El)(ea eb ec:El)(hj:Pr prog 99 [.one (bU [x,y])] (.aB [.one (bU [(U,ea),(U,eb)]),.one (.int .i64 0)]))
  (hf:Pr prog 181 [tV U.length U,eV ea,eV eb] (eV ec)):Pr prog 146 [nX x,nX y] (.aB [nX (U,ec),.one (.int .i64 0)]):=by
 have c:=pb _ x y U ea eb ec hj hf;refine pw func146 ⟨[0,1,2,3,4,5],[]⟩ ?_;simp only[Tryz.f146,ntmps146,iz,seval];simp only[vx,T,seval,nX,nV,tC,eV,ae];refine Cg c ?_;simp only[vx,T,seval,nX,nV,tC,eV,ae];exact Ve rfl
theorem Jb (x y z:List El×El)(v:El)(hi:Pr prog 145 [tV y.1.length y.1,eV y.2] (.aB [eV v,.one (.int .i64 0)]))(hm:Pr prog 101 [nX x,nX (y.1,v)] (.aB [nX z,.one (.int .i64 0)])):
  Pr prog 103 [nX x,nX y] (.aB [nX z,.one (.int .i64 0)]):=by
 refine pw func103 ⟨[0,1,2,3,4,5,6,7,17],[]⟩ ?_;simp only[Tryz.f103,ntmps103,iz,seval];simp only[vx,T,seval,nX,nV,tC,eV,ae];refine Cg hi ?_;simp only[vx,T,seval,nX,nV,tV,tC,eV,ae];refine Cg hm ?_;simp only[vx,T,seval,nX,nV,tV,tC,eV,ae];exact Ve rfl
theorem JS (x:List El×El)(ec:El)(hd:Pr prog 82 [nX x] (nX x))(hf:Pr prog 83 [tV x.1.length x.1,eV x.2] (eV ec)):Pr prog 46 [nX x] (nX (x.1,ec)):=by
 refine pw func46 ⟨[0,1,2],[]⟩ ?_;simp only[Tryz.f46,ntmps46,iz,seval];simp only[vx,T,seval,nX,nV,tC,eV,ae];refine Cg hd ?_;simp only[vx,T,seval,nX,nV,tV,tC,eV,ae];refine Cg hf ?_;simp only[vx,T,seval,nX,nV,tV,tC,eV,ae];exact Ve rfl
theorem Ge (x:List El×El)(s:Int)(hs:Pr prog 100 [tV x.1.length x.1,eV x.2] (.one (.int .i64 s))):Pr prog 67 [nX x] (.one (.int .i64 s)):=by
 refine pw func67 ⟨[0,1,2],[]⟩ ?_;simp only[Tryz.f67,ntmps67,iz,seval];simp only[vx,T,seval,nX,nV,tC,eV,ae];refine Cg hs ?_;simp only[vx,T,seval,nX,nV,tV,tC,eV,ae];exact Ve rfl
theorem xu.mono {X Y h:Nat}{t:List El}(h1:X≤Y)(W:xu X h t):xu Y h t:=⟨W.tq,fun i hi=>(W.s i hi).mono h1,W.p⟩
section
variable {A:List R}(S:Go.Tw.Src 64 A)(hA:Go.Tw.j9 A)
include S hA
theorem Lb {a b:Nu A}(ha:a.w≤wA)(hb:b.w≤wB):Ff 146 a b (a.v-b.v):=by
 obtain⟨U,ea,eb,na,nb,_,_,j⟩:=MC S hA a.ok b.ok (a.sm ha) (b.sm (AN hb)) (b.j1 hb) (b.j2 hb);have nz:=nb.neg;have c:=Lv a.x b.x U ea eb _ j (rm (mC S hA na.tg) _ _ na.len nb.len (pT S hA na (a.sm ha)) (pT S hA nb (b.sm (AN hb))))
 have:=a.hw;have:=b.hw
 have sz:=na.sz.add nz.sz;exact⟨⟨(U,aE ea (aH eb)),_,a.w+b.w,by omega,na.tg,Go.Tw.aq na.len nz.len,by rw[Go.Tw.val_add na.len nz.len,na.val,nz.val],sz.mono (by omega) (by omega)⟩,rfl,rfl,c⟩
theorem xw {a b:Nu A}(ha:a.w≤wA)(hb:b.w≤wB):Ff 101 a b (a.v*b.v):=by
 obtain⟨z,nz,c⟩:=E6 S hA a.ok b.ok (a.sm ha) (b.sm (AN hb)) (b.j1 hb) (b.j2 hb) (GD ha hb)
 have:=a.hw;have:=b.hw
 exact⟨⟨z,_,a.w+b.w,by omega,nz.mono (by omega) (by omega)⟩,rfl,rfl,c⟩
theorem Lw {a b:Nu A}(ha:a.w≤wA)(hb:b.w≤wB)(h0:b.v≠R.q 0):Ff 103 a b (a.v*iv b.v):=by
 obtain⟨n,e,nn⟩:=b.inv h0;have i:=ra (b.sm (AN hb)) (lM S hA b.ok.tg) b.ok.len (b.ok.QO S hA) e
 let b':Nu A:=⟨(b.x.1,n),iv b.v,b.w,b.hw,nn⟩
 obtain⟨c,c1,c2,c3⟩:=xw S hA ha (b:=b') hb;exact⟨c,c1,c2,Jb a.x b.x c.x n i c3⟩
theorem uc {a:Nu A}(ha:a.w≤wA):Pr prog 67 [nX a.x] (.one (.int .i64 (R.b9 a.v))):=by
 have W:=(Ax S hA a.ok.tg (Nat.le_refl _)).rq.mono (show jC≤2^37-1 by decide);have g:=nh (by decide) W a.ok.len ((a.ok.Pw S hA).mono (Nat.le_pred_of_lt (a.sm ha)));rw[Go.Tw.cE a.ok.tg.rd.rl a.ok.len,a.ok.val]at g;exact Ge _ _ g
theorem D9 {a:Nu A}(ha:a.w≤wA):∃c:Nu A,c.v= -a.v∧c.w=a.w∧Pr prog 46 [nX a.x] (nX c.x):=by
 have tk:=mC S hA a.ok.tg;have q:=pT S hA a.ok (a.sm ha);have u3:=a.ok.tg.nN hA;exact⟨⟨(a.x.1,aH a.x.2),-a.v,a.w,a.hw,a.ok.neg⟩,rfl,rfl,JS _ _ (rP tk (by rw[a.ok.len];exact aN (by omega)) q) (wE tk _ a.ok.len q)⟩
end
def Nu.int (A:List R)(z:Int)(h:z.natAbs<2^60:=by decide):Nu A:=
 ⟨(
  [],[Rat.ofInt z]),R.q (Rat.ofInt z),1,Nat.le_refl _,by
  have T0:TG A []:=⟨⟨fun i hi=>absurd hi (Nat.not_lt_zero _),fun i hi=>absurd hi (Nat.not_lt_zero _)⟩,fun i hi=>absurd hi (Nat.not_lt_zero _)⟩
  refine(ax.short (B:=64) T0 (a:=[Rat.ofInt z]) rfl fun c hc=>?_).mono (by decide) (by decide)
  rw[List.mem_singleton]at hc;subst hc;have e1:(Rat.ofInt z).num=z:=rfl;have e2:(Rat.ofInt z).den=1:=rfl;rw[e1,e2];exact⟨by omega,by decide⟩⟩
theorem pa (z:Int)(h:z.natAbs<2^60):Pr prog 35 [.one (.int .i64 z)] (nX ([],[Rat.ofInt z])):=by
 have f:=uT (Rat.ofInt z) (Nat.lt_of_le_of_lt (G7 (by omega)) (by decide)) [];have hr:=cO z (by omega) (by omega);refine pw func35 ⟨[0,2],[]⟩ ?_;simp only[Tryz.f35,ntmps35,iz,seval];simp only[vx,T,seval];refine Cg hr ?_;simp only[vx,T,seval,QV,QC,nX,nV,tC,ae];refine Cg f ?_;simp only[vx,T,seval,QV,QC,nX,nV,tC,ae];exact Ve rfl
open Go Go.Eng
open Go.Tw (El)
section
variable {S:C}{wd io oo:Nat}
theorem Hx (x:Nb):Pr prog 102 [.one (.elt S wd io oo),nX x,.one (.int .i64 0)] (nX x):=by
 refine pw func102 ⟨[0,1,2,4,6,15,21],[]⟩ ?_;simp only[Tryz.f102,ntmps102,iz,seval];simp only[vx,T,seval,nX,nV,tC,ae];exact Ve rfl
theorem Pj {x y z:Nb}(h:Pr prog 146 [nX x,nX y] (.aB [nX z,.one (.int .i64 0)])):Pr prog 104 [.one (.elt S wd io oo),nX x,nX y] (nX z):=by
 have t:=Hx (S:=S) (wd:=wd) (io:=io) (oo:=oo) z;refine pw func104 ⟨[0,1,2,4,5,6,7,8],[]⟩ ?_;simp only[Tryz.f104,ntmps104,iz,seval];simp only[vx,T,seval,nX,nV,tC,ae];refine Cg h ?_;simp only[vx,T,seval,nX,nV,tC,ae];refine Cg t ?_;simp only[vx,T,seval,nX,nV,tC,ae];exact Ve rfl
theorem JO {x y z:Nb}(h:Pr prog 101 [nX x,nX y] (.aB [nX z,.one (.int .i64 0)])):Pr prog 68 [.one (.elt S wd io oo),nX x,nX y] (nX z):=by
 have t:=Hx (S:=S) (wd:=wd) (io:=io) (oo:=oo) z;refine pw func68 ⟨[0,1,2,4,5,6,7,8],[]⟩ ?_;simp only[Tryz.f68,ntmps68,iz,seval];simp only[vx,T,seval,nX,nV,tC,ae];refine Cg h ?_;simp only[vx,T,seval,nX,nV,tC,ae];refine Cg t ?_;simp only[vx,T,seval,nX,nV,tC,ae];exact Ve rfl
theorem O6 {x y z:Nb}(h:Pr prog 103 [nX x,nX y] (.aB [nX z,.one (.int .i64 0)])):Pr prog 69 [.one (.elt S wd io oo),nX x,nX y] (nX z):=by
 have t:=Hx (S:=S) (wd:=wd) (io:=io) (oo:=oo) z;refine pw func69 ⟨[0,1,2,4,5,6,7,8],[]⟩ ?_;simp only[Tryz.f69,ntmps69,iz,seval];simp only[vx,T,seval,nX,nV,tC,ae];refine Cg h ?_;simp only[vx,T,seval,nX,nV,tC,ae];refine Cg t ?_;simp only[vx,T,seval,nX,nV,tC,ae];exact Ve rfl
end
open Go Go.Eng
open Go.Tw (El)
theorem LL {r c:Nat}(M:Nat→Nat→Nb)(P:Nat→Nb)(hn:r*c<2^30)(hr:r<2^30)(hj:dL prog 99 [.one (ak (r*c) fun p=>M (p/c) (p%c))] (.rows 37 2 (r*c) (fun p=>bR (P p))) (.int .i64 0)):
  ub prog 64 [.one (ao r (fun _=>c) M)] r (fun b i=>.own b 2 (i*c) c) (.rows 37 2 (r*c) (fun p=>bR (P p))) (some (.int .i64 0)):=by
 have cc:=xn (r:=r) (c:=c) M (by omega) (by omega)
 refine wL Bz mixed func64 rfl (by decide) _ (by simp[ntmps64]) ⟨[0,2,3,4,5,6,7,8,16,21,22,23,24],[(8,(.cons 13 [8,9,10,11] (.cons 14 [] .nil .nil) .nil))]⟩ (by kernel_rfl) r (fun b i=>.own b 2 (i*c) c) (.rows 37 2 (r*c) (fun p=>bR (P p))) (some (.int .i64 0)) trivial (fun _ h=>by cases h<;>trivial) ?_
 show vc T _ _ (Option.get! Tryz.f64.body) _ _;simp only[Tryz.f64,ntmps64,Option.get!,iS,iM,eO,J1];simp only[vx,T,seval,ao,ak];refine Cg cc ?_;simp only[vx,T,seval,ao,ak];refine cK.Cz hj ?_;simp only[vx,T,seval,ao,ak];refine⟨by omega,?_⟩;refine Lk (fun y:{i:Nat//i≤r}=>⟨[(2,.one .nil),(3,.one (.int .i64 0)),(4,.one (.own 1 2 (y.1*c) (r*c-y.1*c))),(6,.one (.win 2 1 0 r)),(21,.one (ao r (fun _=>c) M)),(22,.one (.int .i64 r)),(23,.one (.int .i64 y.1))],
  [(1,⟨.rows 37 2 (r*c) (fun p=>bR (P p)),true⟩),(2,⟨.wins 32 1 r (fun j=>if j<y.1 then .own 1 2 (j*c) c else .nil),true⟩)],3,43⟩) (fun y=>r-y.1) ⟨0,Nat.zero_le _⟩ ?_ (fun⟨i,hi⟩=>?_)
 ·refine Sa ?_;simp only[ry,seval,rz,ao,ak,Nat.zero_mul,Nat.not_lt_zero,Nat.sub_zero]
 simp only;have wi:=wI i (by omega);simp only[vx,T,seval,ao,ak];refine⟨fun g=>Lg ?_,fun g=>Lg ?_⟩
 ·have Xd:i<r:=by omega
  have hm:(i+1)*c≤r*c:=Nat.mul_le_mul_right _ Xd;rw[Nat.add_mul,Nat.one_mul]at hm;have e2:(((r*c-i*c:Nat):Int)-(c:Int)).toNat=r*c-(i*c+c):=by omega
  simp only[vx,T,seval,ao,ak,wi];refine⟨by omega,by omega,by omega,by omega,by omega,Lq ⟨i+1,by omega⟩ ?_ (by show r-(i+1)<r-i;omega)⟩;refine Sa ?_;simp only[ry,seval,rz,ao,ak,Nat.add_mul,Nat.one_mul,e2];intro j hj
  by_cases h1:j=i
  ·subst h1;rw[if_pos rfl,if_pos (by omega)];exact⟨by decide,rfl,rfl,rfl,rfl⟩
  rw[if_neg h1]
  by_cases h2:j<i
  ·rw[if_pos h2,if_pos (by omega)];exact⟨by decide,rfl,rfl,rfl,rfl⟩
  rw[if_neg h2,if_neg (by omega)]
  trivial
 obtain rfl:i=r:=by omega
 simp only[vx,T,seval,ao,ak,wi];exact⟨⟨rfl,rfl,by decide,⟨rfl,rfl,fun j hj=>.inl ⟨2,j*c,c,if_pos hj,fun _=>rfl⟩⟩,⟨rfl,rfl,rfl,fun _ _ _ _=>rfl⟩⟩,rfl⟩
def gq (Z P:Nat→Nb)(a f t:Nat)(p:Nat):Nb:=if a+f≤p∧p<a+t then Z (p-a)else P p
section
variable {S:C}{wd io oo:Nat}
theorem wH {N a b c f:Nat}(P Z Q:Nat→Nb)(n:Nb)(sg:Nat→Int)(ha:a+c≤N)(hb:b+c≤N)(hd:a+c≤b∨b+c≤a)(hN:N<2^38)(hf:f≤c)
  (g:∀t,f≤t→t<c→Pr prog 67 [nX (P (b+t))] (.one (.int .i64 (sg t)))) (h0:∀t,f≤t→t<c→sg t=0→Z t=P (a+t))
  (h1:∀t,f≤t→t<c→sg t≠0→Pr prog 68 [.one (.elt S wd io oo),nX n,nX (P (b+t))] (nX (Q t))∧Pr prog 104 [.one (.elt S wd io oo),nX (P (a+t)),nX (Q t)] (nX (Z t))):
  Mc prog 70 [.one (.elt S wd io oo),.one (.own 0 2 a c),.one (.own 0 2 b c),nX n,.one (.int .i64 f)] (.rows 37 2 N (fun p=>bR (P p))) (fun _ B'=>B'= .rows 37 2 N (fun p=>bR (gq Z P a f c p))):=by
 refine mw func70 ⟨[0,1,2,3,4,8,10,15,23],[]⟩ ?_;simp only[Tryz.f70,ntmps70,iz,seval];simp only[vx,T,seval,nX,nV,tC,ae];have s0:∀p,gq Z P a f f p=P p:=fun p=>if_neg (by omega);refine Lk (fun y:{t:Nat//f≤t∧t≤c}=>⟨[(0,.one (.elt S wd io oo)),(1,.one (.own 0 2 a c)),(2,.one (.own 0 2 b c)),(8,.one (.ptr 1 0)),(10,.one (.int .i64 y.1))],
  [(0,⟨.rows 37 2 N (fun p=>bR (gq Z P a f y.1 p)),true⟩),(1,⟨.var [tC n.1.length n.1,ae n.2],true⟩)],2,40⟩) (fun y=>c-y.1) ⟨f,Nat.le_refl _,hf⟩ ?_ (fun⟨t,ht,htc⟩=>?_)
 ·refine Sa ?_;simp only[ry,seval,rz,tC,ae,s0]
 simp only;have wi:=wI t (by omega);simp only[vx,T,seval];refine⟨fun gt=>Lg ?_,fun gt=>Lg ?_⟩
 ·have XP:t<c:=by omega
  have eb:gq Z P a f t (b+t)=P (b+t):=if_neg (by omega);have ea:gq Z P a f t (a+t)=P (a+t):=if_neg (by omega);have hg:=g t ht XP;have step:∀p j,p<N→j<2→bt (fun p=>bR (gq Z P a f t p)) (a+t) 0 [tC (Z t).1.length (Z t).1,ae (Z t).2] p j=bR (gq Z P a f (t+1) p) j:=by
   intro p j hp hj;unfold bt gq
   by_cases h:p=a+t
   ·rw[if_pos h,if_pos (Nat.zero_le _),if_pos (by simpa using hj),if_pos (by omega),h,Nat.add_sub_cancel_left]
    match j,hj with
    |0,_=>rfl
    |1,_=>rfl
   rw[if_neg h]
   dsimp only
   by_cases h2:a+f≤p∧p<a+t
   ·rw[if_pos h2,if_pos (by omega)]
   rw[if_neg h2,if_neg (by omega)]
  simp only[vx,T,seval,eb,bR,tC,ae];refine⟨by omega,Cg hg ?_⟩;simp only[vx,T,seval,eb,bR,tC,ae];refine⟨fun g2=>Lg ?_,fun g2=>Lg ?_⟩
  ·obtain⟨c1,c2⟩:=h1 t ht XP (by simpa using g2);simp only[vx,T,seval,eb,ea,bR,tC,ae];refine⟨by omega,by omega,Cg c1 ?_⟩;simp only[vx,T,seval,nX,nV,eb,ea,bR,tC,ae];refine Cg c2 ?_;simp only[vx,T,seval,nX,nV,eb,ea,bR,tC,ae,wi];refine⟨by omega,Lq ⟨t+1,by omega,by omega⟩ ?_ (by show c-(t+1)<c-t;omega)⟩;refine Sa ?_;simp only[ry,seval,rz,tC,ae];exact step
  have e:=h0 t ht XP (by simpa using g2);simp only[vx,T,seval,wi];refine Lq ⟨t+1,by omega,by omega⟩ ?_ (by show c-(t+1)<c-t;omega);refine Sa ?_;simp only[ry,seval,rz,tC,ae];intro p j hp hj;unfold gq
  by_cases h:p=a+t
  ·rw[if_neg (by omega),if_pos (by omega),h,Nat.add_sub_cancel_left,e]
  by_cases h2:a+f≤p∧p<a+t
  ·rw[if_pos h2,if_pos (by omega)]
  rw[if_neg h2,if_neg (by omega)]
 obtain rfl:t=c:=by omega
 simp only[vx,T,seval]
end
open Go Go.Eng
open Go.Tw (El ax TG)
open Go.Mx (sm iv)
theorem Qc {A:List R}{n:Nat}{p:Nat→Nu A→Prop}(d:Nu A)(h:∀i,i<n→∃c,p i c):∃f:Nat→Nu A,∀i,i<n→p i (f i):=by
 have h':∀i,∃c,i<n→p i c:=fun i=>by
  by_cases hi:i<n
  ·obtain⟨c,hc⟩:=h i hi;exact⟨c,fun _=>hc⟩
  exact⟨d,fun h=>absurd h hi⟩
 exact Classical.skolem.1 h'
theorem Qq {A:List R}{r c:Nat}{p:Nat→Nat→Nu A→Prop}(d:Nu A)(h:∀i j,i<r→j<c→∃x,p i j x):∃f:Nat→Nat→Nu A,∀i j,i<r→j<c→p i j (f i j):=by
 have h':∀i,∃f:Nat→Nu A,i<r→∀j,j<c→p i j (f j):=fun i=>by
  by_cases hi:i<r
  ·obtain⟨f,hf⟩:=Qc d fun j hj=>h i j hi hj;exact⟨f,fun _=>hf⟩
  exact⟨fun _=>d,fun h=>absurd h hi⟩
 obtain⟨f,hf⟩:=Classical.skolem.1 h';exact⟨f,fun i j hi hj=>hf i hi j hj⟩
theorem Ck (A:List R)(z:Int)(h:z.natAbs<2^60):Pr prog 20 [.one (.int .i64 z)] (nX (Nu.int A z h).x):=kH z (by omega) (by omega)
theorem MA (A:List R)(z:Int)(h:z.natAbs<2^60):(Nu.int A z h).w=1:=rfl
section
variable {A:List R}(S:Go.Tw.Src 64 A)(hA:Go.Tw.j9 A)
include S hA
theorem PT {n n' p q:Nat}(a b:Nat→Nu A)(hn:n<2^38)(TM:n≤n')(ha:∀i,i<n→(a i).w≤p)(hb:∀i,i<n→(b i).w≤q)(h1:1+n*(p+q)≤wA)(h2:p+q≤wB):
  ∃c:Nu A,c.v=sm n (fun i=>(a i).v*(b i).v)∧c.w≤1+n*(p+q)∧Pr prog 73 [.one (AA n a),.one (AA n' b)] (nX c.x):=by
 have hBA:wB≤wA:=by decide
 obtain⟨P,hP⟩:=Qc (n:=n) (p:=fun i c=>c.v=(a i).v*(b i).v∧c.w≤p+q∧Pr prog 109 [nX (a i).x,nX (b i).x] (nX c.x)) (a 0) fun i hi=>by
  have k1:=ha i hi;have k2:=hb i hi;obtain⟨c,c1,c2,c3⟩:=xj S hA (a:=a i) (b:=b i) (by omega) (by omega);exact⟨c,c1,by omega,Oo c3⟩
 obtain⟨s,e0,hI,hS⟩:=Go.Tw.chain (α:=Nu A) (I:=fun k s=>s.v=sm k (fun i=>(a i).v*(b i).v)∧s.w≤1+k*(p+q)) (St:=fun k s t=>Pr prog 108 [nX s.x,nX (P k).x] (nX t.x)) (x0:=Nu.int A 0) ⟨rfl,by rw[MA];omega⟩ (n:=n) (fun k s hk hs=>by
  obtain⟨p1,p2,_⟩:=hP k hk;have hm:(k+1)*(p+q)≤n*(p+q):=Nat.mul_le_mul_right _ hk;rw[Nat.add_mul,Nat.one_mul]at hm;obtain⟨c,c1,c2,c3⟩:=Jo S hA (a:=s) (b:=P k) (by omega) (by omega);refine⟨c,Oh c3,by rw[c1,hs.1,p1];rfl,by rw[Nat.add_mul,Nat.one_mul];omega⟩)
 obtain⟨v,w⟩:=hI n (Nat.le_refl _);refine⟨s n,v,w,OD (fun i=>(a i).x) (fun i=>(b i).x) (fun i=>(s i).x) (fun i=>(P i).x) hn TM ?_ (fun i hi=>(hP i hi).2.2) hS⟩;rw[e0];exact Ck A 0 (by decide)
theorem Kn {r n n' p q:Nat}(m:Nat→Nat→Nu A)(v:Nat→Nu A)(hr:r<2^38)(hn:n<2^38)(TM:n≤n')(ha:∀i j,i<r→j<n→(m i j).w≤p)(hb:∀i,i<n→(v i).w≤q)(h1:1+n*(p+q)≤wA)(h2:p+q≤wB):
  ∃o:Nat→Nu A,(∀i,i<r→(o i).v=sm n (fun j=>(m i j).v*(v j).v)∧(o i).w≤1+n*(p+q))∧Pr prog 36 [.one (eA r (fun _=>n) m),.one (AA n' v)] (.one (AA r o)):=by
 obtain⟨o,ho⟩:=Qc (n:=r) (m 0 0) fun i hi=>PT S hA (m i) v hn TM (fun j hj=>ha i j hi hj) hb h1 h2;exact⟨o,fun i hi=>⟨(ho i hi).1,(ho i hi).2.1⟩,IU (fun _=>n) (fun i j=>(m i j).x) (fun j=>(v j).x) (fun i=>(o i).x) hr fun i hi=>(ho i hi).2.2⟩
theorem Gp {n n':Nat}(a b:Nat→Nu A)(hn:n<2^38)(h:n=n'→∀i,i<n→(a i).w≤wA∧(b i).w≤wB∧((a i).v=(b i).v∨(a i).w+(b i).w≤wA)){r:Bool}(hr:r=true↔n=n'∧∀i,i<n→(a i).v=(b i).v):
  Pr prog 27 [.one (AA n a),.one (AA n' b)] (.one (.bool r)):=by
 refine Ja (fun i=>(a i).x) (fun i=>(b i).x) hn (fun i=>open Classical in decide ((a i).v=(b i).v)) (fun e i hi=>?_) (by rw[hr];simp);obtain⟨h1,h2,h3⟩:=h e i hi;exact rf S hA h1 h2 h3 (by simp)
theorem Lz {n n':Nat}(c c':Nat→Nat)(a b:Nat→Nat→Nu A)(hn:n<2^38)(hc:∀i,i<n→c i<2^38)(h:n=n'→∀i j,i<n→c i=c' i→j<c i→(a i j).w≤wA∧(b i j).w≤wB∧((a i j).v=(b i j).v∨(a i j).w+(b i j).w≤wA))
  {r:Bool} (hr:r=true↔n=n'∧∀i,i<n→c i=c' i∧∀j,j<c i→(a i j).v=(b i j).v):Pr prog 25 [.one (eA n c a),.one (eA n' c' b)] (.one (.bool r)):=by
 refine HF c c' (fun i j=>(a i j).x) (fun i j=>(b i j).x) hn (fun i=>open Classical in decide (c i=c' i∧∀j,j<c i→(a i j).v=(b i j).v)) (fun e i hi=>?_) (by rw[hr];simp);exact Gp S hA (a i) (b i) (hc i hi) (fun e2 j hj=>h e i j hi e2 hj) (by simp)
end
open Go Go.Eng
open Go.Tw (El)
def jj (x:Nat→Nat→Nb)(a b:Nat):Nat→Nat→Nb:=fun i=>if i=a then x b else if i=b then x a else x i
def fu (x:Nat→Nat→Nb)(T:Nat→Nb)(Z:Nat→Nat→Nb)(s2:Nat→Int)(q t n:Nat):Nat→Nat→Nb:=fun i=>if i=q then T else if i<n then(if s2 i=0 then jj x q t i else Z i)else jj x q t i
def jA (l:List Nat):List Int:=l.map fun(n:Nat)=>(n:Int)
theorem cM {l:List Nat}:(jA l).length=l.length:=List.length_map _
open Go Go.Eng
open Go.Tw (El)
def ru (z:Int):Nb:=([],[Rat.ofInt z])
def yA (z:Int)(j:Nat):Nb:=if(j:Int)=z then ru 1 else ru 0
theorem Hy (l:List Int)(z:Int):z∉l∨∃i:Nat,i<l.length∧l.getD i 0=z∧∀j,j<i→l.getD j 0≠z:=by
 by_cases h:∃i:Nat,i<l.length∧l.getD i 0=z
 ·obtain⟨i,h1,h2⟩:=h
  right
  induction i using Nat.strongRecOn with
  |ind i ih=>
   by_cases h3:∃j,j<i∧l.getD j 0=z
   ·obtain⟨j,h4,h5⟩:=h3;exact ih j h4 (by omega) h5
   exact⟨i,h1,h2,fun j hj e=>h3 ⟨j,hj,e⟩⟩
 left
 intro hm;obtain⟨i,hi,e⟩:=List.mem_iff_getElem.1 hm;exact h ⟨i,hi,by rw[X7,X8 hi,←e];rfl⟩
theorem Al {l:List Int}{i:Nat}(h:i<l.length):l.getD i 0∈l:=by
 rw[X7,X8 h];exact List.getElem_mem h
theorem Nc (l:List Int)(z:Int):∃r:Int,(0≤r↔z∈l)∧((∀i,i<l.length→l.getD i 0≠z)→r= -1)∧(∀i:Nat,i<l.length→l.getD i 0=z→(∀j,j<i→l.getD j 0≠z)→r=i):=by
 rcases Hy l z with h|⟨i,h1,h2,h3⟩
 ·exact⟨-1,by simp[h],fun _=>rfl,fun i hi e=>absurd (e▸Al hi) h⟩
 refine⟨i,⟨fun _=>h2▸Al h1,fun _=>by omega⟩,fun h=>absurd h2 (h i h1),fun j h4 h5 h6=>?_⟩
 rcases Nat.lt_trichotomy i j with h|h|h
 ·exact absurd h2 (h6 i h)
 ·rw[h]
 exact absurd h5 (h3 j h)
theorem CT (l:List Int)(z r:Int)(hl:l.length<2^38)(h1:(∀i,i<l.length→l.getD i 0≠z)→r= -1)(h2:∀i:Nat,i<l.length→l.getD i 0=z→(∀j,j<i→l.getD j 0≠z)→r=i):Pr prog 81 [.one (.ints .i64 l),.one (.int .i64 z)] (.one (.int .i64 r)):=by
 refine pw func81 ⟨[0,1,4,5,7,8,9,16],[]⟩ ?_;simp only[Tryz.f81,ntmps81,iz,seval];simp only[vx,T,seval];refine Lk (fun y:{i:Nat//i≤l.length∧∀j,j<i→l.getD j 0≠z}=>⟨[(0,.one (.ints .i64 l)),(1,.one (.int .i64 z)),(4,.one (.int .i64 0)),(7,.one (.int .i64 l.length)),(8,.one (.int .i64 y.1))],[],1,19⟩) (fun y=>l.length-y.1) ⟨0,Nat.zero_le _,fun j hj=>absurd hj (Nat.not_lt_zero _)⟩ ?_ (fun⟨i,hi,hb⟩=>?_)
 ·refine Sa ?_;simp only[ry,seval,rz]
 simp only;have wi:=wI i (by omega);simp only[vx,T,seval];refine⟨fun g=>Lg ?_,fun g=>Lg ?_⟩
 ·simp only[vx,T,seval];refine⟨by omega,?_⟩;refine⟨fun g2=>Lg ?_,fun g2=>Lg ?_⟩
  ·have e:=h2 i (by omega) g2.symm hb;simp only[vx,T,seval];exact Ve (by rw[e])
  simp only[vx,T,seval,wi];refine Lq ⟨i+1,by omega,fun j hj=>?_⟩ ?_ (by show l.length-(i+1)<l.length-i;omega)
  ·by_cases e:j=i
   ·rw[e];exact fun h=>g2 h.symm
   exact hb j (by omega)
  refine Sa ?_;simp only[ry,seval,rz]
 have e:=h1 fun j hj=>hb j (by omega);simp only[vx,T,seval];exact Ve (by rw[e])
theorem vU (l:List Int)(z:Int)(hl:l.length<2^38){b:Bool}(hb:b=true↔z∈l):Pr prog 44 [.one (.ints .i64 l),.one (.int .i64 z)] (.one (.bool b)):=by
 obtain⟨r,h,h1,h2⟩:=Nc l z;have c:=CT l z r hl h1 h2;obtain rfl:b=decide (0≤r):=by rw[Bool.eq_iff_iff,hb,←h,decide_eq_true_iff]
 refine pw func44 ⟨[0,1,4],[]⟩ ?_;simp only[Tryz.f44,ntmps44,iz,seval];simp only[vx,T,seval];refine Cg c ?_;simp only[vx,T,seval];exact Ve rfl
end Go.Proofs.YtchkplkghknabaaGreat
namespace Go.Mx
open Go Go.R
def lR {α:Type}(p:List Nat)(f:Nat→α)(b:Nat→α):Nat→Nat→α
 |0=>b
 |i+1=>fun j=>if j=p.getD i 0 then f i else lR p f b i j
theorem pB {α β:Type}(g:α→β){p:List Nat}{f b:Nat→α}{j:Nat}:∀{n:Nat},g (lR p f b n j)=lR p (fun i=>g (f i)) (fun i=>g (b i)) n j
 |0=>rfl
 |n+1=>by
  show g (if j=p.getD n 0 then f n else lR p f b n j)=if j=p.getD n 0 then g (f n)else _
  rw[←pB g]
  split<;>rfl
theorem ye {p:List Nat}{k:Nat}:k∈p↔∃i,i<p.length∧k=p.getD i 0:=by
 refine⟨fun h=>?_,fun⟨i,hi,e⟩=>?_⟩
 ·obtain⟨i,hi,e⟩:=List.mem_iff_getElem.1 h;exact⟨i,hi,by rw[X7,X8 hi,←e];rfl⟩
 rw[e,X7,X8 hi];exact List.getElem_mem hi
section
variable {r k:Nat}{N:Mt}{p:List Nat}
end
def free (p:List Nat):Nat→Nat
 |0=>0
 |k+1=>free p k+if p.contains k then 0 else 1
theorem yW {p:List Nat}{x:Nat}:∀{k:Nat},k≤x→free (p++[x]) k=free p k
 |0,_=>rfl
 |k+1,h=>by
  rw[free,free,yW (by omega)]
  have:(p++[x]).contains k=p.contains k:=by
   rw[Bool.eq_iff_iff,List.contains_iff_mem,List.contains_iff_mem,List.mem_append,List.mem_singleton];exact⟨fun h=>h.resolve_right (by omega),.inl⟩
  rw[this]
theorem AK (r:Nat)(M:Mt):∀k,free (red r M k).2 k+(red r M k).2.length=k
 |0=>rfl
 |k+1=>by
  have ih:=AK r M k;have E:=dQ r M k;rw[red];unfold j7;have hk:(red r M k).2.contains k=false:=by
   rw[←Bool.not_eq_true,List.contains_iff_mem,ye];rintro⟨i,hi,e⟩
   have:=E.lt i hi
   omega
  split
  ·rw[free,yW (Nat.le_refl _),X6,List.length_singleton]
   have:((red r M k).2++[k]).contains k=true:=by rw[List.contains_iff_mem];simp
   rw[if_pos this];omega
  rw[free,if_neg (by rw[hk];decide)];omega
def gN (r c:Nat)(M N:Mt):Prop:=∀i j,i<r→j<c→M i j=N i j
theorem wW {r c k:Nat}{M N:Mt}(h:gN r c M N)(hk:k<c):∀n p,p+n≤r→ka M k n p=ka N k n p
 |0,_,_=>rfl
 |n+1,p,hp=>by
  unfold ka;rw[h p k (by omega) hk,wW h hk n (p+1) (by omega)]
theorem C6 {r c k:Nat}{s t:Mt×List Nat}(h:gN r c s.1 t.1)(h2:s.2=t.2)(hk:k<c)(hl:s.2.length≤r):gN r c (j7 r k s).1 (j7 r k t).1∧(j7 r k s).2=(j7 r k t).2:=by
 obtain⟨M,p⟩:=s;obtain⟨N,p'⟩:=t;obtain rfl:p=p':=h2;simp only at h hl;unfold j7;simp only;rw[wW h hk (r-p.length) p.length (by omega)]
 split
 ·rename_i hf
  refine⟨fun i j hi hj=>?_,rfl⟩;have ht:=(mN N k (r-p.length) p.length).1
  generalize ka N k (r-p.length) p.length=t at hf ht
  have hs:gN r c (lS M p.length t) (lS N p.length t):=by
   intro i j hi hj;unfold lS
   split
   ·exact h t j hf hj
   split
   ·exact h _ j (by omega) hj
   exact h i j hi hj
  show iH _ _ _ i j=iH _ _ _ i j;unfold iH;rw[hs _ j (show p.length<r by omega) hj,hs _ k (show p.length<r by omega) hk,hs i j hi hj,hs i k hi hk]
 exact⟨h,rfl⟩
theorem Dl {r c:Nat}{M N:Mt}(h:gN r c M N):∀k,k≤c→gN r c (red r M k).1 (red r N k).1∧(red r M k).2=(red r N k).2
 |0,_=>⟨h,rfl⟩
 |k+1,hk=>by
  obtain⟨h1,h2⟩:=Dl h k (by omega);exact C6 h1 h2 hk (dQ r M k).len
end Go.Mx
namespace Go.Proofs.YtchkplkghknabaaGreat
open Go.Proofs.Tryz
open Go Go.Eng
open Go.Tw (El)
open Go.Mx (lR free)
theorem oO (p:List Nat)(i:Nat):(jA p).getD i 0=((p.getD i 0:Nat):Int):=by
 rw[X7,X7,jA,List.getElem?_map]
 cases p[i]? <;>rfl
theorem CY {p:List Nat}{k:Nat}:(k:Int)∈jA p↔k∈p:=by
 unfold jA;rw[List.mem_map];refine⟨fun⟨a,h,e⟩=>?_,fun h=>⟨k,h,rfl⟩⟩;obtain rfl:a=k:=by omega
 exact h
def fl (p:List Nat):Nat→List Nat
 |0=>[]
 |k+1=>if k∈p then fl p k else fl p k++[k]
theorem ML (p:List Nat):∀k,(fl p k).length≤k
 |0=>Nat.le_refl _
 |k+1=>by
  have ih:=ML p k;rw[fl]
  split
  ·omega
  rw[X6,List.length_singleton];omega
def Mp (p:List Nat)(G:Nat→Nat→Nb)(u:Nat→Nat→Nb)(n k:Nat):Nat→Nb:=lR p (fun i=>G i k) (u k) n
theorem sE {α:Type}(p:List Nat)(f b:Nat→α)(n j:Nat):lR p f b (n+1) j=if j=p.getD n 0 then f n else lR p f b n j:=rfl
theorem Iw (p:List Nat)(f b:Nat→Nb)(n:Nat):∀i j,j<2→bt (fun j=>bR (lR p f b n j)) (p.getD n 0) 0 [tC (f n).1.length (f n).1,ae (f n).2] i j=bR (lR p f b (n+1) i) j:=by
 intro i j hj;unfold bt;rw[sE]
 by_cases h:i=p.getD n 0
 ·rw[if_pos h,if_pos h,if_pos (Nat.zero_le _),if_pos (by simpa using hj)]
  match j,hj with
  |0,_=>rfl
  |1,_=>rfl
 rw[if_neg h,if_neg h]
open Go Go.Eng
open Go.Tw (El)
open Go.Mx (lR free)
def EL (c:Nat)(x:Nat→Nat→Nb)(b:Nat→Nb)(i j:Nat):Nb:=if j<c then x i j else b i
def BI (x:Nb)(i j:Nat):C:=[tC x.1.length x.1,ae x.2].getD (i*2+j) .any
theorem Db (x:Nb){d:Nat}(hd:d≤1):dB (.rows 2 d (BI x)) (ak d fun _=>x):=by
 unfold ak;refine dB.rows rfl fun i j hi hj=>dB.of_eq ?_;obtain rfl:i=0:=by omega
 match j,hj with
 |0,_=>rfl
 |1,_=>rfl
end Go.Proofs.YtchkplkghknabaaGreat
namespace Go.Mx
open Go Go.R
open Go.Tw (lK)
section
variable {A:List R}
def Wv (A:List R)(x:R)(w:Nat):Prop:=1≤w∧lK A x (300*w-1) (3*w)
theorem Wv.mono {x:R}{w v:Nat}(h:Wv A x w)(k:w≤v):Wv A x v:=⟨Nat.le_trans h.1 k,h.2.mono (by omega) (by omega)⟩
theorem Wv.add {x y:R}{w v:Nat}(h:Wv A x w)(k:Wv A y v):Wv A (x+y) (w+v):=by
 have:=h.1;have:=k.1
 exact⟨by omega,(h.2.add k.2).mono (by omega) (by omega)⟩
theorem Wv.mul {x y:R}{w v:Nat}(h:Wv A x w)(k:Wv A y v):Wv A (x*y) (w+v):=by
 have:=h.1;have:=k.1
 exact⟨by omega,(h.2.mul k.2).mono (by omega) (by omega)⟩
theorem Wv.neg {x:R}{w:Nat}(h:Wv A x w):Wv A (-x) w:=⟨h.1,h.2.neg⟩
theorem Wv.sub {x y:R}{w v:Nat}(h:Wv A x w)(k:Wv A y v):Wv A (x-y) (w+v):=by rw[sub_def];exact h.add k.neg
theorem Wv.iv {x:R}{w:Nat}(h:Wv A x w)(h0:x≠q 0):Wv A (iv x) w:=⟨h.1,h.2.inv (oy h0)⟩
theorem Wv.one:Wv A (q 1) 1:=⟨Nat.le_refl 1,(lK.rat (x:=1) (β:=0) (by decide) (by decide)).mono (by omega) (by omega)⟩
def MW (A:List R)(r c:Nat)(M:Mt)(w:Nat):Prop:=∀i j,i<r→j<c→Wv A (M i j) w
theorem HW {r c k w:Nat}{s:Mt×List Nat}(hl:s.2.length≤r)(hk:k<c)(h:MW A r c s.1 w):MW A r c (j7 r k s).1 (w*4^((j7 r k s).2.length-s.2.length)):=by
 obtain⟨N,p⟩:=s;unfold j7
 split
 ·rename_i hf
  obtain⟨hp,hn⟩:=xd (s:=(N,p)) hl hf;simp only at hf hp hn h hl⊢
  generalize ka N k (r-p.length) p.length=t at hf hp hn
  rw[X6,List.length_singleton,Nat.add_sub_cancel_left,Nat.pow_one];have hs:MW A r c (lS N p.length t) w:=by
   intro i j hi hj;unfold lS
   split
   ·exact h t j hf hj
   split
   ·exact h _ j (by omega) hj
   exact h i j hi hj
  have ht:lS N p.length t p.length k≠q 0:=by
   unfold lS;rw[if_pos rfl];exact hn
  generalize lS N p.length t=S at hs ht
  intro i j hi hj;have hlr:p.length<r:=by omega
  have h1:=(hs p.length j hlr hj).mul ((hs p.length k hlr hk).iv ht);have h2:=h1.1;show Wv A (iH S p.length k i j) (w*4);unfold iH
  split
  ·exact h1.mono (by omega)
  exact((hs i j hi hj).sub (h1.mul (hs i k hi hk))).mono (by omega)
 rw[Nat.sub_self,Nat.pow_zero,Nat.mul_one];exact h
theorem xt (r k:Nat)(s:Mt×List Nat):s.2.length≤(j7 r k s).2.length:=by
 unfold j7
 split
 ·rw[X6];omega
 exact Nat.le_refl _
theorem IY {r c:Nat}{M:Mt}(h:MW A r c M 1):∀k,k≤c→MW A r c (red r M k).1 (4^(red r M k).2.length)
 |0,_=>h
 |k+1,hk=>by
  have h1:=HW (k:=k) (c:=c) (dQ r M k).len (by omega) (IY h k (by omega));have h2:=xt r k (red r M k);rw[←Nat.pow_add,show (red r M k).2.length+((j7 r k (red r M k)).2.length-(red r M k).2.length)=(j7 r k (red r M k)).2.length by omega]at h1;exact h1
end
section
variable {A:List R}{r c:Nat}{M:Mt}{b v:Nat→R}
end
end Go.Mx
namespace Go.Proofs.YtchkplkghknabaaGreat
open Go.Proofs.Tryz
open Go Go.Eng
open Go.Tw (El ax TG)
open Go.Mx (sm iv gN red j7 ka lS iH Wv MW)
section
variable {A:List R}
def vM (X:Nat→Nat→Nu A):Nat→Nat→R:=fun i j=>(X i j).v
def jo (X:Nat→Nat→Nu A)(a b:Nat):Nat→Nat→Nu A:=fun i=>if i=a then X b else if i=b then X a else X i
theorem Hd (X:Nat→Nat→Nu A)(a b i j:Nat):(jo X a b i j).v=lS (vM X) a b i j:=by
 unfold jo lS vM
 split
 ·rfl
 split<;>rfl
theorem tW (X:Nat→Nat→Nu A)(a b i j:Nat):(jo X a b i j).x=jj (fun i j=>(X i j).x) a b i j:=by
 unfold jo jj
 split
 ·rfl
 split<;>rfl
theorem Nu.wv (a:Nu A):Wv A a.v a.w:=⟨a.hw,a.ok.sz⟩
theorem Q6 {r c W:Nat}(X:Nat→Nat→Nu A)(h:MW A r c (vM X) W):∃Y:Nat→Nat→Nu A,(fun i j=>(Y i j).x)=(fun i j=>(X i j).x)∧vM Y=vM X∧∀i j,i<r→j<c→(Y i j).w≤W:=by
 have h1:∀i j,∃y:Nu A,y.x=(X i j).x∧y.v=(X i j).v∧(i<r→j<c→y.w≤W):=fun i j=>by
  by_cases g:i<r∧j<c
  ·have e:=h i j g.1 g.2;exact⟨⟨(X i j).x,(X i j).v,W,e.1,(X i j).ok.tg,(X i j).ok.len,(X i j).ok.val,e.2⟩,rfl,rfl,fun _ _=>Nat.le_refl _⟩
  exact⟨X i j,rfl,rfl,fun h1 h2=>absurd ⟨h1,h2⟩ g⟩
 obtain⟨Y,hY⟩:=Classical.skolem.1 fun i=>Classical.skolem.1 (h1 i);exact⟨Y,funext fun i=>funext fun j=>(hY i j).1,funext fun i=>funext fun j=>(hY i j).2.1,fun i j=>(hY i j).2.2⟩
theorem Nx {X:Nat→Nat→Nu A}{a b r c W:Nat}(ha:a<r)(hb:b<r)(h:∀i j,i<r→j<c→(X i j).w≤W){i j:Nat}(hi:i<r)(hj:j<c):(jo X a b i j).w≤W:=by
 unfold jo
 split
 ·exact h _ _ hb hj
 split
 ·exact h _ _ ha hj
 exact h _ _ hi hj
variable (S:Go.Tw.Src 64 A)(hA:Go.Tw.j9 A)
include S hA
omit S hA in
theorem A7 (r:Nat)(M:Nat→Nat→R)(k:Nat):(red r M k).2.length≤k:=by
 have:=Go.Mx.AK r M k
 omega
omit S hA in
theorem NS (r:Nat)(M:Nat→Nat→R)(k:Nat):(red r M (k+1)).2=if ka (red r M k).1 k (r-(red r M k).2.length) (red r M k).2.length<r then(red r M k).2++[k]else(red r M k).2:=by
 show(j7 r k (red r M k)).2=_
 unfold j7
 split<;>rfl
omit S hA in
theorem MT {r c:Nat}{M:Nat→Nat→Nu A}(hw:∀i j,i<r→j<c→(M i j).w≤1):MW A r c (vM M) 1:=fun i j hi hj=>(M i j).wv.mono (hw i j hi hj)
end
open Go Go.Eng
open Go.Tw (El)
theorem MY {n:Nat}(a:Nat→Nb)(k:Nat)(hk:k<n)(hn:n<2^38){s:Int}(h:Pr prog 67 [nX (a k)] (.one (.int .i64 s))):Pr prog 66 [.one (ak n a),.one (EK (.int .i64 k))] (.one (.bool (decide (s≠0)))):=by
 unfold EK;refine pw func66 ⟨[0,1,3],[]⟩ ?_;simp only[Tryz.f66,ntmps66,iz,seval];have hp:Py ([C.int .i64 (k:Int)].getD 0 .any)= .int .i64 (k:Int):=rfl;simp only[vx,T,seval,ak,bR,tC,ae,hp];refine⟨by omega,Cg h ?_⟩;simp only[vx,T,seval];exact Ve rfl
theorem Sub.mk {e e':List (Nat×V)}{o o':List (Nat×fA)}{x x' n:Nat}(rn:List (Nat×Option Nat))(h:(rU rn 0=some 0∧0<x')∧Y0 rn x' e e'∧Y4 rn x' o o'∧Y6 rn o'):Sub ⟨e,o,x,n⟩ ⟨e',o',x',n⟩:=
 Sub.of rn h.1 rfl h.2.1 h.2.2.1 h.2.2.2
def PG:V→Option V
 |.one (.ptr b off)=>some (.one (.ptr b off))
 |.one (.elt c wd i off)=>some (.one (.elt c wd i off))
 |.one (.eptr b wd i off)=>some (.one (.eptr b wd i off))
 |_=>none
theorem Ii {T:fH}{P:Program}{e:List (Nat×V)}{o:List (Nat×fA)}{x n:Nat}{K:eK→Prop}{a:Operand}{nx id:Nat}{fz:Bool}:eL T P (.nilCheck a) ⟨e,o,x,n⟩ nx id fz K=bX (PG (St.ev ⟨e,o,x,n⟩ a)) (fun v=>K ⟨v,none,[]⟩):=by
 unfold eL;simp only
 cases h:St.ev ⟨e,o,x,n⟩ a with
 |one c=>cases c<;>rfl
 |_=>rfl
theorem OM {b off:Nat}:PG (.one (.ptr b off))=some (.one (.ptr b off)):=rfl
def K0 (f:FuncId)(x y z:Nb):Prop:=Pr prog f [nX x,nX y] (.aB [nX z,.one (.int .i64 0)])
def P6 (r c k q:Nat)(X X':Nat→Nat→Nb)(d d':Nb)(t:Nat):Prop:=
 ∃sg:Nat→Int,(∀i,q≤i→i<r→Pr prog 67 [nX (X i k)] (.one (.int .i64 (sg i))))∧q≤t∧t≤r∧(∀i,q≤i→i<t→sg i=0)∧
  ((
   t=r∧X'=X∧d'=d)∨(t<r∧sg t≠0∧∃(d1:Nb) (T:Nat→Nb) (Z Q:Nat→Nat→Nb) (s2 sT:Nat→Int),
   (q<t→Pr prog 46 [nX d] (nX d1))∧(t=q→d1=d)∧K0 101 d1 (X t k) d'∧(∀j,k≤j→j<c→K0 103 (X t j) (X t k) (T j))∧(∀j,j<k→T j=X t j)∧
   (∀j,k≤j→j<c→Pr prog 67 [nX (T j)] (.one (.int .i64 (sT j))))∧
   (∀i,i<r→i≠q→Pr prog 67 [nX (jj X q t i k)] (.one (.int .i64 (s2 i))))∧
   (∀i,i<r→i≠q→s2 i≠0→∀j,j<c→((j<k∨sT j=0)→Z i j=jj X q t i j)∧(k≤j→sT j≠0→K0 101 (jj X q t i k) (T j) (Q i j)∧K0 146 (jj X q t i j) (Q i j) (Z i j)))∧
   X'=fun i=>if i=q then T else if s2 i=0 then jj X q t i else Z i))
structure DJ (r c:Nat) (σ:Nat→Nat) (Y:Nat→Nb) (X:Nat→Nat→Nb):Prop where
 lt:∀i,i<r→σ i<r
 inj:∀i j,i<r→j<r→σ i=σ j→i=j
 eq:∀i j,i<r→j<c→Y (σ i*c+j)=X i j
theorem place {r c s j:Nat}(hs:s<r)(hj:j<c):s*c+j<r*c:=by
 have:=Nat.mul_le_mul_right c (show s+1≤r from hs)
 rw[Nat.add_mul,Nat.one_mul]at this;omega
theorem mi {r c s:Nat}(hs:s<r):s*c+c≤r*c:=by
 have:=Nat.mul_le_mul_right c (show s+1≤r from hs)
 rw[Nat.add_mul,Nat.one_mul]at this;omega
theorem apart {c s t:Nat}(h:s≠t):s*c+c≤t*c∨t*c+c≤s*c:=by
 rcases Nat.lt_or_gt_of_ne h with h|h
 ·exact .inl (mi h)
 exact .inr (mi h)
theorem AD (Z P:Nat→Nb)(a f p:Nat):gq Z P a f f p=P p:=if_neg (by omega)
theorem DJ.swap {r c:Nat}{σ:Nat→Nat}{Y:Nat→Nb}{X:Nat→Nat→Nb}(h:DJ r c σ Y X){q t:Nat}(hq:q<r)(ht:t<r):DJ r c (fun j=>if j=t then σ q else if j=q then σ t else σ j) Y (jj X q t):=by
 have key:∀i,i<r→∃i',i'<r∧(if i=t then σ q else if i=q then σ t else σ i)=σ i'∧jj X q t i=X i'∧i'=(if i=t then q else if i=q then t else i):=by
  intro i hi;unfold jj
  by_cases h1:i=t
  ·refine⟨q,hq,by rw[if_pos h1],?_,by rw[if_pos h1]⟩
   by_cases h2:i=q
   ·rw[if_pos h2,←h1,h2]
   rw[if_neg h2,if_pos h1]
  by_cases h2:i=q
  ·exact⟨t,ht,by rw[if_neg h1,if_pos h2],by rw[if_pos h2],by rw[if_neg h1,if_pos h2]⟩
  exact⟨i,hi,by rw[if_neg h1,if_neg h2],by rw[if_neg h2,if_neg h1],by rw[if_neg h1,if_neg h2]⟩
 refine⟨fun i hi=>?_,fun i j hi hj e=>?_,fun i j hi hj=>?_⟩
 ·obtain⟨i',h1,h2,_⟩:=key i hi
  show(if i=t then σ q else if i=q then σ t else σ i)<r
  rw[h2];exact h.lt i' h1
 ·obtain⟨i',h1,h2,_,h3⟩:=key i hi;obtain⟨j',h4,h5,_,h6⟩:=key j hj;have e':(if i=t then σ q else if i=q then σ t else σ i)=(if j=t then σ q else if j=q then σ t else σ j):=e;rw[h2,h5]at e'
  have:=h.inj i' j' h1 h4 e'
  rw[h3,h6]at this
  split at this<;>split at this<;>(try split at this)<;>(try split at this)<;>omega
 obtain⟨i',h1,h2,h3,_⟩:=key i hi;show Y ((if i=t then σ q else if i=q then σ t else σ i)*c+j)=jj X q t i j;rw[h2,h3];exact h.eq i' j h1 hj
theorem DJ.set {r c:Nat}{σ:Nat→Nat}{Y:Nat→Nb}{X:Nat→Nat→Nb}(h:DJ r c σ Y X){n k:Nat}(hn:n<r)(Z:Nat→Nb)(hz:∀j,j<k→j<c→Z j=X n j):DJ r c σ (gq Z Y (σ n*c) k c) (fun i=>if i=n then Z else X i):=by
 refine⟨h.lt,h.inj,fun i j hi hj=>?_⟩;show gq Z Y (σ n*c) k c (σ i*c+j)=(if i=n then Z else X i) j;unfold gq
 by_cases e:i=n
 ·subst e;rw[if_pos rfl]
  by_cases h1:k≤j
  ·rw[if_pos ⟨by omega,by omega⟩,Nat.add_sub_cancel_left]
  rw[if_neg (by omega),h.eq i j hi hj,hz j (by omega) hj]
 rw[if_neg e];have ap:=apart (c:=c) (fun e2=>e (h.inj i n hi hn e2):σ i≠σ n);rw[if_neg (by omega),h.eq i j hi hj]
theorem An {Z P:Nat→Nb}{a f t:Nat}(ht:f≤t):∀p j,j<2→bt (fun p=>bR (gq Z P a f t p)) (a+t) 0 [tC (Z t).1.length (Z t).1,ae (Z t).2] p j=bR (gq Z P a f (t+1) p) j:=by
 intro p j hj;unfold bt gq
 by_cases h:p=a+t
 ·rw[if_pos h,if_pos (Nat.zero_le _),if_pos (by simpa using hj),if_pos (by omega),h,Nat.add_sub_cancel_left]
  match j,hj with
  |0,_=>rfl
  |1,_=>rfl
 rw[if_neg h]
 dsimp only
 by_cases h2:a+f≤p∧p<a+t
 ·rw[if_pos h2,if_pos (by omega)]
 rw[if_neg h2,if_neg (by omega)]
theorem wD {x:Nat→Nat→Nb}{T:Nat→Nb}{Z:Nat→Nat→Nb}{s2:Nat→Int}{q t n:Nat}(hn:n≠q)(h:s2 n≠0):fu x T Z s2 q t (n+1)=fun i=>if i=n then Z n else fu x T Z s2 q t n i:=by
 funext i
 by_cases e:i=n
 ·subst e;simp only[fu,if_neg hn,if_pos (Nat.lt_succ_self i),if_neg h,if_true]
 simp only[fu,if_neg e,show (i<n+1)=(i<n) by simp;omega]
theorem oS {x:Nat→Nat→Nb}{T:Nat→Nb}{Z:Nat→Nat→Nb}{s2:Nat→Int}{q t n:Nat}(h:s2 n=0∨n=q):fu x T Z s2 q t (n+1)=fu x T Z s2 q t n:=by
 funext i
 by_cases e:i=n
 ·subst e
  rcases h with h|h
  ·by_cases e2:i=q
   ·simp only[fu,if_pos e2]
   simp only[fu,if_neg e2,if_pos (Nat.lt_succ_self i),if_pos h,if_neg (Nat.lt_irrefl i)]
  simp only[fu,if_pos h]
 simp only[fu,show (i<n+1)=(i<n) by simp;omega]
theorem PM {r c:Nat}(M:Nat→Nat→Nb)(P:Nat→Nb)(xs:Nat→Nat→Nat→Nb)(ds:Nat→Nb)(ps:Nat→List Nat)(ts:Nat→Nat)(hr:r<2^30)(hc:c<2^30)(UT:r*c<2^30)(h0:r=0→c=0)(hj:dL prog 99 [.one (ak (r*c) fun p=>M (p/c) (p%c))] (.rows 37 2 (r*c) (fun p=>bR (P p))) (.int .i64 0))
  (U4:∀i j,i<r→j<c→P (i*c+j)=xs 0 i j) (ZU:ds 0=ru 1) (p0:ps 0=[]) (hq:∀k,k≤c→(ps k).length≤r) (hs:∀k,k<c→P6 r c k (ps k).length (xs k) (xs (k+1)) (ds k) (ds (k+1)) (ts k)) (hp:∀k,k<c→ps (k+1)=if ts k<r then ps k++[k]else ps k):
  Pr prog 34 [.one (ao r (fun _=>c) M)] (.aB [.agg [ao r (fun _=>c) (xs c),.ints .i64 (jA (ps c)),tC (ds c).1.length (ds c).1,ae (ds c).2],.one (.int .i64 0)]):=by
 have cj:=LL M P UT hr hj;have cl:=kj (r:=r) (fun _=>c) M (k:=c) (by split;exact h0 (by assumption);rfl) (by omega);have c1:=pa 1 (by decide);refine pw func34 ⟨[0,2,3,4,5,6,7,8,9,10,11,12,13,14,15,22,31,32,33,44,46,89,108,109,110,111,126,148],[(13,(.cons 17 [2,3,4,5,18] (.cons 19 [] .nil .nil) .nil)),(26,(.cons 8 [] .nil .nil)),(31,(.cons 0 [1] (.cons 2 [] (.cons 3 [] (.cons 4 [] (.cons 5 [] (.cons 6 [] .nil .nil) .nil) (.cons 5 [] (.cons 4 [] (.cons 6 [] .nil .nil) .nil) .nil)) (.cons 5 [] (.cons 3 [] (.cons 4 [] (.cons 6 [] .nil .nil) .nil) .nil) .nil)) (.cons 5 [1] (.cons 2 [] (.cons 3 [] (.cons 4 [] (.cons 6 [] .nil .nil) .nil) .nil) .nil) .nil)) (.cons 2 [] (.cons 0 [] (.cons 3 [] (.cons 4 [] (.cons 5 [] (.cons 6 [] .nil .nil) .nil) (.cons 5 [] (.cons 4 [] (.cons 6 [] .nil .nil) .nil) .nil)) (.cons 5 [] (.cons 3 [] (.cons 4 [] (.cons 6 [] .nil .nil) .nil) .nil) .nil)) (.cons 3 [] (.cons 0 [] (.cons 4 [] (.cons 5 [] (.cons 6 [] .nil .nil) .nil) (.cons 5 [] (.cons 4 [] (.cons 6 [] .nil .nil) .nil) .nil)) (.cons 4 [] (.cons 0 [] (.cons 5 [] (.cons 6 [] .nil .nil) .nil) .nil) .nil)) .nil)) .nil)))]⟩ ?_;simp only[Tryz.f34,ntmps34,iz,seval];simp only[vx,T,seval,ao,ak];refine cK.NV cj ?_;simp only[vx,T,seval,ao,ak];refine Cg c1 ?_;simp only[vx,T,seval,ao,ak,nX,nV,tC,ae];refine Cg cl ?_;simp only[vx,T,seval,ao,ak];refine Lk (fun y:{y:Nat×(Nat→Nat)×(Nat→Nb)//y.1≤c∧DJ r c y.2.1 y.2.2 (xs y.1)}=>⟨[(2,.one (.ptr 1 0)),(3,.one (.int .i64 0)),(4,.one (.win 2 3 0 r)),(6,.one (.ptr 4 0)),(7,.one (.ptr 5 0)),(31,.one (.int .i64 c)),(32,.one (.int .i64 y.1.1))],
  [(1,⟨.var [.nil,.nil,.nil,.nil],true⟩),(2,⟨.wins 32 3 r (fun i=>.own 3 2 (y.1.2.1 i*c) c),true⟩),(3,⟨.rows 37 2 (r*c) (fun p=>bR (y.1.2.2 p)),true⟩),(4,⟨.var [.int .i64 0],false⟩),
   (5,⟨.var [.win 2 3 0 r,.own 6 1 0 (ps y.1.1).length,tC (ds y.1.1).1.length (ds y.1.1).1,ae (ds y.1.1).2],true⟩),(6,⟨.ints 3 .i64 (jA (ps y.1.1)),true⟩)],7,155⟩) (fun y=>c-y.1.1) ⟨(0,fun i=>i,P),Nat.zero_le _,⟨fun _ h=>h,fun _ _ _ _ h=>h,U4⟩⟩ ?_ (fun⟨⟨k,σ,Y⟩,hk,hY⟩=>?_)
 ·refine Sub.mk [(2,some 4),(3,some 5),(4,some 14),(5,some 19),(6,none)] ?_;simp only[ry,seval,X2,X3,X4,ao,ak,p0,jA,ZU,ru,tC,ae,List.map_nil]
 simp only at hk hY;have wi:=wI k (by omega);simp only[vx,T,seval,ao,ak];refine⟨fun g=>Lg ?_,fun g=>Lg ?_⟩
 ·obtain⟨sg,s0,tq,tr,sz,hy⟩:=hs k (by omega);have hqk:=hq k (by omega);have VA:k<c:=by omega
  -- the first row with a number
  have fi:∃z:Int,Pr prog 65 [.one (ao (r-(ps k).length) (fun _=>c) fun i j=>Y (σ ((ps k).length+i)*c+j)),.one (.fn 66 1 (fun _=>EK (.int .i64 k)))] (.one (.int .i64 z))∧((ts k=r∧z= -1)∨(ts k<r∧z=(ts k-(ps k).length:Nat))):=by
   have hf:∀i,i<r-(ps k).length→Pr prog 66 [.one (ak c fun j=>Y (σ ((ps k).length+i)*c+j)),.one (EK (.int .i64 k))] (.one (.bool (decide (sg ((ps k).length+i)≠0)))):=fun i hi=>by
    refine MY (fun j=>Y (σ ((ps k).length+i)*c+j)) k VA (by omega) ?_;rw[hY.eq _ k (by omega) VA];exact s0 _ (by omega) (by omega)
   have mk:=fun(z:Int) hz=>Mn (r:=r-(ps k).length) (fun _=>c) (fun i j=>Y (σ ((ps k).length+i)*c+j)) 66 (fun i=>decide (sg ((ps k).length+i)≠0)) (by omega) hf (k:=z) hz
   rcases hy with⟨h,_⟩|⟨h,hn,_⟩
   ·exact⟨-1,mk (-1) (.inl ⟨rfl,fun i hi=>by simpa using sz ((ps k).length+i) (by omega) (by omega)⟩),.inl ⟨h,rfl⟩⟩
   refine⟨_,mk _ (.inr ⟨ts k-(ps k).length,rfl,by omega,?_,fun i hi=>by simpa using sz ((ps k).length+i) (by omega) (by omega)⟩),.inr ⟨h,rfl⟩⟩;rw[Nat.add_sub_cancel' tq]
   simpa using hn
  obtain⟨z,hz,hzt⟩:=fi;have er:((r:Int)-((ps k).length:Int)).toNat=r-(ps k).length:=by omega
  simp only[vx,T,seval,ao,ak,er];refine⟨by omega,Cg (hz.args ⟨.refl _,.cell (dB.QT rfl),trivial⟩) ?_⟩;simp only[vx,T,seval,ao,ak];refine⟨fun g1=>Lg ?_,fun g1=>Lg ?_⟩
  ·have htr:ts k=r:=by omega
   obtain⟨hx,hd⟩:xs (k+1)=xs k∧ds (k+1)=ds k:=by
    rcases hy with⟨_,h⟩|⟨h,_⟩
    ·exact h
    omega
   have Wf:=hp k VA;rw[if_neg (by omega)]at Wf;simp only[vx,T,seval,wi];refine Lq ⟨(k+1,σ,Y),by omega,by show DJ r c σ Y (xs (k+1));rw[hx];exact hY⟩ ?_ (by show c-(k+1)<c-k;omega);refine Sub.mk [(2,some 2)] ?_;simp only[ry,seval,X2,X3,X4,ao,ak,hx,hd,Wf,tC,ae]
  obtain⟨ht,hzz⟩:ts k<r∧z=(ts k-(ps k).length:Nat):=by omega
  subst hzz;obtain⟨d1,T',Z,Q,s2,sT,Vw,UR,Vs,hT,hT2,hsT,TZ,hZ,hx⟩:=(hy.resolve_left (by omega)).2.2;clear hy;have Wf:=hp k VA;rw[if_pos ht]at Wf;have Vl:=hY.swap (show(ps k).length<r by omega) ht
  generalize hσ:(fun j=>if j=ts k then σ (ps k).length else if j=(ps k).length then σ (ts k)else σ j)=σ2 at Vl
  have hσ':∀i,σ2 i=if i=ts k then σ (ps k).length else if i=(ps k).length then σ (ts k)else σ i:=fun i=>by rw[←hσ]
  have wt:IntKind.i64.wrap (((ps k).length:Int)+((ts k-(ps k).length:Nat):Int))=(ts k:Int):=by rw[IntWalk.i64_in _ (by omega)];omega
  simp only[vx,T,seval,ao,ak];refine⟨fun g2=>Lg ?_,fun g2=>Lg ?_⟩
  ·have ne1:((ps k).length=ts k)=False:=eq_false (by omega);simp only[vx,T,seval,ao,ak,wt,tC,ae];refine⟨by omega,by omega,by omega,by omega,by omega,Cg (Vw (by omega)) ?_⟩;simp only[vx,T,seval,nX,nV,ao,ak,tC,ae];have hYt:Y (σ (ts k)*c+k)=xs k (ts k) k:=by exact hY.eq (ts k) k ht VA
   simp only[vx,T,seval,ao,ak,ne1,hYt,bR,tC,ae];refine⟨by omega,by omega,Cg (JO Vs) ?_⟩;simp only[vx,T,seval,nX,nV,ao,ak,ne1,bR,tC,ae];have Ug:=mi (r:=r) (c:=c) (hY.lt (ts k) (by omega));refine Lk (fun y:{j:Nat//k≤j∧j≤c}=>⟨[(2,.one (.ptr 1 0)),(3,.one (.int .i64 0)),(4,.one (.win 2 3 0 r)),(6,.one (.ptr 4 0)),(7,.one (.ptr 5 0)),(8,.one (.ptr 7 0)),(9,.one (.int .i64 (ps k).length)),(11,.one (.ptr 8 0)),(12,.one (.int .i64 y.1)),(31,.one (.int .i64 c)),(32,.one (.int .i64 k))],
    [(1,⟨.var [.nil,.nil,.nil,.nil],true⟩),(2,⟨.wins 32 3 r (fun i=>.own 3 2 (σ2 i*c) c),true⟩),(3,⟨.rows 37 2 (r*c) (fun p=>bR (gq T' Y (σ2 (ps k).length*c) k y.1 p)),true⟩),(4,⟨.var [.int .i64 0],false⟩),
     (5,⟨.var [.win 2 3 0 r,.own 6 1 0 (ps k).length,tC (ds (k+1)).1.length (ds (k+1)).1,ae (ds (k+1)).2],true⟩),(6,⟨.ints 3 .i64 (jA (ps k)),true⟩),(7,⟨.var [.int .i64 k],true⟩),(8,⟨.var [tC (xs k (ts k) k).1.length (xs k (ts k) k).1,ae (xs k (ts k) k).2],true⟩)],9,155⟩) (fun y=>c-y.1) ⟨k,Nat.le_refl _,hk⟩ ?_ (fun⟨j,hj,hjc⟩=>?_)
   ·refine Sa ?_;simp only[ry,seval,rz,ao,ak,tC,ae,AD];intro i hi;rw[hσ']
    by_cases h1:i=ts k
    ·rw[if_pos h1,if_pos h1];exact⟨rfl,rfl,rfl,rfl⟩
    by_cases h2:i=(ps k).length
    ·rw[if_neg h1,if_neg h1,if_pos h2,if_pos h2];exact⟨rfl,rfl,rfl,rfl⟩
    rw[if_neg h1,if_neg h1,if_neg h2,if_neg h2];exact⟨rfl,rfl,rfl,rfl⟩
   simp only;have wj:=wI j (by omega);simp only[vx,T,seval,ao,ak];refine⟨by omega,fun h=>Lg ?_,fun h=>Lg ?_⟩
   ·have e1:gq T' Y (σ2 (ps k).length*c) k j (σ2 (ps k).length*c+j)=xs k (ts k) j:=by
     rw[show gq T' Y (σ2 (ps k).length*c) k j (σ2 (ps k).length*c+j)=Y (σ2 (ps k).length*c+j)from if_neg (by omega),Vl.eq _ j (by omega) (by omega)];unfold jj;rw[if_pos rfl]
    have pl:=place (r:=r) (c:=c) (Vl.lt (ps k).length (by omega)) (show j<c by omega);simp only[vx,T,seval,ao,ak,e1,bR,tC,ae];refine⟨by omega,by omega,by omega,Cg (O6 (hT j hj (by omega))) ?_⟩;simp only[vx,T,seval,nX,nV,ao,ak,bR,tC,ae,wj];refine⟨by omega,Lq ⟨j+1,by omega,by omega⟩ ?_ (by show c-(j+1)<c-j;omega)⟩;refine Sa ?_;simp only[ry,seval,rz,ao,ak,tC,ae];intro p j' _ XY;exact An hj p j' XY
   obtain rfl:c=j:=by omega
   have ZA:=Vl.set (show(ps k).length<r by omega) T' (k:=k) (fun j h1 h2=>by unfold jj;rw[if_pos rfl];exact hT2 j h1);have ZB:DJ r c σ2 (gq T' Y (σ2 (ps k).length*c) k c) (fu (xs k) T' Z s2 (ps k).length (ts k) 0):=ZA;clear ZA
   generalize gq T' Y (σ2 (ps k).length*c) k c=Y1 at ZB
   simp only[vx,T,seval,ao,ak];refine Lk (fun y:{y:Nat×(Nat→Nb)//y.1≤r∧DJ r c σ2 y.2 (fu (xs k) T' Z s2 (ps k).length (ts k) y.1)}=>⟨[(2,.one (.ptr 1 0)),(3,.one (.int .i64 0)),(4,.one (.win 2 3 0 r)),(6,.one (.ptr 4 0)),(7,.one (.ptr 5 0)),(8,.one (.ptr 7 0)),(9,.one (.int .i64 (ps k).length)),(31,.one (.int .i64 c)),(32,.one (.int .i64 k)),(108,.one (.win 2 3 0 r)),(109,.one (.int .i64 r)),(110,.one (.int .i64 y.1.1))],
    [(1,⟨.var [.nil,.nil,.nil,.nil],true⟩),(2,⟨.wins 32 3 r (fun i=>.own 3 2 (σ2 i*c) c),true⟩),(3,⟨.rows 37 2 (r*c) (fun p=>bR (y.1.2 p)),true⟩),(4,⟨.var [.int .i64 0],false⟩),
     (5,⟨.var [.win 2 3 0 r,.own 6 1 0 (ps k).length,tC (ds (k+1)).1.length (ds (k+1)).1,ae (ds (k+1)).2],true⟩),(6,⟨.ints 3 .i64 (jA (ps k)),true⟩),(7,⟨.var [.int .i64 k],true⟩)],8,155⟩) (fun y=>r-y.1.1) ⟨(0,Y1),Nat.zero_le _,ZB⟩ ?_ (fun⟨⟨n,Y2⟩,hn,Tq⟩=>?_)
   ·refine Sa ?_;simp only[ry,seval,rz,ao,ak,tC,ae]
   simp only at hn Tq;have wn:=wI n (by omega);simp only[vx,T,seval,ao,ak];refine⟨fun h=>Lg ?_,fun h=>Lg ?_⟩
   ·have T1:n<r:=by omega
    have e2:=Tq.eq n k T1 VA;have pl2:=mi (r:=r) (c:=c) (Vl.lt n T1);simp only[vx,T,seval,ao,ak,e2,bR,tC,ae];refine⟨by omega,by omega,?_⟩;refine⟨fun h2=>Lg ?_,fun h2=>Lg ?_⟩
    ·have Um:n≠(ps k).length:=by omega
     have er:fu (xs k) T' Z s2 (ps k).length (ts k) n n=jj (xs k) (ps k).length (ts k) n:=by simp[fu,Um]
     simp only[vx,T,seval,ao,ak,er,bR,tC,ae];refine Cg (TZ n T1 Um) ?_;simp only[vx,T,seval,ao,ak];refine⟨fun g4=>Lg ?_,fun g4=>Lg ?_⟩
     ·have Vm:s2 n≠0:=by simpa using g4
      have XS:(ps k).length<r:=by omega
      have pl3:=mi (r:=r) (c:=c) (Vl.lt (ps k).length XS);have ap:=apart (c:=c) (s:=σ2 n) (t:=σ2 (ps k).length) (fun e=>Um (Vl.inj n _ T1 XS e));have eT:∀t,t<c→Y2 (σ2 (ps k).length*c+t)=T' t:=fun t ht=>by rw[Tq.eq _ t XS ht];simp[fu]
      have eS:∀t,t<c→Y2 (σ2 n*c+t)=jj (xs k) (ps k).length (ts k) n t:=fun t ht=>by rw[Tq.eq n t T1 ht,er]
      have V1:=fun(S:C) (wd io oo:Nat)=>wH (S:=S) (wd:=wd) (io:=io) (oo:=oo) (N:=r*c) (a:=σ2 n*c) (b:=σ2 (ps k).length*c) (c:=c) (f:=k) Y2 (Z n) (Q n) (jj (xs k) (ps k).length (ts k) n k) sT pl2 pl3 ap (by omega) hk
       (fun t h1 h2=>by rw[eT t h2];exact hsT t h1 h2) (fun t h1 h2 e=>by rw[eS t h2];exact(hZ n T1 Um Vm t h2).1 (.inr e)) (fun t h1 h2 e=>by
        obtain⟨m1,m2⟩:=(hZ n T1 Um Vm t h2).2 h1 e;rw[eT t h2,eS t h2];exact⟨JO m1,Pj m2⟩)
      simp only[vx,T,seval,ao,ak,bR,tC,ae];refine⟨by omega,Cm 3 rfl trivial (V1 _ _ _ _) ?_⟩;rintro r' B' rfl _;simp only[vx,T,seval,ao,ak,bR,tC,ae,wn];have ZC:=Tq.set T1 (Z n) (k:=k) (fun j h1 h2=>by rw[er];exact(hZ n T1 Um Vm j h2).1 (.inl h1));rw[←wD Um Vm]at ZC;refine Lq ⟨(n+1,gq (Z n) Y2 (σ2 n*c) k c),by show n+1≤r;omega,ZC⟩ ?_ (by show r-(n+1)<r-n;omega);refine Sa ?_;simp only[ry,seval,rz,ao,ak,tC,ae]
     have Vm:s2 n=0:=by simpa using g4
     simp only[vx,T,seval,ao,ak,wn];rw[←oS (.inl Vm)]at Tq;refine Lq ⟨(n+1,Y2),by show n+1≤r;omega,Tq⟩ ?_ (by show r-(n+1)<r-n;omega);refine Sa ?_;simp only[ry,seval,rz,ao,ak,tC,ae]
    have Um:n=(ps k).length:=by omega
    simp only[vx,T,seval,ao,ak,wn];rw[←oS (.inr Um)]at Tq;refine Lq ⟨(n+1,Y2),by show n+1≤r;omega,Tq⟩ ?_ (by show r-(n+1)<r-n;omega);refine Sa ?_;simp only[ry,seval,rz,ao,ak,tC,ae]
   obtain rfl:r=n:=by omega
   have hYe:DJ r c σ2 Y2 (xs (k+1)):=⟨Tq.lt,Tq.inj,fun i j hi hj=>(Tq.eq i j hi hj).trans (by rw[hx];simp only[fu,if_pos hi])⟩;have et:(jA (ps k)).take (ps k).length=jA (ps k):=by rw[←cM,List.take_length]
   have ea:jA (ps k)++[(k:Int)]=jA (ps (k+1)):=by rw[Wf];simp[jA]
   have el:(jA (ps (k+1))).length=(ps (k+1)).length:=cM;have el':(jA (ps k)).length=(ps k).length:=cM;simp only[vx,T,seval,ao,ak,et,ea,el,el',wi,tC,ae];refine⟨by omega,Lq ⟨(k+1,σ2,Y2),by show k+1≤c;omega,hYe⟩ ?_ (by show c-(k+1)<c-k;omega)⟩;refine Sub.mk [(6,some 13)] ?_;simp only[ry,seval,X2,X3,X4,ao,ak,tC,ae]
  have eqt:ts k=(ps k).length:=by omega
  obtain rfl:=UR eqt;simp only[vx,T,seval,ao,ak,wt,tC,ae];have hYt:Y (σ (ps k).length*c+k)=xs k (ts k) k:=by rw[←eqt];exact hY.eq (ts k) k ht VA
  simp only[vx,T,seval,ao,ak,hYt,bR,tC,ae];refine⟨by omega,by omega,Cg (JO Vs) ?_⟩;simp only[vx,T,seval,nX,nV,ao,ak,bR,tC,ae];have Ug:=mi (r:=r) (c:=c) (hY.lt (ps k).length (by omega));refine Lk (fun y:{j:Nat//k≤j∧j≤c}=>⟨[(2,.one (.ptr 1 0)),(3,.one (.int .i64 0)),(4,.one (.win 2 3 0 r)),(6,.one (.ptr 4 0)),(7,.one (.ptr 5 0)),(8,.one (.ptr 7 0)),(9,.one (.int .i64 (ps k).length)),(11,.one (.ptr 8 0)),(12,.one (.int .i64 y.1)),(31,.one (.int .i64 c)),(32,.one (.int .i64 k))],
   [(1,⟨.var [.nil,.nil,.nil,.nil],true⟩),(2,⟨.wins 32 3 r (fun i=>.own 3 2 (σ2 i*c) c),true⟩),(3,⟨.rows 37 2 (r*c) (fun p=>bR (gq T' Y (σ2 (ps k).length*c) k y.1 p)),true⟩),(4,⟨.var [.int .i64 0],false⟩),
    (5,⟨.var [.win 2 3 0 r,.own 6 1 0 (ps k).length,tC (ds (k+1)).1.length (ds (k+1)).1,ae (ds (k+1)).2],true⟩),(6,⟨.ints 3 .i64 (jA (ps k)),true⟩),(7,⟨.var [.int .i64 k],true⟩),(8,⟨.var [tC (xs k (ts k) k).1.length (xs k (ts k) k).1,ae (xs k (ts k) k).2],true⟩)],9,155⟩) (fun y=>c-y.1) ⟨k,Nat.le_refl _,hk⟩ ?_ (fun⟨j,hj,hjc⟩=>?_)
  ·refine Sa ?_;simp only[ry,seval,rz,ao,ak,tC,ae,AD];intro i hi;rw[hσ',eqt]
   by_cases h1:i=(ps k).length
   ·rw[if_pos h1,h1]
   rw[if_neg h1,if_neg h1]
  simp only;have wj:=wI j (by omega);simp only[vx,T,seval,ao,ak];refine⟨by omega,fun h=>Lg ?_,fun h=>Lg ?_⟩
  ·have e1:gq T' Y (σ2 (ps k).length*c) k j (σ2 (ps k).length*c+j)=xs k (ts k) j:=by
    rw[show gq T' Y (σ2 (ps k).length*c) k j (σ2 (ps k).length*c+j)=Y (σ2 (ps k).length*c+j)from if_neg (by omega),Vl.eq _ j (by omega) (by omega)];unfold jj;rw[if_pos rfl]
   have pl:=place (r:=r) (c:=c) (Vl.lt (ps k).length (by omega)) (show j<c by omega);simp only[vx,T,seval,ao,ak,e1,bR,tC,ae];refine⟨by omega,by omega,by omega,Cg (O6 (hT j hj (by omega))) ?_⟩;simp only[vx,T,seval,nX,nV,ao,ak,bR,tC,ae,wj];refine⟨by omega,Lq ⟨j+1,by omega,by omega⟩ ?_ (by show c-(j+1)<c-j;omega)⟩;refine Sa ?_;simp only[ry,seval,rz,ao,ak,tC,ae];intro p j' _ XY;exact An hj p j' XY
  obtain rfl:c=j:=by omega
  have ZA:=Vl.set (show(ps k).length<r by omega) T' (k:=k) (fun j h1 h2=>by unfold jj;rw[if_pos rfl];exact hT2 j h1);have ZB:DJ r c σ2 (gq T' Y (σ2 (ps k).length*c) k c) (fu (xs k) T' Z s2 (ps k).length (ts k) 0):=ZA;clear ZA
  generalize gq T' Y (σ2 (ps k).length*c) k c=Y1 at ZB
  simp only[vx,T,seval,ao,ak];refine Lk (fun y:{y:Nat×(Nat→Nb)//y.1≤r∧DJ r c σ2 y.2 (fu (xs k) T' Z s2 (ps k).length (ts k) y.1)}=>⟨[(2,.one (.ptr 1 0)),(3,.one (.int .i64 0)),(4,.one (.win 2 3 0 r)),(6,.one (.ptr 4 0)),(7,.one (.ptr 5 0)),(8,.one (.ptr 7 0)),(9,.one (.int .i64 (ps k).length)),(31,.one (.int .i64 c)),(32,.one (.int .i64 k)),(108,.one (.win 2 3 0 r)),(109,.one (.int .i64 r)),(110,.one (.int .i64 y.1.1))],
   [(1,⟨.var [.nil,.nil,.nil,.nil],true⟩),(2,⟨.wins 32 3 r (fun i=>.own 3 2 (σ2 i*c) c),true⟩),(3,⟨.rows 37 2 (r*c) (fun p=>bR (y.1.2 p)),true⟩),(4,⟨.var [.int .i64 0],false⟩),
    (5,⟨.var [.win 2 3 0 r,.own 6 1 0 (ps k).length,tC (ds (k+1)).1.length (ds (k+1)).1,ae (ds (k+1)).2],true⟩),(6,⟨.ints 3 .i64 (jA (ps k)),true⟩),(7,⟨.var [.int .i64 k],true⟩)],8,155⟩) (fun y=>r-y.1.1) ⟨(0,Y1),Nat.zero_le _,ZB⟩ ?_ (fun⟨⟨n,Y2⟩,hn,Tq⟩=>?_)
  ·refine Sa ?_;simp only[ry,seval,rz,ao,ak,tC,ae]
  simp only at hn Tq;have wn:=wI n (by omega);simp only[vx,T,seval,ao,ak];refine⟨fun h=>Lg ?_,fun h=>Lg ?_⟩
  ·have T1:n<r:=by omega
   have e2:=Tq.eq n k T1 VA;have pl2:=mi (r:=r) (c:=c) (Vl.lt n T1);simp only[vx,T,seval,ao,ak,e2,bR,tC,ae];refine⟨by omega,by omega,?_⟩;refine⟨fun h2=>Lg ?_,fun h2=>Lg ?_⟩
   ·have Um:n≠(ps k).length:=by omega
    have er:fu (xs k) T' Z s2 (ps k).length (ts k) n n=jj (xs k) (ps k).length (ts k) n:=by simp[fu,Um]
    simp only[vx,T,seval,ao,ak,er,bR,tC,ae];refine Cg (TZ n T1 Um) ?_;simp only[vx,T,seval,ao,ak];refine⟨fun g4=>Lg ?_,fun g4=>Lg ?_⟩
    ·have Vm:s2 n≠0:=by simpa using g4
     have XS:(ps k).length<r:=by omega
     have pl3:=mi (r:=r) (c:=c) (Vl.lt (ps k).length XS);have ap:=apart (c:=c) (s:=σ2 n) (t:=σ2 (ps k).length) (fun e=>Um (Vl.inj n _ T1 XS e));have eT:∀t,t<c→Y2 (σ2 (ps k).length*c+t)=T' t:=fun t ht=>by rw[Tq.eq _ t XS ht];simp[fu]
     have eS:∀t,t<c→Y2 (σ2 n*c+t)=jj (xs k) (ps k).length (ts k) n t:=fun t ht=>by rw[Tq.eq n t T1 ht,er]
     have V1:=fun(S:C) (wd io oo:Nat)=>wH (S:=S) (wd:=wd) (io:=io) (oo:=oo) (N:=r*c) (a:=σ2 n*c) (b:=σ2 (ps k).length*c) (c:=c) (f:=k) Y2 (Z n) (Q n) (jj (xs k) (ps k).length (ts k) n k) sT pl2 pl3 ap (by omega) hk
      (fun t h1 h2=>by rw[eT t h2];exact hsT t h1 h2) (fun t h1 h2 e=>by rw[eS t h2];exact(hZ n T1 Um Vm t h2).1 (.inr e)) (fun t h1 h2 e=>by
       obtain⟨m1,m2⟩:=(hZ n T1 Um Vm t h2).2 h1 e;rw[eT t h2,eS t h2];exact⟨JO m1,Pj m2⟩)
     simp only[vx,T,seval,ao,ak,bR,tC,ae];refine⟨by omega,Cm 3 rfl trivial (V1 _ _ _ _) ?_⟩;rintro r' B' rfl _;simp only[vx,T,seval,ao,ak,bR,tC,ae,wn];have ZC:=Tq.set T1 (Z n) (k:=k) (fun j h1 h2=>by rw[er];exact(hZ n T1 Um Vm j h2).1 (.inl h1));rw[←wD Um Vm]at ZC;refine Lq ⟨(n+1,gq (Z n) Y2 (σ2 n*c) k c),by show n+1≤r;omega,ZC⟩ ?_ (by show r-(n+1)<r-n;omega);refine Sa ?_;simp only[ry,seval,rz,ao,ak,tC,ae]
    have Vm:s2 n=0:=by simpa using g4
    simp only[vx,T,seval,ao,ak,wn];rw[←oS (.inl Vm)]at Tq;refine Lq ⟨(n+1,Y2),by show n+1≤r;omega,Tq⟩ ?_ (by show r-(n+1)<r-n;omega);refine Sa ?_;simp only[ry,seval,rz,ao,ak,tC,ae]
   have Um:n=(ps k).length:=by omega
   simp only[vx,T,seval,ao,ak,wn];rw[←oS (.inr Um)]at Tq;refine Lq ⟨(n+1,Y2),by show n+1≤r;omega,Tq⟩ ?_ (by show r-(n+1)<r-n;omega);refine Sa ?_;simp only[ry,seval,rz,ao,ak,tC,ae]
  obtain rfl:r=n:=by omega
  have hYe:DJ r c σ2 Y2 (xs (k+1)):=⟨Tq.lt,Tq.inj,fun i j hi hj=>(Tq.eq i j hi hj).trans (by rw[hx];simp only[fu,if_pos hi])⟩;have et:(jA (ps k)).take (ps k).length=jA (ps k):=by rw[←cM,List.take_length]
  have ea:jA (ps k)++[(k:Int)]=jA (ps (k+1)):=by rw[Wf];simp[jA]
  have el:(jA (ps (k+1))).length=(ps (k+1)).length:=cM;have el':(jA (ps k)).length=(ps k).length:=cM;simp only[vx,T,seval,ao,ak,et,ea,el,el',wi,tC,ae];refine⟨by omega,Lq ⟨(k+1,σ2,Y2),by show k+1≤c;omega,hYe⟩ ?_ (by show c-(k+1)<c-k;omega)⟩;refine Sub.mk [(6,some 13)] ?_;simp only[ry,seval,X2,X3,X4,ao,ak,tC,ae]
 obtain rfl:c=k:=by omega
 have et:(jA (ps c)).take (ps c).length=jA (ps c):=by rw[←cM,List.take_length]
 simp only[vx,T,seval,ao,ak,tC,ae,et,Ii,OM];exact fB.aB ⟨zY (dB.rows rfl fun i j hi _=>dB.rows rfl fun i' j' Tm _=>dB.of_eq (by rw[hY.eq i i' hi Tm])) (.refl _) (.refl _) (.refl _),.refl _,trivial⟩
end Go.Proofs.YtchkplkghknabaaGreat
namespace Go.Mx
open Go Go.R
def qp (M:Mt):R:=M 0 0*M 1 1+ -(M 0 1*M 1 0)
def qX (M:Mt):R:=M 0 0*(M 1 1*M 2 2+ -(M 1 2*M 2 1))+ -(M 0 1*(M 1 0*M 2 2+ -(M 1 2*M 2 0)))+M 0 2*(M 1 0*M 2 1+ -(M 1 1*M 2 0))
def nO:Nat→Mt→R
 |0,_=>q 1
 |1,M=>M 0 0
 |2,M=>qp M
 |_,M=>qX M
theorem lN (M:Mt):nO 2 M=qp M:=rfl
theorem lJ (M:Mt):nO 3 M=qX M:=rfl
theorem kG {n:Nat}(hn:n≤3){M N:Mt}(h:∀i j,i<n→j<n→M i j=N i j):nO n M=nO n N:=by
 match n,hn with
 |0,_=>rfl
 |1,_=>exact h 0 0 (by omega) (by omega)
 |2,_=>show qp M=qp N;unfold qp;rw[h 0 0 (by omega) (by omega),h 1 1 (by omega) (by omega),h 0 1 (by omega) (by omega),h 1 0 (by omega) (by omega)]
 |3,_=>show qX M=qX N;unfold qX;rw[h 0 0 (by omega) (by omega),h 1 1 (by omega) (by omega),h 0 1 (by omega) (by omega),h 1 0 (by omega) (by omega),h 0 2 (by omega) (by omega),h 1 2 (by omega) (by omega),h 2 0 (by omega) (by omega),h 2 1 (by omega) (by omega),h 2 2 (by omega) (by omega)]
theorem PY {p:R→R→R→R→R→R→R→R→R→Prop}(h:∀a b c d e f g i j:Go.Re.Sq,p (mk a) (mk b) (mk c) (mk d) (mk e) (mk f) (mk g) (mk i) (mk j))(a b c d e f g i j:R):p a b c d e f g i j:=by
 induction a using ind with|h a=>induction b using ind with|h b=>induction c using ind with|h c=>induction d using ind with|h d=>induction e using ind with|h e=>
 induction f using ind with|h f=>induction g using ind with|h g=>induction i using ind with|h i=>induction j using ind with|h j=>exact h a b c d e f g i j
theorem Gk (A B:Mt):qX (fun i j=>A i 0*B 0 j+A i 1*B 1 j+A i 2*B 2 j)=qX A*qX B:=by
 unfold qX
 dsimp only
 generalize A 0 0=a;generalize A 0 1=b;generalize A 0 2=c;generalize A 1 0=d;generalize A 1 1=e;generalize A 1 2=f;generalize A 2 0=g;generalize A 2 1=i;generalize A 2 2=j
 generalize B 0 0=a';generalize B 0 1=b';generalize B 0 2=c';generalize B 1 0=d';generalize B 1 1=e';generalize B 1 2=f';generalize B 2 0=g';generalize B 2 1=i';generalize B 2 2=j'
 revert a b c d e f g i j
 refine PY fun a b c d e f g i j=>?_
 revert a' b' c' d' e' f' g' i' j'
 refine PY fun a' b' c' d' e' f' g' i' j'=>?_;exact pt fun n=>by
  simp only[Go.Re.Sq.add,Go.Re.Sq.mul,Go.Re.Sq.neg]
  grind
theorem G1 (A B:Mt):qp (fun i j=>A i 0*B 0 j+A i 1*B 1 j)=qp A*qp B:=by
 unfold qp
 dsimp only
 generalize A 0 0=a;generalize A 0 1=b;generalize A 1 0=d;generalize A 1 1=e
 generalize B 0 0=a';generalize B 0 1=b';generalize B 1 0=d';generalize B 1 1=e'
 induction a using ind with|h a=>induction b using ind with|h b=>induction d using ind with|h d=>induction e using ind with|h e=>
 induction a' using ind with|h a'=>induction b' using ind with|h b'=>induction d' using ind with|h d'=>induction e' using ind with|h e'=>
 exact pt fun n=>by
  simp only[Go.Re.Sq.add,Go.Re.Sq.mul,Go.Re.Sq.neg]
  grind
theorem Jw {n:Nat}(hn:n≤3)(A B:Mt):nO n (fun i j=>sm n fun k=>A i k*B k j)=nO n A*nO n B:=by
 match n,hn with
 |0,_=>exact(mul_one _).symm
 |1,_=>show sm 1 _=_;rw[sm,sm,zero_add];rfl
 |2,_=>
  rw[lN,lN,lN,←G1 A B,←lN,←lN];refine kG (by omega) fun i j _ _=>?_;rw[sm,sm,sm,zero_add]
 |3,_=>
  rw[lJ,lJ,lJ,←Gk A B,←lJ,←lJ];refine kG (by omega) fun i j _ _=>?_;rw[sm,sm,sm,sm,zero_add]
theorem N9 {n:Nat}(hn:n≤3)(A:Mt):nO n (fun i j=>A j i)=nO n A:=by
 match n,hn with
 |0,_=>rfl
 |1,_=>rfl
 |2,_=>rw[lN,lN];unfold qp;dsimp only;rw[mul_comm (A 1 0)]
 |3,_=>
  rw[lJ,lJ];unfold qX
  dsimp only
  generalize A 0 0=a;generalize A 0 1=b;generalize A 0 2=c;generalize A 1 0=d;generalize A 1 1=e;generalize A 1 2=f;generalize A 2 0=g;generalize A 2 1=i;generalize A 2 2=j
  revert a b c d e f g i j
  refine PY fun a b c d e f g i j=>?_;exact pt fun n=>by
   simp only[Go.Re.Sq.add,Go.Re.Sq.mul,Go.Re.Sq.neg]
   grind
theorem KP {n:Nat}(hn:n≤3)(A:Mt){a b:Nat}(Tp:a<b)(hb:b<n):nO n (lS A a b)= -nO n A:=by
 have key:(n=2∧a=0∧b=1)∨(n=3∧a=0∧b=1)∨(n=3∧a=0∧b=2)∨(n=3∧a=1∧b=2):=by omega
 rcases key with⟨rfl,rfl,rfl⟩|⟨rfl,rfl,rfl⟩|⟨rfl,rfl,rfl⟩|⟨rfl,rfl,rfl⟩
 ·rw[lN,lN];unfold qp lS
  simp
  generalize A 0 0=a;generalize A 0 1=b;generalize A 1 0=d;generalize A 1 1=e
  induction a using ind with|h a=>induction b using ind with|h b=>induction d using ind with|h d=>induction e using ind with|h e=>
  exact pt fun n=>by
   simp only[Go.Re.Sq.add,Go.Re.Sq.mul,Go.Re.Sq.neg]
   grind
 all_goals
  rw[lJ,lJ];unfold qX lS
  simp
  generalize A 0 0=a;generalize A 0 1=b;generalize A 0 2=c;generalize A 1 0=d;generalize A 1 1=e;generalize A 1 2=f;generalize A 2 0=g;generalize A 2 1=i;generalize A 2 2=j
  revert a b c d e f g i j
  refine PY fun a b c d e f g i j=>?_;exact pt fun n=>by
   simp only[Go.Re.Sq.add,Go.Re.Sq.mul,Go.Re.Sq.neg]
   grind
def OQ (A:Mt)(t:Nat)(s:R)(u:Nat→R):Mt:=fun i j=>if i=t then A t j*s else A i j+ -(A t j*s*u i)
theorem DR {n:Nat}(hn:n≤3)(A:Mt){t:Nat}(ht:t<n)(s:R)(u:Nat→R):nO n (OQ A t s u)=s*nO n A:=by
 have key:(n=1∧t=0)∨(n=2∧t=0)∨(n=2∧t=1)∨(n=3∧t=0)∨(n=3∧t=1)∨(n=3∧t=2):=by omega
 rcases key with⟨rfl,rfl⟩|⟨rfl,rfl⟩|⟨rfl,rfl⟩|⟨rfl,rfl⟩|⟨rfl,rfl⟩|⟨rfl,rfl⟩
 ·show A 0 0*s=s*A 0 0;exact mul_comm _ _
 iterate 2
  ·rw[lN,lN];unfold qp OQ
   simp
   generalize A 0 0=a;generalize A 0 1=b;generalize A 1 0=d;generalize A 1 1=e;generalize u 0=u0;generalize u 1=u1
   induction a using ind with|h a=>induction b using ind with|h b=>induction d using ind with|h d=>induction e using ind with|h e=>
   induction s using ind with|h s=>induction u0 using ind with|h u0=>induction u1 using ind with|h u1=>
   exact pt fun n=>by
    simp only[Go.Re.Sq.add,Go.Re.Sq.mul,Go.Re.Sq.neg]
    grind
 all_goals
  rw[lJ,lJ];unfold qX OQ
  simp
  generalize A 0 0=a;generalize A 0 1=b;generalize A 0 2=c;generalize A 1 0=d;generalize A 1 1=e;generalize A 1 2=f;generalize A 2 0=g;generalize A 2 1=i;generalize A 2 2=j
  generalize u 0=u0;generalize u 1=u1;generalize u 2=u2
  induction s using ind with|h s=>induction u0 using ind with|h u0=>induction u1 using ind with|h u1=>induction u2 using ind with|h u2=>
  revert a b c d e f g i j
  refine PY fun a b c d e f g i j=>?_;exact pt fun n=>by
   simp only[Go.Re.Sq.add,Go.Re.Sq.mul,Go.Re.Sq.neg]
   grind
theorem JY (A:Mt)(t k:Nat):iH A t k=OQ A t (iv (A t k)) (fun i=>A i k):=rfl
theorem td (A:Mt)(a:Nat):lS A a a=A:=by
 funext i
 unfold lS
 split
 ·rename_i h;rw[h]
 rfl
end Go.Mx
namespace Go.Mx
open Go Go.R
noncomputable def Du (n:Nat)(M:Mt):Nat→R
 |0=>q 1
 |k+1=>open Classical in if ka (red n M k).1 k (n-(red n M k).2.length) (red n M k).2.length<n then
   (if ka (red n M k).1 k (n-(red n M k).2.length) (red n M k).2.length=(red n M k).2.length then Du n M k else-Du n M k)*(red n M k).1 (ka (red n M k).1 k (n-(red n M k).2.length) (red n M k).2.length) k
  else Du n M k
theorem DV {n:Nat}(hn:n≤3)(M:Mt):∀k,nO n M=Du n M k*nO n (red n M k).1
 |0=>by rw[Du,one_mul];rfl
 |k+1=>by
  have ih:=DV hn M k;have E:=dQ n M k;show nO n M=Du n M (k+1)*nO n (j7 n k (red n M k)).1;rw[Du];unfold j7
  split
  ·rename_i hf
   obtain⟨h1,h2⟩:=xd E.len hf
   generalize ka (red n M k).1 k (n-(red n M k).2.length) (red n M k).2.length=t at hf h1 h2⊢
   have hs:nO n (lS (red n M k).1 (red n M k).2.length t)=if t=(red n M k).2.length then nO n (red n M k).1 else-nO n (red n M k).1:=by
    split
    ·rename_i e
     rw[e,td]
    exact KP hn _ (by omega) hf
   have hp:lS (red n M k).1 (red n M k).2.length t (red n M k).2.length k=(red n M k).1 t k:=by unfold lS;rw[if_pos rfl]
   rw[ih];show _=_*nO n (iH _ _ _);rw[JY,DR hn _ (by omega),hs,hp]
   generalize nO n (red n M k).1=D
   generalize(red n M k).1 t k=x at h2
   have hx:x*(iv x*D)=D:=by rw[←mul_assoc,oy h2,one_mul]
   split
   ·rw[mul_assoc,hx]
   rw[mul_assoc,mul_neg,mul_neg,hx,neg_mul,mul_neg,neg_neg]
  exact ih
theorem NZ {n:Nat}(hn:n≤3){N:Mt}(h:∀i j,i<n→j<n→N i j=if i=j then q 1 else q 0):nO n N=q 1:=by
 rw[kG hn (N:=fun i j=>if i=j then q 1 else q 0) h]
 match n,hn with
 |0,_=>rfl
 |1,_=>rfl
 |2,_=>
  rw[lN];simp only[qp,if_true,if_neg (show¬(0:Nat)=1 by decide),if_neg (show¬(1:Nat)=0 by decide),mul_zero,gi,add_zero,one_mul]
 |3,_=>
  rw[lJ];simp only[qX,if_true,if_neg (show¬(0:Nat)=1 by decide),if_neg (show¬(1:Nat)=0 by decide),if_neg (show¬(0:Nat)=2 by decide),if_neg (show¬(2:Nat)=0 by decide),if_neg (show¬(1:Nat)=2 by decide),if_neg (show¬(2:Nat)=1 by decide),mul_zero,zero_mul,gi,add_zero,one_mul]
theorem H5 {n:Nat}(hn:n≤3){N:Mt}{i:Nat}(hi:i<n)(h:∀j,j<n→N i j=q 0):nO n N=q 0:=by
 have e:nO n N=nO n (OQ N i (q 0) (fun _=>q 0)):=kG hn fun a j ha hj=>by
  unfold OQ
  by_cases k:a=i
  ·rw[if_pos k,mul_zero,k,h j hj]
  rw[if_neg k,mul_zero,gi,add_zero]
 rw[e,DR hn N hi,zero_mul]
theorem oP {n:Nat}(hn:n≤3)(M:Mt):nO n M=if(red n M n).2.length=n then Du n M n else q 0:=by
 have E:=dQ n M n;rw[DV hn M n]
 split
 ·rename_i h
  -- all columns have pivots
  have hp:∀j,j<n→(red n M n).2.getD j 0=j:=by
   have lo:∀j,j<n→j≤(red n M n).2.getD j 0:=by
    intro j
    induction j with
    |zero=>intro _;exact Nat.zero_le _
    |succ j ih=>
     intro hj
     have:=E.asc j (j+1) (by omega) (by omega)
     have:=ih (by omega)
     omega
   have hi:∀d j,j+d+1=n→(red n M n).2.getD j 0≤j:=by
    intro d
    induction d with
    |zero=>intro j hj;have:=E.lt j (by omega);omega
    |succ d ih=>
     intro j hj
     have:=E.asc j (j+1) (by omega) (by omega)
     have:=ih (j+1) (by omega)
     omega
   intro j hj
   have:=lo j hj
   have:=hi (n-1-j) j (by omega)
   omega
  rw[NZ hn fun i j hi hj=>?_,mul_one]
  have:=E.one i j hi (by omega)
  rwa [hp j hj]at this
 have hl:=E.len;rw[H5 hn (i:=n-1) (by omega) fun j hj=>E.low _ j (by omega) (by omega) hj,mul_zero]
end Go.Mx
namespace Go.Proofs.YtchkplkghknabaaGreat
open Go.Proofs.Tryz
open Go Go.Eng
open Go.Tw (El ax TG g9 jC)
open Go.Mx (sm iv gN red j7 ka lS iH Wv MW Du)
section
variable {A:List R}(S:Go.Tw.Src 64 A)(hA:Go.Tw.j9 A)
include S hA
noncomputable def dS (r k q:Nat)(M:Nat→Nat→R)(d:R):R:=open Classical in if ka M k (r-q) q<r then(if ka M k (r-q) q=q then d else-d)*M (ka M k (r-q) q) k else d
theorem Ez {r c k W W':Nat}(X:Nat→Nat→Nu A)(d:Nu A)(p:List Nat)(hk:k<c)(hq:p.length≤r)(hw:∀i j,i<r→j<c→(X i j).w≤W)(hd:d.w≤7000)(hW:p.length<r→W≤1000)
  (Wa:∀i j,p.length≤i→i<r→j<k→(X i j).v=R.q 0) (hV:MW A r c (j7 r k (vM X,p)).1 W'):
  ∃(X':Nat→Nat→Nu A) (d':Nu A),P6 r c k p.length (fun i j=>(X i j).x) (fun i j=>(X' i j).x) d.x d'.x (ka (vM X) k (r-p.length) p.length)∧gN r c (vM X') (j7 r k (vM X,p)).1∧
   (∀i j,i<r→j<c→(X' i j).w≤W')∧d'.w≤d.w+1000*((j7 r k (vM X,p)).2.length-p.length)∧d'.v=dS r k p.length (vM X) d.v:=by
 suffices h:∃(X':Nat→Nat→Nu A) (d':Nu A),P6 r c k p.length (fun i j=>(X i j).x) (fun i j=>(X' i j).x) d.x d'.x (ka (vM X) k (r-p.length) p.length)∧gN r c (vM X') (j7 r k (vM X,p)).1∧d'.w≤d.w+1000*((j7 r k (vM X,p)).2.length-p.length)∧d'.v=dS r k p.length (vM X) d.v by
  obtain⟨X',d',s1,s2,s3⟩:=h;obtain⟨Y,y1,y2,y3⟩:=Q6 (W:=W') X' fun i j hi hj=>by rw[s2 i j hi hj];exact hV i j hi hj
  exact⟨Y,d',by rw[y1];exact s1,by rw[y2];exact s2,y3,s3⟩
 obtain⟨h1,h2,h3,h4⟩:=Go.Mx.mN (vM X) k (r-p.length) p.length;have b8:wB=3400:=rfl;have b2:wA=8000:=rfl;have U6:∀i,p.length≤i→i<r→Pr prog 67 [nX (X i k).x] (.one (.int .i64 (R.b9 (X i k).v))):=fun i hi Xd=>uc S hA (by
  have:=hw i k Xd hk
  have:=hW (by omega)
  omega)
 by_cases ht:ka (vM X) k (r-p.length) p.length<r
 ·have hs:j7 r k (vM X,p)=(iH (lS (vM X) p.length (ka (vM X) k (r-p.length) p.length)) p.length k,p++[k]):=by
   unfold j7;exact if_pos ht
  rw[hs];unfold dS;rw[if_pos ht]
  generalize ka (vM X) k (r-p.length) p.length=t at h1 h2 h3 h4 ht
  have RT:=h4 (by omega);have V0:=hW (by omega);have ZD:=fun j (hj:j<c)=>hw t j ht hj;have hnk:(X t k).v≠R.q 0:=RT;have RE:=fun j (hj:j<k)=>Wa t j h1 ht hj;obtain⟨d1,v1,w1,n1,e1⟩:∃d1:Nu A,d1.w=d.w∧(p.length<t→Pr prog 46 [nX d.x] (nX d1.x))∧(t=p.length→d1.x=d.x)∧d1.v=open Classical in if t=p.length then d.v else-d.v:=by
   by_cases e:t=p.length
   ·exact⟨d,rfl,fun h=>absurd h (by omega),fun _=>rfl,(if_pos e).symm⟩
   obtain⟨c,c1,c2,c3⟩:=D9 S hA (a:=d) (by omega);exact⟨c,c2,fun _=>c3,fun h=>absurd h e,by rw[if_neg e];exact c1⟩
  obtain⟨d',vd,wd,nd⟩:=xw S hA (a:=d1) (b:=X t k) (by omega) (by have:=ZD k hk;omega);obtain⟨T',hT'⟩:=Qc (n:=c) (p:=fun j c=>c.v=(X t j).v*iv (X t k).v∧c.w≤2*W∧K0 103 (X t j).x (X t k).x c.x) (X 0 0) fun j hj=>by
   have e1:=ZD j hj;have e2:=ZD k hk;obtain⟨c,c1,c2,c3⟩:=Lw S hA (a:=X t j) (b:=X t k) (by omega) (by omega) hnk;exact⟨c,c1,by omega,c3⟩
  obtain⟨T,hTd⟩:∃T:Nat→Nu A,∀j,T j=if j<k then X t j else T' j:=⟨_,fun _=>rfl⟩
  have hTl:∀j,j<k→T j=X t j:=fun j hj=>by rw[hTd,if_pos hj]
  have hTr:∀j,k≤j→T j=T' j:=fun j hj=>by rw[hTd,if_neg (by omega)]
  have hTv:∀j,j<c→(T j).v=(X t j).v*iv (X t k).v:=fun j hj=>by
   by_cases e:j<k
   ·rw[hTl j e,RE j e,R.zero_mul]
   rw[hTr j (by omega)];exact(hT' j hj).1
  have hTw:∀j,j<c→(T j).w≤2*W:=fun j hj=>by
   by_cases e:j<k
   ·rw[hTl j e];have:=ZD j hj;omega
   rw[hTr j (by omega)];exact(hT' j hj).2.1
  have hsT:∀j,k≤j→j<c→Pr prog 67 [nX (T j).x] (.one (.int .i64 (R.b9 (T j).v))):=fun j h5 h6=>uc S hA (by have:=hTw j h6;omega);have WA:∀i j,i<r→j<c→(jo X p.length t i j).w≤W:=fun i j hi hj=>Nx (by omega) ht hw hi hj;obtain⟨Q,hQ⟩:=Qq (r:=r) (c:=c) (p:=fun i j c=>c.v=(jo X p.length t i k).v*(T j).v∧c.w≤3*W∧K0 101 (jo X p.length t i k).x (T j).x c.x) (X 0 0) fun i j hi hj=>by
   have e1:=hTw j hj;have e2:=WA i k hi hk;obtain⟨c,c1,c2,c3⟩:=xw S hA (a:=jo X p.length t i k) (b:=T j) (by omega) (by omega);exact⟨c,c1,by omega,c3⟩
  obtain⟨Z',hZ'⟩:=Qq (r:=r) (c:=c) (p:=fun i j c=>c.v=(jo X p.length t i j).v-(jo X p.length t i k).v*(T j).v∧K0 146 (jo X p.length t i j).x (Q i j).x c.x) (X 0 0) fun i j hi hj=>by
   obtain⟨q1,q2,_⟩:=hQ i j hi hj;have e2:=WA i j hi hj;obtain⟨c,c1,c2,c3⟩:=Lb S hA (a:=jo X p.length t i j) (b:=Q i j) (by omega) (by omega);exact⟨c,by rw[c1,q1],c3⟩
  obtain⟨Z,hZd⟩:∃Z:Nat→Nat→Nu A,∀i j,Z i j=if j<k∨R.b9 (T j).v=0 then jo X p.length t i j else Z' i j:=⟨_,fun _ _=>rfl⟩
  have hZv:∀i j,i<r→j<c→(Z i j).v=(jo X p.length t i j).v-(T j).v*(jo X p.length t i k).v:=fun i j hi hj=>by
   rw[hZd]
   split
   ·rename_i e
    have:(T j).v=R.q 0:=by
     rcases e with e|e
     ·rw[hTl j e,RE j e]
     exact R.mX.1 e
    rw[this,R.zero_mul,R.sub_zero]
   rw[(hZ' i j hi hj).1,R.mul_comm]
  refine⟨fun i=>if i=p.length then T else if R.b9 (jo X p.length t i k).v=0 then jo X p.length t i else Z i,d',⟨fun i=>R.b9 (X i k).v,U6,h1,Nat.le_of_lt ht,fun i a b=>R.mX.2 (h3 i a b),.inr ⟨ht,fun e=>hnk (R.mX.1 e),d1.x,fun j=>(T j).x,fun i j=>(Z i j).x,fun i j=>(Q i j).x,fun i=>R.b9 (jo X p.length t i k).v,fun j=>R.b9 (T j).v,
   w1,n1,nd,fun j h5 h6=>?_,fun j h5=>?_,hsT,fun i hi RT=>?_,fun i hi RT _ j hj=>⟨fun e=>?_,fun h5 h6=>⟨?_,?_⟩⟩,?_⟩⟩,fun i j hi hj=>?_,?_,?_⟩
  ·show K0 _ _ _ (T j).x;rw[hTr j h5];exact(hT' j h6).2.2
  ·show(T j).x=(X t j).x
   rw[hTl j h5]
  ·have:=uc S hA (a:=jo X p.length t i k) (by have:=WA i k hi hk;omega)
   rw[tW]at this;exact this
  ·show(Z i j).x=_
   rw[hZd,if_pos e,tW]
  ·have:=(hQ i j hi hj).2.2
   rw[tW]at this;exact this
  ·have:=(hZ' i j hi hj).2
   rw[tW]at this;show K0 _ _ _ (Z i j).x;rw[hZd,if_neg (fun e=>e.elim (by omega) h6)];exact this
  ·funext i j
   dsimp only
   by_cases e1:i=p.length
   ·rw[if_pos e1,if_pos e1]
   rw[if_neg e1,if_neg e1]
   by_cases e2:R.b9 (jo X p.length t i k).v=0
   ·rw[if_pos e2,if_pos e2,tW]
   rw[if_neg e2,if_neg e2]
  ·show Nu.v _=iH (lS (vM X) p.length t) p.length k i j;unfold iH;have e0:lS (vM X) p.length t p.length=vM X t:=by unfold lS;rw[if_pos rfl]
   rw[e0,←Hd,←Hd];have tj:=hTv j hj
   dsimp only
   by_cases e1:i=p.length
   ·rw[if_pos e1,if_pos e1,tj];rfl
   rw[if_neg e1,if_neg e1]
   by_cases e2:R.b9 (jo X p.length t i k).v=0
   ·rw[if_pos e2,R.mX.1 e2,R.mul_zero,R.sub_zero]
   rw[if_neg e2,hZv i j hi hj,tj];rfl
  ·rw[X6,List.length_singleton,Nat.add_sub_cancel_left]
   have:=ZD k hk
   omega
  rw[vd,e1];rfl
 have hs:j7 r k (vM X,p)=(vM X,p):=by
  unfold j7;exact if_neg ht
 rw[hs];exact⟨X,d,⟨fun i=>R.b9 (X i k).v,U6,h1,by omega,fun i a b=>R.mX.2 (h3 i a b),.inl ⟨by omega,rfl,rfl⟩⟩,fun i j _ _=>rfl,by omega,by unfold dS;rw[if_neg ht]⟩
theorem Gg {r c:Nat}(M:Nat→Nat→Nu A)(B:Nat→Nat)(hr:r<2^30)(hc:c<2^30)(UT:r*c<2^30)(h0:r=0→c=0)(hw:∀i j,i<r→j<c→(M i j).w≤B 0)(XF:B 0≤wB)(hB:∀k,k<c→(red r (vM M) k).2.length<r→B k≤1000)(h6:∀k,k≤c→(red r (vM M) k).2.length≤6)(hV:∀k,k≤c→MW A r c (red r (vM M) k).1 (B k)):
  ∃(X:Nat→Nat→Nu A) (d:Nu A),gN r c (vM X) (red r (vM M) c).1∧(∀i j,i<r→j<c→(X i j).w≤B c)∧(d.v=Du r (vM M) c∧d.w≤1+1000*(red r (vM M) c).2.length)∧
   Pr prog 34 [.one (eA r (fun _=>c) M)] (.aB [.agg [eA r (fun _=>c) X,.ints .i64 (jA (red r (vM M) c).2),tC d.x.1.length d.x.1,ae d.x.2],.one (.int .i64 0)]):=by
 have dm:∀i j,j<c→(i*c+j)/c=i∧(i*c+j)%c=j:=fun i j hj=>by
  have SU:0<c:=by omega
  rw[Nat.mul_comm i c,Nat.mul_add_div SU,Nat.mul_add_mod,Nat.div_eq_of_lt hj,Nat.mod_eq_of_lt hj];exact⟨rfl,rfl⟩
 have dv:∀p,p<r*c→p/c<r∧p%c<c:=fun p hp=>by
  have SU:0<c:=by
   rcases Nat.eq_zero_or_pos c with h|h
   ·subst h;omega
   exact h
  exact⟨Nat.div_lt_of_lt_mul (by rw[Nat.mul_comm];exact hp),Nat.mod_lt _ SU⟩
 obtain⟨o,ho,hJ⟩:=PQ S hA (n:=r*c) UT (fun p=>M (p/c) (p%c)) fun p hp=>by
  obtain⟨e1,e2⟩:=dv p hp;exact Nat.le_trans (hw _ _ e1 e2) XF
 have SO:∀i j,i<r→j<c→(o (i*c+j)).v=(M i j).v∧(o (i*c+j)).w=(M i j).w:=fun i j hi hj=>by
  have:=ho (i*c+j) (place hi hj)
  rw[(dm i j hj).1,(dm i j hj).2]at this;exact this
 obtain⟨X,e0,hI,hS⟩:=Go.Tw.chain (α:=(Nat→Nat→Nu A)×Nu A) (I:=fun k X=>k≤c→gN r c (vM X.1) (red r (vM M) k).1∧(∀i j,i<r→j<c→(X.1 i j).w≤B k)∧X.2.w≤1+1000*(red r (vM M) k).2.length∧X.2.v=Du r (vM M) k)
  (St:=fun k X Y=>k<c→P6 r c k (red r (vM M) k).2.length (fun i j=>(X.1 i j).x) (fun i j=>(Y.1 i j).x) X.2.x Y.2.x (ka (red r (vM M) k).1 k (r-(red r (vM M) k).2.length) (red r (vM M) k).2.length)) (x0:=(fun i j=>o (i*c+j),Nu.int A 1))
  (fun _=>⟨fun i j hi hj=>(SO i j hi hj).1,fun i j hi hj=>by show(o _).w≤B 0;rw[(SO i j hi hj).2];exact hw i j hi hj,Nat.le_add_right 1 _,rfl⟩) (n:=c) (fun k X hk hX=>by
   obtain⟨a1,a2,a3,a4⟩:=hX (Nat.le_of_lt hk);have E:=Go.Mx.dQ r (vM M) k;obtain⟨t1,t2⟩:=Go.Mx.C6 (s:=(vM X.1,(red r (vM M) k).2)) (t:=red r (vM M) k) a1 rfl hk E.len;have hle:=Go.Mx.xt r k (red r (vM M) k);have hl6:=h6 k (Nat.le_of_lt hk);obtain⟨X',d',s1,s2,s3,s4,s5⟩:=Ez S hA (W:=B k) (W':=B (k+1)) X.1 X.2 (red r (vM M) k).2 hk E.len a2 (by omega) (hB k hk) (fun i j h1 h2 h3=>(a1 i j h2 (by omega)).trans (E.low i j h1 h2 h3))
    (fun i j hi hj=>by rw[t1 i j hi hj];exact hV (k+1) hk i j hi hj)
   have ef:=Go.Mx.wW a1 hk (r-(red r (vM M) k).2.length) (red r (vM M) k).2.length (by have:=E.len;omega);unfold dS at s5;rw[ef]at s1 s5;rw[t2]at s4;exact⟨(X',d'),fun _=>s1,fun _=>⟨fun i j hi hj=>(s2 i j hi hj).trans (t1 i j hi hj),s3,by
    show d'.w≤1+1000*(j7 r k (red r (vM M) k)).2.length;omega,by
    rw[s5,a4];show _=Du r (vM M) (k+1);rw[Go.Mx.Du]
    split
    ·rename_i hf
     have ht:=(Go.Mx.xd E.len hf).1
     have:=a1 _ k hf hk
     show _*vM X.1 _ k=_;rw[this]
    rfl⟩⟩)
 obtain⟨b1,b2,b3,b4⟩:=hI c (Nat.le_refl _) (Nat.le_refl _);refine⟨(X c).1,(X c).2,b1,b2,⟨b4,b3⟩,?_⟩;exact PM (r:=r) (c:=c) (fun i j=>(M i j).x) (fun p=>(o p).x) (fun k i j=>((X k).1 i j).x) (fun k=>(X k).2.x) (fun k=>(red r (vM M) k).2) (fun k=>ka (red r (vM M) k).1 k (r-(red r (vM M) k).2.length) (red r (vM M) k).2.length) hr hc UT h0 hJ
  (fun i j hi hj=>by rw[e0]) (by rw[e0];rfl) rfl (fun k _=>(Go.Mx.dQ r (vM M) k).len) (fun k hk=>hS k hk hk) (fun k _=>NS r (vM M) k)
theorem tY {r c:Nat}(M:Nat→Nat→Nu A)(hr:r<2^30)(hc:c<2^30)(UT:r*c<2^30)(h0:r=0→c=0)(hw:∀i j,i<r→j<c→(M i j).w≤1)(h5:r≤4∨c≤5):
  ∃(X:Nat→Nat→Nu A) (d:Nu A),gN r c (vM X) (red r (vM M) c).1∧(∀i j,i<r→j<c→(X i j).w≤4^(red r (vM M) c).2.length)∧
   Pr prog 34 [.one (eA r (fun _=>c) M)] (.aB [.agg [eA r (fun _=>c) X,.ints .i64 (jA (red r (vM M) c).2),tC d.x.1.length d.x.1,ae d.x.2],.one (.int .i64 0)]):=by
 have hq:∀k,(red r (vM M) k).2.length≤r∧(red r (vM M) k).2.length≤k:=fun k=>⟨(Go.Mx.dQ r (vM M) k).len,A7 r (vM M) k⟩;obtain⟨X,d,x1,x2,_,x3⟩:=Gg S hA M (fun k=>4^(red r (vM M) k).2.length) hr hc UT h0 hw (show 4^0≤3400 by decide)
  (fun k hk h=>Nat.le_trans (Nat.pow_le_pow_right (n:=4) (by decide) (show _≤4 by have:=hq k;omega)) (by decide)) (fun k hk=>by have:=hq k;omega) (Go.Mx.IY (MT hw))
 exact⟨X,d,x1,x2,x3⟩
end
open Go Go.Eng
open Go.Tw (El)
theorem GL (a:Nat)(h:a<4294967296):eW .and .u64 (a:Int) 4294967295=(a:Int):=by
 show IntKind.u64.wrap ((BitVec.ofInt 64 (a:Int)&&&BitVec.ofInt 64 4294967295).toNat:Int)=(a:Int);rw[BitVec.toNat_and];have e1:(BitVec.ofInt 64 (a:Int)).toNat=a:=by
  rw[BitVec.ofInt_natCast,BitVec.toNat_ofNat];exact Nat.mod_eq_of_lt (by omega)
 have e2:(BitVec.ofInt 64 4294967295).toNat=2^32-1:=by decide
 rw[e1,e2,Nat.and_two_pow_sub_one_eq_mod,Nat.mod_eq_of_lt h];exact IntWalk.u64_in _ (by omega)
theorem NB (y:Nat)(hy:y<2147483648):Pr prog 171 [.one (.int .u64 1),.one (.int .u64 y)] (.aB [.one (.int .u64 0),.one (.int .u64 y)]):=by
 have h1:eW .and .u64 1 4294967295=1:=GL 1 (by decide);have h2:=GL y (by omega);have h3:eW .and .u64 0 4294967295=0:=GL 0 (by decide);have z0:IntKind.u64.wrap 0=0:=rfl;have z1:∀x:Int,IntKind.u64.wrap (0*x)=0:=fun x=>by rw[Int.zero_mul];rfl
 have d0:(y:Int).fdiv 4294967296=0:=by rw[Int.fdiv_eq_ediv_of_nonneg _ (by decide)];omega
 have w1:IntKind.u64.wrap (1*(y:Int))=y:=by rw[IntWalk.u64_in _ (by omega)];omega
 refine pw func171 ⟨[0,1,4,5,6,7,8,9,10,11,12,13],[]⟩ ?_;simp only[Tryz.f171,ntmps171,iz,seval];simp only[vx,T,seval,h1,h2,h3,d0,w1,z0,z1,Int.mul_zero,Int.add_zero];exact fB.refl _
theorem Qn (y:Nat)(hy:y<2147483648):Pr prog 130 [.one (.int .u64 1),.one (.int .u64 y)] (.aB [.one (.int .u64 0),.one (.int .u64 y)]):=by
 have h:=NB y hy;refine pw func130 ⟨[0,1,4,5,6,7,8,9],[]⟩ ?_;simp only[Tryz.f130,ntmps130,iz,seval];simp only[vx,T,seval];refine Cg h ?_;simp only[vx,T,seval];exact Ve rfl
open Go Go.Eng
open Go.Tw (El)
def Ds (x:Nb)(z:Nat→C)(k:Nat)(i j:Nat):C:=if i<k then bR x j else z j
theorem Lt (x:Nb)(n:Nat)(hn:n<2147483648):Fr prog 93 [.one (ak 1 fun _=>x),.one (.int .i64 n)] (.rows 37 2 n (fun _=>bR x)):=by
 have h:=Qn n hn;refine fw func93 ⟨[0,1,4,5,6,7,8,10,26,37],[(9,(.cons 7 [0] (.cons 8 [] (.cons 9 [] .nil .nil) .nil) .nil))]⟩ ?_;simp only[Tryz.f93,ntmps93,iz,seval];simp only[vx,T,seval,ak];have u1:IntKind.u64.wrap 1=1:=rfl;have un:IntKind.u64.wrap (n:Int)=n:=IntWalk.u64_in _ (by omega);have vn:IntKind.i64.wrap (n:Int)=n:=IntWalk.i64_in _ (by omega);refine⟨fun h=>absurd h (by omega),fun _=>Lg ?_⟩;simp only[vx,T,seval,ak,u1,un];refine Cg h ?_;simp only[vx,T,seval,ak,u1,un,vn];refine⟨fun h=>absurd h (by omega),fun _=>Lg ?_⟩;simp only[vx,T,seval,ak,vn];refine⟨by omega,?_⟩
 refine Lk (fun y:{k:Nat//k≤n∧(0<n→0<k)}=>⟨[(0,.one (ak 1 fun _=>x)),(1,.one (.int .i64 n)),(4,.one .nil),(7,.one (.own 1 2 0 n)),(8,.one (.int .i64 y.1))],[(1,⟨.rows 37 2 n (Ds x (fun j=>[C.nil,C.nil].getD j .any) y.1),true⟩)],3,48⟩) (fun y=>n-y.1) ⟨if 1<n then 1 else n,by split<;>omega,fun h=>by split<;>omega⟩ ?_ (fun⟨k,hk,h0⟩=>?_)
 ·refine Sa ?_;simp only[ry,seval,rz,ak];intro i j hi hj;simp only[Ak,Ds]
  rcases(by omega:n=0∨n=1∨1<n)with h|h|h
  ·omega
  ·subst h;simp[show i=0 by omega]
  simp[h]
 simp only;simp only[vx,T,seval,ak];refine⟨fun g=>Lg ?_,fun g=>Lg ?_⟩
 ·have g':k<n:=by omega
  simp only[vx,T,seval,ak];refine⟨by omega,by omega,?_⟩
  generalize hm:(if k<((n:Int)-k).toNat then k else((n:Int)-k).toNat)=m
  have m0:0<m∧k+m≤n∧m≤k:=by split at hm<;>omega
  have wm:IntKind.i64.wrap ((k:Int)+m)=((k+m:Nat):Int):=by rw[IntWalk.i64_in _ (by omega)];omega
  refine Lq ⟨k+m,by omega,by omega⟩ ?_ (by show n-(k+m)<n-k;omega);refine Sa ?_;simp only[ry,seval,rz,ak,wm];intro i j hi hj;simp only[Ak,Ds]
  repeat' split
  all_goals first|rfl|omega
 have g':k=n:=by omega
 simp only[vx,T,seval,ak];refine⟨rfl,rfl,fun i j hi hj=>?_⟩;simp only[Ds,g',if_pos hi]
open Go Go.Eng
open Go.Tw (El)
open Go.Mx (lR free)
theorem Fr.PZ {P:Program}{f:FuncId}{xs ys:List V}{B:Bk}(h:Fr P f ys B)(ha:xr xs ys):Fr P f xs B:=
 ⟨h.1,h.2.1,fun ok w vs R6 Sd=>h.2.2 ok w vs R6 (ha.rep Sd)⟩
theorem HX (n:Nat)(hn:n<2147483648):Fr prog 53 [.one (.int .i64 n)] (.rows 37 2 n (fun _=>bR (ru 0))):=by
 have c0:=pa 0 (by decide);have h:=Fr.PZ (Lt (ru 0) n hn) (xs:=[.one (.rows 2 1 (BI (ru 0))),.one (.int .i64 n)]) ⟨.cell (Db (ru 0) (Nat.le_refl 1)),.refl _,trivial⟩;refine fw func53 ⟨[0,2],[]⟩ ?_;simp only[Tryz.f53,ntmps53,iz,seval];simp only[vx,T,seval];refine Cg c0 ?_;simp only[vx,T,seval,nX,nV,tC,ae];refine cK.fresh h ?_;simp only[vx,T,seval];exact⟨rfl,rfl,fun _ _ _ _=>rfl⟩
theorem Mb (n k:Nat)(hn:n<2147483648)(hk:k<n):Fr prog 45 [.one (.int .i64 n),.one (.int .i64 k)] (.rows 37 2 n (fun j=>bR (yA k j))):=by
 have c1:=pa 1 (by decide);have h:=HX n hn;refine fw func45 ⟨[0,1,4,5],[]⟩ ?_;simp only[Tryz.f45,ntmps45,iz,seval];simp only[vx,T,seval];refine cK.fresh h ?_;simp only[vx,T,seval];refine Cg c1 ?_;simp only[vx,T,seval,nX,nV,tC,ae];refine⟨by omega,?_⟩;refine⟨rfl,rfl,fun i j hi hj=>?_⟩;show bt _ _ _ _ i j=bR (yA k i) j;unfold bt yA
 by_cases e:i=k
 ·rw[if_pos e,if_pos (Nat.zero_le _),if_pos (by simpa using hj),if_pos (by omega)]
  match j,hj with
  |0,_=>rfl
  |1,_=>rfl
 rw[if_neg e,if_neg (by omega)]
theorem KI {r c:Nat}(x N G:Nat→Nat→Nb)(p:List Nat)(D1 D2:C)(hr:r<2^30)(hc:c<2^30)(h0:r=0→c=0)(hp:p.length≤r)(RE:∀i,i<p.length→p.getD i 0<c)
  (hE:Pr prog 34 [.one (ao r (fun _=>c) x)] (.aB [.agg [ao r (fun _=>c) N,.ints .i64 (jA p),D1,D2],.one (.int .i64 0)]))
  (hG:∀k i,k<c→i<p.length→Pr prog 46 [nX (N i k)] (nX (G i k))) (s1:∃n f,D1= .rows 1 n f) (s2:∃n f,D2= .rows 4 n f):
  Pr prog 17 [.one (ao r (fun _=>c) x)] (.aB [.one (ao (fl p c).length (fun _=>c) fun i=>Mp p G (fun k=>yA k) p.length ((fl p c).getD i 0)),.one (.int .i64 0)]):=by
 obtain⟨n1,f1,rfl⟩:=s1;obtain⟨n2,f2,rfl⟩:=s2;have cl:=kj (fun _=>c) x (k:=c) (by split;exact h0 (by assumption);rfl) (by omega:r<2^38);have cv:=qL (r:=r) (fun _=>c) x (by omega) (b:=true) (by simp);refine pw func17 ⟨[0,2,3,4,5,6,7,8,9,10,13,20,23,24,25,30,36,37,38,39],[]⟩ ?_;simp only[Tryz.f17,ntmps17,iz,seval];simp only[vx,T,seval,ao,ak];refine Cg cv ?_;simp only[vx,T,seval,ao,ak];refine Cg hE ?_;simp only[vx,T,seval,ao,ak];refine Cg cl ?_;simp only[vx,T,seval,ao,ak];refine Lk (fun y:{k:Nat//k≤c}=>⟨[(0,.one (ao r (fun _=>c) x)),(2,.one .nil),(3,.one (.int .i64 0)),(4,.one (.ptr 1 0)),(6,.one (.own 2 1 0 (fl p y.1).length)),(23,.one (.int .i64 c)),(24,.one (.int .i64 y.1))],
  [(1,⟨.var [ao r (fun _=>c) N,.ints .i64 (jA p),.rows 1 n1 f1,.rows 4 n2 f2],true⟩),(2,⟨.rows 32 1 (fl p y.1).length (fun i _=>ak c (Mp p G (fun k=>yA k) p.length ((fl p y.1).getD i 0))),true⟩)],3,62⟩) (fun y=>c-y.1) ⟨0,Nat.zero_le _⟩ ?_ (fun⟨k,hk⟩=>?_)
 ·refine Sa ?_;simp only[ry,seval,rz,ao,ak,fl,List.length_nil,Nat.not_lt_zero]
 simp only;have wi:=wI k (by omega);simp only[vx,T,seval,ao,ak];refine⟨fun g=>Lg ?_,fun g=>Lg ?_⟩
 ·have VA:k<c:=by omega
  by_cases hm:k∈p
  ·have e:fl p (k+1)=fl p k:=if_pos hm;have cp:=vU (jA p) k (by rw[cM];omega) (b:=true) (by rw[CY];simp[hm]);simp only[vx,T,seval,ao,ak];refine Cg cp ?_;simp only[vx,T,seval,ao,ak,wi];refine Lq ⟨k+1,by omega⟩ ?_ (by show c-(k+1)<c-k;omega);refine Sa ?_;simp only[ry,seval,rz,ao,ak,e]
  have e:fl p (k+1)=fl p k++[k]:=if_neg hm;have cp:=vU (jA p) k (by rw[cM];omega) (b:=false) (by rw[CY];simp[hm]);have cu:=Mb c k (by omega) VA;simp only[vx,T,seval,ao,ak];refine Cg cp ?_;simp only[vx,T,seval,ao,ak];refine Cg cl ?_;simp only[vx,T,seval,ao,ak];refine cK.fresh cu ?_;simp only[vx,T,seval,ao,ak,cM];refine Lk (fun y:{n:Nat//n≤p.length}=>⟨[(0,.one (ao r (fun _=>c) x)),(2,.one .nil),(3,.one (.int .i64 0)),(4,.one (.ptr 1 0)),(6,.one (.own 2 1 0 (fl p k).length)),(7,.one (.int .i64 k)),(8,.one (.own 3 2 0 c)),(23,.one (.int .i64 c)),(24,.one (.int .i64 k)),(36,.one (.ints .i64 (jA p))),(37,.one (.int .i64 p.length)),(38,.one (.int .i64 y.1))],
   [(1,⟨.var [ao r (fun _=>c) N,.ints .i64 (jA p),.rows 1 n1 f1,.rows 4 n2 f2],true⟩),(2,⟨.rows 32 1 (fl p k).length (fun i _=>ak c (Mp p G (fun k=>yA k) p.length ((fl p k).getD i 0))),true⟩),(3,⟨.rows 37 2 c (fun j=>bR (Mp p G (fun k=>yA k) y.1 k j)),true⟩)],4,62⟩) (fun y=>p.length-y.1) ⟨0,Nat.zero_le _⟩ ?_ (fun⟨n,hn⟩=>?_)
  ·refine Sa ?_;simp only[ry,seval,rz,ao,ak,Mp,lR]
  simp only;have wn:=wI n (by omega);simp only[vx,T,seval,ao,ak,cM];refine⟨fun g3=>Lg ?_,fun g3=>Lg ?_⟩
  ·have XQ:n<p.length:=by omega
   have hG':=hG k n VA XQ;have Xz:=RE n XQ;simp only[vx,T,seval,ao,ak,bR,tC,ae,oO,cM];refine⟨by omega,by omega,by omega,Cg hG' ?_⟩;simp only[vx,T,seval,nX,nV,bR,tC,ae,oO,cM,wn];refine⟨by omega,Lq ⟨n+1,by omega⟩ ?_ (by show p.length-(n+1)<p.length-n;omega)⟩;refine Sa ?_;simp only[ry,seval,rz,ao,ak,tC,ae];intro i j hi hj;exact Iw p (fun i=>G i k) (yA k) n i j hj
  obtain rfl:n=p.length:=by omega
  simp only[vx,T,seval,ao,ak,wi];have hl:=ML p k;have el:(fl p (k+1)).length=(fl p k).length+1:=by rw[e];simp
  refine⟨⟨by omega,by omega⟩,Lq ⟨k+1,by omega⟩ ?_ (by show c-(k+1)<c-k;omega)⟩;refine Sa ?_;simp only[ry,seval,rz,ao,ak,el];intro i j hi hj;rw[e]
  by_cases h:i<(fl p k).length
  ·rw[if_pos h,X7,X7,List.getElem?_append_left h]
  obtain rfl:i=(fl p k).length:=by omega
  obtain rfl:j=0:=by omega
  rw[if_neg h,X7 (l:=fl p k++[k]),List.getElem?_append_right (Nat.le_refl _),Nat.sub_self];rfl
 obtain rfl:k=c:=by omega
 simp only[vx,T,seval,ao,ak];exact fB.refl _
open Go Go.Eng
open Go.Tw (El)
open Go.Mx (lR free)
theorem Jv {r c d:Nat}(x:Nat→Nat→Nb)(b:Nat→Nb)(hr:r<2^30)(hc:c<2^30)(hd:d≤1)(Vw:r≠0→d=1):Pr prog 52 [.one (ao r (fun _=>c) x),.one (.rows 1 r fun i _=>.rows 2 d (BI (b i)))] (.one (ao r (fun _=>c+d) (EL c x b))):=by
 refine pw func52 ⟨[0,1,4,5,6,11,12,13],[]⟩ ?_;simp only[Tryz.f52,ntmps52,iz,seval];simp only[vx,T,seval,ao,ak];refine⟨by omega,?_⟩;refine Lk (fun y:{k:Nat//k≤r}=>⟨[(0,.one (ao r (fun _=>c) x)),(1,.one (.rows 1 r fun i _=>.rows 2 d (BI (b i)))),(4,.one .nil),(5,.one (.own 1 1 0 r)),(11,.one (.int .i64 r)),(12,.one (.int .i64 y.1))],
  [(1,⟨.rows 32 1 r (fun i _=>if i<y.1 then ak (c+d) (EL c x b i)else .nil),true⟩)],2,30⟩) (fun y=>r-y.1) ⟨0,Nat.zero_le _⟩ ?_ (fun⟨k,hk⟩=>?_)
 ·refine Sa ?_;simp only[ry,seval,rz,ao,ak,Nat.not_lt_zero];intro i j hi hj;obtain rfl:j=0:=by omega
  rfl
 simp only;have wi:=wI k (by omega);simp only[vx,T,seval,ao,ak];refine⟨fun g=>Lg ?_,fun g=>Lg ?_⟩
 ·have Yo:k<r:=by omega
  obtain rfl:=Vw (by omega);have cc:=tL (n:=c) (m:=1) (x k) (fun _=>b k) (by omega);have cc':=cc.args (xs:=[.one (.rows 1 2 (fun i j=>[ak c (x k),.rows 2 1 (BI (b k))].getD (i*1+j) .any))]) ⟨.cell (dB.rows rfl fun i j hi hj=>by
   obtain rfl:j=0:=by omega
   match i,hi with
   |0,_=>exact .refl _
   |1,_=>exact Db (b k) (Nat.le_refl 1)),trivial⟩
  simp only[vx,T,seval,ao,ak];refine⟨by omega,by omega,Cg cc' ?_⟩;simp only[vx,T,seval,ao,ak,wi];refine⟨by omega,Lq ⟨k+1,by omega⟩ ?_ (by show r-(k+1)<r-k;omega)⟩;refine Sa ?_;simp only[ry,seval,rz,ao,ak];intro i j hi hj;obtain rfl:j=0:=by omega
  by_cases e:i=k
  ·subst e;rw[if_pos (Nat.lt_succ_self i)]
   simp[bt]
   rfl
  by_cases h:i<k
  ·rw[if_pos (show i<k+1 by omega)]
   simp[bt,e,h]
  rw[if_neg (show¬i<k+1 by omega)]
  simp[bt,e,h]
 obtain rfl:k=r:=by omega
 simp only[vx,T,seval,ao,ak];refine fB.cell (dB.rows rfl fun i j hi hj=>.of_eq ?_);rw[if_pos hi]
theorem Ih {r c d:Nat}(x N:Nat→Nat→Nb)(b:Nat→Nb)(p:List Nat)(D1 D2:C)(hr:r<2^30)(hc:c<2^30)(h0:r=0→c=0)(hd:d=if r=0 then 0 else 1)(hp:p.length≤r)(RE:∀i,i<p.length→p.getD i 0<c+d)
  (hE:Pr prog 34 [.one (ao r (fun _=>c+d) (EL c x b))] (.aB [.agg [ao r (fun _=>c+d) N,.ints .i64 (jA p),D1,D2],.one (.int .i64 0)]))
  (s1:∃n f,D1= .rows 1 n f) (s2:∃n f,D2= .rows 4 n f) (R:V) (h1:c∈p→R= .aB [.one .nil,.one (.int .i64 13)])
  (h2:c∉p→R= .aB [.one (ak c (lR p (fun i=>N i c) (fun _=>ru 0) p.length)),.one (.int .i64 0)]):
  Pr prog 24 [.one (ao r (fun _=>c) x),.one (ak r b)] R:=by
 obtain⟨n1,f1,rfl⟩:=s1;obtain⟨n2,f2,rfl⟩:=s2;have Vw:r≠0→d=1:=fun h=>by rw[hd,if_neg h]
 have Sy:d≤1:=by rw[hd];split<;>omega
 have cl:=kj (fun _=>c) x (k:=c) (by split;exact h0 (by assumption);rfl) (by omega:r<2^38);have cv:=qL (r:=r) (fun _=>c) x (by omega) (b:=true) (by simp);have cb:=(Jv (r:=r) (c:=c) (d:=d) x b hr hc Sy Vw).tz (.refl _) (x':=.rows 1 r fun i _=>if i<r then .rows 2 1 (BI (b i))else .nil) (dB.rows rfl fun i j hi hj=>by
  rw[if_pos hi,Vw (by omega)];exact .refl _)
 have cz:=HX c (by omega);refine pw func24 ⟨[0,1,4,5,6,7,8,9,10,11,12,13,14,24,28,29,30,31,51,56,57,58,59,65],[]⟩ ?_;simp only[Tryz.f24,ntmps24,iz,seval];simp only[vx,T,seval,ao,ak];refine Cg cv ?_;simp only[vx,T,seval,ao,ak];refine⟨by omega,?_⟩;refine Lk (fun y:{k:Nat//k≤r}=>⟨[(0,.one (ao r (fun _=>c) x)),(4,.one .nil),(5,.one (.int .i64 0)),(6,.one (.own 1 1 0 r)),(28,.one (ak r b)),(29,.one (.int .i64 r)),(30,.one (.int .i64 y.1))],
  [(1,⟨.rows 32 1 r (fun i _=>if i<y.1 then .rows 2 1 (BI (b i))else .nil),true⟩)],2,79⟩) (fun y=>r-y.1) ⟨0,Nat.zero_le _⟩ ?_ (fun⟨k,hk⟩=>?_)
 ·refine Sa ?_;simp only[ry,seval,rz,ao,ak,Nat.not_lt_zero];intro i j hi hj;obtain rfl:j=0:=by omega
  rfl
 simp only;have wi:=wI k (by omega);simp only[vx,T,seval,ao,ak];refine⟨fun g=>Lg ?_,fun g=>Lg ?_⟩
 ·have Yo:k<r:=by omega
  simp only[vx,T,seval,ao,ak,bR,tC,ae,wi,uO,dJ,eD,List.contains,List.elem];refine⟨by omega,by omega,Lq ⟨k+1,by omega⟩ ?_ (by show r-(k+1)<r-k;omega)⟩;refine Sa ?_;simp only[ry,seval,rz,ao,ak,tC,ae];intro i j hi hj;obtain rfl:j=0:=by omega
  by_cases e:i=k
  ·subst e;rw[if_pos (show i<i+1 by omega)]
   simp[bt]
   rfl
  by_cases h:i<k
  ·rw[if_pos (show i<k+1 by omega)]
   simp[bt,e,h]
  rw[if_neg (show¬i<k+1 by omega)]
  simp[bt,e,h]
 obtain rfl:k=r:=by omega
 simp only[vx,T,seval,ao,ak];refine Cg cl ?_;simp only[vx,T,seval,ao,ak];refine Cg cb ?_;simp only[vx,T,seval,ao,ak];refine Cg hE ?_;simp only[vx,T,seval,ao,ak];refine cK.fresh cz ?_;simp only[vx,T,seval,ao,ak,cM];refine Lk (fun y:{n:Nat//n≤p.length∧∀j,j<n→p.getD j 0≠c}=>⟨[(4,.one .nil),(5,.one (.int .i64 0)),(9,.one (.int .i64 c)),(10,.one (.ptr 1 0)),(12,.one (.own 2 2 0 c)),(56,.one (.ints .i64 (jA p))),(57,.one (.int .i64 p.length)),(58,.one (.int .i64 y.1))],
  [(1,⟨.var [ao k (fun _=>c+d) N,.ints .i64 (jA p),.rows 1 n1 f1,.rows 4 n2 f2],true⟩),(2,⟨.rows 37 2 c (fun j=>bR (lR p (fun i=>N i c) (fun _=>ru 0) y.1 j)),true⟩)],3,79⟩) (fun y=>p.length-y.1) ⟨0,Nat.zero_le _,fun j hj=>absurd hj (Nat.not_lt_zero _)⟩ ?_ (fun⟨n,hn,RT⟩=>?_)
 ·refine Sa ?_;simp only[ry,seval,rz,ao,ak,lR]
 simp only;have wn:=wI n (by omega);simp only[vx,T,seval,ao,ak,cM];refine⟨fun g3=>Lg ?_,fun g3=>Lg ?_⟩
 ·have XQ:n<p.length:=by omega
  have Xz:=RE n XQ;obtain rfl:d=1:=Vw (by omega);simp only[vx,T,seval,ao,ak,oO,cM];refine⟨by omega,?_⟩;refine⟨fun g4=>Lg ?_,fun g4=>Lg ?_⟩
  ·have e:=h1 (Go.Mx.ye.2 ⟨n,XQ,by omega⟩);simp only[vx,T,seval];exact Ve e.symm
  simp only[vx,T,seval,ao,ak,bR,tC,ae,oO,cM,wn];refine⟨by omega,by omega,by omega,Lq ⟨n+1,by omega,fun j hj=>?_⟩ ?_ (by show p.length-(n+1)<p.length-n;omega)⟩
  ·by_cases e:j=n
   ·rw[e];omega
   exact RT j (by omega)
  refine Sa ?_;simp only[ry,seval,rz,ao,ak,tC,ae];intro i j hi hj;exact Iw p (fun i=>N i c) (fun _=>ru 0) n i j hj
 obtain rfl:n=p.length:=by omega
 have e:=h2 (fun h=>by
  obtain⟨i,h3,h4⟩:=Go.Mx.ye.1 h;exact RT i h3 h4.symm)
 simp only[vx,T,seval,ao,ak];rw[e];exact fB.refl _
end Go.Proofs.YtchkplkghknabaaGreat
