/-
  MatrixImage: for every input the law returns true, and each argument reads afterwards as it read before. No condition beyond the cells of the given rows.
  (Text 8 of 9; made by a program out of smaller texts.)
-/
import Derived.Test.YthnkehdgnagmnaaGreatP7
set_option linter.unusedSimpArgs false
set_option linter.unusedVariables false
set_option maxHeartbeats 16000000
set_option maxRecDepth 10000
open Nat renaming reduceAdd→J1,reduceMul→J2,reduceSub→J3,reduceEqDiff→J4,reduceLT→J5,reduceLeDiff→J6,reduceBEq→J7,reduceDiv→J8,reduceMod→J9,reducePow→J0
open Int renaming reduceToNat→K1,reduceLE→K2,reduceLT→K3,reduceEq→K4,reducePow→K5,reduceSub→K6,reduceNeg→K7,natCast_add→X2,natCast_one→X3,natCast_zero→X4
open List renaming getD_cons_zero→X0,getD_cons_succ→X1,length_take→X5,length_append→X6,getD_eq_getElem?_getD→X7,getElem?_eq_getElem→X8
namespace Go.Proofs.YthnkehdgnagmnaaGreat
open Go.Proofs.Tryz
open Go Go.Eng
open Go.Tw (El aB aJ zE ar aq QB kU gT val In Fx Rd l6 TG jL bo dI bZ dA)
section
variable {X h:Nat}(Rw:1≤X)(hX:X≤2^30){t:List El}{a:El}
include Rw hX
theorem y8 {w:El}(W:GQ X h t)(hw:w.length=2^h)(sw:gT X h t w)(c:Pr prog 118 [tV h t,eV a] (.aF [eV w,.one (.bool true)])):
  Pr prog 121 [tV h t,eV a] (.aF [eV (if bo h t w<0 then aJ w else w),.one (.bool true)]):=by
 have h3:=W.rq.tq.h3;have hp:2^h≤8:=Nat.pow_le_pow_right (n:=2) (by decide) (show h≤3 by omega);have s:=lS Rw hX W.rq hw sw;have n:=(zd (h:=h) (t:=t) w (by omega) (.of sw.qb (by omega))).rows;refine pw func121 ⟨[0,1,4,5,6,7,15,19],[]⟩ ?_;simp only[Tryz.f121,ntmps121,iz,seval];simp only[vx,T,seval,tV,tC,eV,aa];refine Cg c ?_;simp only[vx,T,seval,tV,tC,eV,aa];refine Cg s ?_;simp only[vx,T,seval,tV,tC,eV,aa];refine⟨fun g=>Lg ?_,fun g=>Lg ?_⟩
 ·rw[if_pos g];simp only[vx,T,seval,tV,tC,eV,aa];refine Cg n ?_;simp only[vx,T,seval,tV,tC,eV,aa];exact Ve rfl
 rw[if_neg g];simp only[vx,T,seval,tV,tC,eV,aa];exact Ve rfl
omit Rw hX in
theorem zr {l:List (Nat→C)}(c:Pr prog 118 [tV h t,eV a] (.aF [.one (GC l),.one (.bool false)])):
  Pr prog 121 [tV h t,eV a] (.aF [.one .nil,.one (.bool false)]):=by
 refine pw func121 ⟨[0,1,4,5,6,7,15,19],[]⟩ ?_;simp only[Tryz.f121,ntmps121,iz,seval];simp only[vx,T,seval,tV,tC,eV,aa];refine Cg c ?_;simp only[vx,T,seval,tV,tC,eV,aa,GC];exact Ve rfl
theorem NL (W:GQ X h t)(ha:a.length=2^h)(hB:Fx X h t a):
  (∃w,w.length=2^h∧val h t w=R.sqrt (val h t a)∧Pr prog 121 [tV h t,eV a] (.aF [eV w,.one (.bool true)]))∨
  (l6 h t (val h t a)∧Pr prog 121 [tV h t,eV a] (.aF [.one .nil,.one (.bool false)])):=by
 rcases tn Rw hX W.rq W.rd ha hB.sq with⟨b,lb,eb,cb⟩|⟨no,l,_,c⟩
 ·refine .inl ⟨_,?_,?_,y8 Rw hX W lb (hB.rt b lb eb) cb⟩
  ·split
   ·rw[aq,lb]
   exact lb
  have e:=bZ W.rd.rl lb;have nn:∀x,x=val h t b∨x= -val h t b→R.nn x→x=R.sqrt (val h t a):=by
   intro x hx hn;rw[←eb]
   rcases hx with rfl|rfl
   ·exact(R.po hn).symm
   rw[show val h t b*val h t b= -val h t b* -val h t b by rw[R.neg_mul,R.mul_neg,R.neg_neg]];exact(R.po hn).symm
  split
  ·rename_i g
   rw[Go.Tw.val_neg lb];refine nn _ (.inr rfl) ?_
   rcases R.dc (val h t b)with⟨k,k2⟩|⟨k,k2⟩|⟨k,k2⟩
   ·rw[k,R.gE];exact R.bu.2 (.inl rfl)
   ·omega
   exact R.bu.2 (.inr k)
  rename_i g
  refine nn _ (.inl rfl) ?_
  rcases R.dc (val h t b)with⟨k,k2⟩|⟨k,k2⟩|⟨k,k2⟩
  ·rw[k];exact R.bu.2 (.inl rfl)
  ·exact R.bu.2 (.inr k)
  omega
 exact .inr ⟨no,zr c⟩
theorem DY (W:GQ X h t):Pr prog 82 [tV h t] (.one (.bool true)):=by
 have h3:=W.rq.tq.h3;have f:∀i,i<h→Pr prog 83 [tV i t,eV (t.getD i [])] (.one (.bool true)):=fun i hi=>uz (W.rq.tq.tk.le (by omega)) _ (W.rd.rl i hi).1 (W.rq.tq.tk.q i hi);have s:∀i,i<h→Pr prog 117 [tV i t,eV (t.getD i [])] (.one (.int .i64 1)):=fun i hi=>by
  have c:=lS Rw hX (W.rq.le (show i≤h by omega)) (W.rd.rl i hi).1 (W.sq i hi).sg
  rwa [bZ (W.rd.rl.le (by omega)) (W.rd.rl i hi).1,R.gY (W.rd.rl i hi).2]at c
 have q:∀i,i<h→∃l,Pr prog 118 [tV i t,eV (t.getD i [])] (.aF [.one (GC l),.one (.bool false)]):=fun i hi=>by
  rcases tn Rw hX (W.rq.le (show i≤h by omega)) (W.rd.le (by omega)) (W.rd.rl i hi).1 (W.sq i hi)with⟨b,lb,eb,_⟩|⟨_,l,_,c⟩
  ·exact absurd eb (W.rd.ns i hi _ (.of lb))
  exact⟨l,c⟩
 refine pw func82 ⟨[0,2,3,5,9,31,43],[(6,.nil)]⟩ ?_;simp only[Tryz.f82,ntmps82,iz,seval];simp only[vx,T,seval,tV,tC,aa];refine Lk (fun y:{i:Nat//i≤h}=>⟨[(0,tV h t),(2,.one (.bool false)),(3,.one (.int .i64 y.1))],[],1,44⟩) (fun y=>h-y.1) ⟨0,Nat.zero_le _⟩ ?_ (fun⟨i,hi⟩=>?_)
 ·refine Sa ?_;simp only[ry,seval,rz,tV,tC,aa]
 simp only;have wi:=wI i (by omega);simp only[vx,T,seval,tV,tC,aa];refine⟨fun k=>Lg ?_,fun k=>Lg ?_⟩
 ·have Ru:i<h:=by omega
  have fi:=f i Ru;have si:=s i Ru;obtain⟨l,qi⟩:=q i Ru;obtain⟨r,hr⟩:∃r,r=t.getD i []:=⟨_,rfl⟩;rw[←hr]at fi si qi;simp only[vx,T,seval,tV,tC,aa,←hr];refine⟨⟨by omega,by omega⟩,⟨by omega,by omega⟩,Cg fi ?_⟩;simp only[vx,T,seval,tV,tC,aa,←hr];refine⟨⟨by omega,by omega⟩,⟨by omega,by omega⟩,Cg si ?_⟩;simp only[vx,T,seval,tV,tC,aa,←hr];refine⟨⟨by omega,by omega⟩,⟨by omega,by omega⟩,Cg qi ?_⟩;simp only[vx,T,seval,tV,tC,aa,GC,wi];refine Lq ⟨i+1,by omega⟩ ?_ (by show h-(i+1)<h-i;omega);refine Sa ?_;simp only[ry,seval,rz,tV,tC,aa]
 simp only[vx,T,seval,tV,tC,aa];exact Ve rfl
end
section
variable {A:List R}(S:Go.Tw.Src 64 A)(hA:A.length≤3){t:List El}{a:El}
include S hA
theorem Gx (G:TG A t)(ha:a.length=2^t.length)(hn:R.nn (val t.length t a))(hB:Fx jL t.length t a):
  (∃w,w.length=2^t.length∧val t.length t w=R.sqrt (val t.length t a)∧Pr prog 84 [tV t.length t,eV a] (.aF [tV t.length t,eV w,.one (.int .i64 0)]))∨
  (l6 t.length t (val t.length t a)∧Pr prog 84 [tV t.length t,eV a] (.aF [tV (t.length+1) (t++[a]),eV (dI t.length),.one (.int .i64 0)])):=by
 have W:=vF S hA G (Nat.le_refl _);have Rw:1≤jL:=by decide
 have hX:jL≤2^30:=by decide
 have h3:=W.rq.tq.h3;have sg:=lS Rw hX W.rq ha hB.sq.sg;have hs:¬bo t.length t a<0:=by
  rw[bZ W.rd.rl ha]
  rcases R.dc (val t.length t a)with⟨k,k2⟩|⟨k,k2⟩|⟨k,k2⟩
  ·omega
  ·omega
  exact absurd k hn
 have ro:=Oq (h:=t.length) (U:=t++[a]) (by omega);obtain⟨n,RK⟩:∃n,n=t.length:=⟨_,rfl⟩
 rcases NL Rw hX W ha hB with⟨w,lw,ew,cw⟩|⟨no,c⟩
 ·refine .inl ⟨w,lw,ew,?_⟩;rw[←RK]at sg cw hs⊢;refine pw func84 ⟨[0,1,4,5,6,7,8,9,13,20,25],[]⟩ ?_;simp only[Tryz.f84,ntmps84,iz,seval];simp only[vx,T,seval,tV,tC,eV,aa];refine Cg sg ?_;simp only[vx,T,seval,tV,tC,eV,aa];refine⟨fun h=>absurd h hs,fun _=>Lg ?_⟩;simp only[vx,T,seval,tV,tC,eV,aa];refine Cg cw ?_;simp only[vx,T,seval,tV,tC,eV,aa];exact Ve rfl
 refine .inr ⟨no,?_⟩;obtain⟨u,hu⟩:∃u,u=t++[a]:=⟨_,rfl⟩;have eu:∀i j,i<n+1→j<1→(if i<n then(if i<0 then([]:List C).getD (i*1+j) .any else aa (t.getD (i-0) []))else[aa a].getD ((i-n)*1+j) .any)=aa (u.getD i []):=fun i j hi hj=>by
  obtain rfl:j=0:=by omega
  rw[RK,hu,if_neg (Nat.not_lt_zero i),Nat.sub_zero]
  by_cases h:i<t.length
  ·rw[if_pos h,Go.Tw.dg h]
  obtain rfl:i=t.length:=by omega
  rw[if_neg h,Go.Tw.fM,Nat.sub_self];rfl
 rw[←hu]at ro⊢;rw[←RK]at sg c ro hs h3⊢;refine pw func84 ⟨[0,1,4,5,6,7,8,9,13,20,25],[]⟩ ?_;simp only[Tryz.f84,ntmps84,iz,seval];simp only[vx,T,seval,tV,tC,eV,aa];refine Cg sg ?_;simp only[vx,T,seval,tV,tC,eV,aa];refine⟨fun h=>absurd h hs,fun _=>Lg ?_⟩;simp only[vx,T,seval,tV,tC,eV,aa];refine Cg c ?_;simp only[vx,T,seval,tV,tC,eV,aa];refine⟨fun h=>absurd h (by omega),fun _=>Lg ?_⟩;simp only[vx,T,seval,tV,tC,eV,aa];refine⟨⟨by omega,by omega⟩,⟨by omega,by omega⟩,Cg (ro.args ⟨.cell (.rows rfl fun i j hi hj=>.of_eq (eu i j hi hj)),.refl _,trivial⟩) ?_⟩;simp only[vx,T,seval,tV,tC,eV,aa];exact fT.aF ⟨.cell (.rows rfl fun i j hi hj=>.of_eq (eu i j hi hj)),.refl _,.refl _,trivial⟩
theorem uF (G:TG A t)(ha:a.length=2^t.length)(hn:R.nn (val t.length t a))(hB:Fx jL t.length t a):
  (∃w,w.length=2^t.length∧val t.length t w=R.sqrt (val t.length t a)∧Pr prog 48 [tV t.length t,eV a] (.aF [tV t.length t,eV w,.one (.int .i64 0)]))∨
  (l6 t.length t (val t.length t a)∧Pr prog 48 [tV t.length t,eV a] (.aF [tV (t.length+1) (t++[a]),eV (dI t.length),.one (.int .i64 0)])):=by
 have W:=vF S hA G (Nat.le_refl _);have Rw:1≤jL:=by decide
 have hX:jL≤2^30:=by decide
 have f:=uz W.rq.tq.tk a ha (.of hB.sq.qb (by omega));have rd:=DY Rw hX W;have key:∀{m:Nat} {U:List El} {w:El},Pr prog 84 [tV t.length t,eV a] (.aF [tV m U,eV w,.one (.int .i64 0)])→Pr prog 48 [tV t.length t,eV a] (.aF [tV m U,eV w,.one (.int .i64 0)]):=by
  intro m U w c;refine pw func48 ⟨[0,1,4,5,6,15],[]⟩ ?_;simp only[Tryz.f48,ntmps48,iz,seval];simp only[vx,T,seval,tV,tC,eV,aa];refine Cg rd ?_;simp only[vx,T,seval,tV,tC,eV,aa];refine Cg f ?_;simp only[vx,T,seval,tV,tC,eV,aa];refine Cg c ?_;simp only[vx,T,seval,tV,tC,eV,aa];exact Ve rfl
 rcases Gx S hA G ha hn hB with⟨w,lw,ew,cw⟩|⟨no,c⟩
 ·exact .inl ⟨w,lw,ew,key cw⟩
 exact .inr ⟨no,key c⟩
end
open Go Go.Eng
open Go.Tw (El aB aJ zE ai ar QB mS tB val In Rd l6 TG cE bC a9 a5)
theorem MX (a b:El)(hl:a.length<2^38)(ha:Qk a)(hb:Qk b):Pr prog 158 [eV a,eV b] (.one (.bool (decide (a=b)))):=by
 refine pw func158 ⟨[0,1,4,5,10,14,26],[]⟩ ?_;simp only[Tryz.f158,ntmps158,iz,seval];simp only[vx,T,seval,eV,aa];refine⟨fun h=>Lg ?_,fun h=>Lg ?_⟩
 ·rw[show decide (a=b)=false from decide_eq_false fun e=>h (by rw[e])];simp only[vx,T,seval,eV,aa];exact Ve rfl
 have hlen:a.length=b.length:=by omega
 simp only[vx,T,seval,eV,aa];refine Lk (fun y:{i:Nat//i≤a.length∧∀j,j<i→a.getD j default=b.getD j default}=>⟨[(0,eV a),(1,eV b),(4,.one (.bool false)),(5,.one (.int .i64 y.1))],[],2,27⟩) (fun y=>a.length-y.1) ⟨0,Nat.zero_le _,fun j hj=>absurd hj (Nat.not_lt_zero _)⟩ ?_ (fun⟨i,hi,hz⟩=>?_)
 ·refine Sa ?_;simp only[ry,seval,rz,eV,aa]
 have i1:=wI i (by omega);simp only[vx,T,seval,eV,aa];refine⟨fun g=>Lg ?_,fun g=>Lg ?_⟩
 ·have RG:i<a.length:=by omega
  have c:=Co _ _ (ha.get i) (hb.get i);have key:a.getD i default≠b.getD i default→decide (a=b)=false:=fun h=>decide_eq_false fun e=>h (by rw[e]);have So:a.getD i default=b.getD i default→∀j,j<i+1→a.getD j default=b.getD j default:=fun h0 j hj=>by
   by_cases Th:j<i
   ·exact hz j Th
   obtain rfl:j=i:=by omega
   exact h0
  obtain⟨x,hx⟩:∃x,x=a.getD i default:=⟨_,rfl⟩;obtain⟨y,hy⟩:∃y,y=b.getD i default:=⟨_,rfl⟩;rw[←hx,←hy]at c key So;simp only[vx,T,seval,eV,aa,←hx,←hy,qC];refine⟨by omega,by omega,Cg c ?_⟩;simp only[vx,T,seval,eV,aa];refine⟨fun h=>Lg ?_,fun h=>Lg ?_⟩
  ·rw[key fun e=>h (vN.2 e)];simp only[vx,T,seval,eV,aa];exact Ve rfl
  have e:x=y:=vN.1 (by omega);simp only[vx,T,seval,eV,aa,i1];refine Lq ⟨i+1,by omega,So e⟩ ?_ (by show a.length-(i+1)<a.length-i;omega);refine Sa ?_;simp only[ry,seval,rz,eV,aa]
 have RG:i=a.length:=by omega
 subst RG;have e:a=b:=by
  refine List.ext_getElem hlen fun j h1 h2=>?_
  have:=hz j h1
  rwa [eY h1,eY h2]at this
 rw[decide_eq_true e];simp only[vx,T,seval,eV,aa];exact Ve rfl
theorem oY {h k:Nat}{t u:List El}(tk:Tk h t)(uk:Tk k u):Pr prog 123 [tV h t,tV k u] (.one (.bool (fe h k t u))):=by
 have h8:=tk.le8;have k8:=uk.le8;refine pw func123 ⟨[0,1,4,5,10,14,26],[]⟩ ?_;simp only[Tryz.f123,ntmps123,iz,seval];simp only[vx,T,seval,tV,tC];refine⟨fun g=>Lg ?_,fun g=>Lg ?_⟩
 ·rw[show fe h k t u=false by unfold fe;rw[decide_eq_false (by omega:¬k≤h)];rfl];simp only[vx,T,seval,tV,tC];exact Ve rfl
 have hkh:k≤h:=by omega
 simp only[vx,T,seval,tV,tC];refine Lk (fun y:{i:Nat//i≤k∧∀j,j<i→t.getD j []=u.getD j []}=>⟨[(0,tV h t),(1,tV k u),(4,.one (.bool false)),(5,.one (.int .i64 y.1))],[],2,27⟩) (fun y=>k-y.1) ⟨0,Nat.zero_le _,fun j hj=>absurd hj (Nat.not_lt_zero _)⟩ ?_ (fun⟨i,hi,hz⟩=>?_)
 ·refine Sa ?_;simp only[ry,seval,rz,tV,tC]
 have i1:=wI i (by omega);simp only[vx,T,seval,tV,tC];refine⟨fun g2=>Lg ?_,fun g2=>Lg ?_⟩
 ·have T8:i<k:=by omega
  have c:=MX (t.getD i []) (u.getD i []) (by rw[tk.len i (by omega)];exact aN (by omega)) (tk.q i (by omega)) (uk.q i T8);have key:t.getD i []≠u.getD i []→fe h k t u=false:=fun h0=>by
   unfold fe;rw[Bool.and_eq_false_iff]
   right
   rw[List.all_eq_false];exact⟨i,List.mem_range.2 T8,by simpa using h0⟩
  have So:t.getD i []=u.getD i []→∀j,j<i+1→t.getD j []=u.getD j []:=fun h0 j hj=>by
   by_cases Th:j<i
   ·exact hz j Th
   obtain rfl:j=i:=by omega
   exact h0
  obtain⟨x,hx⟩:∃x,x=t.getD i []:=⟨_,rfl⟩;obtain⟨y,hy⟩:∃y,y=u.getD i []:=⟨_,rfl⟩;rw[←hx,←hy]at c key So
  by_cases e:x=y
  ·rw[decide_eq_true e]at c;simp only[vx,T,seval,tV,tC,aa,←hx,←hy];refine⟨by omega,by omega,Cg c ?_⟩;simp only[vx,T,seval,tV,tC,i1];refine Lq ⟨i+1,by omega,So e⟩ ?_ (by show k-(i+1)<k-i;omega);refine Sa ?_;simp only[ry,seval,rz,tV,tC]
  rw[decide_eq_false e]at c;rw[key e];simp only[vx,T,seval,tV,tC,aa,←hx,←hy];refine⟨by omega,by omega,Cg c ?_⟩;simp only[vx,T,seval,tV,tC];exact Ve rfl
 have T8:i=k:=by omega
 subst T8;rw[show fe h i t u=true by
  unfold fe;rw[decide_eq_true hkh,Bool.true_and,List.all_eq_true];exact fun j hj=>decide_eq_true (hz j (List.mem_range.1 hj))]
 simp only[vx,T,seval,tV,tC];exact Ve rfl
theorem x9 {h:Nat}{t:List El}{a:El}(hh:h≤8)(hl:a.length≤2^h):Pr prog 125 [tV h t,eV a] (eV (cE h a)):=by
 have hp:=aN hh;have z:=bc 0 (by decide) (by decide);have hs:=dL (h:=h) hh;have e:cE h a=a++zE (2^h-a.length):=rfl;rw[e];obtain⟨N,hN⟩:∃N,N=2^h:=⟨_,rfl⟩;rw[←hN]at hs hl hp⊢;refine pw func125 ⟨[0,1,4,5,14],[]⟩ ?_;simp only[Tryz.f125,ntmps125,iz,seval];simp only[vx,T,seval,tV,tC,eV,aa];refine⟨⟨by omega,by omega⟩,?_⟩;refine Lk (fun y:{k:Nat//a.length+k≤N}=>⟨[(0,tV h t),(4,.one .nil),(5,.one (.own 1 4 0 (a.length+y.1)))],[(1,⟨.rows 62 4 (a.length+y.1) (fQ (a++zE y.1)),true⟩)],2,20⟩) (fun y=>N-(a.length+y.1)) ⟨0,by omega⟩ ?_ (fun⟨k,hk⟩=>?_)
 ·refine Sa ?_;simp only[ry,seval,rz,tV,tC,eV,aa];exact fun i j _ _=>by rw[show a++zE 0=a from List.append_nil a,if_neg (Nat.not_lt_zero _),Nat.sub_zero];rfl
 simp only;simp only[vx,T,seval,tV,tC,eV,aa,hs];refine⟨by omega,?_⟩;refine⟨fun g=>Lg ?_,fun g=>Lg ?_⟩
 ·simp only[vx,T,seval,tV,tC,eV,aa,hs];refine Cg z ?_;simp only[vx,T,seval,tV,tC,eV,aa,hs,QV,QC];refine⟨⟨by omega,by omega⟩,Lq ⟨k+1,by omega⟩ ?_ (by show N-(a.length+(k+1))<N-(a.length+k);omega)⟩;refine Sa ?_;simp only[ry,seval,rz,tV,tC,eV,aa,hs];exact⟨by omega,by omega,by rw[C1];exact Mz (by rw[X6,ar])⟩
 simp only[vx,T,seval,tV,tC,eV,aa,hs];have ek:k=N-a.length:=by omega
 rw[←ek];exact fT.cell (dK.rows (by rw[X6,ar]) fun i j _ _=>.refl _)
open Go Go.Eng
open Go.Tw (El aB aJ zE ai ar aq ao ae QB mS ah ag tB aX aG val In Rd TG cE bC a9 a5 Ext l6)
theorem IL {B Y Z H:Nat}{U rs:List El}{N:Nat}{a:El}(hN:rs.length=N)(I:Fy B Y Z H 0 U rs)(ha:a.length=2^0)(hq:QB B a):Pr prog 126 [tV H U,tV N rs,eV a] (eV (a9 H U rs 0 a)):=by
 obtain⟨x,rfl⟩:=Go.Tw.bA ha;have hB:=I.hB;have hx:qm x≤B:=hq x (by simp);have f:=(dP (h:=H) (t:=U) I.tq.tk.le8 x).rows;have e:a9 H U rs 0 [x]=aX H x:=rfl;rw[e];refine pw func126 ⟨[0,1,2,6,7,8,9,10,13,27],[]⟩ ?_;simp only[Tryz.f126,ntmps126,iz,seval];simp only[vx,T,seval,tV,tC,eV,aa,QV,QC,qC,X0];refine Cg f ?_;simp only[vx,T,seval,tV,tC,eV,aa,QV,QC,qC,X0];exact Ve rfl
theorem xC {B Y Z H:Nat}{U rs:List El}{N:Nat}(hN:rs.length=N):∀{k:Nat} {a:El},Fy B Y Z H k U rs→k≤rs.length→k≤8→a.length=2^k→QB B a→Pr prog 126 [tV H U,tV N rs,eV a] (eV (a9 H U rs k a))
 |0,a,I,_,_,ha,hq=>IL hN I ha hq
 |k+1,a,I,Yl,XI,ha,hq=>by
  have I':=I.le (Nat.le_succ k);have Sg:=ah ha;have Sd:=ag ha;have c1:=xC hN I' (by omega) (by omega) Sg (hq.take _);have c2:=xC hN I' (by omega) (by omega) Sd (hq.drop _);have hB:=I.hB;have h3:=I.tq.h3;have hp:=aN (h:=k+1) XI;have hH:2^H≤8:=Nat.pow_le_pow_right (n:=2) (by decide) h3;have hn:(2^k:Nat)≤a.length:=by rw[ha,Nat.pow_succ];omega
  have cT:=fu hn;have cD:=eW (a:=a) (n:=2^k);have c1:=c1.args (xs:=[tV H U,tV N rs,.one (bf a (2^k))]) ⟨.refl _,.refl _,.cell cT,trivial⟩;have c2:=c2.args (xs:=[tV H U,tV N rs,.one (ba a (2^k))]) ⟨.refl _,.refl _,.cell cD,trivial⟩;have hg:∀i,i≤k→(IntKind.i64.wrap (1*2^(if i≤63 then i+1 else 64))<((a.length:Nat):Int)↔i<k):=fun i hi=>by
   have hs:=dL (h:=i+1) (by omega);rw[if_pos (by omega)]at hs⊢;rw[hs,ha]
   constructor
   ·intro h;refine Nat.lt_of_not_le fun h2=>?_
    have:=Nat.pow_le_pow_right (n:=2) (by decide) (show k+1≤i+1 by omega)
    omega
   intro h
   have:=Nat.pow_lt_pow_right (a:=2) (by decide) (show i+1<k+1 by omega)
   omega
  obtain⟨n,RK⟩:∃n,n=2^k:=⟨_,rfl⟩;have RT:a.length=2*n:=by rw[ha,Nat.pow_succ,RK];omega
  have w2:IntKind.i64.wrap (((a.length:Nat):Int).tdiv 2)=(n:Int):=by
   rw[RT,Int.tdiv_eq_ediv_of_nonneg (by omega),IntWalk.i64_in _ (by omega)];omega
  have w4:((a.length:Int)-(n:Int)).toNat=a.length-n:=by omega
  have RE:¬((a.length:Nat):Int)=1:=by
   have:=Nat.two_pow_pos k
   omega
  refine pw func126 ⟨[0,1,2,6,7,8,9,10,13,27],[]⟩ ?_;simp only[Tryz.f126,ntmps126,iz,seval];simp only[vx,T,seval,tV,tC,eV,aa,bf,ba,QV,QC,w2,w4];refine⟨fun h=>absurd h RE,fun _=>Lg ?_⟩;simp only[vx,T,seval,tV,tC,eV,aa,bf,ba,QV,QC,w2,w4];refine Lk (fun y:{i:Nat//i≤k}=>⟨[(0,tV H U),(1,tV N rs),(2,eV a),(6,.one .nil),(7,.one (.int .i64 n)),(8,.one (.int .i64 y.1))],[],1,54⟩) (fun y=>k-y.1) ⟨0,Nat.zero_le _⟩ ?_ (fun⟨i,hi⟩=>?_)
  ·refine Sa ?_;simp only[ry,seval,rz,tV,tC,eV,aa]
  simp only;have TI:=hg i hi;have wi:=wI i (by omega);simp only[vx,T,seval,tV,tC,eV,aa,bf,ba,QV,QC,w2,w4,wi];refine⟨by omega,?_⟩;refine⟨fun g=>Lg ?_,fun g=>Lg ?_⟩
  ·have T8:=TI.1 g;simp only[vx,T,seval,tV,tC,eV,aa,bf,ba,QV,QC,w2,w4,wi];refine Lq ⟨i+1,by omega⟩ ?_ (by show k-(i+1)<k-i;omega);refine Sa ?_;simp only[ry,seval,rz,tV,tC,eV,aa]
  have T8:i=k:=by
   have:¬i<k:=fun h=>g (TI.2 h)
   omega
  subst T8;obtain⟨⟨m,hm,lr⟩,qr⟩:=I.r i (by omega);have q2:=I.y i (by omega) _ Sd (hq.drop _);have Tm:(rs.getD i []).length≤2^H:=by rw[lr];exact Nat.pow_le_pow_right (by decide) hm
  have pd:=x9 (h:=H) (t:=U) (a:=rs.getD i []) (by omega) Tm;have mu:=(fU fY I.tq.tk I.tq.q I.hY I.hZ (a5 (H:=H) (T:=U) (rs:=rs) (k:=i) (a:=a.drop (2^i))) (bC Tm) q2 (Go.Tw.QB.pad I.hZ qr) I.s).rows;have gm:=QB.mul (h:=H) (t:=U) fY I.tq.q I.hY I.hZ q2 (Go.Tw.QB.pad (H:=H) I.hZ qr);have S1:=Go.Tw.il (h:=H) (S:=Y+Z) (C:=tB);have hs:=I.s;have q1:=I.y i (by omega) _ Sg (hq.take _);have ad:=(s9 (h:=H) (t:=U) (a9 H U rs i (a.take (2^i))) _ (by rw[a5];omega) (by rw[ae,a5]) (.of q1 (by omega)) (.of gm hs)).rows;have er:a9 H U rs (i+1) a=aB (a9 H U rs i (a.take (2^i))) (ai H U (a9 H U rs i (a.drop (2^i))) (cE H (rs.getD i []))):=rfl;rw[←er]at ad;obtain⟨r,hr⟩:∃r,r=a9 H U rs (i+1) a:=⟨_,rfl⟩;obtain⟨x,hx⟩:∃x,x=a9 H U rs i (a.take (2^i)):=⟨_,rfl⟩;obtain⟨y,hy⟩:∃y,y=a9 H U rs i (a.drop (2^i)):=⟨_,rfl⟩;obtain⟨v,hv⟩:∃v,v=rs.getD i []:=⟨_,rfl⟩;obtain⟨p,UN⟩:∃p,p=cE H v:=⟨_,rfl⟩;rw[←hr,←hx]at ad;rw[←hx]at c1;rw[←hy]at c2;rw[←hr];rw[←hv]at pd;rw[←hy,←hv,←UN]at ad mu;rw[←UN]at pd;obtain⟨z,hz⟩:∃z,z=ai H U y p:=⟨_,rfl⟩;rw[←hz]at ad mu;have RG:i<rs.length:=by omega
  rw[←RK]at c1 c2;clear gm S1 hs q1 q2 er hr hx hy UN hz lr qr Tm hm Sg Sd hq;simp only[vx,T,seval,tV,tC,eV,aa,bf,ba,QV,QC,w2,w4,wi,←hv];refine⟨⟨by omega,by omega⟩,Cg c1 ?_⟩;simp only[vx,T,seval,tV,tC,eV,aa,bf,ba,QV,QC,w2,w4,wi,←hv];refine⟨⟨by omega,by omega,by omega⟩,Cg c2 ?_⟩;simp only[vx,T,seval,tV,tC,eV,aa,bf,ba,QV,QC,w2,w4,wi,←hv];refine⟨⟨by omega,by omega⟩,Cg pd ?_⟩;simp only[vx,T,seval,tV,tC,eV,aa,bf,ba,QV,QC,w2,w4,wi,←hv];refine Cg mu ?_;simp only[vx,T,seval,tV,tC,eV,aa,bf,ba,QV,QC,w2,w4,wi,←hv];refine Cg ad ?_;simp only[vx,T,seval,tV,tC,eV,aa,bf,ba,QV,QC,w2,w4,wi,←hv];exact Ve rfl
theorem Dz {P:Program}{fn:FuncId}{x y:V}{w n n':Nat}{f g:Nat→Nat→C}{B:Bk}{R:V→Bk→Prop}(h:Mc P fn [x,y,.one (.rows w n' g)] B R)(hc:dK (.rows w n f) (.rows w n' g)):Mc P fn [x,y,.one (.rows w n f)] B R:=
 ⟨h.1,fun ok W vs l h1 h2 h3 h4 R1=>h.2 ok W vs l h1 h2 h3 h4 (by
  generalize vs.toList=ls at R1⊢
  match ls,R1 with
  |[_,_,v2],⟨a,b,c,_⟩=>exact⟨a,b,hc ok W v2 c,trivial⟩)⟩
theorem E1 {B Y Z H:Nat}{U rs:List El}{N:Nat}{a:El}(hN:rs.length=N)(I:Fy B Y Z H 0 U rs)(ha:a.length=2^0)(hq:QB B a):Mc prog 126 [tV H U,.one (.own 0 1 0 N),eV a] (rB N rs) (MC rs N (eV (a9 H U rs 0 a))):=by
 obtain⟨x,rfl⟩:=Go.Tw.bA ha;have hB:=I.hB;have hx:qm x≤B:=hq x (by simp);have f:=(dP (h:=H) (t:=U) I.tq.tk.le8 x).rows;have e:a9 H U rs 0 [x]=aX H x:=rfl;rw[e];refine mw func126 ⟨[0,1,2,6,7,8,9,10,13,27],[(7,(.cons 5 [6,7,8,9,10] (.cons 11 [] (.cons 12 [] (.cons 13 [] .nil .nil) .nil) .nil) .nil))]⟩ ?_;simp only[Tryz.f126,ntmps126,iz,seval];simp only[vx,T,seval,rB,tV,tC,eV,aa,QV,QC,qC,X0];refine Cg f ?_;simp only[vx,T,seval,rB,tV,tC,eV,aa,QV,QC,qC,X0];exact⟨rfl,rfl⟩
theorem sU {B Y Z H:Nat}{U rs:List El}{N:Nat}(hN:rs.length=N):∀{k:Nat} {a:El},Fy B Y Z H k U rs→k≤rs.length→k≤8→a.length=2^k→QB B a→Mc prog 126 [tV H U,.one (.own 0 1 0 N),eV a] (rB N rs) (MC rs N (eV (a9 H U rs k a)))
 |0,a,I,_,_,ha,hq=>E1 hN I ha hq
 |k+1,a,I,Yl,XI,ha,hq=>by
  have I':=I.le (Nat.le_succ k);have Sg:=ah ha;have Sd:=ag ha;have c1:=sU hN I' (by omega) (by omega) Sg (hq.take _);have c2:=sU hN I' (by omega) (by omega) Sd (hq.drop _);have hB:=I.hB;have h3:=I.tq.h3;have hp:=aN (h:=k+1) XI;have hH:2^H≤8:=Nat.pow_le_pow_right (n:=2) (by decide) h3;have hn:(2^k:Nat)≤a.length:=by rw[ha,Nat.pow_succ];omega
  have cT:=fu hn;have cD:=eW (a:=a) (n:=2^k);have c1:Mc prog 126 [tV H U,.one (.own 0 1 0 N),.one (bf a (2^k))] (rB N rs) (MC rs N (eV (a9 H U rs k (a.take (2^k))))):=Dz c1 cT;have c2:Mc prog 126 [tV H U,.one (.own 0 1 0 N),.one (ba a (2^k))] (rB N rs) (MC rs N (eV (a9 H U rs k (a.drop (2^k))))):=Dz c2 cD;have hg:∀i,i≤k→(IntKind.i64.wrap (1*2^(if i≤63 then i+1 else 64))<((a.length:Nat):Int)↔i<k):=fun i hi=>by
   have hs:=dL (h:=i+1) (by omega);rw[if_pos (by omega)]at hs⊢;rw[hs,ha]
   constructor
   ·intro h;refine Nat.lt_of_not_le fun h2=>?_
    have:=Nat.pow_le_pow_right (n:=2) (by decide) (show k+1≤i+1 by omega)
    omega
   intro h
   have:=Nat.pow_lt_pow_right (a:=2) (by decide) (show i+1<k+1 by omega)
   omega
  obtain⟨n,RK⟩:∃n,n=2^k:=⟨_,rfl⟩;have RT:a.length=2*n:=by rw[ha,Nat.pow_succ,RK];omega
  have w2:IntKind.i64.wrap (((a.length:Nat):Int).tdiv 2)=(n:Int):=by
   rw[RT,Int.tdiv_eq_ediv_of_nonneg (by omega),IntWalk.i64_in _ (by omega)];omega
  have w4:((a.length:Int)-(n:Int)).toNat=a.length-n:=by omega
  have RE:¬((a.length:Nat):Int)=1:=by
   have:=Nat.two_pow_pos k
   omega
  refine mw func126 ⟨[0,1,2,6,7,8,9,10,13,27],[(7,(.cons 5 [6,7,8,9,10] (.cons 11 [] (.cons 12 [] (.cons 13 [] .nil .nil) .nil) .nil) .nil))]⟩ ?_;simp only[Tryz.f126,ntmps126,iz,seval];simp only[vx,T,seval,rB,tV,tC,eV,aa,bf,ba,QV,QC,w2,w4];refine⟨fun h=>absurd h RE,fun _=>Lg ?_⟩;simp only[vx,T,seval,rB,tV,tC,eV,aa,bf,ba,QV,QC,w2,w4];refine Lk (fun y:{i:Nat//i≤k}=>⟨[(0,tV H U),(1,.one (.own 0 1 0 N)),(2,eV a),(6,.one .nil),(7,.one (.int .i64 n)),(8,.one (.int .i64 y.1))],[(0,⟨rB N rs,true⟩)],1,54⟩) (fun y=>k-y.1) ⟨0,Nat.zero_le _⟩ ?_ (fun⟨i,hi⟩=>?_)
  ·refine Sa ?_;simp only[ry,seval,rz,rB,tV,tC,eV,aa]
  simp only;have TI:=hg i hi;have wi:=wI i (by omega);simp only[vx,T,seval,rB,tV,tC,eV,aa,bf,ba,QV,QC,w2,w4,wi];refine⟨by omega,?_⟩;refine⟨fun g=>Lg ?_,fun g=>Lg ?_⟩
  ·have T8:=TI.1 g;simp only[vx,T,seval,rB,tV,tC,eV,aa,bf,ba,QV,QC,w2,w4,wi];refine Lq ⟨i+1,by omega⟩ ?_ (by show k-(i+1)<k-i;omega);refine Sa ?_;simp only[ry,seval,rz,rB,tV,tC,eV,aa]
  have T8:i=k:=by
   have:¬i<k:=fun h=>g (TI.2 h)
   omega
  subst T8;obtain⟨⟨m,hm,lr⟩,qr⟩:=I.r i (by omega);have q2:=I.y i (by omega) _ Sd (hq.drop _);have Tm:(rs.getD i []).length≤2^H:=by rw[lr];exact Nat.pow_le_pow_right (by decide) hm
  have pd:=x9 (h:=H) (t:=U) (a:=rs.getD i []) (by omega) Tm;have mu:=(fU fY I.tq.tk I.tq.q I.hY I.hZ (a5 (H:=H) (T:=U) (rs:=rs) (k:=i) (a:=a.drop (2^i))) (bC Tm) q2 (Go.Tw.QB.pad I.hZ qr) I.s).rows;have gm:=QB.mul (h:=H) (t:=U) fY I.tq.q I.hY I.hZ q2 (Go.Tw.QB.pad (H:=H) I.hZ qr);have S1:=Go.Tw.il (h:=H) (S:=Y+Z) (C:=tB);have hs:=I.s;have q1:=I.y i (by omega) _ Sg (hq.take _);have ad:=(s9 (h:=H) (t:=U) (a9 H U rs i (a.take (2^i))) _ (by rw[a5];omega) (by rw[ae,a5]) (.of q1 (by omega)) (.of gm hs)).rows;have er:a9 H U rs (i+1) a=aB (a9 H U rs i (a.take (2^i))) (ai H U (a9 H U rs i (a.drop (2^i))) (cE H (rs.getD i []))):=rfl;rw[←er]at ad;obtain⟨r,hr⟩:∃r,r=a9 H U rs (i+1) a:=⟨_,rfl⟩;obtain⟨x,hx⟩:∃x,x=a9 H U rs i (a.take (2^i)):=⟨_,rfl⟩;obtain⟨y,hy⟩:∃y,y=a9 H U rs i (a.drop (2^i)):=⟨_,rfl⟩;obtain⟨v,hv⟩:∃v,v=rs.getD i []:=⟨_,rfl⟩;obtain⟨p,UN⟩:∃p,p=cE H v:=⟨_,rfl⟩;rw[←hr,←hx]at ad;rw[←hx]at c1;rw[←hy]at c2;rw[←hr];rw[←hv]at pd;rw[←hy,←hv,←UN]at ad mu;rw[←UN]at pd;obtain⟨z,hz⟩:∃z,z=ai H U y p:=⟨_,rfl⟩;rw[←hz]at ad mu;have RG:i<rs.length:=by omega
  rw[←RK]at c1 c2;clear gm S1 hs q1 q2 er hr hx hy UN hz lr qr Tm hm Sg Sd hq;simp only[vx,T,seval,rB,tV,tC,eV,aa,bf,ba,QV,QC,w2,w4,wi,←hv];refine⟨⟨by omega,by omega⟩,⟨by omega,by omega,by omega⟩,Cm 0 (B:=rB N rs) rfl trivial c1 ?_⟩;rintro _ _ ⟨rfl,rfl⟩ _;simp only[vx,T,seval,rB,tV,tC,eV,aa,bf,ba,QV,QC,w2,w4,wi,←hv];refine⟨⟨by omega,by omega,by omega⟩,Cm 0 (B:=rB N rs) rfl trivial c2 ?_⟩;rintro _ _ ⟨rfl,rfl⟩ _;simp only[vx,T,seval,rB,tV,tC,eV,aa,bf,ba,QV,QC,w2,w4,wi,←hv];refine⟨⟨by omega,by omega⟩,Cg pd ?_⟩;simp only[vx,T,seval,rB,tV,tC,eV,aa,bf,ba,QV,QC,w2,w4,wi,←hv];refine Cg mu ?_;simp only[vx,T,seval,rB,tV,tC,eV,aa,bf,ba,QV,QC,w2,w4,wi,←hv];refine Cg ad ?_;simp only[vx,T,seval,rB,tV,tC,eV,aa,bf,ba,QV,QC,w2,w4,wi,←hv];exact⟨rfl,rfl⟩
open Go Go.Eng
open Go.Tw (El aB aJ zE ai ar QB mS tB val In Rd l6 TG cE bC a9 a5 Ext jL yX)
def Qy (u:List El)(i:Nat)(x y:List El×List El):Prop:=
 ∃e w,Mc prog 126 [tV x.1.length x.1,.one (.own 0 1 0 i),eV (u.getD i [])] (rB i x.2) (MC x.2 i (eV e))∧Pr prog 48 [tV x.1.length x.1,eV e] (.aF [tV y.1.length y.1,eV w,.one (.int .i64 0)])∧y.2=x.2++[w]
section
variable {A:List R}(S:Go.Tw.Src 64 A)(hA:A.length≤3){t u:List El}
include S hA
theorem Bp (G:TG A t)(Gu:TG A u):∃s:Nat→List El×List El,s 0=(t,[])∧(∀i,i≤u.length→LR A t u i (s i))∧∀i,i<u.length→Qy u i (s i) (s (i+1)):=by
 have h3:=Gu.kg S hA;refine Go.Tw.chain (I:=LR A t u) ⟨⟨[],(List.append_nil t).symm⟩,⟨G,rfl,fun i hi=>absurd hi (Nat.not_lt_zero _)⟩,fun _=>rfl⟩ fun i x hi hx=>?_;obtain⟨U,rs⟩:=x;obtain⟨⟨s,hs⟩,E,Rz⟩:=hx;have hs:U=t++s:=hs;have E:Ext A u i U rs:=E;have lu:=(Gu.rd.rl i hi).1;have ci:=sU E.len (Ix S hA Gu E (by omega)) (by rw[E.len];exact Nat.le_refl _) (by omega) lu (Gu.qb S hA hi);have le:(a9 U.length U rs i (u.getD i [])).length=2^U.length:=a5;have ve:=Go.Tw.lI E (Nat.le_refl _) lu;have hm:val U.length U (a9 U.length U rs i (u.getD i []))∈A:=by rw[ve];exact Gu.mem i hi
 have hp:R.pos (val U.length U (a9 U.length U rs i (u.getD i []))):=by rw[ve];exact(Gu.rd.rl i hi).2
 have rb:=E.tg.Qz S hA le hm hp
 rcases uF S hA E.tg le (R.bu.2 (.inr hp)) rb with⟨w,lw,vw,cw⟩|⟨no,c⟩
 ·refine⟨(U,rs++[w]),⟨_,w,ci,cw,rfl⟩,⟨s,hs⟩,?_,fun h=>Rz fun j hj=>h j (by omega)⟩
  have:=E.up (S:=[]) (r:=w) (m:=U.length) (by rw[List.append_nil];exact E.tg) (by rw[List.append_nil];exact Nat.le_refl _) lw (by rw[List.append_nil,vw,ve])
  rwa [List.append_nil]at this
 have G':=E.tg.snoc le hm hp no;have hl:(U++[a9 U.length U rs i (u.getD i [])]).length=U.length+1:=by simp
 refine⟨(U++[a9 U.length U rs i (u.getD i [])],rs++[Go.Tw.dI U.length]),⟨_,Go.Tw.dI U.length,ci,?_,rfl⟩,⟨s++[a9 U.length U rs i (u.getD i [])],by rw[hs,List.append_assoc]⟩,?_,fun h=>?_⟩
 ·show Pr _ _ _ (.aF [tV (U++[a9 U.length U rs i (u.getD i [])]).length _,_,_]);rw[hl];exact c
 ·exact E.up G' (m:=U.length+1) (by rw[hl];exact Nat.le_refl _) Go.Tw.kJ (by rw[Go.Tw.qG,ve])
 have eU:U=t:=Rz fun j hj=>h j (by omega);have R6:=h i (by omega);rw[←eU]at R6;refine absurd ?_ (no _ R6);rw[ve];exact R.dy (R.bu.2 (.inr (Gu.rd.rl i hi).2))
theorem yR (G:TG A t)(Gu:TG A u):∃U rs s,U=t++s∧Ext A u u.length U rs∧((∀j,j<u.length→In t.length t (R.sqrt (val j u (u.getD j []))))→U=t)∧
  Pr prog 124 [tV t.length t,tV u.length u] (.aF [tV U.length U,tV rs.length rs,.one (.int .i64 0)]):=by
 obtain⟨s,e0,hI,hS⟩:=Bp S hA G Gu;have h3:=Gu.kg S hA;obtain⟨⟨z,hz⟩,E,Rz⟩:=hI u.length (Nat.le_refl _);refine⟨(s u.length).1,(s u.length).2,z,hz,E,Rz,?_⟩;have hl:∀i,i≤u.length→(s i).2.length=i:=fun i hi=>(hI i hi).2.1.len;have WX:∀i,i≤u.length→(s i).1.length≤3:=fun i hi=>(hI i hi).2.1.tg.kg S hA;have e1:(s 0).1=t:=by rw[e0]
 rw[←e1];clear e0 e1 hI hz E Rz;obtain⟨n,hn⟩:∃n,n=u.length:=⟨_,rfl⟩;rw[←hn]at hS h3 hl WX⊢;rw[hl n (Nat.le_refl n)];refine pw func124 ⟨[0,1,4,5,6,7,8,9,10,11,15,32],[]⟩ ?_;simp only[Tryz.f124,ntmps124,iz,seval];simp only[vx,T,seval,tV,tC,eV,aa];refine Lk (fun y:{i:Nat//i≤n}=>⟨[(0,tV (s y.1).1.length (s y.1).1),(1,tV n u),(4,.one .nil),(5,.one .nil),(6,.one (.int .i64 0)),(7,.one (.own 1 1 0 y.1)),(8,.one (.int .i64 y.1))],[(1,⟨.rows 35 1 y.1 (fun j _=>aa ((s y.1).2.getD j [])),true⟩)],2,41⟩) (fun y=>n-y.1) ⟨0,Nat.zero_le _⟩ ?_ (fun⟨i,hi⟩=>?_)
 ·refine Sa ?_;simp only[ry,seval,rz,tV,tC,eV,aa]
 simp only;have wi:=wI i (by omega);simp only[vx,T,seval,tV,tC,eV,aa,wi];refine⟨fun g=>Lg ?_,fun g=>Lg ?_⟩
 ·have RG:i<n:=by omega
  obtain⟨e,w,ci,ca,er⟩:=hS i RG;have SN:=hl i hi;have h3i:=WX i hi;obtain⟨v,hv⟩:∃v,v=u.getD i []:=⟨_,rfl⟩;rw[←hv]at ci;obtain⟨U,hU⟩:∃U,U=(s i).1:=⟨_,rfl⟩;obtain⟨rs,SR⟩:∃rs,rs=(s i).2:=⟨_,rfl⟩;rw[←SR]at er SN;rw[←hU,←SR]at ci;rw[←hU]at ca h3i;rw[←hU,←SR];simp only[vx,T,seval,tV,tC,eV,aa,←hv];refine⟨⟨by omega,by omega⟩,Cm 1 (B:=rB i rs) rfl trivial ci ?_⟩;rintro _ _ ⟨rfl,rfl⟩ _;simp only[vx,T,seval,rB,tV,tC,eV,aa,←hv];refine Cg ca ?_;simp only[vx,T,seval,rB,tV,tC,eV,aa,←hv,wi];have es:(s (i+1)).2=rs++[w]:=er;have e1:∀j,j<i→(rs++[w]).getD j []=rs.getD j []:=fun j hj=>Go.Tw.dg (by omega);have e2:(rs++[w]).getD i []=w:=by rw[←SN];exact Go.Tw.fM
  refine⟨⟨by omega,by omega⟩,Lq ⟨i+1,by omega⟩ ?_ (by show n-(i+1)<n-i;omega)⟩;refine Sa ?_;simp only[ry,seval,rz,tV,tC,eV,aa];rw[es];intro k j hk hj;obtain rfl:j=0:=by omega
  by_cases Vt:k<i
  ·rw[if_pos Vt,e1 k Vt]
  obtain rfl:k=i:=by omega
  rw[if_neg Vt,e2,Nat.sub_self];rfl
 have RG:i=n:=by omega
 subst RG;simp only[vx,T,seval,tV,tC,eV,aa,wi];exact Ve rfl
end
open Go Go.Eng
open Go.Tw (El aB aJ zE ai ar aq ao ae QB mS tB val In Rd l6 TG cE bC a9 a5 Ext jL yX ax qN kV)
theorem bO {t u:List El}:fe t.length u.length t u=true↔∃s,t=u++s:=by
 unfold fe;rw[Bool.and_eq_true,decide_eq_true_eq,List.all_eq_true]
 constructor
 ·rintro⟨h1,h2⟩;refine⟨t.drop u.length,?_⟩;have e:t.take u.length=u:=by
   refine List.ext_getElem (by rw[X5];omega) fun i k1 k2=>?_
   have:=of_decide_eq_true (h2 i (List.mem_range.2 k2))
   rw[X7,X7,X8 (by omega),X8 k2]at this;rw[List.getElem_take];exact this
  conv=>lhs;rw[←List.take_append_drop u.length t,e]
 rintro⟨s,rfl⟩;exact⟨by rw[X6];omega,fun i hi=>decide_eq_true (Go.Tw.dg (List.mem_range.1 hi))⟩
theorem Qk.pad {h:Nat}{a:El}(hq:Qk a):Qk (cE h a):=fun x hx=>by
 rcases List.mem_append.1 hx with hx|hx
 ·exact hq x hx
 rw[List.eq_of_mem_replicate hx];decide+kernel
theorem IZ (x y:List El×El):dK (.rows 2 2 (fun i j=>[tC x.1.length x.1,aa x.2,tC y.1.length y.1,aa y.2].getD (i*2+j) .any)) (bV [x,y]):=by
 refine dK.rows rfl fun i j hi hj=>dK.of_eq ?_
 match i,hi,j,hj with
 |0,_,0,_=>rfl
 |0,_,1,_=>rfl
 |1,_,0,_=>rfl
 |1,_,1,_=>rfl
theorem pK (f:FuncId)(x y:List El×El)(U:List El)(ea eb ec:El)(hj:Pr prog 102 [.one (bV [x,y])] (.aF [.one (bV [(U,ea),(U,eb)]),.one (.int .i64 0)]))
  (hf:Pr prog f [tV U.length U,eV ea,eV eb] (eV ec)):Pr prog 145 [nX x,nX y,.one (.fn f 0 (fun _=>.any))] (.aF [nX (U,ec),.one (.int .i64 0)]):=by
 have hj:=hj.Ml (IZ x y);refine pw func145 ⟨[0,1,2,3,4,6,7,8,9,10,19],[]⟩ ?_;simp only[Tryz.f145,ntmps145,iz,seval];simp only[vx,T,seval,nX,nV,tC,eV,aa];refine Cg hj ?_
 simp(config:={maxSteps:=400000}) only[vx,T,seval,bV,fm,bw,tC,aa,X0,X1]
 refine Cg hf ?_;simp only[vx,T,seval,eV,aa];exact Ve rfl
theorem JP (x y:List El×El)(U:List El)(ea eb ec:El)(hj:Pr prog 102 [.one (bV [x,y])] (.aF [.one (bV [(U,ea),(U,eb)]),.one (.int .i64 0)]))
  (hf:Pr prog 146 [tV U.length U,eV ea,eV eb] (eV ec)):Pr prog 106 [nX x,nX y] (.aF [nX (U,ec),.one (.int .i64 0)]):=by
 have c:=pK _ x y U ea eb ec hj hf;refine pw func106 ⟨[0,1,2,3,4,5],[]⟩ ?_;simp only[Tryz.f106,ntmps106,iz,seval];simp only[vx,T,seval,nX,nV,tC,eV,aa];refine Cg c ?_;simp only[vx,T,seval,nX,nV,tC,eV,aa];exact Ve rfl
end Go.Proofs.YthnkehdgnagmnaaGreat
namespace Go.Tw
open Go Go.Eng
theorem ax.pad {A:List R}{t s:List El}{a:El}{x:R}{β μ:Nat}(h:ax A t a x β μ)(G:TG A (t++s)):ax A (t++s) (cE (t++s).length a) x β μ:=by
 have hl:t.length≤(t++s).length:=by rw[X6];omega
 refine⟨G,bC (by rw[h.len];exact Nat.pow_le_pow_right (by decide) hl),?_,h.sz⟩;rw[Go.Tw.sF h.len hl,Go.Tw.eA (Nat.le_refl _),h.val]
theorem ax.image {A:List R}{t U rs:List El}{a:El}{x:R}{β μ:Nat}(h:ax A t a x β μ)(E:Ext A t t.length U rs):ax A U (a9 U.length U rs t.length a) x β μ:=
 ⟨E.tg,a5,by rw[Go.Tw.lI E (Nat.le_refl _) h.len,h.val],h.sz⟩
end Go.Tw
namespace Go.Proofs.YthnkehdgnagmnaaGreat
open Go.Proofs.Tryz
open Go Go.Eng
open Go.Tw (El aB aJ zE ai ar aq ao ae QB mS tB val In Rd l6 TG cE bC a9 a5 Ext jL yX ax qN kV jβ jμ)
theorem Iu:Tk 0 []:=⟨by decide,fun i h=>absurd h (Nat.not_lt_zero _),fun i h=>absurd h (Nat.not_lt_zero _)⟩
def Sm (β μ:Nat):Prop:=∀h,h≤3→qN h β μ<2^38
theorem Sm.of {β μ:Nat}(h1:β≤2^22)(h2:μ≤1000):Sm β μ:=fun h hh=>Nat.lt_of_le_of_lt (Go.Tw.nu h1 h2) (by
 match h,hh with
 |0,_=>decide+kernel
 |1,_=>decide+kernel
 |2,_=>decide+kernel
 |3,_=>decide+kernel)
theorem Sm.mono {β μ β' μ':Nat}(H:Sm β' μ')(h1:β≤β')(h2:μ≤μ'):Sm β μ:=fun h hh=>Nat.lt_of_le_of_lt (Go.Tw.nu h1 h2) (H h hh)
section
variable {A:List R}(S:Go.Tw.Src 64 A)(hA:A.length≤3)
include S hA
theorem pC {t:List El}{a:El}{x:R}{β μ:Nat}(h:ax A t a x β μ)(hs:Sm β μ):Qk a:=.of (h.qb S hA) (hs _ (h.tg.kg S hA))
theorem mi {t:List El}(G:TG A t):Tk t.length t:=(kR S hA G).tk
theorem Ms {x y:List El×El}{vx vy:R}{βx μx βy μy:Nat}(hx:ax A x.1 x.2 vx βx μx)(hy:ax A y.1 y.2 vy βy μy)(sx:Sm βx μx)(sy:Sm βy μy)(h1:βy≤jβ)(h2:μy≤jμ):
  ∃U ea eb,ax A U ea vx βx μx∧ax A U eb vy βy μy∧(∀z,In x.1.length x.1 z→In U.length U z)∧(∀z,In y.1.length y.1 z→In U.length U z)∧
   Pr prog 102 [.one (bV [x,y])] (.aF [.one (bV [(U,ea),(U,eb)]),.one (.int .i64 0)]):=by
 have xk:=mi S hA hx.tg;have yk:=mi S hA hy.tg;have x3:=hx.tg.kg S hA;have y3:=hy.tg.kg S hA;have s0:vf [] x.1 x.1:=by
  by_cases h:x.1=[]
  ·rw[h];exact .inl ⟨bO.2 ⟨[],rfl⟩,rfl⟩
  refine .inr (.inl ⟨?_,bO.2 ⟨x.1,rfl⟩,rfl⟩);refine Bool.eq_false_iff.2 fun k=>?_;obtain⟨s,e⟩:=bO.1 k;exact h (List.append_eq_nil_iff.1 e.symm).1
 -- what is shown of the common tower
 have fin:∀(U eb:_) (s:List El),U=x.1++s→vf x.1 y.1 U→TG A U→ax A U eb vy βy μy→(∀z,In y.1.length y.1 z→In U.length U z)→vS U y eb→
   ∃U ea eb,ax A U ea vx βx μx∧ax A U eb vy βy μy∧(∀z,In x.1.length x.1 z→In U.length U z)∧(∀z,In y.1.length y.1 z→In U.length U z)∧
    Pr prog 102 [.one (bV [x,y])] (.aF [.one (bV [(U,ea),(U,eb)]),.one (.int .i64 0)]):=by
  intro U eb s hU st G nb iy sj;have uk:=mi S hA G;have na:ax A U (cE U.length x.2) vx βx μx:=by rw[hU]at G⊢;exact hx.pad G
  have ul:=G.kg S hA;have pl:∀{e:El},e.length=2^U.length→e.length<2^38:=fun h=>by rw[h];exact aN (by omega)
  refine⟨U,cE U.length x.2,eb,na,nb,fun z hz=>?_,iy,?_⟩
  ·rw[hU];exact((Go.Tw.j0 (Nat.le_refl _) z).2 hz).le (by rw[X6];omega)
  have cm:=rr [x,y] (by simp) (fun i=>if i=0 then[]else if i=1 then x.1 else U) rfl (fun i hi=>by
    match i,hi with
    |0,_=>exact Iu
    |1,_=>exact xk
    |2,_=>exact uk) (fun i hi=>by
    match i,hi with
    |0,_=>exact xk
    |1,_=>exact yk) (fun i hi=>by
    match i,hi with
    |0,_=>exact s0
    |1,_=>exact st)
  refine Fg [x,y] [(U,cE U.length x.2),(U,eb)] (by simp) rfl U uk (fun i hi=>by
    match i,hi with
    |0,_=>exact xk
    |1,_=>exact yk) cm fun i hi=>?_
  match i,hi with
  |0,_=>
   refine⟨rfl,pl na.len,pC S hA na sx,.inl ⟨bO.2 ⟨s,hU⟩,?_⟩⟩;refine mD (by omega) ?_ ?_
   ·show 0<x.2.length;rw[hx.len];exact Nat.two_pow_pos _
   show x.2.length≤_;rw[hx.len,hU,X6];exact Nat.pow_le_pow_right (by decide) (by omega)
  |1,_=>exact⟨rfl,pl nb.len,pC S hA nb sy,sj⟩
 have ypos:0<y.2.length:=by rw[hy.len];exact Nat.two_pow_pos _
 -- padding y
 have padY:∀(U s:List El),U=y.1++s→TG A U→ax A U (cE U.length y.2) vy βy μy∧(∀z,In y.1.length y.1 z→In U.length U z)∧vS U y (cE U.length y.2):=by
  intro U s hU G;have ul:=G.kg S hA;refine⟨by rw[hU]at G⊢;exact hy.pad G,fun z hz=>?_,.inl ⟨bO.2 ⟨s,hU⟩,mD (by omega) ypos ?_⟩⟩
  ·rw[hU];exact((Go.Tw.j0 (Nat.le_refl _) z).2 hz).le (by rw[X6];omega)
  rw[hy.len,hU,X6];exact Nat.pow_le_pow_right (by decide) (by omega)
 cases hb:fe x.1.length y.1.length x.1 y.1 with
 |true=>
  obtain⟨s,e⟩:=bO.1 hb;obtain⟨p1,p2,p3⟩:=padY x.1 s e hx.tg;exact fin x.1 _ [] (List.append_nil _).symm (.inl ⟨hb,rfl⟩) hx.tg p1 p2 p3
 |false=>
  cases Se:fe y.1.length x.1.length y.1 x.1 with
  |true=>
   obtain⟨s,e⟩:=bO.1 Se;obtain⟨p1,p2,p3⟩:=padY y.1 [] (List.append_nil _).symm hy.tg;exact fin y.1 _ s e (.inr (.inl ⟨hb,Se,rfl⟩)) hy.tg p1 p2 p3
  |false=>
   obtain⟨U,rs,s,eU,E,_,c⟩:=jP S hA hx.tg hy.tg;have st:vf x.1 y.1 U:=.inr (.inr ⟨hb,Se,rs,c⟩)
   cases Zw:fe U.length y.1.length U y.1 with
   |true=>
    obtain⟨s',e'⟩:=bO.1 Zw;obtain⟨p1,p2,p3⟩:=padY U s' e' E.tg;exact fin U _ s eU st E.tg p1 p2 p3
   |false=>
    obtain⟨U',rs',s',eU',E',Rz,c'⟩:=jP S hA E.tg hy.tg;obtain rfl:U'=U:=Rz fun j hj=>E.Da hj;obtain⟨_,_,qb,I⟩:=hy.P9 S hA h1 h2 E';have tq:=kR S hA E'.tg;have im:=kW (a:=y.2) ⟨tq,I.hB,I.hY,Go.Tw.iK,I.y,I.r,I.s⟩ (by rw[E'.len];exact Nat.le_refl _) (by omega) hy.len qb;exact fin U' _ s eU st E.tg (hy.image E') (fun z hz=>In.A6 E' (Nat.le_refl _) hz) (.inr ⟨Zw,U',rs',c',im⟩)
theorem Fu {x y:List El×El}{vx vy:R}{βx μx βy μy:Nat}(hx:ax A x.1 x.2 vx βx μx)(hy:ax A y.1 y.2 vy βy μy)(sx:Sm βx μx)(sy:Sm βy μy)(h1:βy≤jβ)(h2:μy≤jμ)
  (hm:∀h,h≤3→mS h (qN h βx μx+qN h βy μy) tB<2^38):
  ∃z:List El×El,ax A z.1 z.2 (vx*vy) (βx+βy) (μx+μy)∧Pr prog 106 [nX x,nX y] (.aF [nX z,.one (.int .i64 0)]):=by
 obtain⟨U,ea,eb,na,nb,_,_,j⟩:=Ms S hA hx hy sx sy h1 h2;have tq:=kR S hA na.tg;refine⟨(U,ai U.length U ea eb),⟨na.tg,ae,by rw[←na.val,←nb.val];exact Go.Tw.val_mul na.tg.rd.rl na.len nb.len,na.sz.mul nb.sz⟩,?_⟩;exact JP x y U ea eb _ j (gM fY tq.tk tq.q Go.Tw.iK Go.Tw.iK _ _ na.len nb.len (na.qb S hA) (nb.qb S hA) (hm _ (na.tg.kg S hA)))
end
open Go Go.Eng
open Go.Tw (El aB aJ zE ai ar aq ao ae QB mS tB val In Rd l6 TG cE bC a9 a5 Ext jL yX ax qN kV jβ jμ)
def P1 (t x t':List El):Prop:=
 (t.length<x.length∧fe x.length t.length x t=true∧t'=x)∨(¬t.length<x.length∧fe t.length x.length t x=true∧t'=t)∨
 ((t.length<x.length→fe x.length t.length x t=false)∧fe t.length x.length t x=false∧∃rs:List El,Pr prog 124 [tV t.length t,tV x.length x] (.aF [tV t'.length t',tV rs.length rs,.one (.int .i64 0)]))
def Ph (U:List El)(x:List El×El)(e:El):Prop:=
 (fe U.length x.1.length U x.1=true∧Pr prog 125 [tV U.length U,eV x.2] (eV e))∨
 (fe U.length x.1.length U x.1=false∧∃V rs:List El,Pr prog 124 [tV U.length U,tV x.1.length x.1] (.aF [tV V.length V,tV rs.length rs,.one (.int .i64 0)])∧Pr prog 126 [tV U.length U,tV rs.length rs,eV x.2] (eV e))
theorem Au (l os:List (List El×El))(hl:l.length<2^30)(VA:os.length=l.length)(tt:Nat→List El)(h0:tt 0=[])(tk:∀i,i≤l.length→Tk (tt i).length (tt i))(xk:∀i,i<l.length→Tk (l.getD i default).1.length (l.getD i default).1)
  (sc:∀i,i<l.length→P1 (tt i) (l.getD i default).1 (tt (i+1)))
  (st:∀i,i<l.length→(os.getD i default).1=tt l.length∧(os.getD i default).2.length<2^38∧Ph (tt l.length) (l.getD i default) (os.getD i default).2):
  Pr prog 85 [.one (bV l)] (.aF [.one (bV os),.one (.int .i64 0)]):=by
 have e0:(tt 0).length=0:=by rw[h0];rfl
 have uk:=tk l.length (Nat.le_refl _);have u8:=uk.le8;refine pw func85 ⟨[0,2,3,4,5,6,8,9,10,11,13,18,38,51,64,70,81],[]⟩ ?_;simp only[Tryz.f85,ntmps85,iz,seval];simp only[vx,T,seval,bV];refine Lk (fun y:{i:Nat//i≤l.length}=>⟨[(0,.one (bV l)),(2,.one .nil),(3,.one (.int .i64 0)),(4,tV (tt y.1).length (tt y.1)),(5,.one (.int .i64 y.1))],[],1,115⟩) (fun y=>l.length-y.1) ⟨0,Nat.zero_le _⟩ ?_ (fun⟨i,hi⟩=>?_)
 ·refine Sa ?_;simp only[ry,seval,rz,bV,tV,tC,e0]
 simp only;have wi:=wI i (by omega);simp only[vx,T,seval,bV,tV,tC,wi];refine⟨fun g=>Lg ?_,fun g=>Lg ?_⟩
 ·have RG:i<l.length:=by omega
  have sti:=sc i RG;have b1:=oY (tk i hi) (xk i RG);have b2:=oY (xk i RG) (tk i hi);have t8:=(tk i hi).le8;have x8:=(xk i RG).le8;obtain⟨x,hx⟩:∃x,x=l.getD i default:=⟨_,rfl⟩;rw[←hx]at sti b1 b2 x8;obtain⟨t,ht⟩:∃t,t=tt i:=⟨_,rfl⟩;rw[←ht]at sti b1 b2 t8;obtain⟨t',SO⟩:∃t',t'=tt (i+1):=⟨_,rfl⟩;rw[←SO]at sti;rw[←ht];clear uk u8 VA st;simp only[vx,T,seval,bV,fm,bw,tV,tC,←hx,wi];have mea:l.length-(i+1)<l.length-i:=by omega
  rcases sti with⟨g0,g1,e⟩|⟨g0,g1,e⟩|⟨g0,g1,rs,c⟩
  ·have b3:=oY (xk i RG) (tk i hi);rw[←hx,←ht,g1]at b3;refine⟨by omega,fun _=>Lg ?_,fun h=>absurd (by omega) h⟩;simp only[vx,T,seval,bV,fm,bw,tV,tC,←hx,wi]
   first|refine Cg b3 ?_|refine ⟨by omega,Cg b3 ?_⟩
   simp only[vx,T,seval,bV,fm,bw,tV,tC,←hx,wi]
   first|refine Lq ⟨i+1,by omega⟩ ?_ mea|refine ⟨by omega,Lq ⟨i+1,by omega⟩ ?_ mea⟩
   refine Sa ?_;simp only[ry,seval,rz,bV,tV,tC,←SO,e]
  ·rw[g1]at b1;refine⟨by omega,fun h=>absurd h (by omega),fun _=>Lg ?_⟩;simp only[vx,T,seval,bV,fm,bw,tV,tC,←hx,wi]
   first|refine Cg b1 ?_|refine ⟨by omega,Cg b1 ?_⟩
   simp only[vx,T,seval,bV,fm,bw,tV,tC,←hx,wi]
   first|refine Lq ⟨i+1,by omega⟩ ?_ mea|refine ⟨by omega,Lq ⟨i+1,by omega⟩ ?_ mea⟩
   refine Sa ?_;simp only[ry,seval,rz,bV,tV,tC,←SO,e]
  rw[g1]at b1;refine⟨by omega,fun h=>Lg ?_,fun _=>Lg ?_⟩
  ·rw[g0 (by omega)]at b2;simp only[vx,T,seval,bV,fm,bw,tV,tC,←hx,wi]
   first|refine Cg b2 ?_|refine ⟨by omega,Cg b2 ?_⟩
   simp only[vx,T,seval,bV,fm,bw,tV,tC,←hx,wi]
   first|refine Cg b1 ?_|refine ⟨by omega,Cg b1 ?_⟩
   simp only[vx,T,seval,bV,fm,bw,tV,tC,←hx,wi]
   first|refine Cg c ?_|refine ⟨by omega,Cg c ?_⟩
   simp only[vx,T,seval,bV,fm,bw,tV,tC,←hx,wi]
   first|refine Lq ⟨i+1,by omega⟩ ?_ mea|refine ⟨by omega,Lq ⟨i+1,by omega⟩ ?_ mea⟩
   refine Sa ?_;simp only[ry,seval,rz,bV,tV,tC,←SO]
  simp only[vx,T,seval,bV,fm,bw,tV,tC,←hx,wi]
  first|refine Cg b1 ?_|refine ⟨by omega,Cg b1 ?_⟩
  simp only[vx,T,seval,bV,fm,bw,tV,tC,←hx,wi]
  first|refine Cg c ?_|refine ⟨by omega,Cg c ?_⟩
  simp only[vx,T,seval,bV,fm,bw,tV,tC,←hx,wi]
  first|refine Lq ⟨i+1,by omega⟩ ?_ mea|refine ⟨by omega,Lq ⟨i+1,by omega⟩ ?_ mea⟩
  refine Sa ?_;simp only[ry,seval,rz,bV,tV,tC,←SO]
 have RG:i=l.length:=by omega
 subst RG;clear sc wi;obtain⟨U,hU⟩:∃U,U=tt l.length:=⟨_,rfl⟩;rw[←hU]at st uk u8⊢;simp only[vx,T,seval,bV,tV,tC];refine Lk (fun y:{i:Nat//i≤l.length}=>⟨[(0,.one (bV l)),(2,.one .nil),(3,.one (.int .i64 0)),(4,tV U.length U),(9,.one (.own 1 2 0 y.1)),(10,.one (.int .i64 y.1))],[(1,⟨.rows 37 2 y.1 (fm (os.take y.1)),true⟩)],2,115⟩) (fun y=>l.length-y.1) ⟨0,Nat.zero_le _⟩ ?_ (fun⟨i,hi⟩=>?_)
 ·refine Sa ?_;simp only[ry,seval,rz,bV,tV,tC]
 simp only;have wi:=wI i (by omega);simp only[vx,T,seval,bV,tV,tC,wi];refine⟨fun g=>Lg ?_,fun g=>Lg ?_⟩
 ·have RG:i<l.length:=by omega
  obtain⟨s1,s2,sj⟩:=st i RG;have b1:=oY uk (xk i RG);have RM:os.take (i+1)=os.take i++[os.getD i default]:=by rw[List.take_add_one,X7,X8 (by omega)];rfl
  have XJ:(os.take i).length=i:=by rw[X5];omega
  have sn:=sY XJ (os.getD i default);rw[←RM]at sn;obtain⟨x,hx⟩:∃x,x=l.getD i default:=⟨_,rfl⟩;rw[←hx]at sj b1;obtain⟨o,ho⟩:∃o,o=os.getD i default:=⟨_,rfl⟩;rw[←ho]at s1 s2 sj sn;rw[s1]at sn;have mea:l.length-(i+1)<l.length-i:=by omega
  rcases sj with⟨g1,c⟩|⟨g1,V,rs,c,d⟩
  ·rw[g1]at b1;simp only[vx,T,seval,bV,fm,bw,tV,tC,←hx,wi]
   first|refine Cg b1 ?_|refine ⟨by omega,Cg b1 ?_⟩
   simp only[vx,T,seval,bV,fm,bw,tV,tC,←hx,wi]
   first|refine Cg c ?_|refine ⟨by omega,Cg c ?_⟩
   simp only[vx,T,seval,bV,fm,bw,tV,tC,eV,aa,←hx,wi];refine⟨⟨by omega,by omega⟩,Lq ⟨i+1,by omega⟩ ?_ mea⟩;refine Sa ?_;simp only[ry,seval,rz,bV,tV,tC,aa];exact sn
  rw[g1]at b1;simp only[vx,T,seval,bV,fm,bw,tV,tC,←hx,wi]
  first|refine Cg b1 ?_|refine ⟨by omega,Cg b1 ?_⟩
  simp only[vx,T,seval,bV,fm,bw,tV,tC,←hx,wi]
  first|refine Cg c ?_|refine ⟨by omega,Cg c ?_⟩
  simp only[vx,T,seval,bV,fm,bw,tV,tC,eV,aa,←hx,wi]
  first|refine Cg d ?_|refine ⟨by omega,Cg d ?_⟩
  simp only[vx,T,seval,bV,fm,bw,tV,tC,eV,aa,←hx,wi];refine⟨⟨by omega,by omega⟩,Lq ⟨i+1,by omega⟩ ?_ mea⟩;refine Sa ?_;simp only[ry,seval,rz,bV,tV,tC,aa];exact sn
 have RG:i=l.length:=by omega
 subst RG;have e:os.take l.length=os:=by rw[←VA,List.take_length]
 simp only[vx,T,seval,bV,tV,tC,wi,e];rw[VA];exact fT.refl _
open Go Go.Eng
open Go.Tw (El aB aJ zE ai ar aq ao ae QB mS tB val In Rd l6 TG cE bC a9 a5 Ext jL yX ax qN kV jβ jμ)
section
variable {A:List R}(S:Go.Tw.Src 64 A)(hA:A.length≤3)
include S hA
theorem Gw {x y:List El×El}{vx vy:R}{βx μx βy μy:Nat}(hx:ax A x.1 x.2 vx βx μx)(hy:ax A y.1 y.2 vy βy μy)(sx:Sm βx μx)(sy:Sm βy μy)(h1:βy≤jβ)(h2:μy≤jμ):
  ∃U ea eb,ax A U ea vx βx μx∧ax A U eb vy βy μy∧(∀z,In x.1.length x.1 z→In U.length U z)∧(∀z,In y.1.length y.1 z→In U.length U z)∧
   Pr prog 85 [.one (bV [x,y])] (.aF [.one (bV [(U,ea),(U,eb)]),.one (.int .i64 0)]):=by
 have xk:=mi S hA hx.tg;have yk:=mi S hA hy.tg;have x3:=hx.tg.kg S hA;have y3:=hy.tg.kg S hA;have s0:P1 [] x.1 x.1:=by
  by_cases h:x.1=[]
  ·rw[h];exact .inr (.inl ⟨Nat.lt_irrefl _,bO.2 ⟨[],rfl⟩,rfl⟩)
  exact .inl ⟨List.length_pos_iff.2 h,bO.2 ⟨x.1,rfl⟩,rfl⟩
 -- what is shown of the common tower
 have fin:∀(U eb:_) (s:List El),U=x.1++s→P1 x.1 y.1 U→TG A U→ax A U eb vy βy μy→(∀z,In y.1.length y.1 z→In U.length U z)→Ph U y eb→
   ∃U ea eb,ax A U ea vx βx μx∧ax A U eb vy βy μy∧(∀z,In x.1.length x.1 z→In U.length U z)∧(∀z,In y.1.length y.1 z→In U.length U z)∧
    Pr prog 85 [.one (bV [x,y])] (.aF [.one (bV [(U,ea),(U,eb)]),.one (.int .i64 0)]):=by
  intro U eb s hU st G nb iy sj;have uk:=mi S hA G;have na:ax A U (cE U.length x.2) vx βx μx:=by rw[hU]at G⊢;exact hx.pad G
  have ul:=G.kg S hA;have pl:∀{e:El},e.length=2^U.length→e.length<2^38:=fun h=>by rw[h];exact aN (by omega)
  refine⟨U,cE U.length x.2,eb,na,nb,fun z hz=>?_,iy,?_⟩
  ·rw[hU];exact((Go.Tw.j0 (Nat.le_refl _) z).2 hz).le (by rw[X6];omega)
  refine Au [x,y] [(U,cE U.length x.2),(U,eb)] (by simp) rfl (fun i=>if i=0 then[]else if i=1 then x.1 else U) rfl (fun i hi=>by
    match i,hi with
    |0,_=>exact Iu
    |1,_=>exact xk
    |2,_=>exact uk) (fun i hi=>by
    match i,hi with
    |0,_=>exact xk
    |1,_=>exact yk) (fun i hi=>by
    match i,hi with
    |0,_=>exact s0
    |1,_=>exact st) fun i hi=>?_
  have l0:Ph U x (cE U.length x.2):=.inl ⟨bO.2 ⟨s,hU⟩,x9 (by omega) (by
   show x.2.length≤_;rw[hx.len,hU,X6];exact Nat.pow_le_pow_right (by decide) (by omega))⟩
  show _=U∧_∧Ph U _ _
  match i,hi with
  |0,_=>exact⟨rfl,pl na.len,l0⟩
  |1,_=>exact⟨rfl,pl nb.len,sj⟩
 -- padding y
 have padY:∀(U s:List El),U=y.1++s→TG A U→ax A U (cE U.length y.2) vy βy μy∧(∀z,In y.1.length y.1 z→In U.length U z)∧Ph U y (cE U.length y.2):=by
  intro U s hU G;have ul:=G.kg S hA;refine⟨by rw[hU]at G⊢;exact hy.pad G,fun z hz=>?_,.inl ⟨bO.2 ⟨s,hU⟩,x9 (by omega) ?_⟩⟩
  ·rw[hU];exact((Go.Tw.j0 (Nat.le_refl _) z).2 hz).le (by rw[X6];omega)
  rw[hy.len,hU,X6];exact Nat.pow_le_pow_right (by decide) (by omega)
 have bl:∀{t u:List El},fe t.length u.length t u=true→u.length≤t.length:=fun h=>by
  obtain⟨s,e⟩:=bO.1 h;rw[e,X6];omega
 cases hb:fe x.1.length y.1.length x.1 y.1 with
 |true=>
  obtain⟨s,e⟩:=bO.1 hb
  have:=bl hb
  obtain⟨p1,p2,p3⟩:=padY x.1 s e hx.tg;exact fin x.1 _ [] (List.append_nil _).symm (.inr (.inl ⟨by omega,hb,rfl⟩)) hx.tg p1 p2 p3
 |false=>
  cases Se:fe y.1.length x.1.length y.1 x.1 with
  |true=>
   obtain⟨s,e⟩:=bO.1 Se;have h1:=bl Se;have Ru:x.1.length<y.1.length:=by
    refine Nat.lt_of_le_of_ne h1 fun h=>?_;have l:=congrArg List.length e;rw[X6]at l;have s0:s=[]:=List.length_eq_zero_iff.1 (by omega);rw[s0,List.append_nil]at e;rw[bO.2 ⟨[],by rw[List.append_nil];exact e.symm⟩]at hb
    cases hb
   obtain⟨p1,p2,p3⟩:=padY y.1 [] (List.append_nil _).symm hy.tg;exact fin y.1 _ s e (.inl ⟨Ru,Se,rfl⟩) hy.tg p1 p2 p3
  |false=>
   obtain⟨U,rs,s,eU,E,_,c⟩:=yR S hA hx.tg hy.tg;have st:P1 x.1 y.1 U:=.inr (.inr ⟨fun _=>Se,hb,rs,c⟩)
   cases Zw:fe U.length y.1.length U y.1 with
   |true=>
    obtain⟨s',e'⟩:=bO.1 Zw;obtain⟨p1,p2,p3⟩:=padY U s' e' E.tg;exact fin U _ s eU st E.tg p1 p2 p3
   |false=>
    obtain⟨U',rs',s',eU',E',Rz,c'⟩:=yR S hA E.tg hy.tg;obtain rfl:U'=U:=Rz fun j hj=>E.Da hj;obtain⟨_,_,qb,I⟩:=hy.P9 S hA h1 h2 E';have tq:=kR S hA E'.tg;have y3':=hy.tg.kg S hA;have im:=xC (a:=y.2) rfl ⟨tq,I.hB,I.hY,Go.Tw.iK,I.y,I.r,I.s⟩ (by rw[E'.len];exact Nat.le_refl _) (by omega) hy.len qb;exact fin U' _ s eU st E.tg (hy.image E') (fun z hz=>In.A6 E' (Nat.le_refl _) hz) (.inr ⟨Zw,U',rs',c',im⟩)
end
open Go Go.Eng
open Go.Tw (El aB aJ zE ai ar aq ao ae QB mS tB val In Rd l6 TG cE bC a9 a5 Ext jL yX ax qN kV jβ jμ)
theorem MB (x y:List El×El)(U:List El)(ea eb:El)(hj:Pr prog 85 [.one (bV [x,y])] (.aF [.one (bV [(U,ea),(U,eb)]),.one (.int .i64 0)])):
  Pr prog 50 [nX x,nX y] (.aF [nX (U,ea),nX (U,eb),.one (.int .i64 0)]):=by
 have hj:=hj.Ml (IZ x y);refine pw func50 ⟨[0,1,2,3,4,5,6,7,8,17],[(4,(.cons 6 [3,4,5] (.cons 7 [] (.cons 8 [] .nil .nil) .nil) .nil))]⟩ ?_;simp only[Tryz.f50,ntmps50,iz,seval];simp only[vx,T,seval,nX,nV,tC,eV,aa];refine Cg hj ?_;simp only[vx,T,seval,bV,fm,bw,tC,aa,X0,X1];exact Ve rfl
theorem Ii (x y:List El×El)(U:List El)(ea eb ec:El)(hj:Pr prog 85 [.one (bV [x,y])] (.aF [.one (bV [(U,ea),(U,eb)]),.one (.int .i64 0)]))
  (hf:Pr prog 57 [tV U.length U,eV ea,eV eb] (eV ec)):Pr prog 30 [nX x,nX y] (.aF [nX (U,ec),.one (.int .i64 0)]):=by
 have c:=MB x y U ea eb hj;refine pw func30 ⟨[0,1,2,3,4,5,6,15],[]⟩ ?_;simp only[Tryz.f30,ntmps30,iz,seval];simp only[vx,T,seval,nX,nV,tC,eV,aa];refine Cg c ?_;simp only[vx,T,seval,nX,nV,tV,tC,eV,aa];refine Cg hf ?_;simp only[vx,T,seval,nX,nV,tV,tC,eV,aa];exact Ve rfl
theorem He (x y:List El×El)(U:List El)(ea eb ec:El)(hj:Pr prog 85 [.one (bV [x,y])] (.aF [.one (bV [(U,ea),(U,eb)]),.one (.int .i64 0)]))
  (hf:Pr prog 51 [tV U.length U,eV ea,eV eb] (eV ec)):Pr prog 20 [nX x,nX y] (.aF [nX (U,ec),.one (.int .i64 0)]):=by
 have c:=MB x y U ea eb hj;refine pw func20 ⟨[0,1,2,3,4,5,6,15],[]⟩ ?_;simp only[Tryz.f20,ntmps20,iz,seval];simp only[vx,T,seval,nX,nV,tC,eV,aa];refine Cg c ?_;simp only[vx,T,seval,nX,nV,tV,tC,eV,aa];refine Cg hf ?_;simp only[vx,T,seval,nX,nV,tV,tC,eV,aa];exact Ve rfl
theorem GJ (x:List El×El)(ec:El)(hf:Pr prog 60 [tV x.1.length x.1,eV x.2] (eV ec)):Pr prog 34 [nX x] (nX (x.1,ec)):=by
 refine pw func34 ⟨[0,1,2],[]⟩ ?_;simp only[Tryz.f34,ntmps34,iz,seval];simp only[vx,T,seval,nX,nV,tC,eV,aa];refine Cg hf ?_;simp only[vx,T,seval,nX,nV,tV,tC,eV,aa];exact Ve rfl
theorem GS (x y n z:List El×El)(hn:Pr prog 34 [nX y] (nX n))(ha:Pr prog 30 [nX x,nX n] (.aF [nX z,.one (.int .i64 0)])):
  Pr prog 13 [nX x,nX y] (.aF [nX z,.one (.int .i64 0)]):=by
 refine pw func13 ⟨[0,1,2,3,4,5],[]⟩ ?_;simp only[Tryz.f13,ntmps13,iz,seval];simp only[vx,T,seval,nX,nV,tC,eV,aa];refine Cg hn ?_;simp only[vx,T,seval,nX,nV,tV,tC,eV,aa];refine Cg ha ?_;simp only[vx,T,seval,nX,nV,tV,tC,eV,aa];exact Ve rfl
section
variable {A:List R}(S:Go.Tw.Src 64 A)(hA:A.length≤3)
include S hA
theorem ox {x y:List El×El}{vx vy:R}{βx μx βy μy:Nat}(hx:ax A x.1 x.2 vx βx μx)(hy:ax A y.1 y.2 vy βy μy)(sx:Sm βx μx)(sy:Sm βy μy)(h1:βy≤jβ)(h2:μy≤jμ):
  ∃z:List El×El,ax A z.1 z.2 (vx+vy) (βx+βy+1) (μx+μy)∧Pr prog 30 [nX x,nX y] (.aF [nX z,.one (.int .i64 0)]):=by
 obtain⟨U,ea,eb,na,nb,_,_,j⟩:=Gw S hA hx hy sx sy h1 h2;refine⟨(U,aB ea eb),⟨na.tg,ao na.len nb.len,by rw[←na.val,←nb.val];exact Go.Tw.val_add na.len nb.len,na.sz.add nb.sz⟩,?_⟩;have u3:=na.tg.kg S hA;have p8:2^U.length≤2^3:=Nat.pow_le_pow_right (by decide) u3;exact Ii x y U ea eb _ j (s9 ea eb (by rw[na.len];omega) (by rw[nb.len,na.len]) (pC S hA na sx) (pC S hA nb sy)).rows
theorem oN {x y:List El×El}{vx vy:R}{βx μx βy μy:Nat}(hx:ax A x.1 x.2 vx βx μx)(hy:ax A y.1 y.2 vy βy μy)(sx:Sm βx μx)(sy:Sm βy μy)(h1:βy≤jβ)(h2:μy≤jμ)
  (hm:∀h,h≤3→mS h (qN h βx μx+qN h βy μy) tB<2^38):
  ∃z:List El×El,ax A z.1 z.2 (vx*vy) (βx+βy) (μx+μy)∧Pr prog 20 [nX x,nX y] (.aF [nX z,.one (.int .i64 0)]):=by
 obtain⟨U,ea,eb,na,nb,_,_,j⟩:=Gw S hA hx hy sx sy h1 h2;have tq:=kR S hA na.tg;refine⟨(U,ai U.length U ea eb),⟨na.tg,ae,by rw[←na.val,←nb.val];exact Go.Tw.val_mul na.tg.rd.rl na.len nb.len,na.sz.mul nb.sz⟩,?_⟩;exact He x y U ea eb _ j (fU fY tq.tk tq.q Go.Tw.iK Go.Tw.iK na.len nb.len (na.qb S hA) (nb.qb S hA) (hm _ (na.tg.kg S hA))).rows
theorem ub {x:List El×El}{vx:R}{βx μx:Nat}(hx:ax A x.1 x.2 vx βx μx)(sx:Sm βx μx):Pr prog 34 [nX x] (nX (x.1,aJ x.2)):=by
 have u3:=hx.tg.kg S hA;have p8:2^x.1.length≤2^3:=Nat.pow_le_pow_right (by decide) u3;exact GJ x _ (zd x.2 (by rw[hx.len];omega) (pC S hA hx sx)).rows
end
end Go.Proofs.YthnkehdgnagmnaaGreat
namespace Go.Tw
open Go Go.Eng
theorem ax.neg {A:List R}{t:List El}{a:El}{x:R}{β μ:Nat}(h:ax A t a x β μ):ax A t (aJ a) (-x) β μ:=
 ⟨h.tg,by rw[aq,h.len],by rw[←h.val];exact Go.Tw.val_neg h.len,h.sz.neg⟩
end Go.Tw
namespace Go.Proofs.YthnkehdgnagmnaaGreat
open Go.Proofs.Tryz
open Go Go.Eng
open Go.Tw (El aB aJ zE ai ar aq ao ae QB mS tB val In Rd l6 TG cE bC a9 a5 Ext jL yX ax qN kV jβ jμ gT bo)
theorem Bb {X:Nat}(Rw:1≤X)(hX:X≤2^30){x:List El×El}(W:TQ x.1.length x.1)(ha:x.2.length=2^x.1.length)(hs:gT X x.1.length x.1 x.2):
  Pr prog 33 [nX x] (.one (.int .i64 (bo x.1.length x.1 x.2))):=by
 have c:=Nk Rw hX W ha hs;refine pw func33 ⟨[0,1,2],[]⟩ ?_;simp only[Tryz.f33,ntmps33,iz,seval];simp only[vx,T,seval,nX,nV,tC,eV,aa];refine Cg c ?_;simp only[vx,T,seval,nX,nV,tV,tC,eV,aa];exact Ve rfl
section
variable {A:List R}(S:Go.Tw.Src 64 A)(hA:A.length≤3)
include S hA
theorem tN {x y:List El×El}{vx vy:R}{βx μx βy μy:Nat}(hx:ax A x.1 x.2 vx βx μx)(hy:ax A y.1 y.2 vy βy μy)(sx:Sm βx μx)(sy:Sm βy μy)(h1:βy≤jβ)(h2:μy≤jμ):
  ∃z:List El×El,ax A z.1 z.2 (vx+ -vy) (βx+βy+1) (μx+μy)∧Pr prog 13 [nX x,nX y] (.aF [nX z,.one (.int .i64 0)]):=by
 obtain⟨z,nz,c⟩:=ox S hA hx (x:=x) (y:=(y.1,aJ y.2)) hy.neg sx sy h1 h2;exact⟨z,nz,GS x y _ z (ub S hA hy sy) c⟩
end
open Go Go.Eng
open Go.Tw (El)
theorem qK (q:Rat)(t:List El):Pr prog 21 [QV q] (nV 0 t [q]):=by
 refine pw func21 ⟨[0,1,2],[]⟩ ?_;simp only[Tryz.f21,ntmps21,iz,seval];simp only[vx,T,seval,QV,QC];refine fT.Pu (.pM _ _) (.rows rfl fun i j hi hj=>.of_eq ?_);obtain rfl:i=0:=by omega
 show List.getD _ (0*4+j) _=_;rw[Nat.zero_mul,Nat.zero_add];exact dx q rfl j
theorem kQ (z:Int)(h1: -9223372036854775808≤z)(h2:z≤9223372036854775807):Pr prog 19 [.one (.int .i64 z)] (nX ([],[Rat.ofInt z])):=by
 have c:=bc z h1 h2;have d:=qK (Rat.ofInt z) [];refine pw func19 ⟨[0,2],[]⟩ ?_;simp only[Tryz.f19,ntmps19,iz,seval];simp only[vx,T,seval];refine Cg c ?_;simp only[vx,T,seval,QV,QC];refine Cg d ?_;simp only[vx,T,seval,nX,nV,tC,aa];exact Ve rfl
open Go Go.Eng
open Go.Tw (El)
theorem Hu (x y z:List El×El)(s:Int)(hs:Pr prog 13 [nX x,nX y] (.aF [nX z,.one (.int .i64 0)]))(hg:Pr prog 33 [nX z] (.one (.int .i64 s))):
  Pr prog 95 [nX x,nX y] (.aF [.one (.int .i64 s),.one (.int .i64 0)]):=by
 refine pw func95 ⟨[0,1,2,3,4,5,6,7,15],[]⟩ ?_;simp only[Tryz.f95,ntmps95,iz,seval];simp only[vx,T,seval,nX,nV,tC,eV,aa];refine Cg hs ?_;simp only[vx,T,seval,nX,nV,tV,tC,eV,aa];refine Cg hg ?_;simp only[vx,T,seval,nX,nV,tV,tC,eV,aa];exact Ve rfl
theorem BA (x y:List El×El)(s:Int)(hc:Pr prog 95 [nX x,nX y] (.aF [.one (.int .i64 s),.one (.int .i64 0)])):
  Pr prog 55 [nX x,nX y] (.one (.bool (decide (s=0)))):=by
 refine pw func55 ⟨[0,1,2,3,4,5,6],[]⟩ ?_;simp only[Tryz.f55,ntmps55,iz,seval];simp only[vx,T,seval,nX,nV,tC,eV,aa];refine Cg hc ?_;simp only[vx,T,seval,nX,nV,tV,tC,eV,aa];exact Ve rfl
theorem qu (x:List El×El)(U:List El)(w:El)(ha:Pr prog 48 [tV x.1.length x.1,eV x.2] (.aF [tV U.length U,eV w,.one (.int .i64 0)])):
  Pr prog 18 [nX x] (.aF [nX (U,w),.one (.int .i64 0)]):=by
 refine pw func18 ⟨[0,1,2,3,4,5,6,17],[]⟩ ?_;simp only[Tryz.f18,ntmps18,iz,seval];simp only[vx,T,seval,nX,nV,tC,eV,aa];refine Cg ha ?_;simp only[vx,T,seval,nX,nV,tV,tC,eV,aa];exact Ve rfl
theorem zj (x y z:List El×El)(v:El)(hi:Pr prog 58 [tV y.1.length y.1,eV y.2] (.aF [eV v,.one (.int .i64 0)]))(hm:Pr prog 20 [nX x,nX (y.1,v)] (.aF [nX z,.one (.int .i64 0)])):
  Pr prog 32 [nX x,nX y] (.aF [nX z,.one (.int .i64 0)]):=by
 refine pw func32 ⟨[0,1,2,3,4,5,6,7,17],[]⟩ ?_;simp only[Tryz.f32,ntmps32,iz,seval];simp only[vx,T,seval,nX,nV,tC,eV,aa];refine Cg hi ?_;simp only[vx,T,seval,nX,nV,tV,tC,eV,aa];refine Cg hm ?_;simp only[vx,T,seval,nX,nV,tV,tC,eV,aa];exact Ve rfl
open Go Go.Eng
open Go.Tw (El)
theorem OE (n:Int)(d:Nat)(hn: -9223372036854775808≤n∧n≤9223372036854775807)(hd:d≤9223372036854775807)(h0:0<d)(k1:zn n<2^39)(k2:nl d<2^39):
  Pr prog 29 [.one (.int .i64 n),.one (.int .i64 d)] (nX ([],[mkRat n d])):=by
 have c:=om n d hn hd h0 k1 k2;have e:=qK (mkRat n d) [];refine pw func29 ⟨[0,1,4],[]⟩ ?_;simp only[Tryz.f29,ntmps29,iz,seval];simp only[vx,T,seval];refine Cg c ?_;simp only[vx,T,seval,QV,QC];refine Cg e ?_;simp only[vx,T,seval,nX,nV,tC,aa];exact Ve rfl
open Go Go.Eng
open Go.Tw (El)
structure Bx where
 k:Nat
 a:Nat
 b:Nat
 n:Int
 d:Nat
instance:Inhabited Bx:=⟨⟨0,0,0,0,0⟩⟩
structure Bx.Ok (o:Bx):Prop where
 k:o.k<256
 a:o.a<256
 b:o.b<256
 n: -128≤o.n∧o.n≤127
 d:o.d<256
def oC (o:Bx):Nat→C
 |0=>.int .u8 o.k
 |1=>.int .u8 o.a
 |2=>.int .u8 o.b
 |3=>.int .i8 o.n
 |4=>.int .u8 o.d
 |_=>.any
def qj (r:List Bx):V:=.one (.rows 5 r.length (fun i=>oC (r.getD i default)))
def BO (k q q':Nat)(a b x:List El×El):Prop:=
 (k=1∧q'=q∧Pr prog 30 [nX a,nX b] (.aF [nX x,.one (.int .i64 0)]))∨
 (k=2∧q'=q∧Pr prog 13 [nX a,nX b] (.aF [nX x,.one (.int .i64 0)]))∨
 (k=3∧q'=q∧Pr prog 20 [nX a,nX b] (.aF [nX x,.one (.int .i64 0)]))∨
 (k=4∧q'=q∧Pr prog 32 [nX a,nX b] (.aF [nX x,.one (.int .i64 0)]))∨
 (k=4∧q'=q∧x=a∧Pr prog 32 [nX a,nX b] (.aF [.agg [.nil,.nil],.one (.int .i64 6)]))∨
 (k=5∧∃s c,Pr prog 33 [nX a] (.one (.int .i64 s))∧((s<0∧Pr prog 34 [nX a] (nX c))∨(¬s<0∧c=a))∧
  ((q<3∧q'=q+1∧Pr prog 18 [nX c] (.aF [nX x,.one (.int .i64 0)]))∨(¬q<3∧q'=q∧x=a)))
def BS (o:Bx)(q:Nat)(l:List (List El×El))(q':Nat)(l':List (List El×El)):Prop:=
 ∃f x y z,Pr prog 29 [.one (.int .i64 o.n),.one (.int .i64 (o.d%8+1:Nat))] (nX f)∧
  (((l=[]∨o.k%6=0)∧q'=q∧x=f)∨(l≠[]∧BO (o.k%6) q q' (l.getD (o.a%l.length) default) (l.getD (o.b%l.length) default) x))∧
  ((l=[]∧y=x)∨(l≠[]∧Pr prog 35 [nX x] (.one (.bool false))∧y=x)∨(l≠[]∧Pr prog 35 [nX x] (.one (.bool true))∧y=l.getD (l.length-1) default))∧
  Pr prog 36 [nX y] (nX z)∧l'=l++[z]
theorem ye (r:List Bx)(hr:∀o∈r,o.Ok)(Vi:r.length<2^63)(ro:Nat→Nat)(l:Nat→List (List El×El))(h0:ro 0=0)(l0:l 0=[])(hll:∀i,i≤24→i≤r.length→(l i).length=i∧ro i≤3)
  (st:∀i,i<24→i<r.length→BS (r.getD i default) (ro i) (l i) (ro (i+1)) (l (i+1))):Pr prog 7 [qj r] (.one (bV (l (min r.length 24)))):=by
 obtain⟨N,hN⟩:∃N,N=min r.length 24:=⟨_,rfl⟩;rw[←hN];have l0':(l 0).length=0:=by rw[l0];rfl
 refine pw func7 ⟨[0,2,3,4,5,6,7,8,9,10,11,12,13,14,15,16,17,18,19,27,51,73,76,80,92,104,116,128,146],[(9,(.cons 20 [9,10,11,12,13,14,15,16,17] (.cons 21 [] .nil .nil) .nil))]⟩ ?_;simp only[Tryz.f7,ntmps7,iz,seval];simp only[vx,T,seval,qj];refine Lk (fun y:{i:Nat//i≤24∧i≤r.length}=>⟨[(0,qj r),(2,.one .nil),(3,.one (.own 1 2 0 (l y.1).length)),(4,.one (.int .i64 (ro y.1))),(5,.one (.int .i64 y.1))],[(1,⟨.rows 37 2 (l y.1).length (fm (l y.1)),true⟩)],2,159⟩) (fun y=>24-y.1) ⟨0,by omega,by omega⟩ ?_ (fun⟨i,hi,TD⟩=>?_)
 ·refine Sa ?_;simp only[ry,seval,rz,qj,l0',h0]
 simp only;have wi:=wI i (by omega);simp only[vx,T,seval,qj];refine⟨fun g=>Lg ?_,fun g=>Lg ?_⟩
 ·simp only[vx,T,seval,qj];refine⟨fun g2=>Lg ?_,fun g2=>Lg ?_⟩
  ·have RG:i<r.length:=by omega
   have ok:(r.getD i default).Ok:=hr _ (by rw[X7,X8 RG];exact List.getElem_mem _);obtain⟨f,x,y,z,cf,hx,hy,ct,SC⟩:=st i (by omega) RG;obtain⟨SN,hq⟩:=hll i hi TD;have hq':=(hll (i+1) (by omega) RG).2;obtain⟨o,ho⟩:∃o,o=r.getD i default:=⟨_,rfl⟩;rw[←ho]at ok cf hx;obtain⟨L,hL⟩:∃L,L=l i:=⟨_,rfl⟩;rw[←hL]at hx hy SC SN;obtain⟨L',Z6⟩:∃L',L'=l (i+1):=⟨_,rfl⟩;rw[←Z6]at SC;obtain⟨q,hqe⟩:∃q,q=ro i:=⟨_,rfl⟩;rw[←hqe]at hx hq;obtain⟨q',WG⟩:∃q',q'=ro (i+1):=⟨_,rfl⟩;rw[←WG]at hx hq';rw[←hL,←hqe];obtain⟨k1,k2,k3,k4,k5⟩:=ok;have o1:(o.d:Int).tmod 8=((o.d%8:Nat):Int):=rfl;have w1:IntKind.i64.wrap o.n=o.n:=IntWalk.i64_in _ (by omega);have w2:IntKind.i64.wrap ((o.d%8:Nat):Int)=((o.d%8:Nat):Int):=IntWalk.i64_in _ (by omega);have w3:IntKind.i64.wrap (((o.d%8:Nat):Int)+1)=((o.d%8+1:Nat):Int):=by rw[IntWalk.i64_in _ (by omega)];omega
   have w4:IntKind.i64.wrap (o.a:Int)=o.a:=IntWalk.i64_in _ (by omega);have w5:IntKind.i64.wrap (o.b:Int)=o.b:=IntWalk.i64_in _ (by omega);have w6:IntKind.i64.wrap ((i:Int)-1)=(i:Int)-1:=IntWalk.i64_in _ (by omega);have o3:(o.a:Int).tmod (i:Int)=((o.a%i:Nat):Int):=rfl;have o4:(o.b:Int).tmod (i:Int)=((o.b%i:Nat):Int):=rfl;have o2:(o.k:Int).tmod 6=((o.k%6:Nat):Int):=rfl;clear st hr hll h0 l0 l0' hi TD;simp only[vx,T,seval,qj,←ho,oC,o1,o2];refine⟨by omega,?_⟩;simp only[w1,w2,w3];refine Cg cf ?_
   by_cases RE:L=[]
   ·obtain⟨rfl,rfl⟩:q'=q∧x=f:=by
     rcases hx with⟨_,h⟩|⟨h,_⟩
     ·exact h
     exact absurd RE h
    obtain rfl:y=x:=by
     rcases hy with⟨_,h⟩|⟨h,_⟩|⟨h,_⟩
     ·exact h
     ·exact absurd RE h
     exact absurd RE h
    subst RE;obtain rfl:i=0:=SN.symm;simp only[vx,T,seval,nX,nV,tC,aa,o2];refine Cg ct ?_;simp only[vx,T,seval,nX,nV,tC,aa,wi];refine Lq ⟨1,by omega,RG⟩ ?_ (by show 24-1<24-0;omega);have SW:L'=[z]:=SC;refine Sa ?_;simp only[ry,seval,rz,qj,←Z6,SW,←WG,List.length_cons,List.length_nil];exact⟨rfl,sY (ks:=[]) rfl z⟩
   have ip:0<i:=by rw[←SN];exact List.length_pos_iff.2 RE
   obtain⟨b,cl,hyb⟩:∃b:Bool,Pr prog 35 [nX x] (.one (.bool b))∧((b=false∧y=x)∨(b=true∧y=L.getD (i-1) default)):=by
    rcases hy with⟨h,_⟩|⟨_,h1,h2⟩|⟨_,h1,h2⟩
    ·exact absurd h RE
    ·exact⟨false,h1,.inl ⟨rfl,h2⟩⟩
    exact⟨true,h1,.inr ⟨rfl,by rw[h2,SN]⟩⟩
   clear hy;rw[SN]at hx;have ia:o.a%i<i:=Nat.mod_lt _ ip;have ib:o.b%i<i:=Nat.mod_lt _ ip;obtain⟨a,V5⟩:∃a,a=L.getD (o.a%i) default:=⟨_,rfl⟩;obtain⟨c,Vc⟩:∃c,c=L.getD (o.b%i) default:=⟨_,rfl⟩;rw[←V5,←Vc]at hx;have w7:((i:Int)-1).toNat=i-1:=by omega
   have w8:=wI q (by omega)
   rcases hx with⟨hx,rfl,rfl⟩|⟨_,hbo⟩
   have hk:=hx.resolve_left RE;simp only[vx,T,seval,nX,nV,tC,aa,o2,hk,SN,w4,w5,o3,o4,fm,←V5,←Vc,bw];refine⟨fun _=>Lg ?_,fun h=>absurd (by omega) h⟩;simp only[vx,T,seval,nX,nV,tC,aa,o2,hk,SN,w4,w5,o3,o4,fm,←V5,←Vc,bw]
   rotate_left
   rcases hbo with⟨hk,rfl,c1⟩|⟨hk,rfl,c1⟩|⟨hk,rfl,c1⟩|⟨hk,rfl,c1⟩|⟨hk,rfl,rfl,c1⟩|⟨hk,s,d,c1,c2,c3⟩
   iterate 6 (simp only[vx,T,seval,nX,nV,tC,aa,o2,hk,SN,w4,w5,o3,o4,fm,←V5,←Vc,bw];refine⟨fun _=>Lg ?_,fun h=>absurd (by omega) h⟩;simp only[vx,T,seval,nX,nV,tC,aa,o2,hk,SN,w4,w5,o3,o4,fm,←V5,←Vc,bw];refine⟨by omega,by omega,by omega,by omega,by omega,Cg c1 ?_⟩;simp only[vx,T,seval,nX,nV,tC,aa,o2,hk,SN,w4,w5,o3,o4,fm,←V5,←Vc,bw];rotate_left)
   rotate_left
   iterate 4 (refine Cg (vU x a) ?_;simp only[vx,T,seval,nX,nV,tC,aa,o2,hk,SN,w4,w5,o3,o4,fm,←V5,←Vc,bw];rotate_left)
   refine Cg (AU x) ?_;simp only[vx,T,seval,nX,nV,tC,aa,o2,hk,SN,w4,w5,o3,o4,fm,←V5,←Vc,bw]
   rotate_left
   rcases c2 with⟨g3,c2⟩|⟨g3,rfl⟩
   refine⟨fun _=>Lg ?_,fun h=>absurd g3 h⟩;simp only[vx,T,seval,nX,nV,tC,aa,o2,hk,SN,w4,w5,o3,o4,fm,←V5,←Vc,bw];refine Cg c2 ?_;simp only[vx,T,seval,nX,nV,tC,aa,o2,hk,SN,w4,w5,o3,o4,fm,←V5,←Vc,bw]
   rotate_left
   refine⟨fun h=>absurd h g3,fun _=>Lg ?_⟩;simp only[vx,T,seval,nX,nV,tC,aa,o2,hk,SN,w4,w5,o3,o4,fm,←V5,←Vc,bw]
   rotate_right
   iterate 2 (
    rcases c3 with⟨g4,rfl,c3⟩|⟨g4,rfl,rfl⟩
    refine⟨fun _=>Lg ?_,fun h=>absurd (by omega) h⟩;simp only[vx,T,seval,nX,nV,tC,aa,w8];refine Cg c3 ?_;simp only[vx,T,seval,nX,nV,tC,aa,w8];refine Cg (vU x d) ?_;simp only[vx,T,seval,nX,nV,tC,aa,w8,SN]
    rotate_left
    refine⟨fun h=>absurd h (by omega),fun _=>Lg ?_⟩;simp only[vx,T,seval,nX,nV,tC,aa,w8,SN]
    rotate_left)
   all_goals
    refine⟨fun _=>Lg ?_,fun h=>absurd (by omega) h⟩;simp only[vx,T,seval,nX,nV,tC,aa];refine Cg cl ?_;simp only[vx,T,seval,nX,nV,tC,aa]
    rcases hyb with⟨rfl,rfl⟩|⟨rfl,Zi⟩
    ·simp only[vx,T,seval,nX,nV,tC,aa];refine Cg ct ?_;simp only[vx,T,seval,nX,nV,tC,aa,wi,SN];refine⟨by omega,Lq ⟨i+1,by omega,RG⟩ ?_ (by show 24-(i+1)<24-i;omega)⟩;refine Sa ?_;simp only[ry,seval,rz,qj,←Z6,SC,←WG,X6,List.length_cons,List.length_nil,SN];exact sY SN z
    simp only[vx,T,seval,nX,nV,tC,aa,SN,w6,w7,fm,←Zi,bw];refine⟨by omega,?_⟩;refine Cg ct ?_;simp only[vx,T,seval,nX,nV,tC,aa,wi,SN];refine⟨by omega,Lq ⟨i+1,by omega,RG⟩ ?_ (by show 24-(i+1)<24-i;omega)⟩;refine Sa ?_;simp only[ry,seval,rz,qj,←Z6,SC,←WG,X6,List.length_cons,List.length_nil,SN];exact sY SN z
  obtain rfl:i=N:=by omega
  simp only[vx,T,seval,qj];exact Ve rfl
 obtain rfl:i=N:=by omega
 simp only[vx,T,seval,qj];exact Ve rfl
open Go Go.Eng
open Go.Tw (El ax qN jβ jμ bo)
section
variable {A:List R}(S:Go.Tw.Src 64 A)(hA:A.length≤3)
include S hA
end
open Go Go.Eng
open Go.Tw (El ax qN jβ jμ bo cB TG iL QB kV val dI In mS tB aJ)
theorem EX (x y:List El×El)(hi:Pr prog 58 [tV y.1.length y.1,eV y.2] (.aF [.one .nil,.one (.int .i64 6)])):
  Pr prog 32 [nX x,nX y] (.aF [.agg [.nil,.nil],.one (.int .i64 6)]):=by
 refine pw func32 ⟨[0,1,2,3,4,5,6,7,17],[]⟩ ?_;simp only[Tryz.f32,ntmps32,iz,seval];simp only[vx,T,seval,nX,nV,tC,eV,aa];refine Cg hi ?_;simp only[vx,T,seval,nX,nV,tV,tC,eV,aa];exact Ve rfl
theorem DO {a:El}(h:∀i,i<a.length→¬nc 2 (a.getD i default)):iL 64 a:=by
 have:QB 2 a:=fun c hc=>by
  obtain⟨i,hi,rfl⟩:=List.mem_iff_getElem.1 hc
  have:=h i hi
  rw[X7,X8 hi,Option.getD_some]at this;unfold nc at this;unfold qm;omega
 exact this.bits
theorem IH {A:List R}{x:List El×El}{v:R}{β μ:Nat}(h:ax A x.1 x.2 v β μ)(hl:¬PQ 2 x):cB A 64 x.1 x.2 v:=
 ⟨h.tg,h.len,h.val,DO fun i hi hq=>hl (.inl ⟨i,hi,hq⟩),fun j hj=>DO fun i hi hq=>hl (.inr ⟨j,hj,i,hi,hq⟩)⟩
theorem oD {A:List R}{n:Int}{d:Nat}(hn: -128≤n∧n≤127)(h0:0<d)(hd:d≤8):cB A 64 [] [mkRat n d] (R.q (mkRat n d)):=by
 refine⟨⟨⟨fun i hi=>absurd hi (Nat.not_lt_zero _),fun i hi=>absurd hi (Nat.not_lt_zero _)⟩,fun i hi=>absurd hi (Nat.not_lt_zero _)⟩,rfl,rfl,QB.bits (B:=2) fun c hc=>?_,fun i hi=>absurd hi (Nat.not_lt_zero _)⟩;rw[List.mem_singleton.1 hc];refine Nat.le_trans (Ic h0) ?_;have h1:nl n.natAbs≤2:=aD (by have:BB^2=18446744073709551616:=rfl;omega);have h2:nl d≤2:=aD (by have:BB^2=18446744073709551616:=rfl;omega);show max (nl n.natAbs) _≤_;omega
theorem EC:R.sqrt (R.q 0)=R.q 0:=R.P6 (R.dy (R.bu.2 (.inl rfl)))
theorem xj:∀h,h≤3→qN h 520 8≤2^30∧mS h (qN h 520 8+qN h 520 8) tB<2^38:=by
 intro h hh
 match h,hh with
 |0,_=>decide+kernel
 |1,_=>decide+kernel
 |2,_=>decide+kernel
 |3,_=>decide+kernel
section
variable {A:List R}(S:Go.Tw.Src 64 A)(hA:A.length≤3)
include S hA
theorem qQ {x:List El×El}{v:R}(h:cB A 64 x.1 x.2 v):ax A x.1 x.2 v 520 8:=by
 have h3:=h.tg.kg S hA;have h8:2^x.1.length≤2^3:=Nat.pow_le_pow_right (by decide) h3;exact h.num.mono (by omega) h8
theorem L3 (h2:A.length≤2){c:List El×El}{v:R}(h:cB A 64 c.1 c.2 v)(hn:R.nn v):∃(A':List R) (x:List El×El),Go.Tw.Src 64 A'∧(∀a,a∈A→a∈A')∧A'.length≤A.length+1∧ax A' x.1 x.2 (R.sqrt v) 0 1∧Pr prog 18 [nX c] (.aF [nX x,.one (.int .i64 0)]):=by
 have hv:=h.val
 by_cases h0:v=R.q 0
 ·have tl:=h.tg.HI hA;have rb:=h.tg.QK S hA (by omega) h.len (by rw[hv,h0])
  rcases uF S hA h.tg h.len (by rw[hv];exact hn) rb with⟨w,lw,ew,cw⟩|⟨no,_⟩
  ·refine⟨A,(c.1,w),S,fun _ h=>h,by omega,⟨h.tg,lw,by rw[ew,hv],?_⟩,qu c c.1 w cw⟩;rw[h0,EC];exact(kV.rat (by decide) (by decide)).mono (Nat.le_refl _) (by omega)
  exact absurd (by rw[hv,h0,R.zero_mul]) (no _ (In.rat 0))
 have hp:R.pos v:=(R.bu.1 hn).resolve_left h0;have S':Go.Tw.Src 64 (A++[val c.1.length c.1 c.2]):=S.snoc hA h.tg h.len h.bits (by rw[hv];exact hp);rw[hv]at S';have Zx:(A++[v]).length≤3:=by rw[X6];show _+1≤3;omega
 have sub:∀a,a∈A→a∈A++[v]:=fun a ha=>List.mem_append_left _ ha;have mem:v∈A++[v]:=List.mem_append_right _ (by simp);have G:=h.tg.sub sub;have rb:=G.Qz S' Zx h.len (by rw[hv];exact mem) (by rw[hv];exact hp);have hl:(A++[v]).length≤A.length+1:=by rw[X6];exact Nat.le_refl _
 rcases uF S' Zx G h.len (by rw[hv];exact hn) rb with⟨w,lw,ew,cw⟩|⟨no,cw⟩
 ·exact⟨_,(c.1,w),S',sub,hl,⟨G,lw,by rw[ew,hv],.root mem⟩,qu c c.1 w cw⟩
 have T':=G.snoc h.len (by rw[hv];exact mem) (by rw[hv];exact hp) no;have e1:(c.1++[c.2]).length=c.1.length+1:=by simp
 have lr:(dI c.1.length).length=2^(c.1++[c.2]).length:=by rw[e1];exact Go.Tw.kJ
 have vr:val (c.1++[c.2]).length (c.1++[c.2]) (dI c.1.length)=R.sqrt v:=by rw[e1,Go.Tw.qG,hv]
 rw[←e1]at cw;exact⟨_,(c.1++[c.2],dI c.1.length),S',sub,hl,⟨T',lr,vr,.root mem⟩,qu c _ _ cw⟩
theorem Rk {k:Nat}(hk:k<6)(h0:k≠0){a b:List El×El}{va vb:R}(ha:cB A 64 a.1 a.2 va)(hb:cB A 64 b.1 b.2 vb){q:Nat}(hq:A.length≤q)(Yg:q≤3):
  ∃(A':List R) (q':Nat) (x:List El×El) (v:R),BO k q q' a b x∧Go.Tw.Src 64 A'∧(∀y,y∈A→y∈A')∧A'.length≤q'∧q'≤3∧ax A' x.1 x.2 v 2000 32:=by
 have na:=qQ S hA ha;have nb:=qQ S hA hb;have sm:Sm 520 8:=.of (by decide) (by decide);have j1:520≤jβ:=by decide
 have j2:8≤jμ:=by decide
 have same:∀{x:List El×El} {v:R},BO k q q a b x→ax A x.1 x.2 v 2000 32→∃(A':List R) (q':Nat) (x:List El×El) (v:R),BO k q q' a b x∧Go.Tw.Src 64 A'∧(∀y,y∈A→y∈A')∧A'.length≤q'∧q'≤3∧ax A' x.1 x.2 v 2000 32:=
  fun hb hx=>⟨A,q,_,_,hb,S,fun _ h=>h,hq,Yg,hx⟩
 have hm:∀h,h≤3→mS h (qN h 520 8+qN h 520 8) tB<2^38:=fun h hh=>(xj h hh).2
 match k,hk,h0 with
 |1,_,_=>
  obtain⟨z,nz,c⟩:=ox S hA na nb sm sm j1 j2;exact same (.inl ⟨rfl,rfl,c⟩) (nz.mono (by decide) (by decide))
 |2,_,_=>
  obtain⟨z,nz,c⟩:=tN S hA na nb sm sm j1 j2;exact same (.inr (.inl ⟨rfl,rfl,c⟩)) (nz.mono (by decide) (by decide))
 |3,_,_=>
  obtain⟨z,nz,c⟩:=oN S hA na nb sm sm j1 j2 hm;exact same (.inr (.inr (.inl ⟨rfl,rfl,c⟩))) (nz.mono (by decide) (by decide))
 |4,_,_=>
  have iv:=uw Go.Tw.iK (xj _ (hb.tg.kg S hA)).1 (kR S hA hb.tg) hb.tg.rd hb.len (nb.Qj S hA)
  cases e:Go.Tw.cC b.1.length b.1 b.2 with
  |none=>exact same (.inr (.inr (.inr (.inr (.inl ⟨rfl,rfl,rfl,EX a b (iv.2 e)⟩))))) (na.mono (by decide) (by decide))
  |some n=>
   obtain⟨ln,en⟩:=Go.Tw.df hb.tg.rd.rl hb.len e;rw[hb.val]at en;obtain⟨z,nz,c⟩:=oN S hA na (y:=(b.1,n)) ⟨hb.tg,ln,rfl,nb.sz.inv en⟩ sm sm j1 j2 hm;exact same (.inr (.inr (.inr (.inl ⟨rfl,rfl,zj a b z n (iv.1 n e).rows c⟩)))) (nz.mono (by decide) (by decide))
 |5,_,_=>
  have sg:=Bb Go.Tw.iK (xj _ (ha.tg.kg S hA)).1 (kR S hA ha.tg) ha.len (na.O5 S hA);rw[Go.Tw.bZ ha.tg.rd.rl ha.len,ha.val]at sg;have key:∃(c:List El×El) (w:R),cB A 64 c.1 c.2 w∧R.nn w∧((R.bQ va<0∧Pr prog 34 [nX a] (nX c))∨(¬R.bQ va<0∧c=a)):=by
   rcases R.dc va with⟨e,es⟩|⟨e,es⟩|⟨e,es⟩
   ·exact⟨a,va,ha,R.bu.2 (.inl e),.inr ⟨by omega,rfl⟩⟩
   ·exact⟨a,va,ha,R.bu.2 (.inr e),.inr ⟨by omega,rfl⟩⟩
   refine⟨(a.1,aJ a.2),-va,⟨ha.tg,by rw[Go.Tw.aq,ha.len],by rw[←ha.val];exact Go.Tw.val_neg ha.len,fun c hc=>?_,ha.tb⟩,R.bu.2 (.inr e),.inl ⟨by omega,ub S hA na sm⟩⟩;obtain⟨x,hx,rfl⟩:=List.mem_map.1 hc
   have:=ha.bits x hx
   rw[Rat.neg_num,Rat.neg_den,Int.natAbs_neg];exact this
  obtain⟨c,w,hc,hw,hs⟩:=key
  by_cases g:q<3
  ·obtain⟨A',x,S',sub,hl,nx,cs⟩:=L3 S hA (by omega) hc hw;exact⟨A',q+1,x,_,.inr (.inr (.inr (.inr (.inr ⟨rfl,_,c,sg,hs,.inl ⟨g,rfl,cs⟩⟩)))),S',sub,by omega,by omega,nx.mono (by decide) (by decide)⟩
  exact same (.inr (.inr (.inr (.inr (.inr ⟨rfl,_,c,sg,hs,.inr ⟨g,rfl,rfl⟩⟩))))) (na.mono (by decide) (by decide))
end
open Go Go.Eng
open Go.Tw (El ax cB TG)
theorem Px {A:List R}(S:Go.Tw.Src 64 A){o:Bx}(ho:o.Ok){q:Nat}(hq:A.length≤q)(Yg:q≤3){l:List (List El×El)}(hl:∀x∈l,∃v,cB A 64 x.1 x.2 v):
  ∃(A':List R) (q':Nat) (l':List (List El×El)),BS o q l q' l'∧Go.Tw.Src 64 A'∧A'.length≤q'∧q'≤3∧l'.length=l.length+1∧∀x∈l',∃v,cB A' 64 x.1 x.2 v:=by
 have hA:A.length≤3:=by omega
 have hn:=ho.n;have fc:=OE o.n (o.d%8+1) (by omega) (by omega) (by omega) (Nat.lt_of_le_of_lt (show zn o.n≤2 from aD (by have:BB^2=18446744073709551616:=rfl;omega)) (by decide)) (Nat.lt_of_le_of_lt (show nl _≤2 from aD (by have:BB^2=18446744073709551616:=rfl;omega)) (by decide));have fs:cB A 64 [] [mkRat o.n (o.d%8+1:Nat)] _:=oD hn (by omega) (by omega);have get:∀i,i<l.length→∃v,cB A 64 (l.getD i default).1 (l.getD i default).2 v:=fun i hi=>hl _ (by rw[X7,X8 hi];exact List.getElem_mem _)
 -- the number made
 have hx:∃(A':List R) (q':Nat) (x:List El×El) (v:R),Go.Tw.Src 64 A'∧(∀y,y∈A→y∈A')∧A'.length≤q'∧q'≤3∧ax A' x.1 x.2 v 2000 32∧(l=[]→∃v,cB A' 64 x.1 x.2 v)∧
   (((l=[]∨o.k%6=0)∧q'=q∧x=([],[mkRat o.n (o.d%8+1:Nat)]))∨(l≠[]∧BO (o.k%6) q q' (l.getD (o.a%l.length) default) (l.getD (o.b%l.length) default) x)):=by
  by_cases h:l=[]∨o.k%6=0
  ·exact⟨A,q,_,_,S,fun _ h=>h,hq,Yg,(qQ S hA (x:=([],[mkRat o.n (o.d%8+1:Nat)])) fs).mono (by decide) (by decide),fun _=>⟨_,fs⟩,.inl ⟨h,rfl,rfl⟩⟩
  have RE:l≠[]:=fun e=>h (.inl e);have lp:=List.length_pos_iff.2 RE;obtain⟨va,ha⟩:=get _ (Nat.mod_lt o.a lp);obtain⟨vb,hb⟩:=get _ (Nat.mod_lt o.b lp);obtain⟨A',q',x,v,b,S',sub,h1,h2,nx⟩:=Rk S hA (k:=o.k%6) (Nat.mod_lt _ (by decide)) (fun e=>h (.inr e)) ha hb hq Yg;exact⟨A',q',x,v,S',sub,h1,h2,nx,fun e=>absurd e RE,.inr ⟨RE,b⟩⟩
 obtain⟨A',q',x,v,S',sub,h1,h2,nx,Xf,hx⟩:=hx;have Zx:A'.length≤3:=by omega
 have x3:=nx.tg.kg S' Zx;have xl:x.2.length<2^38:=by rw[nx.len];exact aN (by omega)
 have lg:∀b:Bool,(b=true↔PQ 2 x)→Pr prog 35 [nX x] (.one (.bool b)):=fun b hb=>Nl x xl (by omega) (fun j hj=>by rw[(nx.tg.rd.rl j hj).1];exact aN (by omega)) hb;have SC:∀x∈l,∃v,cB A' 64 x.1 x.2 v:=fun x hx=>(hl x hx).imp fun _ h=>h.sub sub
 -- the number kept
 have hy:∃(y:List El×El) (w:R),cB A' 64 y.1 y.2 w∧((l=[]∧y=x)∨(l≠[]∧Pr prog 35 [nX x] (.one (.bool false))∧y=x)∨(l≠[]∧Pr prog 35 [nX x] (.one (.bool true))∧y=l.getD (l.length-1) default)):=by
  by_cases h:l=[]
  ·obtain⟨w,hw⟩:=Xf h;exact⟨x,w,hw,.inl ⟨h,rfl⟩⟩
  by_cases g:PQ 2 x
  ·have lp:=List.length_pos_iff.2 h;obtain⟨w,hw⟩:=get (l.length-1) (by omega);exact⟨_,w,hw.sub sub,.inr (.inr ⟨h,lg true ⟨fun _=>g,fun _=>rfl⟩,rfl⟩)⟩
  exact⟨x,v,IH nx g,.inr (.inl ⟨h,lg false ⟨fun e=>(by cases e),fun k=>absurd k g⟩,rfl⟩)⟩
 obtain⟨y,w,sy,hy⟩:=hy;refine⟨A',q',l++[kP y.1.length y],⟨_,x,y,_,fc,hx,hy,MP S' Zx y sy,rfl⟩,S',h1,h2,by rw[X6];rfl,fun z hz=>?_⟩
 rcases List.mem_append.1 hz with hz|hz
 ·exact SC z hz
 rw[List.mem_singleton.1 hz];exact⟨w,mT _ (Nat.le_refl _) sy⟩
theorem JV (r:List Bx)(hr:∀o∈r,o.Ok)(Vi:r.length<2^63):∃(A:List R) (l:List (List El×El)),Go.Tw.Src 64 A∧A.length≤3∧l.length≤24∧(∀x∈l,∃v,cB A 64 x.1 x.2 v)∧Pr prog 7 [qj r] (.one (bV l)):=by
 obtain⟨s,e0,hI,hS⟩:=Go.Tw.chain (α:=List R×Nat×List (List El×El)) (x0:=([],0,[])) (n:=min r.length 24)
  (I:=fun i y=>Go.Tw.Src 64 y.1∧y.1.length≤y.2.1∧y.2.1≤3∧y.2.2.length=i∧∀x∈y.2.2,∃v,cB y.1 64 x.1 x.2 v)
  (St:=fun i y y'=>BS (r.getD i default) y.2.1 y.2.2 y'.2.1 y'.2.2)
  ⟨⟨fun k hk=>absurd hk (Nat.not_lt_zero _),fun k hk=>absurd hk (Nat.not_lt_zero _)⟩,Nat.le_refl _,by decide,rfl,fun x hx=>(by cases hx)⟩
  (fun i y hi ⟨h1,h2,h3,h4,h5⟩=>by
   obtain⟨A',q',l',b,k1,k2,k3,k4,k5⟩:=Px h1 (o:=r.getD i default) (hr _ (by rw[X7,X8 (by omega)];exact List.getElem_mem _)) h2 h3 h5;exact⟨(A',q',l'),b,k1,k2,k3,by show l'.length=i+1;rw[k4,h4],k5⟩)
 obtain⟨k1,k2,k3,k4,k5⟩:=hI _ (Nat.le_refl _);refine⟨_,_,k1,by omega,by omega,k5,ye r hr Vi (fun i=>(s i).2.1) (fun i=>(s i).2.2) (by rw[e0]) (by rw[e0]) (fun i h1 h2=>?_) (fun i h1 h2=>hS i (by omega))⟩;obtain⟨_,_,g3,g4,_⟩:=hI i (by omega);exact⟨g4,g3⟩
end Go.Proofs.YthnkehdgnagmnaaGreat
namespace Go.Mx
open Go Go.R
instance:Std.Associative (α:=R) (· * ·):=⟨mul_assoc⟩
instance:Std.Commutative (α:=R) (· * ·):=⟨mul_comm⟩
def sm:Nat→(Nat→R)→R
 |0,_=>q 0
 |n+1,f=>sm n f+f n
theorem cN {f g:Nat→R}:∀{n:Nat},(∀i,i<n→f i=g i)→sm n f=sm n g
 |0,_=>rfl
 |n+1,h=>by rw[sm,sm,cN (n:=n) fun i hi=>h i (by omega),h n (by omega)]
theorem sf {f:Nat→R}{n:Nat}(h:∀i,i<n→f i=q 0):sm n f=q 0:=by
 induction n with
 |zero=>rfl
 |succ n ih=>rw[sm,ih fun i hi=>h i (by omega),h n (by omega),add_zero]
theorem Qu (a b c d:R):a+b+(c+d)=a+c+(b+d):=by
 rw[add_assoc,←add_assoc b,add_comm b c,add_assoc c,←add_assoc]
theorem qo (f g:Nat→R):∀n,sm n (fun i=>f i+g i)=sm n f+sm n g
 |0=>(add_zero _).symm
 |n+1=>by rw[sm,sm,sm,qo f g n,Qu]
theorem uf (x:R)(f:Nat→R):∀n,sm n (fun i=>x*f i)=x*sm n f
 |0=>(mul_zero _).symm
 |n+1=>by rw[sm,sm,uf x f n,mul_add]
theorem xP (f:Nat→R):∀n,sm n (fun i=> -f i)= -sm n f
 |0=>gE.symm
 |n+1=>by rw[sm,sm,xP f n,j8]
theorem gO {f:Nat→R}{n j:Nat}(hj:j<n)(h:∀i,i<n→i≠j→f i=q 0):sm n f=f j:=by
 induction n with
 |zero=>omega
 |succ n ih=>
  rw[sm]
  by_cases e:j=n
  ·rw[sf fun i hi=>h i (by omega) (by omega),zero_add,e]
  rw[ih (by omega) fun i hi RE=>h i (by omega) RE,h n (by omega) (by omega),add_zero]
noncomputable def iv (x:R):R:=open Classical in if h:x≠q 0 then Classical.choose (inv h)else q 0
theorem jw {x:R}(h:x≠q 0):x*iv x=q 1:=by
 unfold iv;rw[dif_pos h];exact Classical.choose_spec (inv h)
theorem eR:q 1≠q 0:=fun h=>absurd (kr h) (by decide)
theorem OX {x:R}(h:x≠q 0):iv x≠q 0:=fun e=>eR (by rw[←jw h,e,mul_zero])
abbrev Mt:=Nat→Nat→R
noncomputable def jM (M:Mt)(k:Nat):Nat→Nat→Nat
 |0,p=>p
 |n+1,p=>open Classical in if M p k=q 0 then jM M k n (p+1)else p
theorem jG (M:Mt)(k:Nat):∀n p,p≤jM M k n p∧jM M k n p≤p+n∧(∀i,p≤i→i<jM M k n p→M i k=q 0)∧(jM M k n p<p+n→M (jM M k n p) k≠q 0)
 |0,p=>⟨Nat.le_refl _,Nat.le_refl _,fun i h1 h2=>by unfold jM at h2;omega,fun h=>by unfold jM at h;omega⟩
 |n+1,p=>by
  unfold jM
  split
  ·rename_i h0
   obtain⟨h1,h2,h3,h4⟩:=jG M k n (p+1);refine⟨by omega,by omega,fun i h5 h6=>?_,fun h=>h4 (by omega)⟩
   by_cases e:i=p
   ·rw[e];exact h0
   exact h3 i (by omega) h6
  rename_i h0
  exact⟨Nat.le_refl _,by omega,fun i h1 h2=>by omega,fun _=>h0⟩
def gy (M:Mt)(a b:Nat):Mt:=fun i=>if i=a then M b else if i=b then M a else M i
noncomputable def fx (M:Mt)(t k:Nat):Mt:=fun i j=>if i=t then M t j*iv (M t k)else M i j-M t j*iv (M t k)*M i k
noncomputable def gB (r k:Nat)(s:Mt×List Nat):Mt×List Nat:=
 open Classical in if jM s.1 k (r-s.2.length) s.2.length<r then(fx (gy s.1 s.2.length (jM s.1 k (r-s.2.length) s.2.length)) s.2.length k,s.2++[k])else s
noncomputable def red (r:Nat)(M:Mt):Nat→Mt×List Nat
 |0=>(M,[])
 |k+1=>gB r k (red r M k)
def nN (r c:Nat)(M:Mt)(y:Nat→R):Prop:=∀i,i<r→sm c (fun k=>M i k*y k)=q 0
structure FB (r k:Nat) (N:Mt) (p:List Nat):Prop where
 len:p.length≤r
 lt:∀i,i<p.length→p.getD i 0<k
 asc:∀i j,i<j→j<p.length→p.getD i 0<p.getD j 0
 one:∀i j,i<r→j<p.length→N i (p.getD j 0)=if i=j then q 1 else q 0
 low:∀i j,p.length≤i→i<r→j<k→N i j=q 0
 left:∀i j,i<p.length→j<p.getD i 0→N i j=q 0
theorem ou {s:Mt×List Nat}{r k:Nat}(h:s.2.length≤r)(hf:jM s.1 k (r-s.2.length) s.2.length<r):s.2.length≤jM s.1 k (r-s.2.length) s.2.length∧s.1 (jM s.1 k (r-s.2.length) s.2.length) k≠q 0:=by
 obtain⟨h1,_,_,h4⟩:=jG s.1 k (r-s.2.length) s.2.length;exact⟨h1,h4 (by omega)⟩
theorem FB.step {r k:Nat}{s:Mt×List Nat}(E:FB r k s.1 s.2):FB r (k+1) (gB r k s).1 (gB r k s).2:=by
 obtain⟨N,p⟩:=s;have E:FB r k N p:=E;unfold gB
 split
 ·rename_i hf
  obtain⟨hp,hn⟩:=ou (s:=(N,p)) E.len hf;simp only at hf hp hn⊢
  generalize jM N k (r-p.length) p.length=t at hf hp hn⊢
  have hz:∀i j,p.length≤i→i<r→j<k→gy N p.length t i j=q 0:=by
   intro i j h1 h2 h3;unfold gy
   split
   ·exact E.low t j hp hf h3
   split
   ·exact E.low _ j (Nat.le_refl _) (by omega) h3
   exact E.low i j h1 h2 h3
  have ht:gy N p.length t p.length k≠q 0:=by
   unfold gy;rw[if_pos rfl];exact hn
  have V6:∀i,i<p.length→gy N p.length t i=N i:=by
   intro i hi;unfold gy;rw[if_neg (by omega),if_neg (by omega)]
  generalize gy N p.length t=S at hz ht V6
  have hl:∀i j,i<r→j<k→fx S p.length k i j=S i j:=by
   intro i j hi hj;unfold fx;have h0:=hz p.length j (Nat.le_refl _) (by omega) hj
   split
   ·rename_i e
    rw[h0,zero_mul,e,h0]
   rw[h0,zero_mul,zero_mul,sub_zero]
  have hg:∀j,j<p.length→(p++[k]).getD j 0=p.getD j 0:=fun j hj=>by
   rw[X7,X7,List.getElem?_append_left hj]
  have hk:(p++[k]).getD p.length 0=k:=by
   rw[X7,List.getElem?_append_right (Nat.le_refl _),Nat.sub_self];rfl
  have RO:∀i,i<r→fx S p.length k i k=if i=p.length then q 1 else q 0:=by
   intro i hi;unfold fx
   split
   ·rename_i e
    rw[jw ht]
   rw[jw ht,one_mul,sub_self]
  have hlen:(p++[k]).length=p.length+1:=by simp
  refine⟨by rw[hlen];omega,fun i hi=>?_,fun i j US hj=>?_,fun i j hi hj=>?_,fun i j h1 h2 h3=>?_,fun i j h1 h2=>?_⟩
  ·rw[hlen]at hi
   by_cases e:i<p.length
   ·rw[hg i e];have:=E.lt i e;omega
   obtain rfl:i=p.length:=by omega
   rw[hk];omega
  ·rw[hlen]at hj
   by_cases e:j<p.length
   ·rw[hg i (by omega),hg j e];exact E.asc i j US e
   obtain rfl:j=p.length:=by omega
   rw[hk,hg i US];exact E.lt i US
  ·rw[hlen]at hj
   by_cases e:j<p.length
   ·rw[hg j e,hl i _ hi (E.lt j e)]
    by_cases e2:i<p.length
    ·rw[V6 i e2];exact E.one i j hi e
    rw[hz i _ (by omega) hi (E.lt j e),if_neg (by omega)]
   obtain rfl:j=p.length:=by omega
   rw[hk];exact RO i hi
  ·rw[hlen]at h1
   by_cases e:j<k
   ·rw[hl i j h2 e];exact hz i j (by omega) h2 e
   obtain rfl:j=k:=by omega
   rw[RO i h2,if_neg (by omega)]
  rw[hlen]at h1
  by_cases e:i<p.length
  ·rw[hg i e]at h2
   have:=E.lt i e
   rw[hl i j (by omega) (by omega),V6 i e];exact E.left i j e h2
  obtain rfl:i=p.length:=by omega
  rw[hk]at h2;rw[hl _ j (by omega) h2];exact hz _ j (Nat.le_refl _) (by omega) h2
 rename_i hf
 have h1:=E.len;obtain⟨_,_,h3,_⟩:=jG N k (r-p.length) p.length;refine⟨E.len,fun i hi=>Nat.lt_succ_of_lt (E.lt i hi),E.asc,E.one,fun i j h4 h5 h6=>?_,E.left⟩
 by_cases e:j<k
 ·exact E.low i j h4 h5 e
 obtain rfl:j=k:=by omega
 exact h3 i h4 (by simp only at hf;omega)
theorem bz (r:Nat)(M:Mt):∀k,FB r k (red r M k).1 (red r M k).2
 |0=>⟨Nat.zero_le _,fun i hi=>absurd hi (Nat.not_lt_zero _),fun i j _ hj=>absurd hj (Nat.not_lt_zero _),fun i j _ hj=>absurd hj (Nat.not_lt_zero _),fun i j _ _ hj=>absurd hj (Nat.not_lt_zero _),fun i j hi=>absurd hi (Nat.not_lt_zero _)⟩
 |k+1=>(bz r M k).step
theorem Lz {x y:R}:x-y=q 0↔x=y:=⟨fh,fun h=>by rw[h,sub_self]⟩
theorem nN.step {r k c:Nat}{s:Mt×List Nat}(hl:s.2.length≤r)(y:Nat→R):nN r c (gB r k s).1 y↔nN r c s.1 y:=by
 obtain⟨N,p⟩:=s;unfold gB
 split
 rotate_left
 ·exact Iff.rfl
 rename_i hf
 obtain⟨hp,hn⟩:=ou (s:=(N,p)) hl hf;simp only at hf hp hn⊢
 generalize jM N k (r-p.length) p.length=t at hf hp hn⊢
 have hs:nN r c (gy N p.length t) y↔nN r c N y:=by
  have UM:∀i,gy (gy N p.length t) p.length t i=N i:=by
   intro i;unfold gy
   by_cases e1:i=p.length
   ·rw[if_pos e1]
    by_cases e2:t=p.length
    ·rw[if_pos e2,e1,e2]
    rw[if_neg e2,if_pos rfl,e1]
   rw[if_neg e1]
   by_cases e2:i=t
   ·rw[if_pos e2,if_pos rfl,e2]
   rw[if_neg e2,if_neg e1,if_neg e2]
  have key:∀N':Mt,nN r c N' y→nN r c (gy N' p.length t) y:=by
   intro N' h i hi;unfold gy
   split
   ·exact h t hf
   split
   ·exact h p.length (by omega)
   exact h i hi
  refine⟨fun h=>?_,key N⟩
  have:=key _ h
  intro i hi;rw[←UM i];exact this i hi
 have ht:gy N p.length t p.length k≠q 0:=by
  unfold gy;rw[if_pos rfl];exact hn
 rw[←hs]
 generalize gy N p.length t=S at ht
 have U7:sm c (fun j=>fx S p.length k p.length j*y j)=iv (S p.length k)*sm c (fun j=>S p.length j*y j):=by
  rw[←uf];refine cN fun j _=>?_;unfold fx;rw[if_pos rfl,←mul_assoc,mul_comm (iv _)]
 have Zy:∀i,i≠p.length→sm c (fun j=>fx S p.length k i j*y j)=sm c (fun j=>S i j*y j)-S i k*iv (S p.length k)*sm c (fun j=>S p.length j*y j):=by
  intro i hi;rw[←uf,sub_def,←xP,←qo];refine cN fun j _=>?_;unfold fx;rw[if_neg hi,sub_def,add_mul,neg_mul]
  congr 2
  ac_rfl
 refine⟨fun h=>?_,fun h=>?_⟩
 ·have h0:sm c (fun j=>S p.length j*y j)=q 0:=by
   have:=h p.length (by omega)
   rw[U7]at this
   rcases gn this with e|e
   ·exact absurd e (OX ht)
   exact e
  intro i hi
  by_cases e:i=p.length
  ·rw[e];exact h0
  have:=h i hi
  rw[Zy i e,h0,mul_zero,sub_zero]at this;exact this
 intro i hi
 by_cases e:i=p.length
 ·rw[e,U7,h p.length (by omega),mul_zero]
 rw[Zy i e,h i hi,h p.length (by omega),mul_zero,sub_self]
theorem lL (r c:Nat)(M:Mt)(y:Nat→R):∀k,nN r c (red r M k).1 y↔nN r c M y
 |0=>Iff.rfl
 |k+1=>(nN.step (bz r M k).len y).trans (lL r c M y k)
end Go.Mx
namespace Go.Proofs.YthnkehdgnagmnaaGreat
open Go.Proofs.Tryz
open Go Go.Eng
open Go.Tw (El ax cB TG qN mS tB jβ jμ gT jL aB aJ)
open Go.Mx (iv)
structure Nu (A:List R) where
 x:List El×El
 v:R
 w:Nat
 hw:1≤w
 ok:ax A x.1 x.2 v (300*w-1) (3*w)
def wA:Nat:=2000
def wB:Nat:=800
def wC:Nat:=300
theorem F4:∀h,h≤3→qN h (300*wA) (3*wA)<2^38∧mS h (qN h (300*wA) (3*wA)+qN h (300*wB) (3*wB)) tB<2^38∧qN h (300*wC) (3*wC)≤2^30:=by
 intro h hh
 match h,hh with
 |0,_=>decide+kernel
 |1,_=>decide+kernel
 |2,_=>decide+kernel
 |3,_=>decide+kernel
def Dd {A:List R}(f:FuncId)(a b:Nu A)(v:R):Prop:=∃c:Nu A,c.v=v∧c.w=a.w+b.w∧Pr prog f [nX a.x,nX b.x] (.aF [nX c.x,.one (.int .i64 0)])
theorem IJ {h S T:Nat}(k:S≤T)(hT:mS h T tB<2^38):mS h S tB<2^38:=Nat.lt_of_le_of_lt (Go.Tw.LP k) hT
section
variable {A:List R}
theorem Nu.sm (a:Nu A)(h:a.w≤wA):Sm (300*a.w-1) (3*a.w):=fun k hk=>Nat.lt_of_le_of_lt (Go.Tw.nu (by omega) (by omega)) (F4 k hk).1
theorem BJ {n:Nat}(h:n≤wB):n≤wA:=Nat.le_trans h (by decide)
theorem Pc {n:Nat}(h:n≤wC):n≤wB:=Nat.le_trans h (by decide)
theorem Nu.j1 (a:Nu A)(h:a.w≤wB):300*a.w-1≤jβ:=by
 have:300*wB≤jβ:=by decide
 omega
theorem Nu.j2 (a:Nu A)(h:a.w≤wB):3*a.w≤jμ:=by
 have:3*wB≤jμ:=by decide
 omega
theorem G0 {a b:Nat}(ha:a≤wA)(hb:b≤wB):∀h,h≤3→mS h (qN h (300*a-1) (3*a)+qN h (300*b-1) (3*b)) tB<2^38:=fun h hh=>
 IJ (Nat.add_le_add (Go.Tw.nu (by omega) (by omega)) (Go.Tw.nu (by omega) (by omega))) (F4 h hh).2.1
variable (S:Go.Tw.Src 64 A)(hA:A.length≤3)
include S hA
theorem LM {a b:Nu A}(ha:a.w≤wA)(hb:b.w≤wB):Dd 30 a b (a.v+b.v):=by
 obtain⟨z,nz,c⟩:=ox S hA a.ok b.ok (a.sm ha) (b.sm (BJ hb)) (b.j1 hb) (b.j2 hb)
 have:=a.hw;have:=b.hw
 exact⟨⟨z,_,a.w+b.w,by omega,nz.mono (by omega) (by omega)⟩,rfl,rfl,c⟩
theorem xp {a b:Nu A}(ha:a.w≤wA)(hb:b.w≤wB):Dd 13 a b (a.v-b.v):=by
 obtain⟨z,nz,c⟩:=tN S hA a.ok b.ok (a.sm ha) (b.sm (BJ hb)) (b.j1 hb) (b.j2 hb)
 have:=a.hw;have:=b.hw
 exact⟨⟨z,_,a.w+b.w,by omega,nz.mono (by omega) (by omega)⟩,rfl,rfl,c⟩
theorem sk {a b:Nu A}(ha:a.w≤wA)(hb:b.w≤wB):Dd 20 a b (a.v*b.v):=by
 obtain⟨z,nz,c⟩:=oN S hA a.ok b.ok (a.sm ha) (b.sm (BJ hb)) (b.j1 hb) (b.j2 hb) (G0 ha hb)
 have:=a.hw;have:=b.hw
 exact⟨⟨z,_,a.w+b.w,by omega,nz.mono (by omega) (by omega)⟩,rfl,rfl,c⟩
omit S hA in
theorem yj {x y:R}(h:x*y=R.q 1):y=iv x:=by
 have h0:x≠R.q 0:=fun e=>Go.Mx.eR (by rw[←h,e,R.zero_mul]);refine R.ju (z:=x) ?_ h0;rw[R.mul_comm,h,R.mul_comm,Go.Mx.jw h0]
omit S hA in
theorem Nu.inv {b:Nu A}(h0:b.v≠R.q 0):∃n,Go.Tw.cC b.x.1.length b.x.1 b.x.2=some n∧ax A b.x.1 n (iv b.v) (300*b.w-1) (3*b.w):=by
 cases e:Go.Tw.cC b.x.1.length b.x.1 b.x.2 with
 |none=>exact absurd (by rw[←b.ok.val];exact Go.Tw.ny b.ok.tg.rd b.ok.len e) h0
 |some n=>
  obtain⟨ln,en⟩:=Go.Tw.df b.ok.tg.rd.rl b.ok.len e;rw[b.ok.val]at en;exact⟨n,rfl,b.ok.tg,ln,yj en,b.ok.sz.inv (by rw[←yj en];exact en)⟩
theorem Nu.P2 (b:Nu A)(hb:b.w≤wC):qN b.x.1.length (300*b.w-1) (3*b.w)≤2^30:=Nat.le_trans (Go.Tw.nu (by omega) (by omega)) (F4 _ (b.ok.tg.kg S hA)).2.2
theorem Kz {a b:Nu A}(ha:a.w≤wA)(hb:b.w≤wC)(h0:b.v≠R.q 0):Dd 32 a b (a.v*iv b.v):=by
 have i:=uw Go.Tw.iK (b.P2 S hA hb) (kR S hA b.ok.tg) b.ok.tg.rd b.ok.len (b.ok.Qj S hA);obtain⟨n,e,nn⟩:=b.inv h0
 let b':Nu A:=⟨(b.x.1,n),iv b.v,b.w,b.hw,nn⟩
 obtain⟨c,c1,c2,c3⟩:=sk S hA ha (b:=b') (Pc hb);exact⟨c,c1,c2,zj a.x b.x c.x n (i.1 n e).rows c3⟩
theorem tS {a:Nu A}(ha:a.w≤wC):Pr prog 33 [nX a.x] (.one (.int .i64 (R.bQ a.v))):=by
 have g:=Bb Go.Tw.iK (a.P2 S hA ha) (kR S hA a.ok.tg) a.ok.len (a.ok.O5 S hA);rw[Go.Tw.bZ a.ok.tg.rd.rl a.ok.len,a.ok.val]at g;exact g
theorem Qm {t:List El}{e:El}(T:TG A t)(he:e.length=2^t.length)(hv:Go.Tw.val t.length t e=R.q 0):gT jL t.length t e:=by
 obtain⟨z,w,d,E,_,_⟩:=T.ev S hA;have hx:Go.Tw.Ht t.length z w (Go.Tw.val t.length t e) 0:=by rw[hv];exact Go.Tw.Ht.rat (by decide) (by decide)
 exact(gT.of E he hx).mono (Go.Tw.xn _ (T.kg S hA)).2
theorem MZ {z:List El×El}{β μ:Nat}(nz:ax A z.1 z.2 (R.q 0) β μ):Pr prog 33 [nX z] (.one (.int .i64 0)):=by
 have g:=Bb (by decide) (show jL≤2^30 by decide) (kR S hA nz.tg) nz.len (Qm S hA nz.tg nz.len nz.val);rw[Go.Tw.bZ nz.tg.rd.rl nz.len,nz.val,R.fZ]at g;exact g
theorem Ft {a b:Nu A}(ha:a.w≤wA)(hb:b.w≤wB)(h:a.v=b.v∨a.w+b.w≤wC){r:Bool}(hr:r=true↔a.v=b.v):Pr prog 55 [nX a.x,nX b.x] (.one (.bool r)):=by
 obtain⟨c,c1,c2,c3⟩:=xp S hA ha hb;have g:Pr prog 33 [nX c.x] (.one (.int .i64 (R.bQ c.v))):=by
  rcases h with h|h
  ·have e:c.v=R.q 0:=by rw[c1,h,R.sub_self]
   have:=c.ok
   rw[e]at this⊢;rw[R.fZ];exact MZ S hA this
  exact tS S hA (by omega)
 have:=BA a.x b.x _ (Hu a.x b.x c.x _ c3 g)
 have e:decide (R.bQ c.v=0)=r:=by
  rw[Bool.eq_iff_iff,decide_eq_true_iff,R.gZ,hr,c1,Go.Mx.Lz]
 rw[e]at this;exact this
end
variable {A:List R}
def oQ (n:Nat)(r:Nat→Nu A):C:=ak n fun i=>(r i).x
def bK (r:Nat)(c:Nat→Nat)(m:Nat→Nat→Nu A):C:=av r c fun i j=>(m i j).x
open Go Go.Eng
open Go.Tw (El aB aJ zE ai QB mS tB val In Rd TG cE bC a9 Ext ax qN jβ jμ)
section
variable {A:List R}(S:Go.Tw.Src 64 A)(hA:A.length≤3)
include S hA
omit S hA in
theorem In.iH {t s:List El}{z:R}(h:In t.length t z):In (t++s).length (t++s) z:=((Go.Tw.j0 (Nat.le_refl _) z).2 h).le (by rw[X6];omega)
theorem Hr {t x:List El}(G:TG A t)(X:TG A x):∃U,vf t x U∧TG A U∧(∀z,In t.length t z→In U.length U z)∧∀z,In x.length x z→In U.length U z:=by
 cases hb:fe t.length x.length t x with
 |true=>
  obtain⟨s,e⟩:=bO.1 hb;exact⟨t,.inl ⟨hb,rfl⟩,G,fun _ h=>h,fun z h=>by rw[e];exact In.iH h⟩
 |false=>
  cases Se:fe x.length t.length x t with
  |true=>
   obtain⟨s,e⟩:=bO.1 Se;exact⟨x,.inr (.inl ⟨hb,Se,rfl⟩),X,fun z h=>by rw[e];exact In.iH h,fun _ h=>h⟩
  |false=>
   obtain⟨U,rs,s,eU,E,_,c⟩:=jP S hA G X;exact⟨U,.inr (.inr ⟨hb,Se,rs,c⟩),E.tg,fun z h=>by rw[eU];exact In.iH h,fun _ h=>Go.Tw.In.A6 E (Nat.le_refl _) h⟩
theorem Ho {U:List El}(G:TG A U){a:Nu A}(hw:a.w≤wB)(R6:∀z,In a.x.1.length a.x.1 z→In U.length U z):∃e,ax A U e a.v (300*a.w-1) (3*a.w)∧vS U a.x e:=by
 have ul:=G.kg S hA
 cases hb:fe U.length a.x.1.length U a.x.1 with
 |true=>
  obtain⟨s,e⟩:=bO.1 hb;refine⟨cE U.length a.x.2,by rw[e]at G⊢;exact a.ok.pad G,.inl ⟨hb,mD (by omega) (by rw[a.ok.len];exact Nat.two_pow_pos _) ?_⟩⟩;rw[a.ok.len,e,X6];exact Nat.pow_le_pow_right (by decide) (by omega)
 |false=>
  obtain⟨U',rs,s,eU,E,Rz,c⟩:=jP S hA G a.ok.tg;obtain rfl:U'=U:=Rz fun j hj=>R6 _ ((Go.Tw.In.root (h:=j)).le (by omega));obtain⟨_,_,qb,I⟩:=a.ok.P9 S hA (a.j1 hw) (a.j2 hw) E;have tq:=kR S hA E.tg;have a3:=a.ok.tg.kg S hA;have im:=kW (a:=a.x.2) ⟨tq,I.hB,I.hY,Go.Tw.iK,I.y,I.r,I.s⟩ (by rw[E.len];exact Nat.le_refl _) (by omega) a.ok.len qb;exact⟨_,a.ok.image E,.inr ⟨hb,U',rs,c,im⟩⟩
omit S hA in
theorem nC {n:Nat}(l:Nat→List El×El){i:Nat}(hi:i<n):((List.range n).map l).getD i default=l i:=by
 rw[X7,List.getElem?_map,List.getElem?_range hi];rfl
omit S hA in
theorem MT {n:Nat}{l:Nat→Nu A}:dK (oQ n l) (bV ((List.range n).map fun i=>(l i).x)):=
 .rows (by simp) fun i j hi _=>.of_eq (by unfold fm;rw[nC (fun i=>(l i).x) hi])
omit S hA in
theorem B5 {P:Program}{f:FuncId}{args:List V}{e:TypeId}{w n n':Nat}{g g':Nat→Nat→C}{c:C}(h:dG P f args (.rows e w n g) c)(hn:n=n')(hg:∀i j,i<n→j<w→g i j=g' i j):dG P f args (.rows e w n' g') c:=by
 subst hn;obtain⟨h1,h2,h3,h4⟩:=h;refine⟨h1,h2,trivial,fun ok w0 vs RW R1=>Calls.mono (h4 ok w0 vs RW R1) fun e0 w' he=>?_⟩;obtain⟨v,u,l,k1,k2,k3,k4,k5,k6,k7⟩:=he;refine⟨v,u,l,k1,k2,k3,k4,?_,k6,k7⟩;unfold aL at k5⊢;have hc:∀j,(Bk.rows e w n g').cell j=(Bk.rows e w n g).cell j:=by
  intro j;simp only[Bk.cell]
  split
  ·rename_i hj
   have h0:0<w:=Nat.pos_of_ne_zero fun e=>by subst e;omega
   rw[hg _ _ ((Nat.div_lt_iff_lt_mul h0).2 hj) (Nat.mod_lt _ h0)]
  rfl
 cases hl:l.addr with
 |none=>rw[hl]at k5;exact fun j=>(hc j).trans (k5 j)
 |some p=>
  obtain⟨a,b⟩:=p;rw[hl]at k5;obtain⟨cur,e',UI,UZ⟩:=k5;exact⟨cur,e',UI,fun j c hj=>UZ j c (by rw[←hc];exact hj)⟩
theorem PG {n:Nat}(hn:n<2^30)(l:Nat→Nu A)(hw:∀i,i<n→(l i).w≤wB):∃o:Nat→Nu A,(∀i,i<n→(o i).v=(l i).v∧(o i).w=(l i).w)∧
  dG prog 102 [.one (oQ n l)] (.rows 37 2 n (fun i=>bw (o i).x)) (.int .i64 0):=by
 have T0:TG A []:=⟨⟨fun i hi=>absurd hi (Nat.not_lt_zero _),fun i hi=>absurd hi (Nat.not_lt_zero _)⟩,fun i hi=>absurd hi (Nat.not_lt_zero _)⟩;obtain⟨tt,e0,hI,hS⟩:=Go.Tw.chain (α:=List El) (I:=fun k t=>TG A t∧∀i,i<k→∀z,In (l i).x.1.length (l i).x.1 z→In t.length t z) (St:=fun k t u=>vf t (l k).x.1 u) (x0:=[]) ⟨T0,fun i hi=>absurd hi (Nat.not_lt_zero _)⟩ (n:=n) (fun k t _ hk=>by
  obtain⟨U,h1,h2,h3,h4⟩:=Hr S hA hk.1 (l k).ok.tg;refine⟨U,h1,h2,fun i hi z hz=>?_⟩
  by_cases e:i=k
  ·subst e;exact h4 z hz
  exact h3 z (hk.2 i (by omega) z hz))
 have G:=(hI n (Nat.le_refl _)).1;have ul:=G.kg S hA;have hE:∀i,∃e,i<n→ax A (tt n) e (l i).v (300*(l i).w-1) (3*(l i).w)∧vS (tt n) (l i).x e:=fun i=>by
  by_cases hi:i<n
  ·obtain⟨e,h⟩:=Ho S hA G (hw i hi) ((hI n (Nat.le_refl _)).2 i hi);exact⟨e,fun _=>h⟩
  exact⟨[],fun h=>absurd h hi⟩
 obtain⟨e,he⟩:=Classical.skolem.1 hE
 let o:Nat→Nu A:=fun i=>open Classical in if h:i<n then⟨(tt n,e i),(l i).v,(l i).w,(l i).hw,(he i h).1⟩else l i
 have ho:∀i,i<n→(o i).x=(tt n,e i)∧(o i).v=(l i).v∧(o i).w=(l i).w:=fun i hi=>by
  have e1:o i=⟨(tt n,e i),(l i).v,(l i).w,(l i).hw,(he i hi).1⟩:=dif_pos hi;rw[e1];exact⟨rfl,rfl,rfl⟩
 refine⟨o,fun i hi=>(ho i hi).2,?_⟩;have xk:∀i,i<((List.range n).map fun i=>(l i).x).length→Tk (((List.range n).map fun i=>(l i).x).getD i default).1.length (((List.range n).map fun i=>(l i).x).getD i default).1:=fun i hi=>by
  rw[List.length_map,List.length_range]at hi;rw[nC (fun i=>(l i).x) hi];exact mi S hA (l i).ok.tg
 have ll:((List.range n).map fun i=>(l i).x).length=n:=by simp
 have cm:=rr ((List.range n).map fun i=>(l i).x) (by rw[ll];exact hn) tt e0 (fun i hi=>mi S hA (hI i (by rw[ll]at hi;exact hi)).1) xk (fun i hi=>by
  rw[ll]at hi;rw[nC (fun i=>(l i).x) hi];exact hS i hi)
 rw[ll]at cm;have j:=tv ((List.range n).map fun i=>(l i).x) ((List.range n).map fun i=>(tt n,e i)) (by rw[ll];exact hn) (by simp) (tt n) (mi S hA G) xk cm (fun i hi=>by
  rw[ll]at hi;rw[nC (fun i=>(tt n,e i)) hi,nC (fun i=>(l i).x) hi];obtain⟨h1,h2⟩:=he i hi;refine⟨rfl,by rw[h1.len];exact aN (by omega),pC S hA h1 ((l i).sm (BJ (hw i hi))),h2⟩)
 refine B5 (j.args ⟨.cell MT,trivial⟩) (by simp) fun i j hi _=>?_;rw[List.length_map,List.length_range]at hi;unfold fm;rw[nC (fun i=>(tt n,e i)) hi,(ho i hi).1]
end
open Go Go.Eng
open Go.Tw (El aB aJ zE ai QB mS tB val In Rd TG ax qN jβ jμ gT jL)
open Go.Mx (iv)
theorem Ke (x y:List El×El)(U:List El)(ea eb ec:El)(hj:Pr prog 102 [.one (bV [x,y])] (.aF [.one (bV [(U,ea),(U,eb)]),.one (.int .i64 0)]))
  (hf:Pr prog 182 [tV U.length U,eV ea,eV eb] (eV ec)):Pr prog 148 [nX x,nX y] (.aF [nX (U,ec),.one (.int .i64 0)]):=by
 have c:=pK _ x y U ea eb ec hj hf;refine pw func148 ⟨[0,1,2,3,4,5],[]⟩ ?_;simp only[Tryz.f148,ntmps148,iz,seval];simp only[vx,T,seval,nX,nV,tC,eV,aa];refine Cg c ?_;simp only[vx,T,seval,nX,nV,tC,eV,aa];exact Ve rfl
theorem LY (x y z:List El×El)(v:El)(hi:Pr prog 147 [tV y.1.length y.1,eV y.2] (.aF [eV v,.one (.int .i64 0)]))(hm:Pr prog 106 [nX x,nX (y.1,v)] (.aF [nX z,.one (.int .i64 0)])):
  Pr prog 108 [nX x,nX y] (.aF [nX z,.one (.int .i64 0)]):=by
 refine pw func108 ⟨[0,1,2,3,4,5,6,7,17],[]⟩ ?_;simp only[Tryz.f108,ntmps108,iz,seval];simp only[vx,T,seval,nX,nV,tC,eV,aa];refine Cg hi ?_;simp only[vx,T,seval,nX,nV,tV,tC,eV,aa];refine Cg hm ?_;simp only[vx,T,seval,nX,nV,tV,tC,eV,aa];exact Ve rfl
theorem LV (x:List El×El)(ec:El)(hd:Pr prog 78 [nX x] (nX x))(hf:Pr prog 79 [tV x.1.length x.1,eV x.2] (eV ec)):Pr prog 45 [nX x] (nX (x.1,ec)):=by
 refine pw func45 ⟨[0,1,2],[]⟩ ?_;simp only[Tryz.f45,ntmps45,iz,seval];simp only[vx,T,seval,nX,nV,tC,eV,aa];refine Cg hd ?_;simp only[vx,T,seval,nX,nV,tV,tC,eV,aa];refine Cg hf ?_;simp only[vx,T,seval,nX,nV,tV,tC,eV,aa];exact Ve rfl
theorem zG (x:List El×El)(s:Int)(hs:Pr prog 105 [tV x.1.length x.1,eV x.2] (.one (.int .i64 s))):Pr prog 69 [nX x] (.one (.int .i64 s)):=by
 refine pw func69 ⟨[0,1,2],[]⟩ ?_;simp only[Tryz.f69,ntmps69,iz,seval];simp only[vx,T,seval,nX,nV,tC,eV,aa];refine Cg hs ?_;simp only[vx,T,seval,nX,nV,tV,tC,eV,aa];exact Ve rfl
theorem wW.mono {X Y h:Nat}{t:List El}(h1:X≤Y)(W:wW X h t):wW Y h t:=⟨W.tq,fun i hi=>(W.s i hi).mono h1,W.p⟩
section
variable {A:List R}(S:Go.Tw.Src 64 A)(hA:A.length≤3)
include S hA
theorem I9 {a b:Nu A}(ha:a.w≤wA)(hb:b.w≤wB):Dd 148 a b (a.v-b.v):=by
 obtain⟨U,ea,eb,na,nb,_,_,j⟩:=Ms S hA a.ok b.ok (a.sm ha) (b.sm (BJ hb)) (b.j1 hb) (b.j2 hb);have nz:=nb.neg;have c:=Ke a.x b.x U ea eb _ j (qD (mi S hA na.tg) _ _ na.len nb.len (pC S hA na (a.sm ha)) (pC S hA nb (b.sm (BJ hb))))
 have:=a.hw;have:=b.hw
 have sz:=na.sz.add nz.sz;exact⟨⟨(U,aB ea (aJ eb)),_,a.w+b.w,by omega,na.tg,Go.Tw.ao na.len nz.len,by rw[Go.Tw.val_add na.len nz.len,na.val,nz.val],sz.mono (by omega) (by omega)⟩,rfl,rfl,c⟩
theorem xH {a b:Nu A}(ha:a.w≤wA)(hb:b.w≤wB):Dd 106 a b (a.v*b.v):=by
 obtain⟨z,nz,c⟩:=Fu S hA a.ok b.ok (a.sm ha) (b.sm (BJ hb)) (b.j1 hb) (b.j2 hb) (G0 ha hb)
 have:=a.hw;have:=b.hw
 exact⟨⟨z,_,a.w+b.w,by omega,nz.mono (by omega) (by omega)⟩,rfl,rfl,c⟩
theorem Km {a b:Nu A}(ha:a.w≤wA)(hb:b.w≤wC)(h0:b.v≠R.q 0):Dd 108 a b (a.v*iv b.v):=by
 obtain⟨n,e,nn⟩:=b.inv h0;have i:=qy Go.Tw.iK (b.P2 S hA hb) (kR S hA b.ok.tg) b.ok.len (b.ok.Qj S hA) e
 let b':Nu A:=⟨(b.x.1,n),iv b.v,b.w,b.hw,nn⟩
 obtain⟨c,c1,c2,c3⟩:=xH S hA ha (b:=b') (Pc hb);exact⟨c,c1,c2,LY a.x b.x c.x n i c3⟩
theorem tE {a:Nu A}(ha:a.w≤wC):Pr prog 69 [nX a.x] (.one (.int .i64 (R.bQ a.v))):=by
 have W:=(vF S hA a.ok.tg (Nat.le_refl _)).rq.mono (show jL≤2^30 by decide);have g:=kD (by decide) (Nat.le_refl _) W a.ok.len ((a.ok.O5 S hA).mono (a.P2 S hA ha));rw[Go.Tw.bZ a.ok.tg.rd.rl a.ok.len,a.ok.val]at g;exact zG _ _ g
theorem Dr {a:Nu A}(ha:a.w≤wA):∃c:Nu A,c.v= -a.v∧c.w=a.w∧Pr prog 45 [nX a.x] (nX c.x):=by
 have tk:=mi S hA a.ok.tg;have q:=pC S hA a.ok (a.sm ha);have u3:=a.ok.tg.kg S hA;exact⟨⟨(a.x.1,aJ a.x.2),-a.v,a.w,a.hw,a.ok.neg⟩,rfl,rfl,LV _ _ (rm tk (by rw[a.ok.len];exact aN (by omega)) q) (u9 tk _ a.ok.len q)⟩
end
def Nu.int (A:List R)(z:Int)(h:z.natAbs<2^60:=by decide):Nu A:=
 ⟨(
  [],[Rat.ofInt z]),R.q (Rat.ofInt z),1,Nat.le_refl _,by
  have T0:TG A []:=⟨⟨fun i hi=>absurd hi (Nat.not_lt_zero _),fun i hi=>absurd hi (Nat.not_lt_zero _)⟩,fun i hi=>absurd hi (Nat.not_lt_zero _)⟩
  refine(ax.short (B:=64) T0 (a:=[Rat.ofInt z]) rfl fun c hc=>?_).mono (by decide) (by decide)
  rw[List.mem_singleton]at hc;subst hc;have e1:(Rat.ofInt z).num=z:=rfl;have e2:(Rat.ofInt z).den=1:=rfl;rw[e1,e2];exact⟨by omega,by decide⟩⟩
theorem uh (z:Int)(h:z.natAbs<2^60):Pr prog 66 [.one (.int .i64 z)] (nX ([],[Rat.ofInt z])):=by
 have f:=uQ (Rat.ofInt z) (Nat.lt_of_le_of_lt (Ig (by omega)) (by decide)) [];have hr:=cP z (by omega) (by omega);refine pw func66 ⟨[0,2],[]⟩ ?_;simp only[Tryz.f66,ntmps66,iz,seval];simp only[vx,T,seval];refine Cg hr ?_;simp only[vx,T,seval,QV,QC,nX,nV,tC,aa];refine Cg f ?_;simp only[vx,T,seval,QV,QC,nX,nV,tC,aa];exact Ve rfl
open Go Go.Eng
open Go.Tw (El)
section
variable {S:C}{wd io oo:Nat}
theorem Gy (x:Nb):Pr prog 107 [.one (.elt S wd io oo),nX x,.one (.int .i64 0)] (nX x):=by
 refine pw func107 ⟨[0,1,2,4,6,15,21],[]⟩ ?_;simp only[Tryz.f107,ntmps107,iz,seval];simp only[vx,T,seval,nX,nV,tC,aa];exact Ve rfl
theorem Pb {x y z:Nb}(h:Pr prog 148 [nX x,nX y] (.aF [nX z,.one (.int .i64 0)])):Pr prog 109 [.one (.elt S wd io oo),nX x,nX y] (nX z):=by
 have t:=Gy (S:=S) (wd:=wd) (io:=io) (oo:=oo) z;refine pw func109 ⟨[0,1,2,4,5,6,7,8],[]⟩ ?_;simp only[Tryz.f109,ntmps109,iz,seval];simp only[vx,T,seval,nX,nV,tC,aa];refine Cg h ?_;simp only[vx,T,seval,nX,nV,tC,aa];refine Cg t ?_;simp only[vx,T,seval,nX,nV,tC,aa];exact Ve rfl
theorem KP {x y z:Nb}(h:Pr prog 106 [nX x,nX y] (.aF [nX z,.one (.int .i64 0)])):Pr prog 70 [.one (.elt S wd io oo),nX x,nX y] (nX z):=by
 have t:=Gy (S:=S) (wd:=wd) (io:=io) (oo:=oo) z;refine pw func70 ⟨[0,1,2,4,5,6,7,8],[]⟩ ?_;simp only[Tryz.f70,ntmps70,iz,seval];simp only[vx,T,seval,nX,nV,tC,aa];refine Cg h ?_;simp only[vx,T,seval,nX,nV,tC,aa];refine Cg t ?_;simp only[vx,T,seval,nX,nV,tC,aa];exact Ve rfl
theorem PH {x y z:Nb}(h:Pr prog 108 [nX x,nX y] (.aF [nX z,.one (.int .i64 0)])):Pr prog 71 [.one (.elt S wd io oo),nX x,nX y] (nX z):=by
 have t:=Gy (S:=S) (wd:=wd) (io:=io) (oo:=oo) z;refine pw func71 ⟨[0,1,2,4,5,6,7,8],[]⟩ ?_;simp only[Tryz.f71,ntmps71,iz,seval];simp only[vx,T,seval,nX,nV,tC,aa];refine Cg h ?_;simp only[vx,T,seval,nX,nV,tC,aa];refine Cg t ?_;simp only[vx,T,seval,nX,nV,tC,aa];exact Ve rfl
end
open Go Go.Eng
open Go.Tw (El)
theorem JO {r c:Nat}(M:Nat→Nat→Nb)(P:Nat→Nb)(hn:r*c<2^30)(hr:r<2^30)(hj:dG prog 102 [.one (ak (r*c) fun p=>M (p/c) (p%c))] (.rows 37 2 (r*c) (fun p=>bw (P p))) (.int .i64 0)):
  uA prog 65 [.one (av r (fun _=>c) M)] r (fun b i=>.own b 2 (i*c) c) (.rows 37 2 (r*c) (fun p=>bw (P p))) (some (.int .i64 0)):=by
 have cc:=KO (r:=r) (c:=c) M (by omega) (by omega)
 refine yv BU mixed func65 rfl (by decide) _ (by simp[ntmps65]) ⟨[0,2,3,4,5,6,7,8,16,21,22,23,24],[(8,(.cons 13 [8,9,10,11] (.cons 14 [] .nil .nil) .nil))]⟩ (by kernel_rfl) r (fun b i=>.own b 2 (i*c) c) (.rows 37 2 (r*c) (fun p=>bw (P p))) (some (.int .i64 0)) trivial (fun _ h=>by cases h<;>trivial) ?_
 show vc T _ _ (Option.get! Tryz.f65.body) _ _;simp only[Tryz.f65,ntmps65,Option.get!,iS,iM,eO,J1];simp only[vx,T,seval,av,ak];refine Cg cc ?_;simp only[vx,T,seval,av,ak];refine cH.CC hj ?_;simp only[vx,T,seval,av,ak];refine⟨by omega,?_⟩;refine Lk (fun y:{i:Nat//i≤r}=>⟨[(2,.one .nil),(3,.one (.int .i64 0)),(4,.one (.own 1 2 (y.1*c) (r*c-y.1*c))),(6,.one (.win 2 1 0 r)),(21,.one (av r (fun _=>c) M)),(22,.one (.int .i64 r)),(23,.one (.int .i64 y.1))],
  [(1,⟨.rows 37 2 (r*c) (fun p=>bw (P p)),true⟩),(2,⟨.wins 32 1 r (fun j=>if j<y.1 then .own 1 2 (j*c) c else .nil),true⟩)],3,43⟩) (fun y=>r-y.1) ⟨0,Nat.zero_le _⟩ ?_ (fun⟨i,hi⟩=>?_)
 ·refine Sa ?_;simp only[ry,seval,rz,av,ak,Nat.zero_mul,Nat.not_lt_zero,Nat.sub_zero]
 simp only;have wi:=wI i (by omega);simp only[vx,T,seval,av,ak];refine⟨fun g=>Lg ?_,fun g=>Lg ?_⟩
 ·have TD:i<r:=by omega
  have hm:(i+1)*c≤r*c:=Nat.mul_le_mul_right _ TD;rw[Nat.add_mul,Nat.one_mul]at hm;have e2:(((r*c-i*c:Nat):Int)-(c:Int)).toNat=r*c-(i*c+c):=by omega
  simp only[vx,T,seval,av,ak,wi];refine⟨by omega,by omega,by omega,by omega,by omega,Lq ⟨i+1,by omega⟩ ?_ (by show r-(i+1)<r-i;omega)⟩;refine Sa ?_;simp only[ry,seval,rz,av,ak,Nat.add_mul,Nat.one_mul,e2];intro j hj
  by_cases h1:j=i
  ·subst h1;rw[if_pos rfl,if_pos (by omega)];exact⟨by decide,rfl,rfl,rfl,rfl⟩
  rw[if_neg h1]
  by_cases h2:j<i
  ·rw[if_pos h2,if_pos (by omega)];exact⟨by decide,rfl,rfl,rfl,rfl⟩
  rw[if_neg h2,if_neg (by omega)]
  trivial
 obtain rfl:i=r:=by omega
 simp only[vx,T,seval,av,ak,wi];exact⟨⟨rfl,rfl,by decide,⟨rfl,rfl,fun j hj=>.inl ⟨2,j*c,c,if_pos hj,fun _=>rfl⟩⟩,⟨rfl,rfl,rfl,fun _ _ _ _=>rfl⟩⟩,rfl⟩
def gA (Z P:Nat→Nb)(a f t:Nat)(p:Nat):Nb:=if a+f≤p∧p<a+t then Z (p-a)else P p
section
variable {S:C}{wd io oo:Nat}
theorem vz {N a b c f:Nat}(P Z Q:Nat→Nb)(n:Nb)(sg:Nat→Int)(ha:a+c≤N)(hb:b+c≤N)(hd:a+c≤b∨b+c≤a)(hN:N<2^38)(hf:f≤c)
  (g:∀t,f≤t→t<c→Pr prog 69 [nX (P (b+t))] (.one (.int .i64 (sg t)))) (h0:∀t,f≤t→t<c→sg t=0→Z t=P (a+t))
  (h1:∀t,f≤t→t<c→sg t≠0→Pr prog 70 [.one (.elt S wd io oo),nX n,nX (P (b+t))] (nX (Q t))∧Pr prog 109 [.one (.elt S wd io oo),nX (P (a+t)),nX (Q t)] (nX (Z t))):
  Mc prog 72 [.one (.elt S wd io oo),.one (.own 0 2 a c),.one (.own 0 2 b c),nX n,.one (.int .i64 f)] (.rows 37 2 N (fun p=>bw (P p))) (fun _ B'=>B'= .rows 37 2 N (fun p=>bw (gA Z P a f c p))):=by
 refine mw func72 ⟨[0,1,2,3,4,8,10,15,23],[]⟩ ?_;simp only[Tryz.f72,ntmps72,iz,seval];simp only[vx,T,seval,nX,nV,tC,aa];have s0:∀p,gA Z P a f f p=P p:=fun p=>if_neg (by omega);refine Lk (fun y:{t:Nat//f≤t∧t≤c}=>⟨[(0,.one (.elt S wd io oo)),(1,.one (.own 0 2 a c)),(2,.one (.own 0 2 b c)),(8,.one (.ptr 1 0)),(10,.one (.int .i64 y.1))],
  [(0,⟨.rows 37 2 N (fun p=>bw (gA Z P a f y.1 p)),true⟩),(1,⟨.var [tC n.1.length n.1,aa n.2],true⟩)],2,40⟩) (fun y=>c-y.1) ⟨f,Nat.le_refl _,hf⟩ ?_ (fun⟨t,ht,htc⟩=>?_)
 ·refine Sa ?_;simp only[ry,seval,rz,tC,aa,s0]
 simp only;have wi:=wI t (by omega);simp only[vx,T,seval];refine⟨fun gt=>Lg ?_,fun gt=>Lg ?_⟩
 ·have XJ:t<c:=by omega
  have eb:gA Z P a f t (b+t)=P (b+t):=if_neg (by omega);have ea:gA Z P a f t (a+t)=P (a+t):=if_neg (by omega);have hg:=g t ht XJ;have step:∀p j,p<N→j<2→a8 (fun p=>bw (gA Z P a f t p)) (a+t) 0 [tC (Z t).1.length (Z t).1,aa (Z t).2] p j=bw (gA Z P a f (t+1) p) j:=by
   intro p j hp hj;unfold a8 gA
   by_cases h:p=a+t
   ·rw[if_pos h,if_pos (Nat.zero_le _),if_pos (by simpa using hj),if_pos (by omega),h,Nat.add_sub_cancel_left]
    match j,hj with
    |0,_=>rfl
    |1,_=>rfl
   rw[if_neg h]
   dsimp only
   by_cases h2:a+f≤p∧p<a+t
   ·rw[if_pos h2,if_pos (by omega)]
   rw[if_neg h2,if_neg (by omega)]
  simp only[vx,T,seval,eb,bw,tC,aa];refine⟨by omega,Cg hg ?_⟩;simp only[vx,T,seval,eb,bw,tC,aa];refine⟨fun g2=>Lg ?_,fun g2=>Lg ?_⟩
  ·obtain⟨c1,c2⟩:=h1 t ht XJ (by simpa using g2);simp only[vx,T,seval,eb,ea,bw,tC,aa];refine⟨by omega,by omega,Cg c1 ?_⟩;simp only[vx,T,seval,nX,nV,eb,ea,bw,tC,aa];refine Cg c2 ?_;simp only[vx,T,seval,nX,nV,eb,ea,bw,tC,aa,wi];refine⟨by omega,Lq ⟨t+1,by omega,by omega⟩ ?_ (by show c-(t+1)<c-t;omega)⟩;refine Sa ?_;simp only[ry,seval,rz,tC,aa];exact step
  have e:=h0 t ht XJ (by simpa using g2);simp only[vx,T,seval,wi];refine Lq ⟨t+1,by omega,by omega⟩ ?_ (by show c-(t+1)<c-t;omega);refine Sa ?_;simp only[ry,seval,rz,tC,aa];intro p j hp hj;unfold gA
  by_cases h:p=a+t
  ·rw[if_neg (by omega),if_pos (by omega),h,Nat.add_sub_cancel_left,e]
  by_cases h2:a+f≤p∧p<a+t
  ·rw[if_pos h2,if_pos (by omega)]
  rw[if_neg h2,if_neg (by omega)]
 obtain rfl:t=c:=by omega
 simp only[vx,T,seval]
end
open Go Go.Eng
open Go.Tw (El ax TG)
open Go.Mx (sm iv)
theorem OH {A:List R}{n:Nat}{p:Nat→Nu A→Prop}(d:Nu A)(h:∀i,i<n→∃c,p i c):∃f:Nat→Nu A,∀i,i<n→p i (f i):=by
 have h':∀i,∃c,i<n→p i c:=fun i=>by
  by_cases hi:i<n
  ·obtain⟨c,hc⟩:=h i hi;exact⟨c,fun _=>hc⟩
  exact⟨d,fun h=>absurd h hi⟩
 exact Classical.skolem.1 h'
theorem Pp {A:List R}{r c:Nat}{p:Nat→Nat→Nu A→Prop}(d:Nu A)(h:∀i j,i<r→j<c→∃x,p i j x):∃f:Nat→Nat→Nu A,∀i j,i<r→j<c→p i j (f i j):=by
 have h':∀i,∃f:Nat→Nu A,i<r→∀j,j<c→p i j (f j):=fun i=>by
  by_cases hi:i<r
  ·obtain⟨f,hf⟩:=OH d fun j hj=>h i j hi hj;exact⟨f,fun _=>hf⟩
  exact⟨fun _=>d,fun h=>absurd h hi⟩
 obtain⟨f,hf⟩:=Classical.skolem.1 h';exact⟨f,fun i j hi hj=>hf i hi j hj⟩
theorem BC (A:List R)(z:Int)(h:z.natAbs<2^60):Pr prog 19 [.one (.int .i64 z)] (nX (Nu.int A z h).x):=kQ z (by omega) (by omega)
theorem Pl (A:List R)(z:Int)(h:z.natAbs<2^60):(Nu.int A z h).w=1:=rfl
section
variable {A:List R}(S:Go.Tw.Src 64 A)(hA:A.length≤3)
include S hA
theorem PT {n n' p q:Nat}(a b:Nat→Nu A)(hn:n<2^38)(TL:n≤n')(ha:∀i,i<n→(a i).w≤p)(hb:∀i,i<n→(b i).w≤q)(h1:1+n*(p+q)≤wA)(h2:p+q≤wB):
  ∃c:Nu A,c.v=sm n (fun i=>(a i).v*(b i).v)∧c.w≤1+n*(p+q)∧Pr prog 42 [.one (oQ n a),.one (oQ n' b)] (nX c.x):=by
 have hBA:wB≤wA:=by decide
 obtain⟨P,hP⟩:=OH (n:=n) (p:=fun i c=>c.v=(a i).v*(b i).v∧c.w≤p+q∧Pr prog 76 [nX (a i).x,nX (b i).x] (nX c.x)) (a 0) fun i hi=>by
  have k1:=ha i hi;have k2:=hb i hi;obtain⟨c,c1,c2,c3⟩:=sk S hA (a:=a i) (b:=b i) (by omega) (by omega);exact⟨c,c1,by omega,HS c3⟩
 obtain⟨s,e0,hI,hS⟩:=Go.Tw.chain (α:=Nu A) (I:=fun k s=>s.v=sm k (fun i=>(a i).v*(b i).v)∧s.w≤1+k*(p+q)) (St:=fun k s t=>Pr prog 75 [nX s.x,nX (P k).x] (nX t.x)) (x0:=Nu.int A 0) ⟨rfl,by rw[Pl];omega⟩ (n:=n) (fun k s hk hs=>by
  obtain⟨p1,p2,_⟩:=hP k hk;have hm:(k+1)*(p+q)≤n*(p+q):=Nat.mul_le_mul_right _ hk;rw[Nat.add_mul,Nat.one_mul]at hm;obtain⟨c,c1,c2,c3⟩:=LM S hA (a:=s) (b:=P k) (by omega) (by omega);refine⟨c,Oj c3,by rw[c1,hs.1,p1];rfl,by rw[Nat.add_mul,Nat.one_mul];omega⟩)
 obtain⟨v,w⟩:=hI n (Nat.le_refl _);refine⟨s n,v,w,Ob (fun i=>(a i).x) (fun i=>(b i).x) (fun i=>(s i).x) (fun i=>(P i).x) hn TL ?_ (fun i hi=>(hP i hi).2.2) hS⟩;rw[e0];exact BC A 0 (by decide)
theorem Lo {r n n' p q:Nat}(m:Nat→Nat→Nu A)(v:Nat→Nu A)(hr:r<2^38)(hn:n<2^38)(TL:n≤n')(ha:∀i j,i<r→j<n→(m i j).w≤p)(hb:∀i,i<n→(v i).w≤q)(h1:1+n*(p+q)≤wA)(h2:p+q≤wB):
  ∃o:Nat→Nu A,(∀i,i<r→(o i).v=sm n (fun j=>(m i j).v*(v j).v)∧(o i).w≤1+n*(p+q))∧Pr prog 11 [.one (bK r (fun _=>n) m),.one (oQ n' v)] (.one (oQ r o)):=by
 obtain⟨o,ho⟩:=OH (n:=r) (m 0 0) fun i hi=>PT S hA (m i) v hn TL (fun j hj=>ha i j hi hj) hb h1 h2;exact⟨o,fun i hi=>⟨(ho i hi).1,(ho i hi).2.1⟩,G9 (fun _=>n) (fun i j=>(m i j).x) (fun j=>(v j).x) (fun i=>(o i).x) hr fun i hi=>(ho i hi).2.2⟩
theorem Hw {n n':Nat}(a b:Nat→Nu A)(hn:n<2^38)(h:n=n'→∀i,i<n→(a i).w≤wA∧(b i).w≤wB∧((a i).v=(b i).v∨(a i).w+(b i).w≤wC)){r:Bool}(hr:r=true↔n=n'∧∀i,i<n→(a i).v=(b i).v):
  Pr prog 26 [.one (oQ n a),.one (oQ n' b)] (.one (.bool r)):=by
 refine KX (fun i=>(a i).x) (fun i=>(b i).x) hn (fun i=>open Classical in decide ((a i).v=(b i).v)) (fun e i hi=>?_) (by rw[hr];simp);obtain⟨h1,h2,h3⟩:=h e i hi;exact Ft S hA h1 h2 h3 (by simp)
theorem KW {n n':Nat}(c c':Nat→Nat)(a b:Nat→Nat→Nu A)(hn:n<2^38)(hc:∀i,i<n→c i<2^38)(h:n=n'→∀i j,i<n→c i=c' i→j<c i→(a i j).w≤wA∧(b i j).w≤wB∧((a i j).v=(b i j).v∨(a i j).w+(b i j).w≤wC))
  {r:Bool} (hr:r=true↔n=n'∧∀i,i<n→c i=c' i∧∀j,j<c i→(a i j).v=(b i j).v):Pr prog 24 [.one (bK n c a),.one (bK n' c' b)] (.one (.bool r)):=by
 refine FU c c' (fun i j=>(a i j).x) (fun i j=>(b i j).x) hn (fun i=>open Classical in decide (c i=c' i∧∀j,j<c i→(a i j).v=(b i j).v)) (fun e i hi=>?_) (by rw[hr];simp);exact Hw S hA (a i) (b i) (hc i hi) (fun e2 j hj=>h e i j hi e2 hj) (by simp)
end
open Go Go.Eng
open Go.Tw (El)
def eE (x:Nat→Nat→Nb)(a b:Nat):Nat→Nat→Nb:=fun i=>if i=a then x b else if i=b then x a else x i
def Js (r c k q:Nat)(x y:Nat→Nat→Nb)(t:Nat):Prop:=
 ∃sg:Nat→Int,(∀i,q≤i→i<r→Pr prog 33 [nX (x i k)] (.one (.int .i64 (sg i))))∧q≤t∧t≤r∧(∀i,q≤i→i<t→sg i=0)∧
  ((t=r∧y=x)∨(t<r∧sg t≠0∧∃(T:Nat→Nb) (Z:Nat→Nat→Nb) (s2:Nat→Int),Pr prog 80 [.one (ak c (x t)),nX (x t k)] (.one (ak c T))∧
   (∀i,i<r→i≠q→Pr prog 33 [nX (eE x q t i k)] (.one (.int .i64 (s2 i)))∧(s2 i≠0→Pr prog 81 [.one (ak c (eE x q t i)),.one (ak c T),nX (eE x q t i k)] (.one (ak c (Z i)))))∧
   y=fun i=>if i=q then T else if s2 i=0 then eE x q t i else Z i))
def bF (x:Nat→Nat→Nb)(T:Nat→Nb)(Z:Nat→Nat→Nb)(s2:Nat→Int)(q t n:Nat):Nat→Nat→Nb:=fun i=>if i=q then T else if i<n then(if s2 i=0 then eE x q t i else Z i)else eE x q t i
def fX (l:List Nat):List Int:=l.map fun(n:Nat)=>(n:Int)
theorem b6 {l:List Nat}:(fX l).length=l.length:=List.length_map _
theorem Fh {r c:Nat}(xs:Nat→Nat→Nat→Nb)(ps:Nat→List Nat)(ts:Nat→Nat)(hr:r<2^30)(hc:c<2^30)(h0:r=0→c=0)(p0:ps 0=[])(hq:∀k,k≤c→(ps k).length≤r)
  (hs:∀k,k<c→Js r c k (ps k).length (xs k) (xs (k+1)) (ts k)) (hp:∀k,k<c→ps (k+1)=if ts k<r then ps k++[k]else ps k):
  Pr prog 46 [.one (av r (fun _=>c) (xs 0))] (.aF [.one (av r (fun _=>c) (xs c)),.one (.ints .i64 (fX (ps c)))]):=by
 have cl:=tc (fun _=>c) (xs 0) (k:=c) (by split;exact h0 (by assumption);rfl) (by omega:r<2^38);refine pw func46 ⟨[0,2,3,4,5,6,7,8,9,16,36,42,75,91],[(11,(.cons 13 [2,3,14] (.cons 15 [] .nil .nil) .nil))]⟩ ?_;simp only[Tryz.f46,ntmps46,iz,seval];simp only[vx,T,seval,av,ak];refine⟨by omega,?_⟩;refine Lk (fun y:{k:Nat//k≤c}=>⟨[(0,.one (av r (fun _=>c) (xs 0))),(2,.one .nil),(3,.one .nil),(4,.one (.own 1 1 0 r)),(5,.one (.own 2 1 0 (ps y.1).length)),(6,.one (.int .i64 y.1))],[(1,⟨.rows 32 1 r (fun i _=>ak c (xs y.1 i)),true⟩),(2,⟨.ints 3 .i64 (fX (ps y.1)),true⟩)],3,117⟩) (fun y=>c-y.1) ⟨0,Nat.zero_le _⟩ ?_ (fun⟨k,hk⟩=>?_)
 ·refine Sa ?_;simp only[ry,seval,rz,av,ak,p0,fX,List.map_nil,Nat.not_lt_zero,Nat.sub_zero]
 simp only;have wi:=wI k (by omega);simp only[vx,T,seval,av,ak];refine Cg cl ?_;simp only[vx,T,seval,av,ak];refine⟨fun g=>Lg ?_,fun g=>Lg ?_⟩
 ·obtain⟨sg,s0,tq,tr,sz,hy⟩:=hs k (by omega);have hqk:=hq k (by omega);simp only[vx,T,seval,av,ak];refine Lk (fun y:{p:Nat//(ps k).length≤p∧p≤ts k}=>⟨[(0,.one (av r (fun _=>c) (xs 0))),(2,.one .nil),(3,.one .nil),(4,.one (.own 1 1 0 r)),(5,.one (.own 2 1 0 (ps k).length)),(6,.one (.int .i64 k)),(7,.one (.int .i64 (ps k).length)),(8,.one (.int .i64 y.1))],[(1,⟨.rows 32 1 r (fun i _=>ak c (xs k i)),true⟩),(2,⟨.ints 3 .i64 (fX (ps k)),true⟩)],3,117⟩) (fun y=>ts k-y.1) ⟨(ps k).length,Nat.le_refl _,tq⟩ ?_ (fun⟨p,TK,Tp⟩=>?_)
  ·refine Sa ?_;simp only[ry,seval,rz,av,ak]
  simp only;have wp:=wI p (by omega);simp only[vx,T,seval,av,ak];refine⟨fun h1=>Lg ?_,fun h1=>Lg ?_⟩
  ·have Ym:p<r:=by omega
   have sp:=s0 p TK Ym;simp only[vx,T,seval,av,ak,bw,tC,aa];refine⟨by omega,by omega,Cg sp ?_⟩;simp only[vx,T,seval,av,ak];refine⟨fun g2=>Lg ?_,fun g2=>Lg ?_⟩
   ·have hpt:p<ts k:=by
     rcases Nat.lt_or_ge p (ts k)with h|h
     ·exact h
     obtain rfl:p=ts k:=by omega
     rcases hy with⟨h,_⟩|⟨_,h,_⟩
     ·omega
     exact absurd g2 h
    simp only[vx,T,seval,wp];refine Lq ⟨p+1,by omega,by omega⟩ ?_ (by show ts k-(p+1)<ts k-p;omega);refine Sa ?_;simp only[ry,seval,rz,av,ak]
   have hpt:¬p<ts k:=fun h=>g2 (sz p TK h);obtain rfl:p=ts k:=by omega
   have ht:ts k<r:=Ym;obtain⟨T',Z,s2,hT,hZ,hx⟩:∃(T:Nat→Nb) (Z:Nat→Nat→Nb) (s2:Nat→Int),Pr prog 80 [.one (ak c (xs k (ts k))),nX (xs k (ts k) k)] (.one (ak c T))∧
     (∀i,i<r→i≠(ps k).length→Pr prog 33 [nX (eE (xs k) (ps k).length (ts k) i k)] (.one (.int .i64 (s2 i)))∧(s2 i≠0→Pr prog 81 [.one (ak c (eE (xs k) (ps k).length (ts k) i)),.one (ak c T),nX (eE (xs k) (ps k).length (ts k) i k)] (.one (ak c (Z i)))))∧
     xs (k+1)=fun i=>if i=(ps k).length then T else if s2 i=0 then eE (xs k) (ps k).length (ts k) i else Z i:=by
    rcases hy with⟨h,_⟩|⟨_,_,h⟩
    ·omega
    exact h
   clear hy;have ept:((ts k:Int)=(r:Int))=False:=eq_false (by omega);have sw:a8 (a8 (fun i (_:Nat)=>C.rows 2 c fun j=>bw (xs k i j)) (ps k).length 0 [C.rows 2 c fun j=>bw (xs k (ts k) j)]) (ts k) 0 [C.rows 2 c fun j=>bw (xs k (ps k).length j)] (ps k).length 0=C.rows 2 c fun j=>bw (xs k (ts k) j):=by
    by_cases h:(ps k).length=ts k
    ·simp[a8,h]
    simp[a8,h]
   simp only[vx,T,seval,av,ak,ept,bw,tC,aa,sw];refine⟨by omega,by omega,by omega,by omega,by omega,by omega,by omega,by omega,Cg hT ?_⟩;simp only[vx,T,seval,av,ak];refine⟨by omega,?_⟩;refine Lk (fun y:{n:Nat//n≤r}=>⟨[(0,.one (av r (fun _=>c) (xs 0))),(2,.one .nil),(3,.one .nil),(4,.one (.own 1 1 0 r)),(5,.one (.own 2 1 0 (ps k).length)),(6,.one (.int .i64 k)),(7,.one (.int .i64 (ps k).length)),(9,.one (.int .i64 y.1))],[(1,⟨.rows 32 1 r (fun i _=>ak c (bF (xs k) T' Z s2 (ps k).length (ts k) y.1 i)),true⟩),(2,⟨.ints 3 .i64 (fX (ps k)),true⟩)],3,117⟩) (fun y=>r-y.1) ⟨0,Nat.zero_le _⟩ ?_ (fun⟨n,hn⟩=>?_)
   ·refine Sa ?_;simp only[ry,seval,rz,av,ak];intro i j hi hj;obtain rfl:j=0:=by omega
    rw[show (fun(a:Nat)=>bw (bF (xs k) T' Z s2 (ps k).length (ts k) 0 i a))=fun a=>bw ((if i=(ps k).length then T' else eE (xs k) (ps k).length (ts k) i) a)from rfl]
    by_cases h1:i=(ps k).length
    ·simp[a8,h1]
    by_cases h2:i=ts k
    ·simp[a8,eE,h1,h2,show ¬ts k=(ps k).length by omega]
    simp[a8,eE,h1,h2]
   simp only;have wn:=wI n (by omega);simp only[vx,T,seval,av,ak];refine⟨fun g3=>Lg ?_,fun g3=>Lg ?_⟩
   ·have TE:n<r:=by omega
    simp only[vx,T,seval,av,ak];refine⟨fun h2=>Lg ?_,fun h2=>Lg ?_⟩
    ·have Td:n≠(ps k).length:=by omega
     have er:bF (xs k) T' Z s2 (ps k).length (ts k) n n=eE (xs k) (ps k).length (ts k) n:=by simp[bF,Td]
     have eq':bF (xs k) T' Z s2 (ps k).length (ts k) n (ps k).length=T':=by simp[bF]
     obtain⟨hz1,Ye⟩:=hZ n TE Td;simp only[vx,T,seval,av,ak,bw,tC,aa,er];refine⟨by omega,by omega,Cg hz1 ?_⟩;simp only[vx,T,seval,av,ak];refine⟨fun g4=>Lg ?_,fun g4=>Lg ?_⟩
     ·simp only[vx,T,seval,av,ak,bw,tC,aa,er,eq'];refine⟨by omega,by omega,by omega,by omega,Cg (Ye (by simpa using g4)) ?_⟩;simp only[vx,T,seval,av,ak,wn];refine⟨by omega,Lq ⟨n+1,by omega⟩ ?_ (by show r-(n+1)<r-n;omega)⟩;refine Sa ?_;simp only[ry,seval,rz,av,ak];intro i j hi hj;obtain rfl:j=0:=by omega
      by_cases h1:i=n
      ·have e1:bF (xs k) T' Z s2 (ps k).length (ts k) (n+1) i=Z n:=by simp[bF,h1,Td,show ¬s2 n=0 by simpa using g4]
       simp[a8,h1,←h1▸e1]
      have e1:bF (xs k) T' Z s2 (ps k).length (ts k) (n+1) i=bF (xs k) T' Z s2 (ps k).length (ts k) n i:=by simp[bF,show (i<n+1)=(i<n) by simp;omega]
      simp[a8,h1,e1]
     have e0:s2 n=0:=by simpa using g4
     simp only[vx,T,seval,av,ak,wn];refine Lq ⟨n+1,by omega⟩ ?_ (by show r-(n+1)<r-n;omega);refine Sa ?_;simp only[ry,seval,rz,av,ak];intro i j hi hj;have e1:bF (xs k) T' Z s2 (ps k).length (ts k) (n+1) i=bF (xs k) T' Z s2 (ps k).length (ts k) n i:=by
      by_cases h1:i=n
      ·simp[bF,h1,Td,e0]
      simp[bF,show (i<n+1)=(i<n) by simp;omega]
     rw[e1]
    have Td:n=(ps k).length:=by omega
    simp only[vx,T,seval,av,ak,wn];refine Lq ⟨n+1,by omega⟩ ?_ (by show r-(n+1)<r-n;omega);refine Sa ?_;simp only[ry,seval,rz,av,ak];intro i j hi hj;have e1:bF (xs k) T' Z s2 (ps k).length (ts k) (n+1) i=bF (xs k) T' Z s2 (ps k).length (ts k) n i:=by
     by_cases h1:i=n
     ·simp[bF,h1,Td]
     simp[bF,show (i<n+1)=(i<n) by simp;omega]
    rw[e1]
   have TE:n=r:=by omega
   have UD:=hp k (by omega);rw[if_pos ht]at UD;have et:(fX (ps k)).take (ps k).length=fX (ps k):=by rw[←b6,List.take_length]
   have ea:fX (ps k)++[(k:Int)]=fX (ps (k+1)):=by rw[UD];simp[fX]
   have el:(fX (ps (k+1))).length=(ps (k+1)).length:=b6;have el':(fX (ps k)).length=(ps k).length:=b6;simp only[vx,T,seval,av,ak,et,ea,el,el',wi];refine⟨by omega,Lq ⟨k+1,by omega⟩ ?_ (by show c-(k+1)<c-k;omega)⟩;refine Sa ?_;simp only[ry,seval,rz,av,ak,hx];intro i j hi hj;rw[show bF (xs k) T' Z s2 (ps k).length (ts k) n i=if i=(ps k).length then T' else if s2 i=0 then eE (xs k) (ps k).length (ts k) i else Z i by simp only[bF,if_pos (show i<n by omega)]]
  have Ym:p=r:=by omega
  have htr:ts k=r:=by omega
  have hx:xs (k+1)=xs k:=by
   rcases hy with⟨_,h⟩|⟨h,_⟩
   ·exact h
   omega
  have UD:=hp k (by omega);rw[if_neg (by omega)]at UD;simp only[vx,T,seval,av,ak,Ym,wi];refine Lq ⟨k+1,by omega⟩ ?_ (by show c-(k+1)<c-k;omega);refine Sa ?_;simp only[ry,seval,rz,av,ak,hx,UD]
 obtain rfl:k=c:=by omega
 have e:(fX (ps k)).take (ps k).length=fX (ps k):=by rw[←b6,List.take_length]
 simp only[vx,T,seval,av,ak,e];exact fT.refl _
open Go Go.Eng
open Go.Tw (El)
def xT (z:Int):Nb:=([],[Rat.ofInt z])
def yw (z:Int)(j:Nat):Nb:=if(j:Int)=z then xT 1 else xT 0
theorem IV (l:List Int)(z:Int):z∉l∨∃i:Nat,i<l.length∧l.getD i 0=z∧∀j,j<i→l.getD j 0≠z:=by
 by_cases h:∃i:Nat,i<l.length∧l.getD i 0=z
 ·obtain⟨i,h1,h2⟩:=h
  right
  induction i using Nat.strongRecOn with
  |ind i ih=>
   by_cases h3:∃j,j<i∧l.getD j 0=z
   ·obtain⟨j,h4,h5⟩:=h3;exact ih j h4 (by omega) h5
   exact⟨i,h1,h2,fun j hj e=>h3 ⟨j,hj,e⟩⟩
 left
 intro hm;obtain⟨i,hi,e⟩:=List.mem_iff_getElem.1 hm;exact h ⟨i,hi,by rw[X7,X8 hi,←e];rfl⟩
theorem yD {l:List Int}{i:Nat}(h:i<l.length):l.getD i 0∈l:=by
 rw[X7,X8 h];exact List.getElem_mem h
theorem M4 (l:List Int)(z:Int):∃r:Int,(0≤r↔z∈l)∧((∀i,i<l.length→l.getD i 0≠z)→r= -1)∧(∀i:Nat,i<l.length→l.getD i 0=z→(∀j,j<i→l.getD j 0≠z)→r=i):=by
 rcases IV l z with h|⟨i,h1,h2,h3⟩
 ·exact⟨-1,by simp[h],fun _=>rfl,fun i hi e=>absurd (e▸yD hi) h⟩
 refine⟨i,⟨fun _=>h2▸yD h1,fun _=>by omega⟩,fun h=>absurd h2 (h i h1),fun j h4 h5 h6=>?_⟩
 rcases Nat.lt_trichotomy i j with h|h|h
 ·exact absurd h2 (h6 i h)
 ·rw[h]
 exact absurd h5 (h3 j h)
theorem BD (l:List Int)(z r:Int)(hl:l.length<2^38)(h1:(∀i,i<l.length→l.getD i 0≠z)→r= -1)(h2:∀i:Nat,i<l.length→l.getD i 0=z→(∀j,j<i→l.getD j 0≠z)→r=i):Pr prog 77 [.one (.ints .i64 l),.one (.int .i64 z)] (.one (.int .i64 r)):=by
 refine pw func77 ⟨[0,1,4,5,7,8,9,16],[]⟩ ?_;simp only[Tryz.f77,ntmps77,iz,seval];simp only[vx,T,seval];refine Lk (fun y:{i:Nat//i≤l.length∧∀j,j<i→l.getD j 0≠z}=>⟨[(0,.one (.ints .i64 l)),(1,.one (.int .i64 z)),(4,.one (.int .i64 0)),(7,.one (.int .i64 l.length)),(8,.one (.int .i64 y.1))],[],1,19⟩) (fun y=>l.length-y.1) ⟨0,Nat.zero_le _,fun j hj=>absurd hj (Nat.not_lt_zero _)⟩ ?_ (fun⟨i,hi,hb⟩=>?_)
 ·refine Sa ?_;simp only[ry,seval,rz]
 simp only;have wi:=wI i (by omega);simp only[vx,T,seval];refine⟨fun g=>Lg ?_,fun g=>Lg ?_⟩
 ·simp only[vx,T,seval];refine⟨by omega,?_⟩;refine⟨fun g2=>Lg ?_,fun g2=>Lg ?_⟩
  ·have e:=h2 i (by omega) g2.symm hb;simp only[vx,T,seval];exact Ve (by rw[e])
  simp only[vx,T,seval,wi];refine Lq ⟨i+1,by omega,fun j hj=>?_⟩ ?_ (by show l.length-(i+1)<l.length-i;omega)
  ·by_cases e:j=i
   ·rw[e];exact fun h=>g2 h.symm
   exact hb j (by omega)
  refine Sa ?_;simp only[ry,seval,rz]
 have e:=h1 fun j hj=>hb j (by omega);simp only[vx,T,seval];exact Ve (by rw[e])
theorem vH (l:List Int)(z:Int)(hl:l.length<2^38){b:Bool}(hb:b=true↔z∈l):Pr prog 43 [.one (.ints .i64 l),.one (.int .i64 z)] (.one (.bool b)):=by
 obtain⟨r,h,h1,h2⟩:=M4 l z;have c:=BD l z r hl h1 h2;obtain rfl:b=decide (0≤r):=by rw[Bool.eq_iff_iff,hb,←h,decide_eq_true_iff]
 refine pw func43 ⟨[0,1,4],[]⟩ ?_;simp only[Tryz.f43,ntmps43,iz,seval];simp only[vx,T,seval];refine Cg c ?_;simp only[vx,T,seval];exact Ve rfl
end Go.Proofs.YthnkehdgnagmnaaGreat
namespace Go.Mx
open Go Go.R
def iH {α:Type}(p:List Nat)(f:Nat→α)(b:Nat→α):Nat→Nat→α
 |0=>b
 |i+1=>fun j=>if j=p.getD i 0 then f i else iH p f b i j
theorem j3 {α:Type}{p:List Nat}{f b:Nat→α}{j:Nat}:∀{n:Nat},(∀i,i<n→j≠p.getD i 0)→iH p f b n j=b j
 |0,_=>rfl
 |n+1,h=>by
  show(if j=p.getD n 0 then f n else iH p f b n j)=b j
  rw[if_neg (h n (by omega)),j3 fun i hi=>h i (by omega)]
theorem xi {α:Type}{p:List Nat}{f b:Nat→α}(hp:∀i j,i<j→j<p.length→p.getD i 0<p.getD j 0){i:Nat}:∀{n:Nat},n≤p.length→i<n→iH p f b n (p.getD i 0)=f i
 |n+1,h,hi=>by
  show(if p.getD i 0=p.getD n 0 then f n else iH p f b n (p.getD i 0))=f i
  by_cases e:i=n
  ·rw[e,if_pos rfl]
  rw[if_neg (by have:=hp i n (by omega) (by omega);omega),xi hp (by omega) (by omega)]
theorem nO {α β:Type}(g:α→β){p:List Nat}{f b:Nat→α}{j:Nat}:∀{n:Nat},g (iH p f b n j)=iH p (fun i=>g (f i)) (fun i=>g (b i)) n j
 |0=>rfl
 |n+1=>by
  show g (if j=p.getD n 0 then f n else iH p f b n j)=if j=p.getD n 0 then g (f n)else _
  rw[←nO g]
  split<;>rfl
theorem dN {p:List Nat}{k:Nat}:k∈p↔∃i,i<p.length∧k=p.getD i 0:=by
 refine⟨fun h=>?_,fun⟨i,hi,e⟩=>?_⟩
 ·obtain⟨i,hi,e⟩:=List.mem_iff_getElem.1 h;exact⟨i,hi,by rw[X7,X8 hi,←e];rfl⟩
 rw[e,X7,X8 hi];exact List.getElem_mem hi
section
variable {r k:Nat}{N:Mt}{p:List Nat}
theorem FB.row (E:FB r k N p){c:Nat}(hc:k≤c)(f:Nat→R){i:Nat}(hi:i<p.length):sm c (fun j=>N i j*iH p f (fun _=>q 0) p.length j)=f i:=by
 have TD:i<r:=Nat.lt_of_lt_of_le hi E.len;rw[gO (j:=p.getD i 0) (by have:=E.lt i hi;omega) fun j _ RE=>?_,E.one i i TD hi,if_pos rfl,xi E.asc (Nat.le_refl _) hi,one_mul]
 by_cases h:∃i',i'<p.length∧j=p.getD i' 0
 ·obtain⟨i',h1,rfl⟩:=h;rw[E.one i i' TD h1,if_neg (fun e=>RE (by rw[e])),zero_mul]
 rw[j3 fun i' SQ e=>h ⟨i',SQ,e⟩,mul_zero]
theorem FB.NP (E:FB r k N p){c:Nat}(hc:c≤k)(y:Nat→R){i:Nat}(h1:p.length≤i)(h2:i<r):sm c (fun j=>N i j*y j)=q 0:=
 sf fun j hj=>by rw[E.low i j h1 h2 (by omega),zero_mul]
theorem FB.PD {c:Nat}(E:FB r c N p){k:Nat}(hk:k<c)(h:k∉p):nN r c N (iH p (fun i=> -N i k) (fun j=>if j=k then q 1 else q 0) p.length):=by
 intro i hi
 by_cases V3:i<p.length
 ·have e:∀j,iH p (fun i=> -N i k) (fun j=>if j=k then q 1 else q 0) p.length j=iH p (fun i=> -N i k) (fun _=>q 0) p.length j+if j=k then q 1 else q 0:=by
   intro j
   by_cases h1:∃i',i'<p.length∧j=p.getD i' 0
   ·obtain⟨i',h2,rfl⟩:=h1;rw[xi E.asc (Nat.le_refl _) h2,xi E.asc (Nat.le_refl _) h2,if_neg (fun e=>h (by rw[←e];exact dN.2 ⟨i',h2,rfl⟩)),add_zero]
   rw[j3 fun i' SQ e=>h1 ⟨i',SQ,e⟩,j3 fun i' SQ e=>h1 ⟨i',SQ,e⟩,zero_add]
  rw[cN (g:=fun j=>N i j*iH p (fun i=> -N i k) (fun _=>q 0) p.length j+N i j*if j=k then q 1 else q 0) fun j _=>by rw[e,mul_add],qo,E.row (Nat.le_refl _) _ V3,
   gO hk fun j _ RE=>by rw[if_neg RE,mul_zero],if_pos rfl,mul_one,neg_add]
 exact E.NP (Nat.le_refl _) _ (by omega) hi
end
def free (p:List Nat):Nat→Nat
 |0=>0
 |k+1=>free p k+if p.contains k then 0 else 1
theorem yH {p:List Nat}{x:Nat}:∀{k:Nat},k≤x→free (p++[x]) k=free p k
 |0,_=>rfl
 |k+1,h=>by
  rw[free,free,yH (by omega)]
  have:(p++[x]).contains k=p.contains k:=by
   rw[Bool.eq_iff_iff,List.contains_iff_mem,List.contains_iff_mem,List.mem_append,List.mem_singleton];exact⟨fun h=>h.resolve_right (by omega),.inl⟩
  rw[this]
theorem oU (r:Nat)(M:Mt):∀k,free (red r M k).2 k+(red r M k).2.length=k
 |0=>rfl
 |k+1=>by
  have ih:=oU r M k;have E:=bz r M k;rw[red];unfold gB;have hk:(red r M k).2.contains k=false:=by
   rw[←Bool.not_eq_true,List.contains_iff_mem,dN];rintro⟨i,hi,e⟩
   have:=E.lt i hi
   omega
  split
  ·rw[free,yH (Nat.le_refl _),X6,List.length_singleton]
   have:((red r M k).2++[k]).contains k=true:=by rw[List.contains_iff_mem];simp
   rw[if_pos this];omega
  rw[free,if_neg (by rw[hk];decide)];omega
def gp (r c:Nat)(M N:Mt):Prop:=∀i j,i<r→j<c→M i j=N i j
theorem r7 {r c k:Nat}{M N:Mt}(h:gp r c M N)(hk:k<c):∀n p,p+n≤r→jM M k n p=jM N k n p
 |0,_,_=>rfl
 |n+1,p,hp=>by
  unfold jM;rw[h p k (by omega) hk,r7 h hk n (p+1) (by omega)]
theorem ya {r c k:Nat}{s t:Mt×List Nat}(h:gp r c s.1 t.1)(h2:s.2=t.2)(hk:k<c)(hl:s.2.length≤r):gp r c (gB r k s).1 (gB r k t).1∧(gB r k s).2=(gB r k t).2:=by
 obtain⟨M,p⟩:=s;obtain⟨N,p'⟩:=t;obtain rfl:p=p':=h2;simp only at h hl;unfold gB;simp only;rw[r7 h hk (r-p.length) p.length (by omega)]
 split
 ·rename_i hf
  refine⟨fun i j hi hj=>?_,rfl⟩;have ht:=(jG N k (r-p.length) p.length).1
  generalize jM N k (r-p.length) p.length=t at hf ht
  have hs:gp r c (gy M p.length t) (gy N p.length t):=by
   intro i j hi hj;unfold gy
   split
   ·exact h t j hf hj
   split
   ·exact h _ j (by omega) hj
   exact h i j hi hj
  show fx _ _ _ i j=fx _ _ _ i j;unfold fx;rw[hs _ j (show p.length<r by omega) hj,hs _ k (show p.length<r by omega) hk,hs i j hi hj,hs i k hi hk]
 exact⟨h,rfl⟩
theorem pH {r c:Nat}{M N:Mt}(h:gp r c M N):∀k,k≤c→gp r c (red r M k).1 (red r N k).1∧(red r M k).2=(red r N k).2
 |0,_=>⟨h,rfl⟩
 |k+1,hk=>by
  obtain⟨h1,h2⟩:=pH h k (by omega);exact ya h1 h2 hk (bz r M k).len
end Go.Mx
namespace Go.Proofs.YthnkehdgnagmnaaGreat
open Go.Proofs.Tryz
open Go Go.Eng
open Go.Tw (El)
open Go.Mx (iH free)
theorem pq (p:List Nat)(i:Nat):(fX p).getD i 0=((p.getD i 0:Nat):Int):=by
 rw[X7,X7,fX,List.getElem?_map]
 cases p[i]? <;>rfl
theorem C9 {p:List Nat}{k:Nat}:(k:Int)∈fX p↔k∈p:=by
 unfold fX;rw[List.mem_map];refine⟨fun⟨a,h,e⟩=>?_,fun h=>⟨k,h,rfl⟩⟩;obtain rfl:a=k:=by omega
 exact h
def fl (p:List Nat):Nat→List Nat
 |0=>[]
 |k+1=>if k∈p then fl p k else fl p k++[k]
theorem Gm (p:List Nat):∀k,(fl p k).length≤k
 |0=>Nat.le_refl _
 |k+1=>by
  have ih:=Gm p k;rw[fl]
  split
  ·omega
  rw[X6,List.length_singleton];omega
def L6 (p:List Nat)(G:Nat→Nat→Nb)(u:Nat→Nat→Nb)(n k:Nat):Nat→Nb:=iH p (fun i=>G i k) (u k) n
theorem sd {α:Type}(p:List Nat)(f b:Nat→α)(n j:Nat):iH p f b (n+1) j=if j=p.getD n 0 then f n else iH p f b n j:=rfl
theorem H6 (p:List Nat)(f b:Nat→Nb)(n:Nat):∀i j,j<2→a8 (fun j=>bw (iH p f b n j)) (p.getD n 0) 0 [tC (f n).1.length (f n).1,aa (f n).2] i j=bw (iH p f b (n+1) i) j:=by
 intro i j hj;unfold a8;rw[sd]
 by_cases h:i=p.getD n 0
 ·rw[if_pos h,if_pos h,if_pos (Nat.zero_le _),if_pos (by simpa using hj)]
  match j,hj with
  |0,_=>rfl
  |1,_=>rfl
 rw[if_neg h,if_neg h]
theorem JJ {r c:Nat}(x y:Nat→Nat→Nb)(p:List Nat)(hR:Pr prog 46 [.one (av r (fun _=>c) x)] (.aF [.one (av r (fun _=>c) y),.one (.ints .i64 (fX p))])):Pr prog 14 [.one (av r (fun _=>c) x)] (.one (.int .i64 p.length)):=by
 refine pw func14 ⟨[0,2,4],[]⟩ ?_;simp only[Tryz.f14,ntmps14,iz,seval];simp only[vx,T,seval,av,ak];refine Cg hR ?_;simp only[vx,T,seval,av,ak,b6];exact Ve rfl
open Go Go.Eng
open Go.Tw (El)
open Go.Mx (iH free)
def EG (c:Nat)(x:Nat→Nat→Nb)(b:Nat→Nb)(i j:Nat):Nb:=if j<c then x i j else b i
def A1 (x:Nb)(i j:Nat):C:=[tC x.1.length x.1,aa x.2].getD (i*2+j) .any
theorem CR (x:Nb){d:Nat}(hd:d≤1):dK (.rows 2 d (A1 x)) (ak d fun _=>x):=by
 unfold ak;refine dK.rows rfl fun i j hi hj=>dK.of_eq ?_;obtain rfl:i=0:=by omega
 match j,hj with
 |0,_=>rfl
 |1,_=>rfl
end Go.Proofs.YthnkehdgnagmnaaGreat
namespace Go.Mx
open Go Go.R
open Go.Tw (kV)
section
variable {A:List R}
def Wv (A:List R)(x:R)(w:Nat):Prop:=1≤w∧kV A x (300*w-1) (3*w)
theorem Wv.mono {x:R}{w v:Nat}(h:Wv A x w)(k:w≤v):Wv A x v:=⟨Nat.le_trans h.1 k,h.2.mono (by omega) (by omega)⟩
theorem Wv.add {x y:R}{w v:Nat}(h:Wv A x w)(k:Wv A y v):Wv A (x+y) (w+v):=by
 have:=h.1;have:=k.1
 exact⟨by omega,(h.2.add k.2).mono (by omega) (by omega)⟩
theorem Wv.mul {x y:R}{w v:Nat}(h:Wv A x w)(k:Wv A y v):Wv A (x*y) (w+v):=by
 have:=h.1;have:=k.1
 exact⟨by omega,(h.2.mul k.2).mono (by omega) (by omega)⟩
theorem Wv.neg {x:R}{w:Nat}(h:Wv A x w):Wv A (-x) w:=⟨h.1,h.2.neg⟩
theorem Wv.sub {x y:R}{w v:Nat}(h:Wv A x w)(k:Wv A y v):Wv A (x-y) (w+v):=by rw[sub_def];exact h.add k.neg
theorem Wv.iv {x:R}{w:Nat}(h:Wv A x w)(h0:x≠q 0):Wv A (iv x) w:=⟨h.1,h.2.inv (jw h0)⟩
theorem Wv.zero:Wv A (q 0) 1:=⟨Nat.le_refl 1,(kV.rat (x:=0) (β:=0) (by decide) (by decide)).mono (by omega) (by omega)⟩
theorem Wv.one:Wv A (q 1) 1:=⟨Nat.le_refl 1,(kV.rat (x:=1) (β:=0) (by decide) (by decide)).mono (by omega) (by omega)⟩
def ns:Nat→(Nat→Nat)→Nat
 |0,_=>0
 |n+1,w=>ns n w+w n
theorem Wv.sm {f:Nat→R}{w:Nat→Nat}:∀{n:Nat},(∀j,j<n→f j=q 0∨Wv A (f j) (w j))→Wv A (sm n f) (1+ns n w)
 |0,_=>Wv.zero
 |n+1,h=>by
  have h1:=Wv.sm (n:=n) fun j hj=>h j (by omega);show Wv A (Mx.sm n f+f n) (1+(ns n w+w n))
  rcases h n (by omega)with e|e
  ·rw[e,add_zero];exact h1.mono (by omega)
  exact(h1.add e).mono (by omega)
theorem CL (p:List Nat)(W a:Nat):∀n,ns n (fun j=>(if p.contains j then 0 else W)+if j=a then 1 else 0)≤free p n*W+if a<n then 1 else 0
 |0=>Nat.zero_le _
 |n+1=>by
  have ih:=CL p W a n;rw[ns,free,Nat.add_mul]
  have h1:(if p.contains n=true then 0 else 1)*W=if p.contains n=true then 0 else W:=by split<;>omega
  rw[h1]
  by_cases e:n=a
  ·subst e;rw[if_pos rfl,if_pos (Nat.lt_succ_self _)];rw[if_neg (Nat.lt_irrefl _)]at ih;omega
  rw[if_neg e]
  by_cases l:a<n
  ·rw[if_pos l]at ih;rw[if_pos (show a<n+1 by omega)];omega
  rw[if_neg l]at ih;rw[if_neg (show¬a<n+1 by omega)];omega
def MW (A:List R)(r c:Nat)(M:Mt)(w:Nat):Prop:=∀i j,i<r→j<c→Wv A (M i j) w
theorem Nz {r c k w:Nat}{s:Mt×List Nat}(hl:s.2.length≤r)(hk:k<c)(h:MW A r c s.1 w):MW A r c (gB r k s).1 (w*4^((gB r k s).2.length-s.2.length)):=by
 obtain⟨N,p⟩:=s;unfold gB
 split
 ·rename_i hf
  obtain⟨hp,hn⟩:=ou (s:=(N,p)) hl hf;simp only at hf hp hn h hl⊢
  generalize jM N k (r-p.length) p.length=t at hf hp hn
  rw[X6,List.length_singleton,Nat.add_sub_cancel_left,Nat.pow_one];have hs:MW A r c (gy N p.length t) w:=by
   intro i j hi hj;unfold gy
   split
   ·exact h t j hf hj
   split
   ·exact h _ j (by omega) hj
   exact h i j hi hj
  have ht:gy N p.length t p.length k≠q 0:=by
   unfold gy;rw[if_pos rfl];exact hn
  generalize gy N p.length t=S at hs ht
  intro i j hi hj;have hlr:p.length<r:=by omega
  have h1:=(hs p.length j hlr hj).mul ((hs p.length k hlr hk).iv ht);have h2:=h1.1;show Wv A (fx S p.length k i j) (w*4);unfold fx
  split
  ·exact h1.mono (by omega)
  exact((hs i j hi hj).sub (h1.mul (hs i k hi hk))).mono (by omega)
 rw[Nat.sub_self,Nat.pow_zero,Nat.mul_one];exact h
theorem Dw (r k:Nat)(s:Mt×List Nat):s.2.length≤(gB r k s).2.length:=by
 unfold gB
 split
 ·rw[X6];omega
 exact Nat.le_refl _
theorem uH {r c:Nat}{M:Mt}(h:MW A r c M 1):∀k,k≤c→MW A r c (red r M k).1 (4^(red r M k).2.length)
 |0,_=>h
 |k+1,hk=>by
  have h1:=Nz (k:=k) (c:=c) (bz r M k).len (by omega) (uH h k (by omega));have h2:=Dw r k (red r M k);rw[←Nat.pow_add,show (red r M k).2.length+((gB r k (red r M k)).2.length-(red r M k).2.length)=(gB r k (red r M k)).2.length by omega]at h1;exact h1
end
section
variable {A:List R}{r c:Nat}{M:Mt}{b v:Nat→R}
def uK (c:Nat)(M:Mt)(b:Nat→R):Mt:=fun i j=>if j<c then M i j else b i
theorem xb:gp r c (uK c M b) M:=fun i j _ hj=>if_pos hj
theorem s7 (hb:∀i,i<r→b i=sm c (fun j=>M i j*v j)){k:Nat}{i:Nat}(hi:i<r):(red r (uK c M b) k).1 i c=sm c (fun j=>(red r (uK c M b) k).1 i j*v j):=by
 have h1:nN r (c+1) (uK c M b) (fun j=>if j<c then v j else-q 1):=fun i hi=>by
  show sm c (fun j=>(if j<c then M i j else b i)*if j<c then v j else-q 1)+(if c<c then M i c else b i)*(if c<c then v c else-q 1)=q 0;rw[if_neg (Nat.lt_irrefl c),if_neg (Nat.lt_irrefl c),mul_neg,mul_one,hb i hi,cN (g:=fun j=>M i j*v j) fun j hj=>by rw[if_pos hj,if_pos hj]];exact add_neg _
 have h2:=(lL r (c+1) (uK c M b) _ k).2 h1 i hi;rw[sm,if_neg (Nat.lt_irrefl c),mul_neg,mul_one,cN (g:=fun j=>(red r (uK c M b) k).1 i j*v j) fun j hj=>by rw[if_pos hj]]at h2;exact(fh (by rw[sub_def];exact h2)).symm
theorem Ac {p:List Nat}{k:Nat}(hp:∀j,k≤j→p.contains j=false):∀n,free p (k+n)=free p k+n
 |0=>rfl
 |n+1=>by
  show free p (k+n)+(if p.contains (k+n)then 0 else 1)=free p k+(n+1);rw[Ac hp n,if_neg (by rw[hp (k+n) (by omega)];decide)];omega
theorem Ez (r:Nat)(M:Mt){k c:Nat}(hk:k≤c):free (red r M k).2 c+(red r M k).2.length=c:=by
 obtain⟨n,rfl⟩:=Nat.exists_eq_add_of_le hk;have h:=oU r M k;rw[Ac fun j hj=>by
  rw[←Bool.not_eq_true,List.contains_iff_mem,dN];rintro⟨i,hi,e⟩
  have:=(bz r M k).lt i hi
  omega]
 omega
theorem MY (hM:MW A r c M 1)(hb:∀i,i<r→b i=sm c (fun j=>M i j*v j))(hv:∀j,j<c→Wv A (v j) 1){k:Nat}(hk:k≤c){i:Nat}(hi:i<r):
  Wv A ((red r (uK c M b) k).1 i c) ((c-(red r (uK c M b) k).2.length)*(4^(red r (uK c M b) k).2.length+1)+2):=by
 obtain⟨a1,a2⟩:=pH (xb (r:=r) (M:=M) (b:=b)) k hk;have E:=bz r M k;have hw:=uH hM k hk;have hf:=Ez r M hk;rw[s7 hb hi,a2]
 generalize(red r M k).2=p at E hw hf a2⊢
 generalize(red r M k).1=N at E hw a1
 have h1:Wv A (sm c (fun j=>(red r (uK c M b) k).1 i j*v j)) _:=Wv.sm (w:=fun j=>(if p.contains j then 0 else 4^p.length+1)+if j=p.getD i c then 1 else 0) fun j hj=>by
  rw[a1 i j hi hj]
  by_cases hp:p.contains j
  ·rw[List.contains_iff_mem]at hp;obtain⟨l,hl,rfl⟩:=dN.1 hp;rw[E.one i l hi hl]
   by_cases e:i=l
   ·subst e
    right
    rw[if_pos rfl,one_mul]
    refine(hv _ hj).mono ?_
    have:p.getD i c=p.getD i 0:=by rw[X7,X7,X8 hl];rfl
    simp only[this,if_true];omega
   left
   rw[if_neg e,zero_mul]
  right
  refine((hw i j hi hj).mul (hv j hj)).mono ?_
  simp only[if_neg hp];omega
 refine h1.mono ?_
 have:=CL p (4^p.length+1) (p.getD i c) c
 rw[show free p c=c-p.length by omega]at this
 have:(if p.getD i c<c then 1 else 0)≤1:=by split<;>omega
 omega
theorem yK (hb:∀i,i<r→b i=sm c (fun j=>M i j*v j)):red r (uK c M b) (c+1)=red r (uK c M b) c:=by
 show gB r c (red r (uK c M b) c)=_;unfold gB;refine if_neg fun hf=>?_;have E:=bz r (uK c M b) c;obtain⟨h1,h2⟩:=ou E.len hf;refine h2 ?_;rw[s7 hb hf];exact sf fun j hj=>by rw[E.low _ j h1 hf hj,zero_mul]
end
end Go.Mx
namespace Go.Proofs.YthnkehdgnagmnaaGreat
open Go.Proofs.Tryz
open Go Go.Eng
open Go.Tw (El ax TG)
open Go.Mx (sm iv gp red gB jM gy fx Wv MW)
section
variable {A:List R}
def vM (X:Nat→Nat→Nu A):Nat→Nat→R:=fun i j=>(X i j).v
def dS (X:Nat→Nat→Nu A)(a b:Nat):Nat→Nat→Nu A:=fun i=>if i=a then X b else if i=b then X a else X i
theorem xY (X:Nat→Nat→Nu A)(a b i j:Nat):(dS X a b i j).v=gy (vM X) a b i j:=by
 unfold dS gy vM
 split
 ·rfl
 split<;>rfl
theorem k9 (X:Nat→Nat→Nu A)(a b i j:Nat):(dS X a b i j).x=eE (fun i j=>(X i j).x) a b i j:=by
 unfold dS eE
 split
 ·rfl
 split<;>rfl
theorem Nu.wv (a:Nu A):Wv A a.v a.w:=⟨a.hw,a.ok.sz⟩
theorem Qd {r c W:Nat}(X:Nat→Nat→Nu A)(h:MW A r c (vM X) W):∃Y:Nat→Nat→Nu A,(fun i j=>(Y i j).x)=(fun i j=>(X i j).x)∧vM Y=vM X∧∀i j,i<r→j<c→(Y i j).w≤W:=by
 have h1:∀i j,∃y:Nu A,y.x=(X i j).x∧y.v=(X i j).v∧(i<r→j<c→y.w≤W):=fun i j=>by
  by_cases g:i<r∧j<c
  ·have e:=h i j g.1 g.2;exact⟨⟨(X i j).x,(X i j).v,W,e.1,(X i j).ok.tg,(X i j).ok.len,(X i j).ok.val,e.2⟩,rfl,rfl,fun _ _=>Nat.le_refl _⟩
  exact⟨X i j,rfl,rfl,fun h1 h2=>absurd ⟨h1,h2⟩ g⟩
 obtain⟨Y,hY⟩:=Classical.skolem.1 fun i=>Classical.skolem.1 (h1 i);exact⟨Y,funext fun i=>funext fun j=>(hY i j).1,funext fun i=>funext fun j=>(hY i j).2.1,fun i j=>(hY i j).2.2⟩
theorem HY {X:Nat→Nat→Nu A}{a b r c W:Nat}(ha:a<r)(hb:b<r)(h:∀i j,i<r→j<c→(X i j).w≤W){i j:Nat}(hi:i<r)(hj:j<c):(dS X a b i j).w≤W:=by
 unfold dS
 split
 ·exact h _ _ hb hj
 split
 ·exact h _ _ ha hj
 exact h _ _ hi hj
variable (S:Go.Tw.Src 64 A)(hA:A.length≤3)
include S hA
theorem F7 {r c k W W':Nat}(X:Nat→Nat→Nu A)(p:List Nat)(hc:c<2^30)(hk:k<c)(hq:p.length≤r)(hw:∀i j,i<r→j<c→(X i j).w≤W)(hW:p.length<r→W≤259)(hV:MW A r c (gB r k (vM X,p)).1 W'):
  ∃X':Nat→Nat→Nu A,Js r c k p.length (fun i j=>(X i j).x) (fun i j=>(X' i j).x) (jM (vM X) k (r-p.length) p.length)∧gp r c (vM X') (gB r k (vM X,p)).1∧∀i j,i<r→j<c→(X' i j).w≤W':=by
 suffices h:∃X':Nat→Nat→Nu A,Js r c k p.length (fun i j=>(X i j).x) (fun i j=>(X' i j).x) (jM (vM X) k (r-p.length) p.length)∧gp r c (vM X') (gB r k (vM X,p)).1 by
  obtain⟨X',s1,s2⟩:=h;obtain⟨Y,y1,y2,y3⟩:=Qd (W:=W') X' fun i j hi hj=>by rw[s2 i j hi hj];exact hV i j hi hj
  exact⟨Y,by rw[y1];exact s1,by rw[y2];exact s2,y3⟩
 clear hV;obtain⟨h1,h2,h3,h4⟩:=Go.Mx.jG (vM X) k (r-p.length) p.length;have Uz:∀i,p.length≤i→i<r→Pr prog 33 [nX (X i k).x] (.one (.int .i64 (R.bQ (X i k).v))):=fun i hi TD=>tS S hA (by
  have:=hw i k TD hk
  have:=hW (by omega)
  show _≤300;omega)
 by_cases ht:jM (vM X) k (r-p.length) p.length<r
 ·have hs:gB r k (vM X,p)=(fx (gy (vM X) p.length (jM (vM X) k (r-p.length) p.length)) p.length k,p++[k]):=by
   unfold gB;exact if_pos ht
  rw[hs]
  generalize jM (vM X) k (r-p.length) p.length=t at h1 h2 h3 h4 ht
  have RE:=h4 (by omega);have Vw:=hW (by omega);have W6:=fun j (hj:j<c)=>hw t j ht hj;have UQ:(X t k).v≠R.q 0:=RE;have b3:wC=300:=rfl;have b8:wB=800:=rfl;have b2:wA=2000:=rfl;obtain⟨T,hT⟩:=OH (n:=c) (p:=fun j c=>c.v=(X t j).v*iv (X t k).v∧c.w≤2*W∧Pr prog 115 [nX (X t j).x,nX (X t k).x] (nX c.x)) (X 0 0) fun j hj=>by
   have e1:=W6 j hj;have e2:=W6 k hk;obtain⟨c,c1,c2,c3⟩:=Kz S hA (a:=X t j) (b:=X t k) (by omega) (by omega) UQ;exact⟨c,c1,by omega,NQ c3⟩
  have UM:∀i j,i<r→j<c→(dS X p.length t i j).w≤W:=fun i j hi hj=>HY (by omega) ht hw hi hj;obtain⟨Q,hQ⟩:=Pp (r:=r) (c:=c) (p:=fun i j c=>c.v=(T j).v*(dS X p.length t i k).v∧c.w≤3*W∧Pr prog 76 [nX (T j).x,nX (dS X p.length t i k).x] (nX c.x)) (X 0 0) fun i j hi hj=>by
   have e1:=(hT j hj).2.1;have e2:=UM i k hi hk;obtain⟨c,c1,c2,c3⟩:=sk S hA (a:=T j) (b:=dS X p.length t i k) (by omega) (by omega);exact⟨c,c1,by omega,HS c3⟩
  obtain⟨Z,hZ⟩:=Pp (r:=r) (c:=c) (p:=fun i j c=>c.v=(dS X p.length t i j).v-(T j).v*(dS X p.length t i k).v∧Pr prog 116 [nX (dS X p.length t i j).x,nX (Q i j).x] (nX c.x)) (X 0 0) fun i j hi hj=>by
   obtain⟨q1,q2,_⟩:=hQ i j hi hj;have e2:=UM i j hi hj;obtain⟨c,c1,c2,c3⟩:=xp S hA (a:=dS X p.length t i j) (b:=Q i j) (by omega) (by omega);exact⟨c,by rw[c1,q1],Oh c3⟩
  refine⟨fun i=>if i=p.length then T else if R.bQ (dS X p.length t i k).v=0 then dS X p.length t i else Z i,⟨fun i=>R.bQ (X i k).v,Uz,h1,Nat.le_of_lt ht,fun i a b=>R.gZ.2 (h3 i a b),.inr ⟨ht,fun e=>UQ (R.gZ.1 e),fun j=>(T j).x,fun i j=>(Z i j).x,fun i=>R.bQ (dS X p.length t i k).v,?_,fun i hi RE=>⟨?_,fun _=>?_⟩,?_⟩⟩,fun i j hi hj=>?_⟩
  ·exact D8 (fun j=>(X t j).x) (fun j=>(T j).x) (X t k).x (by omega) fun j hj=>(hT j hj).2.2
  ·have:=tS S hA (a:=dS X p.length t i k) (by have:=UM i k hi hk;omega)
   rw[k9]at this;exact this
  ·have:=HM (n:=c) (n2:=c) (fun j=>(dS X p.length t i j).x) (fun j=>(T j).x) (fun j=>(Z i j).x) (fun j=>(Q i j).x) (dS X p.length t i k).x (by omega) (Nat.le_refl _) (fun j hj=>(hQ i j hi hj).2.2) fun j hj=>(hZ i j hi hj).2
   rw[k9]at this;have e:(fun j=>(dS X p.length t i j).x)=eE (fun i j=>(X i j).x) p.length t i:=funext fun j=>k9 X _ _ i j;rw[e]at this;exact this
  ·funext i j
   dsimp only
   by_cases e1:i=p.length
   ·rw[if_pos e1,if_pos e1]
   rw[if_neg e1,if_neg e1]
   by_cases e2:R.bQ (dS X p.length t i k).v=0
   ·rw[if_pos e2,if_pos e2,k9]
   rw[if_neg e2,if_neg e2]
  show Nu.v _=fx (gy (vM X) p.length t) p.length k i j;unfold fx;have e0:gy (vM X) p.length t p.length=vM X t:=by unfold gy;rw[if_pos rfl]
  rw[e0,←xY,←xY];have tj:=(hT j hj).1
  dsimp only
  by_cases e1:i=p.length
  ·rw[if_pos e1,if_pos e1,tj];rfl
  rw[if_neg e1,if_neg e1]
  by_cases e2:R.bQ (dS X p.length t i k).v=0
  ·rw[if_pos e2,R.gZ.1 e2,R.mul_zero,R.sub_zero]
  rw[if_neg e2,(hZ i j hi hj).1,tj];rfl
 have hs:gB r k (vM X,p)=(vM X,p):=by
  unfold gB;exact if_neg ht
 rw[hs];refine⟨X,⟨fun i=>R.bQ (X i k).v,Uz,h1,by omega,fun i a b=>R.gZ.2 (h3 i a b),.inl ⟨by omega,rfl⟩⟩,fun i j _ _=>rfl⟩
omit S hA in
theorem Ca (r:Nat)(M:Nat→Nat→R)(k:Nat):(red r M k).2.length≤k:=by
 have:=Go.Mx.oU r M k
 omega
omit S hA in
theorem FJ (r:Nat)(M:Nat→Nat→R)(k:Nat):(red r M (k+1)).2=if jM (red r M k).1 k (r-(red r M k).2.length) (red r M k).2.length<r then(red r M k).2++[k]else(red r M k).2:=by
 show(gB r k (red r M k)).2=_
 unfold gB
 split<;>rfl
theorem H7 {r c:Nat}(M:Nat→Nat→Nu A)(B:Nat→Nat)(hr:r<2^30)(hc:c<2^30)(h0:r=0→c=0)(hw:∀i j,i<r→j<c→(M i j).w≤B 0)(hB:∀k,k<c→(red r (vM M) k).2.length<r→B k≤259)(hV:∀k,k≤c→MW A r c (red r (vM M) k).1 (B k)):
  ∃X:Nat→Nat→Nu A,gp r c (vM X) (red r (vM M) c).1∧(∀i j,i<r→j<c→(X i j).w≤B c)∧
   Pr prog 46 [.one (bK r (fun _=>c) M)] (.aF [.one (bK r (fun _=>c) X),.one (.ints .i64 (fX (red r (vM M) c).2))]):=by
 obtain⟨X,e0,hI,hS⟩:=Go.Tw.chain (α:=Nat→Nat→Nu A) (I:=fun k X=>k≤c→gp r c (vM X) (red r (vM M) k).1∧∀i j,i<r→j<c→(X i j).w≤B k)
  (St:=fun k X Y=>k<c→Js r c k (red r (vM M) k).2.length (fun i j=>(X i j).x) (fun i j=>(Y i j).x) (jM (red r (vM M) k).1 k (r-(red r (vM M) k).2.length) (red r (vM M) k).2.length)) (x0:=M)
  (fun _=>⟨fun _ _ _ _=>rfl,fun i j hi hj=>hw i j hi hj⟩) (n:=c) (fun k X hk hX=>by
   obtain⟨a1,a2⟩:=hX (Nat.le_of_lt hk);have hl:=(Go.Mx.bz r (vM M) k).len;obtain⟨t1,_⟩:=Go.Mx.ya (s:=(vM X,(red r (vM M) k).2)) (t:=red r (vM M) k) a1 rfl hk hl;obtain⟨X',s1,s2,s3⟩:=F7 S hA (W:=B k) (W':=B (k+1)) X (red r (vM M) k).2 hc hk hl a2 (hB k hk) fun i j hi hj=>by rw[t1 i j hi hj];exact hV (k+1) hk i j hi hj
   have ef:=Go.Mx.r7 a1 hk (r-(red r (vM M) k).2.length) (red r (vM M) k).2.length (by omega);rw[ef]at s1;exact⟨X',fun _=>s1,fun _=>⟨fun i j hi hj=>(s2 i j hi hj).trans (t1 i j hi hj),s3⟩⟩)
 obtain⟨b1,b2⟩:=hI c (Nat.le_refl _) (Nat.le_refl _);refine⟨X c,b1,b2,?_⟩
 have:=Fh (r:=r) (c:=c) (fun k i j=>(X k i j).x) (fun k=>(red r (vM M) k).2) (fun k=>jM (red r (vM M) k).1 k (r-(red r (vM M) k).2.length) (red r (vM M) k).2.length) hr hc h0 rfl
  (fun k _=>(Go.Mx.bz r (vM M) k).len) (fun k hk=>hS k hk hk) (fun k _=>FJ r (vM M) k)
 rw[e0]at this;exact this
omit S hA in
theorem ur {r c:Nat}{M:Nat→Nat→Nu A}(hw:∀i j,i<r→j<c→(M i j).w≤1):MW A r c (vM M) 1:=fun i j hi hj=>(M i j).wv.mono (hw i j hi hj)
end
open Go Go.Eng
open Go.Tw (El)
theorem Nm {n:Nat}(a:Nat→Nb)(k:Nat)(hk:k<n)(hn:n<2^38){s:Int}(h:Pr prog 69 [nX (a k)] (.one (.int .i64 s))):Pr prog 68 [.one (ak n a),.one (Eo (.int .i64 k))] (.one (.bool (decide (s≠0)))):=by
 unfold Eo;refine pw func68 ⟨[0,1,3],[]⟩ ?_;simp only[Tryz.f68,ntmps68,iz,seval];have hp:Pm ([C.int .i64 (k:Int)].getD 0 .any)= .int .i64 (k:Int):=rfl;simp only[vx,T,seval,ak,bw,tC,aa,hp];refine⟨by omega,Cg h ?_⟩;simp only[vx,T,seval];exact Ve rfl
theorem Sub.mk {e e':List (Nat×V)}{o o':List (Nat×fA)}{x x' n:Nat}(rn:List (Nat×Option Nat))(h:(rV rn 0=some 0∧0<x')∧Y0 rn x' e e'∧Y4 rn x' o o'∧Y6 rn o'):Sub ⟨e,o,x,n⟩ ⟨e',o',x',n⟩:=
 Sub.of rn h.1 rfl h.2.1 h.2.2.1 h.2.2.2
def PO:V→Option V
 |.one (.ptr b off)=>some (.one (.ptr b off))
 |.one (.elt c wd i off)=>some (.one (.elt c wd i off))
 |.one (.eptr b wd i off)=>some (.one (.eptr b wd i off))
 |_=>none
theorem Il {T:fB}{P:Program}{e:List (Nat×V)}{o:List (Nat×fA)}{x n:Nat}{K:eJ→Prop}{a:Operand}{nx id:Nat}{fz:Bool}:eI T P (.nilCheck a) ⟨e,o,x,n⟩ nx id fz K=b7 (PO (St.ev ⟨e,o,x,n⟩ a)) (fun v=>K ⟨v,none,[]⟩):=by
 unfold eI;simp only
 cases h:St.ev ⟨e,o,x,n⟩ a with
 |one c=>cases c<;>rfl
 |_=>rfl
theorem On {b off:Nat}:PO (.one (.ptr b off))=some (.one (.ptr b off)):=rfl
def Lh (f:FuncId)(x y z:Nb):Prop:=Pr prog f [nX x,nX y] (.aF [nX z,.one (.int .i64 0)])
def P7 (r c k q:Nat)(X X':Nat→Nat→Nb)(d d':Nb)(t:Nat):Prop:=
 ∃sg:Nat→Int,(∀i,q≤i→i<r→Pr prog 69 [nX (X i k)] (.one (.int .i64 (sg i))))∧q≤t∧t≤r∧(∀i,q≤i→i<t→sg i=0)∧
  ((
   t=r∧X'=X∧d'=d)∨(t<r∧sg t≠0∧∃(d1:Nb) (T:Nat→Nb) (Z Q:Nat→Nat→Nb) (s2 sT:Nat→Int),
   (q<t→Pr prog 45 [nX d] (nX d1))∧(t=q→d1=d)∧Lh 106 d1 (X t k) d'∧(∀j,k≤j→j<c→Lh 108 (X t j) (X t k) (T j))∧(∀j,j<k→T j=X t j)∧
   (∀j,k≤j→j<c→Pr prog 69 [nX (T j)] (.one (.int .i64 (sT j))))∧
   (∀i,i<r→i≠q→Pr prog 69 [nX (eE X q t i k)] (.one (.int .i64 (s2 i))))∧
   (∀i,i<r→i≠q→s2 i≠0→∀j,j<c→((j<k∨sT j=0)→Z i j=eE X q t i j)∧(k≤j→sT j≠0→Lh 106 (eE X q t i k) (T j) (Q i j)∧Lh 148 (eE X q t i j) (Q i j) (Z i j)))∧
   X'=fun i=>if i=q then T else if s2 i=0 then eE X q t i else Z i))
structure DJ (r c:Nat) (σ:Nat→Nat) (Y:Nat→Nb) (X:Nat→Nat→Nb):Prop where
 lt:∀i,i<r→σ i<r
 inj:∀i j,i<r→j<r→σ i=σ j→i=j
 eq:∀i j,i<r→j<c→Y (σ i*c+j)=X i j
theorem place {r c s j:Nat}(hs:s<r)(hj:j<c):s*c+j<r*c:=by
 have:=Nat.mul_le_mul_right c (show s+1≤r from hs)
 rw[Nat.add_mul,Nat.one_mul]at this;omega
theorem mH {r c s:Nat}(hs:s<r):s*c+c≤r*c:=by
 have:=Nat.mul_le_mul_right c (show s+1≤r from hs)
 rw[Nat.add_mul,Nat.one_mul]at this;omega
theorem apart {c s t:Nat}(h:s≠t):s*c+c≤t*c∨t*c+c≤s*c:=by
 rcases Nat.lt_or_gt_of_ne h with h|h
 ·exact .inl (mH h)
 exact .inr (mH h)
theorem An (Z P:Nat→Nb)(a f p:Nat):gA Z P a f f p=P p:=if_neg (by omega)
theorem DJ.swap {r c:Nat}{σ:Nat→Nat}{Y:Nat→Nb}{X:Nat→Nat→Nb}(h:DJ r c σ Y X){q t:Nat}(hq:q<r)(ht:t<r):DJ r c (fun j=>if j=t then σ q else if j=q then σ t else σ j) Y (eE X q t):=by
 have key:∀i,i<r→∃i',i'<r∧(if i=t then σ q else if i=q then σ t else σ i)=σ i'∧eE X q t i=X i'∧i'=(if i=t then q else if i=q then t else i):=by
  intro i hi;unfold eE
  by_cases h1:i=t
  ·refine⟨q,hq,by rw[if_pos h1],?_,by rw[if_pos h1]⟩
   by_cases h2:i=q
   ·rw[if_pos h2,←h1,h2]
   rw[if_neg h2,if_pos h1]
  by_cases h2:i=q
  ·exact⟨t,ht,by rw[if_neg h1,if_pos h2],by rw[if_pos h2],by rw[if_neg h1,if_pos h2]⟩
  exact⟨i,hi,by rw[if_neg h1,if_neg h2],by rw[if_neg h2,if_neg h1],by rw[if_neg h1,if_neg h2]⟩
 refine⟨fun i hi=>?_,fun i j hi hj e=>?_,fun i j hi hj=>?_⟩
 ·obtain⟨i',h1,h2,_⟩:=key i hi
  show(if i=t then σ q else if i=q then σ t else σ i)<r
  rw[h2];exact h.lt i' h1
 ·obtain⟨i',h1,h2,_,h3⟩:=key i hi;obtain⟨j',h4,h5,_,h6⟩:=key j hj;have e':(if i=t then σ q else if i=q then σ t else σ i)=(if j=t then σ q else if j=q then σ t else σ j):=e;rw[h2,h5]at e'
  have:=h.inj i' j' h1 h4 e'
  rw[h3,h6]at this
  split at this<;>split at this<;>(try split at this)<;>(try split at this)<;>omega
 obtain⟨i',h1,h2,h3,_⟩:=key i hi;show Y ((if i=t then σ q else if i=q then σ t else σ i)*c+j)=eE X q t i j;rw[h2,h3];exact h.eq i' j h1 hj
theorem DJ.set {r c:Nat}{σ:Nat→Nat}{Y:Nat→Nb}{X:Nat→Nat→Nb}(h:DJ r c σ Y X){n k:Nat}(hn:n<r)(Z:Nat→Nb)(hz:∀j,j<k→j<c→Z j=X n j):DJ r c σ (gA Z Y (σ n*c) k c) (fun i=>if i=n then Z else X i):=by
 refine⟨h.lt,h.inj,fun i j hi hj=>?_⟩;show gA Z Y (σ n*c) k c (σ i*c+j)=(if i=n then Z else X i) j;unfold gA
 by_cases e:i=n
 ·subst e;rw[if_pos rfl]
  by_cases h1:k≤j
  ·rw[if_pos ⟨by omega,by omega⟩,Nat.add_sub_cancel_left]
  rw[if_neg (by omega),h.eq i j hi hj,hz j (by omega) hj]
 rw[if_neg e];have ap:=apart (c:=c) (fun e2=>e (h.inj i n hi hn e2):σ i≠σ n);rw[if_neg (by omega),h.eq i j hi hj]
theorem zJ {Z P:Nat→Nb}{a f t:Nat}(ht:f≤t):∀p j,j<2→a8 (fun p=>bw (gA Z P a f t p)) (a+t) 0 [tC (Z t).1.length (Z t).1,aa (Z t).2] p j=bw (gA Z P a f (t+1) p) j:=by
 intro p j hj;unfold a8 gA
 by_cases h:p=a+t
 ·rw[if_pos h,if_pos (Nat.zero_le _),if_pos (by simpa using hj),if_pos (by omega),h,Nat.add_sub_cancel_left]
  match j,hj with
  |0,_=>rfl
  |1,_=>rfl
 rw[if_neg h]
 dsimp only
 by_cases h2:a+f≤p∧p<a+t
 ·rw[if_pos h2,if_pos (by omega)]
 rw[if_neg h2,if_neg (by omega)]
theorem wz {x:Nat→Nat→Nb}{T:Nat→Nb}{Z:Nat→Nat→Nb}{s2:Nat→Int}{q t n:Nat}(hn:n≠q)(h:s2 n≠0):bF x T Z s2 q t (n+1)=fun i=>if i=n then Z n else bF x T Z s2 q t n i:=by
 funext i
 by_cases e:i=n
 ·subst e;simp only[bF,if_neg hn,if_pos (Nat.lt_succ_self i),if_neg h,if_true]
 simp only[bF,if_neg e,show (i<n+1)=(i<n) by simp;omega]
theorem pb {x:Nat→Nat→Nb}{T:Nat→Nb}{Z:Nat→Nat→Nb}{s2:Nat→Int}{q t n:Nat}(h:s2 n=0∨n=q):bF x T Z s2 q t (n+1)=bF x T Z s2 q t n:=by
 funext i
 by_cases e:i=n
 ·subst e
  rcases h with h|h
  ·by_cases e2:i=q
   ·simp only[bF,if_pos e2]
   simp only[bF,if_neg e2,if_pos (Nat.lt_succ_self i),if_pos h,if_neg (Nat.lt_irrefl i)]
  simp only[bF,if_pos h]
 simp only[bF,show (i<n+1)=(i<n) by simp;omega]
theorem PC {r c:Nat}(M:Nat→Nat→Nb)(P:Nat→Nb)(xs:Nat→Nat→Nat→Nb)(ds:Nat→Nb)(ps:Nat→List Nat)(ts:Nat→Nat)(hr:r<2^30)(hc:c<2^30)(Tt:r*c<2^30)(h0:r=0→c=0)(hj:dG prog 102 [.one (ak (r*c) fun p=>M (p/c) (p%c))] (.rows 37 2 (r*c) (fun p=>bw (P p))) (.int .i64 0))
  (Vx:∀i j,i<r→j<c→P (i*c+j)=xs 0 i j) (ZS:ds 0=xT 1) (p0:ps 0=[]) (hq:∀k,k≤c→(ps k).length≤r) (hs:∀k,k<c→P7 r c k (ps k).length (xs k) (xs (k+1)) (ds k) (ds (k+1)) (ts k)) (hp:∀k,k<c→ps (k+1)=if ts k<r then ps k++[k]else ps k):
  Pr prog 39 [.one (av r (fun _=>c) M)] (.aF [.agg [av r (fun _=>c) (xs c),.ints .i64 (fX (ps c)),tC (ds c).1.length (ds c).1,aa (ds c).2],.one (.int .i64 0)]):=by
 have cj:=JO M P Tt hr hj;have cl:=kz (r:=r) (fun _=>c) M (k:=c) (by split;exact h0 (by assumption);rfl) (by omega);have c1:=uh 1 (by decide);refine pw func39 ⟨[0,2,3,4,5,6,7,8,9,10,11,12,13,14,15,22,31,32,33,44,46,89,108,109,110,111,126,148],[(13,(.cons 17 [2,3,4,5,18] (.cons 19 [] .nil .nil) .nil)),(26,(.cons 8 [] .nil .nil)),(31,(.cons 0 [1] (.cons 2 [] (.cons 3 [] (.cons 4 [] (.cons 5 [] (.cons 6 [] .nil .nil) .nil) (.cons 5 [] (.cons 4 [] (.cons 6 [] .nil .nil) .nil) .nil)) (.cons 5 [] (.cons 3 [] (.cons 4 [] (.cons 6 [] .nil .nil) .nil) .nil) .nil)) (.cons 5 [1] (.cons 2 [] (.cons 3 [] (.cons 4 [] (.cons 6 [] .nil .nil) .nil) .nil) .nil) .nil)) (.cons 2 [] (.cons 0 [] (.cons 3 [] (.cons 4 [] (.cons 5 [] (.cons 6 [] .nil .nil) .nil) (.cons 5 [] (.cons 4 [] (.cons 6 [] .nil .nil) .nil) .nil)) (.cons 5 [] (.cons 3 [] (.cons 4 [] (.cons 6 [] .nil .nil) .nil) .nil) .nil)) (.cons 3 [] (.cons 0 [] (.cons 4 [] (.cons 5 [] (.cons 6 [] .nil .nil) .nil) (.cons 5 [] (.cons 4 [] (.cons 6 [] .nil .nil) .nil) .nil)) (.cons 4 [] (.cons 0 [] (.cons 5 [] (.cons 6 [] .nil .nil) .nil) .nil) .nil)) .nil)) .nil)))]⟩ ?_;simp only[Tryz.f39,ntmps39,iz,seval];simp only[vx,T,seval,av,ak];refine cH.N1 cj ?_;simp only[vx,T,seval,av,ak];refine Cg c1 ?_;simp only[vx,T,seval,av,ak,nX,nV,tC,aa];refine Cg cl ?_;simp only[vx,T,seval,av,ak];refine Lk (fun y:{y:Nat×(Nat→Nat)×(Nat→Nb)//y.1≤c∧DJ r c y.2.1 y.2.2 (xs y.1)}=>⟨[(2,.one (.ptr 1 0)),(3,.one (.int .i64 0)),(4,.one (.win 2 3 0 r)),(6,.one (.ptr 4 0)),(7,.one (.ptr 5 0)),(31,.one (.int .i64 c)),(32,.one (.int .i64 y.1.1))],
  [(1,⟨.var [.nil,.nil,.nil,.nil],true⟩),(2,⟨.wins 32 3 r (fun i=>.own 3 2 (y.1.2.1 i*c) c),true⟩),(3,⟨.rows 37 2 (r*c) (fun p=>bw (y.1.2.2 p)),true⟩),(4,⟨.var [.int .i64 0],false⟩),
   (5,⟨.var [.win 2 3 0 r,.own 6 1 0 (ps y.1.1).length,tC (ds y.1.1).1.length (ds y.1.1).1,aa (ds y.1.1).2],true⟩),(6,⟨.ints 3 .i64 (fX (ps y.1.1)),true⟩)],7,155⟩) (fun y=>c-y.1.1) ⟨(0,fun i=>i,P),Nat.zero_le _,⟨fun _ h=>h,fun _ _ _ _ h=>h,Vx⟩⟩ ?_ (fun⟨⟨k,σ,Y⟩,hk,hY⟩=>?_)
 ·refine Sub.mk [(2,some 4),(3,some 5),(4,some 14),(5,some 19),(6,none)] ?_;simp only[ry,seval,X2,X3,X4,av,ak,p0,fX,ZS,xT,tC,aa,List.map_nil]
 simp only at hk hY;have wi:=wI k (by omega);simp only[vx,T,seval,av,ak];refine⟨fun g=>Lg ?_,fun g=>Lg ?_⟩
 ·obtain⟨sg,s0,tq,tr,sz,hy⟩:=hs k (by omega);have hqk:=hq k (by omega);have Vz:k<c:=by omega
  -- the first row with a number
  have fi:∃z:Int,Pr prog 67 [.one (av (r-(ps k).length) (fun _=>c) fun i j=>Y (σ ((ps k).length+i)*c+j)),.one (.fn 68 1 (fun _=>Eo (.int .i64 k)))] (.one (.int .i64 z))∧((ts k=r∧z= -1)∨(ts k<r∧z=(ts k-(ps k).length:Nat))):=by
   have hf:∀i,i<r-(ps k).length→Pr prog 68 [.one (ak c fun j=>Y (σ ((ps k).length+i)*c+j)),.one (Eo (.int .i64 k))] (.one (.bool (decide (sg ((ps k).length+i)≠0)))):=fun i hi=>by
    refine Nm (fun j=>Y (σ ((ps k).length+i)*c+j)) k Vz (by omega) ?_;rw[hY.eq _ k (by omega) Vz];exact s0 _ (by omega) (by omega)
   have mk:=fun(z:Int) hz=>Mb (r:=r-(ps k).length) (fun _=>c) (fun i j=>Y (σ ((ps k).length+i)*c+j)) 68 (fun i=>decide (sg ((ps k).length+i)≠0)) (by omega) hf (k:=z) hz
   rcases hy with⟨h,_⟩|⟨h,hn,_⟩
   ·exact⟨-1,mk (-1) (.inl ⟨rfl,fun i hi=>by simpa using sz ((ps k).length+i) (by omega) (by omega)⟩),.inl ⟨h,rfl⟩⟩
   refine⟨_,mk _ (.inr ⟨ts k-(ps k).length,rfl,by omega,?_,fun i hi=>by simpa using sz ((ps k).length+i) (by omega) (by omega)⟩),.inr ⟨h,rfl⟩⟩;rw[Nat.add_sub_cancel' tq]
   simpa using hn
  obtain⟨z,hz,hzt⟩:=fi;have er:((r:Int)-((ps k).length:Int)).toNat=r-(ps k).length:=by omega
  simp only[vx,T,seval,av,ak,er];refine⟨by omega,Cg (hz.args ⟨.refl _,.cell (dK.QR rfl),trivial⟩) ?_⟩;simp only[vx,T,seval,av,ak];refine⟨fun g1=>Lg ?_,fun g1=>Lg ?_⟩
  ·have htr:ts k=r:=by omega
   obtain⟨hx,hd⟩:xs (k+1)=xs k∧ds (k+1)=ds k:=by
    rcases hy with⟨_,h⟩|⟨h,_⟩
    ·exact h
    omega
   have UD:=hp k Vz;rw[if_neg (by omega)]at UD;simp only[vx,T,seval,wi];refine Lq ⟨(k+1,σ,Y),by omega,by show DJ r c σ Y (xs (k+1));rw[hx];exact hY⟩ ?_ (by show c-(k+1)<c-k;omega);refine Sub.mk [(2,some 2)] ?_;simp only[ry,seval,X2,X3,X4,av,ak,hx,hd,UD,tC,aa]
  obtain⟨ht,hzz⟩:ts k<r∧z=(ts k-(ps k).length:Nat):=by omega
  subst hzz;obtain⟨d1,T',Z,Q,s2,sT,Vu,UR,Vo,hT,hT2,Z7,TX,hZ,hx⟩:=(hy.resolve_left (by omega)).2.2;clear hy;have UD:=hp k Vz;rw[if_pos ht]at UD;have Vj:=hY.swap (show(ps k).length<r by omega) ht
  generalize hσ:(fun j=>if j=ts k then σ (ps k).length else if j=(ps k).length then σ (ts k)else σ j)=σ2 at Vj
  have hσ':∀i,σ2 i=if i=ts k then σ (ps k).length else if i=(ps k).length then σ (ts k)else σ i:=fun i=>by rw[←hσ]
  have wt:IntKind.i64.wrap (((ps k).length:Int)+((ts k-(ps k).length:Nat):Int))=(ts k:Int):=by rw[IntWalk.i64_in _ (by omega)];omega
  simp only[vx,T,seval,av,ak];refine⟨fun g2=>Lg ?_,fun g2=>Lg ?_⟩
  ·have ne1:((ps k).length=ts k)=False:=eq_false (by omega);simp only[vx,T,seval,av,ak,wt,tC,aa];refine⟨by omega,by omega,by omega,by omega,by omega,Cg (Vu (by omega)) ?_⟩;simp only[vx,T,seval,nX,nV,av,ak,tC,aa];have hYt:Y (σ (ts k)*c+k)=xs k (ts k) k:=by exact hY.eq (ts k) k ht Vz
   simp only[vx,T,seval,av,ak,ne1,hYt,bw,tC,aa];refine⟨by omega,by omega,Cg (KP Vo) ?_⟩;simp only[vx,T,seval,nX,nV,av,ak,ne1,bw,tC,aa];have TK:=mH (r:=r) (c:=c) (hY.lt (ts k) (by omega));refine Lk (fun y:{j:Nat//k≤j∧j≤c}=>⟨[(2,.one (.ptr 1 0)),(3,.one (.int .i64 0)),(4,.one (.win 2 3 0 r)),(6,.one (.ptr 4 0)),(7,.one (.ptr 5 0)),(8,.one (.ptr 7 0)),(9,.one (.int .i64 (ps k).length)),(11,.one (.ptr 8 0)),(12,.one (.int .i64 y.1)),(31,.one (.int .i64 c)),(32,.one (.int .i64 k))],
    [(1,⟨.var [.nil,.nil,.nil,.nil],true⟩),(2,⟨.wins 32 3 r (fun i=>.own 3 2 (σ2 i*c) c),true⟩),(3,⟨.rows 37 2 (r*c) (fun p=>bw (gA T' Y (σ2 (ps k).length*c) k y.1 p)),true⟩),(4,⟨.var [.int .i64 0],false⟩),
     (5,⟨.var [.win 2 3 0 r,.own 6 1 0 (ps k).length,tC (ds (k+1)).1.length (ds (k+1)).1,aa (ds (k+1)).2],true⟩),(6,⟨.ints 3 .i64 (fX (ps k)),true⟩),(7,⟨.var [.int .i64 k],true⟩),(8,⟨.var [tC (xs k (ts k) k).1.length (xs k (ts k) k).1,aa (xs k (ts k) k).2],true⟩)],9,155⟩) (fun y=>c-y.1) ⟨k,Nat.le_refl _,hk⟩ ?_ (fun⟨j,hj,hjc⟩=>?_)
   ·refine Sa ?_;simp only[ry,seval,rz,av,ak,tC,aa,An];intro i hi;rw[hσ']
    by_cases h1:i=ts k
    ·rw[if_pos h1,if_pos h1];exact⟨rfl,rfl,rfl,rfl⟩
    by_cases h2:i=(ps k).length
    ·rw[if_neg h1,if_neg h1,if_pos h2,if_pos h2];exact⟨rfl,rfl,rfl,rfl⟩
    rw[if_neg h1,if_neg h1,if_neg h2,if_neg h2];exact⟨rfl,rfl,rfl,rfl⟩
   simp only;have wj:=wI j (by omega);simp only[vx,T,seval,av,ak];refine⟨by omega,fun h=>Lg ?_,fun h=>Lg ?_⟩
   ·have e1:gA T' Y (σ2 (ps k).length*c) k j (σ2 (ps k).length*c+j)=xs k (ts k) j:=by
     rw[show gA T' Y (σ2 (ps k).length*c) k j (σ2 (ps k).length*c+j)=Y (σ2 (ps k).length*c+j)from if_neg (by omega),Vj.eq _ j (by omega) (by omega)];unfold eE;rw[if_pos rfl]
    have pl:=place (r:=r) (c:=c) (Vj.lt (ps k).length (by omega)) (show j<c by omega);simp only[vx,T,seval,av,ak,e1,bw,tC,aa];refine⟨by omega,by omega,by omega,Cg (PH (hT j hj (by omega))) ?_⟩;simp only[vx,T,seval,nX,nV,av,ak,bw,tC,aa,wj];refine⟨by omega,Lq ⟨j+1,by omega,by omega⟩ ?_ (by show c-(j+1)<c-j;omega)⟩;refine Sa ?_;simp only[ry,seval,rz,av,ak,tC,aa];intro p j' _ XU;exact zJ hj p j' XU
   obtain rfl:c=j:=by omega
   have Zz:=Vj.set (show(ps k).length<r by omega) T' (k:=k) (fun j h1 h2=>by unfold eE;rw[if_pos rfl];exact hT2 j h1);have ZA:DJ r c σ2 (gA T' Y (σ2 (ps k).length*c) k c) (bF (xs k) T' Z s2 (ps k).length (ts k) 0):=Zz;clear Zz
   generalize gA T' Y (σ2 (ps k).length*c) k c=Y1 at ZA
   simp only[vx,T,seval,av,ak];refine Lk (fun y:{y:Nat×(Nat→Nb)//y.1≤r∧DJ r c σ2 y.2 (bF (xs k) T' Z s2 (ps k).length (ts k) y.1)}=>⟨[(2,.one (.ptr 1 0)),(3,.one (.int .i64 0)),(4,.one (.win 2 3 0 r)),(6,.one (.ptr 4 0)),(7,.one (.ptr 5 0)),(8,.one (.ptr 7 0)),(9,.one (.int .i64 (ps k).length)),(31,.one (.int .i64 c)),(32,.one (.int .i64 k)),(108,.one (.win 2 3 0 r)),(109,.one (.int .i64 r)),(110,.one (.int .i64 y.1.1))],
    [(1,⟨.var [.nil,.nil,.nil,.nil],true⟩),(2,⟨.wins 32 3 r (fun i=>.own 3 2 (σ2 i*c) c),true⟩),(3,⟨.rows 37 2 (r*c) (fun p=>bw (y.1.2 p)),true⟩),(4,⟨.var [.int .i64 0],false⟩),
     (5,⟨.var [.win 2 3 0 r,.own 6 1 0 (ps k).length,tC (ds (k+1)).1.length (ds (k+1)).1,aa (ds (k+1)).2],true⟩),(6,⟨.ints 3 .i64 (fX (ps k)),true⟩),(7,⟨.var [.int .i64 k],true⟩)],8,155⟩) (fun y=>r-y.1.1) ⟨(0,Y1),Nat.zero_le _,ZA⟩ ?_ (fun⟨⟨n,Y2⟩,hn,Tj⟩=>?_)
   ·refine Sa ?_;simp only[ry,seval,rz,av,ak,tC,aa]
   simp only at hn Tj;have wn:=wI n (by omega);simp only[vx,T,seval,av,ak];refine⟨fun h=>Lg ?_,fun h=>Lg ?_⟩
   ·have TE:n<r:=by omega
    have e2:=Tj.eq n k TE Vz;have pl2:=mH (r:=r) (c:=c) (Vj.lt n TE);simp only[vx,T,seval,av,ak,e2,bw,tC,aa];refine⟨by omega,by omega,?_⟩;refine⟨fun h2=>Lg ?_,fun h2=>Lg ?_⟩
    ·have Td:n≠(ps k).length:=by omega
     have er:bF (xs k) T' Z s2 (ps k).length (ts k) n n=eE (xs k) (ps k).length (ts k) n:=by simp[bF,Td]
     simp only[vx,T,seval,av,ak,er,bw,tC,aa];refine Cg (TX n TE Td) ?_;simp only[vx,T,seval,av,ak];refine⟨fun g4=>Lg ?_,fun g4=>Lg ?_⟩
     ·have Vk:s2 n≠0:=by simpa using g4
      have XL:(ps k).length<r:=by omega
      have pl3:=mH (r:=r) (c:=c) (Vj.lt (ps k).length XL);have ap:=apart (c:=c) (s:=σ2 n) (t:=σ2 (ps k).length) (fun e=>Td (Vj.inj n _ TE XL e));have eT:∀t,t<c→Y2 (σ2 (ps k).length*c+t)=T' t:=fun t ht=>by rw[Tj.eq _ t XL ht];simp[bF]
      have eS:∀t,t<c→Y2 (σ2 n*c+t)=eE (xs k) (ps k).length (ts k) n t:=fun t ht=>by rw[Tj.eq n t TE ht,er]
      have VW:=fun(S:C) (wd io oo:Nat)=>vz (S:=S) (wd:=wd) (io:=io) (oo:=oo) (N:=r*c) (a:=σ2 n*c) (b:=σ2 (ps k).length*c) (c:=c) (f:=k) Y2 (Z n) (Q n) (eE (xs k) (ps k).length (ts k) n k) sT pl2 pl3 ap (by omega) hk
       (fun t h1 h2=>by rw[eT t h2];exact Z7 t h1 h2) (fun t h1 h2 e=>by rw[eS t h2];exact(hZ n TE Td Vk t h2).1 (.inr e)) (fun t h1 h2 e=>by
        obtain⟨m1,m2⟩:=(hZ n TE Td Vk t h2).2 h1 e;rw[eT t h2,eS t h2];exact⟨KP m1,Pb m2⟩)
      simp only[vx,T,seval,av,ak,bw,tC,aa];refine⟨by omega,Cm 3 rfl trivial (VW _ _ _ _) ?_⟩;rintro r' B' rfl _;simp only[vx,T,seval,av,ak,bw,tC,aa,wn];have ZB:=Tj.set TE (Z n) (k:=k) (fun j h1 h2=>by rw[er];exact(hZ n TE Td Vk j h2).1 (.inl h1));rw[←wz Td Vk]at ZB;refine Lq ⟨(n+1,gA (Z n) Y2 (σ2 n*c) k c),by show n+1≤r;omega,ZB⟩ ?_ (by show r-(n+1)<r-n;omega);refine Sa ?_;simp only[ry,seval,rz,av,ak,tC,aa]
     have Vk:s2 n=0:=by simpa using g4
     simp only[vx,T,seval,av,ak,wn];rw[←pb (.inl Vk)]at Tj;refine Lq ⟨(n+1,Y2),by show n+1≤r;omega,Tj⟩ ?_ (by show r-(n+1)<r-n;omega);refine Sa ?_;simp only[ry,seval,rz,av,ak,tC,aa]
    have Td:n=(ps k).length:=by omega
    simp only[vx,T,seval,av,ak,wn];rw[←pb (.inr Td)]at Tj;refine Lq ⟨(n+1,Y2),by show n+1≤r;omega,Tj⟩ ?_ (by show r-(n+1)<r-n;omega);refine Sa ?_;simp only[ry,seval,rz,av,ak,tC,aa]
   obtain rfl:r=n:=by omega
   have hYe:DJ r c σ2 Y2 (xs (k+1)):=⟨Tj.lt,Tj.inj,fun i j hi hj=>(Tj.eq i j hi hj).trans (by rw[hx];simp only[bF,if_pos hi])⟩;have et:(fX (ps k)).take (ps k).length=fX (ps k):=by rw[←b6,List.take_length]
   have ea:fX (ps k)++[(k:Int)]=fX (ps (k+1)):=by rw[UD];simp[fX]
   have el:(fX (ps (k+1))).length=(ps (k+1)).length:=b6;have el':(fX (ps k)).length=(ps k).length:=b6;simp only[vx,T,seval,av,ak,et,ea,el,el',wi,tC,aa];refine⟨by omega,Lq ⟨(k+1,σ2,Y2),by show k+1≤c;omega,hYe⟩ ?_ (by show c-(k+1)<c-k;omega)⟩;refine Sub.mk [(6,some 13)] ?_;simp only[ry,seval,X2,X3,X4,av,ak,tC,aa]
  have eqt:ts k=(ps k).length:=by omega
  obtain rfl:=UR eqt;simp only[vx,T,seval,av,ak,wt,tC,aa];have hYt:Y (σ (ps k).length*c+k)=xs k (ts k) k:=by rw[←eqt];exact hY.eq (ts k) k ht Vz
  simp only[vx,T,seval,av,ak,hYt,bw,tC,aa];refine⟨by omega,by omega,Cg (KP Vo) ?_⟩;simp only[vx,T,seval,nX,nV,av,ak,bw,tC,aa];have TK:=mH (r:=r) (c:=c) (hY.lt (ps k).length (by omega));refine Lk (fun y:{j:Nat//k≤j∧j≤c}=>⟨[(2,.one (.ptr 1 0)),(3,.one (.int .i64 0)),(4,.one (.win 2 3 0 r)),(6,.one (.ptr 4 0)),(7,.one (.ptr 5 0)),(8,.one (.ptr 7 0)),(9,.one (.int .i64 (ps k).length)),(11,.one (.ptr 8 0)),(12,.one (.int .i64 y.1)),(31,.one (.int .i64 c)),(32,.one (.int .i64 k))],
   [(1,⟨.var [.nil,.nil,.nil,.nil],true⟩),(2,⟨.wins 32 3 r (fun i=>.own 3 2 (σ2 i*c) c),true⟩),(3,⟨.rows 37 2 (r*c) (fun p=>bw (gA T' Y (σ2 (ps k).length*c) k y.1 p)),true⟩),(4,⟨.var [.int .i64 0],false⟩),
    (5,⟨.var [.win 2 3 0 r,.own 6 1 0 (ps k).length,tC (ds (k+1)).1.length (ds (k+1)).1,aa (ds (k+1)).2],true⟩),(6,⟨.ints 3 .i64 (fX (ps k)),true⟩),(7,⟨.var [.int .i64 k],true⟩),(8,⟨.var [tC (xs k (ts k) k).1.length (xs k (ts k) k).1,aa (xs k (ts k) k).2],true⟩)],9,155⟩) (fun y=>c-y.1) ⟨k,Nat.le_refl _,hk⟩ ?_ (fun⟨j,hj,hjc⟩=>?_)
  ·refine Sa ?_;simp only[ry,seval,rz,av,ak,tC,aa,An];intro i hi;rw[hσ',eqt]
   by_cases h1:i=(ps k).length
   ·rw[if_pos h1,h1]
   rw[if_neg h1,if_neg h1]
  simp only;have wj:=wI j (by omega);simp only[vx,T,seval,av,ak];refine⟨by omega,fun h=>Lg ?_,fun h=>Lg ?_⟩
  ·have e1:gA T' Y (σ2 (ps k).length*c) k j (σ2 (ps k).length*c+j)=xs k (ts k) j:=by
    rw[show gA T' Y (σ2 (ps k).length*c) k j (σ2 (ps k).length*c+j)=Y (σ2 (ps k).length*c+j)from if_neg (by omega),Vj.eq _ j (by omega) (by omega)];unfold eE;rw[if_pos rfl]
   have pl:=place (r:=r) (c:=c) (Vj.lt (ps k).length (by omega)) (show j<c by omega);simp only[vx,T,seval,av,ak,e1,bw,tC,aa];refine⟨by omega,by omega,by omega,Cg (PH (hT j hj (by omega))) ?_⟩;simp only[vx,T,seval,nX,nV,av,ak,bw,tC,aa,wj];refine⟨by omega,Lq ⟨j+1,by omega,by omega⟩ ?_ (by show c-(j+1)<c-j;omega)⟩;refine Sa ?_;simp only[ry,seval,rz,av,ak,tC,aa];intro p j' _ XU;exact zJ hj p j' XU
  obtain rfl:c=j:=by omega
  have Zz:=Vj.set (show(ps k).length<r by omega) T' (k:=k) (fun j h1 h2=>by unfold eE;rw[if_pos rfl];exact hT2 j h1);have ZA:DJ r c σ2 (gA T' Y (σ2 (ps k).length*c) k c) (bF (xs k) T' Z s2 (ps k).length (ts k) 0):=Zz;clear Zz
  generalize gA T' Y (σ2 (ps k).length*c) k c=Y1 at ZA
  simp only[vx,T,seval,av,ak];refine Lk (fun y:{y:Nat×(Nat→Nb)//y.1≤r∧DJ r c σ2 y.2 (bF (xs k) T' Z s2 (ps k).length (ts k) y.1)}=>⟨[(2,.one (.ptr 1 0)),(3,.one (.int .i64 0)),(4,.one (.win 2 3 0 r)),(6,.one (.ptr 4 0)),(7,.one (.ptr 5 0)),(8,.one (.ptr 7 0)),(9,.one (.int .i64 (ps k).length)),(31,.one (.int .i64 c)),(32,.one (.int .i64 k)),(108,.one (.win 2 3 0 r)),(109,.one (.int .i64 r)),(110,.one (.int .i64 y.1.1))],
   [(1,⟨.var [.nil,.nil,.nil,.nil],true⟩),(2,⟨.wins 32 3 r (fun i=>.own 3 2 (σ2 i*c) c),true⟩),(3,⟨.rows 37 2 (r*c) (fun p=>bw (y.1.2 p)),true⟩),(4,⟨.var [.int .i64 0],false⟩),
    (5,⟨.var [.win 2 3 0 r,.own 6 1 0 (ps k).length,tC (ds (k+1)).1.length (ds (k+1)).1,aa (ds (k+1)).2],true⟩),(6,⟨.ints 3 .i64 (fX (ps k)),true⟩),(7,⟨.var [.int .i64 k],true⟩)],8,155⟩) (fun y=>r-y.1.1) ⟨(0,Y1),Nat.zero_le _,ZA⟩ ?_ (fun⟨⟨n,Y2⟩,hn,Tj⟩=>?_)
  ·refine Sa ?_;simp only[ry,seval,rz,av,ak,tC,aa]
  simp only at hn Tj;have wn:=wI n (by omega);simp only[vx,T,seval,av,ak];refine⟨fun h=>Lg ?_,fun h=>Lg ?_⟩
  ·have TE:n<r:=by omega
   have e2:=Tj.eq n k TE Vz;have pl2:=mH (r:=r) (c:=c) (Vj.lt n TE);simp only[vx,T,seval,av,ak,e2,bw,tC,aa];refine⟨by omega,by omega,?_⟩;refine⟨fun h2=>Lg ?_,fun h2=>Lg ?_⟩
   ·have Td:n≠(ps k).length:=by omega
    have er:bF (xs k) T' Z s2 (ps k).length (ts k) n n=eE (xs k) (ps k).length (ts k) n:=by simp[bF,Td]
    simp only[vx,T,seval,av,ak,er,bw,tC,aa];refine Cg (TX n TE Td) ?_;simp only[vx,T,seval,av,ak];refine⟨fun g4=>Lg ?_,fun g4=>Lg ?_⟩
    ·have Vk:s2 n≠0:=by simpa using g4
     have XL:(ps k).length<r:=by omega
     have pl3:=mH (r:=r) (c:=c) (Vj.lt (ps k).length XL);have ap:=apart (c:=c) (s:=σ2 n) (t:=σ2 (ps k).length) (fun e=>Td (Vj.inj n _ TE XL e));have eT:∀t,t<c→Y2 (σ2 (ps k).length*c+t)=T' t:=fun t ht=>by rw[Tj.eq _ t XL ht];simp[bF]
     have eS:∀t,t<c→Y2 (σ2 n*c+t)=eE (xs k) (ps k).length (ts k) n t:=fun t ht=>by rw[Tj.eq n t TE ht,er]
     have VW:=fun(S:C) (wd io oo:Nat)=>vz (S:=S) (wd:=wd) (io:=io) (oo:=oo) (N:=r*c) (a:=σ2 n*c) (b:=σ2 (ps k).length*c) (c:=c) (f:=k) Y2 (Z n) (Q n) (eE (xs k) (ps k).length (ts k) n k) sT pl2 pl3 ap (by omega) hk
      (fun t h1 h2=>by rw[eT t h2];exact Z7 t h1 h2) (fun t h1 h2 e=>by rw[eS t h2];exact(hZ n TE Td Vk t h2).1 (.inr e)) (fun t h1 h2 e=>by
       obtain⟨m1,m2⟩:=(hZ n TE Td Vk t h2).2 h1 e;rw[eT t h2,eS t h2];exact⟨KP m1,Pb m2⟩)
     simp only[vx,T,seval,av,ak,bw,tC,aa];refine⟨by omega,Cm 3 rfl trivial (VW _ _ _ _) ?_⟩;rintro r' B' rfl _;simp only[vx,T,seval,av,ak,bw,tC,aa,wn];have ZB:=Tj.set TE (Z n) (k:=k) (fun j h1 h2=>by rw[er];exact(hZ n TE Td Vk j h2).1 (.inl h1));rw[←wz Td Vk]at ZB;refine Lq ⟨(n+1,gA (Z n) Y2 (σ2 n*c) k c),by show n+1≤r;omega,ZB⟩ ?_ (by show r-(n+1)<r-n;omega);refine Sa ?_;simp only[ry,seval,rz,av,ak,tC,aa]
    have Vk:s2 n=0:=by simpa using g4
    simp only[vx,T,seval,av,ak,wn];rw[←pb (.inl Vk)]at Tj;refine Lq ⟨(n+1,Y2),by show n+1≤r;omega,Tj⟩ ?_ (by show r-(n+1)<r-n;omega);refine Sa ?_;simp only[ry,seval,rz,av,ak,tC,aa]
   have Td:n=(ps k).length:=by omega
   simp only[vx,T,seval,av,ak,wn];rw[←pb (.inr Td)]at Tj;refine Lq ⟨(n+1,Y2),by show n+1≤r;omega,Tj⟩ ?_ (by show r-(n+1)<r-n;omega);refine Sa ?_;simp only[ry,seval,rz,av,ak,tC,aa]
  obtain rfl:r=n:=by omega
  have hYe:DJ r c σ2 Y2 (xs (k+1)):=⟨Tj.lt,Tj.inj,fun i j hi hj=>(Tj.eq i j hi hj).trans (by rw[hx];simp only[bF,if_pos hi])⟩;have et:(fX (ps k)).take (ps k).length=fX (ps k):=by rw[←b6,List.take_length]
  have ea:fX (ps k)++[(k:Int)]=fX (ps (k+1)):=by rw[UD];simp[fX]
  have el:(fX (ps (k+1))).length=(ps (k+1)).length:=b6;have el':(fX (ps k)).length=(ps k).length:=b6;simp only[vx,T,seval,av,ak,et,ea,el,el',wi,tC,aa];refine⟨by omega,Lq ⟨(k+1,σ2,Y2),by show k+1≤c;omega,hYe⟩ ?_ (by show c-(k+1)<c-k;omega)⟩;refine Sub.mk [(6,some 13)] ?_;simp only[ry,seval,X2,X3,X4,av,ak,tC,aa]
 obtain rfl:c=k:=by omega
 have et:(fX (ps c)).take (ps c).length=fX (ps c):=by rw[←b6,List.take_length]
 simp only[vx,T,seval,av,ak,tC,aa,et,Il,On];exact fT.aF ⟨yT (dK.rows rfl fun i j hi _=>dK.rows rfl fun i' j' SQ _=>dK.of_eq (by rw[hY.eq i i' hi SQ])) (.refl _) (.refl _) (.refl _),.refl _,trivial⟩
end Go.Proofs.YthnkehdgnagmnaaGreat
