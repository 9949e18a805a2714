/-
  MatrixInvalid: for every input the law returns true, and each argument reads afterwards as it read before. No condition beyond the cells of the given rows.
  (Text 8 of 9; made by a program out of smaller texts.)
-/
import Derived.Test.YtgcmkdgpaibpeaaGreatP7
set_option linter.unusedSimpArgs false
set_option linter.unusedVariables false
set_option maxHeartbeats 16000000
set_option maxRecDepth 10000
open Nat renaming reduceAdd→J1,reduceMul→J2,reduceSub→J3,reduceEqDiff→J4,reduceLT→J5,reduceLeDiff→J6,reduceBEq→J7,reduceDiv→J8,reduceMod→J9,reducePow→J0
open Int renaming reduceToNat→K1,reduceLE→K2,reduceLT→K3,reduceEq→K4,reducePow→K5,reduceSub→K6,reduceNeg→K7,natCast_add→X2,natCast_one→X3,natCast_zero→X4
open List renaming getD_cons_zero→X0,getD_cons_succ→X1,length_take→X5,length_append→X6,getD_eq_getElem?_getD→X7,getElem?_eq_getElem→X8
namespace Go.Proofs.YtgcmkdgpaibpeaaGreat
open Go.Proofs.Tryz
open Go Go.Eng
open Go.Tw (El aC aJ zE ai au ar ao ae QB mS ah ag tB aX aG val In Rd TG cE bC a8 a5 Ext nW)
theorem IE {B Y Z H:Nat}{U rs:List El}{N:Nat}{a:El}(hN:rs.length=N)(I:Fl B Y Z H 0 U rs)(ha:a.length=2^0)(hq:QB B a):Pr prog 116 [tV H U,tV N rs,eV a] (eV (a8 H U rs 0 a)):=by
 obtain⟨x,rfl⟩:=Go.Tw.bB ha;have hB:=I.hB;have hx:qm x≤B:=hq x (by simp);have f:=(dP (h:=H) (t:=U) I.tq.tk.le8 x).rows;have e:a8 H U rs 0 [x]=aX H x:=rfl;rw[e];refine pw func116 ⟨[0,1,2,6,7,8,9,10,13,27],[]⟩ ?_;simp only[Tryz.f116,ntmps116,iz,seval];simp only[vx,T,seval,tV,tC,eV,aa,QV,QC,qC,X0];refine Cg f ?_;simp only[vx,T,seval,tV,tC,eV,aa,QV,QC,qC,X0];exact Ve rfl
theorem yf {B Y Z H:Nat}{U rs:List El}{N:Nat}(hN:rs.length=N):∀{k:Nat} {a:El},Fl B Y Z H k U rs→k≤rs.length→k≤8→a.length=2^k→QB B a→Pr prog 116 [tV H U,tV N rs,eV a] (eV (a8 H U rs k a))
 |0,a,I,_,_,ha,hq=>IE hN I ha hq
 |k+1,a,I,hkr,hk8,ha,hq=>by
  have I':=I.le (Nat.le_succ k);have la1:=ah ha;have la2:=ag ha;have c1:=yf hN I' (by omega) (by omega) la1 (hq.take _);have c2:=yf hN I' (by omega) (by omega) la2 (hq.drop _);have hB:=I.hB;have h3:=I.tq.h3;have hp:=aN (h:=k+1) hk8;have hH:2^H≤8:=Nat.pow_le_pow_right (n:=2) (by decide) h3;have hn:(2^k:Nat)≤a.length:=by rw[ha,Nat.pow_succ];omega
  have cT:=fk hn;have cD:=eQ (a:=a) (n:=2^k);have c1:=c1.args (xs:=[tV H U,tV N rs,.one (bf a (2^k))]) ⟨.refl _,.refl _,.cell cT,trivial⟩;have c2:=c2.args (xs:=[tV H U,tV N rs,.one (a9 a (2^k))]) ⟨.refl _,.refl _,.cell cD,trivial⟩;have hg:∀i,i≤k→(IntKind.i64.wrap (1*2^(if i≤63 then i+1 else 64))<((a.length:Nat):Int)↔i<k):=fun i hi=>by
   have hs:=dL (h:=i+1) (by omega);rw[if_pos (by omega)]at hs⊢;rw[hs,ha]
   constructor
   ·intro h;refine Nat.lt_of_not_le fun h2=>?_
    have:=Nat.pow_le_pow_right (n:=2) (by decide) (show k+1≤i+1 by omega)
    omega
   intro h
   have:=Nat.pow_lt_pow_right (a:=2) (by decide) (show i+1<k+1 by omega)
   omega
  obtain⟨n,hnn⟩:∃n,n=2^k:=⟨_,rfl⟩;have ha2:a.length=2*n:=by rw[ha,Nat.pow_succ,hnn];omega
  have w2:IntKind.i64.wrap (((a.length:Nat):Int).tdiv 2)=(n:Int):=by
   rw[ha2,Int.tdiv_eq_ediv_of_nonneg (by omega),IntWalk.i64_in _ (by omega)];omega
  have w4:((a.length:Int)-(n:Int)).toNat=a.length-n:=by omega
  have hne:¬((a.length:Nat):Int)=1:=by
   have:=Nat.two_pow_pos k
   omega
  refine pw func116 ⟨[0,1,2,6,7,8,9,10,13,27],[]⟩ ?_;simp only[Tryz.f116,ntmps116,iz,seval];simp only[vx,T,seval,tV,tC,eV,aa,bf,a9,QV,QC,w2,w4];refine⟨fun h=>absurd h hne,fun _=>Lg ?_⟩;simp only[vx,T,seval,tV,tC,eV,aa,bf,a9,QV,QC,w2,w4];refine Lk (fun y:{i:Nat//i≤k}=>⟨[(0,tV H U),(1,tV N rs),(2,eV a),(6,.one .nil),(7,.one (.int .i64 n)),(8,.one (.int .i64 y.1))],[],1,54⟩) (fun y=>k-y.1) ⟨0,Nat.zero_le _⟩ ?_ (fun⟨i,hi⟩=>?_)
  ·refine Sa ?_;simp only[ry,seval,rz,tV,tC,eV,aa]
  simp only;have hgi:=hg i hi;have wi:IntKind.i64.wrap ((i:Int)+1)=((i+1:Nat):Int):=by rw[IntWalk.i64_in _ (by omega)];omega
  simp only[vx,T,seval,tV,tC,eV,aa,bf,a9,QV,QC,w2,w4,wi];refine⟨by omega,?_⟩;refine⟨fun g=>Lg ?_,fun g=>Lg ?_⟩
  ·have hik:=hgi.1 g;simp only[vx,T,seval,tV,tC,eV,aa,bf,a9,QV,QC,w2,w4,wi];refine Lq ⟨i+1,by omega⟩ ?_ (by show k-(i+1)<k-i;omega);refine Sa ?_;simp only[ry,seval,rz,tV,tC,eV,aa]
  have hik:i=k:=by
   have:¬i<k:=fun h=>g (hgi.2 h)
   omega
  subst hik;obtain⟨⟨m,hm,lr⟩,qr⟩:=I.r i (by omega);have q2:=I.y i (by omega) _ la2 (hq.drop _);have hlm:(rs.getD i []).length≤2^H:=by rw[lr];exact Nat.pow_le_pow_right (by decide) hm
  have pd:=xa (h:=H) (t:=U) (a:=rs.getD i []) (by omega) hlm;have mu:=(fN fS I.tq.tk I.tq.q I.hY I.hZ (a5 (H:=H) (T:=U) (rs:=rs) (k:=i) (a:=a.drop (2^i))) (bC hlm) q2 (Go.Tw.QB.pad I.hZ qr) I.s).rows;have gm:=QB.mul (h:=H) (t:=U) fS I.tq.q I.hY I.hZ q2 (Go.Tw.QB.pad (H:=H) I.hZ qr);have hge:=Go.Tw.gV (h:=H) (S:=Y+Z) (C:=tB);have hs:=I.s;have q1:=I.y i (by omega) _ la1 (hq.take _);have ad:=(sU (h:=H) (t:=U) (a8 H U rs i (a.take (2^i))) _ (by rw[a5];omega) (by rw[ae,a5]) (.of q1 (by omega)) (.of gm hs)).rows;have er:a8 H U rs (i+1) a=aC (a8 H U rs i (a.take (2^i))) (ai H U (a8 H U rs i (a.drop (2^i))) (cE H (rs.getD i []))):=rfl;rw[←er]at ad;obtain⟨r,hr⟩:∃r,r=a8 H U rs (i+1) a:=⟨_,rfl⟩;obtain⟨x,hx⟩:∃x,x=a8 H U rs i (a.take (2^i)):=⟨_,rfl⟩;obtain⟨y,hy⟩:∃y,y=a8 H U rs i (a.drop (2^i)):=⟨_,rfl⟩;obtain⟨v,hv⟩:∃v,v=rs.getD i []:=⟨_,rfl⟩;obtain⟨p,hpp⟩:∃p,p=cE H v:=⟨_,rfl⟩;rw[←hr,←hx]at ad;rw[←hx]at c1;rw[←hy]at c2;rw[←hr];rw[←hv]at pd;rw[←hy,←hv,←hpp]at ad mu;rw[←hpp]at pd;obtain⟨z,hz⟩:∃z,z=ai H U y p:=⟨_,rfl⟩;rw[←hz]at ad mu;have hil:i<rs.length:=by omega
  rw[←hnn]at c1 c2;clear gm hge hs q1 q2 er hr hx hy hpp hz lr qr hlm hm la1 la2 hq;simp only[vx,T,seval,tV,tC,eV,aa,bf,a9,QV,QC,w2,w4,wi,←hv];refine⟨⟨by omega,by omega⟩,Cg c1 ?_⟩;simp only[vx,T,seval,tV,tC,eV,aa,bf,a9,QV,QC,w2,w4,wi,←hv];refine⟨⟨by omega,by omega,by omega⟩,Cg c2 ?_⟩;simp only[vx,T,seval,tV,tC,eV,aa,bf,a9,QV,QC,w2,w4,wi,←hv];refine⟨⟨by omega,by omega⟩,Cg pd ?_⟩;simp only[vx,T,seval,tV,tC,eV,aa,bf,a9,QV,QC,w2,w4,wi,←hv];refine Cg mu ?_;simp only[vx,T,seval,tV,tC,eV,aa,bf,a9,QV,QC,w2,w4,wi,←hv];refine Cg ad ?_;simp only[vx,T,seval,tV,tC,eV,aa,bf,a9,QV,QC,w2,w4,wi,←hv];exact Ve rfl
theorem CO {P:Program}{fn:FuncId}{x y:V}{w n n':Nat}{f g:Nat→Nat→C}{B:Bk}{R:V→Bk→Prop}(h:Mc P fn [x,y,.one (.rows w n' g)] B R)(hc:dr (.rows w n f) (.rows w n' g)):Mc P fn [x,y,.one (.rows w n f)] B R:=
 ⟨h.1,fun ok W vs l h1 h2 h3 h4 hvs=>h.2 ok W vs l h1 h2 h3 h4 (by
  generalize vs.toList=ls at hvs⊢
  match ls,hvs with
  |[_,_,v2],⟨a,b,c,_⟩=>exact⟨a,b,hc ok W v2 c,trivial⟩)⟩
theorem D0 {B Y Z H:Nat}{U rs:List El}{N:Nat}{a:El}(hN:rs.length=N)(I:Fl B Y Z H 0 U rs)(ha:a.length=2^0)(hq:QB B a):Mc prog 116 [tV H U,.one (.own 0 1 0 N),eV a] (rB N rs) (L1 rs N (eV (a8 H U rs 0 a))):=by
 obtain⟨x,rfl⟩:=Go.Tw.bB ha;have hB:=I.hB;have hx:qm x≤B:=hq x (by simp);have f:=(dP (h:=H) (t:=U) I.tq.tk.le8 x).rows;have e:a8 H U rs 0 [x]=aX H x:=rfl;rw[e];refine mw func116 ⟨[0,1,2,6,7,8,9,10,13,27],[(7,(.cons 5 [6,7,8,9,10] (.cons 11 [] (.cons 12 [] (.cons 13 [] .nil .nil) .nil) .nil) .nil))]⟩ ?_;simp only[Tryz.f116,ntmps116,iz,seval];simp only[vx,T,seval,rB,tV,tC,eV,aa,QV,QC,qC,X0];refine Cg f ?_;simp only[vx,T,seval,rB,tV,tC,eV,aa,QV,QC,qC,X0];exact⟨rfl,rfl⟩
theorem tX {B Y Z H:Nat}{U rs:List El}{N:Nat}(hN:rs.length=N):∀{k:Nat} {a:El},Fl B Y Z H k U rs→k≤rs.length→k≤8→a.length=2^k→QB B a→Mc prog 116 [tV H U,.one (.own 0 1 0 N),eV a] (rB N rs) (L1 rs N (eV (a8 H U rs k a)))
 |0,a,I,_,_,ha,hq=>D0 hN I ha hq
 |k+1,a,I,hkr,hk8,ha,hq=>by
  have I':=I.le (Nat.le_succ k);have la1:=ah ha;have la2:=ag ha;have c1:=tX hN I' (by omega) (by omega) la1 (hq.take _);have c2:=tX hN I' (by omega) (by omega) la2 (hq.drop _);have hB:=I.hB;have h3:=I.tq.h3;have hp:=aN (h:=k+1) hk8;have hH:2^H≤8:=Nat.pow_le_pow_right (n:=2) (by decide) h3;have hn:(2^k:Nat)≤a.length:=by rw[ha,Nat.pow_succ];omega
  have cT:=fk hn;have cD:=eQ (a:=a) (n:=2^k);have c1:Mc prog 116 [tV H U,.one (.own 0 1 0 N),.one (bf a (2^k))] (rB N rs) (L1 rs N (eV (a8 H U rs k (a.take (2^k))))):=CO c1 cT;have c2:Mc prog 116 [tV H U,.one (.own 0 1 0 N),.one (a9 a (2^k))] (rB N rs) (L1 rs N (eV (a8 H U rs k (a.drop (2^k))))):=CO c2 cD;have hg:∀i,i≤k→(IntKind.i64.wrap (1*2^(if i≤63 then i+1 else 64))<((a.length:Nat):Int)↔i<k):=fun i hi=>by
   have hs:=dL (h:=i+1) (by omega);rw[if_pos (by omega)]at hs⊢;rw[hs,ha]
   constructor
   ·intro h;refine Nat.lt_of_not_le fun h2=>?_
    have:=Nat.pow_le_pow_right (n:=2) (by decide) (show k+1≤i+1 by omega)
    omega
   intro h
   have:=Nat.pow_lt_pow_right (a:=2) (by decide) (show i+1<k+1 by omega)
   omega
  obtain⟨n,hnn⟩:∃n,n=2^k:=⟨_,rfl⟩;have ha2:a.length=2*n:=by rw[ha,Nat.pow_succ,hnn];omega
  have w2:IntKind.i64.wrap (((a.length:Nat):Int).tdiv 2)=(n:Int):=by
   rw[ha2,Int.tdiv_eq_ediv_of_nonneg (by omega),IntWalk.i64_in _ (by omega)];omega
  have w4:((a.length:Int)-(n:Int)).toNat=a.length-n:=by omega
  have hne:¬((a.length:Nat):Int)=1:=by
   have:=Nat.two_pow_pos k
   omega
  refine mw func116 ⟨[0,1,2,6,7,8,9,10,13,27],[(7,(.cons 5 [6,7,8,9,10] (.cons 11 [] (.cons 12 [] (.cons 13 [] .nil .nil) .nil) .nil) .nil))]⟩ ?_;simp only[Tryz.f116,ntmps116,iz,seval];simp only[vx,T,seval,rB,tV,tC,eV,aa,bf,a9,QV,QC,w2,w4];refine⟨fun h=>absurd h hne,fun _=>Lg ?_⟩;simp only[vx,T,seval,rB,tV,tC,eV,aa,bf,a9,QV,QC,w2,w4];refine Lk (fun y:{i:Nat//i≤k}=>⟨[(0,tV H U),(1,.one (.own 0 1 0 N)),(2,eV a),(6,.one .nil),(7,.one (.int .i64 n)),(8,.one (.int .i64 y.1))],[(0,⟨rB N rs,true⟩)],1,54⟩) (fun y=>k-y.1) ⟨0,Nat.zero_le _⟩ ?_ (fun⟨i,hi⟩=>?_)
  ·refine Sa ?_;simp only[ry,seval,rz,rB,tV,tC,eV,aa]
  simp only;have hgi:=hg i hi;have wi:IntKind.i64.wrap ((i:Int)+1)=((i+1:Nat):Int):=by rw[IntWalk.i64_in _ (by omega)];omega
  simp only[vx,T,seval,rB,tV,tC,eV,aa,bf,a9,QV,QC,w2,w4,wi];refine⟨by omega,?_⟩;refine⟨fun g=>Lg ?_,fun g=>Lg ?_⟩
  ·have hik:=hgi.1 g;simp only[vx,T,seval,rB,tV,tC,eV,aa,bf,a9,QV,QC,w2,w4,wi];refine Lq ⟨i+1,by omega⟩ ?_ (by show k-(i+1)<k-i;omega);refine Sa ?_;simp only[ry,seval,rz,rB,tV,tC,eV,aa]
  have hik:i=k:=by
   have:¬i<k:=fun h=>g (hgi.2 h)
   omega
  subst hik;obtain⟨⟨m,hm,lr⟩,qr⟩:=I.r i (by omega);have q2:=I.y i (by omega) _ la2 (hq.drop _);have hlm:(rs.getD i []).length≤2^H:=by rw[lr];exact Nat.pow_le_pow_right (by decide) hm
  have pd:=xa (h:=H) (t:=U) (a:=rs.getD i []) (by omega) hlm;have mu:=(fN fS I.tq.tk I.tq.q I.hY I.hZ (a5 (H:=H) (T:=U) (rs:=rs) (k:=i) (a:=a.drop (2^i))) (bC hlm) q2 (Go.Tw.QB.pad I.hZ qr) I.s).rows;have gm:=QB.mul (h:=H) (t:=U) fS I.tq.q I.hY I.hZ q2 (Go.Tw.QB.pad (H:=H) I.hZ qr);have hge:=Go.Tw.gV (h:=H) (S:=Y+Z) (C:=tB);have hs:=I.s;have q1:=I.y i (by omega) _ la1 (hq.take _);have ad:=(sU (h:=H) (t:=U) (a8 H U rs i (a.take (2^i))) _ (by rw[a5];omega) (by rw[ae,a5]) (.of q1 (by omega)) (.of gm hs)).rows;have er:a8 H U rs (i+1) a=aC (a8 H U rs i (a.take (2^i))) (ai H U (a8 H U rs i (a.drop (2^i))) (cE H (rs.getD i []))):=rfl;rw[←er]at ad;obtain⟨r,hr⟩:∃r,r=a8 H U rs (i+1) a:=⟨_,rfl⟩;obtain⟨x,hx⟩:∃x,x=a8 H U rs i (a.take (2^i)):=⟨_,rfl⟩;obtain⟨y,hy⟩:∃y,y=a8 H U rs i (a.drop (2^i)):=⟨_,rfl⟩;obtain⟨v,hv⟩:∃v,v=rs.getD i []:=⟨_,rfl⟩;obtain⟨p,hpp⟩:∃p,p=cE H v:=⟨_,rfl⟩;rw[←hr,←hx]at ad;rw[←hx]at c1;rw[←hy]at c2;rw[←hr];rw[←hv]at pd;rw[←hy,←hv,←hpp]at ad mu;rw[←hpp]at pd;obtain⟨z,hz⟩:∃z,z=ai H U y p:=⟨_,rfl⟩;rw[←hz]at ad mu;have hil:i<rs.length:=by omega
  rw[←hnn]at c1 c2;clear gm hge hs q1 q2 er hr hx hy hpp hz lr qr hlm hm la1 la2 hq;simp only[vx,T,seval,rB,tV,tC,eV,aa,bf,a9,QV,QC,w2,w4,wi,←hv];refine⟨⟨by omega,by omega⟩,⟨by omega,by omega,by omega⟩,Cm 0 (B:=rB N rs) rfl trivial c1 ?_⟩;rintro _ _ ⟨rfl,rfl⟩ _;simp only[vx,T,seval,rB,tV,tC,eV,aa,bf,a9,QV,QC,w2,w4,wi,←hv];refine⟨⟨by omega,by omega,by omega⟩,Cm 0 (B:=rB N rs) rfl trivial c2 ?_⟩;rintro _ _ ⟨rfl,rfl⟩ _;simp only[vx,T,seval,rB,tV,tC,eV,aa,bf,a9,QV,QC,w2,w4,wi,←hv];refine⟨⟨by omega,by omega⟩,Cg pd ?_⟩;simp only[vx,T,seval,rB,tV,tC,eV,aa,bf,a9,QV,QC,w2,w4,wi,←hv];refine Cg mu ?_;simp only[vx,T,seval,rB,tV,tC,eV,aa,bf,a9,QV,QC,w2,w4,wi,←hv];refine Cg ad ?_;simp only[vx,T,seval,rB,tV,tC,eV,aa,bf,a9,QV,QC,w2,w4,wi,←hv];exact⟨rfl,rfl⟩
open Go Go.Eng
open Go.Tw (El aC aJ zE ai au QB mS tB val In Rd nW TG cE bC a8 a5 Ext jK yX)
def P7 (u:List El)(i:Nat)(x y:List El×List El):Prop:=
 ∃e w,Mc prog 116 [tV x.1.length x.1,.one (.own 0 1 0 i),eV (u.getD i [])] (rB i x.2) (L1 x.2 i (eV e))∧Pr prog 41 [tV x.1.length x.1,eV e] (.aA [tV y.1.length y.1,eV w,.one (.int .i64 0)])∧y.2=x.2++[w]
section
variable {A:List R}(S:Go.Tw.Src 64 A)(hA:A.length≤3){t u:List El}
include S hA
theorem BD (G:TG A t)(Gu:TG A u):∃s:Nat→List El×List El,s 0=(t,[])∧(∀i,i≤u.length→I7 A t u i (s i))∧∀i,i<u.length→P7 u i (s i) (s (i+1)):=by
 have h3:=Gu.j6 S hA;refine Go.Tw.chain (I:=I7 A t u) ⟨⟨[],(List.append_nil t).symm⟩,⟨G,rfl,fun i hi=>absurd hi (Nat.not_lt_zero _)⟩,fun _=>rfl⟩ fun i x hi hx=>?_;obtain⟨U,rs⟩:=x;obtain⟨⟨s,hs⟩,E,hall⟩:=hx;have hs:U=t++s:=hs;have E:Ext A u i U rs:=E;have lu:=(Gu.rd.rl i hi).1;have ci:=tX E.len (FC S hA Gu E (by omega)) (by rw[E.len];exact Nat.le_refl _) (by omega) lu (Gu.qb S hA hi);have le:(a8 U.length U rs i (u.getD i [])).length=2^U.length:=a5;have ve:=Go.Tw.kN E (Nat.le_refl _) lu;have hm:val U.length U (a8 U.length U rs i (u.getD i []))∈A:=by rw[ve];exact Gu.mem i hi
 have hp:R.pos (val U.length U (a8 U.length U rs i (u.getD i []))):=by rw[ve];exact(Gu.rd.rl i hi).2
 have rb:=E.tg.Qa S hA le hm hp
 rcases um S hA E.tg le (R.bx.2 (.inr hp)) rb with⟨w,lw,vw,cw⟩|⟨no,c⟩
 ·refine⟨(U,rs++[w]),⟨_,w,ci,cw,rfl⟩,⟨s,hs⟩,?_,fun h=>hall fun j hj=>h j (by omega)⟩
  have:=E.up (S:=[]) (r:=w) (m:=U.length) (by rw[List.append_nil];exact E.tg) (by rw[List.append_nil];exact Nat.le_refl _) lw (by rw[List.append_nil,vw,ve])
  rwa [List.append_nil]at this
 have G':=E.tg.snoc le hm hp no;have hl:(U++[a8 U.length U rs i (u.getD i [])]).length=U.length+1:=by simp
 refine⟨(U++[a8 U.length U rs i (u.getD i [])],rs++[Go.Tw.dK U.length]),⟨_,Go.Tw.dK U.length,ci,?_,rfl⟩,⟨s++[a8 U.length U rs i (u.getD i [])],by rw[hs,List.append_assoc]⟩,?_,fun h=>?_⟩
 ·show Pr _ _ _ (.aA [tV (U++[a8 U.length U rs i (u.getD i [])]).length _,_,_]);rw[hl];exact c
 ·exact E.up G' (m:=U.length+1) (by rw[hl];exact Nat.le_refl _) Go.Tw.kv (by rw[Go.Tw.qy,ve])
 have eU:U=t:=hall fun j hj=>h j (by omega);have hin:=h i (by omega);rw[←eU]at hin;refine absurd ?_ (no _ hin);rw[ve];exact R.dN (R.bx.2 (.inr (Gu.rd.rl i hi).2))
theorem yr (G:TG A t)(Gu:TG A u):∃U rs s,U=t++s∧Ext A u u.length U rs∧((∀j,j<u.length→In t.length t (R.sqrt (val j u (u.getD j []))))→U=t)∧
  Pr prog 114 [tV t.length t,tV u.length u] (.aA [tV U.length U,tV rs.length rs,.one (.int .i64 0)]):=by
 obtain⟨s,e0,hI,hS⟩:=BD S hA G Gu;have h3:=Gu.j6 S hA;obtain⟨⟨z,hz⟩,E,hall⟩:=hI u.length (Nat.le_refl _);refine⟨(s u.length).1,(s u.length).2,z,hz,E,hall,?_⟩;have hl:∀i,i≤u.length→(s i).2.length=i:=fun i hi=>(hI i hi).2.1.len;have h3':∀i,i≤u.length→(s i).1.length≤3:=fun i hi=>(hI i hi).2.1.tg.j6 S hA;have e1:(s 0).1=t:=by rw[e0]
 rw[←e1];clear e0 e1 hI hz E hall;obtain⟨n,hn⟩:∃n,n=u.length:=⟨_,rfl⟩;rw[←hn]at hS h3 hl h3'⊢;rw[hl n (Nat.le_refl n)];refine pw func114 ⟨[0,1,4,5,6,7,8,9,10,11,15,32],[]⟩ ?_;simp only[Tryz.f114,ntmps114,iz,seval];simp only[vx,T,seval,tV,tC,eV,aa];refine Lk (fun y:{i:Nat//i≤n}=>⟨[(0,tV (s y.1).1.length (s y.1).1),(1,tV n u),(4,.one .nil),(5,.one .nil),(6,.one (.int .i64 0)),(7,.one (.own 1 1 0 y.1)),(8,.one (.int .i64 y.1))],[(1,⟨.rows 50 1 y.1 (fun j _=>aa ((s y.1).2.getD j [])),true⟩)],2,41⟩) (fun y=>n-y.1) ⟨0,Nat.zero_le _⟩ ?_ (fun⟨i,hi⟩=>?_)
 ·refine Sa ?_;simp only[ry,seval,rz,tV,tC,eV,aa]
 simp only;have wi:IntKind.i64.wrap ((i:Int)+1)=((i+1:Nat):Int):=by rw[IntWalk.i64_in _ (by omega)];omega
 simp only[vx,T,seval,tV,tC,eV,aa,wi];refine⟨fun g=>Lg ?_,fun g=>Lg ?_⟩
 ·have hil:i<n:=by omega
  obtain⟨e,w,ci,ca,er⟩:=hS i hil;have hli:=hl i hi;have h3i:=h3' i hi;obtain⟨v,hv⟩:∃v,v=u.getD i []:=⟨_,rfl⟩;rw[←hv]at ci;obtain⟨U,hU⟩:∃U,U=(s i).1:=⟨_,rfl⟩;obtain⟨rs,hrs⟩:∃rs,rs=(s i).2:=⟨_,rfl⟩;rw[←hrs]at er hli;rw[←hU,←hrs]at ci;rw[←hU]at ca h3i;rw[←hU,←hrs];simp only[vx,T,seval,tV,tC,eV,aa,←hv];refine⟨⟨by omega,by omega⟩,Cm 1 (B:=rB i rs) rfl trivial ci ?_⟩;rintro _ _ ⟨rfl,rfl⟩ _;simp only[vx,T,seval,rB,tV,tC,eV,aa,←hv];refine Cg ca ?_;simp only[vx,T,seval,rB,tV,tC,eV,aa,←hv,wi];have es:(s (i+1)).2=rs++[w]:=er;have e1:∀j,j<i→(rs++[w]).getD j []=rs.getD j []:=fun j hj=>Go.Tw.dy (by omega);have e2:(rs++[w]).getD i []=w:=by rw[←hli];exact Go.Tw.gg
  refine⟨⟨by omega,by omega⟩,Lq ⟨i+1,by omega⟩ ?_ (by show n-(i+1)<n-i;omega)⟩;refine Sa ?_;simp only[ry,seval,rz,tV,tC,eV,aa];rw[es];intro k j hk hj;obtain rfl:j=0:=by omega
  by_cases hki:k<i
  ·rw[if_pos hki,e1 k hki]
  obtain rfl:k=i:=by omega
  rw[if_neg hki,e2,Nat.sub_self];rfl
 have hil:i=n:=by omega
 subst hil;simp only[vx,T,seval,tV,tC,eV,aa,wi];exact Ve rfl
end
open Go Go.Eng
open Go.Tw (El aC aJ zE ai au ar ao ae QB mS tB val In Rd nW TG cE bC a8 a5 Ext jK yX ax qN mW)
theorem bM {t u:List El}:eY t.length u.length t u=true↔∃s,t=u++s:=by
 unfold eY;rw[Bool.and_eq_true,decide_eq_true_eq,List.all_eq_true]
 constructor
 ·rintro⟨h1,h2⟩;refine⟨t.drop u.length,?_⟩;have e:t.take u.length=u:=by
   refine List.ext_getElem (by rw[X5];omega) fun i k1 k2=>?_
   have:=of_decide_eq_true (h2 i (List.mem_range.2 k2))
   rw[X7,X7,X8 (by omega),X8 k2]at this;rw[List.getElem_take];exact this
  conv=>lhs;rw[←List.take_append_drop u.length t,e]
 rintro⟨s,rfl⟩;exact⟨by rw[X6];omega,fun i hi=>decide_eq_true (Go.Tw.dy (List.mem_range.1 hi))⟩
theorem Qk.pad {h:Nat}{a:El}(hq:Qk a):Qk (cE h a):=fun x hx=>by
 rcases List.mem_append.1 hx with hx|hx
 ·exact hq x hx
 rw[List.eq_of_mem_replicate hx];decide+kernel
theorem HG (x y:List El×El):dr (.rows 2 2 (fun i j=>[tC x.1.length x.1,aa x.2,tC y.1.length y.1,aa y.2].getD (i*2+j) .any)) (bR [x,y]):=by
 refine dr.rows rfl fun i j hi hj=>dr.of_eq ?_
 match i,hi,j,hj with
 |0,_,0,_=>rfl
 |0,_,1,_=>rfl
 |1,_,0,_=>rfl
 |1,_,1,_=>rfl
theorem lE (f:FuncId)(x y:List El×El)(U:List El)(ea eb ec:El)(hj:Pr prog 93 [.one (bR [x,y])] (.aA [.one (bR [(U,ea),(U,eb)]),.one (.int .i64 0)]))
  (hf:Pr prog f [tV U.length U,eV ea,eV eb] (eV ec)):Pr prog 139 [nX x,nX y,.one (.fn f 0 (fun _=>.any))] (.aA [nX (U,ec),.one (.int .i64 0)]):=by
 have hj:=hj.LY (HG x y);refine pw func139 ⟨[0,1,2,3,4,6,7,8,9,10,19],[]⟩ ?_;simp only[Tryz.f139,ntmps139,iz,seval];simp only[vx,T,seval,nX,nV,tC,eV,aa];refine Cg hj ?_
 simp(config:={maxSteps:=400000}) only[vx,T,seval,bR,fg,bu,tC,aa,X0,X1]
 refine Cg hf ?_;simp only[vx,T,seval,eV,aa];exact Ve rfl
theorem Lu (x y:List El×El)(U:List El)(ea eb ec:El)(hj:Pr prog 93 [.one (bR [x,y])] (.aA [.one (bR [(U,ea),(U,eb)]),.one (.int .i64 0)]))
  (hf:Pr prog 148 [tV U.length U,eV ea,eV eb] (eV ec)):Pr prog 106 [nX x,nX y] (.aA [nX (U,ec),.one (.int .i64 0)]):=by
 have c:=lE _ x y U ea eb ec hj hf;refine pw func106 ⟨[0,1,2,3,4,5],[]⟩ ?_;simp only[Tryz.f106,ntmps106,iz,seval];simp only[vx,T,seval,nX,nV,tC,eV,aa];refine Cg c ?_;simp only[vx,T,seval,nX,nV,tC,eV,aa];exact Ve rfl
theorem IV (x y:List El×El)(U:List El)(ea eb ec:El)(hj:Pr prog 93 [.one (bR [x,y])] (.aA [.one (bR [(U,ea),(U,eb)]),.one (.int .i64 0)]))
  (hf:Pr prog 140 [tV U.length U,eV ea,eV eb] (eV ec)):Pr prog 97 [nX x,nX y] (.aA [nX (U,ec),.one (.int .i64 0)]):=by
 have c:=lE _ x y U ea eb ec hj hf;refine pw func97 ⟨[0,1,2,3,4,5],[]⟩ ?_;simp only[Tryz.f97,ntmps97,iz,seval];simp only[vx,T,seval,nX,nV,tC,eV,aa];refine Cg c ?_;simp only[vx,T,seval,nX,nV,tC,eV,aa];exact Ve rfl
end Go.Proofs.YtgcmkdgpaibpeaaGreat
namespace Go.Tw
open Go Go.Eng
theorem ax.pad {A:List R}{t s:List El}{a:El}{x:R}{β μ:Nat}(h:ax A t a x β μ)(G:TG A (t++s)):ax A (t++s) (cE (t++s).length a) x β μ:=by
 have hl:t.length≤(t++s).length:=by rw[X6];omega
 refine⟨G,bC (by rw[h.len];exact Nat.pow_le_pow_right (by decide) hl),?_,h.sz.trans (fun _ h=>h) fun z hz=>((Go.Tw.jP (Nat.le_refl _) z).2 hz).le hl⟩;rw[Go.Tw.sr h.len hl,Go.Tw.eN (Nat.le_refl _),h.val]
theorem ax.image {A:List R}{t U rs:List El}{a:El}{x:R}{β μ:Nat}(h:ax A t a x β μ)(E:Ext A t t.length U rs):ax A U (a8 U.length U rs t.length a) x β μ:=
 ⟨E.tg,a5,by rw[Go.Tw.kN E (Nat.le_refl _) h.len,h.val],h.sz.trans (fun _ h=>h) fun _ hz=>In.tH E (Nat.le_refl _) hz⟩
end Go.Tw
namespace Go.Proofs.YtgcmkdgpaibpeaaGreat
open Go.Proofs.Tryz
open Go Go.Eng
open Go.Tw (El aC aJ zE ai au ar ao ae QB mS tB val In Rd nW TG cE bC a8 a5 Ext jK yX ax qN mW jβ jμ)
theorem Ie:Tk 0 []:=⟨by decide,fun i h=>absurd h (Nat.not_lt_zero _),fun i h=>absurd h (Nat.not_lt_zero _)⟩
def Sm (β μ:Nat):Prop:=∀h,h≤3→qN h β μ<2^38
theorem Sm.of {β μ:Nat}(h1:β≤2^22)(h2:μ≤1000):Sm β μ:=fun h hh=>Nat.lt_of_le_of_lt (Go.Tw.lI h1 h2) (by
 match h,hh with
 |0,_=>decide+kernel
 |1,_=>decide+kernel
 |2,_=>decide+kernel
 |3,_=>decide+kernel)
theorem Sm.mono {β μ β' μ':Nat}(H:Sm β' μ')(h1:β≤β')(h2:μ≤μ'):Sm β μ:=fun h hh=>Nat.lt_of_le_of_lt (Go.Tw.lI h1 h2) (H h hh)
section
variable {A:List R}(S:Go.Tw.Src 64 A)(hA:A.length≤3)
include S hA
theorem mn {t:List El}{a:El}{x:R}{β μ:Nat}(h:ax A t a x β μ)(hs:Sm β μ):Qk a:=.of (h.qb S hA) (hs _ (h.tg.j6 S hA))
theorem lP {t:List El}(G:TG A t):Tk t.length t:=(lR S hA G).tk
theorem H7 {x y:List El×El}{vx vy:R}{βx μx βy μy:Nat}(hx:ax A x.1 x.2 vx βx μx)(hy:ax A y.1 y.2 vy βy μy)(sx:Sm βx μx)(sy:Sm βy μy)(h1:βy≤jβ)(h2:μy≤jμ):
  ∃U ea eb,ax A U ea vx βx μx∧ax A U eb vy βy μy∧(∀z,In x.1.length x.1 z→In U.length U z)∧(∀z,In y.1.length y.1 z→In U.length U z)∧
   Pr prog 93 [.one (bR [x,y])] (.aA [.one (bR [(U,ea),(U,eb)]),.one (.int .i64 0)]):=by
 have xk:=lP S hA hx.tg;have yk:=lP S hA hy.tg;have x3:=hx.tg.j6 S hA;have y3:=hy.tg.j6 S hA;have s0:wF [] x.1 x.1:=by
  by_cases h:x.1=[]
  ·rw[h];exact .inl ⟨bM.2 ⟨[],rfl⟩,rfl⟩
  refine .inr (.inl ⟨?_,bM.2 ⟨x.1,rfl⟩,rfl⟩);refine Bool.eq_false_iff.2 fun k=>?_;obtain⟨s,e⟩:=bM.1 k;exact h (List.append_eq_nil_iff.1 e.symm).1
 -- what is shown of the common tower
 have fin:∀(U eb:_) (s:List El),U=x.1++s→wF x.1 y.1 U→TG A U→ax A U eb vy βy μy→(∀z,In y.1.length y.1 z→In U.length U z)→wu U y eb→
   ∃U ea eb,ax A U ea vx βx μx∧ax A U eb vy βy μy∧(∀z,In x.1.length x.1 z→In U.length U z)∧(∀z,In y.1.length y.1 z→In U.length U z)∧
    Pr prog 93 [.one (bR [x,y])] (.aA [.one (bR [(U,ea),(U,eb)]),.one (.int .i64 0)]):=by
  intro U eb s hU st G nb iy sj;have uk:=lP S hA G;have na:ax A U (cE U.length x.2) vx βx μx:=by rw[hU]at G⊢;exact hx.pad G
  have ul:=G.j6 S hA;have pl:∀{e:El},e.length=2^U.length→e.length<2^38:=fun h=>by rw[h];exact aN (by omega)
  refine⟨U,cE U.length x.2,eb,na,nb,fun z hz=>?_,iy,?_⟩
  ·rw[hU];exact((Go.Tw.jP (Nat.le_refl _) z).2 hz).le (by rw[X6];omega)
  have cm:=rJ [x,y] (by simp) (fun i=>if i=0 then[]else if i=1 then x.1 else U) rfl (fun i hi=>by
    match i,hi with
    |0,_=>exact Ie
    |1,_=>exact xk
    |2,_=>exact uk) (fun i hi=>by
    match i,hi with
    |0,_=>exact xk
    |1,_=>exact yk) (fun i hi=>by
    match i,hi with
    |0,_=>exact s0
    |1,_=>exact st)
  refine Eo [x,y] [(U,cE U.length x.2),(U,eb)] (by simp) rfl U uk (fun i hi=>by
    match i,hi with
    |0,_=>exact xk
    |1,_=>exact yk) cm fun i hi=>?_
  match i,hi with
  |0,_=>
   refine⟨rfl,pl na.len,mn S hA na sx,.inl ⟨bM.2 ⟨s,hU⟩,?_⟩⟩;refine lV (by omega) ?_ ?_
   ·show 0<x.2.length;rw[hx.len];exact Nat.two_pow_pos _
   show x.2.length≤_;rw[hx.len,hU,X6];exact Nat.pow_le_pow_right (by decide) (by omega)
  |1,_=>exact⟨rfl,pl nb.len,mn S hA nb sy,sj⟩
 have ypos:0<y.2.length:=by rw[hy.len];exact Nat.two_pow_pos _
 -- padding y
 have padY:∀(U s:List El),U=y.1++s→TG A U→ax A U (cE U.length y.2) vy βy μy∧(∀z,In y.1.length y.1 z→In U.length U z)∧wu U y (cE U.length y.2):=by
  intro U s hU G;have ul:=G.j6 S hA;refine⟨by rw[hU]at G⊢;exact hy.pad G,fun z hz=>?_,.inl ⟨bM.2 ⟨s,hU⟩,lV (by omega) ypos ?_⟩⟩
  ·rw[hU];exact((Go.Tw.jP (Nat.le_refl _) z).2 hz).le (by rw[X6];omega)
  rw[hy.len,hU,X6];exact Nat.pow_le_pow_right (by decide) (by omega)
 cases hb:eY x.1.length y.1.length x.1 y.1 with
 |true=>
  obtain⟨s,e⟩:=bM.1 hb;obtain⟨p1,p2,p3⟩:=padY x.1 s e hx.tg;exact fin x.1 _ [] (List.append_nil _).symm (.inl ⟨hb,rfl⟩) hx.tg p1 p2 p3
 |false=>
  cases hb':eY y.1.length x.1.length y.1 x.1 with
  |true=>
   obtain⟨s,e⟩:=bM.1 hb';obtain⟨p1,p2,p3⟩:=padY y.1 [] (List.append_nil _).symm hy.tg;exact fin y.1 _ s e (.inr (.inl ⟨hb,hb',rfl⟩)) hy.tg p1 p2 p3
  |false=>
   obtain⟨U,rs,s,eU,E,_,c⟩:=jZ S hA hx.tg hy.tg;have st:wF x.1 y.1 U:=.inr (.inr ⟨hb,hb',rs,c⟩)
   cases hbu:eY U.length y.1.length U y.1 with
   |true=>
    obtain⟨s',e'⟩:=bM.1 hbu;obtain⟨p1,p2,p3⟩:=padY U s' e' E.tg;exact fin U _ s eU st E.tg p1 p2 p3
   |false=>
    obtain⟨U',rs',s',eU',E',hall,c'⟩:=jZ S hA E.tg hy.tg;obtain rfl:U'=U:=hall fun j hj=>E.sh hj;obtain⟨qb,I⟩:=hy.P2 S hA h1 h2 E';have tq:=lR S hA E'.tg;have im:=lM (a:=y.2) ⟨tq,I.hB,I.hY,Go.Tw.ir,I.y,I.r,I.s⟩ (by rw[E'.len];exact Nat.le_refl _) (by omega) hy.len qb;exact fin U' _ s eU st E.tg (hy.image E') (fun z hz=>In.tH E' (Nat.le_refl _) hz) (.inr ⟨hbu,U',rs',c',im⟩)
theorem DS {x y:List El×El}{vx vy:R}{βx μx βy μy:Nat}(hx:ax A x.1 x.2 vx βx μx)(hy:ax A y.1 y.2 vy βy μy)(sx:Sm βx μx)(sy:Sm βy μy)(h1:βy≤jβ)(h2:μy≤jμ):
  ∃z:List El×El,ax A z.1 z.2 (vx+vy) (βx+βy+1) (μx+μy)∧Pr prog 106 [nX x,nX y] (.aA [nX z,.one (.int .i64 0)]):=by
 obtain⟨U,ea,eb,na,nb,_,_,j⟩:=H7 S hA hx hy sx sy h1 h2;refine⟨(U,aC ea eb),⟨na.tg,ao na.len nb.len,by rw[←na.val,←nb.val];exact Go.Tw.val_add na.len nb.len,na.sz.add nb.sz⟩,?_⟩;exact Lu x y U ea eb _ j (kD (lP S hA na.tg) _ _ na.len nb.len (mn S hA na sx) (mn S hA nb sy))
theorem EM {x y:List El×El}{vx vy:R}{βx μx βy μy:Nat}(hx:ax A x.1 x.2 vx βx μx)(hy:ax A y.1 y.2 vy βy μy)(sx:Sm βx μx)(sy:Sm βy μy)(h1:βy≤jβ)(h2:μy≤jμ)
  (hm:∀h,h≤3→mS h (qN h βx μx+qN h βy μy) tB<2^38):
  ∃z:List El×El,ax A z.1 z.2 (vx*vy) (βx+βy) (μx+μy)∧Pr prog 97 [nX x,nX y] (.aA [nX z,.one (.int .i64 0)]):=by
 obtain⟨U,ea,eb,na,nb,_,_,j⟩:=H7 S hA hx hy sx sy h1 h2;have tq:=lR S hA na.tg;refine⟨(U,ai U.length U ea eb),⟨na.tg,ae,by rw[←na.val,←nb.val];exact Go.Tw.val_mul na.tg.rd.rl na.len nb.len,na.sz.mul nb.sz⟩,?_⟩;exact IV x y U ea eb _ j (gz fS tq.tk tq.q Go.Tw.ir Go.Tw.ir _ _ na.len nb.len (na.qb S hA) (nb.qb S hA) (hm _ (na.tg.j6 S hA)))
end
open Go Go.Eng
open Go.Tw (El aC aJ zE ai au ar ao ae QB mS tB val In Rd nW TG cE bC a8 a5 Ext jK yX ax qN mW jβ jμ)
def Pz (t x t':List El):Prop:=
 (t.length<x.length∧eY x.length t.length x t=true∧t'=x)∨(¬t.length<x.length∧eY t.length x.length t x=true∧t'=t)∨
 ((t.length<x.length→eY x.length t.length x t=false)∧eY t.length x.length t x=false∧∃rs:List El,Pr prog 114 [tV t.length t,tV x.length x] (.aA [tV t'.length t',tV rs.length rs,.one (.int .i64 0)]))
def OI (U:List El)(x:List El×El)(e:El):Prop:=
 (eY U.length x.1.length U x.1=true∧Pr prog 115 [tV U.length U,eV x.2] (eV e))∨
 (eY U.length x.1.length U x.1=false∧∃V rs:List El,Pr prog 114 [tV U.length U,tV x.1.length x.1] (.aA [tV V.length V,tV rs.length rs,.one (.int .i64 0)])∧Pr prog 116 [tV U.length U,tV rs.length rs,eV x.2] (eV e))
theorem yp (l os:List (List El×El))(hl:l.length<2^30)(hos:os.length=l.length)(tt:Nat→List El)(h0:tt 0=[])(tk:∀i,i≤l.length→Tk (tt i).length (tt i))(xk:∀i,i<l.length→Tk (l.getD i default).1.length (l.getD i default).1)
  (sc:∀i,i<l.length→Pz (tt i) (l.getD i default).1 (tt (i+1)))
  (st:∀i,i<l.length→(os.getD i default).1=tt l.length∧(os.getD i default).2.length<2^38∧OI (tt l.length) (l.getD i default) (os.getD i default).2):
  Pr prog 76 [.one (bR l)] (.aA [.one (bR os),.one (.int .i64 0)]):=by
 have e0:(tt 0).length=0:=by rw[h0];rfl
 have uk:=tk l.length (Nat.le_refl _);have u8:=uk.le8;refine pw func76 ⟨[0,2,3,4,5,6,8,9,10,11,13,18,38,51,64,70,81],[]⟩ ?_;simp only[Tryz.f76,ntmps76,iz,seval];simp only[vx,T,seval,bR];refine Lk (fun y:{i:Nat//i≤l.length}=>⟨[(0,.one (bR l)),(2,.one .nil),(3,.one (.int .i64 0)),(4,tV (tt y.1).length (tt y.1)),(5,.one (.int .i64 y.1))],[],1,115⟩) (fun y=>l.length-y.1) ⟨0,Nat.zero_le _⟩ ?_ (fun⟨i,hi⟩=>?_)
 ·refine Sa ?_;simp only[ry,seval,rz,bR,tV,tC,e0]
 simp only;have wi:IntKind.i64.wrap ((i:Int)+1)=((i+1:Nat):Int):=by rw[IntWalk.i64_in _ (by omega)];omega
 simp only[vx,T,seval,bR,tV,tC,wi];refine⟨fun g=>Lg ?_,fun g=>Lg ?_⟩
 ·have hil:i<l.length:=by omega
  have sti:=sc i hil;have b1:=pG (tk i hi) (xk i hil);have b2:=pG (xk i hil) (tk i hi);have t8:=(tk i hi).le8;have x8:=(xk i hil).le8;obtain⟨x,hx⟩:∃x,x=l.getD i default:=⟨_,rfl⟩;rw[←hx]at sti b1 b2 x8;obtain⟨t,ht⟩:∃t,t=tt i:=⟨_,rfl⟩;rw[←ht]at sti b1 b2 t8;obtain⟨t',ht'⟩:∃t',t'=tt (i+1):=⟨_,rfl⟩;rw[←ht']at sti;rw[←ht];clear uk u8 hos st;simp only[vx,T,seval,bR,fg,bu,tV,tC,←hx,wi];have mea:l.length-(i+1)<l.length-i:=by omega
  rcases sti with⟨g0,g1,e⟩|⟨g0,g1,e⟩|⟨g0,g1,rs,c⟩
  ·have b3:=pG (xk i hil) (tk i hi);rw[←hx,←ht,g1]at b3;refine⟨by omega,fun _=>Lg ?_,fun h=>absurd (by omega) h⟩;simp only[vx,T,seval,bR,fg,bu,tV,tC,←hx,wi]
   first|refine Cg b3 ?_|refine ⟨by omega,Cg b3 ?_⟩
   simp only[vx,T,seval,bR,fg,bu,tV,tC,←hx,wi]
   first|refine Lq ⟨i+1,by omega⟩ ?_ mea|refine ⟨by omega,Lq ⟨i+1,by omega⟩ ?_ mea⟩
   refine Sa ?_;simp only[ry,seval,rz,bR,tV,tC,←ht',e]
  ·rw[g1]at b1;refine⟨by omega,fun h=>absurd h (by omega),fun _=>Lg ?_⟩;simp only[vx,T,seval,bR,fg,bu,tV,tC,←hx,wi]
   first|refine Cg b1 ?_|refine ⟨by omega,Cg b1 ?_⟩
   simp only[vx,T,seval,bR,fg,bu,tV,tC,←hx,wi]
   first|refine Lq ⟨i+1,by omega⟩ ?_ mea|refine ⟨by omega,Lq ⟨i+1,by omega⟩ ?_ mea⟩
   refine Sa ?_;simp only[ry,seval,rz,bR,tV,tC,←ht',e]
  rw[g1]at b1;refine⟨by omega,fun h=>Lg ?_,fun _=>Lg ?_⟩
  ·rw[g0 (by omega)]at b2;simp only[vx,T,seval,bR,fg,bu,tV,tC,←hx,wi]
   first|refine Cg b2 ?_|refine ⟨by omega,Cg b2 ?_⟩
   simp only[vx,T,seval,bR,fg,bu,tV,tC,←hx,wi]
   first|refine Cg b1 ?_|refine ⟨by omega,Cg b1 ?_⟩
   simp only[vx,T,seval,bR,fg,bu,tV,tC,←hx,wi]
   first|refine Cg c ?_|refine ⟨by omega,Cg c ?_⟩
   simp only[vx,T,seval,bR,fg,bu,tV,tC,←hx,wi]
   first|refine Lq ⟨i+1,by omega⟩ ?_ mea|refine ⟨by omega,Lq ⟨i+1,by omega⟩ ?_ mea⟩
   refine Sa ?_;simp only[ry,seval,rz,bR,tV,tC,←ht']
  simp only[vx,T,seval,bR,fg,bu,tV,tC,←hx,wi]
  first|refine Cg b1 ?_|refine ⟨by omega,Cg b1 ?_⟩
  simp only[vx,T,seval,bR,fg,bu,tV,tC,←hx,wi]
  first|refine Cg c ?_|refine ⟨by omega,Cg c ?_⟩
  simp only[vx,T,seval,bR,fg,bu,tV,tC,←hx,wi]
  first|refine Lq ⟨i+1,by omega⟩ ?_ mea|refine ⟨by omega,Lq ⟨i+1,by omega⟩ ?_ mea⟩
  refine Sa ?_;simp only[ry,seval,rz,bR,tV,tC,←ht']
 have hil:i=l.length:=by omega
 subst hil;clear sc wi;obtain⟨U,hU⟩:∃U,U=tt l.length:=⟨_,rfl⟩;rw[←hU]at st uk u8⊢;simp only[vx,T,seval,bR,tV,tC];refine Lk (fun y:{i:Nat//i≤l.length}=>⟨[(0,.one (bR l)),(2,.one .nil),(3,.one (.int .i64 0)),(4,tV U.length U),(9,.one (.own 1 2 0 y.1)),(10,.one (.int .i64 y.1))],[(1,⟨.rows 52 2 y.1 (fg (os.take y.1)),true⟩)],2,115⟩) (fun y=>l.length-y.1) ⟨0,Nat.zero_le _⟩ ?_ (fun⟨i,hi⟩=>?_)
 ·refine Sa ?_;simp only[ry,seval,rz,bR,tV,tC]
 simp only;have wi:IntKind.i64.wrap ((i:Int)+1)=((i+1:Nat):Int):=by rw[IntWalk.i64_in _ (by omega)];omega
 simp only[vx,T,seval,bR,tV,tC,wi];refine⟨fun g=>Lg ?_,fun g=>Lg ?_⟩
 ·have hil:i<l.length:=by omega
  obtain⟨s1,s2,sj⟩:=st i hil;have b1:=pG uk (xk i hil);have hst:os.take (i+1)=os.take i++[os.getD i default]:=by rw[List.take_add_one,X7,X8 (by omega)];rfl
  have htl:(os.take i).length=i:=by rw[X5];omega
  have sn:=uf htl (os.getD i default);rw[←hst]at sn;obtain⟨x,hx⟩:∃x,x=l.getD i default:=⟨_,rfl⟩;rw[←hx]at sj b1;obtain⟨o,ho⟩:∃o,o=os.getD i default:=⟨_,rfl⟩;rw[←ho]at s1 s2 sj sn;rw[s1]at sn;have mea:l.length-(i+1)<l.length-i:=by omega
  rcases sj with⟨g1,c⟩|⟨g1,V,rs,c,d⟩
  ·rw[g1]at b1;simp only[vx,T,seval,bR,fg,bu,tV,tC,←hx,wi]
   first|refine Cg b1 ?_|refine ⟨by omega,Cg b1 ?_⟩
   simp only[vx,T,seval,bR,fg,bu,tV,tC,←hx,wi]
   first|refine Cg c ?_|refine ⟨by omega,Cg c ?_⟩
   simp only[vx,T,seval,bR,fg,bu,tV,tC,eV,aa,←hx,wi];refine⟨⟨by omega,by omega⟩,Lq ⟨i+1,by omega⟩ ?_ mea⟩;refine Sa ?_;simp only[ry,seval,rz,bR,tV,tC,aa];exact sn
  rw[g1]at b1;simp only[vx,T,seval,bR,fg,bu,tV,tC,←hx,wi]
  first|refine Cg b1 ?_|refine ⟨by omega,Cg b1 ?_⟩
  simp only[vx,T,seval,bR,fg,bu,tV,tC,←hx,wi]
  first|refine Cg c ?_|refine ⟨by omega,Cg c ?_⟩
  simp only[vx,T,seval,bR,fg,bu,tV,tC,eV,aa,←hx,wi]
  first|refine Cg d ?_|refine ⟨by omega,Cg d ?_⟩
  simp only[vx,T,seval,bR,fg,bu,tV,tC,eV,aa,←hx,wi];refine⟨⟨by omega,by omega⟩,Lq ⟨i+1,by omega⟩ ?_ mea⟩;refine Sa ?_;simp only[ry,seval,rz,bR,tV,tC,aa];exact sn
 have hil:i=l.length:=by omega
 subst hil;have e:os.take l.length=os:=by rw[←hos,List.take_length]
 simp only[vx,T,seval,bR,tV,tC,wi,e];rw[hos];exact fP.refl _
open Go Go.Eng
open Go.Tw (El aC aJ zE ai au ar ao ae QB mS tB val In Rd nW TG cE bC a8 a5 Ext jK yX ax qN mW jβ jμ)
section
variable {A:List R}(S:Go.Tw.Src 64 A)(hA:A.length≤3)
include S hA
theorem FQ {x y:List El×El}{vx vy:R}{βx μx βy μy:Nat}(hx:ax A x.1 x.2 vx βx μx)(hy:ax A y.1 y.2 vy βy μy)(sx:Sm βx μx)(sy:Sm βy μy)(h1:βy≤jβ)(h2:μy≤jμ):
  ∃U ea eb,ax A U ea vx βx μx∧ax A U eb vy βy μy∧(∀z,In x.1.length x.1 z→In U.length U z)∧(∀z,In y.1.length y.1 z→In U.length U z)∧
   Pr prog 76 [.one (bR [x,y])] (.aA [.one (bR [(U,ea),(U,eb)]),.one (.int .i64 0)]):=by
 have xk:=lP S hA hx.tg;have yk:=lP S hA hy.tg;have x3:=hx.tg.j6 S hA;have y3:=hy.tg.j6 S hA;have s0:Pz [] x.1 x.1:=by
  by_cases h:x.1=[]
  ·rw[h];exact .inr (.inl ⟨Nat.lt_irrefl _,bM.2 ⟨[],rfl⟩,rfl⟩)
  exact .inl ⟨List.length_pos_iff.2 h,bM.2 ⟨x.1,rfl⟩,rfl⟩
 -- what is shown of the common tower
 have fin:∀(U eb:_) (s:List El),U=x.1++s→Pz x.1 y.1 U→TG A U→ax A U eb vy βy μy→(∀z,In y.1.length y.1 z→In U.length U z)→OI U y eb→
   ∃U ea eb,ax A U ea vx βx μx∧ax A U eb vy βy μy∧(∀z,In x.1.length x.1 z→In U.length U z)∧(∀z,In y.1.length y.1 z→In U.length U z)∧
    Pr prog 76 [.one (bR [x,y])] (.aA [.one (bR [(U,ea),(U,eb)]),.one (.int .i64 0)]):=by
  intro U eb s hU st G nb iy sj;have uk:=lP S hA G;have na:ax A U (cE U.length x.2) vx βx μx:=by rw[hU]at G⊢;exact hx.pad G
  have ul:=G.j6 S hA;have pl:∀{e:El},e.length=2^U.length→e.length<2^38:=fun h=>by rw[h];exact aN (by omega)
  refine⟨U,cE U.length x.2,eb,na,nb,fun z hz=>?_,iy,?_⟩
  ·rw[hU];exact((Go.Tw.jP (Nat.le_refl _) z).2 hz).le (by rw[X6];omega)
  refine yp [x,y] [(U,cE U.length x.2),(U,eb)] (by simp) rfl (fun i=>if i=0 then[]else if i=1 then x.1 else U) rfl (fun i hi=>by
    match i,hi with
    |0,_=>exact Ie
    |1,_=>exact xk
    |2,_=>exact uk) (fun i hi=>by
    match i,hi with
    |0,_=>exact xk
    |1,_=>exact yk) (fun i hi=>by
    match i,hi with
    |0,_=>exact s0
    |1,_=>exact st) fun i hi=>?_
  have l0:OI U x (cE U.length x.2):=.inl ⟨bM.2 ⟨s,hU⟩,xa (by omega) (by
   show x.2.length≤_;rw[hx.len,hU,X6];exact Nat.pow_le_pow_right (by decide) (by omega))⟩
  show _=U∧_∧OI U _ _
  match i,hi with
  |0,_=>exact⟨rfl,pl na.len,l0⟩
  |1,_=>exact⟨rfl,pl nb.len,sj⟩
 -- padding y
 have padY:∀(U s:List El),U=y.1++s→TG A U→ax A U (cE U.length y.2) vy βy μy∧(∀z,In y.1.length y.1 z→In U.length U z)∧OI U y (cE U.length y.2):=by
  intro U s hU G;have ul:=G.j6 S hA;refine⟨by rw[hU]at G⊢;exact hy.pad G,fun z hz=>?_,.inl ⟨bM.2 ⟨s,hU⟩,xa (by omega) ?_⟩⟩
  ·rw[hU];exact((Go.Tw.jP (Nat.le_refl _) z).2 hz).le (by rw[X6];omega)
  rw[hy.len,hU,X6];exact Nat.pow_le_pow_right (by decide) (by omega)
 have bl:∀{t u:List El},eY t.length u.length t u=true→u.length≤t.length:=fun h=>by
  obtain⟨s,e⟩:=bM.1 h;rw[e,X6];omega
 cases hb:eY x.1.length y.1.length x.1 y.1 with
 |true=>
  obtain⟨s,e⟩:=bM.1 hb
  have:=bl hb
  obtain⟨p1,p2,p3⟩:=padY x.1 s e hx.tg;exact fin x.1 _ [] (List.append_nil _).symm (.inr (.inl ⟨by omega,hb,rfl⟩)) hx.tg p1 p2 p3
 |false=>
  cases hb':eY y.1.length x.1.length y.1 x.1 with
  |true=>
   obtain⟨s,e⟩:=bM.1 hb';have h1:=bl hb';have hlt:x.1.length<y.1.length:=by
    refine Nat.lt_of_le_of_ne h1 fun h=>?_;have l:=congrArg List.length e;rw[X6]at l;have s0:s=[]:=List.length_eq_zero_iff.1 (by omega);rw[s0,List.append_nil]at e;rw[bM.2 ⟨[],by rw[List.append_nil];exact e.symm⟩]at hb
    cases hb
   obtain⟨p1,p2,p3⟩:=padY y.1 [] (List.append_nil _).symm hy.tg;exact fin y.1 _ s e (.inl ⟨hlt,hb',rfl⟩) hy.tg p1 p2 p3
  |false=>
   obtain⟨U,rs,s,eU,E,_,c⟩:=yr S hA hx.tg hy.tg;have st:Pz x.1 y.1 U:=.inr (.inr ⟨fun _=>hb',hb,rs,c⟩)
   cases hbu:eY U.length y.1.length U y.1 with
   |true=>
    obtain⟨s',e'⟩:=bM.1 hbu;obtain⟨p1,p2,p3⟩:=padY U s' e' E.tg;exact fin U _ s eU st E.tg p1 p2 p3
   |false=>
    obtain⟨U',rs',s',eU',E',hall,c'⟩:=yr S hA E.tg hy.tg;obtain rfl:U'=U:=hall fun j hj=>E.sh hj;obtain⟨qb,I⟩:=hy.P2 S hA h1 h2 E';have tq:=lR S hA E'.tg;have y3':=hy.tg.j6 S hA;have im:=yf (a:=y.2) rfl ⟨tq,I.hB,I.hY,Go.Tw.ir,I.y,I.r,I.s⟩ (by rw[E'.len];exact Nat.le_refl _) (by omega) hy.len qb;exact fin U' _ s eU st E.tg (hy.image E') (fun z hz=>In.tH E' (Nat.le_refl _) hz) (.inr ⟨hbu,U',rs',c',im⟩)
end
open Go Go.Eng
open Go.Tw (El aC aJ zE ai au ar ao ae QB mS tB val In Rd nW TG cE bC a8 a5 Ext jK yX ax qN mW jβ jμ)
theorem LQ (x y:List El×El)(U:List El)(ea eb:El)(hj:Pr prog 76 [.one (bR [x,y])] (.aA [.one (bR [(U,ea),(U,eb)]),.one (.int .i64 0)])):
  Pr prog 43 [nX x,nX y] (.aA [nX (U,ea),nX (U,eb),.one (.int .i64 0)]):=by
 have hj:=hj.LY (HG x y);refine pw func43 ⟨[0,1,2,3,4,5,6,7,8,17],[(4,(.cons 6 [3,4,5] (.cons 7 [] (.cons 8 [] .nil .nil) .nil) .nil))]⟩ ?_;simp only[Tryz.f43,ntmps43,iz,seval];simp only[vx,T,seval,nX,nV,tC,eV,aa];refine Cg hj ?_;simp only[vx,T,seval,bR,fg,bu,tC,aa,X0,X1];exact Ve rfl
theorem Gl (x y:List El×El)(U:List El)(ea eb ec:El)(hj:Pr prog 76 [.one (bR [x,y])] (.aA [.one (bR [(U,ea),(U,eb)]),.one (.int .i64 0)]))
  (hf:Pr prog 80 [tV U.length U,eV ea,eV eb] (eV ec)):Pr prog 50 [nX x,nX y] (.aA [nX (U,ec),.one (.int .i64 0)]):=by
 have c:=LQ x y U ea eb hj;refine pw func50 ⟨[0,1,2,3,4,5,6,15],[]⟩ ?_;simp only[Tryz.f50,ntmps50,iz,seval];simp only[vx,T,seval,nX,nV,tC,eV,aa];refine Cg c ?_;simp only[vx,T,seval,nX,nV,tV,tC,eV,aa];refine Cg hf ?_;simp only[vx,T,seval,nX,nV,tV,tC,eV,aa];exact Ve rfl
theorem Hc (x y:List El×El)(U:List El)(ea eb ec:El)(hj:Pr prog 76 [.one (bR [x,y])] (.aA [.one (bR [(U,ea),(U,eb)]),.one (.int .i64 0)]))
  (hf:Pr prog 44 [tV U.length U,eV ea,eV eb] (eV ec)):Pr prog 19 [nX x,nX y] (.aA [nX (U,ec),.one (.int .i64 0)]):=by
 have c:=LQ x y U ea eb hj;refine pw func19 ⟨[0,1,2,3,4,5,6,15],[]⟩ ?_;simp only[Tryz.f19,ntmps19,iz,seval];simp only[vx,T,seval,nX,nV,tC,eV,aa];refine Cg c ?_;simp only[vx,T,seval,nX,nV,tV,tC,eV,aa];refine Cg hf ?_;simp only[vx,T,seval,nX,nV,tV,tC,eV,aa];exact Ve rfl
theorem HP (x:List El×El)(ec:El)(hf:Pr prog 90 [tV x.1.length x.1,eV x.2] (eV ec)):Pr prog 55 [nX x] (nX (x.1,ec)):=by
 refine pw func55 ⟨[0,1,2],[]⟩ ?_;simp only[Tryz.f55,ntmps55,iz,seval];simp only[vx,T,seval,nX,nV,tC,eV,aa];refine Cg hf ?_;simp only[vx,T,seval,nX,nV,tV,tC,eV,aa];exact Ve rfl
theorem HQ (x y n z:List El×El)(hn:Pr prog 55 [nX y] (nX n))(ha:Pr prog 50 [nX x,nX n] (.aA [nX z,.one (.int .i64 0)])):
  Pr prog 52 [nX x,nX y] (.aA [nX z,.one (.int .i64 0)]):=by
 refine pw func52 ⟨[0,1,2,3,4,5],[]⟩ ?_;simp only[Tryz.f52,ntmps52,iz,seval];simp only[vx,T,seval,nX,nV,tC,eV,aa];refine Cg hn ?_;simp only[vx,T,seval,nX,nV,tV,tC,eV,aa];refine Cg ha ?_;simp only[vx,T,seval,nX,nV,tV,tC,eV,aa];exact Ve rfl
section
variable {A:List R}(S:Go.Tw.Src 64 A)(hA:A.length≤3)
include S hA
theorem sM {x y:List El×El}{vx vy:R}{βx μx βy μy:Nat}(hx:ax A x.1 x.2 vx βx μx)(hy:ax A y.1 y.2 vy βy μy)(sx:Sm βx μx)(sy:Sm βy μy)(h1:βy≤jβ)(h2:μy≤jμ):
  ∃z:List El×El,ax A z.1 z.2 (vx+vy) (βx+βy+1) (μx+μy)∧Pr prog 50 [nX x,nX y] (.aA [nX z,.one (.int .i64 0)]):=by
 obtain⟨U,ea,eb,na,nb,_,_,j⟩:=FQ S hA hx hy sx sy h1 h2;refine⟨(U,aC ea eb),⟨na.tg,ao na.len nb.len,by rw[←na.val,←nb.val];exact Go.Tw.val_add na.len nb.len,na.sz.add nb.sz⟩,?_⟩;have u3:=na.tg.j6 S hA;have p8:2^U.length≤2^3:=Nat.pow_le_pow_right (by decide) u3;exact Gl x y U ea eb _ j (sU ea eb (by rw[na.len];omega) (by rw[nb.len,na.len]) (mn S hA na sx) (mn S hA nb sy)).rows
theorem oL {x y:List El×El}{vx vy:R}{βx μx βy μy:Nat}(hx:ax A x.1 x.2 vx βx μx)(hy:ax A y.1 y.2 vy βy μy)(sx:Sm βx μx)(sy:Sm βy μy)(h1:βy≤jβ)(h2:μy≤jμ)
  (hm:∀h,h≤3→mS h (qN h βx μx+qN h βy μy) tB<2^38):
  ∃z:List El×El,ax A z.1 z.2 (vx*vy) (βx+βy) (μx+μy)∧Pr prog 19 [nX x,nX y] (.aA [nX z,.one (.int .i64 0)]):=by
 obtain⟨U,ea,eb,na,nb,_,_,j⟩:=FQ S hA hx hy sx sy h1 h2;have tq:=lR S hA na.tg;refine⟨(U,ai U.length U ea eb),⟨na.tg,ae,by rw[←na.val,←nb.val];exact Go.Tw.val_mul na.tg.rd.rl na.len nb.len,na.sz.mul nb.sz⟩,?_⟩;exact Hc x y U ea eb _ j (fN fS tq.tk tq.q Go.Tw.ir Go.Tw.ir na.len nb.len (na.qb S hA) (nb.qb S hA) (hm _ (na.tg.j6 S hA))).rows
theorem sO {x:List El×El}{vx:R}{βx μx:Nat}(hx:ax A x.1 x.2 vx βx μx)(sx:Sm βx μx):Pr prog 55 [nX x] (nX (x.1,aJ x.2)):=by
 have u3:=hx.tg.j6 S hA;have p8:2^x.1.length≤2^3:=Nat.pow_le_pow_right (by decide) u3;exact HP x _ (yY x.2 (by rw[hx.len];omega) (mn S hA hx sx)).rows
end
end Go.Proofs.YtgcmkdgpaibpeaaGreat
namespace Go.Tw
open Go Go.Eng
theorem ax.neg {A:List R}{t:List El}{a:El}{x:R}{β μ:Nat}(h:ax A t a x β μ):ax A t (aJ a) (-x) β μ:=
 ⟨h.tg,by rw[ar,h.len],by rw[←h.val];exact Go.Tw.val_neg h.len,h.sz.neg⟩
end Go.Tw
namespace Go.Proofs.YtgcmkdgpaibpeaaGreat
open Go.Proofs.Tryz
open Go Go.Eng
open Go.Tw (El aC aJ zE ai au ar ao ae QB mS tB val In Rd nW TG cE bC a8 a5 Ext jK yX ax qN mW jβ jμ gT bo)
theorem AD {X:Nat}(hX1:1≤X)(hX:X≤2^30){x:List El×El}(W:TQ x.1.length x.1)(ha:x.2.length=2^x.1.length)(hs:gT X x.1.length x.1 x.2):
  Pr prog 54 [nX x] (.one (.int .i64 (bo x.1.length x.1 x.2))):=by
 have c:=M1 hX1 hX W ha hs;refine pw func54 ⟨[0,1,2],[]⟩ ?_;simp only[Tryz.f54,ntmps54,iz,seval];simp only[vx,T,seval,nX,nV,tC,eV,aa];refine Cg c ?_;simp only[vx,T,seval,nX,nV,tV,tC,eV,aa];exact Ve rfl
section
variable {A:List R}(S:Go.Tw.Src 64 A)(hA:A.length≤3)
include S hA
theorem tS {x y:List El×El}{vx vy:R}{βx μx βy μy:Nat}(hx:ax A x.1 x.2 vx βx μx)(hy:ax A y.1 y.2 vy βy μy)(sx:Sm βx μx)(sy:Sm βy μy)(h1:βy≤jβ)(h2:μy≤jμ):
  ∃z:List El×El,ax A z.1 z.2 (vx+ -vy) (βx+βy+1) (μx+μy)∧Pr prog 52 [nX x,nX y] (.aA [nX z,.one (.int .i64 0)]):=by
 obtain⟨z,nz,c⟩:=sM S hA hx (x:=x) (y:=(y.1,aJ y.2)) hy.neg sx sy h1 h2;exact⟨z,nz,HQ x y _ z (sO S hA hy sy) c⟩
end
open Go Go.Eng
open Go.Tw (El)
theorem qv (q:Rat)(t:List El):Pr prog 20 [QV q] (nV 0 t [q]):=by
 refine pw func20 ⟨[0,1,2],[]⟩ ?_;simp only[Tryz.f20,ntmps20,iz,seval];simp only[vx,T,seval,QV,QC];refine fP.Oq (.pc _ _) (.rows rfl fun i j hi hj=>.of_eq ?_);obtain rfl:i=0:=by omega
 show List.getD _ (0*4+j) _=_;rw[Nat.zero_mul,Nat.zero_add];exact dA q rfl j
theorem ja (z:Int)(h1: -9223372036854775808≤z)(h2:z≤9223372036854775807):Pr prog 18 [.one (.int .i64 z)] (nX ([],[Rat.ofInt z])):=by
 have c:=bc z h1 h2;have d:=qv (Rat.ofInt z) [];refine pw func18 ⟨[0,2],[]⟩ ?_;simp only[Tryz.f18,ntmps18,iz,seval];simp only[vx,T,seval];refine Cg c ?_;simp only[vx,T,seval,QV,QC];refine Cg d ?_;simp only[vx,T,seval,nX,nV,tC,aa];exact Ve rfl
open Go Go.Eng
open Go.Tw (El)
theorem Ic (x y z:List El×El)(s:Int)(hs:Pr prog 52 [nX x,nX y] (.aA [nX z,.one (.int .i64 0)]))(hg:Pr prog 54 [nX z] (.one (.int .i64 s))):
  Pr prog 87 [nX x,nX y] (.aA [.one (.int .i64 s),.one (.int .i64 0)]):=by
 refine pw func87 ⟨[0,1,2,3,4,5,6,7,15],[]⟩ ?_;simp only[Tryz.f87,ntmps87,iz,seval];simp only[vx,T,seval,nX,nV,tC,eV,aa];refine Cg hs ?_;simp only[vx,T,seval,nX,nV,tV,tC,eV,aa];refine Cg hg ?_;simp only[vx,T,seval,nX,nV,tV,tC,eV,aa];exact Ve rfl
theorem Bp (x y:List El×El)(s:Int)(hc:Pr prog 87 [nX x,nX y] (.aA [.one (.int .i64 s),.one (.int .i64 0)])):
  Pr prog 48 [nX x,nX y] (.one (.bool (decide (s=0)))):=by
 refine pw func48 ⟨[0,1,2,3,4,5,6],[]⟩ ?_;simp only[Tryz.f48,ntmps48,iz,seval];simp only[vx,T,seval,nX,nV,tC,eV,aa];refine Cg hc ?_;simp only[vx,T,seval,nX,nV,tV,tC,eV,aa];exact Ve rfl
theorem q0 (x:List El×El)(U:List El)(w:El)(ha:Pr prog 41 [tV x.1.length x.1,eV x.2] (.aA [tV U.length U,eV w,.one (.int .i64 0)])):
  Pr prog 17 [nX x] (.aA [nX (U,w),.one (.int .i64 0)]):=by
 refine pw func17 ⟨[0,1,2,3,4,5,6,17],[]⟩ ?_;simp only[Tryz.f17,ntmps17,iz,seval];simp only[vx,T,seval,nX,nV,tC,eV,aa];refine Cg ha ?_;simp only[vx,T,seval,nX,nV,tV,tC,eV,aa];exact Ve rfl
theorem GW (x y z:List El×El)(v:El)(hi:Pr prog 88 [tV y.1.length y.1,eV y.2] (.aA [eV v,.one (.int .i64 0)]))(hm:Pr prog 19 [nX x,nX (y.1,v)] (.aA [nX z,.one (.int .i64 0)])):
  Pr prog 53 [nX x,nX y] (.aA [nX z,.one (.int .i64 0)]):=by
 refine pw func53 ⟨[0,1,2,3,4,5,6,7,17],[]⟩ ?_;simp only[Tryz.f53,ntmps53,iz,seval];simp only[vx,T,seval,nX,nV,tC,eV,aa];refine Cg hi ?_;simp only[vx,T,seval,nX,nV,tV,tC,eV,aa];refine Cg hm ?_;simp only[vx,T,seval,nX,nV,tV,tC,eV,aa];exact Ve rfl
open Go Go.Eng
open Go.Tw (El)
theorem M5 (n:Int)(d:Nat)(hn: -9223372036854775808≤n∧n≤9223372036854775807)(hd:d≤9223372036854775807)(h0:0<d)(k1:zn n<2^39)(k2:nl d<2^39):
  Pr prog 49 [.one (.int .i64 n),.one (.int .i64 d)] (nX ([],[mkRat n d])):=by
 have c:=oz n d hn hd h0 k1 k2;have e:=qv (mkRat n d) [];refine pw func49 ⟨[0,1,4],[]⟩ ?_;simp only[Tryz.f49,ntmps49,iz,seval];simp only[vx,T,seval];refine Cg c ?_;simp only[vx,T,seval,QV,QC];refine Cg e ?_;simp only[vx,T,seval,nX,nV,tC,aa];exact Ve rfl
open Go Go.Eng
open Go.Tw (El)
structure A0 where
 k:Nat
 a:Nat
 b:Nat
 n:Int
 d:Nat
instance:Inhabited A0:=⟨⟨0,0,0,0,0⟩⟩
structure A0.Ok (o:A0):Prop where
 k:o.k<256
 a:o.a<256
 b:o.b<256
 n: -128≤o.n∧o.n≤127
 d:o.d<256
def oC (o:A0):Nat→C
 |0=>.int .u8 o.k
 |1=>.int .u8 o.a
 |2=>.int .u8 o.b
 |3=>.int .i8 o.n
 |4=>.int .u8 o.d
 |_=>.any
def qA (r:List A0):V:=.one (.rows 5 r.length (fun i=>oC (r.getD i default)))
def BO (k q q':Nat)(a b x:List El×El):Prop:=
 (k=1∧q'=q∧Pr prog 50 [nX a,nX b] (.aA [nX x,.one (.int .i64 0)]))∨
 (k=2∧q'=q∧Pr prog 52 [nX a,nX b] (.aA [nX x,.one (.int .i64 0)]))∨
 (k=3∧q'=q∧Pr prog 19 [nX a,nX b] (.aA [nX x,.one (.int .i64 0)]))∨
 (k=4∧q'=q∧Pr prog 53 [nX a,nX b] (.aA [nX x,.one (.int .i64 0)]))∨
 (k=4∧q'=q∧x=a∧Pr prog 53 [nX a,nX b] (.aA [.agg [.nil,.nil],.one (.int .i64 6)]))∨
 (k=5∧∃s c,Pr prog 54 [nX a] (.one (.int .i64 s))∧((s<0∧Pr prog 55 [nX a] (nX c))∨(¬s<0∧c=a))∧
  ((q<3∧q'=q+1∧Pr prog 17 [nX c] (.aA [nX x,.one (.int .i64 0)]))∨(¬q<3∧q'=q∧x=a)))
def BS (o:A0)(q:Nat)(l:List (List El×El))(q':Nat)(l':List (List El×El)):Prop:=
 ∃f x y z,Pr prog 49 [.one (.int .i64 o.n),.one (.int .i64 (o.d%8+1:Nat))] (nX f)∧
  (((l=[]∨o.k%6=0)∧q'=q∧x=f)∨(l≠[]∧BO (o.k%6) q q' (l.getD (o.a%l.length) default) (l.getD (o.b%l.length) default) x))∧
  ((l=[]∧y=x)∨(l≠[]∧Pr prog 56 [nX x] (.one (.bool false))∧y=x)∨(l≠[]∧Pr prog 56 [nX x] (.one (.bool true))∧y=l.getD (l.length-1) default))∧
  Pr prog 57 [nX y] (nX z)∧l'=l++[z]
theorem ya (r:List A0)(hr:∀o∈r,o.Ok)(hrl:r.length<2^63)(ro:Nat→Nat)(l:Nat→List (List El×El))(h0:ro 0=0)(l0:l 0=[])(hll:∀i,i≤24→i≤r.length→(l i).length=i∧ro i≤3)
  (st:∀i,i<24→i<r.length→BS (r.getD i default) (ro i) (l i) (ro (i+1)) (l (i+1))):Pr prog 26 [qA r] (.one (bR (l (min r.length 24)))):=by
 obtain⟨N,hN⟩:∃N,N=min r.length 24:=⟨_,rfl⟩;rw[←hN];have l0':(l 0).length=0:=by rw[l0];rfl
 refine pw func26 ⟨[0,2,3,4,5,6,7,8,9,10,11,12,13,14,15,16,17,18,19,27,51,73,76,80,92,104,116,128,146],[(9,(.cons 20 [9,10,11,12,13,14,15,16,17] (.cons 21 [] .nil .nil) .nil))]⟩ ?_;simp only[Tryz.f26,ntmps26,iz,seval];simp only[vx,T,seval,qA];refine Lk (fun y:{i:Nat//i≤24∧i≤r.length}=>⟨[(0,qA r),(2,.one .nil),(3,.one (.own 1 2 0 (l y.1).length)),(4,.one (.int .i64 (ro y.1))),(5,.one (.int .i64 y.1))],[(1,⟨.rows 52 2 (l y.1).length (fg (l y.1)),true⟩)],2,159⟩) (fun y=>24-y.1) ⟨0,by omega,by omega⟩ ?_ (fun⟨i,hi,hir⟩=>?_)
 ·refine Sa ?_;simp only[ry,seval,rz,qA,l0',h0]
 simp only;have wi:IntKind.i64.wrap ((i:Int)+1)=((i+1:Nat):Int):=by rw[IntWalk.i64_in _ (by omega)];omega
 simp only[vx,T,seval,qA];refine⟨fun g=>Lg ?_,fun g=>Lg ?_⟩
 ·simp only[vx,T,seval,qA];refine⟨fun g2=>Lg ?_,fun g2=>Lg ?_⟩
  ·have hil:i<r.length:=by omega
   have ok:(r.getD i default).Ok:=hr _ (by rw[X7,X8 hil];exact List.getElem_mem _);obtain⟨f,x,y,z,cf,hx,hy,ct,hl'⟩:=st i (by omega) hil;obtain⟨hli,hq⟩:=hll i hi hir;have hq':=(hll (i+1) (by omega) hil).2;obtain⟨o,ho⟩:∃o,o=r.getD i default:=⟨_,rfl⟩;rw[←ho]at ok cf hx;obtain⟨L,hL⟩:∃L,L=l i:=⟨_,rfl⟩;rw[←hL]at hx hy hl' hli;obtain⟨L',hL'⟩:∃L',L'=l (i+1):=⟨_,rfl⟩;rw[←hL']at hl';obtain⟨q,hqe⟩:∃q,q=ro i:=⟨_,rfl⟩;rw[←hqe]at hx hq;obtain⟨q',hqe'⟩:∃q',q'=ro (i+1):=⟨_,rfl⟩;rw[←hqe']at hx hq';rw[←hL,←hqe];obtain⟨k1,k2,k3,k4,k5⟩:=ok;have o1:(o.d:Int).tmod 8=((o.d%8:Nat):Int):=rfl;have w1:IntKind.i64.wrap o.n=o.n:=IntWalk.i64_in _ (by omega);have w2:IntKind.i64.wrap ((o.d%8:Nat):Int)=((o.d%8:Nat):Int):=IntWalk.i64_in _ (by omega);have w3:IntKind.i64.wrap (((o.d%8:Nat):Int)+1)=((o.d%8+1:Nat):Int):=by rw[IntWalk.i64_in _ (by omega)];omega
   have w4:IntKind.i64.wrap (o.a:Int)=o.a:=IntWalk.i64_in _ (by omega);have w5:IntKind.i64.wrap (o.b:Int)=o.b:=IntWalk.i64_in _ (by omega);have w6:IntKind.i64.wrap ((i:Int)-1)=(i:Int)-1:=IntWalk.i64_in _ (by omega);have o3:(o.a:Int).tmod (i:Int)=((o.a%i:Nat):Int):=rfl;have o4:(o.b:Int).tmod (i:Int)=((o.b%i:Nat):Int):=rfl;have o2:(o.k:Int).tmod 6=((o.k%6:Nat):Int):=rfl;clear st hr hll h0 l0 l0' hi hir;simp only[vx,T,seval,qA,←ho,oC,o1,o2];refine⟨by omega,?_⟩;simp only[w1,w2,w3];refine Cg cf ?_
   by_cases hne:L=[]
   ·obtain⟨rfl,rfl⟩:q'=q∧x=f:=by
     rcases hx with⟨_,h⟩|⟨h,_⟩
     ·exact h
     exact absurd hne h
    obtain rfl:y=x:=by
     rcases hy with⟨_,h⟩|⟨h,_⟩|⟨h,_⟩
     ·exact h
     ·exact absurd hne h
     exact absurd hne h
    subst hne;obtain rfl:i=0:=hli.symm;simp only[vx,T,seval,nX,nV,tC,aa,o2];refine Cg ct ?_;simp only[vx,T,seval,nX,nV,tC,aa,wi];refine Lq ⟨1,by omega,hil⟩ ?_ (by show 24-1<24-0;omega);have hl1:L'=[z]:=hl';refine Sa ?_;simp only[ry,seval,rz,qA,←hL',hl1,←hqe',List.length_cons,List.length_nil];exact⟨rfl,uf (ks:=[]) rfl z⟩
   have ip:0<i:=by rw[←hli];exact List.length_pos_iff.2 hne
   obtain⟨b,cl,hyb⟩:∃b:Bool,Pr prog 56 [nX x] (.one (.bool b))∧((b=false∧y=x)∨(b=true∧y=L.getD (i-1) default)):=by
    rcases hy with⟨h,_⟩|⟨_,h1,h2⟩|⟨_,h1,h2⟩
    ·exact absurd h hne
    ·exact⟨false,h1,.inl ⟨rfl,h2⟩⟩
    exact⟨true,h1,.inr ⟨rfl,by rw[h2,hli]⟩⟩
   clear hy;rw[hli]at hx;have ia:o.a%i<i:=Nat.mod_lt _ ip;have ib:o.b%i<i:=Nat.mod_lt _ ip;obtain⟨a,hae⟩:∃a,a=L.getD (o.a%i) default:=⟨_,rfl⟩;obtain⟨c,hce⟩:∃c,c=L.getD (o.b%i) default:=⟨_,rfl⟩;rw[←hae,←hce]at hx;have w7:((i:Int)-1).toNat=i-1:=by omega
   have w8:IntKind.i64.wrap ((q:Int)+1)=((q+1:Nat):Int):=by rw[IntWalk.i64_in _ (by omega)];omega
   rcases hx with⟨hx,rfl,rfl⟩|⟨_,hbo⟩
   have hk:=hx.resolve_left hne;simp only[vx,T,seval,nX,nV,tC,aa,o2,hk,hli,w4,w5,o3,o4,fg,←hae,←hce,bu];refine⟨fun _=>Lg ?_,fun h=>absurd (by omega) h⟩;simp only[vx,T,seval,nX,nV,tC,aa,o2,hk,hli,w4,w5,o3,o4,fg,←hae,←hce,bu]
   rotate_left
   rcases hbo with⟨hk,rfl,c1⟩|⟨hk,rfl,c1⟩|⟨hk,rfl,c1⟩|⟨hk,rfl,c1⟩|⟨hk,rfl,rfl,c1⟩|⟨hk,s,d,c1,c2,c3⟩
   iterate 6 (simp only[vx,T,seval,nX,nV,tC,aa,o2,hk,hli,w4,w5,o3,o4,fg,←hae,←hce,bu];refine⟨fun _=>Lg ?_,fun h=>absurd (by omega) h⟩;simp only[vx,T,seval,nX,nV,tC,aa,o2,hk,hli,w4,w5,o3,o4,fg,←hae,←hce,bu];refine⟨by omega,by omega,by omega,by omega,by omega,Cg c1 ?_⟩;simp only[vx,T,seval,nX,nV,tC,aa,o2,hk,hli,w4,w5,o3,o4,fg,←hae,←hce,bu];rotate_left)
   rotate_left
   iterate 4 (refine Cg (uZ x a) ?_;simp only[vx,T,seval,nX,nV,tC,aa,o2,hk,hli,w4,w5,o3,o4,fg,←hae,←hce,bu];rotate_left)
   refine Cg (AW x) ?_;simp only[vx,T,seval,nX,nV,tC,aa,o2,hk,hli,w4,w5,o3,o4,fg,←hae,←hce,bu]
   rotate_left
   rcases c2 with⟨g3,c2⟩|⟨g3,rfl⟩
   refine⟨fun _=>Lg ?_,fun h=>absurd g3 h⟩;simp only[vx,T,seval,nX,nV,tC,aa,o2,hk,hli,w4,w5,o3,o4,fg,←hae,←hce,bu];refine Cg c2 ?_;simp only[vx,T,seval,nX,nV,tC,aa,o2,hk,hli,w4,w5,o3,o4,fg,←hae,←hce,bu]
   rotate_left
   refine⟨fun h=>absurd h g3,fun _=>Lg ?_⟩;simp only[vx,T,seval,nX,nV,tC,aa,o2,hk,hli,w4,w5,o3,o4,fg,←hae,←hce,bu]
   rotate_right
   iterate 2 (
    rcases c3 with⟨g4,rfl,c3⟩|⟨g4,rfl,rfl⟩
    refine⟨fun _=>Lg ?_,fun h=>absurd (by omega) h⟩;simp only[vx,T,seval,nX,nV,tC,aa,w8];refine Cg c3 ?_;simp only[vx,T,seval,nX,nV,tC,aa,w8];refine Cg (uZ x d) ?_;simp only[vx,T,seval,nX,nV,tC,aa,w8,hli]
    rotate_left
    refine⟨fun h=>absurd h (by omega),fun _=>Lg ?_⟩;simp only[vx,T,seval,nX,nV,tC,aa,w8,hli]
    rotate_left)
   all_goals
    refine⟨fun _=>Lg ?_,fun h=>absurd (by omega) h⟩;simp only[vx,T,seval,nX,nV,tC,aa];refine Cg cl ?_;simp only[vx,T,seval,nX,nV,tC,aa]
    rcases hyb with⟨rfl,rfl⟩|⟨rfl,hyl⟩
    ·simp only[vx,T,seval,nX,nV,tC,aa];refine Cg ct ?_;simp only[vx,T,seval,nX,nV,tC,aa,wi,hli];refine⟨by omega,Lq ⟨i+1,by omega,hil⟩ ?_ (by show 24-(i+1)<24-i;omega)⟩;refine Sa ?_;simp only[ry,seval,rz,qA,←hL',hl',←hqe',X6,List.length_cons,List.length_nil,hli];exact uf hli z
    simp only[vx,T,seval,nX,nV,tC,aa,hli,w6,w7,fg,←hyl,bu];refine⟨by omega,?_⟩;refine Cg ct ?_;simp only[vx,T,seval,nX,nV,tC,aa,wi,hli];refine⟨by omega,Lq ⟨i+1,by omega,hil⟩ ?_ (by show 24-(i+1)<24-i;omega)⟩;refine Sa ?_;simp only[ry,seval,rz,qA,←hL',hl',←hqe',X6,List.length_cons,List.length_nil,hli];exact uf hli z
  obtain rfl:i=N:=by omega
  simp only[vx,T,seval,qA];exact Ve rfl
 obtain rfl:i=N:=by omega
 simp only[vx,T,seval,qA];exact Ve rfl
open Go Go.Eng
open Go.Tw (El ax qN jβ jμ bo)
section
variable {A:List R}(S:Go.Tw.Src 64 A)(hA:A.length≤3)
include S hA
end
open Go Go.Eng
open Go.Tw (El ax qN jβ jμ bo b9 TG iC QB mW val dK In mS tB aJ)
theorem EX (x y:List El×El)(hi:Pr prog 88 [tV y.1.length y.1,eV y.2] (.aA [.one .nil,.one (.int .i64 6)])):
  Pr prog 53 [nX x,nX y] (.aA [.agg [.nil,.nil],.one (.int .i64 6)]):=by
 refine pw func53 ⟨[0,1,2,3,4,5,6,7,17],[]⟩ ?_;simp only[Tryz.f53,ntmps53,iz,seval];simp only[vx,T,seval,nX,nV,tC,eV,aa];refine Cg hi ?_;simp only[vx,T,seval,nX,nV,tV,tC,eV,aa];exact Ve rfl
theorem Dv {a:El}(h:∀i,i<a.length→¬ny 2 (a.getD i default)):iC 64 a:=by
 have:QB 2 a:=fun c hc=>by
  obtain⟨i,hi,rfl⟩:=List.mem_iff_getElem.1 hc
  have:=h i hi
  rw[X7,X8 hi,Option.getD_some]at this;unfold ny at this;unfold qm;omega
 exact this.bits
theorem Ip {A:List R}{x:List El×El}{v:R}{β μ:Nat}(h:ax A x.1 x.2 v β μ)(hl:¬OO 2 x):b9 A 64 x.1 x.2 v:=
 ⟨h.tg,h.len,h.val,Dv fun i hi hq=>hl (.inl ⟨i,hi,hq⟩),fun j hj=>Dv fun i hi hq=>hl (.inr ⟨j,hj,i,hi,hq⟩)⟩
theorem oB {A:List R}{n:Int}{d:Nat}(hn: -128≤n∧n≤127)(h0:0<d)(hd:d≤8):b9 A 64 [] [mkRat n d] (R.q (mkRat n d)):=by
 refine⟨⟨⟨fun i hi=>absurd hi (Nat.not_lt_zero _),fun i hi=>absurd hi (Nat.not_lt_zero _)⟩,fun i hi=>absurd hi (Nat.not_lt_zero _)⟩,rfl,rfl,QB.bits (B:=2) fun c hc=>?_,fun i hi=>absurd hi (Nat.not_lt_zero _)⟩;rw[List.mem_singleton.1 hc];refine Nat.le_trans (FH h0) ?_;have h1:nl n.natAbs≤2:=aD (by have:BB^2=18446744073709551616:=rfl;omega);have h2:nl d≤2:=aD (by have:BB^2=18446744073709551616:=rfl;omega);show max (nl n.natAbs) _≤_;omega
theorem EK:R.sqrt (R.q 0)=R.q 0:=R.Ps (R.dN (R.bx.2 (.inl rfl)))
theorem wY:∀h,h≤3→qN h 520 8≤2^30∧mS h (qN h 520 8+qN h 520 8) tB<2^38:=by
 intro h hh
 match h,hh with
 |0,_=>decide+kernel
 |1,_=>decide+kernel
 |2,_=>decide+kernel
 |3,_=>decide+kernel
section
variable {A:List R}(S:Go.Tw.Src 64 A)(hA:A.length≤3)
include S hA
theorem qG {x:List El×El}{v:R}(h:b9 A 64 x.1 x.2 v):ax A x.1 x.2 v 520 8:=by
 have h3:=h.tg.j6 S hA;have h8:2^x.1.length≤2^3:=Nat.pow_le_pow_right (by decide) h3;exact h.num.mono (by omega) h8
theorem Ma (h2:A.length≤2){c:List El×El}{v:R}(h:b9 A 64 c.1 c.2 v)(hn:R.nn v):∃(A':List R) (x:List El×El),Go.Tw.Src 64 A'∧(∀a,a∈A→a∈A')∧A'.length≤A.length+1∧ax A' x.1 x.2 (R.sqrt v) 0 1∧Pr prog 17 [nX c] (.aA [nX x,.one (.int .i64 0)]):=by
 have hv:=h.val
 by_cases h0:v=R.q 0
 ·have tl:=h.tg.IG hA;have rb:=h.tg.PU S hA (by omega) h.len (by rw[hv,h0])
  rcases um S hA h.tg h.len (by rw[hv];exact hn) rb with⟨w,lw,ew,cw⟩|⟨no,_⟩
  ·refine⟨A,(c.1,w),S,fun _ h=>h,by omega,⟨h.tg,lw,by rw[ew,hv],?_⟩,q0 c c.1 w cw⟩;rw[h0,EK];exact(mW.rat (by decide) (by decide)).mono (Nat.le_refl _) (by omega)
  exact absurd (by rw[hv,h0,R.zero_mul]) (no _ (In.rat 0))
 have hp:R.pos v:=(R.bx.1 hn).resolve_left h0;have S':Go.Tw.Src 64 (A++[val c.1.length c.1 c.2]):=S.snoc hA h.tg h.len h.bits (by rw[hv];exact hp);rw[hv]at S';have hA':(A++[v]).length≤3:=by rw[X6];show _+1≤3;omega
 have sub:∀a,a∈A→a∈A++[v]:=fun a ha=>List.mem_append_left _ ha;have mem:v∈A++[v]:=List.mem_append_right _ (by simp);have G:=h.tg.sub sub;have rb:=G.Qa S' hA' h.len (by rw[hv];exact mem) (by rw[hv];exact hp);have hl:(A++[v]).length≤A.length+1:=by rw[X6];exact Nat.le_refl _
 rcases um S' hA' G h.len (by rw[hv];exact hn) rb with⟨w,lw,ew,cw⟩|⟨no,cw⟩
 ·exact⟨_,(c.1,w),S',sub,hl,⟨G,lw,by rw[ew,hv],.root mem ⟨w,lw,by rw[ew,hv]⟩⟩,q0 c c.1 w cw⟩
 have T':=G.snoc h.len (by rw[hv];exact mem) (by rw[hv];exact hp) no;have e1:(c.1++[c.2]).length=c.1.length+1:=by simp
 have lr:(dK c.1.length).length=2^(c.1++[c.2]).length:=by rw[e1];exact Go.Tw.kv
 have vr:val (c.1++[c.2]).length (c.1++[c.2]) (dK c.1.length)=R.sqrt v:=by rw[e1,Go.Tw.qy,hv]
 rw[←e1]at cw;exact⟨_,(c.1++[c.2],dK c.1.length),S',sub,hl,⟨T',lr,vr,.root mem ⟨_,lr,vr⟩⟩,q0 c _ _ cw⟩
theorem QS {k:Nat}(hk:k<6)(h0:k≠0){a b:List El×El}{va vb:R}(ha:b9 A 64 a.1 a.2 va)(hb:b9 A 64 b.1 b.2 vb){q:Nat}(hq:A.length≤q)(hq3:q≤3):
  ∃(A':List R) (q':Nat) (x:List El×El) (v:R),BO k q q' a b x∧Go.Tw.Src 64 A'∧(∀y,y∈A→y∈A')∧A'.length≤q'∧q'≤3∧ax A' x.1 x.2 v 2000 32:=by
 have na:=qG S hA ha;have nb:=qG S hA hb;have sm:Sm 520 8:=.of (by decide) (by decide);have j1:520≤jβ:=by decide
 have j2:8≤jμ:=by decide
 have same:∀{x:List El×El} {v:R},BO k q q a b x→ax A x.1 x.2 v 2000 32→∃(A':List R) (q':Nat) (x:List El×El) (v:R),BO k q q' a b x∧Go.Tw.Src 64 A'∧(∀y,y∈A→y∈A')∧A'.length≤q'∧q'≤3∧ax A' x.1 x.2 v 2000 32:=
  fun hb hx=>⟨A,q,_,_,hb,S,fun _ h=>h,hq,hq3,hx⟩
 have hm:∀h,h≤3→mS h (qN h 520 8+qN h 520 8) tB<2^38:=fun h hh=>(wY h hh).2
 match k,hk,h0 with
 |1,_,_=>
  obtain⟨z,nz,c⟩:=sM S hA na nb sm sm j1 j2;exact same (.inl ⟨rfl,rfl,c⟩) (nz.mono (by decide) (by decide))
 |2,_,_=>
  obtain⟨z,nz,c⟩:=tS S hA na nb sm sm j1 j2;exact same (.inr (.inl ⟨rfl,rfl,c⟩)) (nz.mono (by decide) (by decide))
 |3,_,_=>
  obtain⟨z,nz,c⟩:=oL S hA na nb sm sm j1 j2 hm;exact same (.inr (.inr (.inl ⟨rfl,rfl,c⟩))) (nz.mono (by decide) (by decide))
 |4,_,_=>
  have iv:=vH Go.Tw.ir (wY _ (hb.tg.j6 S hA)).1 (lR S hA hb.tg) hb.tg.rd hb.len (nb.Ql S hA)
  cases e:Go.Tw.cA b.1.length b.1 b.2 with
  |none=>exact same (.inr (.inr (.inr (.inr (.inl ⟨rfl,rfl,rfl,EX a b (iv.2 e)⟩))))) (na.mono (by decide) (by decide))
  |some n=>
   obtain⟨ln,en⟩:=Go.Tw.dc hb.tg.rd.rl hb.len e;rw[hb.val]at en;obtain⟨z,nz,c⟩:=oL S hA na (y:=(b.1,n)) ⟨hb.tg,ln,rfl,nb.sz.inv en⟩ sm sm j1 j2 hm;exact same (.inr (.inr (.inr (.inl ⟨rfl,rfl,GW a b z n (iv.1 n e).rows c⟩)))) (nz.mono (by decide) (by decide))
 |5,_,_=>
  have sg:=AD Go.Tw.ir (wY _ (ha.tg.j6 S hA)).1 (lR S hA ha.tg) ha.len (na.OT S hA);rw[Go.Tw.b6 ha.tg.rd.rl ha.len,ha.val]at sg;have key:∃(c:List El×El) (w:R),b9 A 64 c.1 c.2 w∧R.nn w∧((R.bJ va<0∧Pr prog 55 [nX a] (nX c))∨(¬R.bJ va<0∧c=a)):=by
   rcases R.df va with⟨e,es⟩|⟨e,es⟩|⟨e,es⟩
   ·exact⟨a,va,ha,R.bx.2 (.inl e),.inr ⟨by omega,rfl⟩⟩
   ·exact⟨a,va,ha,R.bx.2 (.inr e),.inr ⟨by omega,rfl⟩⟩
   refine⟨(a.1,aJ a.2),-va,⟨ha.tg,by rw[Go.Tw.ar,ha.len],by rw[←ha.val];exact Go.Tw.val_neg ha.len,fun c hc=>?_,ha.tb⟩,R.bx.2 (.inr e),.inl ⟨by omega,sO S hA na sm⟩⟩;obtain⟨x,hx,rfl⟩:=List.mem_map.1 hc
   have:=ha.bits x hx
   rw[Rat.neg_num,Rat.neg_den,Int.natAbs_neg];exact this
  obtain⟨c,w,hc,hw,hs⟩:=key
  by_cases g:q<3
  ·obtain⟨A',x,S',sub,hl,nx,cs⟩:=Ma S hA (by omega) hc hw;exact⟨A',q+1,x,_,.inr (.inr (.inr (.inr (.inr ⟨rfl,_,c,sg,hs,.inl ⟨g,rfl,cs⟩⟩)))),S',sub,by omega,by omega,nx.mono (by decide) (by decide)⟩
  exact same (.inr (.inr (.inr (.inr (.inr ⟨rfl,_,c,sg,hs,.inr ⟨g,rfl,rfl⟩⟩))))) (na.mono (by decide) (by decide))
end
open Go Go.Eng
open Go.Tw (El ax b9 TG)
theorem O3 {A:List R}(S:Go.Tw.Src 64 A){o:A0}(ho:o.Ok){q:Nat}(hq:A.length≤q)(hq3:q≤3){l:List (List El×El)}(hl:∀x∈l,∃v,b9 A 64 x.1 x.2 v):
  ∃(A':List R) (q':Nat) (l':List (List El×El)),BS o q l q' l'∧Go.Tw.Src 64 A'∧A'.length≤q'∧q'≤3∧l'.length=l.length+1∧∀x∈l',∃v,b9 A' 64 x.1 x.2 v:=by
 have hA:A.length≤3:=by omega
 have hn:=ho.n;have fc:=M5 o.n (o.d%8+1) (by omega) (by omega) (by omega) (Nat.lt_of_le_of_lt (show zn o.n≤2 from aD (by have:BB^2=18446744073709551616:=rfl;omega)) (by decide)) (Nat.lt_of_le_of_lt (show nl _≤2 from aD (by have:BB^2=18446744073709551616:=rfl;omega)) (by decide));have fs:b9 A 64 [] [mkRat o.n (o.d%8+1:Nat)] _:=oB hn (by omega) (by omega);have get:∀i,i<l.length→∃v,b9 A 64 (l.getD i default).1 (l.getD i default).2 v:=fun i hi=>hl _ (by rw[X7,X8 hi];exact List.getElem_mem _)
 -- the number made
 have hx:∃(A':List R) (q':Nat) (x:List El×El) (v:R),Go.Tw.Src 64 A'∧(∀y,y∈A→y∈A')∧A'.length≤q'∧q'≤3∧ax A' x.1 x.2 v 2000 32∧(l=[]→∃v,b9 A' 64 x.1 x.2 v)∧
   (((l=[]∨o.k%6=0)∧q'=q∧x=([],[mkRat o.n (o.d%8+1:Nat)]))∨(l≠[]∧BO (o.k%6) q q' (l.getD (o.a%l.length) default) (l.getD (o.b%l.length) default) x)):=by
  by_cases h:l=[]∨o.k%6=0
  ·exact⟨A,q,_,_,S,fun _ h=>h,hq,hq3,(qG S hA (x:=([],[mkRat o.n (o.d%8+1:Nat)])) fs).mono (by decide) (by decide),fun _=>⟨_,fs⟩,.inl ⟨h,rfl,rfl⟩⟩
  have hne:l≠[]:=fun e=>h (.inl e);have lp:=List.length_pos_iff.2 hne;obtain⟨va,ha⟩:=get _ (Nat.mod_lt o.a lp);obtain⟨vb,hb⟩:=get _ (Nat.mod_lt o.b lp);obtain⟨A',q',x,v,b,S',sub,h1,h2,nx⟩:=QS S hA (k:=o.k%6) (Nat.mod_lt _ (by decide)) (fun e=>h (.inr e)) ha hb hq hq3;exact⟨A',q',x,v,S',sub,h1,h2,nx,fun e=>absurd e hne,.inr ⟨hne,b⟩⟩
 obtain⟨A',q',x,v,S',sub,h1,h2,nx,hs0,hx⟩:=hx;have hA':A'.length≤3:=by omega
 have x3:=nx.tg.j6 S' hA';have xl:x.2.length<2^38:=by rw[nx.len];exact aN (by omega)
 have lg:∀b:Bool,(b=true↔OO 2 x)→Pr prog 56 [nX x] (.one (.bool b)):=fun b hb=>Ng x xl (by omega) (fun j hj=>by rw[(nx.tg.rd.rl j hj).1];exact aN (by omega)) hb;have hl':∀x∈l,∃v,b9 A' 64 x.1 x.2 v:=fun x hx=>(hl x hx).imp fun _ h=>h.sub sub
 -- the number kept
 have hy:∃(y:List El×El) (w:R),b9 A' 64 y.1 y.2 w∧((l=[]∧y=x)∨(l≠[]∧Pr prog 56 [nX x] (.one (.bool false))∧y=x)∨(l≠[]∧Pr prog 56 [nX x] (.one (.bool true))∧y=l.getD (l.length-1) default)):=by
  by_cases h:l=[]
  ·obtain⟨w,hw⟩:=hs0 h;exact⟨x,w,hw,.inl ⟨h,rfl⟩⟩
  by_cases g:OO 2 x
  ·have lp:=List.length_pos_iff.2 h;obtain⟨w,hw⟩:=get (l.length-1) (by omega);exact⟨_,w,hw.sub sub,.inr (.inr ⟨h,lg true ⟨fun _=>g,fun _=>rfl⟩,rfl⟩)⟩
  exact⟨x,v,Ip nx g,.inr (.inl ⟨h,lg false ⟨fun e=>(by cases e),fun k=>absurd k g⟩,rfl⟩)⟩
 obtain⟨y,w,sy,hy⟩:=hy;refine⟨A',q',l++[kH y.1.length y],⟨_,x,y,_,fc,hx,hy,NG S' hA' y sy,rfl⟩,S',h1,h2,by rw[X6];rfl,fun z hz=>?_⟩
 rcases List.mem_append.1 hz with hz|hz
 ·exact hl' z hz
 rw[List.mem_singleton.1 hz];exact⟨w,mB _ (Nat.le_refl _) sy⟩
theorem KI (r:List A0)(hr:∀o∈r,o.Ok)(hrl:r.length<2^63):∃(A:List R) (l:List (List El×El)),Go.Tw.Src 64 A∧A.length≤3∧l.length≤24∧(∀x∈l,∃v,b9 A 64 x.1 x.2 v)∧Pr prog 26 [qA r] (.one (bR l)):=by
 obtain⟨s,e0,hI,hS⟩:=Go.Tw.chain (α:=List R×Nat×List (List El×El)) (x0:=([],0,[])) (n:=min r.length 24)
  (I:=fun i y=>Go.Tw.Src 64 y.1∧y.1.length≤y.2.1∧y.2.1≤3∧y.2.2.length=i∧∀x∈y.2.2,∃v,b9 y.1 64 x.1 x.2 v)
  (St:=fun i y y'=>BS (r.getD i default) y.2.1 y.2.2 y'.2.1 y'.2.2)
  ⟨⟨fun k hk=>absurd hk (Nat.not_lt_zero _),fun k hk=>absurd hk (Nat.not_lt_zero _)⟩,Nat.le_refl _,by decide,rfl,fun x hx=>(by cases hx)⟩
  (fun i y hi ⟨h1,h2,h3,h4,h5⟩=>by
   obtain⟨A',q',l',b,k1,k2,k3,k4,k5⟩:=O3 h1 (o:=r.getD i default) (hr _ (by rw[X7,X8 (by omega)];exact List.getElem_mem _)) h2 h3 h5;exact⟨(A',q',l'),b,k1,k2,k3,by show l'.length=i+1;rw[k4,h4],k5⟩)
 obtain⟨k1,k2,k3,k4,k5⟩:=hI _ (Nat.le_refl _);refine⟨_,_,k1,by omega,by omega,k5,ya r hr hrl (fun i=>(s i).2.1) (fun i=>(s i).2.2) (by rw[e0]) (by rw[e0]) (fun i h1 h2=>?_) (fun i h1 h2=>hS i (by omega))⟩;obtain⟨_,_,g3,g4,_⟩:=hI i (by omega);exact⟨g4,g3⟩
end Go.Proofs.YtgcmkdgpaibpeaaGreat
/-
  MATRICES of real numbers: sums, the elimination, and what its result tells of the solutions.
-/
namespace Go.Mx
open Go Go.R
instance:Std.Associative (α:=R) (· * ·):=⟨mul_assoc⟩
instance:Std.Commutative (α:=R) (· * ·):=⟨mul_comm⟩
def sm:Nat→(Nat→R)→R
 |0,_=>q 0
 |n+1,f=>sm n f+f n
theorem ui {f g:Nat→R}:∀{n:Nat},(∀i,i<n→f i=g i)→sm n f=sm n g
 |0,_=>rfl
 |n+1,h=>by rw[sm,sm,ui (n:=n) fun i hi=>h i (by omega),h n (by omega)]
theorem Ja {f:Nat→R}{n:Nat}(h:∀i,i<n→f i=q 0):sm n f=q 0:=by
 induction n with
 |zero=>rfl
 |succ n ih=>rw[sm,ih fun i hi=>h i (by omega),h n (by omega),add_zero]
theorem PD (a b c d:R):a+b+(c+d)=a+c+(b+d):=by
 rw[add_assoc,←add_assoc b,add_comm b c,add_assoc c,←add_assoc]
theorem HL (f g:Nat→R):∀n,sm n (fun i=>f i+g i)=sm n f+sm n g
 |0=>(add_zero _).symm
 |n+1=>by rw[sm,sm,sm,HL f g n,PD]
theorem A2 (x:R)(f:Nat→R):∀n,sm n (fun i=>x*f i)=x*sm n f
 |0=>(mul_zero _).symm
 |n+1=>by rw[sm,sm,A2 x f n,mul_add]
theorem Is (f:Nat→R):∀n,sm n (fun i=> -f i)= -sm n f
 |0=>iB.symm
 |n+1=>by rw[sm,sm,Is f n,me]
theorem Ey {f:Nat→R}{n j:Nat}(hj:j<n)(h:∀i,i<n→i≠j→f i=q 0):sm n f=f j:=by
 induction n with
 |zero=>omega
 |succ n ih=>
  rw[sm]
  by_cases e:j=n
  ·rw[Ja fun i hi=>h i (by omega) (by omega),zero_add,e]
  rw[ih (by omega) fun i hi hne=>h i (by omega) hne,h n (by omega) (by omega),add_zero]
noncomputable def iv (x:R):R:=open Classical in if h:x≠q 0 then Classical.choose (inv h)else q 0
theorem oS {x:R}(h:x≠q 0):x*iv x=q 1:=by
 unfold iv;rw[dif_pos h];exact Classical.choose_spec (inv h)
theorem gk:q 1≠q 0:=fun h=>absurd (ku h) (by decide)
theorem Pm {x:R}(h:x≠q 0):iv x≠q 0:=fun e=>gk (by rw[←oS h,e,mul_zero])
abbrev Mt:=Nat→Nat→R
noncomputable def ni (M:Mt)(k:Nat):Nat→Nat→Nat
 |0,p=>p
 |n+1,p=>open Classical in if M p k=q 0 then ni M k n (p+1)else p
theorem mc (M:Mt)(k:Nat):∀n p,p≤ni M k n p∧ni M k n p≤p+n∧(∀i,p≤i→i<ni M k n p→M i k=q 0)∧(ni M k n p<p+n→M (ni M k n p) k≠q 0)
 |0,p=>⟨Nat.le_refl _,Nat.le_refl _,fun i h1 h2=>by unfold ni at h2;omega,fun h=>by unfold ni at h;omega⟩
 |n+1,p=>by
  unfold ni
  split
  ·rename_i h0
   obtain⟨h1,h2,h3,h4⟩:=mc M k n (p+1);refine⟨by omega,by omega,fun i h5 h6=>?_,fun h=>h4 (by omega)⟩
   by_cases e:i=p
   ·rw[e];exact h0
   exact h3 i (by omega) h6
  rename_i h0
  exact⟨Nat.le_refl _,by omega,fun i h1 h2=>by omega,fun _=>h0⟩
def oa (M:Mt)(a b:Nat):Mt:=fun i=>if i=a then M b else if i=b then M a else M i
noncomputable def iR (M:Mt)(t k:Nat):Mt:=fun i j=>if i=t then M t j*iv (M t k)else M i j-M t j*iv (M t k)*M i k
noncomputable def mO (r k:Nat)(s:Mt×List Nat):Mt×List Nat:=
 open Classical in if ni s.1 k (r-s.2.length) s.2.length<r then(iR (oa s.1 s.2.length (ni s.1 k (r-s.2.length) s.2.length)) s.2.length k,s.2++[k])else s
noncomputable def red (r:Nat)(M:Mt):Nat→Mt×List Nat
 |0=>(M,[])
 |k+1=>mO r k (red r M k)
def IS (r c:Nat)(M:Mt)(y:Nat→R):Prop:=∀i,i<r→sm c (fun k=>M i k*y k)=q 0
structure OF (r k:Nat) (N:Mt) (p:List Nat):Prop where
 len:p.length≤r
 lt:∀i,i<p.length→p.getD i 0<k
 asc:∀i j,i<j→j<p.length→p.getD i 0<p.getD j 0
 one:∀i j,i<r→j<p.length→N i (p.getD j 0)=if i=j then q 1 else q 0
 low:∀i j,p.length≤i→i<r→j<k→N i j=q 0
 left:∀i j,i<p.length→j<p.getD i 0→N i j=q 0
theorem Hp {s:Mt×List Nat}{r k:Nat}(h:s.2.length≤r)(hf:ni s.1 k (r-s.2.length) s.2.length<r):s.2.length≤ni s.1 k (r-s.2.length) s.2.length∧s.1 (ni s.1 k (r-s.2.length) s.2.length) k≠q 0:=by
 obtain⟨h1,_,_,h4⟩:=mc s.1 k (r-s.2.length) s.2.length;exact⟨h1,h4 (by omega)⟩
theorem OF.step {r k:Nat}{s:Mt×List Nat}(E:OF r k s.1 s.2):OF r (k+1) (mO r k s).1 (mO r k s).2:=by
 obtain⟨N,p⟩:=s;have E:OF r k N p:=E;unfold mO
 split
 ·rename_i hf
  obtain⟨hp,hn⟩:=Hp (s:=(N,p)) E.len hf;simp only at hf hp hn⊢
  generalize ni N k (r-p.length) p.length=t at hf hp hn⊢
  have hz:∀i j,p.length≤i→i<r→j<k→oa N p.length t i j=q 0:=by
   intro i j h1 h2 h3;unfold oa
   split
   ·exact E.low t j hp hf h3
   split
   ·exact E.low _ j (Nat.le_refl _) (by omega) h3
   exact E.low i j h1 h2 h3
  have ht:oa N p.length t p.length k≠q 0:=by
   unfold oa;rw[if_pos rfl];exact hn
  have hlow:∀i,i<p.length→oa N p.length t i=N i:=by
   intro i hi;unfold oa;rw[if_neg (by omega),if_neg (by omega)]
  generalize oa N p.length t=S at hz ht hlow
  have hl:∀i j,i<r→j<k→iR S p.length k i j=S i j:=by
   intro i j hi hj;unfold iR;have h0:=hz p.length j (Nat.le_refl _) (by omega) hj
   split
   ·rename_i e
    rw[h0,zero_mul,e,h0]
   rw[h0,zero_mul,zero_mul,sub_zero]
  have hg:∀j,j<p.length→(p++[k]).getD j 0=p.getD j 0:=fun j hj=>by
   rw[X7,X7,List.getElem?_append_left hj]
  have hk:(p++[k]).getD p.length 0=k:=by
   rw[X7,List.getElem?_append_right (Nat.le_refl _),Nat.sub_self];rfl
  have hck:∀i,i<r→iR S p.length k i k=if i=p.length then q 1 else q 0:=by
   intro i hi;unfold iR
   split
   ·rename_i e
    rw[oS ht]
   rw[oS ht,one_mul,sub_self]
  have hlen:(p++[k]).length=p.length+1:=by simp
  refine⟨by rw[hlen];omega,fun i hi=>?_,fun i j hij hj=>?_,fun i j hi hj=>?_,fun i j h1 h2 h3=>?_,fun i j h1 h2=>?_⟩
  ·rw[hlen]at hi
   by_cases e:i<p.length
   ·rw[hg i e];have:=E.lt i e;omega
   obtain rfl:i=p.length:=by omega
   rw[hk];omega
  ·rw[hlen]at hj
   by_cases e:j<p.length
   ·rw[hg i (by omega),hg j e];exact E.asc i j hij e
   obtain rfl:j=p.length:=by omega
   rw[hk,hg i hij];exact E.lt i hij
  ·rw[hlen]at hj
   by_cases e:j<p.length
   ·rw[hg j e,hl i _ hi (E.lt j e)]
    by_cases e2:i<p.length
    ·rw[hlow i e2];exact E.one i j hi e
    rw[hz i _ (by omega) hi (E.lt j e),if_neg (by omega)]
   obtain rfl:j=p.length:=by omega
   rw[hk];exact hck i hi
  ·rw[hlen]at h1
   by_cases e:j<k
   ·rw[hl i j h2 e];exact hz i j (by omega) h2 e
   obtain rfl:j=k:=by omega
   rw[hck i h2,if_neg (by omega)]
  rw[hlen]at h1
  by_cases e:i<p.length
  ·rw[hg i e]at h2
   have:=E.lt i e
   rw[hl i j (by omega) (by omega),hlow i e];exact E.left i j e h2
  obtain rfl:i=p.length:=by omega
  rw[hk]at h2;rw[hl _ j (by omega) h2];exact hz _ j (Nat.le_refl _) (by omega) h2
 rename_i hf
 have h1:=E.len;obtain⟨_,_,h3,_⟩:=mc N k (r-p.length) p.length;refine⟨E.len,fun i hi=>Nat.lt_succ_of_lt (E.lt i hi),E.asc,E.one,fun i j h4 h5 h6=>?_,E.left⟩
 by_cases e:j<k
 ·exact E.low i j h4 h5 e
 obtain rfl:j=k:=by omega
 exact h3 i h4 (by simp only at hf;omega)
theorem fH (r:Nat)(M:Mt):∀k,OF r k (red r M k).1 (red r M k).2
 |0=>⟨Nat.zero_le _,fun i hi=>absurd hi (Nat.not_lt_zero _),fun i j _ hj=>absurd hj (Nat.not_lt_zero _),fun i j _ hj=>absurd hj (Nat.not_lt_zero _),fun i j _ _ hj=>absurd hj (Nat.not_lt_zero _),fun i j hi=>absurd hi (Nat.not_lt_zero _)⟩
 |k+1=>(fH r M k).step
theorem Ks {x y:R}:x-y=q 0↔x=y:=⟨gu,fun h=>by rw[h,sub_self]⟩
theorem IS.step {r k c:Nat}{s:Mt×List Nat}(hl:s.2.length≤r)(y:Nat→R):IS r c (mO r k s).1 y↔IS r c s.1 y:=by
 obtain⟨N,p⟩:=s;unfold mO
 split
 rotate_left
 ·exact Iff.rfl
 rename_i hf
 obtain⟨hp,hn⟩:=Hp (s:=(N,p)) hl hf;simp only at hf hp hn⊢
 generalize ni N k (r-p.length) p.length=t at hf hp hn⊢
 have hs:IS r c (oa N p.length t) y↔IS r c N y:=by
  have hsw:∀i,oa (oa N p.length t) p.length t i=N i:=by
   intro i;unfold oa
   by_cases e1:i=p.length
   ·rw[if_pos e1]
    by_cases e2:t=p.length
    ·rw[if_pos e2,e1,e2]
    rw[if_neg e2,if_pos rfl,e1]
   rw[if_neg e1]
   by_cases e2:i=t
   ·rw[if_pos e2,if_pos rfl,e2]
   rw[if_neg e2,if_neg e1,if_neg e2]
  have key:∀N':Mt,IS r c N' y→IS r c (oa N' p.length t) y:=by
   intro N' h i hi;unfold oa
   split
   ·exact h t hf
   split
   ·exact h p.length (by omega)
   exact h i hi
  refine⟨fun h=>?_,key N⟩
  have:=key _ h
  intro i hi;rw[←hsw i];exact this i hi
 have ht:oa N p.length t p.length k≠q 0:=by
  unfold oa;rw[if_pos rfl];exact hn
 rw[←hs]
 generalize oa N p.length t=S at ht
 have hrow:sm c (fun j=>iR S p.length k p.length j*y j)=iv (S p.length k)*sm c (fun j=>S p.length j*y j):=by
  rw[←A2];refine ui fun j _=>?_;unfold iR;rw[if_pos rfl,←mul_assoc,mul_comm (iv _)]
 have hoth:∀i,i≠p.length→sm c (fun j=>iR S p.length k i j*y j)=sm c (fun j=>S i j*y j)-S i k*iv (S p.length k)*sm c (fun j=>S p.length j*y j):=by
  intro i hi;rw[←A2,sub_def,←Is,←HL];refine ui fun j _=>?_;unfold iR;rw[if_neg hi,sub_def,add_mul,neg_mul]
  congr 2
  ac_rfl
 refine⟨fun h=>?_,fun h=>?_⟩
 ·have h0:sm c (fun j=>S p.length j*y j)=q 0:=by
   have:=h p.length (by omega)
   rw[hrow]at this
   rcases gR this with e|e
   ·exact absurd e (Pm ht)
   exact e
  intro i hi
  by_cases e:i=p.length
  ·rw[e];exact h0
  have:=h i hi
  rw[hoth i e,h0,mul_zero,sub_zero]at this;exact this
 intro i hi
 by_cases e:i=p.length
 ·rw[e,hrow,h p.length (by omega),mul_zero]
 rw[hoth i e,h i hi,h p.length (by omega),mul_zero,sub_self]
theorem DJ (r c:Nat)(M:Mt)(y:Nat→R):∀k,IS r c (red r M k).1 y↔IS r c M y
 |0=>Iff.rfl
 |k+1=>(IS.step (fH r M k).len y).trans (DJ r c M y k)
end Go.Mx
namespace Go.Proofs.YtgcmkdgpaibpeaaGreat
open Go.Proofs.Tryz
open Go Go.Eng
open Go.Tw (El ax b9 TG qN mS tB jβ jμ gT jK aC aJ)
open Go.Mx (iv)
structure Nu (A:List R) where
 x:List El×El
 v:R
 w:Nat
 hw:1≤w
 ok:ax A x.1 x.2 v (300*w-1) (3*w)
def wA:Nat:=2000
def wB:Nat:=800
def wC:Nat:=300
theorem HZ:∀h,h≤3→qN h (300*wA) (3*wA)<2^38∧mS h (qN h (300*wA) (3*wA)+qN h (300*wB) (3*wB)) tB<2^38∧qN h (300*wC) (3*wC)≤2^30:=by
 intro h hh
 match h,hh with
 |0,_=>decide+kernel
 |1,_=>decide+kernel
 |2,_=>decide+kernel
 |3,_=>decide+kernel
def EF {A:List R}(f:FuncId)(a b:Nu A)(v:R):Prop:=∃c:Nu A,c.v=v∧c.w=a.w+b.w∧Pr prog f [nX a.x,nX b.x] (.aA [nX c.x,.one (.int .i64 0)])
theorem GP {h S T:Nat}(k:S≤T)(hT:mS h T tB<2^38):mS h S tB<2^38:=Nat.lt_of_le_of_lt (Go.Tw.JH k) hT
section
variable {A:List R}
theorem Nu.sm (a:Nu A)(h:a.w≤wA):Sm (300*a.w-1) (3*a.w):=fun k hk=>Nat.lt_of_le_of_lt (Go.Tw.lI (by omega) (by omega)) (HZ k hk).1
theorem AG {n:Nat}(h:n≤wB):n≤wA:=Nat.le_trans h (by decide)
theorem P4 {n:Nat}(h:n≤wC):n≤wB:=Nat.le_trans h (by decide)
theorem Nu.j1 (a:Nu A)(h:a.w≤wB):300*a.w-1≤jβ:=by
 have:300*wB≤jβ:=by decide
 omega
theorem Nu.j2 (a:Nu A)(h:a.w≤wB):3*a.w≤jμ:=by
 have:3*wB≤jμ:=by decide
 omega
theorem FZ {a b:Nat}(ha:a≤wA)(hb:b≤wB):∀h,h≤3→mS h (qN h (300*a-1) (3*a)+qN h (300*b-1) (3*b)) tB<2^38:=fun h hh=>
 GP (Nat.add_le_add (Go.Tw.lI (by omega) (by omega)) (Go.Tw.lI (by omega) (by omega))) (HZ h hh).2.1
variable (S:Go.Tw.Src 64 A)(hA:A.length≤3)
include S hA
theorem IZ {a b:Nu A}(ha:a.w≤wA)(hb:b.w≤wB):EF 52 a b (a.v-b.v):=by
 obtain⟨z,nz,c⟩:=tS S hA a.ok b.ok (a.sm ha) (b.sm (AG hb)) (b.j1 hb) (b.j2 hb)
 have:=a.hw;have:=b.hw
 exact⟨⟨z,_,a.w+b.w,by omega,nz.mono (by omega) (by omega)⟩,rfl,rfl,c⟩
theorem Jk {a b:Nu A}(ha:a.w≤wA)(hb:b.w≤wB):EF 19 a b (a.v*b.v):=by
 obtain⟨z,nz,c⟩:=oL S hA a.ok b.ok (a.sm ha) (b.sm (AG hb)) (b.j1 hb) (b.j2 hb) (FZ ha hb)
 have:=a.hw;have:=b.hw
 exact⟨⟨z,_,a.w+b.w,by omega,nz.mono (by omega) (by omega)⟩,rfl,rfl,c⟩
omit S hA in
theorem xx {x y:R}(h:x*y=R.q 1):y=iv x:=by
 have h0:x≠R.q 0:=fun e=>Go.Mx.gk (by rw[←h,e,R.zero_mul]);refine R.jl (z:=x) ?_ h0;rw[R.mul_comm,h,R.mul_comm,Go.Mx.oS h0]
omit S hA in
theorem Nu.inv {b:Nu A}(h0:b.v≠R.q 0):∃n,Go.Tw.cA b.x.1.length b.x.1 b.x.2=some n∧ax A b.x.1 n (iv b.v) (300*b.w-1) (3*b.w):=by
 cases e:Go.Tw.cA b.x.1.length b.x.1 b.x.2 with
 |none=>exact absurd (by rw[←b.ok.val];exact Go.Tw.nv b.ok.tg.rd b.ok.len e) h0
 |some n=>
  obtain⟨ln,en⟩:=Go.Tw.dc b.ok.tg.rd.rl b.ok.len e;rw[b.ok.val]at en;exact⟨n,rfl,b.ok.tg,ln,xx en,b.ok.sz.inv (by rw[←xx en];exact en)⟩
theorem Nu.P3 (b:Nu A)(hb:b.w≤wC):qN b.x.1.length (300*b.w-1) (3*b.w)≤2^30:=Nat.le_trans (Go.Tw.lI (by omega) (by omega)) (HZ _ (b.ok.tg.j6 S hA)).2.2
theorem Gs {a:Nu A}(ha:a.w≤wC):Pr prog 54 [nX a.x] (.one (.int .i64 (R.bJ a.v))):=by
 have g:=AD Go.Tw.ir (a.P3 S hA ha) (lR S hA a.ok.tg) a.ok.len (a.ok.OT S hA);rw[Go.Tw.b6 a.ok.tg.rd.rl a.ok.len,a.ok.val]at g;exact g
theorem P6 {t:List El}{e:El}(T:TG A t)(he:e.length=2^t.length)(hv:Go.Tw.val t.length t e=R.q 0):gT jK t.length t e:=by
 obtain⟨z,w,d,E,_,_⟩:=T.ev S hA;have hx:Go.Tw.Ht t.length z w (Go.Tw.val t.length t e) 0:=by rw[hv];exact Go.Tw.Ht.rat (by decide) (by decide)
 exact(gT.of E he hx).mono (Go.Tw.xI _ (T.j6 S hA)).2
theorem Np {z:List El×El}{β μ:Nat}(nz:ax A z.1 z.2 (R.q 0) β μ):Pr prog 54 [nX z] (.one (.int .i64 0)):=by
 have g:=AD (by decide) (show jK≤2^30 by decide) (lR S hA nz.tg) nz.len (P6 S hA nz.tg nz.len nz.val);rw[Go.Tw.b6 nz.tg.rd.rl nz.len,nz.val,R.fX]at g;exact g
theorem EW {a b:Nu A}(ha:a.w≤wA)(hb:b.w≤wB)(h:a.v=b.v∨a.w+b.w≤wC){r:Bool}(hr:r=true↔a.v=b.v):Pr prog 48 [nX a.x,nX b.x] (.one (.bool r)):=by
 obtain⟨c,c1,c2,c3⟩:=IZ S hA ha hb;have g:Pr prog 54 [nX c.x] (.one (.int .i64 (R.bJ c.v))):=by
  rcases h with h|h
  ·have e:c.v=R.q 0:=by rw[c1,h,R.sub_self]
   have:=c.ok
   rw[e]at this⊢;rw[R.fX];exact Np S hA this
  exact Gs S hA (by omega)
 have:=Bp a.x b.x _ (Ic a.x b.x c.x _ c3 g)
 have e:decide (R.bJ c.v=0)=r:=by
  rw[Bool.eq_iff_iff,decide_eq_true_iff,R.m9,hr,c1,Go.Mx.Ks]
 rw[e]at this;exact this
end
variable {A:List R}
def fV (n:Nat)(r:Nat→Nu A):C:=ak n fun i=>(r i).x
def bm (r:Nat)(c:Nat→Nat)(m:Nat→Nat→Nu A):C:=aq r c fun i j=>(m i j).x
open Go Go.Eng
open Go.Tw (El aC aJ zE ai QB mS tB val In Rd TG cE bC a8 Ext ax qN jβ jμ)
section
variable {A:List R}(S:Go.Tw.Src 64 A)(hA:A.length≤3)
include S hA
omit S hA in
theorem In.mU {t s:List El}{z:R}(h:In t.length t z):In (t++s).length (t++s) z:=((Go.Tw.jP (Nat.le_refl _) z).2 h).le (by rw[X6];omega)
theorem GY {t x:List El}(G:TG A t)(X:TG A x):∃U,wF t x U∧TG A U∧(∀z,In t.length t z→In U.length U z)∧∀z,In x.length x z→In U.length U z:=by
 cases hb:eY t.length x.length t x with
 |true=>
  obtain⟨s,e⟩:=bM.1 hb;exact⟨t,.inl ⟨hb,rfl⟩,G,fun _ h=>h,fun z h=>by rw[e];exact In.mU h⟩
 |false=>
  cases hb':eY x.length t.length x t with
  |true=>
   obtain⟨s,e⟩:=bM.1 hb';exact⟨x,.inr (.inl ⟨hb,hb',rfl⟩),X,fun z h=>by rw[e];exact In.mU h,fun _ h=>h⟩
  |false=>
   obtain⟨U,rs,s,eU,E,_,c⟩:=jZ S hA G X;exact⟨U,.inr (.inr ⟨hb,hb',rs,c⟩),E.tg,fun z h=>by rw[eU];exact In.mU h,fun _ h=>Go.Tw.In.tH E (Nat.le_refl _) h⟩
theorem Gv {U:List El}(G:TG A U){a:Nu A}(hw:a.w≤wB)(hin:∀z,In a.x.1.length a.x.1 z→In U.length U z):∃e,ax A U e a.v (300*a.w-1) (3*a.w)∧wu U a.x e:=by
 have ul:=G.j6 S hA
 cases hb:eY U.length a.x.1.length U a.x.1 with
 |true=>
  obtain⟨s,e⟩:=bM.1 hb;refine⟨cE U.length a.x.2,by rw[e]at G⊢;exact a.ok.pad G,.inl ⟨hb,lV (by omega) (by rw[a.ok.len];exact Nat.two_pow_pos _) ?_⟩⟩;rw[a.ok.len,e,X6];exact Nat.pow_le_pow_right (by decide) (by omega)
 |false=>
  obtain⟨U',rs,s,eU,E,hall,c⟩:=jZ S hA G a.ok.tg;obtain rfl:U'=U:=hall fun j hj=>hin _ ((Go.Tw.In.root (h:=j)).le (by omega));obtain⟨qb,I⟩:=a.ok.P2 S hA (a.j1 hw) (a.j2 hw) E;have tq:=lR S hA E.tg;have a3:=a.ok.tg.j6 S hA;have im:=lM (a:=a.x.2) ⟨tq,I.hB,I.hY,Go.Tw.ir,I.y,I.r,I.s⟩ (by rw[E.len];exact Nat.le_refl _) (by omega) a.ok.len qb;exact⟨_,a.ok.image E,.inr ⟨hb,U',rs,c,im⟩⟩
omit S hA in
theorem nk {n:Nat}(l:Nat→List El×El){i:Nat}(hi:i<n):((List.range n).map l).getD i default=l i:=by
 rw[X7,List.getElem?_map,List.getElem?_range hi];rfl
omit S hA in
theorem MC {n:Nat}{l:Nat→Nu A}:dr (fV n l) (bR ((List.range n).map fun i=>(l i).x)):=
 .rows (by simp) fun i j hi _=>.of_eq (by unfold fg;rw[nk (fun i=>(l i).x) hi])
omit S hA in
theorem AY {P:Program}{f:FuncId}{args:List V}{e:TypeId}{w n n':Nat}{g g':Nat→Nat→C}{c:C}(h:dI P f args (.rows e w n g) c)(hn:n=n')(hg:∀i j,i<n→j<w→g i j=g' i j):dI P f args (.rows e w n' g') c:=by
 subst hn;obtain⟨h1,h2,h3,h4⟩:=h;refine⟨h1,h2,trivial,fun ok w0 vs hok hvs=>Calls.mono (h4 ok w0 vs hok hvs) fun e0 w' he=>?_⟩;obtain⟨v,u,l,k1,k2,k3,k4,k5,k6,k7⟩:=he;refine⟨v,u,l,k1,k2,k3,k4,?_,k6,k7⟩;unfold aL at k5⊢;have hc:∀j,(Bk.rows e w n g').cell j=(Bk.rows e w n g).cell j:=by
  intro j;simp only[Bk.cell]
  split
  ·rename_i hj
   have h0:0<w:=Nat.pos_of_ne_zero fun e=>by subst e;omega
   rw[hg _ _ ((Nat.div_lt_iff_lt_mul h0).2 hj) (Nat.mod_lt _ h0)]
  rfl
 cases hl:l.addr with
 |none=>rw[hl]at k5;exact fun j=>(hc j).trans (k5 j)
 |some p=>
  obtain⟨a,b⟩:=p;rw[hl]at k5;obtain⟨cur,e',hg',hcc⟩:=k5;exact⟨cur,e',hg',fun j c hj=>hcc j c (by rw[←hc];exact hj)⟩
theorem OW {n:Nat}(hn:n<2^30)(l:Nat→Nu A)(hw:∀i,i<n→(l i).w≤wB):∃o:Nat→Nu A,(∀i,i<n→(o i).v=(l i).v∧(o i).w=(l i).w)∧
  dI prog 93 [.one (fV n l)] (.rows 52 2 n (fun i=>bu (o i).x)) (.int .i64 0):=by
 have T0:TG A []:=⟨⟨fun i hi=>absurd hi (Nat.not_lt_zero _),fun i hi=>absurd hi (Nat.not_lt_zero _)⟩,fun i hi=>absurd hi (Nat.not_lt_zero _)⟩;obtain⟨tt,e0,hI,hS⟩:=Go.Tw.chain (α:=List El) (I:=fun k t=>TG A t∧∀i,i<k→∀z,In (l i).x.1.length (l i).x.1 z→In t.length t z) (St:=fun k t u=>wF t (l k).x.1 u) (x0:=[]) ⟨T0,fun i hi=>absurd hi (Nat.not_lt_zero _)⟩ (n:=n) (fun k t _ hk=>by
  obtain⟨U,h1,h2,h3,h4⟩:=GY S hA hk.1 (l k).ok.tg;refine⟨U,h1,h2,fun i hi z hz=>?_⟩
  by_cases e:i=k
  ·subst e;exact h4 z hz
  exact h3 z (hk.2 i (by omega) z hz))
 have G:=(hI n (Nat.le_refl _)).1;have ul:=G.j6 S hA;have hE:∀i,∃e,i<n→ax A (tt n) e (l i).v (300*(l i).w-1) (3*(l i).w)∧wu (tt n) (l i).x e:=fun i=>by
  by_cases hi:i<n
  ·obtain⟨e,h⟩:=Gv S hA G (hw i hi) ((hI n (Nat.le_refl _)).2 i hi);exact⟨e,fun _=>h⟩
  exact⟨[],fun h=>absurd h hi⟩
 obtain⟨e,he⟩:=Classical.skolem.1 hE
 let o:Nat→Nu A:=fun i=>open Classical in if h:i<n then⟨(tt n,e i),(l i).v,(l i).w,(l i).hw,(he i h).1⟩else l i
 have ho:∀i,i<n→(o i).x=(tt n,e i)∧(o i).v=(l i).v∧(o i).w=(l i).w:=fun i hi=>by
  have e1:o i=⟨(tt n,e i),(l i).v,(l i).w,(l i).hw,(he i hi).1⟩:=dif_pos hi;rw[e1];exact⟨rfl,rfl,rfl⟩
 refine⟨o,fun i hi=>(ho i hi).2,?_⟩;have xk:∀i,i<((List.range n).map fun i=>(l i).x).length→Tk (((List.range n).map fun i=>(l i).x).getD i default).1.length (((List.range n).map fun i=>(l i).x).getD i default).1:=fun i hi=>by
  rw[List.length_map,List.length_range]at hi;rw[nk (fun i=>(l i).x) hi];exact lP S hA (l i).ok.tg
 have ll:((List.range n).map fun i=>(l i).x).length=n:=by simp
 have cm:=rJ ((List.range n).map fun i=>(l i).x) (by rw[ll];exact hn) tt e0 (fun i hi=>lP S hA (hI i (by rw[ll]at hi;exact hi)).1) xk (fun i hi=>by
  rw[ll]at hi;rw[nk (fun i=>(l i).x) hi];exact hS i hi)
 rw[ll]at cm;have j:=ue ((List.range n).map fun i=>(l i).x) ((List.range n).map fun i=>(tt n,e i)) (by rw[ll];exact hn) (by simp) (tt n) (lP S hA G) xk cm (fun i hi=>by
  rw[ll]at hi;rw[nk (fun i=>(tt n,e i)) hi,nk (fun i=>(l i).x) hi];obtain⟨h1,h2⟩:=he i hi;refine⟨rfl,by rw[h1.len];exact aN (by omega),mn S hA h1 ((l i).sm (AG (hw i hi))),h2⟩)
 refine AY (j.args ⟨.cell MC,trivial⟩) (by simp) fun i j hi _=>?_;rw[List.length_map,List.length_range]at hi;unfold fg;rw[nk (fun i=>(tt n,e i)) hi,(ho i hi).1]
end
open Go Go.Eng
open Go.Tw (El aC aJ zE ai QB mS tB val In Rd TG ax qN jβ jμ gT jK)
open Go.Mx (iv)
theorem Kh (x y:List El×El)(U:List El)(ea eb ec:El)(hj:Pr prog 93 [.one (bR [x,y])] (.aA [.one (bR [(U,ea),(U,eb)]),.one (.int .i64 0)]))
  (hf:Pr prog 177 [tV U.length U,eV ea,eV eb] (eV ec)):Pr prog 142 [nX x,nX y] (.aA [nX (U,ec),.one (.int .i64 0)]):=by
 have c:=lE _ x y U ea eb ec hj hf;refine pw func142 ⟨[0,1,2,3,4,5],[]⟩ ?_;simp only[Tryz.f142,ntmps142,iz,seval];simp only[vx,T,seval,nX,nV,tC,eV,aa];refine Cg c ?_;simp only[vx,T,seval,nX,nV,tC,eV,aa];exact Ve rfl
theorem I6 (x y z:List El×El)(v:El)(hi:Pr prog 141 [tV y.1.length y.1,eV y.2] (.aA [eV v,.one (.int .i64 0)]))(hm:Pr prog 97 [nX x,nX (y.1,v)] (.aA [nX z,.one (.int .i64 0)])):
  Pr prog 99 [nX x,nX y] (.aA [nX z,.one (.int .i64 0)]):=by
 refine pw func99 ⟨[0,1,2,3,4,5,6,7,17],[]⟩ ?_;simp only[Tryz.f99,ntmps99,iz,seval];simp only[vx,T,seval,nX,nV,tC,eV,aa];refine Cg hi ?_;simp only[vx,T,seval,nX,nV,tV,tC,eV,aa];refine Cg hm ?_;simp only[vx,T,seval,nX,nV,tV,tC,eV,aa];exact Ve rfl
theorem Ji (x:List El×El)(ec:El)(hd:Pr prog 70 [nX x] (nX x))(hf:Pr prog 71 [tV x.1.length x.1,eV x.2] (eV ec)):Pr prog 38 [nX x] (nX (x.1,ec)):=by
 refine pw func38 ⟨[0,1,2],[]⟩ ?_;simp only[Tryz.f38,ntmps38,iz,seval];simp only[vx,T,seval,nX,nV,tC,eV,aa];refine Cg hd ?_;simp only[vx,T,seval,nX,nV,tV,tC,eV,aa];refine Cg hf ?_;simp only[vx,T,seval,nX,nV,tV,tC,eV,aa];exact Ve rfl
theorem yn (x:List El×El)(s:Int)(hs:Pr prog 96 [tV x.1.length x.1,eV x.2] (.one (.int .i64 s))):Pr prog 63 [nX x] (.one (.int .i64 s)):=by
 refine pw func63 ⟨[0,1,2],[]⟩ ?_;simp only[Tryz.f63,ntmps63,iz,seval];simp only[vx,T,seval,nX,nV,tC,eV,aa];refine Cg hs ?_;simp only[vx,T,seval,nX,nV,tV,tC,eV,aa];exact Ve rfl
theorem x6.mono {X Y h:Nat}{t:List El}(h1:X≤Y)(W:x6 X h t):x6 Y h t:=⟨W.tq,fun i hi=>(W.s i hi).mono h1,W.p⟩
section
variable {A:List R}(S:Go.Tw.Src 64 A)(hA:A.length≤3)
include S hA
theorem LG {a b:Nu A}(ha:a.w≤wA)(hb:b.w≤wB):EF 106 a b (a.v+b.v):=by
 obtain⟨z,nz,c⟩:=DS S hA a.ok b.ok (a.sm ha) (b.sm (AG hb)) (b.j1 hb) (b.j2 hb)
 have:=a.hw;have:=b.hw
 exact⟨⟨z,_,a.w+b.w,by omega,nz.mono (by omega) (by omega)⟩,rfl,rfl,c⟩
theorem Kr {a b:Nu A}(ha:a.w≤wA)(hb:b.w≤wB):EF 142 a b (a.v-b.v):=by
 obtain⟨U,ea,eb,na,nb,_,_,j⟩:=H7 S hA a.ok b.ok (a.sm ha) (b.sm (AG hb)) (b.j1 hb) (b.j2 hb);have nz:=nb.neg;have c:=Kh a.x b.x U ea eb _ j (rm (lP S hA na.tg) _ _ na.len nb.len (mn S hA na (a.sm ha)) (mn S hA nb (b.sm (AG hb))))
 have:=a.hw;have:=b.hw
 have sz:=na.sz.add nz.sz;exact⟨⟨(U,aC ea (aJ eb)),_,a.w+b.w,by omega,na.tg,Go.Tw.ao na.len nz.len,by rw[Go.Tw.val_add na.len nz.len,na.val,nz.val],sz.mono (by omega) (by omega)⟩,rfl,rfl,c⟩
theorem ss {a b:Nu A}(ha:a.w≤wA)(hb:b.w≤wB):EF 97 a b (a.v*b.v):=by
 obtain⟨z,nz,c⟩:=EM S hA a.ok b.ok (a.sm ha) (b.sm (AG hb)) (b.j1 hb) (b.j2 hb) (FZ ha hb)
 have:=a.hw;have:=b.hw
 exact⟨⟨z,_,a.w+b.w,by omega,nz.mono (by omega) (by omega)⟩,rfl,rfl,c⟩
theorem LB {a b:Nu A}(ha:a.w≤wA)(hb:b.w≤wC)(h0:b.v≠R.q 0):EF 99 a b (a.v*iv b.v):=by
 obtain⟨n,e,nn⟩:=b.inv h0;have i:=qY Go.Tw.ir (b.P3 S hA hb) (lR S hA b.ok.tg) b.ok.len (b.ok.Ql S hA) e
 let b':Nu A:=⟨(b.x.1,n),iv b.v,b.w,b.hw,nn⟩
 obtain⟨c,c1,c2,c3⟩:=ss S hA ha (b:=b') (P4 hb);exact⟨c,c1,c2,I6 a.x b.x c.x n i c3⟩
theorem mK {a:Nu A}(ha:a.w≤wC):Pr prog 63 [nX a.x] (.one (.int .i64 (R.bJ a.v))):=by
 have W:=(vZ S hA a.ok.tg (Nat.le_refl _)).rq.mono (show jK≤2^30 by decide);have g:=ki (by decide) (Nat.le_refl _) W a.ok.len ((a.ok.OT S hA).mono (a.P3 S hA ha));rw[Go.Tw.b6 a.ok.tg.rd.rl a.ok.len,a.ok.val]at g;exact yn _ _ g
theorem Dm {a:Nu A}(ha:a.w≤wA):∃c:Nu A,c.v= -a.v∧c.w=a.w∧Pr prog 38 [nX a.x] (nX c.x):=by
 have tk:=lP S hA a.ok.tg;have q:=mn S hA a.ok (a.sm ha);have u3:=a.ok.tg.j6 S hA;exact⟨⟨(a.x.1,aJ a.x.2),-a.v,a.w,a.hw,a.ok.neg⟩,rfl,rfl,Ji _ _ (rQ tk (by rw[a.ok.len];exact aN (by omega)) q) (v5 tk _ a.ok.len q)⟩
end
def Nu.int (A:List R)(z:Int)(h:z.natAbs<2^60:=by decide):Nu A:=
 ⟨(
  [],[Rat.ofInt z]),R.q (Rat.ofInt z),1,Nat.le_refl _,by
  have T0:TG A []:=⟨⟨fun i hi=>absurd hi (Nat.not_lt_zero _),fun i hi=>absurd hi (Nat.not_lt_zero _)⟩,fun i hi=>absurd hi (Nat.not_lt_zero _)⟩
  refine(ax.short (B:=64) T0 (a:=[Rat.ofInt z]) rfl fun c hc=>?_).mono (by decide) (by decide)
  rw[List.mem_singleton]at hc;subst hc;have e1:(Rat.ofInt z).num=z:=rfl;have e2:(Rat.ofInt z).den=1:=rfl;rw[e1,e2];exact⟨by omega,by decide⟩⟩
theorem pf (z:Int)(h:z.natAbs<2^60):Pr prog 61 [.one (.int .i64 z)] (nX ([],[Rat.ofInt z])):=by
 have f:=uS (Rat.ofInt z) (Nat.lt_of_le_of_lt (HI (by omega)) (by decide)) [];have hr:=cP z (by omega) (by omega);refine pw func61 ⟨[0,2],[]⟩ ?_;simp only[Tryz.f61,ntmps61,iz,seval];simp only[vx,T,seval];refine Cg hr ?_;simp only[vx,T,seval,QV,QC,nX,nV,tC,aa];refine Cg f ?_;simp only[vx,T,seval,QV,QC,nX,nV,tC,aa];exact Ve rfl
open Go Go.Eng
open Go.Tw (El)
section
variable {S:C}{wd io oo:Nat}
theorem CM (x:Nb):Pr prog 98 [.one (.elt S wd io oo),nX x,.one (.int .i64 0)] (nX x):=by
 refine pw func98 ⟨[0,1,2,4,6,15,21],[]⟩ ?_;simp only[Tryz.f98,ntmps98,iz,seval];simp only[vx,T,seval,nX,nV,tC,aa];exact Ve rfl
theorem PM {x y z:Nb}(h:Pr prog 106 [nX x,nX y] (.aA [nX z,.one (.int .i64 0)])):Pr prog 72 [.one (.elt S wd io oo),nX x,nX y] (nX z):=by
 have t:=CM (S:=S) (wd:=wd) (io:=io) (oo:=oo) z;refine pw func72 ⟨[0,1,2,4,5,6,7,8],[]⟩ ?_;simp only[Tryz.f72,ntmps72,iz,seval];simp only[vx,T,seval,nX,nV,tC,aa];refine Cg h ?_;simp only[vx,T,seval,nX,nV,tC,aa];refine Cg t ?_;simp only[vx,T,seval,nX,nV,tC,aa];exact Ve rfl
theorem O5 {x y z:Nb}(h:Pr prog 142 [nX x,nX y] (.aA [nX z,.one (.int .i64 0)])):Pr prog 100 [.one (.elt S wd io oo),nX x,nX y] (nX z):=by
 have t:=CM (S:=S) (wd:=wd) (io:=io) (oo:=oo) z;refine pw func100 ⟨[0,1,2,4,5,6,7,8],[]⟩ ?_;simp only[Tryz.f100,ntmps100,iz,seval];simp only[vx,T,seval,nX,nV,tC,aa];refine Cg h ?_;simp only[vx,T,seval,nX,nV,tC,aa];refine Cg t ?_;simp only[vx,T,seval,nX,nV,tC,aa];exact Ve rfl
theorem Hz {x y z:Nb}(h:Pr prog 97 [nX x,nX y] (.aA [nX z,.one (.int .i64 0)])):Pr prog 64 [.one (.elt S wd io oo),nX x,nX y] (nX z):=by
 have t:=CM (S:=S) (wd:=wd) (io:=io) (oo:=oo) z;refine pw func64 ⟨[0,1,2,4,5,6,7,8],[]⟩ ?_;simp only[Tryz.f64,ntmps64,iz,seval];simp only[vx,T,seval,nX,nV,tC,aa];refine Cg h ?_;simp only[vx,T,seval,nX,nV,tC,aa];refine Cg t ?_;simp only[vx,T,seval,nX,nV,tC,aa];exact Ve rfl
theorem OR {x y z:Nb}(h:Pr prog 99 [nX x,nX y] (.aA [nX z,.one (.int .i64 0)])):Pr prog 65 [.one (.elt S wd io oo),nX x,nX y] (nX z):=by
 have t:=CM (S:=S) (wd:=wd) (io:=io) (oo:=oo) z;refine pw func65 ⟨[0,1,2,4,5,6,7,8],[]⟩ ?_;simp only[Tryz.f65,ntmps65,iz,seval];simp only[vx,T,seval,nX,nV,tC,aa];refine Cg h ?_;simp only[vx,T,seval,nX,nV,tC,aa];refine Cg t ?_;simp only[vx,T,seval,nX,nV,tC,aa];exact Ve rfl
theorem PX {n n':Nat}(a b s p:Nat→Nb)(sa sb:Nat→Int)(hn:n<2^38)(hn':n≤n')(h0:Pr prog 61 [.one (.int .i64 0)] (nX (s 0)))
  (ga:∀i,i<n→Pr prog 63 [nX (a i)] (.one (.int .i64 (sa i)))) (gb:∀i,i<n→Pr prog 63 [nX (b i)] (.one (.int .i64 (sb i))))
  (hs:∀i,i<n→(sa i=0∨sb i=0)→s (i+1)=s i)
  (hm:∀i,i<n→sa i≠0→sb i≠0→Pr prog 64 [.one (.elt S wd io oo),nX (a i),nX (b i)] (nX (p i))∧Pr prog 72 [.one (.elt S wd io oo),nX (s i),nX (p i)] (nX (s (i+1)))):
  Pr prog 39 [.one (.elt S wd io oo),.one (ak n a),.one (ak n' b)] (nX (s n)):=by
 refine pw func39 ⟨[0,1,2,6,7,8,9,11,12,13,14,28],[]⟩ ?_;simp only[Tryz.f39,ntmps39,iz,seval];simp only[vx,T,seval,ak,nX,nV,tC,aa];refine Cg h0 ?_;simp only[vx,T,seval,ak,nX,nV,tC,aa];refine Lk (fun y:{i:Nat//i≤n}=>⟨[(0,.one (.elt S wd io oo)),(2,.one (ak n' b)),(6,.one (.ptr 1 0)),(7,.one (.ptr 2 0)),(11,.one (ak n a)),(12,.one (.int .i64 n)),(13,.one (.int .i64 y.1))],[(1,⟨.var [.nil,.nil],true⟩),(2,⟨.var [tC (s y.1).1.length (s y.1).1,aa (s y.1).2],true⟩)],3,41⟩) (fun y=>n-y.1) ⟨0,Nat.zero_le _⟩ ?_ (fun⟨i,hi⟩=>?_)
 ·refine Sa ?_;simp only[ry,seval,rz,ak,tC,aa]
 simp only;have wi:IntKind.i64.wrap ((i:Int)+1)=((i+1:Nat):Int):=by rw[IntWalk.i64_in _ (by omega)];omega
 simp only[vx,T,seval,ak];refine⟨fun g=>Lg ?_,fun g=>Lg ?_⟩
 ·have hin:i<n:=by omega
  have c1:=ga i hin;have c2:=gb i hin;have c3:=hs i hin;have c4:=hm i hin;simp only[vx,T,seval,ak,bu,wi,tC,aa];refine⟨by omega,Cg c1 ?_⟩;simp only[vx,T,seval,ak,bu,wi,tC,aa];refine⟨fun h1=>Lg ?_,fun h1=>Lg ?_⟩
  ·have g1:sa i≠0:=by simpa using h1
   simp only[vx,T,seval,ak,bu,wi,tC,aa];refine⟨by omega,Cg c2 ?_⟩;simp only[vx,T,seval,ak,bu,wi,tC,aa];refine⟨fun h2=>Lg ?_,fun h2=>Lg ?_⟩
   ·have g2:sb i≠0:=by simpa using h2
    obtain⟨c5,c6⟩:=c4 g1 g2;simp only[vx,T,seval,ak,bu,wi,tC,aa];refine⟨by omega,Cg c5 ?_⟩;simp only[vx,T,seval,ak,nX,nV,bu,wi,tC,aa];refine Cg c6 ?_;simp only[vx,T,seval,ak,nX,nV,bu,wi,tC,aa];refine Lq ⟨i+1,by omega⟩ ?_ (by show n-(i+1)<n-i;omega);refine Sa ?_;simp only[ry,seval,rz,ak,tC,aa]
   have e:=c3 (.inr (by simpa using h2));simp only[vx,T,seval,ak,bu,wi,tC,aa];refine Lq ⟨i+1,by omega⟩ ?_ (by show n-(i+1)<n-i;omega);refine Sa ?_;simp only[ry,seval,rz,ak,tC,aa,e]
  have e:=c3 (.inl (by simpa using h1));simp only[vx,T,seval,ak,bu,wi,tC,aa];refine Lq ⟨i+1,by omega⟩ ?_ (by show n-(i+1)<n-i;omega);refine Sa ?_;simp only[ry,seval,rz,ak,tC,aa,e]
 obtain rfl:i=n:=by omega
 simp only[vx,T,seval,ak,nX,nV,tC,aa];exact Ve rfl
end
open Go Go.Eng
open Go.Tw (El)
theorem Jf {r c:Nat}(M:Nat→Nat→Nb)(P:Nat→Nb)(hn:r*c<2^30)(hr:r<2^30)(hj:dI prog 93 [.one (ak (r*c) fun p=>M (p/c) (p%c))] (.rows 52 2 (r*c) (fun p=>bu (P p))) (.int .i64 0)):
  ra prog 60 [.one (aq r (fun _=>c) M)] r (fun b i=>.own b 2 (i*c) c) (.rows 52 2 (r*c) (fun p=>bu (P p))) (some (.int .i64 0)):=by
 have cc:=Lp (r:=r) (c:=c) M (by omega) (by omega)
 refine pY yV mixed func60 rfl (by decide) _ (by simp[ntmps60]) ⟨[0,2,3,4,5,6,7,8,16,21,22,23,24],[(8,(.cons 13 [8,9,10,11] (.cons 14 [] .nil .nil) .nil))]⟩ (by kernel_rfl) r (fun b i=>.own b 2 (i*c) c) (.rows 52 2 (r*c) (fun p=>bu (P p))) (some (.int .i64 0)) trivial (fun _ h=>by cases h<;>trivial) ?_
 show vc T _ _ (Option.get! Tryz.f60.body) _ _;simp only[Tryz.f60,ntmps60,Option.get!,iS,iM,eO,J1];simp only[vx,T,seval,aq,ak];refine Cg cc ?_;simp only[vx,T,seval,aq,ak];refine cF.Bt hj ?_;simp only[vx,T,seval,aq,ak];refine⟨by omega,?_⟩;refine Lk (fun y:{i:Nat//i≤r}=>⟨[(2,.one .nil),(3,.one (.int .i64 0)),(4,.one (.own 1 2 (y.1*c) (r*c-y.1*c))),(6,.one (.win 2 1 0 r)),(21,.one (aq r (fun _=>c) M)),(22,.one (.int .i64 r)),(23,.one (.int .i64 y.1))],
  [(1,⟨.rows 52 2 (r*c) (fun p=>bu (P p)),true⟩),(2,⟨.wins 33 1 r (fun j=>if j<y.1 then .own 1 2 (j*c) c else .nil),true⟩)],3,43⟩) (fun y=>r-y.1) ⟨0,Nat.zero_le _⟩ ?_ (fun⟨i,hi⟩=>?_)
 ·refine Sa ?_;simp only[ry,seval,rz,aq,ak,Nat.zero_mul,Nat.not_lt_zero,Nat.sub_zero]
 simp only;have wi:IntKind.i64.wrap ((i:Int)+1)=((i+1:Nat):Int):=by rw[IntWalk.i64_in _ (by omega)];omega
 simp only[vx,T,seval,aq,ak];refine⟨fun g=>Lg ?_,fun g=>Lg ?_⟩
 ·have hir:i<r:=by omega
  have hm:(i+1)*c≤r*c:=Nat.mul_le_mul_right _ hir;rw[Nat.add_mul,Nat.one_mul]at hm;have e2:(((r*c-i*c:Nat):Int)-(c:Int)).toNat=r*c-(i*c+c):=by omega
  simp only[vx,T,seval,aq,ak,wi];refine⟨by omega,by omega,by omega,by omega,by omega,Lq ⟨i+1,by omega⟩ ?_ (by show r-(i+1)<r-i;omega)⟩;refine Sa ?_;simp only[ry,seval,rz,aq,ak,Nat.add_mul,Nat.one_mul,e2];intro j hj
  by_cases h1:j=i
  ·subst h1;rw[if_pos rfl,if_pos (by omega)];exact⟨by decide,rfl,rfl,rfl,rfl⟩
  rw[if_neg h1]
  by_cases h2:j<i
  ·rw[if_pos h2,if_pos (by omega)];exact⟨by decide,rfl,rfl,rfl,rfl⟩
  rw[if_neg h2,if_neg (by omega)]
  trivial
 obtain rfl:i=r:=by omega
 simp only[vx,T,seval,aq,ak,wi];exact⟨⟨rfl,rfl,by decide,⟨rfl,rfl,fun j hj=>.inl ⟨2,j*c,c,if_pos hj,fun _=>rfl⟩⟩,⟨rfl,rfl,rfl,fun _ _ _ _=>rfl⟩⟩,rfl⟩
def gq (Z P:Nat→Nb)(a f t:Nat)(p:Nat):Nb:=if a+f≤p∧p<a+t then Z (p-a)else P p
section
variable {S:C}{wd io oo:Nat}
theorem u4 {N a b c f:Nat}(P Z Q:Nat→Nb)(n:Nb)(sg:Nat→Int)(ha:a+c≤N)(hb:b+c≤N)(hd:a+c≤b∨b+c≤a)(hN:N<2^38)(hf:f≤c)
  (g:∀t,f≤t→t<c→Pr prog 63 [nX (P (b+t))] (.one (.int .i64 (sg t)))) (h0:∀t,f≤t→t<c→sg t=0→Z t=P (a+t))
  (h1:∀t,f≤t→t<c→sg t≠0→Pr prog 64 [.one (.elt S wd io oo),nX n,nX (P (b+t))] (nX (Q t))∧Pr prog 100 [.one (.elt S wd io oo),nX (P (a+t)),nX (Q t)] (nX (Z t))):
  Mc prog 66 [.one (.elt S wd io oo),.one (.own 0 2 a c),.one (.own 0 2 b c),nX n,.one (.int .i64 f)] (.rows 52 2 N (fun p=>bu (P p))) (fun _ B'=>B'= .rows 52 2 N (fun p=>bu (gq Z P a f c p))):=by
 refine mw func66 ⟨[0,1,2,3,4,8,10,15,23],[]⟩ ?_;simp only[Tryz.f66,ntmps66,iz,seval];simp only[vx,T,seval,nX,nV,tC,aa];have s0:∀p,gq Z P a f f p=P p:=fun p=>if_neg (by omega);refine Lk (fun y:{t:Nat//f≤t∧t≤c}=>⟨[(0,.one (.elt S wd io oo)),(1,.one (.own 0 2 a c)),(2,.one (.own 0 2 b c)),(8,.one (.ptr 1 0)),(10,.one (.int .i64 y.1))],
  [(0,⟨.rows 52 2 N (fun p=>bu (gq Z P a f y.1 p)),true⟩),(1,⟨.var [tC n.1.length n.1,aa n.2],true⟩)],2,40⟩) (fun y=>c-y.1) ⟨f,Nat.le_refl _,hf⟩ ?_ (fun⟨t,ht,htc⟩=>?_)
 ·refine Sa ?_;simp only[ry,seval,rz,tC,aa,s0]
 simp only;have wi:IntKind.i64.wrap ((t:Int)+1)=((t+1:Nat):Int):=by rw[IntWalk.i64_in _ (by omega)];omega
 simp only[vx,T,seval];refine⟨fun gt=>Lg ?_,fun gt=>Lg ?_⟩
 ·have htl:t<c:=by omega
  have eb:gq Z P a f t (b+t)=P (b+t):=if_neg (by omega);have ea:gq Z P a f t (a+t)=P (a+t):=if_neg (by omega);have hg:=g t ht htl;have step:∀p j,p<N→j<2→bt (fun p=>bu (gq Z P a f t p)) (a+t) 0 [tC (Z t).1.length (Z t).1,aa (Z t).2] p j=bu (gq Z P a f (t+1) p) j:=by
   intro p j hp hj;unfold bt gq
   by_cases h:p=a+t
   ·rw[if_pos h,if_pos (Nat.zero_le _),if_pos (by simpa using hj),if_pos (by omega),h,Nat.add_sub_cancel_left]
    match j,hj with
    |0,_=>rfl
    |1,_=>rfl
   rw[if_neg h]
   dsimp only
   by_cases h2:a+f≤p∧p<a+t
   ·rw[if_pos h2,if_pos (by omega)]
   rw[if_neg h2,if_neg (by omega)]
  simp only[vx,T,seval,eb,bu,tC,aa];refine⟨by omega,Cg hg ?_⟩;simp only[vx,T,seval,eb,bu,tC,aa];refine⟨fun g2=>Lg ?_,fun g2=>Lg ?_⟩
  ·obtain⟨c1,c2⟩:=h1 t ht htl (by simpa using g2);simp only[vx,T,seval,eb,ea,bu,tC,aa];refine⟨by omega,by omega,Cg c1 ?_⟩;simp only[vx,T,seval,nX,nV,eb,ea,bu,tC,aa];refine Cg c2 ?_;simp only[vx,T,seval,nX,nV,eb,ea,bu,tC,aa,wi];refine⟨by omega,Lq ⟨t+1,by omega,by omega⟩ ?_ (by show c-(t+1)<c-t;omega)⟩;refine Sa ?_;simp only[ry,seval,rz,tC,aa];exact step
  have e:=h0 t ht htl (by simpa using g2);simp only[vx,T,seval,wi];refine Lq ⟨t+1,by omega,by omega⟩ ?_ (by show c-(t+1)<c-t;omega);refine Sa ?_;simp only[ry,seval,rz,tC,aa];intro p j hp hj;unfold gq
  by_cases h:p=a+t
  ·rw[if_neg (by omega),if_pos (by omega),h,Nat.add_sub_cancel_left,e]
  by_cases h2:a+f≤p∧p<a+t
  ·rw[if_pos h2,if_pos (by omega)]
  rw[if_neg h2,if_neg (by omega)]
 obtain rfl:t=c:=by omega
 simp only[vx,T,seval]
end
open Go Go.Eng
open Go.Tw (El ax TG)
open Go.Mx (sm iv)
theorem P0 {A:List R}{n:Nat}{p:Nat→Nu A→Prop}(d:Nu A)(h:∀i,i<n→∃c,p i c):∃f:Nat→Nu A,∀i,i<n→p i (f i):=by
 have h':∀i,∃c,i<n→p i c:=fun i=>by
  by_cases hi:i<n
  ·obtain⟨c,hc⟩:=h i hi;exact⟨c,fun _=>hc⟩
  exact⟨d,fun h=>absurd h hi⟩
 exact Classical.skolem.1 h'
theorem Px {A:List R}{r c:Nat}{p:Nat→Nat→Nu A→Prop}(d:Nu A)(h:∀i j,i<r→j<c→∃x,p i j x):∃f:Nat→Nat→Nu A,∀i j,i<r→j<c→p i j (f i j):=by
 have h':∀i,∃f:Nat→Nu A,i<r→∀j,j<c→p i j (f j):=fun i=>by
  by_cases hi:i<r
  ·obtain⟨f,hf⟩:=P0 d fun j hj=>h i j hi hj;exact⟨f,fun _=>hf⟩
  exact⟨fun _=>d,fun h=>absurd h hi⟩
 obtain⟨f,hf⟩:=Classical.skolem.1 h';exact⟨f,fun i j hi hj=>hf i hi j hj⟩
theorem O9 (A:List R)(z:Int)(h:z.natAbs<2^60):(Nu.int A z h).w=1:=rfl
section
variable {A:List R}(S:Go.Tw.Src 64 A)(hA:A.length≤3)
include S hA
theorem FF {n n':Nat}(a b:Nat→Nu A)(hn:n<2^38)(h:n=n'→∀i,i<n→(a i).w≤wA∧(b i).w≤wB∧((a i).v=(b i).v∨(a i).w+(b i).w≤wC)){r:Bool}(hr:r=true↔n=n'∧∀i,i<n→(a i).v=(b i).v):
  Pr prog 25 [.one (fV n a),.one (fV n' b)] (.one (.bool r)):=by
 refine I2 (fun i=>(a i).x) (fun i=>(b i).x) hn (fun i=>open Classical in decide ((a i).v=(b i).v)) (fun e i hi=>?_) (by rw[hr];simp);obtain⟨h1,h2,h3⟩:=h e i hi;exact EW S hA h1 h2 h3 (by simp)
theorem Jm {n n':Nat}(c c':Nat→Nat)(a b:Nat→Nat→Nu A)(hn:n<2^38)(hc:∀i,i<n→c i<2^38)(h:n=n'→∀i j,i<n→c i=c' i→j<c i→(a i j).w≤wA∧(b i j).w≤wB∧((a i j).v=(b i j).v∨(a i j).w+(b i j).w≤wC))
  {r:Bool} (hr:r=true↔n=n'∧∀i,i<n→c i=c' i∧∀j,j<c i→(a i j).v=(b i j).v):Pr prog 23 [.one (bm n c a),.one (bm n' c' b)] (.one (.bool r)):=by
 refine HU c c' (fun i j=>(a i j).x) (fun i j=>(b i j).x) hn (fun i=>open Classical in decide (c i=c' i∧∀j,j<c i→(a i j).v=(b i j).v)) (fun e i hi=>?_) (by rw[hr];simp);exact FF S hA (a i) (b i) (hc i hi) (fun e2 j hj=>h e i j hi e2 hj) (by simp)
end
open Go Go.Eng
open Go.Tw (El)
def jq (x:Nat→Nat→Nb)(a b:Nat):Nat→Nat→Nb:=fun i=>if i=a then x b else if i=b then x a else x i
def fj (x:Nat→Nat→Nb)(T:Nat→Nb)(Z:Nat→Nat→Nb)(s2:Nat→Int)(q t n:Nat):Nat→Nat→Nb:=fun i=>if i=q then T else if i<n then(if s2 i=0 then jq x q t i else Z i)else jq x q t i
def jJ (l:List Nat):List Int:=l.map fun(n:Nat)=>(n:Int)
theorem dq {l:List Nat}:(jJ l).length=l.length:=List.length_map _
open Go Go.Eng
open Go.Tw (El)
def rV (z:Int):Nb:=([],[Rat.ofInt z])
def oO (z:Int)(j:Nat):Nb:=if(j:Int)=z then rV 1 else rV 0
theorem IU {n:Nat}(z:Int)(hn:n<2^38):Fr prog 40 [.one (.int .i64 n),.one (.int .i64 z)] (.rows 52 2 n (fun j=>bu (oO z j))):=by
 have c0:=ja 0 (by decide) (by decide);have c1:=ja 1 (by decide) (by decide);refine fw func40 ⟨[0,1,4,5,6,7,10,16],[]⟩ ?_;simp only[Tryz.f40,ntmps40,iz,seval];simp only[vx,T,seval];refine Lk (fun y:{i:Nat//i≤n}=>⟨[(0,.one (.int .i64 n)),(1,.one (.int .i64 z)),(4,.one .nil),(5,.one (.own 1 2 0 y.1)),(6,.one (.int .i64 y.1))],[(1,⟨.rows 52 2 y.1 (fun j=>bu (oO z j)),true⟩)],2,23⟩) (fun y=>n-y.1) ⟨0,Nat.zero_le _⟩ ?_ (fun⟨i,hi⟩=>?_)
 ·refine Sa ?_;simp only[ry,seval,rz,Nat.not_lt_zero]
 simp only;have wi:IntKind.i64.wrap ((i:Int)+1)=((i+1:Nat):Int):=by rw[IntWalk.i64_in _ (by omega)];omega
 simp only[vx,T,seval];refine⟨fun g=>Lg ?_,fun g=>Lg ?_⟩
 ·simp only[vx,T,seval];refine Cg c0 ?_;simp only[vx,T,seval,nX,nV,tC,aa];refine⟨fun g2=>Lg ?_,fun g2=>Lg ?_⟩
  ·simp only[vx,T,seval];refine Cg c1 ?_;simp only[vx,T,seval,nX,nV,tC,aa,wi];refine⟨⟨by omega,by omega⟩,Lq ⟨i+1,by omega⟩ ?_ (by show n-(i+1)<n-i;omega)⟩;refine Sa ?_;simp only[ry,seval,rz,nX,nV,tC,aa];have e:oO z i=rV 1:=if_pos g2;have s:=vF (oO z) i;rw[e]at s;exact s
  simp only[vx,T,seval,nX,nV,tC,aa,wi];refine⟨⟨by omega,by omega⟩,Lq ⟨i+1,by omega⟩ ?_ (by show n-(i+1)<n-i;omega)⟩;refine Sa ?_;simp only[ry,seval,rz,nX,nV,tC,aa];have e:oO z i=rV 0:=if_neg g2;have s:=vF (oO z) i;rw[e]at s;exact s
 obtain rfl:i=n:=by omega
 simp only[vx,T,seval];exact⟨rfl,rfl,fun _ _ _ _=>rfl⟩
theorem Fo (l:List Int)(z:Int):z∉l∨∃i:Nat,i<l.length∧l.getD i 0=z∧∀j,j<i→l.getD j 0≠z:=by
 by_cases h:∃i:Nat,i<l.length∧l.getD i 0=z
 ·obtain⟨i,h1,h2⟩:=h
  right
  induction i using Nat.strongRecOn with
  |ind i ih=>
   by_cases h3:∃j,j<i∧l.getD j 0=z
   ·obtain⟨j,h4,h5⟩:=h3;exact ih j h4 (by omega) h5
   exact⟨i,h1,h2,fun j hj e=>h3 ⟨j,hj,e⟩⟩
 left
 intro hm;obtain⟨i,hi,e⟩:=List.mem_iff_getElem.1 hm;exact h ⟨i,hi,by rw[X7,X8 hi,←e];rfl⟩
theorem yK {l:List Int}{i:Nat}(h:i<l.length):l.getD i 0∈l:=by
 rw[X7,X8 h];exact List.getElem_mem h
theorem Mo (l:List Int)(z:Int):∃r:Int,(0≤r↔z∈l)∧((∀i,i<l.length→l.getD i 0≠z)→r= -1)∧(∀i:Nat,i<l.length→l.getD i 0=z→(∀j,j<i→l.getD j 0≠z)→r=i):=by
 rcases Fo l z with h|⟨i,h1,h2,h3⟩
 ·exact⟨-1,by simp[h],fun _=>rfl,fun i hi e=>absurd (e▸yK hi) h⟩
 refine⟨i,⟨fun _=>h2▸yK h1,fun _=>by omega⟩,fun h=>absurd h2 (h i h1),fun j h4 h5 h6=>?_⟩
 rcases Nat.lt_trichotomy i j with h|h|h
 ·exact absurd h2 (h6 i h)
 ·rw[h]
 exact absurd h5 (h3 j h)
theorem AK (l:List Int)(z r:Int)(hl:l.length<2^38)(h1:(∀i,i<l.length→l.getD i 0≠z)→r= -1)(h2:∀i:Nat,i<l.length→l.getD i 0=z→(∀j,j<i→l.getD j 0≠z)→r=i):Pr prog 69 [.one (.ints .i64 l),.one (.int .i64 z)] (.one (.int .i64 r)):=by
 refine pw func69 ⟨[0,1,4,5,7,8,9,16],[]⟩ ?_;simp only[Tryz.f69,ntmps69,iz,seval];simp only[vx,T,seval];refine Lk (fun y:{i:Nat//i≤l.length∧∀j,j<i→l.getD j 0≠z}=>⟨[(0,.one (.ints .i64 l)),(1,.one (.int .i64 z)),(4,.one (.int .i64 0)),(7,.one (.int .i64 l.length)),(8,.one (.int .i64 y.1))],[],1,19⟩) (fun y=>l.length-y.1) ⟨0,Nat.zero_le _,fun j hj=>absurd hj (Nat.not_lt_zero _)⟩ ?_ (fun⟨i,hi,hb⟩=>?_)
 ·refine Sa ?_;simp only[ry,seval,rz]
 simp only;have wi:IntKind.i64.wrap ((i:Int)+1)=((i+1:Nat):Int):=by rw[IntWalk.i64_in _ (by omega)];omega
 simp only[vx,T,seval];refine⟨fun g=>Lg ?_,fun g=>Lg ?_⟩
 ·simp only[vx,T,seval];refine⟨by omega,?_⟩;refine⟨fun g2=>Lg ?_,fun g2=>Lg ?_⟩
  ·have e:=h2 i (by omega) g2.symm hb;simp only[vx,T,seval];exact Ve (by rw[e])
  simp only[vx,T,seval,wi];refine Lq ⟨i+1,by omega,fun j hj=>?_⟩ ?_ (by show l.length-(i+1)<l.length-i;omega)
  ·by_cases e:j=i
   ·rw[e];exact fun h=>g2 h.symm
   exact hb j (by omega)
  refine Sa ?_;simp only[ry,seval,rz]
 have e:=h1 fun j hj=>hb j (by omega);simp only[vx,T,seval];exact Ve (by rw[e])
theorem vR (l:List Int)(z:Int)(hl:l.length<2^38){b:Bool}(hb:b=true↔z∈l):Pr prog 36 [.one (.ints .i64 l),.one (.int .i64 z)] (.one (.bool b)):=by
 obtain⟨r,h,h1,h2⟩:=Mo l z;have c:=AK l z r hl h1 h2;obtain rfl:b=decide (0≤r):=by rw[Bool.eq_iff_iff,hb,←h,decide_eq_true_iff]
 refine pw func36 ⟨[0,1,4],[]⟩ ?_;simp only[Tryz.f36,ntmps36,iz,seval];simp only[vx,T,seval];refine Cg c ?_;simp only[vx,T,seval];exact Ve rfl
end Go.Proofs.YtgcmkdgpaibpeaaGreat
/-
  What the elimination's result tells: the solution, the basis of the kernel, how many there are.
-/
namespace Go.Mx
open Go Go.R
def mU {α:Type}(p:List Nat)(f:Nat→α)(b:Nat→α):Nat→Nat→α
 |0=>b
 |i+1=>fun j=>if j=p.getD i 0 then f i else mU p f b i j
theorem pC {α β:Type}(g:α→β){p:List Nat}{f b:Nat→α}{j:Nat}:∀{n:Nat},g (mU p f b n j)=mU p (fun i=>g (f i)) (fun i=>g (b i)) n j
 |0=>rfl
 |n+1=>by
  show g (if j=p.getD n 0 then f n else mU p f b n j)=if j=p.getD n 0 then g (f n)else _
  rw[←pC g]
  split<;>rfl
theorem so {p:List Nat}{k:Nat}:k∈p↔∃i,i<p.length∧k=p.getD i 0:=by
 refine⟨fun h=>?_,fun⟨i,hi,e⟩=>?_⟩
 ·obtain⟨i,hi,e⟩:=List.mem_iff_getElem.1 h;exact⟨i,hi,by rw[X7,X8 hi,←e];rfl⟩
 rw[e,X7,X8 hi];exact List.getElem_mem hi
section
variable {r k:Nat}{N:Mt}{p:List Nat}
end
def free (p:List Nat):Nat→Nat
 |0=>0
 |k+1=>free p k+if p.contains k then 0 else 1
theorem Ag {p:List Nat}{x:Nat}:∀{k:Nat},k≤x→free (p++[x]) k=free p k
 |0,_=>rfl
 |k+1,h=>by
  rw[free,free,Ag (by omega)]
  have:(p++[x]).contains k=p.contains k:=by
   rw[Bool.eq_iff_iff,List.contains_iff_mem,List.contains_iff_mem,List.mem_append,List.mem_singleton];exact⟨fun h=>h.resolve_right (by omega),.inl⟩
  rw[this]
theorem Ap (r:Nat)(M:Mt):∀k,free (red r M k).2 k+(red r M k).2.length=k
 |0=>rfl
 |k+1=>by
  have ih:=Ap r M k;have E:=fH r M k;rw[red];unfold mO;have hk:(red r M k).2.contains k=false:=by
   rw[←Bool.not_eq_true,List.contains_iff_mem,so];rintro⟨i,hi,e⟩
   have:=E.lt i hi
   omega
  split
  ·rw[free,Ag (Nat.le_refl _),X6,List.length_singleton]
   have:((red r M k).2++[k]).contains k=true:=by rw[List.contains_iff_mem];simp
   rw[if_pos this];omega
  rw[free,if_neg (by rw[hk];decide)];omega
def iX (r c:Nat)(M N:Mt):Prop:=∀i j,i<r→j<c→M i j=N i j
theorem xu {r c k:Nat}{M N:Mt}(h:iX r c M N)(hk:k<c):∀n p,p+n≤r→ni M k n p=ni N k n p
 |0,_,_=>rfl
 |n+1,p,hp=>by
  unfold ni;rw[h p k (by omega) hk,xu h hk n (p+1) (by omega)]
theorem CP {r c k:Nat}{s t:Mt×List Nat}(h:iX r c s.1 t.1)(h2:s.2=t.2)(hk:k<c)(hl:s.2.length≤r):iX r c (mO r k s).1 (mO r k t).1∧(mO r k s).2=(mO r k t).2:=by
 obtain⟨M,p⟩:=s;obtain⟨N,p'⟩:=t;obtain rfl:p=p':=h2;simp only at h hl;unfold mO;simp only;rw[xu h hk (r-p.length) p.length (by omega)]
 split
 ·rename_i hf
  refine⟨fun i j hi hj=>?_,rfl⟩;have ht:=(mc N k (r-p.length) p.length).1
  generalize ni N k (r-p.length) p.length=t at hf ht
  have hs:iX r c (oa M p.length t) (oa N p.length t):=by
   intro i j hi hj;unfold oa
   split
   ·exact h t j hf hj
   split
   ·exact h _ j (by omega) hj
   exact h i j hi hj
  show iR _ _ _ i j=iR _ _ _ i j;unfold iR;rw[hs _ j (show p.length<r by omega) hj,hs _ k (show p.length<r by omega) hk,hs i j hi hj,hs i k hi hk]
 exact⟨h,rfl⟩
theorem CS {r c:Nat}{M N:Mt}(h:iX r c M N):∀k,k≤c→iX r c (red r M k).1 (red r N k).1∧(red r M k).2=(red r N k).2
 |0,_=>⟨h,rfl⟩
 |k+1,hk=>by
  obtain⟨h1,h2⟩:=CS h k (by omega);exact CP h1 h2 hk (fH r M k).len
end Go.Mx
namespace Go.Proofs.YtgcmkdgpaibpeaaGreat
open Go.Proofs.Tryz
open Go Go.Eng
open Go.Tw (El)
open Go.Mx (mU free)
theorem ph (p:List Nat)(i:Nat):(jJ p).getD i 0=((p.getD i 0:Nat):Int):=by
 rw[X7,X7,jJ,List.getElem?_map]
 cases p[i]? <;>rfl
theorem DK {p:List Nat}{k:Nat}:(k:Int)∈jJ p↔k∈p:=by
 unfold jJ;rw[List.mem_map];refine⟨fun⟨a,h,e⟩=>?_,fun h=>⟨k,h,rfl⟩⟩;obtain rfl:a=k:=by omega
 exact h
def fl (p:List Nat):Nat→List Nat
 |0=>[]
 |k+1=>if k∈p then fl p k else fl p k++[k]
theorem L8 (p:List Nat):∀k,(fl p k).length≤k
 |0=>Nat.le_refl _
 |k+1=>by
  have ih:=L8 p k;rw[fl]
  split
  ·omega
  rw[X6,List.length_singleton];omega
def LW (p:List Nat)(G:Nat→Nat→Nb)(u:Nat→Nat→Nb)(n k:Nat):Nat→Nb:=mU p (fun i=>G i k) (u k) n
theorem sG {α:Type}(p:List Nat)(f b:Nat→α)(n j:Nat):mU p f b (n+1) j=if j=p.getD n 0 then f n else mU p f b n j:=rfl
theorem GD (p:List Nat)(f b:Nat→Nb)(n:Nat):∀i j,j<2→bt (fun j=>bu (mU p f b n j)) (p.getD n 0) 0 [tC (f n).1.length (f n).1,aa (f n).2] i j=bu (mU p f b (n+1) i) j:=by
 intro i j hj;unfold bt;rw[sG]
 by_cases h:i=p.getD n 0
 ·rw[if_pos h,if_pos h,if_pos (Nat.zero_le _),if_pos (by simpa using hj)]
  match j,hj with
  |0,_=>rfl
  |1,_=>rfl
 rw[if_neg h,if_neg h]
open Go Go.Eng
open Go.Tw (El)
open Go.Mx (mU free)
def Eg (c:Nat)(x:Nat→Nat→Nb)(b:Nat→Nb)(i j:Nat):Nb:=if j<c then x i j else b i
def A1 (x:Nb)(i j:Nat):C:=[tC x.1.length x.1,aa x.2].getD (i*2+j) .any
theorem CG (x:Nb){d:Nat}(hd:d≤1):dr (.rows 2 d (A1 x)) (ak d fun _=>x):=by
 unfold ak;refine dr.rows rfl fun i j hi hj=>dr.of_eq ?_;obtain rfl:i=0:=by omega
 match j,hj with
 |0,_=>rfl
 |1,_=>rfl
open Go Go.Eng
open Go.Tw (El ax TG)
open Go.Mx (sm iv iX red mO ni oa iR)
section
variable {A:List R}
def vM (X:Nat→Nat→Nu A):Nat→Nat→R:=fun i j=>(X i j).v
def ju (X:Nat→Nat→Nu A)(a b:Nat):Nat→Nat→Nu A:=fun i=>if i=a then X b else if i=b then X a else X i
theorem Fw (X:Nat→Nat→Nu A)(a b i j:Nat):(ju X a b i j).v=oa (vM X) a b i j:=by
 unfold ju oa vM
 split
 ·rfl
 split<;>rfl
theorem sR (X:Nat→Nat→Nu A)(a b i j:Nat):(ju X a b i j).x=jq (fun i j=>(X i j).x) a b i j:=by
 unfold ju jq
 split
 ·rfl
 split<;>rfl
theorem My {X:Nat→Nat→Nu A}{a b r c W:Nat}(ha:a<r)(hb:b<r)(h:∀i j,i<r→j<c→(X i j).w≤W){i j:Nat}(hi:i<r)(hj:j<c):(ju X a b i j).w≤W:=by
 unfold ju
 split
 ·exact h _ _ hb hj
 split
 ·exact h _ _ ha hj
 exact h _ _ hi hj
variable (S:Go.Tw.Src 64 A)(hA:A.length≤3)
include S hA
omit S hA in
theorem GF (r:Nat)(M:Nat→Nat→R)(k:Nat):(red r M k).2.length≤k:=by
 have:=Go.Mx.Ap r M k
 omega
omit S hA in
theorem MV (r:Nat)(M:Nat→Nat→R)(k:Nat):(red r M (k+1)).2=if ni (red r M k).1 k (r-(red r M k).2.length) (red r M k).2.length<r then(red r M k).2++[k]else(red r M k).2:=by
 show(mO r k (red r M k)).2=_
 unfold mO
 split<;>rfl
end
open Go Go.Eng
open Go.Tw (El)
theorem N6 {n:Nat}(a:Nat→Nb)(k:Nat)(hk:k<n)(hn:n<2^38){s:Int}(h:Pr prog 63 [nX (a k)] (.one (.int .i64 s))):Pr prog 62 [.one (ak n a),.one (E6 (.int .i64 k))] (.one (.bool (decide (s≠0)))):=by
 unfold E6;refine pw func62 ⟨[0,1,3],[]⟩ ?_;simp only[Tryz.f62,ntmps62,iz,seval];have hp:OA ([C.int .i64 (k:Int)].getD 0 .any)= .int .i64 (k:Int):=rfl;simp only[vx,T,seval,ak,bu,tC,aa,hp];refine⟨by omega,Cg h ?_⟩;simp only[vx,T,seval];exact Ve rfl
theorem Sub.mk {e e':List (Nat×V)}{o o':List (Nat×ft)}{x x' n:Nat}(rn:List (Nat×Option Nat))(h:(rU rn 0=some 0∧0<x')∧Y0 rn x' e e'∧Y4 rn x' o o'∧Y6 rn o'):Sub ⟨e,o,x,n⟩ ⟨e',o',x',n⟩:=
 Sub.of rn h.1 rfl h.2.1 h.2.2.1 h.2.2.2
def ON:V→Option V
 |.one (.ptr b off)=>some (.one (.ptr b off))
 |.one (.elt c wd i off)=>some (.one (.elt c wd i off))
 |.one (.eptr b wd i off)=>some (.one (.eptr b wd i off))
 |_=>none
theorem z7 {T:fD}{P:Program}{e:List (Nat×V)}{o:List (Nat×ft)}{x n:Nat}{K:eG→Prop}{a:Operand}{nx id:Nat}{fz:Bool}:eF T P (.nilCheck a) ⟨e,o,x,n⟩ nx id fz K=b7 (ON (St.ev ⟨e,o,x,n⟩ a)) (fun v=>K ⟨v,none,[]⟩):=by
 unfold eF;simp only
 cases h:St.ev ⟨e,o,x,n⟩ a with
 |one c=>cases c<;>rfl
 |_=>rfl
theorem Gt {b off:Nat}:ON (.one (.ptr b off))=some (.one (.ptr b off)):=rfl
def Lb (f:FuncId)(x y z:Nb):Prop:=Pr prog f [nX x,nX y] (.aA [nX z,.one (.int .i64 0)])
def P9 (r c k q:Nat)(X X':Nat→Nat→Nb)(d d':Nb)(t:Nat):Prop:=
 ∃sg:Nat→Int,(∀i,q≤i→i<r→Pr prog 63 [nX (X i k)] (.one (.int .i64 (sg i))))∧q≤t∧t≤r∧(∀i,q≤i→i<t→sg i=0)∧
  ((
   t=r∧X'=X∧d'=d)∨(t<r∧sg t≠0∧∃(d1:Nb) (T:Nat→Nb) (Z Q:Nat→Nat→Nb) (s2 sT:Nat→Int),
   (q<t→Pr prog 38 [nX d] (nX d1))∧(t=q→d1=d)∧Lb 97 d1 (X t k) d'∧(∀j,k≤j→j<c→Lb 99 (X t j) (X t k) (T j))∧(∀j,j<k→T j=X t j)∧
   (∀j,k≤j→j<c→Pr prog 63 [nX (T j)] (.one (.int .i64 (sT j))))∧
   (∀i,i<r→i≠q→Pr prog 63 [nX (jq X q t i k)] (.one (.int .i64 (s2 i))))∧
   (∀i,i<r→i≠q→s2 i≠0→∀j,j<c→((j<k∨sT j=0)→Z i j=jq X q t i j)∧(k≤j→sT j≠0→Lb 97 (jq X q t i k) (T j) (Q i j)∧Lb 142 (jq X q t i j) (Q i j) (Z i j)))∧
   X'=fun i=>if i=q then T else if s2 i=0 then jq X q t i else Z i))
structure Cy (r c:Nat) (σ:Nat→Nat) (Y:Nat→Nb) (X:Nat→Nat→Nb):Prop where
 lt:∀i,i<r→σ i<r
 inj:∀i j,i<r→j<r→σ i=σ j→i=j
 eq:∀i j,i<r→j<c→Y (σ i*c+j)=X i j
theorem place {r c s j:Nat}(hs:s<r)(hj:j<c):s*c+j<r*c:=by
 have:=Nat.mul_le_mul_right c (show s+1≤r from hs)
 rw[Nat.add_mul,Nat.one_mul]at this;omega
theorem mH {r c s:Nat}(hs:s<r):s*c+c≤r*c:=by
 have:=Nat.mul_le_mul_right c (show s+1≤r from hs)
 rw[Nat.add_mul,Nat.one_mul]at this;omega
theorem apart {c s t:Nat}(h:s≠t):s*c+c≤t*c∨t*c+c≤s*c:=by
 rcases Nat.lt_or_gt_of_ne h with h|h
 ·exact .inl (mH h)
 exact .inr (mH h)
theorem zS (Z P:Nat→Nb)(a f p:Nat):gq Z P a f f p=P p:=if_neg (by omega)
theorem Cy.swap {r c:Nat}{σ:Nat→Nat}{Y:Nat→Nb}{X:Nat→Nat→Nb}(h:Cy r c σ Y X){q t:Nat}(hq:q<r)(ht:t<r):Cy r c (fun j=>if j=t then σ q else if j=q then σ t else σ j) Y (jq X q t):=by
 have key:∀i,i<r→∃i',i'<r∧(if i=t then σ q else if i=q then σ t else σ i)=σ i'∧jq X q t i=X i'∧i'=(if i=t then q else if i=q then t else i):=by
  intro i hi;unfold jq
  by_cases h1:i=t
  ·refine⟨q,hq,by rw[if_pos h1],?_,by rw[if_pos h1]⟩
   by_cases h2:i=q
   ·rw[if_pos h2,←h1,h2]
   rw[if_neg h2,if_pos h1]
  by_cases h2:i=q
  ·exact⟨t,ht,by rw[if_neg h1,if_pos h2],by rw[if_pos h2],by rw[if_neg h1,if_pos h2]⟩
  exact⟨i,hi,by rw[if_neg h1,if_neg h2],by rw[if_neg h2,if_neg h1],by rw[if_neg h1,if_neg h2]⟩
 refine⟨fun i hi=>?_,fun i j hi hj e=>?_,fun i j hi hj=>?_⟩
 ·obtain⟨i',h1,h2,_⟩:=key i hi
  show(if i=t then σ q else if i=q then σ t else σ i)<r
  rw[h2];exact h.lt i' h1
 ·obtain⟨i',h1,h2,_,h3⟩:=key i hi;obtain⟨j',h4,h5,_,h6⟩:=key j hj;have e':(if i=t then σ q else if i=q then σ t else σ i)=(if j=t then σ q else if j=q then σ t else σ j):=e;rw[h2,h5]at e'
  have:=h.inj i' j' h1 h4 e'
  rw[h3,h6]at this
  split at this<;>split at this<;>(try split at this)<;>(try split at this)<;>omega
 obtain⟨i',h1,h2,h3,_⟩:=key i hi;show Y ((if i=t then σ q else if i=q then σ t else σ i)*c+j)=jq X q t i j;rw[h2,h3];exact h.eq i' j h1 hj
theorem Cy.set {r c:Nat}{σ:Nat→Nat}{Y:Nat→Nb}{X:Nat→Nat→Nb}(h:Cy r c σ Y X){n k:Nat}(hn:n<r)(Z:Nat→Nb)(hz:∀j,j<k→j<c→Z j=X n j):Cy r c σ (gq Z Y (σ n*c) k c) (fun i=>if i=n then Z else X i):=by
 refine⟨h.lt,h.inj,fun i j hi hj=>?_⟩;show gq Z Y (σ n*c) k c (σ i*c+j)=(if i=n then Z else X i) j;unfold gq
 by_cases e:i=n
 ·subst e;rw[if_pos rfl]
  by_cases h1:k≤j
  ·rw[if_pos ⟨by omega,by omega⟩,Nat.add_sub_cancel_left]
  rw[if_neg (by omega),h.eq i j hi hj,hz j (by omega) hj]
 rw[if_neg e];have ap:=apart (c:=c) (fun e2=>e (h.inj i n hi hn e2):σ i≠σ n);rw[if_neg (by omega),h.eq i j hi hj]
theorem zF {Z P:Nat→Nb}{a f t:Nat}(ht:f≤t):∀p j,j<2→bt (fun p=>bu (gq Z P a f t p)) (a+t) 0 [tC (Z t).1.length (Z t).1,aa (Z t).2] p j=bu (gq Z P a f (t+1) p) j:=by
 intro p j hj;unfold bt gq
 by_cases h:p=a+t
 ·rw[if_pos h,if_pos (Nat.zero_le _),if_pos (by simpa using hj),if_pos (by omega),h,Nat.add_sub_cancel_left]
  match j,hj with
  |0,_=>rfl
  |1,_=>rfl
 rw[if_neg h]
 dsimp only
 by_cases h2:a+f≤p∧p<a+t
 ·rw[if_pos h2,if_pos (by omega)]
 rw[if_neg h2,if_neg (by omega)]
theorem vV {x:Nat→Nat→Nb}{T:Nat→Nb}{Z:Nat→Nat→Nb}{s2:Nat→Int}{q t n:Nat}(hn:n≠q)(h:s2 n≠0):fj x T Z s2 q t (n+1)=fun i=>if i=n then Z n else fj x T Z s2 q t n i:=by
 funext i
 by_cases e:i=n
 ·subst e;simp only[fj,if_neg hn,if_pos (Nat.lt_succ_self i),if_neg h,if_true]
 simp only[fj,if_neg e,show (i<n+1)=(i<n) by simp;omega]
theorem p7 {x:Nat→Nat→Nb}{T:Nat→Nb}{Z:Nat→Nat→Nb}{s2:Nat→Int}{q t n:Nat}(h:s2 n=0∨n=q):fj x T Z s2 q t (n+1)=fj x T Z s2 q t n:=by
 funext i
 by_cases e:i=n
 ·subst e
  rcases h with h|h
  ·by_cases e2:i=q
   ·simp only[fj,if_pos e2]
   simp only[fj,if_neg e2,if_pos (Nat.lt_succ_self i),if_pos h,if_neg (Nat.lt_irrefl i)]
  simp only[fj,if_pos h]
 simp only[fj,show (i<n+1)=(i<n) by simp;omega]
theorem OL {r c:Nat}(M:Nat→Nat→Nb)(P:Nat→Nb)(xs:Nat→Nat→Nat→Nb)(ds:Nat→Nb)(ps:Nat→List Nat)(ts:Nat→Nat)(hr:r<2^30)(hc:c<2^30)(hrc:r*c<2^30)(h0:r=0→c=0)(hj:dI prog 93 [.one (ak (r*c) fun p=>M (p/c) (p%c))] (.rows 52 2 (r*c) (fun p=>bu (P p))) (.int .i64 0))
  (hx0:∀i j,i<r→j<c→P (i*c+j)=xs 0 i j) (hd0:ds 0=rV 1) (p0:ps 0=[]) (hq:∀k,k≤c→(ps k).length≤r) (hs:∀k,k<c→P9 r c k (ps k).length (xs k) (xs (k+1)) (ds k) (ds (k+1)) (ts k)) (hp:∀k,k<c→ps (k+1)=if ts k<r then ps k++[k]else ps k):
  Pr prog 33 [.one (aq r (fun _=>c) M)] (.aA [.agg [aq r (fun _=>c) (xs c),.ints .i64 (jJ (ps c)),tC (ds c).1.length (ds c).1,aa (ds c).2],.one (.int .i64 0)]):=by
 have cj:=Jf M P hrc hr hj;have cl:=jn (r:=r) (fun _=>c) M (k:=c) (by split;exact h0 (by assumption);rfl) (by omega);have c1:=pf 1 (by decide);refine pw func33 ⟨[0,2,3,4,5,6,7,8,9,10,11,12,13,14,15,22,31,32,33,44,46,89,108,109,110,111,126,148],[(13,(.cons 17 [2,3,4,5,18] (.cons 19 [] .nil .nil) .nil)),(26,(.cons 8 [] .nil .nil)),(31,(.cons 0 [1] (.cons 2 [] (.cons 3 [] (.cons 4 [] (.cons 5 [] (.cons 6 [] .nil .nil) .nil) (.cons 5 [] (.cons 4 [] (.cons 6 [] .nil .nil) .nil) .nil)) (.cons 5 [] (.cons 3 [] (.cons 4 [] (.cons 6 [] .nil .nil) .nil) .nil) .nil)) (.cons 5 [1] (.cons 2 [] (.cons 3 [] (.cons 4 [] (.cons 6 [] .nil .nil) .nil) .nil) .nil) .nil)) (.cons 2 [] (.cons 0 [] (.cons 3 [] (.cons 4 [] (.cons 5 [] (.cons 6 [] .nil .nil) .nil) (.cons 5 [] (.cons 4 [] (.cons 6 [] .nil .nil) .nil) .nil)) (.cons 5 [] (.cons 3 [] (.cons 4 [] (.cons 6 [] .nil .nil) .nil) .nil) .nil)) (.cons 3 [] (.cons 0 [] (.cons 4 [] (.cons 5 [] (.cons 6 [] .nil .nil) .nil) (.cons 5 [] (.cons 4 [] (.cons 6 [] .nil .nil) .nil) .nil)) (.cons 4 [] (.cons 0 [] (.cons 5 [] (.cons 6 [] .nil .nil) .nil) .nil) .nil)) .nil)) .nil)))]⟩ ?_;simp only[Tryz.f33,ntmps33,iz,seval];simp only[vx,T,seval,aq,ak];refine cF.Hq cj ?_;simp only[vx,T,seval,aq,ak];refine Cg c1 ?_;simp only[vx,T,seval,aq,ak,nX,nV,tC,aa];refine Cg cl ?_;simp only[vx,T,seval,aq,ak];refine Lk (fun y:{y:Nat×(Nat→Nat)×(Nat→Nb)//y.1≤c∧Cy r c y.2.1 y.2.2 (xs y.1)}=>⟨[(2,.one (.ptr 1 0)),(3,.one (.int .i64 0)),(4,.one (.win 2 3 0 r)),(6,.one (.ptr 4 0)),(7,.one (.ptr 5 0)),(31,.one (.int .i64 c)),(32,.one (.int .i64 y.1.1))],
  [(1,⟨.var [.nil,.nil,.nil,.nil],true⟩),(2,⟨.wins 33 3 r (fun i=>.own 3 2 (y.1.2.1 i*c) c),true⟩),(3,⟨.rows 52 2 (r*c) (fun p=>bu (y.1.2.2 p)),true⟩),(4,⟨.var [.int .i64 0],false⟩),
   (5,⟨.var [.win 2 3 0 r,.own 6 1 0 (ps y.1.1).length,tC (ds y.1.1).1.length (ds y.1.1).1,aa (ds y.1.1).2],true⟩),(6,⟨.ints 3 .i64 (jJ (ps y.1.1)),true⟩)],7,155⟩) (fun y=>c-y.1.1) ⟨(0,fun i=>i,P),Nat.zero_le _,⟨fun _ h=>h,fun _ _ _ _ h=>h,hx0⟩⟩ ?_ (fun⟨⟨k,σ,Y⟩,hk,hY⟩=>?_)
 ·refine Sub.mk [(2,some 4),(3,some 5),(4,some 14),(5,some 19),(6,none)] ?_;simp only[ry,seval,X2,X3,X4,aq,ak,p0,jJ,hd0,rV,tC,aa,List.map_nil]
 simp only at hk hY;have wi:IntKind.i64.wrap ((k:Int)+1)=((k+1:Nat):Int):=by rw[IntWalk.i64_in _ (by omega)];omega
 simp only[vx,T,seval,aq,ak];refine⟨fun g=>Lg ?_,fun g=>Lg ?_⟩
 ·obtain⟨sg,s0,tq,tr,sz,hy⟩:=hs k (by omega);have hqk:=hq k (by omega);have hkc:k<c:=by omega
  -- the first row with a number
  have fi:∃z:Int,Pr prog 59 [.one (aq (r-(ps k).length) (fun _=>c) fun i j=>Y (σ ((ps k).length+i)*c+j)),.one (.fn 62 1 (fun _=>E6 (.int .i64 k)))] (.one (.int .i64 z))∧((ts k=r∧z= -1)∨(ts k<r∧z=(ts k-(ps k).length:Nat))):=by
   have hf:∀i,i<r-(ps k).length→Pr prog 62 [.one (ak c fun j=>Y (σ ((ps k).length+i)*c+j)),.one (E6 (.int .i64 k))] (.one (.bool (decide (sg ((ps k).length+i)≠0)))):=fun i hi=>by
    refine N6 (fun j=>Y (σ ((ps k).length+i)*c+j)) k hkc (by omega) ?_;rw[hY.eq _ k (by omega) hkc];exact s0 _ (by omega) (by omega)
   have mk:=fun(z:Int) hz=>LZ (r:=r-(ps k).length) (fun _=>c) (fun i j=>Y (σ ((ps k).length+i)*c+j)) 62 (fun i=>decide (sg ((ps k).length+i)≠0)) (by omega) hf (k:=z) hz
   rcases hy with⟨h,_⟩|⟨h,hn,_⟩
   ·exact⟨-1,mk (-1) (.inl ⟨rfl,fun i hi=>by simpa using sz ((ps k).length+i) (by omega) (by omega)⟩),.inl ⟨h,rfl⟩⟩
   refine⟨_,mk _ (.inr ⟨ts k-(ps k).length,rfl,by omega,?_,fun i hi=>by simpa using sz ((ps k).length+i) (by omega) (by omega)⟩),.inr ⟨h,rfl⟩⟩;rw[Nat.add_sub_cancel' tq]
   simpa using hn
  obtain⟨z,hz,hzt⟩:=fi;have er:((r:Int)-((ps k).length:Int)).toNat=r-(ps k).length:=by omega
  simp only[vx,T,seval,aq,ak,er];refine⟨by omega,Cg (hz.args ⟨.refl _,.cell (dr.Qh rfl),trivial⟩) ?_⟩;simp only[vx,T,seval,aq,ak];refine⟨fun g1=>Lg ?_,fun g1=>Lg ?_⟩
  ·have htr:ts k=r:=by omega
   obtain⟨hx,hd⟩:xs (k+1)=xs k∧ds (k+1)=ds k:=by
    rcases hy with⟨_,h⟩|⟨h,_⟩
    ·exact h
    omega
   have hp':=hp k hkc;rw[if_neg (by omega)]at hp';simp only[vx,T,seval,wi];refine Lq ⟨(k+1,σ,Y),by omega,by show Cy r c σ Y (xs (k+1));rw[hx];exact hY⟩ ?_ (by show c-(k+1)<c-k;omega);refine Sub.mk [(2,some 2)] ?_;simp only[ry,seval,X2,X3,X4,aq,ak,hx,hd,hp',tC,aa]
  obtain⟨ht,hzz⟩:ts k<r∧z=(ts k-(ps k).length:Nat):=by omega
  subst hzz;obtain⟨d1,T',Z,Q,s2,sT,hd1,hd2,hdm,hT,hT2,hsT,hs2,hZ,hx⟩:=(hy.resolve_left (by omega)).2.2;clear hy;have hp':=hp k hkc;rw[if_pos ht]at hp';have hY2:=hY.swap (show(ps k).length<r by omega) ht
  generalize hσ:(fun j=>if j=ts k then σ (ps k).length else if j=(ps k).length then σ (ts k)else σ j)=σ2 at hY2
  have hσ':∀i,σ2 i=if i=ts k then σ (ps k).length else if i=(ps k).length then σ (ts k)else σ i:=fun i=>by rw[←hσ]
  have wt:IntKind.i64.wrap (((ps k).length:Int)+((ts k-(ps k).length:Nat):Int))=(ts k:Int):=by rw[IntWalk.i64_in _ (by omega)];omega
  simp only[vx,T,seval,aq,ak];refine⟨fun g2=>Lg ?_,fun g2=>Lg ?_⟩
  ·have ne1:((ps k).length=ts k)=False:=eq_false (by omega);simp only[vx,T,seval,aq,ak,wt,tC,aa];refine⟨by omega,by omega,by omega,by omega,by omega,Cg (hd1 (by omega)) ?_⟩;simp only[vx,T,seval,nX,nV,aq,ak,tC,aa];have hYt:Y (σ (ts k)*c+k)=xs k (ts k) k:=by exact hY.eq (ts k) k ht hkc
   simp only[vx,T,seval,aq,ak,ne1,hYt,bu,tC,aa];refine⟨by omega,by omega,Cg (Hz hdm) ?_⟩;simp only[vx,T,seval,nX,nV,aq,ak,ne1,bu,tC,aa];have hp1:=mH (r:=r) (c:=c) (hY.lt (ts k) (by omega));refine Lk (fun y:{j:Nat//k≤j∧j≤c}=>⟨[(2,.one (.ptr 1 0)),(3,.one (.int .i64 0)),(4,.one (.win 2 3 0 r)),(6,.one (.ptr 4 0)),(7,.one (.ptr 5 0)),(8,.one (.ptr 7 0)),(9,.one (.int .i64 (ps k).length)),(11,.one (.ptr 8 0)),(12,.one (.int .i64 y.1)),(31,.one (.int .i64 c)),(32,.one (.int .i64 k))],
    [(1,⟨.var [.nil,.nil,.nil,.nil],true⟩),(2,⟨.wins 33 3 r (fun i=>.own 3 2 (σ2 i*c) c),true⟩),(3,⟨.rows 52 2 (r*c) (fun p=>bu (gq T' Y (σ2 (ps k).length*c) k y.1 p)),true⟩),(4,⟨.var [.int .i64 0],false⟩),
     (5,⟨.var [.win 2 3 0 r,.own 6 1 0 (ps k).length,tC (ds (k+1)).1.length (ds (k+1)).1,aa (ds (k+1)).2],true⟩),(6,⟨.ints 3 .i64 (jJ (ps k)),true⟩),(7,⟨.var [.int .i64 k],true⟩),(8,⟨.var [tC (xs k (ts k) k).1.length (xs k (ts k) k).1,aa (xs k (ts k) k).2],true⟩)],9,155⟩) (fun y=>c-y.1) ⟨k,Nat.le_refl _,hk⟩ ?_ (fun⟨j,hj,hjc⟩=>?_)
   ·refine Sa ?_;simp only[ry,seval,rz,aq,ak,tC,aa,zS];intro i hi;rw[hσ']
    by_cases h1:i=ts k
    ·rw[if_pos h1,if_pos h1];exact⟨rfl,rfl,rfl,rfl⟩
    by_cases h2:i=(ps k).length
    ·rw[if_neg h1,if_neg h1,if_pos h2,if_pos h2];exact⟨rfl,rfl,rfl,rfl⟩
    rw[if_neg h1,if_neg h1,if_neg h2,if_neg h2];exact⟨rfl,rfl,rfl,rfl⟩
   simp only;have wj:IntKind.i64.wrap ((j:Int)+1)=((j+1:Nat):Int):=by rw[IntWalk.i64_in _ (by omega)];omega
   simp only[vx,T,seval,aq,ak];refine⟨by omega,fun h=>Lg ?_,fun h=>Lg ?_⟩
   ·have e1:gq T' Y (σ2 (ps k).length*c) k j (σ2 (ps k).length*c+j)=xs k (ts k) j:=by
     rw[show gq T' Y (σ2 (ps k).length*c) k j (σ2 (ps k).length*c+j)=Y (σ2 (ps k).length*c+j)from if_neg (by omega),hY2.eq _ j (by omega) (by omega)];unfold jq;rw[if_pos rfl]
    have pl:=place (r:=r) (c:=c) (hY2.lt (ps k).length (by omega)) (show j<c by omega);simp only[vx,T,seval,aq,ak,e1,bu,tC,aa];refine⟨by omega,by omega,by omega,Cg (OR (hT j hj (by omega))) ?_⟩;simp only[vx,T,seval,nX,nV,aq,ak,bu,tC,aa,wj];refine⟨by omega,Lq ⟨j+1,by omega,by omega⟩ ?_ (by show c-(j+1)<c-j;omega)⟩;refine Sa ?_;simp only[ry,seval,rz,aq,ak,tC,aa];intro p j' _ hj';exact zF hj p j' hj'
   obtain rfl:c=j:=by omega
   have hY3:=hY2.set (show(ps k).length<r by omega) T' (k:=k) (fun j h1 h2=>by unfold jq;rw[if_pos rfl];exact hT2 j h1);have hY4:Cy r c σ2 (gq T' Y (σ2 (ps k).length*c) k c) (fj (xs k) T' Z s2 (ps k).length (ts k) 0):=hY3;clear hY3
   generalize gq T' Y (σ2 (ps k).length*c) k c=Y1 at hY4
   simp only[vx,T,seval,aq,ak];refine Lk (fun y:{y:Nat×(Nat→Nb)//y.1≤r∧Cy r c σ2 y.2 (fj (xs k) T' Z s2 (ps k).length (ts k) y.1)}=>⟨[(2,.one (.ptr 1 0)),(3,.one (.int .i64 0)),(4,.one (.win 2 3 0 r)),(6,.one (.ptr 4 0)),(7,.one (.ptr 5 0)),(8,.one (.ptr 7 0)),(9,.one (.int .i64 (ps k).length)),(31,.one (.int .i64 c)),(32,.one (.int .i64 k)),(108,.one (.win 2 3 0 r)),(109,.one (.int .i64 r)),(110,.one (.int .i64 y.1.1))],
    [(1,⟨.var [.nil,.nil,.nil,.nil],true⟩),(2,⟨.wins 33 3 r (fun i=>.own 3 2 (σ2 i*c) c),true⟩),(3,⟨.rows 52 2 (r*c) (fun p=>bu (y.1.2 p)),true⟩),(4,⟨.var [.int .i64 0],false⟩),
     (5,⟨.var [.win 2 3 0 r,.own 6 1 0 (ps k).length,tC (ds (k+1)).1.length (ds (k+1)).1,aa (ds (k+1)).2],true⟩),(6,⟨.ints 3 .i64 (jJ (ps k)),true⟩),(7,⟨.var [.int .i64 k],true⟩)],8,155⟩) (fun y=>r-y.1.1) ⟨(0,Y1),Nat.zero_le _,hY4⟩ ?_ (fun⟨⟨n,Y2⟩,hn,hYn⟩=>?_)
   ·refine Sa ?_;simp only[ry,seval,rz,aq,ak,tC,aa]
   simp only at hn hYn;have wn:IntKind.i64.wrap ((n:Int)+1)=((n+1:Nat):Int):=by rw[IntWalk.i64_in _ (by omega)];omega
   simp only[vx,T,seval,aq,ak];refine⟨fun h=>Lg ?_,fun h=>Lg ?_⟩
   ·have hnr:n<r:=by omega
    have e2:=hYn.eq n k hnr hkc;have pl2:=mH (r:=r) (c:=c) (hY2.lt n hnr);simp only[vx,T,seval,aq,ak,e2,bu,tC,aa];refine⟨by omega,by omega,?_⟩;refine⟨fun h2=>Lg ?_,fun h2=>Lg ?_⟩
    ·have hnq:n≠(ps k).length:=by omega
     have er:fj (xs k) T' Z s2 (ps k).length (ts k) n n=jq (xs k) (ps k).length (ts k) n:=by simp[fj,hnq]
     simp only[vx,T,seval,aq,ak,er,bu,tC,aa];refine Cg (hs2 n hnr hnq) ?_;simp only[vx,T,seval,aq,ak];refine⟨fun g4=>Lg ?_,fun g4=>Lg ?_⟩
     ·have g4':s2 n≠0:=by simpa using g4
      have hqr:(ps k).length<r:=by omega
      have pl3:=mH (r:=r) (c:=c) (hY2.lt (ps k).length hqr);have ap:=apart (c:=c) (s:=σ2 n) (t:=σ2 (ps k).length) (fun e=>hnq (hY2.inj n _ hnr hqr e));have eT:∀t,t<c→Y2 (σ2 (ps k).length*c+t)=T' t:=fun t ht=>by rw[hYn.eq _ t hqr ht];simp[fj]
      have eS:∀t,t<c→Y2 (σ2 n*c+t)=jq (xs k) (ps k).length (ts k) n t:=fun t ht=>by rw[hYn.eq n t hnr ht,er]
      have hsub:=fun(S:C) (wd io oo:Nat)=>u4 (S:=S) (wd:=wd) (io:=io) (oo:=oo) (N:=r*c) (a:=σ2 n*c) (b:=σ2 (ps k).length*c) (c:=c) (f:=k) Y2 (Z n) (Q n) (jq (xs k) (ps k).length (ts k) n k) sT pl2 pl3 ap (by omega) hk
       (fun t h1 h2=>by rw[eT t h2];exact hsT t h1 h2) (fun t h1 h2 e=>by rw[eS t h2];exact(hZ n hnr hnq g4' t h2).1 (.inr e)) (fun t h1 h2 e=>by
        obtain⟨m1,m2⟩:=(hZ n hnr hnq g4' t h2).2 h1 e;rw[eT t h2,eS t h2];exact⟨Hz m1,O5 m2⟩)
      simp only[vx,T,seval,aq,ak,bu,tC,aa];refine⟨by omega,Cm 3 rfl trivial (hsub _ _ _ _) ?_⟩;rintro r' B' rfl _;simp only[vx,T,seval,aq,ak,bu,tC,aa,wn];have hYm:=hYn.set hnr (Z n) (k:=k) (fun j h1 h2=>by rw[er];exact(hZ n hnr hnq g4' j h2).1 (.inl h1));rw[←vV hnq g4']at hYm;refine Lq ⟨(n+1,gq (Z n) Y2 (σ2 n*c) k c),by show n+1≤r;omega,hYm⟩ ?_ (by show r-(n+1)<r-n;omega);refine Sa ?_;simp only[ry,seval,rz,aq,ak,tC,aa]
     have g4':s2 n=0:=by simpa using g4
     simp only[vx,T,seval,aq,ak,wn];rw[←p7 (.inl g4')]at hYn;refine Lq ⟨(n+1,Y2),by show n+1≤r;omega,hYn⟩ ?_ (by show r-(n+1)<r-n;omega);refine Sa ?_;simp only[ry,seval,rz,aq,ak,tC,aa]
    have hnq:n=(ps k).length:=by omega
    simp only[vx,T,seval,aq,ak,wn];rw[←p7 (.inr hnq)]at hYn;refine Lq ⟨(n+1,Y2),by show n+1≤r;omega,hYn⟩ ?_ (by show r-(n+1)<r-n;omega);refine Sa ?_;simp only[ry,seval,rz,aq,ak,tC,aa]
   obtain rfl:r=n:=by omega
   have hYe:Cy r c σ2 Y2 (xs (k+1)):=⟨hYn.lt,hYn.inj,fun i j hi hj=>(hYn.eq i j hi hj).trans (by rw[hx];simp only[fj,if_pos hi])⟩;have et:(jJ (ps k)).take (ps k).length=jJ (ps k):=by rw[←dq,List.take_length]
   have ea:jJ (ps k)++[(k:Int)]=jJ (ps (k+1)):=by rw[hp'];simp[jJ]
   have el:(jJ (ps (k+1))).length=(ps (k+1)).length:=dq;have el':(jJ (ps k)).length=(ps k).length:=dq;simp only[vx,T,seval,aq,ak,et,ea,el,el',wi,tC,aa];refine⟨by omega,Lq ⟨(k+1,σ2,Y2),by show k+1≤c;omega,hYe⟩ ?_ (by show c-(k+1)<c-k;omega)⟩;refine Sub.mk [(6,some 13)] ?_;simp only[ry,seval,X2,X3,X4,aq,ak,tC,aa]
  have eqt:ts k=(ps k).length:=by omega
  obtain rfl:=hd2 eqt;simp only[vx,T,seval,aq,ak,wt,tC,aa];have hYt:Y (σ (ps k).length*c+k)=xs k (ts k) k:=by rw[←eqt];exact hY.eq (ts k) k ht hkc
  simp only[vx,T,seval,aq,ak,hYt,bu,tC,aa];refine⟨by omega,by omega,Cg (Hz hdm) ?_⟩;simp only[vx,T,seval,nX,nV,aq,ak,bu,tC,aa];have hp1:=mH (r:=r) (c:=c) (hY.lt (ps k).length (by omega));refine Lk (fun y:{j:Nat//k≤j∧j≤c}=>⟨[(2,.one (.ptr 1 0)),(3,.one (.int .i64 0)),(4,.one (.win 2 3 0 r)),(6,.one (.ptr 4 0)),(7,.one (.ptr 5 0)),(8,.one (.ptr 7 0)),(9,.one (.int .i64 (ps k).length)),(11,.one (.ptr 8 0)),(12,.one (.int .i64 y.1)),(31,.one (.int .i64 c)),(32,.one (.int .i64 k))],
   [(1,⟨.var [.nil,.nil,.nil,.nil],true⟩),(2,⟨.wins 33 3 r (fun i=>.own 3 2 (σ2 i*c) c),true⟩),(3,⟨.rows 52 2 (r*c) (fun p=>bu (gq T' Y (σ2 (ps k).length*c) k y.1 p)),true⟩),(4,⟨.var [.int .i64 0],false⟩),
    (5,⟨.var [.win 2 3 0 r,.own 6 1 0 (ps k).length,tC (ds (k+1)).1.length (ds (k+1)).1,aa (ds (k+1)).2],true⟩),(6,⟨.ints 3 .i64 (jJ (ps k)),true⟩),(7,⟨.var [.int .i64 k],true⟩),(8,⟨.var [tC (xs k (ts k) k).1.length (xs k (ts k) k).1,aa (xs k (ts k) k).2],true⟩)],9,155⟩) (fun y=>c-y.1) ⟨k,Nat.le_refl _,hk⟩ ?_ (fun⟨j,hj,hjc⟩=>?_)
  ·refine Sa ?_;simp only[ry,seval,rz,aq,ak,tC,aa,zS];intro i hi;rw[hσ',eqt]
   by_cases h1:i=(ps k).length
   ·rw[if_pos h1,h1]
   rw[if_neg h1,if_neg h1]
  simp only;have wj:IntKind.i64.wrap ((j:Int)+1)=((j+1:Nat):Int):=by rw[IntWalk.i64_in _ (by omega)];omega
  simp only[vx,T,seval,aq,ak];refine⟨by omega,fun h=>Lg ?_,fun h=>Lg ?_⟩
  ·have e1:gq T' Y (σ2 (ps k).length*c) k j (σ2 (ps k).length*c+j)=xs k (ts k) j:=by
    rw[show gq T' Y (σ2 (ps k).length*c) k j (σ2 (ps k).length*c+j)=Y (σ2 (ps k).length*c+j)from if_neg (by omega),hY2.eq _ j (by omega) (by omega)];unfold jq;rw[if_pos rfl]
   have pl:=place (r:=r) (c:=c) (hY2.lt (ps k).length (by omega)) (show j<c by omega);simp only[vx,T,seval,aq,ak,e1,bu,tC,aa];refine⟨by omega,by omega,by omega,Cg (OR (hT j hj (by omega))) ?_⟩;simp only[vx,T,seval,nX,nV,aq,ak,bu,tC,aa,wj];refine⟨by omega,Lq ⟨j+1,by omega,by omega⟩ ?_ (by show c-(j+1)<c-j;omega)⟩;refine Sa ?_;simp only[ry,seval,rz,aq,ak,tC,aa];intro p j' _ hj';exact zF hj p j' hj'
  obtain rfl:c=j:=by omega
  have hY3:=hY2.set (show(ps k).length<r by omega) T' (k:=k) (fun j h1 h2=>by unfold jq;rw[if_pos rfl];exact hT2 j h1);have hY4:Cy r c σ2 (gq T' Y (σ2 (ps k).length*c) k c) (fj (xs k) T' Z s2 (ps k).length (ts k) 0):=hY3;clear hY3
  generalize gq T' Y (σ2 (ps k).length*c) k c=Y1 at hY4
  simp only[vx,T,seval,aq,ak];refine Lk (fun y:{y:Nat×(Nat→Nb)//y.1≤r∧Cy r c σ2 y.2 (fj (xs k) T' Z s2 (ps k).length (ts k) y.1)}=>⟨[(2,.one (.ptr 1 0)),(3,.one (.int .i64 0)),(4,.one (.win 2 3 0 r)),(6,.one (.ptr 4 0)),(7,.one (.ptr 5 0)),(8,.one (.ptr 7 0)),(9,.one (.int .i64 (ps k).length)),(31,.one (.int .i64 c)),(32,.one (.int .i64 k)),(108,.one (.win 2 3 0 r)),(109,.one (.int .i64 r)),(110,.one (.int .i64 y.1.1))],
   [(1,⟨.var [.nil,.nil,.nil,.nil],true⟩),(2,⟨.wins 33 3 r (fun i=>.own 3 2 (σ2 i*c) c),true⟩),(3,⟨.rows 52 2 (r*c) (fun p=>bu (y.1.2 p)),true⟩),(4,⟨.var [.int .i64 0],false⟩),
    (5,⟨.var [.win 2 3 0 r,.own 6 1 0 (ps k).length,tC (ds (k+1)).1.length (ds (k+1)).1,aa (ds (k+1)).2],true⟩),(6,⟨.ints 3 .i64 (jJ (ps k)),true⟩),(7,⟨.var [.int .i64 k],true⟩)],8,155⟩) (fun y=>r-y.1.1) ⟨(0,Y1),Nat.zero_le _,hY4⟩ ?_ (fun⟨⟨n,Y2⟩,hn,hYn⟩=>?_)
  ·refine Sa ?_;simp only[ry,seval,rz,aq,ak,tC,aa]
  simp only at hn hYn;have wn:IntKind.i64.wrap ((n:Int)+1)=((n+1:Nat):Int):=by rw[IntWalk.i64_in _ (by omega)];omega
  simp only[vx,T,seval,aq,ak];refine⟨fun h=>Lg ?_,fun h=>Lg ?_⟩
  ·have hnr:n<r:=by omega
   have e2:=hYn.eq n k hnr hkc;have pl2:=mH (r:=r) (c:=c) (hY2.lt n hnr);simp only[vx,T,seval,aq,ak,e2,bu,tC,aa];refine⟨by omega,by omega,?_⟩;refine⟨fun h2=>Lg ?_,fun h2=>Lg ?_⟩
   ·have hnq:n≠(ps k).length:=by omega
    have er:fj (xs k) T' Z s2 (ps k).length (ts k) n n=jq (xs k) (ps k).length (ts k) n:=by simp[fj,hnq]
    simp only[vx,T,seval,aq,ak,er,bu,tC,aa];refine Cg (hs2 n hnr hnq) ?_;simp only[vx,T,seval,aq,ak];refine⟨fun g4=>Lg ?_,fun g4=>Lg ?_⟩
    ·have g4':s2 n≠0:=by simpa using g4
     have hqr:(ps k).length<r:=by omega
     have pl3:=mH (r:=r) (c:=c) (hY2.lt (ps k).length hqr);have ap:=apart (c:=c) (s:=σ2 n) (t:=σ2 (ps k).length) (fun e=>hnq (hY2.inj n _ hnr hqr e));have eT:∀t,t<c→Y2 (σ2 (ps k).length*c+t)=T' t:=fun t ht=>by rw[hYn.eq _ t hqr ht];simp[fj]
     have eS:∀t,t<c→Y2 (σ2 n*c+t)=jq (xs k) (ps k).length (ts k) n t:=fun t ht=>by rw[hYn.eq n t hnr ht,er]
     have hsub:=fun(S:C) (wd io oo:Nat)=>u4 (S:=S) (wd:=wd) (io:=io) (oo:=oo) (N:=r*c) (a:=σ2 n*c) (b:=σ2 (ps k).length*c) (c:=c) (f:=k) Y2 (Z n) (Q n) (jq (xs k) (ps k).length (ts k) n k) sT pl2 pl3 ap (by omega) hk
      (fun t h1 h2=>by rw[eT t h2];exact hsT t h1 h2) (fun t h1 h2 e=>by rw[eS t h2];exact(hZ n hnr hnq g4' t h2).1 (.inr e)) (fun t h1 h2 e=>by
       obtain⟨m1,m2⟩:=(hZ n hnr hnq g4' t h2).2 h1 e;rw[eT t h2,eS t h2];exact⟨Hz m1,O5 m2⟩)
     simp only[vx,T,seval,aq,ak,bu,tC,aa];refine⟨by omega,Cm 3 rfl trivial (hsub _ _ _ _) ?_⟩;rintro r' B' rfl _;simp only[vx,T,seval,aq,ak,bu,tC,aa,wn];have hYm:=hYn.set hnr (Z n) (k:=k) (fun j h1 h2=>by rw[er];exact(hZ n hnr hnq g4' j h2).1 (.inl h1));rw[←vV hnq g4']at hYm;refine Lq ⟨(n+1,gq (Z n) Y2 (σ2 n*c) k c),by show n+1≤r;omega,hYm⟩ ?_ (by show r-(n+1)<r-n;omega);refine Sa ?_;simp only[ry,seval,rz,aq,ak,tC,aa]
    have g4':s2 n=0:=by simpa using g4
    simp only[vx,T,seval,aq,ak,wn];rw[←p7 (.inl g4')]at hYn;refine Lq ⟨(n+1,Y2),by show n+1≤r;omega,hYn⟩ ?_ (by show r-(n+1)<r-n;omega);refine Sa ?_;simp only[ry,seval,rz,aq,ak,tC,aa]
   have hnq:n=(ps k).length:=by omega
   simp only[vx,T,seval,aq,ak,wn];rw[←p7 (.inr hnq)]at hYn;refine Lq ⟨(n+1,Y2),by show n+1≤r;omega,hYn⟩ ?_ (by show r-(n+1)<r-n;omega);refine Sa ?_;simp only[ry,seval,rz,aq,ak,tC,aa]
  obtain rfl:r=n:=by omega
  have hYe:Cy r c σ2 Y2 (xs (k+1)):=⟨hYn.lt,hYn.inj,fun i j hi hj=>(hYn.eq i j hi hj).trans (by rw[hx];simp only[fj,if_pos hi])⟩;have et:(jJ (ps k)).take (ps k).length=jJ (ps k):=by rw[←dq,List.take_length]
  have ea:jJ (ps k)++[(k:Int)]=jJ (ps (k+1)):=by rw[hp'];simp[jJ]
  have el:(jJ (ps (k+1))).length=(ps (k+1)).length:=dq;have el':(jJ (ps k)).length=(ps k).length:=dq;simp only[vx,T,seval,aq,ak,et,ea,el,el',wi,tC,aa];refine⟨by omega,Lq ⟨(k+1,σ2,Y2),by show k+1≤c;omega,hYe⟩ ?_ (by show c-(k+1)<c-k;omega)⟩;refine Sub.mk [(6,some 13)] ?_;simp only[ry,seval,X2,X3,X4,aq,ak,tC,aa]
 obtain rfl:c=k:=by omega
 have et:(jJ (ps c)).take (ps c).length=jJ (ps c):=by rw[←dq,List.take_length]
 simp only[vx,T,seval,aq,ak,tC,aa,et,z7,Gt];exact fP.aA ⟨Ah (dr.rows rfl fun i j hi _=>dr.rows rfl fun i' j' hi' _=>dr.of_eq (by rw[hY.eq i i' hi hi'])) (.refl _) (.refl _) (.refl _),.refl _,trivial⟩
open Go Go.Eng
open Go.Tw (El ax TG gT jK)
open Go.Mx (sm iv iX red mO ni oa iR)
section
variable {A:List R}(S:Go.Tw.Src 64 A)(hA:A.length≤3)
include S hA
theorem PY {t:List El}{e:El}(T:TG A t)(he:e.length=2^t.length)(hv:Go.Tw.val t.length t e=R.q 1):gT jK t.length t e:=by
 obtain⟨z,w,d,E,_,_⟩:=T.ev S hA;have hx:Go.Tw.Ht t.length z w (Go.Tw.val t.length t e) 0:=by rw[hv];exact Go.Tw.Ht.rat (by decide) (by decide)
 exact(gT.of E he hx).mono (Go.Tw.xI _ (T.j6 S hA)).2
theorem MU {z:List El×El}{β μ:Nat}(nz:ax A z.1 z.2 (R.q 1) β μ):Pr prog 63 [nX z] (.one (.int .i64 (R.bJ (R.q 1)))):=by
 have W:=(vZ S hA nz.tg (Nat.le_refl _)).rq.mono (show jK≤2^30 by decide);have g:=ki (by decide) (Nat.le_refl _) W nz.len ((PY S hA nz.tg nz.len nz.val).mono (show jK≤2^30 by decide));rw[Go.Tw.b6 nz.tg.rd.rl nz.len,nz.val]at g;exact yn _ _ g
theorem DX {r c k W:Nat}(X:Nat→Nat→Nu A)(d:Nu A)(p:List Nat)(hk:k<c)(hq:p.length≤r)(hw:∀i j,i<r→j<c→(X i j).w≤W)(hd:d.w≤W)(hW:p.length<r→W≤150∨(W≤256∧k+1=c))
  (hlow:∀i j,p.length≤i→i<r→j<k→(X i j).v=R.q 0):
  ∃(X':Nat→Nat→Nu A) (d':Nu A),P9 r c k p.length (fun i j=>(X i j).x) (fun i j=>(X' i j).x) d.x d'.x (ni (vM X) k (r-p.length) p.length)∧iX r c (vM X') (mO r k (vM X,p)).1∧
   (∀i j,i<r→j<c→(X' i j).w≤W*4^((mO r k (vM X,p)).2.length-p.length))∧d'.w≤W*4^((mO r k (vM X,p)).2.length-p.length):=by
 obtain⟨h1,h2,h3,h4⟩:=Go.Mx.mc (vM X) k (r-p.length) p.length;have b3:wC=300:=rfl;have b8:wB=800:=rfl;have b2:wA=2000:=rfl;have hsg:∀i,p.length≤i→i<r→Pr prog 63 [nX (X i k).x] (.one (.int .i64 (R.bJ (X i k).v))):=fun i hi hir=>mK S hA (by
  have:=hw i k hir hk
  have:=hW (by omega)
  omega)
 by_cases ht:ni (vM X) k (r-p.length) p.length<r
 ·have hs:mO r k (vM X,p)=(iR (oa (vM X) p.length (ni (vM X) k (r-p.length) p.length)) p.length k,p++[k]):=by
   unfold mO;exact if_pos ht
  rw[hs]
  generalize ni (vM X) k (r-p.length) p.length=t at h1 h2 h3 h4 ht
  have hne:=h4 (by omega);have hW':=hW (by omega);have hwt:=fun j (hj:j<c)=>hw t j ht hj;have hnk:(X t k).v≠R.q 0:=hne;have hlt:=fun j (hj:j<k)=>hlow t j h1 ht hj;obtain⟨d1,v1,w1,n1⟩:∃d1:Nu A,d1.w=d.w∧(p.length<t→Pr prog 38 [nX d.x] (nX d1.x))∧(t=p.length→d1.x=d.x):=by
   by_cases e:t=p.length
   ·exact⟨d,rfl,fun h=>absurd h (by omega),fun _=>rfl⟩
   obtain⟨c,_,c2,c3⟩:=Dm S hA (a:=d) (by omega);exact⟨c,c2,fun _=>c3,fun h=>absurd h e⟩
  obtain⟨d',_,wd,nd⟩:=ss S hA (a:=d1) (b:=X t k) (by omega) (by have:=hwt k hk;omega);obtain⟨T',hT'⟩:=P0 (n:=c) (p:=fun j c=>c.v=(X t j).v*iv (X t k).v∧c.w≤2*W∧Lb 99 (X t j).x (X t k).x c.x) (X 0 0) fun j hj=>by
   have e1:=hwt j hj;have e2:=hwt k hk;obtain⟨c,c1,c2,c3⟩:=LB S hA (a:=X t j) (b:=X t k) (by omega) (by omega) hnk;exact⟨c,c1,by omega,c3⟩
  obtain⟨T,hTd⟩:∃T:Nat→Nu A,∀j,T j=if j<k then X t j else T' j:=⟨_,fun _=>rfl⟩
  have hTl:∀j,j<k→T j=X t j:=fun j hj=>by rw[hTd,if_pos hj]
  have hTr:∀j,k≤j→T j=T' j:=fun j hj=>by rw[hTd,if_neg (by omega)]
  have hTv:∀j,j<c→(T j).v=(X t j).v*iv (X t k).v:=fun j hj=>by
   by_cases e:j<k
   ·rw[hTl j e,hlt j e,R.zero_mul]
   rw[hTr j (by omega)];exact(hT' j hj).1
  have hTw:∀j,j<c→(T j).w≤2*W:=fun j hj=>by
   by_cases e:j<k
   ·rw[hTl j e];have:=hwt j hj;omega
   rw[hTr j (by omega)];exact(hT' j hj).2.1
  have hsT:∀j,k≤j→j<c→Pr prog 63 [nX (T j).x] (.one (.int .i64 (R.bJ (T j).v))):=fun j h5 h6=>by
   have e3:=hTw j h6
   rcases hW' with h|⟨h,hc1⟩
   ·exact mK S hA (by omega)
   obtain rfl:j=k:=by omega
   have e4:=hTv j h6;rw[Go.Mx.oS hnk]at e4
   have:=(T j).ok
   rw[e4]at this⊢;exact MU S hA this
  have hsw:∀i j,i<r→j<c→(ju X p.length t i j).w≤W:=fun i j hi hj=>My (by omega) ht hw hi hj;obtain⟨Q,hQ⟩:=Px (r:=r) (c:=c) (p:=fun i j c=>c.v=(ju X p.length t i k).v*(T j).v∧c.w≤3*W∧Lb 97 (ju X p.length t i k).x (T j).x c.x) (X 0 0) fun i j hi hj=>by
   have e1:=hTw j hj;have e2:=hsw i k hi hk;obtain⟨c,c1,c2,c3⟩:=ss S hA (a:=ju X p.length t i k) (b:=T j) (by omega) (by omega);exact⟨c,c1,by omega,c3⟩
  obtain⟨Z',hZ'⟩:=Px (r:=r) (c:=c) (p:=fun i j c=>c.v=(ju X p.length t i j).v-(ju X p.length t i k).v*(T j).v∧c.w≤W*4∧Lb 142 (ju X p.length t i j).x (Q i j).x c.x) (X 0 0) fun i j hi hj=>by
   obtain⟨q1,q2,_⟩:=hQ i j hi hj;have e2:=hsw i j hi hj;obtain⟨c,c1,c2,c3⟩:=Kr S hA (a:=ju X p.length t i j) (b:=Q i j) (by omega) (by omega);exact⟨c,by rw[c1,q1],by omega,c3⟩
  obtain⟨Z,hZd⟩:∃Z:Nat→Nat→Nu A,∀i j,Z i j=if j<k∨R.bJ (T j).v=0 then ju X p.length t i j else Z' i j:=⟨_,fun _ _=>rfl⟩
  have hZv:∀i j,i<r→j<c→(Z i j).v=(ju X p.length t i j).v-(T j).v*(ju X p.length t i k).v:=fun i j hi hj=>by
   rw[hZd]
   split
   ·rename_i e
    have:(T j).v=R.q 0:=by
     rcases e with e|e
     ·rw[hTl j e,hlt j e]
     exact R.m9.1 e
    rw[this,R.zero_mul,R.sub_zero]
   rw[(hZ' i j hi hj).1,R.mul_comm]
  refine⟨fun i=>if i=p.length then T else if R.bJ (ju X p.length t i k).v=0 then ju X p.length t i else Z i,d',⟨fun i=>R.bJ (X i k).v,hsg,h1,Nat.le_of_lt ht,fun i a b=>R.m9.2 (h3 i a b),.inr ⟨ht,fun e=>hnk (R.m9.1 e),d1.x,fun j=>(T j).x,fun i j=>(Z i j).x,fun i j=>(Q i j).x,fun i=>R.bJ (ju X p.length t i k).v,fun j=>R.bJ (T j).v,
   w1,n1,nd,fun j h5 h6=>?_,fun j h5=>?_,hsT,fun i hi hne=>?_,fun i hi hne _ j hj=>⟨fun e=>?_,fun h5 h6=>⟨?_,?_⟩⟩,?_⟩⟩,fun i j hi hj=>?_,fun i j hi hj=>?_,?_⟩
  ·show Lb _ _ _ (T j).x;rw[hTr j h5];exact(hT' j h6).2.2
  ·show(T j).x=(X t j).x
   rw[hTl j h5]
  ·have:=mK S hA (a:=ju X p.length t i k) (by have:=hsw i k hi hk;omega)
   rw[sR]at this;exact this
  ·show(Z i j).x=_
   rw[hZd,if_pos e,sR]
  ·have:=(hQ i j hi hj).2.2
   rw[sR]at this;exact this
  ·have:=(hZ' i j hi hj).2.2
   rw[sR]at this;show Lb _ _ _ (Z i j).x;rw[hZd,if_neg (fun e=>e.elim (by omega) h6)];exact this
  ·funext i j
   dsimp only
   by_cases e1:i=p.length
   ·rw[if_pos e1,if_pos e1]
   rw[if_neg e1,if_neg e1]
   by_cases e2:R.bJ (ju X p.length t i k).v=0
   ·rw[if_pos e2,if_pos e2,sR]
   rw[if_neg e2,if_neg e2]
  ·show Nu.v _=iR (oa (vM X) p.length t) p.length k i j;unfold iR;have e0:oa (vM X) p.length t p.length=vM X t:=by unfold oa;rw[if_pos rfl]
   rw[e0,←Fw,←Fw];have tj:=hTv j hj
   dsimp only
   by_cases e1:i=p.length
   ·rw[if_pos e1,if_pos e1,tj];rfl
   rw[if_neg e1,if_neg e1]
   by_cases e2:R.bJ (ju X p.length t i k).v=0
   ·rw[if_pos e2,R.m9.1 e2,R.mul_zero,R.sub_zero]
   rw[if_neg e2,hZv i j hi hj,tj];rfl
  ·rw[X6,List.length_singleton,Nat.add_sub_cancel_left,Nat.pow_one]
   dsimp only
   split
   ·have:=hTw j hj;omega
   split
   ·have:=hsw i j hi hj;omega
   rw[hZd]
   split
   ·have:=hsw i j hi hj;omega
   exact(hZ' i j hi hj).2.1
  rw[X6,List.length_singleton,Nat.add_sub_cancel_left,Nat.pow_one]
  have:=hwt k hk
  omega
 have hs:mO r k (vM X,p)=(vM X,p):=by
  unfold mO;exact if_neg ht
 rw[hs];refine⟨X,d,⟨fun i=>R.bJ (X i k).v,hsg,h1,by omega,fun i a b=>R.m9.2 (h3 i a b),.inl ⟨by omega,rfl,rfl⟩⟩,fun i j _ _=>rfl,fun i j hi hj=>?_,?_⟩
 ·rw[Nat.sub_self,Nat.pow_zero,Nat.mul_one];exact hw i j hi hj
 rw[Nat.sub_self,Nat.pow_zero,Nat.mul_one];exact hd
theorem oK {r c:Nat}(M:Nat→Nat→Nu A)(hr:r<2^30)(hc:c<2^30)(hrc:r*c<2^30)(h0:r=0→c=0)(hw:∀i j,i<r→j<c→(M i j).w≤1)(h5:r≤4∨c≤5):
  ∃(X:Nat→Nat→Nu A) (d:Nu A),iX r c (vM X) (red r (vM M) c).1∧(∀i j,i<r→j<c→(X i j).w≤4^(red r (vM M) c).2.length)∧
   Pr prog 33 [.one (bm r (fun _=>c) M)] (.aA [.agg [bm r (fun _=>c) X,.ints .i64 (jJ (red r (vM M) c).2),tC d.x.1.length d.x.1,aa d.x.2],.one (.int .i64 0)]):=by
 have dm:∀i j,j<c→(i*c+j)/c=i∧(i*c+j)%c=j:=fun i j hj=>by
  have hc0:0<c:=by omega
  rw[Nat.mul_comm i c,Nat.mul_add_div hc0,Nat.mul_add_mod,Nat.div_eq_of_lt hj,Nat.mod_eq_of_lt hj];exact⟨rfl,rfl⟩
 have dv:∀p,p<r*c→p/c<r∧p%c<c:=fun p hp=>by
  have hc0:0<c:=by
   rcases Nat.eq_zero_or_pos c with h|h
   ·subst h;omega
   exact h
  exact⟨Nat.div_lt_of_lt_mul (by rw[Nat.mul_comm];exact hp),Nat.mod_lt _ hc0⟩
 obtain⟨o,ho,hJ⟩:=OW S hA (n:=r*c) hrc (fun p=>M (p/c) (p%c)) fun p hp=>by
  obtain⟨e1,e2⟩:=dv p hp
  have:=hw _ _ e1 e2
  have b8:wB=800:=rfl;omega
 have ho':∀i j,i<r→j<c→(o (i*c+j)).v=(M i j).v∧(o (i*c+j)).w=(M i j).w:=fun i j hi hj=>by
  have:=ho (i*c+j) (place hi hj)
  rw[(dm i j hj).1,(dm i j hj).2]at this;exact this
 obtain⟨X,e0,hI,hS⟩:=Go.Tw.chain (α:=(Nat→Nat→Nu A)×Nu A) (I:=fun k X=>k≤c→iX r c (vM X.1) (red r (vM M) k).1∧(∀i j,i<r→j<c→(X.1 i j).w≤4^(red r (vM M) k).2.length)∧X.2.w≤4^(red r (vM M) k).2.length)
  (St:=fun k X Y=>k<c→P9 r c k (red r (vM M) k).2.length (fun i j=>(X.1 i j).x) (fun i j=>(Y.1 i j).x) X.2.x Y.2.x (ni (red r (vM M) k).1 k (r-(red r (vM M) k).2.length) (red r (vM M) k).2.length)) (x0:=(fun i j=>o (i*c+j),Nu.int A 1))
  (fun _=>⟨fun i j hi hj=>(ho' i j hi hj).1,fun i j hi hj=>by show(o _).w≤1;rw[(ho' i j hi hj).2];exact hw i j hi hj,Nat.le_refl _⟩) (n:=c) (fun k X hk hX=>by
   obtain⟨a1,a2,a3⟩:=hX (Nat.le_of_lt hk);have E:=Go.Mx.fH r (vM M) k;have hle:=GF r (vM M) k;obtain⟨X',d',s1,s2,s3,s4⟩:=DX S hA (W:=4^(red r (vM M) k).2.length) X.1 X.2 (red r (vM M) k).2 hk E.len a2 a3 (fun h=>by
     have hq:(red r (vM M) k).2.length≤3∨((red r (vM M) k).2.length=4∧k+1=c):=by omega
     rcases hq with h|⟨h,h'⟩
     ·exact .inl (Nat.le_trans (Nat.pow_le_pow_right (by decide) h) (by decide))
     exact .inr ⟨by rw[h];decide,h'⟩) (fun i j h1 h2 h3=>(a1 i j h2 (by omega)).trans (E.low i j h1 h2 h3))
   obtain⟨t1,t2⟩:=Go.Mx.CP (s:=(vM X.1,(red r (vM M) k).2)) (t:=red r (vM M) k) a1 rfl hk E.len;have ef:=Go.Mx.xu a1 hk (r-(red r (vM M) k).2.length) (red r (vM M) k).2.length (by have:=E.len;omega);rw[ef]at s1;have hpw:4^(red r (vM M) k).2.length*4^((mO r k (vM X.1,(red r (vM M) k).2)).2.length-(red r (vM M) k).2.length)≤4^(red r (vM M) (k+1)).2.length:=by
    rw[t2,←Nat.pow_add];refine Nat.pow_le_pow_right (by decide) ?_;show _≤(mO r k (red r (vM M) k)).2.length
    have:(red r (vM M) k).2.length≤(mO r k (red r (vM M) k)).2.length:=by
     unfold mO
     split
     ·rw[X6];omega
     omega
    omega
   exact⟨(X',d'),fun _=>s1,fun _=>⟨fun i j hi hj=>(s2 i j hi hj).trans (t1 i j hi hj),fun i j hi hj=>Nat.le_trans (s3 i j hi hj) hpw,Nat.le_trans s4 hpw⟩⟩)
 obtain⟨b1,b2,_⟩:=hI c (Nat.le_refl _) (Nat.le_refl _);refine⟨(X c).1,(X c).2,b1,b2,?_⟩;exact OL (r:=r) (c:=c) (fun i j=>(M i j).x) (fun p=>(o p).x) (fun k i j=>((X k).1 i j).x) (fun k=>(X k).2.x) (fun k=>(red r (vM M) k).2) (fun k=>ni (red r (vM M) k).1 k (r-(red r (vM M) k).2.length) (red r (vM M) k).2.length) hr hc hrc h0 hJ
  (fun i j hi hj=>by rw[e0]) (by rw[e0];rfl) rfl (fun k _=>(Go.Mx.fH r (vM M) k).len) (fun k hk=>hS k hk hk) (fun k _=>MV r (vM M) k)
end
open Go Go.Eng
open Go.Tw (El)
theorem ID (a:Nat)(h:a<4294967296):eW .and .u64 (a:Int) 4294967295=(a:Int):=by
 show IntKind.u64.wrap ((BitVec.ofInt 64 (a:Int)&&&BitVec.ofInt 64 4294967295).toNat:Int)=(a:Int);rw[BitVec.toNat_and];have e1:(BitVec.ofInt 64 (a:Int)).toNat=a:=by
  rw[BitVec.ofInt_natCast,BitVec.toNat_ofNat];exact Nat.mod_eq_of_lt (by omega)
 have e2:(BitVec.ofInt 64 4294967295).toNat=2^32-1:=by decide
 rw[e1,e2,Nat.and_two_pow_sub_one_eq_mod,Nat.mod_eq_of_lt h];exact IntWalk.u64_in _ (by omega)
theorem M0 (y:Nat)(hy:y<2147483648):Pr prog 144 [.one (.int .u64 1),.one (.int .u64 y)] (.aA [.one (.int .u64 0),.one (.int .u64 y)]):=by
 have h1:eW .and .u64 1 4294967295=1:=ID 1 (by decide);have h2:=ID y (by omega);have h3:eW .and .u64 0 4294967295=0:=ID 0 (by decide);have z0:IntKind.u64.wrap 0=0:=rfl;have z1:∀x:Int,IntKind.u64.wrap (0*x)=0:=fun x=>by rw[Int.zero_mul];rfl
 have d0:(y:Int).fdiv 4294967296=0:=by rw[Int.fdiv_eq_ediv_of_nonneg _ (by decide)];omega
 have w1:IntKind.u64.wrap (1*(y:Int))=y:=by rw[IntWalk.u64_in _ (by omega)];omega
 refine pw func144 ⟨[0,1,4,5,6,7,8,9,10,11,12,13],[]⟩ ?_;simp only[Tryz.f144,ntmps144,iz,seval];simp only[vx,T,seval,h1,h2,h3,d0,w1,z0,z1,Int.mul_zero,Int.add_zero];exact fP.refl _
theorem PV (y:Nat)(hy:y<2147483648):Pr prog 102 [.one (.int .u64 1),.one (.int .u64 y)] (.aA [.one (.int .u64 0),.one (.int .u64 y)]):=by
 have h:=M0 y hy;refine pw func102 ⟨[0,1,4,5,6,7,8,9],[]⟩ ?_;simp only[Tryz.f102,ntmps102,iz,seval];simp only[vx,T,seval];refine Cg h ?_;simp only[vx,T,seval];exact Ve rfl
open Go Go.Eng
open Go.Tw (El)
def Dl (x:Nb)(z:Nat→C)(k:Nat)(i j:Nat):C:=if i<k then bu x j else z j
theorem Je (x:Nb)(n:Nat)(hn:n<2147483648):Fr prog 68 [.one (ak 1 fun _=>x),.one (.int .i64 n)] (.rows 52 2 n (fun _=>bu x)):=by
 have h:=PV n hn;refine fw func68 ⟨[0,1,4,5,6,7,8,10,26,37],[(9,(.cons 7 [0] (.cons 8 [] (.cons 9 [] .nil .nil) .nil) .nil))]⟩ ?_;simp only[Tryz.f68,ntmps68,iz,seval];simp only[vx,T,seval,ak];have u1:IntKind.u64.wrap 1=1:=rfl;have un:IntKind.u64.wrap (n:Int)=n:=IntWalk.u64_in _ (by omega);have vn:IntKind.i64.wrap (n:Int)=n:=IntWalk.i64_in _ (by omega);refine⟨fun h=>absurd h (by omega),fun _=>Lg ?_⟩;simp only[vx,T,seval,ak,u1,un];refine Cg h ?_;simp only[vx,T,seval,ak,u1,un,vn];refine⟨fun h=>absurd h (by omega),fun _=>Lg ?_⟩;simp only[vx,T,seval,ak,vn];refine⟨by omega,?_⟩
 refine Lk (fun y:{k:Nat//k≤n∧(0<n→0<k)}=>⟨[(0,.one (ak 1 fun _=>x)),(1,.one (.int .i64 n)),(4,.one .nil),(7,.one (.own 1 2 0 n)),(8,.one (.int .i64 y.1))],[(1,⟨.rows 52 2 n (Dl x (fun j=>[C.nil,C.nil].getD j .any) y.1),true⟩)],3,48⟩) (fun y=>n-y.1) ⟨if 1<n then 1 else n,by split<;>omega,fun h=>by split<;>omega⟩ ?_ (fun⟨k,hk,h0⟩=>?_)
 ·refine Sa ?_;simp only[ry,seval,rz,ak];intro i j hi hj;simp only[y8,Dl]
  rcases(by omega:n=0∨n=1∨1<n)with h|h|h
  ·omega
  ·subst h;simp[show i=0 by omega]
  simp[h]
 simp only;simp only[vx,T,seval,ak];refine⟨fun g=>Lg ?_,fun g=>Lg ?_⟩
 ·have g':k<n:=by omega
  simp only[vx,T,seval,ak];refine⟨by omega,by omega,?_⟩
  generalize hm:(if k<((n:Int)-k).toNat then k else((n:Int)-k).toNat)=m
  have m0:0<m∧k+m≤n∧m≤k:=by split at hm<;>omega
  have wm:IntKind.i64.wrap ((k:Int)+m)=((k+m:Nat):Int):=by rw[IntWalk.i64_in _ (by omega)];omega
  refine Lq ⟨k+m,by omega,by omega⟩ ?_ (by show n-(k+m)<n-k;omega);refine Sa ?_;simp only[ry,seval,rz,ak,wm];intro i j hi hj;simp only[y8,Dl]
  repeat' split
  all_goals first|rfl|omega
 have g':k=n:=by omega
 simp only[vx,T,seval,ak];refine⟨rfl,rfl,fun i j hi hj=>?_⟩;simp only[Dl,g',if_pos hi]
open Go Go.Eng
open Go.Tw (El)
open Go.Mx (mU free)
theorem Fr.O0 {P:Program}{f:FuncId}{xs ys:List V}{B:Bk}(h:Fr P f ys B)(ha:uP xs ys):Fr P f xs B:=
 ⟨h.1,h.2.1,fun ok w vs hok hvs=>h.2.2 ok w vs hok (ha.rep hvs)⟩
theorem H5 (n:Nat)(hn:n<2147483648):Fr prog 35 [.one (.int .i64 n)] (.rows 52 2 n (fun _=>bu (rV 0))):=by
 have c0:=pf 0 (by decide);have h:=Fr.O0 (Je (rV 0) n hn) (xs:=[.one (.rows 2 1 (A1 (rV 0))),.one (.int .i64 n)]) ⟨.cell (CG (rV 0) (Nat.le_refl 1)),.refl _,trivial⟩;refine fw func35 ⟨[0,2],[]⟩ ?_;simp only[Tryz.f35,ntmps35,iz,seval];simp only[vx,T,seval];refine Cg c0 ?_;simp only[vx,T,seval,nX,nV,tC,aa];refine cF.fresh h ?_;simp only[vx,T,seval];exact⟨rfl,rfl,fun _ _ _ _=>rfl⟩
theorem L9 (n k:Nat)(hn:n<2147483648)(hk:k<n):Fr prog 37 [.one (.int .i64 n),.one (.int .i64 k)] (.rows 52 2 n (fun j=>bu (oO k j))):=by
 have c1:=pf 1 (by decide);have h:=H5 n hn;refine fw func37 ⟨[0,1,4,5],[]⟩ ?_;simp only[Tryz.f37,ntmps37,iz,seval];simp only[vx,T,seval];refine cF.fresh h ?_;simp only[vx,T,seval];refine Cg c1 ?_;simp only[vx,T,seval,nX,nV,tC,aa];refine⟨by omega,?_⟩;refine⟨rfl,rfl,fun i j hi hj=>?_⟩;show bt _ _ _ _ i j=bu (oO k i) j;unfold bt oO
 by_cases e:i=k
 ·rw[if_pos e,if_pos (Nat.zero_le _),if_pos (by simpa using hj),if_pos (by omega)]
  match j,hj with
  |0,_=>rfl
  |1,_=>rfl
 rw[if_neg e,if_neg (by omega)]
theorem KW {r c:Nat}(x N G:Nat→Nat→Nb)(p:List Nat)(D1 D2:C)(hr:r<2^30)(hc:c<2^30)(h0:r=0→c=0)(hp:p.length≤r)(hlt:∀i,i<p.length→p.getD i 0<c)
  (hE:Pr prog 33 [.one (aq r (fun _=>c) x)] (.aA [.agg [aq r (fun _=>c) N,.ints .i64 (jJ p),D1,D2],.one (.int .i64 0)]))
  (hG:∀k i,k<c→i<p.length→Pr prog 38 [nX (N i k)] (nX (G i k))) (s1:∃n f,D1= .rows 1 n f) (s2:∃n f,D2= .rows 4 n f):
  Pr prog 12 [.one (aq r (fun _=>c) x)] (.aA [.one (aq (fl p c).length (fun _=>c) fun i=>LW p G (fun k=>oO k) p.length ((fl p c).getD i 0)),.one (.int .i64 0)]):=by
 obtain⟨n1,f1,rfl⟩:=s1;obtain⟨n2,f2,rfl⟩:=s2;have cl:=jn (fun _=>c) x (k:=c) (by split;exact h0 (by assumption);rfl) (by omega:r<2^38);have cv:=jx (r:=r) (fun _=>c) x (by omega) (b:=true) (by simp);refine pw func12 ⟨[0,2,3,4,5,6,7,8,9,10,13,20,23,24,25,30,36,37,38,39],[]⟩ ?_;simp only[Tryz.f12,ntmps12,iz,seval];simp only[vx,T,seval,aq,ak];refine Cg cv ?_;simp only[vx,T,seval,aq,ak];refine Cg hE ?_;simp only[vx,T,seval,aq,ak];refine Cg cl ?_;simp only[vx,T,seval,aq,ak];refine Lk (fun y:{k:Nat//k≤c}=>⟨[(0,.one (aq r (fun _=>c) x)),(2,.one .nil),(3,.one (.int .i64 0)),(4,.one (.ptr 1 0)),(6,.one (.own 2 1 0 (fl p y.1).length)),(23,.one (.int .i64 c)),(24,.one (.int .i64 y.1))],
  [(1,⟨.var [aq r (fun _=>c) N,.ints .i64 (jJ p),.rows 1 n1 f1,.rows 4 n2 f2],true⟩),(2,⟨.rows 33 1 (fl p y.1).length (fun i _=>ak c (LW p G (fun k=>oO k) p.length ((fl p y.1).getD i 0))),true⟩)],3,62⟩) (fun y=>c-y.1) ⟨0,Nat.zero_le _⟩ ?_ (fun⟨k,hk⟩=>?_)
 ·refine Sa ?_;simp only[ry,seval,rz,aq,ak,fl,List.length_nil,Nat.not_lt_zero]
 simp only;have wi:IntKind.i64.wrap ((k:Int)+1)=((k+1:Nat):Int):=by rw[IntWalk.i64_in _ (by omega)];omega
 simp only[vx,T,seval,aq,ak];refine⟨fun g=>Lg ?_,fun g=>Lg ?_⟩
 ·have hkc:k<c:=by omega
  by_cases hm:k∈p
  ·have e:fl p (k+1)=fl p k:=if_pos hm;have cp:=vR (jJ p) k (by rw[dq];omega) (b:=true) (by rw[DK];simp[hm]);simp only[vx,T,seval,aq,ak];refine Cg cp ?_;simp only[vx,T,seval,aq,ak,wi];refine Lq ⟨k+1,by omega⟩ ?_ (by show c-(k+1)<c-k;omega);refine Sa ?_;simp only[ry,seval,rz,aq,ak,e]
  have e:fl p (k+1)=fl p k++[k]:=if_neg hm;have cp:=vR (jJ p) k (by rw[dq];omega) (b:=false) (by rw[DK];simp[hm]);have cu:=L9 c k (by omega) hkc;simp only[vx,T,seval,aq,ak];refine Cg cp ?_;simp only[vx,T,seval,aq,ak];refine Cg cl ?_;simp only[vx,T,seval,aq,ak];refine cF.fresh cu ?_;simp only[vx,T,seval,aq,ak,dq];refine Lk (fun y:{n:Nat//n≤p.length}=>⟨[(0,.one (aq r (fun _=>c) x)),(2,.one .nil),(3,.one (.int .i64 0)),(4,.one (.ptr 1 0)),(6,.one (.own 2 1 0 (fl p k).length)),(7,.one (.int .i64 k)),(8,.one (.own 3 2 0 c)),(23,.one (.int .i64 c)),(24,.one (.int .i64 k)),(36,.one (.ints .i64 (jJ p))),(37,.one (.int .i64 p.length)),(38,.one (.int .i64 y.1))],
   [(1,⟨.var [aq r (fun _=>c) N,.ints .i64 (jJ p),.rows 1 n1 f1,.rows 4 n2 f2],true⟩),(2,⟨.rows 33 1 (fl p k).length (fun i _=>ak c (LW p G (fun k=>oO k) p.length ((fl p k).getD i 0))),true⟩),(3,⟨.rows 52 2 c (fun j=>bu (LW p G (fun k=>oO k) y.1 k j)),true⟩)],4,62⟩) (fun y=>p.length-y.1) ⟨0,Nat.zero_le _⟩ ?_ (fun⟨n,hn⟩=>?_)
  ·refine Sa ?_;simp only[ry,seval,rz,aq,ak,LW,mU]
  simp only;have wn:IntKind.i64.wrap ((n:Int)+1)=((n+1:Nat):Int):=by rw[IntWalk.i64_in _ (by omega)];omega
  simp only[vx,T,seval,aq,ak,dq];refine⟨fun g3=>Lg ?_,fun g3=>Lg ?_⟩
  ·have hnl:n<p.length:=by omega
   have hG':=hG k n hkc hnl;have hlt':=hlt n hnl;simp only[vx,T,seval,aq,ak,bu,tC,aa,ph,dq];refine⟨by omega,by omega,by omega,Cg hG' ?_⟩;simp only[vx,T,seval,nX,nV,bu,tC,aa,ph,dq,wn];refine⟨by omega,Lq ⟨n+1,by omega⟩ ?_ (by show p.length-(n+1)<p.length-n;omega)⟩;refine Sa ?_;simp only[ry,seval,rz,aq,ak,tC,aa];intro i j hi hj;exact GD p (fun i=>G i k) (oO k) n i j hj
  obtain rfl:n=p.length:=by omega
  simp only[vx,T,seval,aq,ak,wi];have hl:=L8 p k;have el:(fl p (k+1)).length=(fl p k).length+1:=by rw[e];simp
  refine⟨⟨by omega,by omega⟩,Lq ⟨k+1,by omega⟩ ?_ (by show c-(k+1)<c-k;omega)⟩;refine Sa ?_;simp only[ry,seval,rz,aq,ak,el];intro i j hi hj;rw[e]
  by_cases h:i<(fl p k).length
  ·rw[if_pos h,X7,X7,List.getElem?_append_left h]
  obtain rfl:i=(fl p k).length:=by omega
  obtain rfl:j=0:=by omega
  rw[if_neg h,X7 (l:=fl p k++[k]),List.getElem?_append_right (Nat.le_refl _),Nat.sub_self];rfl
 obtain rfl:k=c:=by omega
 simp only[vx,T,seval,aq,ak];exact fP.refl _
open Go Go.Eng
open Go.Tw (El)
open Go.Mx (mU free)
theorem K8 {r c d:Nat}(x:Nat→Nat→Nb)(b:Nat→Nb)(hr:r<2^30)(hc:c<2^30)(hd:d≤1)(hd1:r≠0→d=1):Pr prog 34 [.one (aq r (fun _=>c) x),.one (.rows 1 r fun i _=>.rows 2 d (A1 (b i)))] (.one (aq r (fun _=>c+d) (Eg c x b))):=by
 refine pw func34 ⟨[0,1,4,5,6,11,12,13],[]⟩ ?_;simp only[Tryz.f34,ntmps34,iz,seval];simp only[vx,T,seval,aq,ak];refine⟨by omega,?_⟩;refine Lk (fun y:{k:Nat//k≤r}=>⟨[(0,.one (aq r (fun _=>c) x)),(1,.one (.rows 1 r fun i _=>.rows 2 d (A1 (b i)))),(4,.one .nil),(5,.one (.own 1 1 0 r)),(11,.one (.int .i64 r)),(12,.one (.int .i64 y.1))],
  [(1,⟨.rows 33 1 r (fun i _=>if i<y.1 then ak (c+d) (Eg c x b i)else .nil),true⟩)],2,30⟩) (fun y=>r-y.1) ⟨0,Nat.zero_le _⟩ ?_ (fun⟨k,hk⟩=>?_)
 ·refine Sa ?_;simp only[ry,seval,rz,aq,ak,Nat.not_lt_zero];intro i j hi hj;obtain rfl:j=0:=by omega
  rfl
 simp only;have wi:IntKind.i64.wrap ((k:Int)+1)=((k+1:Nat):Int):=by rw[IntWalk.i64_in _ (by omega)];omega
 simp only[vx,T,seval,aq,ak];refine⟨fun g=>Lg ?_,fun g=>Lg ?_⟩
 ·have hkr:k<r:=by omega
  obtain rfl:=hd1 (by omega);have cc:=yU (n:=c) (m:=1) (x k) (fun _=>b k) (by omega);have cc':=cc.args (xs:=[.one (.rows 1 2 (fun i j=>[ak c (x k),.rows 2 1 (A1 (b k))].getD (i*1+j) .any))]) ⟨.cell (dr.rows rfl fun i j hi hj=>by
   obtain rfl:j=0:=by omega
   match i,hi with
   |0,_=>exact .refl _
   |1,_=>exact CG (b k) (Nat.le_refl 1)),trivial⟩
  simp only[vx,T,seval,aq,ak];refine⟨by omega,by omega,Cg cc' ?_⟩;simp only[vx,T,seval,aq,ak,wi];refine⟨by omega,Lq ⟨k+1,by omega⟩ ?_ (by show r-(k+1)<r-k;omega)⟩;refine Sa ?_;simp only[ry,seval,rz,aq,ak];intro i j hi hj;obtain rfl:j=0:=by omega
  by_cases e:i=k
  ·subst e;rw[if_pos (Nat.lt_succ_self i)]
   simp[bt]
   rfl
  by_cases h:i<k
  ·rw[if_pos (show i<k+1 by omega)]
   simp[bt,e,h]
  rw[if_neg (show¬i<k+1 by omega)]
  simp[bt,e,h]
 obtain rfl:k=r:=by omega
 simp only[vx,T,seval,aq,ak];refine fP.cell (dr.rows rfl fun i j hi hj=>.of_eq ?_);rw[if_pos hi]
theorem Fq {r c d:Nat}(x N:Nat→Nat→Nb)(b:Nat→Nb)(p:List Nat)(D1 D2:C)(hr:r<2^30)(hc:c<2^30)(h0:r=0→c=0)(hd:d=if r=0 then 0 else 1)(hp:p.length≤r)(hlt:∀i,i<p.length→p.getD i 0<c+d)
  (hE:Pr prog 33 [.one (aq r (fun _=>c+d) (Eg c x b))] (.aA [.agg [aq r (fun _=>c+d) N,.ints .i64 (jJ p),D1,D2],.one (.int .i64 0)]))
  (s1:∃n f,D1= .rows 1 n f) (s2:∃n f,D2= .rows 4 n f) (R:V) (h1:c∈p→R= .aA [.one .nil,.one (.int .i64 13)])
  (h2:c∉p→R= .aA [.one (ak c (mU p (fun i=>N i c) (fun _=>rV 0) p.length)),.one (.int .i64 0)]):
  Pr prog 11 [.one (aq r (fun _=>c) x),.one (ak r b)] R:=by
 obtain⟨n1,f1,rfl⟩:=s1;obtain⟨n2,f2,rfl⟩:=s2;have hd1:r≠0→d=1:=fun h=>by rw[hd,if_neg h]
 have hdl:d≤1:=by rw[hd];split<;>omega
 have cl:=jn (fun _=>c) x (k:=c) (by split;exact h0 (by assumption);rfl) (by omega:r<2^38);have cv:=jx (r:=r) (fun _=>c) x (by omega) (b:=true) (by simp);have cb:=(K8 (r:=r) (c:=c) (d:=d) x b hr hc hdl hd1).rO (.refl _) (x':=.rows 1 r fun i _=>if i<r then .rows 2 1 (A1 (b i))else .nil) (dr.rows rfl fun i j hi hj=>by
  rw[if_pos hi,hd1 (by omega)];exact .refl _)
 have cz:=H5 c (by omega);refine pw func11 ⟨[0,1,4,5,6,7,8,9,10,11,12,13,14,24,28,29,30,31,51,56,57,58,59,65],[]⟩ ?_;simp only[Tryz.f11,ntmps11,iz,seval];simp only[vx,T,seval,aq,ak];refine Cg cv ?_;simp only[vx,T,seval,aq,ak];refine⟨by omega,?_⟩;refine Lk (fun y:{k:Nat//k≤r}=>⟨[(0,.one (aq r (fun _=>c) x)),(4,.one .nil),(5,.one (.int .i64 0)),(6,.one (.own 1 1 0 r)),(28,.one (ak r b)),(29,.one (.int .i64 r)),(30,.one (.int .i64 y.1))],
  [(1,⟨.rows 33 1 r (fun i _=>if i<y.1 then .rows 2 1 (A1 (b i))else .nil),true⟩)],2,79⟩) (fun y=>r-y.1) ⟨0,Nat.zero_le _⟩ ?_ (fun⟨k,hk⟩=>?_)
 ·refine Sa ?_;simp only[ry,seval,rz,aq,ak,Nat.not_lt_zero];intro i j hi hj;obtain rfl:j=0:=by omega
  rfl
 simp only;have wi:IntKind.i64.wrap ((k:Int)+1)=((k+1:Nat):Int):=by rw[IntWalk.i64_in _ (by omega)];omega
 simp only[vx,T,seval,aq,ak];refine⟨fun g=>Lg ?_,fun g=>Lg ?_⟩
 ·have hkr:k<r:=by omega
  simp only[vx,T,seval,aq,ak,bu,tC,aa,wi,uN,dB,dY,List.contains,List.elem];refine⟨by omega,by omega,Lq ⟨k+1,by omega⟩ ?_ (by show r-(k+1)<r-k;omega)⟩;refine Sa ?_;simp only[ry,seval,rz,aq,ak,tC,aa];intro i j hi hj;obtain rfl:j=0:=by omega
  by_cases e:i=k
  ·subst e;rw[if_pos (show i<i+1 by omega)]
   simp[bt]
   rfl
  by_cases h:i<k
  ·rw[if_pos (show i<k+1 by omega)]
   simp[bt,e,h]
  rw[if_neg (show¬i<k+1 by omega)]
  simp[bt,e,h]
 obtain rfl:k=r:=by omega
 simp only[vx,T,seval,aq,ak];refine Cg cl ?_;simp only[vx,T,seval,aq,ak];refine Cg cb ?_;simp only[vx,T,seval,aq,ak];refine Cg hE ?_;simp only[vx,T,seval,aq,ak];refine cF.fresh cz ?_;simp only[vx,T,seval,aq,ak,dq];refine Lk (fun y:{n:Nat//n≤p.length∧∀j,j<n→p.getD j 0≠c}=>⟨[(4,.one .nil),(5,.one (.int .i64 0)),(9,.one (.int .i64 c)),(10,.one (.ptr 1 0)),(12,.one (.own 2 2 0 c)),(56,.one (.ints .i64 (jJ p))),(57,.one (.int .i64 p.length)),(58,.one (.int .i64 y.1))],
  [(1,⟨.var [aq k (fun _=>c+d) N,.ints .i64 (jJ p),.rows 1 n1 f1,.rows 4 n2 f2],true⟩),(2,⟨.rows 52 2 c (fun j=>bu (mU p (fun i=>N i c) (fun _=>rV 0) y.1 j)),true⟩)],3,79⟩) (fun y=>p.length-y.1) ⟨0,Nat.zero_le _,fun j hj=>absurd hj (Nat.not_lt_zero _)⟩ ?_ (fun⟨n,hn,hne⟩=>?_)
 ·refine Sa ?_;simp only[ry,seval,rz,aq,ak,mU]
 simp only;have wn:IntKind.i64.wrap ((n:Int)+1)=((n+1:Nat):Int):=by rw[IntWalk.i64_in _ (by omega)];omega
 simp only[vx,T,seval,aq,ak,dq];refine⟨fun g3=>Lg ?_,fun g3=>Lg ?_⟩
 ·have hnl:n<p.length:=by omega
  have hlt':=hlt n hnl;obtain rfl:d=1:=hd1 (by omega);simp only[vx,T,seval,aq,ak,ph,dq];refine⟨by omega,?_⟩;refine⟨fun g4=>Lg ?_,fun g4=>Lg ?_⟩
  ·have e:=h1 (Go.Mx.so.2 ⟨n,hnl,by omega⟩);simp only[vx,T,seval];exact Ve e.symm
  simp only[vx,T,seval,aq,ak,bu,tC,aa,ph,dq,wn];refine⟨by omega,by omega,by omega,Lq ⟨n+1,by omega,fun j hj=>?_⟩ ?_ (by show p.length-(n+1)<p.length-n;omega)⟩
  ·by_cases e:j=n
   ·rw[e];omega
   exact hne j (by omega)
  refine Sa ?_;simp only[ry,seval,rz,aq,ak,tC,aa];intro i j hi hj;exact GD p (fun i=>N i c) (fun _=>rV 0) n i j hj
 obtain rfl:n=p.length:=by omega
 have e:=h2 (fun h=>by
  obtain⟨i,h3,h4⟩:=Go.Mx.so.1 h;exact hne i h3 h4.symm)
 simp only[vx,T,seval,aq,ak];rw[e];exact fP.refl _
open Go Go.Eng
open Go.Tw (El)
theorem Dp {r c:Nat}(x N:Nat→Nat→Nb)(p:List Nat)(D1 D2:C)(hr:r<2^30)
  (hE:Pr prog 33 [.one (aq r (fun _=>c) x)] (.aA [.agg [aq r (fun _=>c) N,.ints .i64 (jJ p),D1,D2],.one (.int .i64 0)])) (s1:∃n f,D1= .rows 1 n f) (s2:∃n f,D2= .rows 4 n f):
  Pr prog 10 [.one (aq r (fun _=>c) x)] (.aA [.one (aq r (fun _=>c) N),.one (.ints .i64 (jJ p)),.one (.int .i64 0)]):=by
 obtain⟨n1,f1,rfl⟩:=s1;obtain⟨n2,f2,rfl⟩:=s2;have cv:=jx (r:=r) (fun _=>c) x (by omega) (b:=true) (by simp);refine pw func10 ⟨[0,2,3,4,5,6,9],[(4,.nil)]⟩ ?_;simp only[Tryz.f10,ntmps10,iz,seval];simp only[vx,T,seval,aq,ak];refine Cg cv ?_;simp only[vx,T,seval,aq,ak];refine Cg hE ?_;simp only[vx,T,seval,aq,ak];exact fP.refl _
theorem N8 (a b:List Int)(ha:a.length<2^38){q:Bool}(hq:q=true↔a=b):Pr prog 24 [.one (.ints .i64 a),.one (.ints .i64 b)] (.one (.bool q)):=by
 refine pw func24 ⟨[0,1,4,5,10,12,13,14,24],[]⟩ ?_;simp only[Tryz.f24,ntmps24,iz,seval];simp only[vx,T,seval];refine⟨fun g=>Lg ?_,fun g=>Lg ?_⟩
 ·have e:q=false:=by
   cases q with
   |false=>rfl
   |true=>exact absurd (congrArg List.length (hq.1 rfl)) (by omega)
  subst e;simp only[vx,T,seval];exact Ve rfl
 have hl:a.length=b.length:=by omega
 simp only[vx,T,seval];refine Lk (fun y:{i:Nat//i≤a.length∧∀j,j<i→a.getD j 0=b.getD j 0}=>⟨[(0,.one (.ints .i64 a)),(1,.one (.ints .i64 b)),(4,.one (.bool false)),(12,.one (.int .i64 a.length)),(13,.one (.int .i64 y.1))],[],1,26⟩) (fun y=>a.length-y.1) ⟨0,Nat.zero_le _,fun j hj=>absurd hj (Nat.not_lt_zero _)⟩ ?_ (fun⟨i,hi,hb⟩=>?_)
 ·refine Sa ?_;simp only[ry,seval,rz]
 simp only;have wi:IntKind.i64.wrap ((i:Int)+1)=((i+1:Nat):Int):=by rw[IntWalk.i64_in _ (by omega)];omega
 simp only[vx,T,seval];refine⟨fun g1=>Lg ?_,fun g1=>Lg ?_⟩
 ·simp only[vx,T,seval];refine⟨by omega,by omega,?_⟩;refine⟨fun g2=>Lg ?_,fun g2=>Lg ?_⟩
  ·have e:q=false:=by
    cases q with
    |false=>rfl
    |true=>exact absurd (by rw[hq.1 rfl]) g2
   subst e;simp only[vx,T,seval];exact Ve rfl
  simp only[vx,T,seval,wi];refine Lq ⟨i+1,by omega,fun j hj=>?_⟩ ?_ (by show a.length-(i+1)<a.length-i;omega)
  ·by_cases e:j=i
   ·rw[e];exact g2
   exact hb j (by omega)
  refine Sa ?_;simp only[ry,seval,rz]
 have e:q=true:=hq.2 (List.ext_getElem hl fun j h1 h2=>by
  have:=hb j (by omega)
  rw[X7,X7,X8 h1,X8 h2]at this;exact this)
 subst e;simp only[vx,T,seval];exact Ve rfl
open Go Go.Eng
open Go.Tw (El)
theorem uo {r c:Nat}(x:Nat→Nat→Nb)(hr:r<2^30)(hc:c<2^30)(h0:r=0→c=0):Pr prog 16 [.one (aq r (fun _=>c) x)] (.one (aq c (fun _=>r) fun i j=>x j i)):=by
 have cl:=jn (fun _=>c) x (k:=c) (by split;exact h0 (by assumption);rfl) (by omega:r<2^38);have cv:=jx (r:=r) (fun _=>c) x (by omega) (b:=true) (by simp);refine pw func16 ⟨[0,2,3,4,6,9,14,15,16,18,19,20,21],[(10,(.cons 11 [0,1,12] (.cons 13 [] .nil .nil) .nil))]⟩ ?_;simp only[Tryz.f16,ntmps16,iz,seval];simp only[vx,T,seval,aq,ak];refine Cg cv ?_;simp only[vx,T,seval,aq,ak];refine Cg cl ?_;simp only[vx,T,seval,aq,ak];refine⟨by omega,?_⟩;refine Lk (fun y:{k:Nat//k≤c}=>⟨[(0,.one (aq r (fun _=>c) x)),(2,.one .nil),(3,.one (.win 1 2 0 c)),(14,.one (.int .i64 c)),(15,.one (.int .i64 y.1))],
  [(1,⟨.wins 33 2 c (fun i=>if i<y.1 then ak r (fun a=>x a i)else .nil),true⟩)],3,40⟩) (fun y=>c-y.1) ⟨0,Nat.zero_le _⟩ ?_ (fun⟨k,hk⟩=>?_)
 ·refine Sa ?_;simp only[ry,seval,rz,aq,ak,Nat.not_lt_zero]
 simp only;have wi:IntKind.i64.wrap ((k:Int)+1)=((k+1:Nat):Int):=by rw[IntWalk.i64_in _ (by omega)];omega
 simp only[vx,T,seval,aq,ak];refine⟨fun g=>Lg ?_,fun g=>Lg ?_⟩
 ·have hkc:k<c:=by omega
  simp only[vx,T,seval,aq,ak];refine Lk (fun y:{n:Nat//n≤r}=>⟨[(0,.one (aq r (fun _=>c) x)),(2,.one .nil),(3,.one (.win 1 2 0 c)),(4,.one (.int .i64 k)),(14,.one (.int .i64 c)),(15,.one (.int .i64 k)),(18,.one (aq r (fun _=>c) x)),(19,.one (.int .i64 r)),(20,.one (.int .i64 y.1))],
   [(1,⟨.wins 33 2 c (fun i=>if i<k then ak r (fun a=>x a i)else if i=k then .own 2 2 0 y.1 else .nil),true⟩),(2,⟨.rows 52 2 y.1 (fun a=>bu (x a k)),true⟩)],3,40⟩) (fun y=>r-y.1) ⟨0,Nat.zero_le _⟩ ?_ (fun⟨n,hn⟩=>?_)
  ·refine Sub.mk [(2,none)] ?_;simp only[ry,seval,X2,X3,X4,aq,ak];intro i hi
   by_cases h:i<k
   ·simp only[if_pos h];exact⟨trivial,trivial,fun _ _ _ _=>trivial⟩
   by_cases h2:i=k
   ·simp only[if_neg h,if_pos h2];decide
   simp only[if_neg h,if_neg h2]
  simp only;have wn:IntKind.i64.wrap ((n:Int)+1)=((n+1:Nat):Int):=by rw[IntWalk.i64_in _ (by omega)];omega
  simp only[vx,T,seval,aq,ak];refine⟨fun g1=>Lg ?_,fun g1=>Lg ?_⟩
  ·have hnr:n<r:=by omega
   simp only[vx,T,seval,aq,ak,bu,tC,aa,wn,Nat.lt_irrefl];refine⟨by omega,by omega,by omega,by omega,⟨by omega,by omega⟩,by omega,Lq ⟨n+1,by omega⟩ ?_ (by show r-(n+1)<r-n;omega)⟩;refine Sub.mk [(2,some 21)] ?_;simp only[ry,seval,X2,X3,X4,aq,ak,tC,aa];refine⟨fun i hi=>?_,vF (fun a=>x a k) n⟩
   by_cases h2:i=k
   ·subst h2;simp only[if_neg (Nat.lt_irrefl i),if_true];decide
   by_cases h:i<k
   ·simp only[if_pos h,if_neg h2];exact⟨trivial,trivial,fun _ _ _ _=>trivial⟩
   simp only[if_neg h,if_neg h2]
  obtain rfl:r=n:=by omega
  simp only[vx,T,seval,aq,ak,wi];refine Lq ⟨k+1,by omega⟩ ?_ (by show c-(k+1)<c-k;omega);refine Sub.trans (Sub.r7 1 2 rfl rfl (by decide)) ?_;simp only[dB,dY];refine Sa ?_;simp only[ry,seval,rz,aq,ak];intro i hi
  by_cases h2:i=k
  ·subst h2;simp only[if_neg (Nat.lt_irrefl i),if_true,if_pos (show i<i+1 by omega),Nat.zero_add];exact⟨trivial,trivial,fun _ _ _ _=>trivial⟩
  by_cases h:i<k
  ·simp only[if_pos h,if_pos (show i<k+1 by omega)];exact⟨trivial,trivial,fun _ _ _ _=>trivial⟩
  simp only[if_neg h,if_neg h2,if_neg (show¬i<k+1 by omega)]
 obtain rfl:c=k:=by omega
 simp only[vx,T,seval,aq,ak];refine fP.cell (dr.rows rfl fun i j hi hj=>.of_eq ?_);simp only[if_pos hi]
theorem Mk {r c:Nat}(x N:Nat→Nat→Nb)(p:List Nat)(D1 D2:C)(hr:r<2^30)(hc:c<2^30)(h0:r=0→c=0)
  (hE:Pr prog 33 [.one (aq c (fun _=>r) fun i j=>x j i)] (.aA [.agg [aq c (fun _=>r) N,.ints .i64 (jJ p),D1,D2],.one (.int .i64 0)])) (s1:∃n f,D1= .rows 1 n f) (s2:∃n f,D2= .rows 4 n f):
  Pr prog 13 [.one (aq r (fun _=>c) x)] (.aA [.one (.ints .i64 (jJ p)),.one (.int .i64 0)]):=by
 obtain⟨n1,f1,rfl⟩:=s1;obtain⟨n2,f2,rfl⟩:=s2;have cv:=jx (r:=r) (fun _=>c) x (by omega) (b:=true) (by simp);have ct:=uo x hr hc h0;refine pw func13 ⟨[0,2,3,4,5,8],[]⟩ ?_;simp only[Tryz.f13,ntmps13,iz,seval];simp only[vx,T,seval,aq,ak];refine Cg cv ?_;simp only[vx,T,seval,aq,ak];refine Cg ct ?_;simp only[vx,T,seval,aq,ak];refine Cg hE ?_;simp only[vx,T,seval,aq,ak];exact fP.refl _
end Go.Proofs.YtgcmkdgpaibpeaaGreat
