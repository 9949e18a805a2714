/-
  MatrixImage: for every input the law returns true, and each argument reads afterwards as it read before. No condition beyond the cells of the given rows.
  (Text 9 of 9; made by a program out of smaller texts.)
-/
import Derived.Deep.Slices
import Derived.ChangeArms
import Derived.ChangeSame
import Derived.Below
import Derived.OpenShut
import Derived.ProofKit
import Derived.Test.YthnkehdgnagmnaaGreatRows
import Derived.Test.YthnkehdgnagmnaaGreatP8
set_option linter.unusedSimpArgs false
set_option linter.unusedVariables false
set_option maxHeartbeats 16000000
set_option maxRecDepth 10000
open Nat renaming reduceAdd→J1,reduceMul→J2,reduceSub→J3,reduceEqDiff→J4,reduceLT→J5,reduceLeDiff→J6,reduceBEq→J7,reduceDiv→J8,reduceMod→J9,reducePow→J0
open Int renaming reduceToNat→K1,reduceLE→K2,reduceLT→K3,reduceEq→K4,reducePow→K5,reduceSub→K6,reduceNeg→K7,natCast_add→X2,natCast_one→X3,natCast_zero→X4
open List renaming getD_cons_zero→X0,getD_cons_succ→X1,length_take→X5,length_append→X6,getD_eq_getElem?_getD→X7,getElem?_eq_getElem→X8
namespace Go.Proofs.YthnkehdgnagmnaaGreat
open Go.Proofs.Tryz
open Go Go.Eng
open Go.Tw (El ax TG gT jL)
open Go.Mx (sm iv gp red gB jM gy fx Wv MW)
section
variable {A:List R}(S:Go.Tw.Src 64 A)(hA:A.length≤3)
include S hA
theorem QA {t:List El}{e:El}(T:TG A t)(he:e.length=2^t.length)(hv:Go.Tw.val t.length t e=R.q 1):gT jL t.length t e:=by
 obtain⟨z,w,d,E,_,_⟩:=T.ev S hA;have hx:Go.Tw.Ht t.length z w (Go.Tw.val t.length t e) 0:=by rw[hv];exact Go.Tw.Ht.rat (by decide) (by decide)
 exact(gT.of E he hx).mono (Go.Tw.xn _ (T.kg S hA)).2
theorem Oz {z:List El×El}{β μ:Nat}(nz:ax A z.1 z.2 (R.q 1) β μ):Pr prog 69 [nX z] (.one (.int .i64 (R.bQ (R.q 1)))):=by
 have W:=(vF S hA nz.tg (Nat.le_refl _)).rq.mono (show jL≤2^30 by decide);have g:=kD (by decide) (Nat.le_refl _) W nz.len ((QA S hA nz.tg nz.len nz.val).mono (show jL≤2^30 by decide));rw[Go.Tw.bZ nz.tg.rd.rl nz.len,nz.val]at g;exact zG _ _ g
theorem D4 {r c k W W' D:Nat}(X:Nat→Nat→Nu A)(d:Nu A)(p:List Nat)(hk:k<c)(hq:p.length≤r)(hw:∀i j,i<r→j<c→(X i j).w≤W)(hd:d.w≤D)(hD:D≤2000)(hW:p.length<r→W≤259)
  (V6:∀i j,p.length≤i→i<r→j<k→(X i j).v=R.q 0) (hV:MW A r c (gB r k (vM X,p)).1 W') (hX:W'≤300∨k+1=c):
  ∃(X':Nat→Nat→Nu A) (d':Nu A),P7 r c k p.length (fun i j=>(X i j).x) (fun i j=>(X' i j).x) d.x d'.x (jM (vM X) k (r-p.length) p.length)∧gp r c (vM X') (gB r k (vM X,p)).1∧
   (∀i j,i<r→j<c→(X' i j).w≤W')∧d'.w≤D+259*((gB r k (vM X,p)).2.length-p.length):=by
 suffices h:∃(X':Nat→Nat→Nu A) (d':Nu A),P7 r c k p.length (fun i j=>(X i j).x) (fun i j=>(X' i j).x) d.x d'.x (jM (vM X) k (r-p.length) p.length)∧gp r c (vM X') (gB r k (vM X,p)).1∧d'.w≤D+259*((gB r k (vM X,p)).2.length-p.length) by
  obtain⟨X',d',s1,s2,s3⟩:=h;obtain⟨Y,y1,y2,y3⟩:=Qd (W:=W') X' fun i j hi hj=>by rw[s2 i j hi hj];exact hV i j hi hj
  exact⟨Y,d',by rw[y1];exact s1,by rw[y2];exact s2,y3,s3⟩
 obtain⟨h1,h2,h3,h4⟩:=Go.Mx.jG (vM X) k (r-p.length) p.length;have b3:wC=300:=rfl;have b8:wB=800:=rfl;have b2:wA=2000:=rfl;have Uz:∀i,p.length≤i→i<r→Pr prog 69 [nX (X i k).x] (.one (.int .i64 (R.bQ (X i k).v))):=fun i hi TD=>tE S hA (by
  have:=hw i k TD hk
  have:=hW (by omega)
  omega)
 by_cases ht:jM (vM X) k (r-p.length) p.length<r
 ·have hs:gB r k (vM X,p)=(fx (gy (vM X) p.length (jM (vM X) k (r-p.length) p.length)) p.length k,p++[k]):=by
   unfold gB;exact if_pos ht
  rw[hs]at hV;rw[hs]
  generalize jM (vM X) k (r-p.length) p.length=t at h1 h2 h3 h4 ht hV
  have RE:=h4 (by omega);have Vw:=hW (by omega);have W6:=fun j (hj:j<c)=>hw t j ht hj;have UQ:(X t k).v≠R.q 0:=RE;have Ru:=fun j (hj:j<k)=>V6 t j h1 ht hj;obtain⟨d1,v1,w1,n1⟩:∃d1:Nu A,d1.w=d.w∧(p.length<t→Pr prog 45 [nX d.x] (nX d1.x))∧(t=p.length→d1.x=d.x):=by
   by_cases e:t=p.length
   ·exact⟨d,rfl,fun h=>absurd h (by omega),fun _=>rfl⟩
   obtain⟨c,_,c2,c3⟩:=Dr S hA (a:=d) (by omega);exact⟨c,c2,fun _=>c3,fun h=>absurd h e⟩
  obtain⟨d',_,wd,nd⟩:=xH S hA (a:=d1) (b:=X t k) (by omega) (by have:=W6 k hk;omega);obtain⟨T',hT'⟩:=OH (n:=c) (p:=fun j c=>c.v=(X t j).v*iv (X t k).v∧c.w≤2*W∧Lh 108 (X t j).x (X t k).x c.x) (X 0 0) fun j hj=>by
   have e1:=W6 j hj;have e2:=W6 k hk;obtain⟨c,c1,c2,c3⟩:=Km S hA (a:=X t j) (b:=X t k) (by omega) (by omega) UQ;exact⟨c,c1,by omega,c3⟩
  obtain⟨T,hTd⟩:∃T:Nat→Nu A,∀j,T j=if j<k then X t j else T' j:=⟨_,fun _=>rfl⟩
  have Z8:∀j,j<k→T j=X t j:=fun j hj=>by rw[hTd,if_pos hj]
  have hTr:∀j,k≤j→T j=T' j:=fun j hj=>by rw[hTd,if_neg (by omega)]
  have hTv:∀j,j<c→(T j).v=(X t j).v*iv (X t k).v:=fun j hj=>by
   by_cases e:j<k
   ·rw[Z8 j e,Ru j e,R.zero_mul]
   rw[hTr j (by omega)];exact(hT' j hj).1
  have hTw:∀j,j<c→(T j).w≤2*W:=fun j hj=>by
   by_cases e:j<k
   ·rw[Z8 j e];have:=W6 j hj;omega
   rw[hTr j (by omega)];exact(hT' j hj).2.1
  have Z7:∀j,k≤j→j<c→Pr prog 69 [nX (T j).x] (.one (.int .i64 (R.bQ (T j).v))):=fun j h5 h6=>by
   rcases hX with h|UJ
   ·have e1:=hV p.length j (show p.length<r by omega) h6;have e2:(fx (gy (vM X) p.length t) p.length k,p++[k]).1 p.length j=(T j).v:=by
     show fx _ _ _ _ _=_;unfold fx gy;rw[if_pos rfl,if_pos rfl];exact(hTv j h6).symm
    rw[e2]at e1;exact tE S hA (a:=⟨(T j).x,(T j).v,W',e1.1,(T j).ok.tg,(T j).ok.len,(T j).ok.val,e1.2⟩) (show W'≤300 from h)
   obtain rfl:j=k:=by omega
   have e4:=hTv j h6;rw[Go.Mx.jw UQ]at e4
   have:=(T j).ok
   rw[e4]at this⊢;exact Oz S hA this
  have UM:∀i j,i<r→j<c→(dS X p.length t i j).w≤W:=fun i j hi hj=>HY (by omega) ht hw hi hj;obtain⟨Q,hQ⟩:=Pp (r:=r) (c:=c) (p:=fun i j c=>c.v=(dS X p.length t i k).v*(T j).v∧c.w≤3*W∧Lh 106 (dS X p.length t i k).x (T j).x c.x) (X 0 0) fun i j hi hj=>by
   have e1:=hTw j hj;have e2:=UM i k hi hk;obtain⟨c,c1,c2,c3⟩:=xH S hA (a:=dS X p.length t i k) (b:=T j) (by omega) (by omega);exact⟨c,c1,by omega,c3⟩
  obtain⟨Z',hZ'⟩:=Pp (r:=r) (c:=c) (p:=fun i j c=>c.v=(dS X p.length t i j).v-(dS X p.length t i k).v*(T j).v∧Lh 148 (dS X p.length t i j).x (Q i j).x c.x) (X 0 0) fun i j hi hj=>by
   obtain⟨q1,q2,_⟩:=hQ i j hi hj;have e2:=UM i j hi hj;obtain⟨c,c1,c2,c3⟩:=I9 S hA (a:=dS X p.length t i j) (b:=Q i j) (by omega) (by omega);exact⟨c,by rw[c1,q1],c3⟩
  obtain⟨Z,XM⟩:∃Z:Nat→Nat→Nu A,∀i j,Z i j=if j<k∨R.bQ (T j).v=0 then dS X p.length t i j else Z' i j:=⟨_,fun _ _=>rfl⟩
  have hZv:∀i j,i<r→j<c→(Z i j).v=(dS X p.length t i j).v-(T j).v*(dS X p.length t i k).v:=fun i j hi hj=>by
   rw[XM]
   split
   ·rename_i e
    have:(T j).v=R.q 0:=by
     rcases e with e|e
     ·rw[Z8 j e,Ru j e]
     exact R.gZ.1 e
    rw[this,R.zero_mul,R.sub_zero]
   rw[(hZ' i j hi hj).1,R.mul_comm]
  refine⟨fun i=>if i=p.length then T else if R.bQ (dS X p.length t i k).v=0 then dS X p.length t i else Z i,d',⟨fun i=>R.bQ (X i k).v,Uz,h1,Nat.le_of_lt ht,fun i a b=>R.gZ.2 (h3 i a b),.inr ⟨ht,fun e=>UQ (R.gZ.1 e),d1.x,fun j=>(T j).x,fun i j=>(Z i j).x,fun i j=>(Q i j).x,fun i=>R.bQ (dS X p.length t i k).v,fun j=>R.bQ (T j).v,
   w1,n1,nd,fun j h5 h6=>?_,fun j h5=>?_,Z7,fun i hi RE=>?_,fun i hi RE _ j hj=>⟨fun e=>?_,fun h5 h6=>⟨?_,?_⟩⟩,?_⟩⟩,fun i j hi hj=>?_,?_⟩
  ·show Lh _ _ _ (T j).x;rw[hTr j h5];exact(hT' j h6).2.2
  ·show(T j).x=(X t j).x
   rw[Z8 j h5]
  ·have:=tE S hA (a:=dS X p.length t i k) (by have:=UM i k hi hk;omega)
   rw[k9]at this;exact this
  ·show(Z i j).x=_
   rw[XM,if_pos e,k9]
  ·have:=(hQ i j hi hj).2.2
   rw[k9]at this;exact this
  ·have:=(hZ' i j hi hj).2
   rw[k9]at this;show Lh _ _ _ (Z i j).x;rw[XM,if_neg (fun e=>e.elim (by omega) h6)];exact this
  ·funext i j
   dsimp only
   by_cases e1:i=p.length
   ·rw[if_pos e1,if_pos e1]
   rw[if_neg e1,if_neg e1]
   by_cases e2:R.bQ (dS X p.length t i k).v=0
   ·rw[if_pos e2,if_pos e2,k9]
   rw[if_neg e2,if_neg e2]
  ·show Nu.v _=fx (gy (vM X) p.length t) p.length k i j;unfold fx;have e0:gy (vM X) p.length t p.length=vM X t:=by unfold gy;rw[if_pos rfl]
   rw[e0,←xY,←xY];have tj:=hTv j hj
   dsimp only
   by_cases e1:i=p.length
   ·rw[if_pos e1,if_pos e1,tj];rfl
   rw[if_neg e1,if_neg e1]
   by_cases e2:R.bQ (dS X p.length t i k).v=0
   ·rw[if_pos e2,R.gZ.1 e2,R.mul_zero,R.sub_zero]
   rw[if_neg e2,hZv i j hi hj,tj];rfl
  rw[X6,List.length_singleton,Nat.add_sub_cancel_left]
  have:=W6 k hk
  omega
 have hs:gB r k (vM X,p)=(vM X,p):=by
  unfold gB;exact if_neg ht
 rw[hs];exact⟨X,d,⟨fun i=>R.bQ (X i k).v,Uz,h1,by omega,fun i a b=>R.gZ.2 (h3 i a b),.inl ⟨by omega,rfl,rfl⟩⟩,fun i j _ _=>rfl,by omega⟩
theorem FQ {r c:Nat}(M:Nat→Nat→Nu A)(B:Nat→Nat)(hr:r<2^30)(hc:c<2^30)(Tt:r*c<2^30)(h0:r=0→c=0)(hw:∀i j,i<r→j<c→(M i j).w≤B 0)(Xx:B 0≤wB)(hB:∀k,k<c→(red r (vM M) k).2.length<r→B k≤259)
  (hB1:∀k,k<c→B (k+1)≤300∨k+1=c) (h6:∀k,k≤c→(red r (vM M) k).2.length≤6) (hV:∀k,k≤c→MW A r c (red r (vM M) k).1 (B k)):
  ∃(X:Nat→Nat→Nu A) (d:Nu A),gp r c (vM X) (red r (vM M) c).1∧(∀i j,i<r→j<c→(X i j).w≤B c)∧
   Pr prog 39 [.one (bK r (fun _=>c) M)] (.aF [.agg [bK r (fun _=>c) X,.ints .i64 (fX (red r (vM M) c).2),tC d.x.1.length d.x.1,aa d.x.2],.one (.int .i64 0)]):=by
 have dm:∀i j,j<c→(i*c+j)/c=i∧(i*c+j)%c=j:=fun i j hj=>by
  have SI:0<c:=by omega
  rw[Nat.mul_comm i c,Nat.mul_add_div SI,Nat.mul_add_mod,Nat.div_eq_of_lt hj,Nat.mod_eq_of_lt hj];exact⟨rfl,rfl⟩
 have dv:∀p,p<r*c→p/c<r∧p%c<c:=fun p hp=>by
  have SI:0<c:=by
   rcases Nat.eq_zero_or_pos c with h|h
   ·subst h;omega
   exact h
  exact⟨Nat.div_lt_of_lt_mul (by rw[Nat.mul_comm];exact hp),Nat.mod_lt _ SI⟩
 obtain⟨o,ho,hJ⟩:=PG S hA (n:=r*c) Tt (fun p=>M (p/c) (p%c)) fun p hp=>by
  obtain⟨e1,e2⟩:=dv p hp;exact Nat.le_trans (hw _ _ e1 e2) Xx
 have SE:∀i j,i<r→j<c→(o (i*c+j)).v=(M i j).v∧(o (i*c+j)).w=(M i j).w:=fun i j hi hj=>by
  have:=ho (i*c+j) (place hi hj)
  rw[(dm i j hj).1,(dm i j hj).2]at this;exact this
 obtain⟨X,e0,hI,hS⟩:=Go.Tw.chain (α:=(Nat→Nat→Nu A)×Nu A) (I:=fun k X=>k≤c→gp r c (vM X.1) (red r (vM M) k).1∧(∀i j,i<r→j<c→(X.1 i j).w≤B k)∧X.2.w≤1+259*(red r (vM M) k).2.length)
  (St:=fun k X Y=>k<c→P7 r c k (red r (vM M) k).2.length (fun i j=>(X.1 i j).x) (fun i j=>(Y.1 i j).x) X.2.x Y.2.x (jM (red r (vM M) k).1 k (r-(red r (vM M) k).2.length) (red r (vM M) k).2.length)) (x0:=(fun i j=>o (i*c+j),Nu.int A 1))
  (fun _=>⟨fun i j hi hj=>(SE i j hi hj).1,fun i j hi hj=>by show(o _).w≤B 0;rw[(SE i j hi hj).2];exact hw i j hi hj,Nat.le_add_right 1 _⟩) (n:=c) (fun k X hk hX=>by
   obtain⟨a1,a2,a3⟩:=hX (Nat.le_of_lt hk);have E:=Go.Mx.bz r (vM M) k;obtain⟨t1,t2⟩:=Go.Mx.ya (s:=(vM X.1,(red r (vM M) k).2)) (t:=red r (vM M) k) a1 rfl hk E.len;have hle:=Go.Mx.Dw r k (red r (vM M) k);have hl6:=h6 k (Nat.le_of_lt hk);obtain⟨X',d',s1,s2,s3,s4⟩:=D4 S hA (W:=B k) (W':=B (k+1)) X.1 X.2 (red r (vM M) k).2 hk E.len a2 a3 (by omega) (hB k hk) (fun i j h1 h2 h3=>(a1 i j h2 (by omega)).trans (E.low i j h1 h2 h3))
    (fun i j hi hj=>by rw[t1 i j hi hj];exact hV (k+1) hk i j hi hj) (hB1 k hk)
   have ef:=Go.Mx.r7 a1 hk (r-(red r (vM M) k).2.length) (red r (vM M) k).2.length (by have:=E.len;omega);rw[ef]at s1;rw[t2]at s4;exact⟨(X',d'),fun _=>s1,fun _=>⟨fun i j hi hj=>(s2 i j hi hj).trans (t1 i j hi hj),s3,by
    show d'.w≤1+259*(gB r k (red r (vM M) k)).2.length;omega⟩⟩)
 obtain⟨b1,b2,_⟩:=hI c (Nat.le_refl _) (Nat.le_refl _);refine⟨(X c).1,(X c).2,b1,b2,?_⟩;exact PC (r:=r) (c:=c) (fun i j=>(M i j).x) (fun p=>(o p).x) (fun k i j=>((X k).1 i j).x) (fun k=>(X k).2.x) (fun k=>(red r (vM M) k).2) (fun k=>jM (red r (vM M) k).1 k (r-(red r (vM M) k).2.length) (red r (vM M) k).2.length) hr hc Tt h0 hJ
  (fun i j hi hj=>by rw[e0]) (by rw[e0];rfl) rfl (fun k _=>(Go.Mx.bz r (vM M) k).len) (fun k hk=>hS k hk hk) (fun k _=>FJ r (vM M) k)
theorem uo {r c:Nat}(M:Nat→Nat→Nu A)(hr:r<2^30)(hc:c<2^30)(Tt:r*c<2^30)(h0:r=0→c=0)(hw:∀i j,i<r→j<c→(M i j).w≤1)(h5:r≤4∨c≤5):
  ∃(X:Nat→Nat→Nu A) (d:Nu A),gp r c (vM X) (red r (vM M) c).1∧(∀i j,i<r→j<c→(X i j).w≤4^(red r (vM M) c).2.length)∧
   Pr prog 39 [.one (bK r (fun _=>c) M)] (.aF [.agg [bK r (fun _=>c) X,.ints .i64 (fX (red r (vM M) c).2),tC d.x.1.length d.x.1,aa d.x.2],.one (.int .i64 0)]):=by
 have hq:∀k,(red r (vM M) k).2.length≤r∧(red r (vM M) k).2.length≤k:=fun k=>⟨(Go.Mx.bz r (vM M) k).len,Ca r (vM M) k⟩;have h4:∀{q},q≤4→4^q≤256:=fun h=>Nat.le_trans (Nat.pow_le_pow_right (by decide) h) (by decide);exact FQ S hA M (fun k=>4^(red r (vM M) k).2.length) hr hc Tt h0 hw (show 4^0≤800 by decide) (fun k hk h=>Nat.le_trans (h4 (by have:=hq k;omega)) (by decide))
  (fun k hk=>by
   have:=hq (k+1)
   by_cases e:k+1=c
   ·exact .inr e
   exact .inl (Nat.le_trans (h4 (by omega)) (by decide)))
  (fun k hk=>by have:=hq k;omega) (Go.Mx.uH (ur hw))
end
open Go Go.Eng
open Go.Tw (El)
theorem Gp (a:Nat)(h:a<4294967296):eZ .and .u64 (a:Int) 4294967295=(a:Int):=by
 show IntKind.u64.wrap ((BitVec.ofInt 64 (a:Int)&&&BitVec.ofInt 64 4294967295).toNat:Int)=(a:Int);rw[BitVec.toNat_and];have e1:(BitVec.ofInt 64 (a:Int)).toNat=a:=by
  rw[BitVec.ofInt_natCast,BitVec.toNat_ofNat];exact Nat.mod_eq_of_lt (by omega)
 have e2:(BitVec.ofInt 64 4294967295).toNat=2^32-1:=by decide
 rw[e1,e2,Nat.and_two_pow_sub_one_eq_mod,Nat.mod_eq_of_lt h];exact IntWalk.u64_in _ (by omega)
theorem NF (y:Nat)(hy:y<2147483648):Pr prog 150 [.one (.int .u64 1),.one (.int .u64 y)] (.aF [.one (.int .u64 0),.one (.int .u64 y)]):=by
 have h1:eZ .and .u64 1 4294967295=1:=Gp 1 (by decide);have h2:=Gp y (by omega);have h3:eZ .and .u64 0 4294967295=0:=Gp 0 (by decide);have z0:IntKind.u64.wrap 0=0:=rfl;have z1:∀x:Int,IntKind.u64.wrap (0*x)=0:=fun x=>by rw[Int.zero_mul];rfl
 have d0:(y:Int).fdiv 4294967296=0:=by rw[Int.fdiv_eq_ediv_of_nonneg _ (by decide)];omega
 have w1:IntKind.u64.wrap (1*(y:Int))=y:=by rw[IntWalk.u64_in _ (by omega)];omega
 refine pw func150 ⟨[0,1,4,5,6,7,8,9,10,11,12,13],[]⟩ ?_;simp only[Tryz.f150,ntmps150,iz,seval];simp only[vx,T,seval,h1,h2,h3,d0,w1,z0,z1,Int.mul_zero,Int.add_zero];exact fT.refl _
theorem Qg (y:Nat)(hy:y<2147483648):Pr prog 111 [.one (.int .u64 1),.one (.int .u64 y)] (.aF [.one (.int .u64 0),.one (.int .u64 y)]):=by
 have h:=NF y hy;refine pw func111 ⟨[0,1,4,5,6,7,8,9],[]⟩ ?_;simp only[Tryz.f111,ntmps111,iz,seval];simp only[vx,T,seval];refine Cg h ?_;simp only[vx,T,seval];exact Ve rfl
open Go Go.Eng
open Go.Tw (El)
def DE (x:Nb)(z:Nat→C)(k:Nat)(i j:Nat):C:=if i<k then bw x j else z j
theorem Jq (x:Nb)(n:Nat)(hn:n<2147483648):Fr prog 74 [.one (ak 1 fun _=>x),.one (.int .i64 n)] (.rows 37 2 n (fun _=>bw x)):=by
 have h:=Qg n hn;refine fw func74 ⟨[0,1,4,5,6,7,8,10,26,37],[(9,(.cons 7 [0] (.cons 8 [] (.cons 9 [] .nil .nil) .nil) .nil))]⟩ ?_;simp only[Tryz.f74,ntmps74,iz,seval];simp only[vx,T,seval,ak];have u1:IntKind.u64.wrap 1=1:=rfl;have un:IntKind.u64.wrap (n:Int)=n:=IntWalk.u64_in _ (by omega);have vn:IntKind.i64.wrap (n:Int)=n:=IntWalk.i64_in _ (by omega);refine⟨fun h=>absurd h (by omega),fun _=>Lg ?_⟩;simp only[vx,T,seval,ak,u1,un];refine Cg h ?_;simp only[vx,T,seval,ak,u1,un,vn];refine⟨fun h=>absurd h (by omega),fun _=>Lg ?_⟩;simp only[vx,T,seval,ak,vn];refine⟨by omega,?_⟩
 refine Lk (fun y:{k:Nat//k≤n∧(0<n→0<k)}=>⟨[(0,.one (ak 1 fun _=>x)),(1,.one (.int .i64 n)),(4,.one .nil),(7,.one (.own 1 2 0 n)),(8,.one (.int .i64 y.1))],[(1,⟨.rows 37 2 n (DE x (fun j=>[C.nil,C.nil].getD j .any) y.1),true⟩)],3,48⟩) (fun y=>n-y.1) ⟨if 1<n then 1 else n,by split<;>omega,fun h=>by split<;>omega⟩ ?_ (fun⟨k,hk,h0⟩=>?_)
 ·refine Sa ?_;simp only[ry,seval,rz,ak];intro i j hi hj;simp only[zv,DE]
  rcases(by omega:n=0∨n=1∨1<n)with h|h|h
  ·omega
  ·subst h;simp[show i=0 by omega]
  simp[h]
 simp only;simp only[vx,T,seval,ak];refine⟨fun g=>Lg ?_,fun g=>Lg ?_⟩
 ·have g':k<n:=by omega
  simp only[vx,T,seval,ak];refine⟨by omega,by omega,?_⟩
  generalize hm:(if k<((n:Int)-k).toNat then k else((n:Int)-k).toNat)=m
  have m0:0<m∧k+m≤n∧m≤k:=by split at hm<;>omega
  have wm:IntKind.i64.wrap ((k:Int)+m)=((k+m:Nat):Int):=by rw[IntWalk.i64_in _ (by omega)];omega
  refine Lq ⟨k+m,by omega,by omega⟩ ?_ (by show n-(k+m)<n-k;omega);refine Sa ?_;simp only[ry,seval,rz,ak,wm];intro i j hi hj;simp only[zv,DE]
  repeat' split
  all_goals first|rfl|omega
 have g':k=n:=by omega
 simp only[vx,T,seval,ak];refine⟨rfl,rfl,fun i j hi hj=>?_⟩;simp only[DE,g',if_pos hi]
open Go Go.Eng
open Go.Tw (El)
open Go.Mx (iH free)
theorem Fr.Pv {P:Program}{f:FuncId}{xs ys:List V}{B:Bk}(h:Fr P f ys B)(ha:yr xs ys):Fr P f xs B:=
 ⟨h.1,h.2.1,fun ok w vs RW R1=>h.2.2 ok w vs RW (ha.rep R1)⟩
theorem Gl (n:Nat)(hn:n<2147483648):Fr prog 41 [.one (.int .i64 n)] (.rows 37 2 n (fun _=>bw (xT 0))):=by
 have c0:=uh 0 (by decide);have h:=Fr.Pv (Jq (xT 0) n hn) (xs:=[.one (.rows 2 1 (A1 (xT 0))),.one (.int .i64 n)]) ⟨.cell (CR (xT 0) (Nat.le_refl 1)),.refl _,trivial⟩;refine fw func41 ⟨[0,2],[]⟩ ?_;simp only[Tryz.f41,ntmps41,iz,seval];simp only[vx,T,seval];refine Cg c0 ?_;simp only[vx,T,seval,nX,nV,tC,aa];refine cH.fresh h ?_;simp only[vx,T,seval];exact⟨rfl,rfl,fun _ _ _ _=>rfl⟩
theorem Me (n k:Nat)(hn:n<2147483648)(hk:k<n):Fr prog 44 [.one (.int .i64 n),.one (.int .i64 k)] (.rows 37 2 n (fun j=>bw (yw k j))):=by
 have c1:=uh 1 (by decide);have h:=Gl n hn;refine fw func44 ⟨[0,1,4,5],[]⟩ ?_;simp only[Tryz.f44,ntmps44,iz,seval];simp only[vx,T,seval];refine cH.fresh h ?_;simp only[vx,T,seval];refine Cg c1 ?_;simp only[vx,T,seval,nX,nV,tC,aa];refine⟨by omega,?_⟩;refine⟨rfl,rfl,fun i j hi hj=>?_⟩;show a8 _ _ _ _ i j=bw (yw k i) j;unfold a8 yw
 by_cases e:i=k
 ·rw[if_pos e,if_pos (Nat.zero_le _),if_pos (by simpa using hj),if_pos (by omega)]
  match j,hj with
  |0,_=>rfl
  |1,_=>rfl
 rw[if_neg e,if_neg (by omega)]
theorem Lm {r c:Nat}(x N G:Nat→Nat→Nb)(p:List Nat)(D1 D2:C)(hr:r<2^30)(hc:c<2^30)(h0:r=0→c=0)(hp:p.length≤r)(Ru:∀i,i<p.length→p.getD i 0<c)
  (hE:Pr prog 39 [.one (av r (fun _=>c) x)] (.aF [.agg [av r (fun _=>c) N,.ints .i64 (fX p),D1,D2],.one (.int .i64 0)]))
  (hG:∀k i,k<c→i<p.length→Pr prog 45 [nX (N i k)] (nX (G i k))) (s1:∃n f,D1= .rows 1 n f) (s2:∃n f,D2= .rows 4 n f):
  Pr prog 12 [.one (av r (fun _=>c) x)] (.aF [.one (av (fl p c).length (fun _=>c) fun i=>L6 p G (fun k=>yw k) p.length ((fl p c).getD i 0)),.one (.int .i64 0)]):=by
 obtain⟨n1,f1,rfl⟩:=s1;obtain⟨n2,f2,rfl⟩:=s2;have cl:=kz (fun _=>c) x (k:=c) (by split;exact h0 (by assumption);rfl) (by omega:r<2^38);have cv:=qU (r:=r) (fun _=>c) x (by omega) (b:=true) (by simp);refine pw func12 ⟨[0,2,3,4,5,6,7,8,9,10,13,20,23,24,25,30,36,37,38,39],[]⟩ ?_;simp only[Tryz.f12,ntmps12,iz,seval];simp only[vx,T,seval,av,ak];refine Cg cv ?_;simp only[vx,T,seval,av,ak];refine Cg hE ?_;simp only[vx,T,seval,av,ak];refine Cg cl ?_;simp only[vx,T,seval,av,ak];refine Lk (fun y:{k:Nat//k≤c}=>⟨[(0,.one (av r (fun _=>c) x)),(2,.one .nil),(3,.one (.int .i64 0)),(4,.one (.ptr 1 0)),(6,.one (.own 2 1 0 (fl p y.1).length)),(23,.one (.int .i64 c)),(24,.one (.int .i64 y.1))],
  [(1,⟨.var [av r (fun _=>c) N,.ints .i64 (fX p),.rows 1 n1 f1,.rows 4 n2 f2],true⟩),(2,⟨.rows 32 1 (fl p y.1).length (fun i _=>ak c (L6 p G (fun k=>yw k) p.length ((fl p y.1).getD i 0))),true⟩)],3,62⟩) (fun y=>c-y.1) ⟨0,Nat.zero_le _⟩ ?_ (fun⟨k,hk⟩=>?_)
 ·refine Sa ?_;simp only[ry,seval,rz,av,ak,fl,List.length_nil,Nat.not_lt_zero]
 simp only;have wi:=wI k (by omega);simp only[vx,T,seval,av,ak];refine⟨fun g=>Lg ?_,fun g=>Lg ?_⟩
 ·have Vz:k<c:=by omega
  by_cases hm:k∈p
  ·have e:fl p (k+1)=fl p k:=if_pos hm;have cp:=vH (fX p) k (by rw[b6];omega) (b:=true) (by rw[C9];simp[hm]);simp only[vx,T,seval,av,ak];refine Cg cp ?_;simp only[vx,T,seval,av,ak,wi];refine Lq ⟨k+1,by omega⟩ ?_ (by show c-(k+1)<c-k;omega);refine Sa ?_;simp only[ry,seval,rz,av,ak,e]
  have e:fl p (k+1)=fl p k++[k]:=if_neg hm;have cp:=vH (fX p) k (by rw[b6];omega) (b:=false) (by rw[C9];simp[hm]);have cu:=Me c k (by omega) Vz;simp only[vx,T,seval,av,ak];refine Cg cp ?_;simp only[vx,T,seval,av,ak];refine Cg cl ?_;simp only[vx,T,seval,av,ak];refine cH.fresh cu ?_;simp only[vx,T,seval,av,ak,b6];refine Lk (fun y:{n:Nat//n≤p.length}=>⟨[(0,.one (av r (fun _=>c) x)),(2,.one .nil),(3,.one (.int .i64 0)),(4,.one (.ptr 1 0)),(6,.one (.own 2 1 0 (fl p k).length)),(7,.one (.int .i64 k)),(8,.one (.own 3 2 0 c)),(23,.one (.int .i64 c)),(24,.one (.int .i64 k)),(36,.one (.ints .i64 (fX p))),(37,.one (.int .i64 p.length)),(38,.one (.int .i64 y.1))],
   [(1,⟨.var [av r (fun _=>c) N,.ints .i64 (fX p),.rows 1 n1 f1,.rows 4 n2 f2],true⟩),(2,⟨.rows 32 1 (fl p k).length (fun i _=>ak c (L6 p G (fun k=>yw k) p.length ((fl p k).getD i 0))),true⟩),(3,⟨.rows 37 2 c (fun j=>bw (L6 p G (fun k=>yw k) y.1 k j)),true⟩)],4,62⟩) (fun y=>p.length-y.1) ⟨0,Nat.zero_le _⟩ ?_ (fun⟨n,hn⟩=>?_)
  ·refine Sa ?_;simp only[ry,seval,rz,av,ak,L6,iH]
  simp only;have wn:=wI n (by omega);simp only[vx,T,seval,av,ak,b6];refine⟨fun g3=>Lg ?_,fun g3=>Lg ?_⟩
  ·have XK:n<p.length:=by omega
   have hG':=hG k n Vz XK;have Xp:=Ru n XK;simp only[vx,T,seval,av,ak,bw,tC,aa,pq,b6];refine⟨by omega,by omega,by omega,Cg hG' ?_⟩;simp only[vx,T,seval,nX,nV,bw,tC,aa,pq,b6,wn];refine⟨by omega,Lq ⟨n+1,by omega⟩ ?_ (by show p.length-(n+1)<p.length-n;omega)⟩;refine Sa ?_;simp only[ry,seval,rz,av,ak,tC,aa];intro i j hi hj;exact H6 p (fun i=>G i k) (yw k) n i j hj
  obtain rfl:n=p.length:=by omega
  simp only[vx,T,seval,av,ak,wi];have hl:=Gm p k;have el:(fl p (k+1)).length=(fl p k).length+1:=by rw[e];simp
  refine⟨⟨by omega,by omega⟩,Lq ⟨k+1,by omega⟩ ?_ (by show c-(k+1)<c-k;omega)⟩;refine Sa ?_;simp only[ry,seval,rz,av,ak,el];intro i j hi hj;rw[e]
  by_cases h:i<(fl p k).length
  ·rw[if_pos h,X7,X7,List.getElem?_append_left h]
  obtain rfl:i=(fl p k).length:=by omega
  obtain rfl:j=0:=by omega
  rw[if_neg h,X7 (l:=fl p k++[k]),List.getElem?_append_right (Nat.le_refl _),Nat.sub_self];rfl
 obtain rfl:k=c:=by omega
 simp only[vx,T,seval,av,ak];exact fT.refl _
open Go Go.Eng
open Go.Tw (El)
open Go.Mx (iH free)
theorem Jw {r c d:Nat}(x:Nat→Nat→Nb)(b:Nat→Nb)(hr:r<2^30)(hc:c<2^30)(hd:d≤1)(Vu:r≠0→d=1):Pr prog 40 [.one (av r (fun _=>c) x),.one (.rows 1 r fun i _=>.rows 2 d (A1 (b i)))] (.one (av r (fun _=>c+d) (EG c x b))):=by
 refine pw func40 ⟨[0,1,4,5,6,11,12,13],[]⟩ ?_;simp only[Tryz.f40,ntmps40,iz,seval];simp only[vx,T,seval,av,ak];refine⟨by omega,?_⟩;refine Lk (fun y:{k:Nat//k≤r}=>⟨[(0,.one (av r (fun _=>c) x)),(1,.one (.rows 1 r fun i _=>.rows 2 d (A1 (b i)))),(4,.one .nil),(5,.one (.own 1 1 0 r)),(11,.one (.int .i64 r)),(12,.one (.int .i64 y.1))],
  [(1,⟨.rows 32 1 r (fun i _=>if i<y.1 then ak (c+d) (EG c x b i)else .nil),true⟩)],2,30⟩) (fun y=>r-y.1) ⟨0,Nat.zero_le _⟩ ?_ (fun⟨k,hk⟩=>?_)
 ·refine Sa ?_;simp only[ry,seval,rz,av,ak,Nat.not_lt_zero];intro i j hi hj;obtain rfl:j=0:=by omega
  rfl
 simp only;have wi:=wI k (by omega);simp only[vx,T,seval,av,ak];refine⟨fun g=>Lg ?_,fun g=>Lg ?_⟩
 ·have Yl:k<r:=by omega
  obtain rfl:=Vu (by omega);have cc:=yW (n:=c) (m:=1) (x k) (fun _=>b k) (by omega);have cc':=cc.args (xs:=[.one (.rows 1 2 (fun i j=>[ak c (x k),.rows 2 1 (A1 (b k))].getD (i*1+j) .any))]) ⟨.cell (dK.rows rfl fun i j hi hj=>by
   obtain rfl:j=0:=by omega
   match i,hi with
   |0,_=>exact .refl _
   |1,_=>exact CR (b k) (Nat.le_refl 1)),trivial⟩
  simp only[vx,T,seval,av,ak];refine⟨by omega,by omega,Cg cc' ?_⟩;simp only[vx,T,seval,av,ak,wi];refine⟨by omega,Lq ⟨k+1,by omega⟩ ?_ (by show r-(k+1)<r-k;omega)⟩;refine Sa ?_;simp only[ry,seval,rz,av,ak];intro i j hi hj;obtain rfl:j=0:=by omega
  by_cases e:i=k
  ·subst e;rw[if_pos (Nat.lt_succ_self i)]
   simp[a8]
   rfl
  by_cases h:i<k
  ·rw[if_pos (show i<k+1 by omega)]
   simp[a8,e,h]
  rw[if_neg (show¬i<k+1 by omega)]
  simp[a8,e,h]
 obtain rfl:k=r:=by omega
 simp only[vx,T,seval,av,ak];refine fT.cell (dK.rows rfl fun i j hi hj=>.of_eq ?_);rw[if_pos hi]
theorem Be {r c d:Nat}(x N:Nat→Nat→Nb)(b:Nat→Nb)(p:List Nat)(D1 D2:C)(hr:r<2^30)(hc:c<2^30)(h0:r=0→c=0)(hd:d=if r=0 then 0 else 1)(hp:p.length≤r)(Ru:∀i,i<p.length→p.getD i 0<c+d)
  (hE:Pr prog 39 [.one (av r (fun _=>c+d) (EG c x b))] (.aF [.agg [av r (fun _=>c+d) N,.ints .i64 (fX p),D1,D2],.one (.int .i64 0)]))
  (s1:∃n f,D1= .rows 1 n f) (s2:∃n f,D2= .rows 4 n f) (R:V) (h1:c∈p→R= .aF [.one .nil,.one (.int .i64 13)])
  (h2:c∉p→R= .aF [.one (ak c (iH p (fun i=>N i c) (fun _=>xT 0) p.length)),.one (.int .i64 0)]):
  Pr prog 9 [.one (av r (fun _=>c) x),.one (ak r b)] R:=by
 obtain⟨n1,f1,rfl⟩:=s1;obtain⟨n2,f2,rfl⟩:=s2;have Vu:r≠0→d=1:=fun h=>by rw[hd,if_neg h]
 have Sn:d≤1:=by rw[hd];split<;>omega
 have cl:=kz (fun _=>c) x (k:=c) (by split;exact h0 (by assumption);rfl) (by omega:r<2^38);have cv:=qU (r:=r) (fun _=>c) x (by omega) (b:=true) (by simp);have cb:=(Jw (r:=r) (c:=c) (d:=d) x b hr hc Sn Vu).tO (.refl _) (x':=.rows 1 r fun i _=>if i<r then .rows 2 1 (A1 (b i))else .nil) (dK.rows rfl fun i j hi hj=>by
  rw[if_pos hi,Vu (by omega)];exact .refl _)
 have cz:=Gl c (by omega);refine pw func9 ⟨[0,1,4,5,6,7,8,9,10,11,12,13,14,24,28,29,30,31,51,56,57,58,59,65],[]⟩ ?_;simp only[Tryz.f9,ntmps9,iz,seval];simp only[vx,T,seval,av,ak];refine Cg cv ?_;simp only[vx,T,seval,av,ak];refine⟨by omega,?_⟩;refine Lk (fun y:{k:Nat//k≤r}=>⟨[(0,.one (av r (fun _=>c) x)),(4,.one .nil),(5,.one (.int .i64 0)),(6,.one (.own 1 1 0 r)),(28,.one (ak r b)),(29,.one (.int .i64 r)),(30,.one (.int .i64 y.1))],
  [(1,⟨.rows 32 1 r (fun i _=>if i<y.1 then .rows 2 1 (A1 (b i))else .nil),true⟩)],2,79⟩) (fun y=>r-y.1) ⟨0,Nat.zero_le _⟩ ?_ (fun⟨k,hk⟩=>?_)
 ·refine Sa ?_;simp only[ry,seval,rz,av,ak,Nat.not_lt_zero];intro i j hi hj;obtain rfl:j=0:=by omega
  rfl
 simp only;have wi:=wI k (by omega);simp only[vx,T,seval,av,ak];refine⟨fun g=>Lg ?_,fun g=>Lg ?_⟩
 ·have Yl:k<r:=by omega
  simp only[vx,T,seval,av,ak,bw,tC,aa,wi,uP,dF,dZ,List.contains,List.elem];refine⟨by omega,by omega,Lq ⟨k+1,by omega⟩ ?_ (by show r-(k+1)<r-k;omega)⟩;refine Sa ?_;simp only[ry,seval,rz,av,ak,tC,aa];intro i j hi hj;obtain rfl:j=0:=by omega
  by_cases e:i=k
  ·subst e;rw[if_pos (show i<i+1 by omega)]
   simp[a8]
   rfl
  by_cases h:i<k
  ·rw[if_pos (show i<k+1 by omega)]
   simp[a8,e,h]
  rw[if_neg (show¬i<k+1 by omega)]
  simp[a8,e,h]
 obtain rfl:k=r:=by omega
 simp only[vx,T,seval,av,ak];refine Cg cl ?_;simp only[vx,T,seval,av,ak];refine Cg cb ?_;simp only[vx,T,seval,av,ak];refine Cg hE ?_;simp only[vx,T,seval,av,ak];refine cH.fresh cz ?_;simp only[vx,T,seval,av,ak,b6];refine Lk (fun y:{n:Nat//n≤p.length∧∀j,j<n→p.getD j 0≠c}=>⟨[(4,.one .nil),(5,.one (.int .i64 0)),(9,.one (.int .i64 c)),(10,.one (.ptr 1 0)),(12,.one (.own 2 2 0 c)),(56,.one (.ints .i64 (fX p))),(57,.one (.int .i64 p.length)),(58,.one (.int .i64 y.1))],
  [(1,⟨.var [av k (fun _=>c+d) N,.ints .i64 (fX p),.rows 1 n1 f1,.rows 4 n2 f2],true⟩),(2,⟨.rows 37 2 c (fun j=>bw (iH p (fun i=>N i c) (fun _=>xT 0) y.1 j)),true⟩)],3,79⟩) (fun y=>p.length-y.1) ⟨0,Nat.zero_le _,fun j hj=>absurd hj (Nat.not_lt_zero _)⟩ ?_ (fun⟨n,hn,RE⟩=>?_)
 ·refine Sa ?_;simp only[ry,seval,rz,av,ak,iH]
 simp only;have wn:=wI n (by omega);simp only[vx,T,seval,av,ak,b6];refine⟨fun g3=>Lg ?_,fun g3=>Lg ?_⟩
 ·have XK:n<p.length:=by omega
  have Xp:=Ru n XK;obtain rfl:d=1:=Vu (by omega);simp only[vx,T,seval,av,ak,pq,b6];refine⟨by omega,?_⟩;refine⟨fun g4=>Lg ?_,fun g4=>Lg ?_⟩
  ·have e:=h1 (Go.Mx.dN.2 ⟨n,XK,by omega⟩);simp only[vx,T,seval];exact Ve e.symm
  simp only[vx,T,seval,av,ak,bw,tC,aa,pq,b6,wn];refine⟨by omega,by omega,by omega,Lq ⟨n+1,by omega,fun j hj=>?_⟩ ?_ (by show p.length-(n+1)<p.length-n;omega)⟩
  ·by_cases e:j=n
   ·rw[e];omega
   exact RE j (by omega)
  refine Sa ?_;simp only[ry,seval,rz,av,ak,tC,aa];intro i j hi hj;exact H6 p (fun i=>N i c) (fun _=>xT 0) n i j hj
 obtain rfl:n=p.length:=by omega
 have e:=h2 (fun h=>by
  obtain⟨i,h3,h4⟩:=Go.Mx.dN.1 h;exact RE i h3 h4.symm)
 simp only[vx,T,seval,av,ak];rw[e];exact fT.refl _
open Go Go.Eng
open Go.Tw (El)
theorem Jt {r c:Nat}(x N:Nat→Nat→Nb)(p:List Nat)(D1 D2:C)(hr:r<2^30)
  (hE:Pr prog 39 [.one (av r (fun _=>c) x)] (.aF [.agg [av r (fun _=>c) N,.ints .i64 (fX p),D1,D2],.one (.int .i64 0)])) (s1:∃n f,D1= .rows 1 n f) (s2:∃n f,D2= .rows 4 n f):
  Pr prog 16 [.one (av r (fun _=>c) x)] (.aF [.one (av r (fun _=>c) N),.one (.ints .i64 (fX p)),.one (.int .i64 0)]):=by
 obtain⟨n1,f1,rfl⟩:=s1;obtain⟨n2,f2,rfl⟩:=s2;have cv:=qU (r:=r) (fun _=>c) x (by omega) (b:=true) (by simp);refine pw func16 ⟨[0,2,3,4,5,6,9],[(4,.nil)]⟩ ?_;simp only[Tryz.f16,ntmps16,iz,seval];simp only[vx,T,seval,av,ak];refine Cg cv ?_;simp only[vx,T,seval,av,ak];refine Cg hE ?_;simp only[vx,T,seval,av,ak];exact fT.refl _
theorem M9 (a b:List Int)(ha:a.length<2^38){q:Bool}(hq:q=true↔a=b):Pr prog 25 [.one (.ints .i64 a),.one (.ints .i64 b)] (.one (.bool q)):=by
 refine pw func25 ⟨[0,1,4,5,10,12,13,14,24],[]⟩ ?_;simp only[Tryz.f25,ntmps25,iz,seval];simp only[vx,T,seval];refine⟨fun g=>Lg ?_,fun g=>Lg ?_⟩
 ·have e:q=false:=by
   cases q with
   |false=>rfl
   |true=>exact absurd (congrArg List.length (hq.1 rfl)) (by omega)
  subst e;simp only[vx,T,seval];exact Ve rfl
 have hl:a.length=b.length:=by omega
 simp only[vx,T,seval];refine Lk (fun y:{i:Nat//i≤a.length∧∀j,j<i→a.getD j 0=b.getD j 0}=>⟨[(0,.one (.ints .i64 a)),(1,.one (.ints .i64 b)),(4,.one (.bool false)),(12,.one (.int .i64 a.length)),(13,.one (.int .i64 y.1))],[],1,26⟩) (fun y=>a.length-y.1) ⟨0,Nat.zero_le _,fun j hj=>absurd hj (Nat.not_lt_zero _)⟩ ?_ (fun⟨i,hi,hb⟩=>?_)
 ·refine Sa ?_;simp only[ry,seval,rz]
 simp only;have wi:=wI i (by omega);simp only[vx,T,seval];refine⟨fun g1=>Lg ?_,fun g1=>Lg ?_⟩
 ·simp only[vx,T,seval];refine⟨by omega,by omega,?_⟩;refine⟨fun g2=>Lg ?_,fun g2=>Lg ?_⟩
  ·have e:q=false:=by
    cases q with
    |false=>rfl
    |true=>exact absurd (by rw[hq.1 rfl]) g2
   subst e;simp only[vx,T,seval];exact Ve rfl
  simp only[vx,T,seval,wi];refine Lq ⟨i+1,by omega,fun j hj=>?_⟩ ?_ (by show a.length-(i+1)<a.length-i;omega)
  ·by_cases e:j=i
   ·rw[e];exact g2
   exact hb j (by omega)
  refine Sa ?_;simp only[ry,seval,rz]
 have e:q=true:=hq.2 (List.ext_getElem hl fun j h1 h2=>by
  have:=hb j (by omega)
  rw[X7,X7,X8 h1,X8 h2]at this;exact this)
 subst e;simp only[vx,T,seval];exact Ve rfl
open Go Go.Eng
open Go.Tw (El)
theorem Bv {r c:Nat}(x:Nat→Nat→Nb)(hr:r<2^30)(hc:c<2^30)(h0:r=0→c=0):Pr prog 47 [.one (av r (fun _=>c) x)] (.one (av c (fun _=>r) fun i j=>x j i)):=by
 have cl:=kz (fun _=>c) x (k:=c) (by split;exact h0 (by assumption);rfl) (by omega:r<2^38);have cv:=qU (r:=r) (fun _=>c) x (by omega) (b:=true) (by simp);refine pw func47 ⟨[0,2,3,4,6,9,14,15,16,18,19,20,21],[(10,(.cons 11 [0,1,12] (.cons 13 [] .nil .nil) .nil))]⟩ ?_;simp only[Tryz.f47,ntmps47,iz,seval];simp only[vx,T,seval,av,ak];refine Cg cv ?_;simp only[vx,T,seval,av,ak];refine Cg cl ?_;simp only[vx,T,seval,av,ak];refine⟨by omega,?_⟩;refine Lk (fun y:{k:Nat//k≤c}=>⟨[(0,.one (av r (fun _=>c) x)),(2,.one .nil),(3,.one (.win 1 2 0 c)),(14,.one (.int .i64 c)),(15,.one (.int .i64 y.1))],
  [(1,⟨.wins 32 2 c (fun i=>if i<y.1 then ak r (fun a=>x a i)else .nil),true⟩)],3,40⟩) (fun y=>c-y.1) ⟨0,Nat.zero_le _⟩ ?_ (fun⟨k,hk⟩=>?_)
 ·refine Sa ?_;simp only[ry,seval,rz,av,ak,Nat.not_lt_zero]
 simp only;have wi:=wI k (by omega);simp only[vx,T,seval,av,ak];refine⟨fun g=>Lg ?_,fun g=>Lg ?_⟩
 ·have Vz:k<c:=by omega
  simp only[vx,T,seval,av,ak];refine Lk (fun y:{n:Nat//n≤r}=>⟨[(0,.one (av r (fun _=>c) x)),(2,.one .nil),(3,.one (.win 1 2 0 c)),(4,.one (.int .i64 k)),(14,.one (.int .i64 c)),(15,.one (.int .i64 k)),(18,.one (av r (fun _=>c) x)),(19,.one (.int .i64 r)),(20,.one (.int .i64 y.1))],
   [(1,⟨.wins 32 2 c (fun i=>if i<k then ak r (fun a=>x a i)else if i=k then .own 2 2 0 y.1 else .nil),true⟩),(2,⟨.rows 37 2 y.1 (fun a=>bw (x a k)),true⟩)],3,40⟩) (fun y=>r-y.1) ⟨0,Nat.zero_le _⟩ ?_ (fun⟨n,hn⟩=>?_)
  ·refine Sub.mk [(2,none)] ?_;simp only[ry,seval,X2,X3,X4,av,ak];intro i hi
   by_cases h:i<k
   ·simp only[if_pos h];exact⟨trivial,trivial,fun _ _ _ _=>trivial⟩
   by_cases h2:i=k
   ·simp only[if_neg h,if_pos h2];decide
   simp only[if_neg h,if_neg h2]
  simp only;have wn:=wI n (by omega);simp only[vx,T,seval,av,ak];refine⟨fun g1=>Lg ?_,fun g1=>Lg ?_⟩
  ·have TE:n<r:=by omega
   simp only[vx,T,seval,av,ak,bw,tC,aa,wn,Nat.lt_irrefl];refine⟨by omega,by omega,by omega,by omega,⟨by omega,by omega⟩,by omega,Lq ⟨n+1,by omega⟩ ?_ (by show r-(n+1)<r-n;omega)⟩;refine Sub.mk [(2,some 21)] ?_;simp only[ry,seval,X2,X3,X4,av,ak,tC,aa];refine⟨fun i hi=>?_,rA (fun a=>x a k) n⟩
   by_cases h2:i=k
   ·subst h2;simp only[if_neg (Nat.lt_irrefl i),if_true];decide
   by_cases h:i<k
   ·simp only[if_pos h,if_neg h2];exact⟨trivial,trivial,fun _ _ _ _=>trivial⟩
   simp only[if_neg h,if_neg h2]
  obtain rfl:r=n:=by omega
  simp only[vx,T,seval,av,ak,wi];refine Lq ⟨k+1,by omega⟩ ?_ (by show c-(k+1)<c-k;omega);refine Sub.trans (Sub.tQ 1 2 rfl rfl (by decide)) ?_;simp only[dF,dZ];refine Sa ?_;simp only[ry,seval,rz,av,ak];intro i hi
  by_cases h2:i=k
  ·subst h2;simp only[if_neg (Nat.lt_irrefl i),if_true,if_pos (show i<i+1 by omega),Nat.zero_add];exact⟨trivial,trivial,fun _ _ _ _=>trivial⟩
  by_cases h:i<k
  ·simp only[if_pos h,if_pos (show i<k+1 by omega)];exact⟨trivial,trivial,fun _ _ _ _=>trivial⟩
  simp only[if_neg h,if_neg h2,if_neg (show¬i<k+1 by omega)]
 obtain rfl:c=k:=by omega
 simp only[vx,T,seval,av,ak];refine fT.cell (dK.rows rfl fun i j hi hj=>.of_eq ?_);simp only[if_pos hi]
theorem Pt {r c:Nat}(x N:Nat→Nat→Nb)(p:List Nat)(D1 D2:C)(hr:r<2^30)(hc:c<2^30)(h0:r=0→c=0)
  (hE:Pr prog 39 [.one (av c (fun _=>r) fun i j=>x j i)] (.aF [.agg [av c (fun _=>r) N,.ints .i64 (fX p),D1,D2],.one (.int .i64 0)])) (s1:∃n f,D1= .rows 1 n f) (s2:∃n f,D2= .rows 4 n f):
  Pr prog 17 [.one (av r (fun _=>c) x)] (.aF [.one (.ints .i64 (fX p)),.one (.int .i64 0)]):=by
 obtain⟨n1,f1,rfl⟩:=s1;obtain⟨n2,f2,rfl⟩:=s2;have cv:=qU (r:=r) (fun _=>c) x (by omega) (b:=true) (by simp);have ct:=Bv x hr hc h0;refine pw func17 ⟨[0,2,3,4,5,8],[]⟩ ?_;simp only[Tryz.f17,ntmps17,iz,seval];simp only[vx,T,seval,av,ak];refine Cg cv ?_;simp only[vx,T,seval,av,ak];refine Cg ct ?_;simp only[vx,T,seval,av,ak];refine Cg hE ?_;simp only[vx,T,seval,av,ak];exact fT.refl _
open Go Go.Eng
open Go.Tw (El)
theorem Gn {r c d:Nat}(x y:Nat→Nat→Nb)(hr:r<2^30)(hc:c<2^30)(hd:d<2^30):Pr prog 40 [.one (av r (fun _=>c) x),.one (av r (fun _=>d) y)] (.one (av r (fun _=>c+d) fun i j=>if j<c then x i j else y i (j-c))):=by
 refine pw func40 ⟨[0,1,4,5,6,11,12,13],[]⟩ ?_;simp only[Tryz.f40,ntmps40,iz,seval];simp only[vx,T,seval,av,ak];refine⟨by omega,?_⟩;refine Lk (fun z:{k:Nat//k≤r}=>⟨[(0,.one (av r (fun _=>c) x)),(1,.one (av r (fun _=>d) y)),(4,.one .nil),(5,.one (.own 1 1 0 r)),(11,.one (.int .i64 r)),(12,.one (.int .i64 z.1))],
  [(1,⟨.rows 32 1 r (fun i _=>if i<z.1 then ak (c+d) (fun j=>if j<c then x i j else y i (j-c))else .nil),true⟩)],2,30⟩) (fun z=>r-z.1) ⟨0,Nat.zero_le _⟩ ?_ (fun⟨k,hk⟩=>?_)
 ·refine Sa ?_;simp only[ry,seval,rz,av,ak,Nat.not_lt_zero];intro i j hi hj;obtain rfl:j=0:=by omega
  rfl
 simp only;have wi:=wI k (by omega);simp only[vx,T,seval,av,ak];refine⟨fun g=>Lg ?_,fun g=>Lg ?_⟩
 ·have Yl:k<r:=by omega
  have cc:=yW (n:=c) (m:=d) (x k) (y k) (by omega);simp only[vx,T,seval,av,ak];refine⟨by omega,by omega,Cg cc ?_⟩;simp only[vx,T,seval,av,ak,wi];refine⟨by omega,Lq ⟨k+1,by omega⟩ ?_ (by show r-(k+1)<r-k;omega)⟩;refine Sa ?_;simp only[ry,seval,rz,av,ak];intro i j hi hj;obtain rfl:j=0:=by omega
  by_cases e:i=k
  ·subst e;rw[if_pos (Nat.lt_succ_self i)]
   simp[a8]
  by_cases h:i<k
  ·rw[if_pos (show i<k+1 by omega)]
   simp[a8,e,h]
  rw[if_neg (show¬i<k+1 by omega)]
  simp[a8,e,h]
 obtain rfl:k=r:=by omega
 simp only[vx,T,seval,av,ak];refine fT.cell (dK.rows rfl fun i j hi hj=>.of_eq ?_);rw[if_pos hi]
theorem KA {r:Nat}(x:Nat→Nat→Nb)(hr:r<2^30):Pr prog 54 [.one (av r (fun _=>r) x)] (.one (.bool true)):=by
 have cv:=qU (r:=r) (fun _=>r) x (by omega) (b:=true) (by simp)
 have cl:=kz (fun _=>r) x (k:=r) (by split<;>omega) (by omega:r<2^38)
 refine pw func54 ⟨[0,2],[]⟩ ?_;simp only[Tryz.f54,ntmps54,iz,seval];simp only[vx,T,seval,av,ak];refine Cg cv ?_;simp only[vx,T,seval,av,ak];refine Cg cl ?_;simp only[vx,T,seval,av,ak];exact Ve rfl
theorem FX {n:Nat}(x N:Nat→Nat→Nb)(p:List Nat)(D1 D2:C)(hn:n<2^29)
  (hE:Pr prog 39 [.one (av n (fun _=>n+n) fun i j=>if j<n then x i j else yw i (j-n))] (.aF [.agg [av n (fun _=>n+n) N,.ints .i64 (fX p),D1,D2],.one (.int .i64 0)]))
  (s1:∃n f,D1= .rows 1 n f) (s2:∃n f,D2= .rows 4 n f) (hp:∀i,i<n→i<p.length∧p.getD i 0=i):
  Pr prog 23 [.one (av n (fun _=>n) x)] (.aF [.one (av n (fun _=>n) fun i j=>N i (n+j)),.one (.int .i64 0)]):=by
 obtain⟨n1,f1,rfl⟩:=s1;obtain⟨n2,f2,rfl⟩:=s2;have cs:=KA x (show n<2^30 by omega);have cb:=Gn (r:=n) (c:=n) (d:=n) x (fun i j=>yw i j) (by omega) (by omega) (by omega);refine pw func23 ⟨[0,2,3,4,5,6,7,8,9,10,13,19,20,21,38,43,44,45,53],[]⟩ ?_;simp only[Tryz.f23,ntmps23,iz,seval];simp only[vx,T,seval,av,ak];refine Cg cs ?_;simp only[vx,T,seval,av,ak];refine⟨by omega,?_⟩;refine Lk (fun z:{k:Nat//k≤n}=>⟨[(0,.one (av n (fun _=>n) x)),(2,.one .nil),(3,.one (.int .i64 0)),(4,.one (.int .i64 n)),(5,.one (.own 1 1 0 n)),(19,.one (.int .i64 n)),(20,.one (.int .i64 z.1))],
  [(1,⟨.rows 32 1 n (fun i _=>if i<z.1 then ak n (fun j=>yw i j)else .nil),true⟩)],2,66⟩) (fun z=>n-z.1) ⟨0,Nat.zero_le _⟩ ?_ (fun⟨k,hk⟩=>?_)
 ·refine Sa ?_;simp only[ry,seval,rz,av,ak,Nat.not_lt_zero];intro i j hi hj;obtain rfl:j=0:=by omega
  rfl
 simp only;have wi:=wI k (by omega);simp only[vx,T,seval,av,ak];refine⟨fun g=>Lg ?_,fun g=>Lg ?_⟩
 ·have hkn:k<n:=by omega
  have cu:=Me n k (by omega) hkn;simp only[vx,T,seval,av,ak];refine cH.fresh cu ?_;simp only[vx,T,seval,av,ak,wi,uP,dF,dZ,List.contains,List.elem];refine⟨by omega,Lq ⟨k+1,by omega⟩ ?_ (by show n-(k+1)<n-k;omega)⟩;refine Sa ?_;simp only[ry,seval,rz,av,ak];intro i j hi hj;obtain rfl:j=0:=by omega
  by_cases e:i=k
  ·subst e;rw[if_pos (Nat.lt_succ_self i)]
   simp[a8]
  by_cases h:i<k
  ·rw[if_pos (show i<k+1 by omega)]
   simp[a8,e,h]
  rw[if_neg (show¬i<k+1 by omega)]
  simp[a8,e,h]
 obtain rfl:k=n:=by omega
 have cb':=cb.tO (.refl _) (x':=.rows 1 k fun i _=>if i<k then ak k (fun j=>yw i j)else .nil) (dK.rows rfl fun i j hi hj=>.of_eq (by rw[if_pos hi]));simp only[vx,T,seval,av,ak];refine Cg cb' ?_;simp only[vx,T,seval,av,ak];refine Cg hE ?_;simp only[vx,T,seval,av,ak];refine⟨by omega,?_⟩;refine Lk (fun z:{i:Nat//i≤k}=>⟨[(2,.one .nil),(3,.one (.int .i64 0)),(4,.one (.int .i64 k)),(7,.one (.ptr 1 0)),(9,.one (.own 2 1 0 k)),(43,.one (.int .i64 k)),(44,.one (.int .i64 z.1))],
  [(1,⟨.var [av k (fun _=>k+k) N,.ints .i64 (fX p),.rows 1 n1 f1,.rows 4 n2 f2],true⟩),(2,⟨.rows 32 1 k (fun i _=>if i<z.1 then ak k (fun j=>N i (k+j))else .nil),true⟩)],3,66⟩) (fun z=>k-z.1) ⟨0,Nat.zero_le _⟩ ?_ (fun⟨i,hi⟩=>?_)
 ·refine Sa ?_;simp only[ry,seval,rz,av,ak,Nat.not_lt_zero];intro i j hi hj;obtain rfl:j=0:=by omega
  rfl
 simp only;have wj:=wI i (by omega);simp only[vx,T,seval,av,ak];refine⟨fun g1=>Lg ?_,fun g1=>Lg ?_⟩
 ·obtain⟨h1,h2⟩:=hp i (by omega);simp only[vx,T,seval,av,ak,pq,b6,h2,wj];have e0:((k+k:Nat):Int)-(k:Int)=(k:Int):=by omega
  refine⟨by omega,by omega,by omega,by omega,Lq ⟨i+1,by omega⟩ ?_ (by show k-(i+1)<k-i;omega)⟩;refine Sa ?_;simp only[ry,seval,rz,av,ak];intro i' j SQ hj;obtain rfl:j=0:=by omega
  by_cases e:i'=i
  ·subst e;rw[if_pos (Nat.lt_succ_self i')]
   simp[a8]
   try omega
  by_cases h:i'<i
  ·rw[if_pos (show i'<i+1 by omega)]
   simp[a8,e,h]
  rw[if_neg (show¬i'<i+1 by omega)]
  simp[a8,e,h]
 obtain rfl:k=i:=by omega
 simp only[vx,T,seval,av,ak];exact fT.aF ⟨.cell (dK.rows rfl fun i j hi hj=>.of_eq (by rw[if_pos hi])),.refl _,trivial⟩
open Go Go.Eng
open Go.Tw (El)
open Go.Mx (iH gp red free)
section
variable {A:List R}
def I6 (A:List R)(k j:Nat):Nu A:=if j=k then Nu.int A 1 else Nu.int A 0
theorem Mf (k j:Nat):(I6 A k j).x=yw k j:=by
 unfold I6 yw
 by_cases h:j=k
 ·rw[if_pos h,if_pos (by omega)];rfl
 rw[if_neg h,if_neg (by omega)];rfl
theorem O4 (k j:Nat):(I6 A k j).v=if j=k then R.q 1 else R.q 0:=by
 unfold I6
 split<;>rfl
def Mk (p:List Nat)(G:Nat→Nat→Nu A)(k:Nat):Nat→Nu A:=iH p (fun i=>G i k) (I6 A k) p.length
theorem PS (p:List Nat)(G:Nat→Nat→Nu A)(k j:Nat):(Mk p G k j).x=L6 p (fun i k=>(G i k).x) (fun k=>yw k) p.length k j:=by
 unfold Mk L6;rw[Go.Mx.nO Nu.x]
 congr 1
 funext j
 exact Mf k j
theorem Ps (p:List Nat)(G:Nat→Nat→Nu A)(k j:Nat):(Mk p G k j).v=iH p (fun i=>(G i k).v) (fun j=>if j=k then R.q 1 else R.q 0) p.length j:=by
 unfold Mk;rw[Go.Mx.nO Nu.v]
 congr 1
 funext j
 exact O4 k j
theorem ss {α:Type}{P:α→Prop}{p:List Nat}{f b:Nat→α}(hf:∀i,i<p.length→P (f i))(hb:∀j,P (b j)):∀{n:Nat} (_:n≤p.length) (j:Nat),P (iH p f b n j)
 |0,_,j=>hb j
 |n+1,h,j=>by
  rw[sd]
  split
  ·exact hf n (by omega)
  exact ss hf hb (by omega) j
theorem oX {α:Type}{p:List Nat}{f g b:Nat→α}(h:∀i,i<p.length→f i=g i):∀{n:Nat} (_:n≤p.length) (j:Nat),iH p f b n j=iH p g b n j
 |0,_,j=>rfl
 |n+1,hn,j=>by
  rw[sd,sd,h n (by omega),oX h (by omega) j]
theorem qq (p:List Nat):∀(c i:Nat),i<(fl p c).length→(fl p c).getD i 0<c∧(fl p c).getD i 0∉p
 |0,i,h=>absurd h (Nat.not_lt_zero _)
 |c+1,i,h=>by
  by_cases hc:c∈p
  ·rw[show fl p (c+1)=fl p c from if_pos hc]at h⊢;obtain⟨h1,h2⟩:=qq p c i h;exact⟨by omega,h2⟩
  have e:fl p (c+1)=fl p c++[c]:=if_neg hc;rw[e]at h⊢
  by_cases h1:i<(fl p c).length
  ·obtain⟨h2,h3⟩:=qq p c i h1;rw[X7,List.getElem?_append_left h1,←X7];exact⟨by omega,h3⟩
  rw[X6,List.length_singleton]at h;obtain rfl:i=(fl p c).length:=by omega
  rw[X7,List.getElem?_append_right (Nat.le_refl _),Nat.sub_self];exact⟨by show c<c+1;omega,hc⟩
noncomputable def P0 (M:Nat→Nat→R)(r c i j:Nat):R:=iH (red r M c).2 (fun i'=> -(red r M c).1 i' ((fl (red r M c).2 c).getD i 0)) (fun j=>if j=(fl (red r M c).2 c).getD i 0 then R.q 1 else R.q 0) (red r M c).2.length j
theorem K0 {r c:Nat}(M X G:Nat→Nat→Nu A)(h1:gp r c (vM X) (red r (vM M) c).1)(h2:∀i j,i<r→j<c→(X i j).w≤4^(red r (vM M) c).2.length)
  (hG:∀i k,i<r→k<c→(G i k).v= -(X i k).v∧(G i k).w=(X i k).w) {i j:Nat} (hi:i<(fl (red r (vM M) c).2 c).length):
  (Mk (red r (vM M) c).2 G ((fl (red r (vM M) c).2 c).getD i 0) j).v=P0 (vM M) r c i j∧(Mk (red r (vM M) c).2 G ((fl (red r (vM M) c).2 c).getD i 0) j).w≤4^(red r (vM M) c).2.length:=by
 have hk:=(qq _ c i hi).1;have hl:=(Go.Mx.bz r (vM M) c).len;unfold P0
 generalize(fl (red r (vM M) c).2 c).getD i 0=k at hk
 refine⟨?_,?_⟩
 ·rw[Ps];exact oX (fun i' SQ=>by rw[(hG i' k (by omega) hk).1];exact congrArg _ (h1 i' k (by omega) hk)) (Nat.le_refl _) j
 refine ss (P:=fun a:Nu A=>a.w≤4^(red r (vM M) c).2.length) (fun i' SQ=>?_) (fun j'=>?_) (Nat.le_refl _) j
 ·show(G i' k).w≤_
  rw[(hG i' k (by omega) hk).2];exact h2 i' k (by omega) hk
 show(I6 A k j').w≤_
 have:1≤4^(red r (vM M) c).2.length:=Nat.one_le_pow _ _ (by decide)
 unfold I6
 split<;>exact this
theorem Iq {f:FuncId}(hf:∀a:Nu A,a.w≤wA→∃c:Nu A,c.v= -a.v∧c.w=a.w∧Pr prog f [nX a.x] (nX c.x)){r c W:Nat}(X:Nat→Nat→Nu A)(hw:∀i j,i<r→j<c→(X i j).w≤W)(hW:W≤wA):
  ∃G:Nat→Nat→Nu A,∀i k,i<r→k<c→((G i k).v= -(X i k).v∧(G i k).w=(X i k).w)∧Pr prog f [nX (X i k).x] (nX (G i k).x):=by
 refine Pp (p:=fun i k c=>(c.v= -(X i k).v∧c.w=(X i k).w)∧Pr prog f [nX (X i k).x] (nX c.x)) (X 0 0) fun i j hi hj=>?_;obtain⟨c,c1,c2,c3⟩:=hf (X i j) (Nat.le_trans (hw i j hi hj) hW);exact⟨c,⟨c1,c2⟩,c3⟩
variable (S:Go.Tw.Src 64 A)(hA:A.length≤3)
include S hA
omit S hA in
theorem p4 {q:Nat}(h:q≤5):4^q≤wA:=Nat.le_trans (Nat.pow_le_pow_right (by decide) h) (by decide)
omit S hA in
theorem KU {r c:Nat}(M:Nat→Nat→R)(h5:r≤4∨c≤5):(red r M c).2.length≤5:=by
 have:=Ca r M c
 have:=(Go.Mx.bz r M c).len
 omega
omit S hA in
theorem LD {r c:Nat}(M:Nat→Nat→Nu A)(G:Nat→Nat→Nu A):av (fl (red r (vM M) c).2 c).length (fun _=>c) (fun i=>L6 (red r (vM M) c).2 (fun i k=>(G i k).x) (fun k=>yw k) (red r (vM M) c).2.length ((fl (red r (vM M) c).2 c).getD i 0))=bK (fl (red r (vM M) c).2 c).length (fun _=>c) (fun i j=>Mk (red r (vM M) c).2 G ((fl (red r (vM M) c).2 c).getD i 0) j):=by
 unfold bK
 congr 1
 funext i j
 exact(PS _ _ _ _).symm
theorem zM {r c:Nat}(M:Nat→Nat→Nu A)(hr:r<2^30)(hc:c<2^30)(Tt:r*c<2^30)(h0:r=0→c=0)(hw:∀i j,i<r→j<c→(M i j).w≤1)(h5:r≤4∨c≤5):
  ∃K:Nat→Nat→Nu A,(∀i j,i<(fl (red r (vM M) c).2 c).length→(K i j).v=P0 (vM M) r c i j∧(K i j).w≤4^(red r (vM M) c).2.length)∧
   Pr prog 12 [.one (bK r (fun _=>c) M)] (.aF [.one (bK (fl (red r (vM M) c).2 c).length (fun _=>c) K),.one (.int .i64 0)]):=by
 obtain⟨X,d,x1,x2,x3⟩:=uo S hA M hr hc Tt h0 hw h5;obtain⟨G,hG⟩:=Iq (f:=45) (fun a ha=>Dr S hA ha) X x2 (p4 (KU (vM M) h5));have E:=Go.Mx.bz r (vM M) c;refine⟨fun i j=>Mk (red r (vM M) c).2 G ((fl (red r (vM M) c).2 c).getD i 0) j,fun i j hi=>K0 M X G x1 x2 (fun i k hi hk=>(hG i k hi hk).1) hi,?_⟩;rw[←LD];exact Lm (fun i j=>(M i j).x) (fun i j=>(X i j).x) (fun i k=>(G i k).x) (red r (vM M) c).2 _ _ hr hc h0 E.len E.lt x3 (fun k i hk hi=>(hG i k (Nat.lt_of_lt_of_le hi E.len) hk).2) ⟨_,_,rfl⟩ ⟨_,_,rfl⟩
end
open Go Go.Eng
open Go.Tw (El)
open Go.Mx (iH gp red free)
section
variable {A:List R}
def fb (c:Nat)(M:Nat→Nat→Nu A)(b:Nat→Nu A)(i j:Nat):Nu A:=if j<c then M i j else b i
theorem N6 (c:Nat)(M:Nat→Nat→Nu A)(b:Nat→Nu A)(i j:Nat):(fb c M b i j).x=EG c (fun i j=>(M i j).x) (fun i=>(b i).x) i j:=by
 unfold fb EG
 split<;>rfl
def dR (r:Nat):Nat:=if r=0 then 0 else 1
noncomputable def P4 (r c:Nat)(M:Nat→Nat→R)(j:Nat):R:=iH (red r M (c+dR r)).2 (fun i=>(red r M (c+dR r)).1 i c) (fun _=>R.q 0) (red r M (c+dR r)).2.length j
def I3 (c:Nat)(p:List Nat)(X:Nat→Nat→Nu A):Nat→Nu A:=iH p (fun i=>X i c) (fun _=>Nu.int A 0) p.length
theorem L9 (c:Nat)(p:List Nat)(X:Nat→Nat→Nu A):(fun j=>(I3 c p X j).x)=iH p (fun i=>(X i c).x) (fun _=>xT 0) p.length:=by
 funext j
 unfold I3;rw[Go.Mx.nO Nu.x];rfl
theorem Lf {r c:Nat}(M X:Nat→Nat→Nu A)(h1:gp r (c+dR r) (vM X) (red r (vM M) (c+dR r)).1)(h2:∀i j,i<r→j<c+dR r→(X i j).w≤4^(red r (vM M) (c+dR r)).2.length)(j:Nat):
  (I3 c (red r (vM M) (c+dR r)).2 X j).v=P4 r c (vM M) j∧(I3 c (red r (vM M) (c+dR r)).2 X j).w≤4^(red r (vM M) (c+dR r)).2.length:=by
 have hl:=(Go.Mx.bz r (vM M) (c+dR r)).len;have hd:∀i,i<(red r (vM M) (c+dR r)).2.length→i<r∧c<c+dR r:=fun i hi=>⟨by omega,by unfold dR;rw[if_neg (by omega)];omega⟩;unfold I3 P4;refine⟨?_,?_⟩
 ·rw[Go.Mx.nO Nu.v];exact oX (fun i hi=>h1 i c (hd i hi).1 (hd i hi).2) (Nat.le_refl _) j
 refine ss (P:=fun a:Nu A=>a.w≤4^(red r (vM M) (c+dR r)).2.length) (fun i hi=>h2 i c (hd i hi).1 (hd i hi).2) (fun _=>?_) (Nat.le_refl _) j;exact Nat.one_le_pow _ _ (by decide)
variable (S:Go.Tw.Src 64 A)(hA:A.length≤3)
include S hA
omit S hA in
theorem CI {r c d:Nat}(M:Nat→Nat→Nu A)(b:Nat→Nu A):bK r (fun _=>c+d) (fb c M b)=av r (fun _=>c+d) (EG c (fun i j=>(M i j).x) (fun i=>(b i).x)):=by
 unfold bK
 congr 1
 funext i j
 exact N6 c M b i j
theorem K9 {r c:Nat}(M:Nat→Nat→Nu A)(b:Nat→Nu A)(hr:r<2^30)(hc:c<2^29)(Tt:r*(c+dR r)<2^30)(h0:r=0→c=0)(hw:∀i j,i<r→j<c+dR r→(fb c M b i j).w≤1)(h5:r≤4∨c≤4):
  ∃X:Nat→Nu A,(∀j,(X j).v=P4 r c (vM (fb c M b)) j∧(X j).w≤4^(red r (vM (fb c M b)) (c+dR r)).2.length)∧
   (c∈(red r (vM (fb c M b)) (c+dR r)).2→Pr prog 9 [.one (bK r (fun _=>c) M),.one (oQ r b)] (.aF [.one .nil,.one (.int .i64 13)]))∧
   (c∉(red r (vM (fb c M b)) (c+dR r)).2→Pr prog 9 [.one (bK r (fun _=>c) M),.one (oQ r b)] (.aF [.one (oQ c X),.one (.int .i64 0)])):=by
 have hd:dR r≤1:=by unfold dR;split<;>omega
 obtain⟨X,d,x1,x2,x3⟩:=uo S hA (fb c M b) hr (show c+dR r<2^30 by omega) Tt (fun h=>by unfold dR;rw[if_pos h];exact h0 h) hw (by omega);have E:=Go.Mx.bz r (vM (fb c M b)) (c+dR r);rw[CI]at x3;refine⟨I3 c (red r (vM (fb c M b)) (c+dR r)).2 X,fun j=>Lf (fb c M b) X x1 x2 j,fun h=>?_,fun h=>?_⟩
 ·exact Be (fun i j=>(M i j).x) (fun i j=>(X i j).x) (fun i=>(b i).x) _ _ _ hr (by omega) h0 rfl E.len E.lt x3 ⟨_,_,rfl⟩ ⟨_,_,rfl⟩ _ (fun _=>rfl) (fun h'=>absurd h h')
 refine Be (fun i j=>(M i j).x) (fun i j=>(X i j).x) (fun i=>(b i).x) _ _ _ hr (by omega) h0 rfl E.len E.lt x3 ⟨_,_,rfl⟩ ⟨_,_,rfl⟩ _ (fun h'=>absurd h' h) (fun _=>?_);unfold oQ;rw[L9]
end
open Go Go.Eng
open Go.Tw (El)
def uV (l:List Int)(i:Nat):Nb:=xT (l.getD i 0)
theorem jN (l:List Int)(hl:l.length<2^30)(hb:∀i,i<l.length→(l.getD i 0).natAbs<2^60):Pr prog 15 [.one (.ints .i64 l)] (.one (ak l.length (uV l))):=by
 refine pw func15 ⟨[0,2,3,5,6,7,8,9],[]⟩ ?_;simp only[Tryz.f15,ntmps15,iz,seval];simp only[vx,T,seval];refine Lk (fun y:{i:Nat//i≤l.length}=>⟨[(2,.one .nil),(3,.one (.own 1 2 0 y.1)),(6,.one (.ints .i64 l)),(7,.one (.int .i64 l.length)),(8,.one (.int .i64 y.1))],[(1,⟨.rows 37 2 y.1 (fun i=>bw (uV l i)),true⟩)],2,19⟩) (fun y=>l.length-y.1) ⟨0,Nat.zero_le _⟩ ?_ (fun⟨i,hi⟩=>?_)
 ·refine Sa ?_;simp only[ry,seval,rz]
 simp only;have wi:=wI i (by omega);simp only[vx,T,seval];refine⟨fun g=>Lg ?_,fun g=>Lg ?_⟩
 ·have RG:i<l.length:=by omega
  have hz:=hb i RG;have c:=kQ (l.getD i 0) (by omega) (by omega);simp only[vx,T,seval];refine⟨by omega,Cg c ?_⟩;simp only[vx,T,seval,nX,nV,tC,aa,wi];refine⟨⟨by omega,by omega⟩,Lq ⟨i+1,by omega⟩ ?_ (by show l.length-(i+1)<l.length-i;omega)⟩;refine Sa ?_;simp only[ry,seval,rz,tC,aa];exact rA (uV l) i
 obtain rfl:i=l.length:=by omega
 simp only[vx,T,seval,ak];exact Ve rfl
def JS (n:Nat)(a:Nat→Nb)(i:Nat):Nb:=if n=0 then xT 0 else a (i%n)
theorem O6 {n:Nat}(a:Nat→Nb)(i:Nat)(hn:n<2^30)(hi:i<2^30):Pr prog 8 [.one (ak n a),.one (.int .i64 i)] (nX (JS n a i)):=by
 have c0:=kQ 0 (by decide) (by decide);refine pw func8 ⟨[0,1,4,11],[]⟩ ?_;simp only[Tryz.f8,ntmps8,iz,seval];simp only[vx,T,seval,ak];refine⟨fun h=>Lg ?_,fun h=>Lg ?_⟩
 ·have e:JS n a i=xT 0:=if_pos (by omega);simp only[vx,T,seval];refine Cg c0 ?_;simp only[vx,T,seval,nX,nV,tC,aa];rw[e];exact Ve rfl
 have e:JS n a i=a (i%n):=if_neg (by omega);simp only[vx,T,seval,ak];refine⟨fun h=>absurd h (by omega),fun _=>Lg ?_⟩;have hm:=Nat.mod_lt i (show 0<n by omega);have et:(i:Int).tmod (n:Int)=((i%n:Nat):Int):=rfl;simp only[vx,T,seval,ak,bw,tC,aa,et];refine⟨by omega,by omega,?_⟩;rw[e];exact Ve rfl
def E0 (a:Nat→Nb):Nat→Nat
 |0=>0
 |n+1=>if E0 a n<(a n).1.length then(a n).1.length else E0 a n
theorem F8 {n:Nat}(a:Nat→Nb)(hn:n<2^30):Pr prog 28 [.one (ak n a)] (.one (.int .i64 (E0 a n))):=by
 refine pw func28 ⟨[0,2,3,4,8,18],[]⟩ ?_;simp only[Tryz.f28,ntmps28,iz,seval];simp only[vx,T,seval,ak];refine Lk (fun y:{i:Nat//i≤n}=>⟨[(0,.one (ak n a)),(2,.one (.int .i64 0)),(3,.one (.int .i64 (E0 a y.1))),(4,.one (.int .i64 y.1))],[],1,26⟩) (fun y=>n-y.1) ⟨0,Nat.zero_le _⟩ ?_ (fun⟨i,hi⟩=>?_)
 ·refine Sa ?_;simp only[ry,seval,rz,ak,E0]
 simp only;have wi:=wI i (by omega);simp only[vx,T,seval,ak];refine⟨fun g=>Lg ?_,fun g=>Lg ?_⟩
 ·have R6:i<n:=by omega
  simp only[vx,T,seval,ak,bw,tC,aa];refine⟨by omega,?_⟩;refine⟨fun g2=>Lg ?_,fun g2=>Lg ?_⟩
  ·have e:E0 a (i+1)=(a i).1.length:=if_pos (by omega);simp only[vx,T,seval,ak,bw,tC,aa,wi];refine⟨by omega,Lq ⟨i+1,by omega⟩ ?_ (by show n-(i+1)<n-i;omega)⟩;refine Sa ?_;simp only[ry,seval,rz,ak,e]
  have e:E0 a (i+1)=E0 a i:=if_neg (by omega);simp only[vx,T,seval,ak,wi];refine Lq ⟨i+1,by omega⟩ ?_ (by show n-(i+1)<n-i;omega);refine Sa ?_;simp only[ry,seval,rz,ak,e]
 obtain rfl:i=n:=by omega
 simp only[vx,T,seval,ak];exact Ve rfl
open Go Go.Eng
open Go.Tw (El)
def gD (s:Nat):Nat:=1+s%12
def ED (r w:Nat):Nat:=if r=0 then 0 else w
def xf (n:Nat)(a:Nat→Nb)(cs:List Int)(w i j:Nat):Nb:=JS n a (cs.getD (i*w+j) 0).toNat
theorem Ej {n:Nat}(a:Nat→Nb)(oc:C)(cs:List Int)(s most:Nat)(hn:n<2^30)(hs:s<256)(R2:∀i,i<cs.length→0≤cs.getD i 0∧cs.getD i 0<256)(hl:cs.length<2^63)(hm:most≤100)
  (cb:Pr prog 7 [.one oc] (.one (ak n a))) (ca:Pr prog 27 [.one (ak n a)] (.one (.bool true))) (ho:∃n f,oc= .rows 5 n f) {R:V} (h1:most<cs.length→R= .aF [.one .nil,.one (.bool false)])
  (h2:cs.length≤most→R= .aF [.one (av (cs.length/gD s) (fun _=>ED (cs.length/gD s) (gD s)) (xf n a cs (gD s))),.one (.bool (decide ((E0 a n:Int)≤2)))]):
  Pr prog 5 [.agg [oc,.ints .u8 cs,.int .u8 s],.one (.int .i64 most)] R:=by
 obtain⟨no,fo,rfl⟩:=ho;have cg:=F8 a hn;refine pw func5 ⟨[0,1,2,4,5,6,7,8,9,10,11,29,36,42],[]⟩ ?_;simp only[Tryz.f5,ntmps5,iz,seval];simp only[vx,T,seval,ak];refine Cg cb ?_;have ew:IntKind.i64.wrap (1+(IntKind.i64.wrap (s:Int)).tmod 12)=((gD s:Nat):Int):=by
  rw[IntWalk.i64_in (s:Int) (by omega),show (s:Int).tmod 12=((s%12:Nat):Int)from rfl]
  have:=Nat.mod_lt s (show 0<12 by decide)
  rw[IntWalk.i64_in _ (by omega)];unfold gD;omega
 have w1:1≤gD s∧gD s≤12:=by
  have:=Nat.mod_lt s (show 0<12 by decide)
  unfold gD;omega
 generalize gD s=w at ew w1 h2
 simp only[vx,T,seval,ak,ew];refine Cg ca ?_;simp only[vx,T,seval,ak,ew];refine⟨fun g=>Lg ?_,fun g=>Lg ?_⟩
 ·have e:=h1 (by omega);simp only[vx,T,seval];exact Ve e.symm
 have e:=h2 (by omega);simp only[vx,T,seval];have hdv:=Nat.div_mul_le_self cs.length w;refine Lk (fun y:{q:Nat//q≤cs.length/w}=>⟨[(2,.one (.ptr 1 0)),(4,.one .nil),(5,.one (.bool false)),(6,.one (ak n a)),(7,.one (.int .i64 w)),(8,.one (.own 2 1 0 y.1)),(9,.one (.int .i64 (y.1*w:Nat)))],
  [(1,⟨.var [.rows 5 no fo,.ints .u8 cs,.int .u8 s],true⟩),(2,⟨.rows 32 1 y.1 (fun i _=>ak w (xf n a cs w i)),true⟩)],3,66⟩) (fun y=>cs.length/w-y.1) ⟨0,Nat.zero_le _⟩ ?_ (fun⟨q,hq⟩=>?_)
 ·refine Sa ?_;simp only[ry,seval,rz,ak,Nat.zero_mul]
 simp only;have wa:IntKind.i64.wrap (((q*w:Nat):Int)+(w:Int))=(((q+1)*w:Nat):Int):=by
  have:q*w≤cs.length:=Nat.le_trans (Nat.mul_le_mul_right _ hq) hdv
  rw[Nat.add_mul,Nat.one_mul,IntWalk.i64_in _ (by omega)];omega
 simp only[vx,T,seval,ak,wa];refine⟨fun g1=>Lg ?_,fun g1=>Lg ?_⟩
 ·have Um:q<cs.length/w:=by
   have:(q+1)*w≤cs.length:=by omega
   exact(Nat.le_div_iff_mul_le (by omega)).2 this
  have hqw:q*w+w≤cs.length:=by
   have:(q+1)*w≤cs.length:=by omega
   rw[Nat.add_mul,Nat.one_mul]at this;exact this
  simp only[vx,T,seval,ak];refine Lk (fun y:{j:Nat//j≤w}=>⟨[(2,.one (.ptr 1 0)),(4,.one .nil),(5,.one (.bool false)),(6,.one (ak n a)),(7,.one (.int .i64 w)),(8,.one (.own 2 1 0 q)),(9,.one (.int .i64 (q*w:Nat))),(10,.one (.own 3 2 0 y.1)),(11,.one (.int .i64 y.1))],
   [(1,⟨.var [.rows 5 no fo,.ints .u8 cs,.int .u8 s],true⟩),(2,⟨.rows 32 1 q (fun i _=>ak w (xf n a cs w i)),true⟩),(3,⟨.rows 37 2 y.1 (fun j=>bw (xf n a cs w q j)),true⟩)],4,66⟩) (fun y=>w-y.1) ⟨0,Nat.zero_le _⟩ ?_ (fun⟨j,hj⟩=>?_)
  ·refine Sa ?_;simp only[ry,seval,rz,ak]
  simp only;have wj:=wI j (by omega);simp only[vx,T,seval,ak];refine⟨fun g2=>Lg ?_,fun g2=>Lg ?_⟩
  ·have ZQ:j<w:=by omega
   have wq:IntKind.i64.wrap (((q*w:Nat):Int)+(j:Int))=((q*w+j:Nat):Int):=by rw[IntWalk.i64_in _ (by omega)];omega
   obtain⟨b1,b2⟩:=R2 (q*w+j) (by omega);obtain⟨v,hv⟩:∃v:Nat,cs.getD (q*w+j) 0=v:=⟨(cs.getD (q*w+j) 0).toNat,by omega⟩;have wv:IntKind.i64.wrap (v:Int)=(v:Int):=IntWalk.i64_in _ (by omega);have hc:=O6 a v hn (by omega);have ev:xf n a cs w q j=JS n a v:=by unfold xf;rw[hv];rfl
   simp only[vx,T,seval,ak,wq,hv,wv];refine⟨by omega,Cg hc ?_⟩;simp only[vx,T,seval,nX,nV,tC,aa,wj];refine⟨⟨by omega,by omega⟩,Lq ⟨j+1,by omega⟩ ?_ (by show w-(j+1)<w-j;omega)⟩;refine Sa ?_;simp only[ry,seval,rz,ak,tC,aa];have s:=rA (xf n a cs w q) j;rw[ev]at s;exact s
  obtain rfl:w=j:=by omega
  have hq1:q<2^40:=by
   have:=Nat.le_mul_of_pos_right q (show 0<w by omega)
   omega
  simp only[vx,T,seval,ak,wa];refine⟨⟨by omega,by omega⟩,Lq ⟨q+1,by omega⟩ ?_ (by show cs.length/w-(q+1)<cs.length/w-q;omega)⟩;refine Sa ?_;simp only[ry,seval,rz,ak];exact MH (fun i=>ak w (xf n a cs w i)) q
 obtain rfl:cs.length/w=q:=by
  refine Nat.le_antisymm (Nat.le_of_lt_succ ((Nat.div_lt_iff_lt_mul (by omega)).2 (show cs.length<(q+1)*w by omega))) hq
 simp only[vx,T,seval,ak];refine Cg cg ?_;simp only[vx,T,seval,ak];rw[e];exact fT.aF ⟨.cell (dK.rows rfl fun i j hi hj=>.of_eq (by unfold ED ak;rw[if_neg (by omega)])),.refl _,trivial⟩
open Go Go.Eng
open Go.Tw (El ax TG cB iL)
open Go.Mx (sm iv gp red iH free)
theorem Dx {A:List R}{x:List El×El}{v:R}(h:cB A 64 x.1 x.2 v)(h2:x.1.length≤2):ax A x.1 x.2 v (300*1-1) (3*1):=by
 obtain⟨T,ha,hv,hb,_⟩:=h;refine⟨T,ha,hv,fun c=>?_⟩;rw[←hv]
 refine(Go.Tw.Sz.expr (c:=c) ha hb (fun j hj=>.gen ⟨⟨_,T.mem j hj,rfl⟩,rfl⟩)).mono ?_
 have e:=Go.Tw.xB (B:=64) (c:=c) x.1.length
 rcases(by omega:x.1.length=0∨x.1.length=1∨x.1.length=2)with h|h|h<;>rw [h]at e⊢<;>omega
theorem Gg (a:Nat→Nb):∀{n i:Nat},i<n→(a i).1.length≤E0 a n
 |n+1,i,h=>by
  unfold E0
  by_cases e:i=n
  ·subst e
   split<;>omega
  have:=Gg a (show i<n by omega)
  split<;>omega
def IF (r:List Bx):C:=.rows 5 r.length (fun i=>oC (r.getD i default))
theorem OF (l:List (List El×El))(hl:l.length<2^38)(h:∀i,i<l.length→Pr prog 56 [nX (l.getD i default)] (.one (.bool true))):Pr prog 27 [.one (bV l)] (.one (.bool true)):=by
 refine pw func27 ⟨[0,2,3,7,15],[]⟩ ?_;simp only[Tryz.f27,ntmps27,iz,seval];simp only[vx,T,seval,bV];refine Lk (fun y:{i:Nat//i≤l.length}=>⟨[(0,.one (bV l)),(2,.one (.bool false)),(3,.one (.int .i64 y.1))],[],1,16⟩) (fun y=>l.length-y.1) ⟨0,Nat.zero_le _⟩ ?_ (fun⟨i,hi⟩=>?_)
 ·refine Sa ?_;simp only[ry,seval,rz,bV]
 simp only;have wi:=wI i (by omega);simp only[vx,T,seval,bV];refine⟨fun g=>Lg ?_,fun g=>Lg ?_⟩
 ·have c:=h i (by omega);obtain⟨x,hx⟩:∃x,x=l.getD i default:=⟨_,rfl⟩;rw[←hx]at c;simp only[vx,T,seval,bV,fm,←hx,bw];refine⟨by omega,Cg c ?_⟩;simp only[vx,T,seval,bV,wi];refine Lq ⟨i+1,by omega⟩ ?_ (by show l.length-(i+1)<l.length-i;omega);refine Sa ?_;simp only[ry,seval,rz,bV]
 simp only[vx,T,seval,bV];exact Ve rfl
theorem yp {A:List R}(S:Go.Tw.Src 64 A)(hA:A.length≤3){x:List El×El}{v:R}(h:cB A 64 x.1 x.2 v):Pr prog 56 [nX x] (.one (.bool true)):=by
 have h3:=h.tg.kg S hA;have key:∀{a:El},Go.Tw.iL 64 a→∀i,i<a.length→¬nc 6 (a.getD i default):=fun{a} hb i hi hq=>by
  have hm:=hb (a.getD i default) (by rw[X7,X8 hi];exact List.getElem_mem _)
  have:=Go.Tw.sD hm.1 hm.2
  unfold nc at hq;unfold qm at this;omega
 refine KZ x (by rw[h.len];exact aN (by omega)) (by omega) (fun j hj=>by rw[(h.tg.rd.rl j hj).1];exact aN (by omega)) ⟨fun e=>(by cases e),fun hl=>?_⟩
 rcases hl with⟨i,h1,h2⟩|⟨j,h1,i,h2,h3⟩
 ·exact absurd h2 (key h.bits i h1)
 exact absurd h3 (key (h.tb j h1) i h2)
theorem Pk (r:List Bx)(hr:∀o∈r,o.Ok)(Vi:r.length<2^63):∃(A:List R) (n:Nat) (a:Nat→Nb),Go.Tw.Src 64 A∧A.length≤3∧n≤24∧Pr prog 7 [.one (IF r)] (.one (ak n a))∧
  Pr prog 27 [.one (ak n a)] (.one (.bool true))∧((E0 a n:Int)≤2→∃f:Nat→Nu A,∀v,(f v).x=JS n a v∧(f v).w=1):=by
 obtain⟨A,l,S,hA,hl,hs,cb⟩:=JV r hr Vi;have get:∀i,i<l.length→∃v,cB A 64 (l.getD i default).1 (l.getD i default).2 v:=fun i hi=>hs _ (by rw[X7,X8 hi];exact List.getElem_mem _);refine⟨A,l.length,fun i=>l.getD i default,S,hA,hl,cb,OF l (by omega) fun i hi=>?_,fun h2=>?_⟩
 ·obtain⟨v,hv⟩:=get i hi;exact yp S hA hv
 have hx:∀v,∃y:Nu A,y.x=JS l.length (fun i=>l.getD i default) v∧y.w=1:=fun v=>by
  by_cases h0:l.length=0
  ·exact⟨Nu.int A 0,(if_pos h0).symm,rfl⟩
  have hm:=Nat.mod_lt v (show 0<l.length by omega);obtain⟨w,hw⟩:=get _ hm;have hq:=Gg (fun i=>l.getD i default) hm;exact⟨⟨_,w,1,Nat.le_refl _,Dx hw (by have hq:(l.getD (v%l.length) default).1.length≤_:=hq;omega)⟩,(if_neg h0).symm,rfl⟩
 exact Classical.skolem.1 hx
section
variable {A:List R}(S:Go.Tw.Src 64 A)(hA:A.length≤3)
include S hA
end
end Go.Proofs.YthnkehdgnagmnaaGreat
namespace Go.Mx
open Go Go.R
theorem Qv (x:Rat):iv (q x)=q x⁻¹:=by
 by_cases h:x=0
 ·subst h;unfold iv;rw[dif_neg (by simp)];exact congrArg q (by decide+kernel)
 have h0:q x≠q 0:=fun e=>h (kr e);refine ju (z:=q x) ?_ h0;rw[mul_comm,jw h0,←dU,Rat.inv_mul_cancel x h]
abbrev Mq:=Nat→Nat→Rat
def Io (M:Mq)(k:Nat):Nat→Nat→Nat
 |0,p=>p
 |n+1,p=>if M p k=0 then Io M k n (p+1)else p
def NS (M:Mq)(a b:Nat):Mq:=fun i=>if i=a then M b else if i=b then M a else M i
def M8 (M:Mq)(t k:Nat):Mq:=fun i j=>if i=t then M t j*(M t k)⁻¹ else M i j-M t j*(M t k)⁻¹*M i k
def Lx (r k:Nat)(s:Mq×List Nat):Mq×List Nat:=
 if Io s.1 k (r-s.2.length) s.2.length<r then(M8 (NS s.1 s.2.length (Io s.1 k (r-s.2.length) s.2.length)) s.2.length k,s.2++[k])else s
def zB (r:Nat)(M:Mq):Nat→Mq×List Nat
 |0=>(M,[])
 |k+1=>Lx r k (zB r M k)
def qM (M:Mq):Mt:=fun i j=>q (M i j)
theorem L8 (M:Mq)(k:Nat):∀n p,jM (qM M) k n p=Io M k n p
 |0,_=>rfl
 |n+1,p=>by
  unfold jM Io;rw[L8 M k n (p+1)]
  by_cases h:M p k=0
  ·rw[if_pos h,if_pos (show qM M p k=q 0 by unfold qM;rw[h])]
  rw[if_neg h,if_neg (show qM M p k≠q 0 from fun e=>h (kr e))]
theorem O8 (M:Mq)(a b:Nat):gy (qM M) a b=qM (NS M a b):=by
 funext i j
 unfold gy NS qM
 by_cases h1:i=a
 ·simp only[if_pos h1]
 by_cases h2:i=b
 ·simp only[if_neg h1,if_pos h2]
 simp only[if_neg h1,if_neg h2]
theorem Pe (M:Mq)(t k:Nat):fx (qM M) t k=qM (M8 M t k):=by
 funext i j
 unfold fx M8 qM;simp only[Qv]
 by_cases h:i=t
 ·simp only[if_pos h,dU]
 simp only[if_neg h,Rat.sub_eq_add_neg,vA,vR,dU];rfl
theorem My (r:Nat)(M:Mq):∀k,red r (qM M) k=(qM (zB r M k).1,(zB r M k).2)
 |0=>rfl
 |k+1=>by
  rw[red,My r M k];unfold gB;show _=(qM (Lx r k (zB r M k)).1,(Lx r k (zB r M k)).2);unfold Lx;simp only[L8]
  split
  ·rw[O8,Pe]
  rfl
end Go.Mx
namespace Go.Mx
open Go Go.R
theorem FT (M:Mt)(a:Nat):gy M a a=M:=by
 funext i
 unfold gy
 by_cases h:i=a
 ·rw[if_pos h,h]
 rw[if_neg h,if_neg h]
theorem FL {r k:Nat}{s:Mt×List Nat}(h:s.2.length<r)(h0:s.1 s.2.length k≠q 0):gB r k s=(fx s.1 s.2.length k,s.2++[k]):=by
 have e:jM s.1 k (r-s.2.length) s.2.length=s.2.length:=by
  obtain⟨n,hn⟩:∃n,r-s.2.length=n+1:=⟨r-s.2.length-1,by omega⟩;rw[hn];unfold jM;rw[if_neg h0]
 unfold gB;rw[e,if_pos h,FT]
theorem yB {r k:Nat}{s:Mt×List Nat}(h:s.2.length=r):gB r k s=s:=by
 unfold gB;rw[h,Nat.sub_self];unfold jM;rw[if_neg (Nat.lt_irrefl r)]
theorem MS:iv (q 1)=q 1:=by
 refine ju (z:=q 1) ?_ eR;rw[mul_comm,jw eR,mul_one]
theorem GY {s:R}(hs:s≠q 0){M:Mt}(h00:M 0 0=s)(h01:M 0 1=q 0)(h02:M 0 2=q 1)(h03:M 0 3=q 0)(TU:M 1 0=q 0)(Ws:M 1 1=q 1)(U1:M 1 2=q 0)(h13:M 1 3=q 1):
  (red 2 M 4).2=[0,1]∧(red 2 M 4).1 0 2=iv s∧(red 2 M 4).1 0 3=q 0∧(red 2 M 4).1 1 2=q 0∧(red 2 M 4).1 1 3=q 1:=by
 have e1:red 2 M 1=(fx M 0 0,[0]):=FL (s:=(M,[])) (by show 0<2;decide) (by show M 0 0≠q 0;rw[h00];exact hs);have n0:∀j,fx M 0 0 0 j=M 0 j*iv s:=fun j=>by unfold fx;rw[if_pos rfl,h00]
 have n1:∀j,fx M 0 0 1 j=M 1 j:=fun j=>by unfold fx;rw[if_neg (by decide),TU,mul_zero,sub_zero]
 have e2:red 2 M 2=(fx (fx M 0 0) 1 1,[0,1]):=by
  show gB 2 1 (red 2 M 1)=_;rw[e1];exact FL (s:=(fx M 0 0,[0])) (by show 1<2;decide) (by show fx M 0 0 1 1≠q 0;rw[n1,Ws];exact eR)
 have e4:red 2 M 4=(fx (fx M 0 0) 1 1,[0,1]):=by
  show gB 2 3 (gB 2 2 (red 2 M 2))=_;rw[e2,yB (r:=2) (s:=(fx (fx M 0 0) 1 1,[0,1])) rfl,yB (r:=2) (s:=(fx (fx M 0 0) 1 1,[0,1])) rfl]
 have m0:∀j,fx (fx M 0 0) 1 1 0 j=M 0 j*iv s:=fun j=>by
  have:fx (fx M 0 0) 1 1 0 j=fx M 0 0 0 j-fx M 0 0 1 j*iv (fx M 0 0 1 1)*fx M 0 0 0 1:=if_neg (by decide)
  rw[this,n0,n0 1,h01,zero_mul,mul_zero,sub_zero]
 have m1:∀j,fx (fx M 0 0) 1 1 1 j=M 1 j:=fun j=>by
  have:fx (fx M 0 0) 1 1 1 j=fx M 0 0 1 j*iv (fx M 0 0 1 1):=if_pos rfl
  rw[this,n1,n1,Ws,MS,mul_one]
 rw[e4];exact⟨rfl,(m0 2).trans (by rw[h02,one_mul]),(m0 3).trans (by rw[h03,zero_mul]),(m1 2).trans U1,(m1 3).trans h13⟩
end Go.Mx
namespace Go.Proofs.YthnkehdgnagmnaaGreat
open Go.Proofs.Tryz
open Go Go.Eng
open Go.Tw (El ax TG)
open Go.Mx (sm iv gp red iH zB)
def uM (l:List (List Int))(i j:Nat):Int:=(l.getD i []).getD j 0
abbrev O0 (r c:Nat)(l:List (List Int)):Prop:=∀i,i<r→∀j,j<c→(uM l i j).natAbs<2^60
section
variable {A:List R}
def iN (A:List R)(l:List (List Int))(i j:Nat):Nu A:=if h:(uM l i j).natAbs<2^60 then Nu.int A (uM l i j) h else Nu.int A 0
theorem Qf {l:List (List Int)}{i j:Nat}(h:(uM l i j).natAbs<2^60):(iN A l i j).x=xT (uM l i j):=by unfold iN;rw[dif_pos h];rfl
theorem FG {l:List (List Int)}{i j:Nat}(h:(uM l i j).natAbs<2^60):(iN A l i j).v=R.q (Rat.ofInt (uM l i j)):=by unfold iN;rw[dif_pos h];rfl
theorem xZ (l:List (List Int))(i j:Nat):(iN A l i j).w=1:=by unfold iN;split<;>rfl
theorem qv {c:Nat}(a:List Int){l:List (List Int)}{i:Nat}(h:∀j,j<c→a.getD j 0=uM l i j∧(uM l i j).natAbs<2^60):dK (ak c (uV a)) (ak c (fun j=>(iN A l i j).x)):=
 dK.rows rfl fun j k hj _=>.of_eq (by show bw (xT (a.getD j 0)) k=bw (iN A l i j).x k;rw[Qf (h j hj).2,(h j hj).1])
theorem FH {r c:Nat}(M:Nat→Nat→Nu A)(l n:List (List Int))(p:List Nat)(hM:∀i j,i<r→j<c→(M i j).v=R.q (Rat.ofInt (uM l i j)))
  (h:(zB r (fun i j=>Rat.ofInt (uM l i j)) c).2=p∧∀i,i<r→∀j,j<c→(zB r (fun i j=>Rat.ofInt (uM l i j)) c).1 i j=Rat.ofInt (uM n i j)):
  (red r (vM M) c).2=p∧∀i j,i<r→j<c→(red r (vM M) c).1 i j=R.q (Rat.ofInt (uM n i j)):=by
 obtain⟨h1,h2⟩:=Go.Mx.pH (M:=vM M) (N:=Go.Mx.qM fun i j=>Rat.ofInt (uM l i j)) (r:=r) (c:=c) (fun i j hi hj=>hM i j hi hj) c (Nat.le_refl c);rw[Go.Mx.My]at h1 h2;refine⟨h2.trans h.1,fun i j hi hj=>(h1 i j hi hj).trans ?_⟩;show R.q _=_;rw[h.2 i hi j hj]
def QE (a:List Int):C:=.rows 1 1 (fun i j=>[ak 2 (uV a)].getD (i*1+j) .any)
def PU (a b:List Int):C:=.rows 1 2 (fun i j=>[ak 2 (uV a),ak 2 (uV b)].getD (i*1+j) .any)
theorem H3 {a:List Int}(h:O0 1 2 [a]):dK (QE a) (bK 1 (fun _=>2) (iN A [a])):=
 dK.rows rfl fun i j hi hj=>by
  obtain rfl:i=0:=by omega
  obtain rfl:j=0:=by omega
  exact qv a fun j hj=>⟨rfl,h 0 (by decide) j hj⟩
theorem yb {a b:List Int}(h:O0 2 2 [a,b]):dK (PU a b) (bK 2 (fun _=>2) (iN A [a,b])):=
 dK.rows rfl fun i j hi hj=>by
  obtain rfl:j=0:=by omega
  match i,hi with
  |0,_=>exact qv a fun j hj=>⟨rfl,h 0 (by decide) j hj⟩
  |1,_=>exact qv b fun j hj=>⟨rfl,h 1 (by decide) j hj⟩
def Qr (a b:Nb):C:=.rows 2 2 (fun i j=>[tC a.1.length a.1,aa a.2,tC b.1.length b.1,aa b.2].getD (i*2+j) .any)
def inv2 (x:Nb):C:=.rows 1 2 (fun i j=>[Qr x (xT 0),ak 2 (uV [0,1])].getD (i*1+j) .any)
def uT (a:Nu A)(i j:Nat):Nu A:=if i=0∧j=0 then a else iN A [[0,0],[0,1]] i j
def sX (a:Nu A)(i j:Nat):Nu A:=if j<2 then uT a i j else I6 A i (j-2)
theorem CO (a:Nu A):dK (inv2 a.x) (bK 2 (fun _=>2) (uT a)):=
 dK.rows rfl fun i j hi hj=>by
  obtain rfl:j=0:=by omega
  match i,hi with
  |0,_=>
   exact dK.rows rfl fun k l hk hl=>by
    match k,hk,l,hl with
    |0,_,0,_=>exact .refl _
    |0,_,1,_=>exact .refl _
    |1,_,0,_=>exact .refl _
    |1,_,1,_=>exact .refl _
  |1,_=>exact qv (A:=A) (c:=2) [0,1] (l:=[[0,0],[0,1]]) (i:=1) (by decide)
def DC:List (List Int):=[[1,2],[2,4]]
theorem Hk:O0 2 2 DC:=by decide
theorem xh {M:Nat→Nat→Nu A}(hM:∀i j,i<2→j<2→(M i j).v=R.q (Rat.ofInt (uM DC i j))):(red 2 (vM M) 2).2=[0]∧∀i j,i<2→j<2→(red 2 (vM M) 2).1 i j=R.q (Rat.ofInt (uM [[1,2],[0,0]] i j)):=
 FH M DC _ _ hM (by decide+kernel)
theorem MF:∀i j,i<2→j<2→(iN A DC i j).v=R.q (Rat.ofInt (uM DC i j)):=fun i j hi hj=>FG (Hk i hi j hj)
theorem PY {a:Nu A}{n:Nat}(h:a.w≤4^n)(hn:n≤4):a.w≤wA:=Nat.le_trans h (Nat.le_trans (Nat.pow_le_pow_right (by decide) hn) (by decide))
variable (S:Go.Tw.Src 64 A)(hA:A.length≤3)
include S hA
theorem GD {r c:Nat}(X Y:Nat→Nat→Nu A)(hr:r<2^38)(hc:c<2^38)(h:∀i j,i<r→j<c→(X i j).v=(Y i j).v∧(X i j).w≤wA∧(Y i j).w≤wB):
  Pr prog 24 [.one (bK r (fun _=>c) X),.one (bK r (fun _=>c) Y)] (.one (.bool true)):=
 KW S hA (n:=r) (n':=r) (fun _=>c) (fun _=>c) X Y hr (fun _ _=>hc) (fun _ i j hi _ hj=>⟨(h i j hi hj).2.1,(h i j hi hj).2.2,.inl (h i j hi hj).1⟩) (by simp;exact fun i hi j hj=>(h i j hi hj).1)
theorem IK:∃X:Nat→Nat→Nu A,Pr prog 16 [.one (PU [1,2] [2,4])] (.aF [.one (bK 2 (fun _=>2) X),.one (.ints .i64 [0]),.one (.int .i64 0)])∧
  Pr prog 24 [.one (bK 2 (fun _=>2) X),.one (PU [1,2] [0,0])] (.one (.bool true)):=by
 obtain⟨e1,e2⟩:=xh (A:=A) MF;obtain⟨X,d,x1,x2,x3⟩:=uo S hA (r:=2) (c:=2) (iN A DC) (by decide) (by decide) (by decide) (by omega) (fun i j _ _=>by rw[xZ];exact Nat.le_refl 1) (by omega);have c:=Jt (r:=2) (c:=2) (fun i j=>(iN A DC i j).x) (fun i j=>(X i j).x) _ _ _ (by decide) x3 ⟨_,_,rfl⟩ ⟨_,_,rfl⟩;rw[e1]at c x2;refine⟨X,c.Kk (fT.cell (yb Hk)),(GD S hA (r:=2) (c:=2) X (iN A [[1,2],[0,0]]) (by decide) (by decide) fun i j hi hj=>⟨?_,PY (x2 i j hi hj) (by decide),by rw[xZ];decide⟩).tO (.refl _) (yb (by decide))⟩;rw[FG ((show O0 2 2 [[1,2],[0,0]] by decide) i hi j hj)];exact(x1 i j hi hj).trans (e2 i j hi hj)
theorem Hi:∃X:Nat→Nat→Nu A,Pr prog 12 [.one (PU [1,2] [2,4])] (.aF [.one (bK 1 (fun _=>2) X),.one (.int .i64 0)])∧
  Pr prog 24 [.one (bK 1 (fun _=>2) X),.one (QE [-2,1])] (.one (.bool true)):=by
 obtain⟨e1,e2⟩:=xh (A:=A) MF;obtain⟨X,x1,x2⟩:=zM S hA (r:=2) (c:=2) (iN A DC) (by decide) (by decide) (by decide) (by omega) (fun i j _ _=>by rw[xZ];exact Nat.le_refl 1) (by omega);unfold P0 at x1;rw[e1]at x1 x2;refine⟨X,x2.Kk (fT.cell (yb Hk)),(GD S hA (r:=1) (c:=2) X (iN A [[-2,1]]) (by decide) (by decide) fun i j hi hj=>⟨?_,PY (x1 i j hi).2 (by decide),by rw[xZ];decide⟩).tO (.refl _) (H3 (by decide))⟩;rw[FG ((show O0 1 2 [[-2,1]] by decide) i hi j hj),(x1 i j hi).1];obtain rfl:i=0:=by omega
 match j,hj with
 |0,_=>
  show-((red 2 (vM (iN A DC)) 2).1 0 1)=_
  rw[e2 0 1 (by decide) (by decide),←R.vR];exact congrArg R.q (by decide+kernel)
 |1,_=>rfl
theorem Ox:Pr prog 17 [.one (PU [1,2] [2,4])] (.aF [.one (.ints .i64 [0]),.one (.int .i64 0)]):=by
 have hM:∀i j,i<2→j<2→(iN A DC j i).v=R.q (Rat.ofInt (uM DC i j)):=fun i j hi hj=>by
  rw[FG (Hk j hj i hi)]
  match i,hi,j,hj with
  |0,_,0,_=>rfl
  |0,_,1,_=>rfl
  |1,_,0,_=>rfl
  |1,_,1,_=>rfl
 obtain⟨e1,e2⟩:=xh (A:=A) (M:=fun i j=>iN A DC j i) hM;obtain⟨X,d,x1,x2,x3⟩:=uo S hA (r:=2) (c:=2) (fun i j=>iN A DC j i) (by decide) (by decide) (by decide) (by omega) (fun i j _ _=>by rw[xZ];exact Nat.le_refl 1) (by omega);have c:=Pt (r:=2) (c:=2) (fun i j=>(iN A DC i j).x) (fun i j=>(X i j).x) _ _ _ (by decide) (by decide) (by omega) x3 ⟨_,_,rfl⟩ ⟨_,_,rfl⟩;rw[e1]at c;exact c.Kk (fT.cell (yb Hk))
theorem Lb:∃X:Nat→Nu A,Pr prog 9 [.one (QE [1,1]),.one (ak 1 (uV [5]))] (.aF [.one (oQ 2 X),.one (.int .i64 0)])∧
  Pr prog 26 [.one (oQ 2 X),.one (ak 2 (uV [5,0]))] (.one (.bool true)):=by
 have hM:∀i j,i<1→j<3→(fb 2 (iN A [[1,1]]) (fun j=>iN A [[5]] 0 j) i j).v=R.q (Rat.ofInt (uM [[1,1,5]] i j)):=fun i j hi hj=>by
  obtain rfl:i=0:=by omega
  match j,hj with
  |0,_=>rfl
  |1,_=>rfl
  |2,_=>rfl
 obtain⟨e1,e2⟩:=FH (r:=1) (c:=3) (fb 2 (iN A [[1,1]]) (fun j=>iN A [[5]] 0 j)) [[1,1,5]] [[1,1,5]] [0] hM (by decide+kernel)
 obtain⟨X,x1,_,x3⟩:=K9 S hA (r:=1) (c:=2) (iN A [[1,1]]) (fun j=>iN A [[5]] 0 j) (by decide) (by decide) (by decide) (by omega) (fun i j _ _=>by unfold fb;split<;>rw [xZ]<;>exact Nat.le_refl 1) (by omega)
 unfold P4 at x1;rw[show 2+dR 1=3 from rfl,e1]at x1 x3;have c:=x3 (by decide);have hv:∀j,j<2→(X j).v=(iN A [[5,0]] 0 j).v:=fun j hj=>by
  rw[(x1 j).1]
  match j,hj with
  |0,_=>exact(e2 0 2 (by decide) (by decide)).trans rfl
  |1,_=>rfl
 exact⟨X,c.tO (H3 (by decide)) (qv [5] (l:=[[5]]) (i:=0) (by decide)),(Hw S hA (n:=2) (n':=2) X (fun j=>iN A [[5,0]] 0 j) (by decide) (fun _ i hi=>⟨PY (x1 i).2 (by decide),by rw[xZ];decide,.inl (hv i hi)⟩) (by simp;exact hv)).tO (.refl _) (qv [5,0] (l:=[[5,0]]) (i:=0) (by decide))⟩
theorem PB {s:Nu A}(hs:s.v*s.v=R.q 2)(hw:s.w≤1):∃(half:Nu A) (X:Nat→Nat→Nu A),Pr prog 20 [nX s.x,nX ([],[mkRat 1 2])] (.aF [nX half.x,.one (.int .i64 0)])∧
  Pr prog 23 [.one (inv2 s.x)] (.aF [.one (bK 2 (fun _=>2) X),.one (.int .i64 0)])∧Pr prog 24 [.one (bK 2 (fun _=>2) X),.one (inv2 half.x)] (.one (.bool true)):=by
 have Xf:s.v≠R.q 0:=fun e=>by
  rw[e,R.zero_mul]at hs;exact absurd (R.kr hs) (by decide)
 have hf:Go.Tw.cB A 64 [] [mkRat 1 2] (R.q (mkRat 1 2)):=oD (n:=1) (d:=2) (by decide) (by decide) (by decide);obtain⟨half,v1,w1,c1⟩:=sk S hA (a:=s) (b:=⟨([],[mkRat 1 2]),_,1,Nat.le_refl 1,Dx (x:=([],[mkRat 1 2])) hf (by decide)⟩) (Nat.le_trans hw (by decide)) (show 1≤800 by decide);have hv:half.v=iv s.v:=yj (by rw[v1,←R.mul_assoc,hs,←R.dU];exact congrArg R.q (by decide+kernel));have hM:∀i j,(sX s i j).x=if j<2 then(uT s i j).x else yw i (j-2):=fun i j=>by
  unfold sX
  split
  ·rfl
  exact Mf i (j-2)
 have hW:∀i j,i<2→j<4→(sX s i j).w≤1:=fun i j _ _=>by
  unfold sX uT I6
  split
  ·split
   ·exact hw
   rw[xZ];exact Nat.le_refl 1
  split<;>exact Nat.le_refl 1
 obtain⟨X,d,x1,x2,x3⟩:=uo S hA (r:=2) (c:=4) (sX s) (by decide) (by decide) (by decide) (by omega) hW (by omega);obtain⟨e1,e2,e3,e4,e5⟩:=Go.Mx.GY (M:=vM (sX s)) Xf rfl rfl rfl rfl rfl rfl rfl rfl;have hpv:∀i,i<2→i<(red 2 (vM (sX s)) 4).2.length∧(red 2 (vM (sX s)) 4).2.getD i 0=i:=by rw[e1];decide
 have em:bK 2 (fun _=>4) (sX s)=av 2 (fun _=>2+2) fun i j=>if j<2 then(uT s i j).x else yw i (j-2):=
  congrArg (av 2 (fun _=>4)) (funext fun i=>funext fun j=>hM i j)
 rw[em]at x3;have c2:=FX (n:=2) (fun i j=>(uT s i j).x) (fun i j=>(X i j).x) (red 2 (vM (sX s)) 4).2 _ _ (by decide) x3 ⟨_,_,rfl⟩ ⟨_,_,rfl⟩ hpv;rw[e1]at x2;clear hpv x3
 generalize(red 2 (vM (sX s)) 4).1=N at x1 e2 e3 e4 e5
 refine⟨half,fun i j=>X i (2+j),c1,c2.Kk (fT.cell (CO s)),(GD S hA (r:=2) (c:=2) (fun i j=>X i (2+j)) (uT half) (by decide) (by decide) fun i j hi hj=>⟨?_,PY (x2 i (2+j) hi (by omega)) (by decide),?_⟩).tO (.refl _) (CO half)⟩
 ·refine(x1 i (2+j) hi (by omega)).trans ?_
  have i0:(uT half 0 0).v=half.v:=congrArg Nu.v (if_pos ⟨rfl,rfl⟩);have i1:∀i j,¬(i=0∧j=0)→(uM [[0,0],[0,1]] i j).natAbs<2^60→(uT half i j).v=R.q (Rat.ofInt (uM [[0,0],[0,1]] i j)):=fun i j h h'=>(congrArg Nu.v (if_neg h)).trans (FG h')
  match i,hi,j,hj with
  |0,_,0,_=>exact e2.trans (hv.symm.trans i0.symm)
  |0,_,1,_=>exact e3.trans (i1 0 1 (by decide) (by decide)).symm
  |1,_,0,_=>exact e4.trans (i1 1 0 (by decide) (by decide)).symm
  |1,_,1,_=>exact e5.trans (i1 1 1 (by decide) (by decide)).symm
 unfold uT;have h8:wB=800:=rfl
 split
 ·rw[w1];show s.w+1≤wB;omega
 rw[xZ];omega
end
open Go Go.Eng
open Go.Tw (El ax)
theorem PL:∃(A:List R) (s:Nu A),Go.Tw.Src 64 A∧A.length≤3∧s.v*s.v=R.q 2∧s.w≤1∧Pr prog 18 [nX (xT 2)] (.aF [nX s.x,.one (.int .i64 0)]):=by
 have S0:Go.Tw.Src 64 []:=⟨fun k hk=>absurd hk (Nat.not_lt_zero _),fun k hk=>absurd hk (Nat.not_lt_zero _)⟩;have e:mkRat 2 1=Rat.ofInt 2:=by decide+kernel
 have hf:Go.Tw.cB [] 64 [] [mkRat 2 1] (R.q (mkRat 2 1)):=oD (n:=2) (d:=1) (by decide) (by decide) (by decide);have hn:R.nn (R.q (mkRat 2 1)):=R.bu.2 (.inr (R.uc.2 (by decide+kernel)));obtain⟨A,x,S,_,hA,nx,c⟩:=L3 S0 (by decide) (by decide) (c:=([],[mkRat 2 1])) hf hn;rw[e]at c;refine⟨A,⟨x,_,1,Nat.le_refl 1,nx.mono (by decide) (by decide)⟩,S,Nat.le_trans hA (by decide),?_,Nat.le_refl 1,c⟩;exact(R.dy hn).trans (congrArg R.q e)
theorem yi:Pr prog 4 [] (.one (.bool true)):=by
 obtain⟨A,s,S,hA,hs,hw,cq⟩:=PL;obtain⟨Xr,cr,qr⟩:=IK S hA;obtain⟨Xk,ck,qk⟩:=Hi S hA;have cro:=Ox S hA;obtain⟨Xs,cs,qs⟩:=Lb S hA;obtain⟨half,Xi,ch,ci,qi⟩:=PB S hA hs hw;have i12:=jN [1,2] (by decide) (by decide);have i24:=jN [2,4] (by decide) (by decide);have i01:=jN [0,1] (by decide) (by decide);have i11:=jN [1,1] (by decide) (by decide);have i00:=jN [0,0] (by decide) (by decide);have i21:=jN [-2,1] (by decide) (by decide);have i50:=jN [5,0] (by decide) (by decide);have i5:=jN [5] (by decide) (by decide);have f2:=kQ 2 (by decide) (by decide);have f0:=kQ 0 (by decide) (by decide);have fr:=om 1 2 (by decide) (by decide) (by decide) (by decide+kernel) (by decide+kernel);have fq:=qK (mkRat 1 2) [];have eq:=M9 [0] [0] (by decide) (q:=true) (by simp);refine pw func4 ⟨[0,1,2,3,4,5,6,7,8,9,11,13,14,15,16,17],[(6,(.cons 8 [6] (.cons 9 [] .nil .nil) .nil)),(7,.nil)]⟩ ?_;simp only[Tryz.f4,ntmps4,iz,seval];simp only[vx,T,seval];refine Cg i12 ?_;simp only[vx,T,seval,ak];refine Cg i24 ?_;simp only[vx,T,seval,ak];refine Cg cr ?_;simp only[vx,T,seval,bK,av,ak];refine Cg ck ?_;simp only[vx,T,seval,bK,av,ak];refine Cg cro ?_;simp only[vx,T,seval,bK,av,ak];refine Cg f2 ?_;simp only[vx,T,seval,nX,nV,tC,aa];refine Cg cq ?_;simp only[vx,T,seval,nX,nV,tC,aa];refine Cg fr ?_;simp only[vx,T,seval,QV,QC];refine Cg fq ?_;simp only[vx,T,seval,nX,nV,tC,aa];refine Cg ch ?_;simp only[vx,T,seval,nX,nV,tC,aa];refine Cg f0 ?_;simp only[vx,T,seval,nX,nV,tC,aa];refine Cg i01 ?_;simp only[vx,T,seval,ak];refine Cg ci ?_;simp only[vx,T,seval,bK,av,ak];refine Cg i11 ?_;simp only[vx,T,seval,ak];refine Cg i5 ?_;simp only[vx,T,seval,ak];refine Cg cs ?_;simp only[vx,T,seval,oQ,ak];refine Cg i12 ?_;simp only[vx,T,seval,ak];refine Cg i00 ?_;simp only[vx,T,seval,ak];refine Cg qr ?_;simp only[vx,T,seval,ak];refine Cg eq ?_;simp only[vx,T,seval,ak];refine Cg i21 ?_;simp only[vx,T,seval,ak];refine Cg qk ?_;simp only[vx,T,seval,ak];refine Cg eq ?_;simp only[vx,T,seval,ak];refine Cg f0 ?_;simp only[vx,T,seval,nX,nV,tC,aa];refine Cg i01 ?_;simp only[vx,T,seval,ak];refine Cg qi ?_;simp only[vx,T,seval,ak];refine Cg i50 ?_;simp only[vx,T,seval,ak];refine Cg qs ?_;simp only[vx,T,seval,ak];exact Ve rfl
open Go Go.Eng
open Go.Tw (El ax TG)
open Go.Mx (sm iv gp red iH free)
open Go Go.Eng
open Go.Tw (El ax TG)
open Go.Mx (sm iv gp red iH)
end Go.Proofs.YthnkehdgnagmnaaGreat
namespace Go.Eng
open Go Go.ChangeShapes Go.WideShapes Go.Deep
def pP (P:Program):Nat→List Field→Nat→Bool
 |off,[],tot=>off==tot
 |off,f::r,tot=>f.offset==off&&pP P (off+P.cellsOf f.type) r tot
def px (P:Program)(S:List TypeId):Bool:=S.all fun t=>
 match P.underlying t with
 |some .bool=>true
 |some (.int _)=>true
 |some .string=>true
 |some (.slice e)=>decide (0<P.cellsOf e)&&S.contains e&&(match P.underlying e with|some (.int _)=>P.cellsOf e==1|_=>true)
 |some (.struct fs)=>pP P 0 fs.toList (P.cellsOf t)&&fs.toList.all fun f=>S.contains f.type
 |some (.array n e)=>S.contains e&&P.cellsOf t==n*P.cellsOf e
 |_=>false
def PA (R:TypeId→List C→Prop):List Field→List C→Prop
 |[],cs=>cs=[]
 |f::r,cs=>∃c1 c2,cs=c1++c2∧R f.type c1∧PA R r c2
def nY (P:Program)(B:Nat):Nat→TypeId→List C→Prop
 |0,_,_=>False
 |n+1,t,cs=>
  match P.underlying t with
  |some .bool=>∃b,cs=[.bool b]
  |some (.int k)=>∃x,cs=[.int k x]∧k.min≤x∧x≤k.max
  |some .string=>∃s:ByteArray,cs=[.str s]∧s.size≤B
  |some (.slice e)=>
   match P.underlying e with
   |some (.int k)=>∃xs:List Int,cs=[.ints k xs]∧xs.length≤B∧∀x∈xs,k.min≤x∧x≤k.max
   |_=>∃m f,cs=[.rows (P.cellsOf e) m f]∧m≤B∧∀i,i<m→nY P B n e ((List.range (P.cellsOf e)).map (f i))
  |some (.struct fs)=>PA (nY P B n) fs.toList cs
  |some (.array m e)=>∃l:List (List C),cs=l.flatten∧l.length=m∧∀c∈l,nY P B n e c
  |_=>False
theorem nY.mono {P:Program}{B B':Nat}(hB:B≤B'):∀{n:Nat} {t:TypeId} {cs:List C},nY P B n t cs→nY P B' n t cs:=by
 intro n
 induction n with
 |zero=>intro t cs h;exact h
 |succ n ih=>
  intro t cs h;have hf:∀(fs:List Field) (cs:List C),PA (nY P B n) fs cs→PA (nY P B' n) fs cs:=by
   intro fs
   induction fs with
   |nil=>intro cs h;exact h
   |cons f r ihf=>
    rintro cs ⟨c1,c2,rfl,h1,h2⟩;exact⟨c1,c2,rfl,ih h1,ihf c2 h2⟩
  simp only[nY]at h⊢
  split at h
  ·exact h
  ·exact h
  ·obtain⟨s,h1,h2⟩:=h;exact⟨s,h1,Nat.le_trans h2 hB⟩
  ·split at h
   ·obtain⟨xs,h1,h2,h3⟩:=h;exact⟨xs,h1,Nat.le_trans h2 hB,h3⟩
   obtain⟨m,f,h1,h2,h3⟩:=h;exact⟨m,f,h1,Nat.le_trans h2 hB,fun i hi=>ih (h3 i hi)⟩
  ·exact hf _ _ h
  ·obtain⟨l,h1,h2,h3⟩:=h;exact⟨l,h1,h2,fun c hc=>ih (h3 c hc)⟩
  exact h
structure NA {H:Type} (bulk:DataW H→Nat):Prop where
 str:∀s:List UInt8,s.length≤bulk (.lit (.string s))
 sl:∀el sp,el.length≤bulk (.slice el sp)∧∀d∈el,bulk d≤bulk (.slice el sp)
 agg:∀ps d,d∈ps→bulk d≤bulk (.agg ps)
def ON {H:Type}(bulk:DataW H→Nat)(B:Nat)(d:DataW H):Prop:=maxLen≤B∨(NA bulk∧bulk d≤B)
def gC (ok:Nat→Prop)(w:World):List C→List Value→Prop
 |[],[]=>True
 |c::cs,v::vs=>aO ok w c v∧gC ok w cs vs
 |_,_=>False
theorem gC.append {ok:Nat→Prop}{w:World}:∀{a b:List C} {x y:List Value},gC ok w a x→gC ok w b y→gC ok w (a++b) (x++y)
 |[],_,[],_,_,h=>h
 |_::_,_,_::_,_,h1,h2=>⟨h1.1,gC.append h1.2 h2⟩
 |[],_,_::_,_,h,_=>h.elim
 |_::_,_,[],_,h,_=>h.elim
theorem gC.length {ok:Nat→Prop}{w:World}:∀{a:List C} {x:List Value},gC ok w a x→a.length=x.length
 |[],[],_=>rfl
 |_::_,_::_,h=>by simp[gC.length h.2]
 |[],_::_,h=>h.elim
 |_::_,[],h=>h.elim
theorem gC.get {ok:Nat→Prop}{w:World}:∀{a:List C} {x:List Value},gC ok w a x→∀j,j<a.length→∃u,x[j]? =some u∧aO ok w (a.getD j .any) u
 |_::_,u::_,h,0,_=>⟨u,rfl,h.1⟩
 |_::_,_::_,h,j+1,hj=>by simpa using gC.get h.2 j (by simpa using hj)
 |[],[],_,j,hj=>absurd hj (by simp)
 |[],_::_,h,_,_=>h.elim
 |_::_,[],h,_,_=>h.elim
theorem gC.OV {ok:Nat→Prop}{w:World}:∀{a:List C} {x:List Value},gC ok w a x→bI bm bn ok w a x
 |[],[],_=>trivial
 |_::_,_::_,h=>⟨aA.bh h.1,gC.OV h.2⟩
 |[],_::_,h=>h.elim
 |_::_,[],h=>h.elim
theorem Je {w:World}{a:Addr}{v:Value}(h:w.cell? a=some v):a.block<w.heap.size∧a.spot=none:=by
 unfold World.cell? at h
 split at h
 ·rename_i c _ _ hb
  refine⟨(Array.getElem?_eq_some_iff.1 hb).1,?_⟩
  split at h
  ·cases h
  rename_i hs
  cases Yn:a.spot with
  |none=>rfl
  |some x=>rw[Yn]at hs;simp at hs
 cases h
section
variable {H:Type}{bulk:DataW H→Nat}{B:Nat}{enc:TypeId×Value→H}{P:Program}{w:World}{base:Nat}{spare:Nat→Bool}{held:Bool}
theorem vG {S:List TypeId}(hS:px P S=true):∀(fuel:Nat) (t:TypeId) (vs:List Value) (x:DataW H×List MemPlace),t∈S→DataW.trod enc P w base spare held fuel t vs=some x→ON bulk B x.1→
  ∃cs,nY P B fuel t cs∧gC (fun g=>g<w.heap.size) w cs vs:=by
 intro fuel
 induction fuel with
 |zero=>intro t vs x _ h _;simp[DataW.trod]at h
 |succ fuel ih=>
  intro t vs x ht h hb;have hc:=List.all_eq_true.1 hS t ht;simp only[nY]
  cases hu:P.underlying t with
  |none=>rw[hu]at hc;simp at hc
  |some d=>
   rw[hu]at hc
   cases d with
   |bool=>
    obtain⟨b,rfl,_⟩:=DataW.trod_bool hu h;exact⟨[.bool b],⟨b,rfl⟩,rfl,trivial⟩
   |int k=>
    obtain⟨n,rfl,_,hw⟩:=DataW.trod_int hu h;simp only[Lit.wf,Bool.and_eq_true,decide_eq_true_eq]at hw;exact⟨[.int k n],⟨n,rfl,hw⟩,rfl,trivial⟩
   |string=>
    obtain⟨s,rfl,hx,hs⟩:=DataW.trod_string hu h;refine⟨[.str s],⟨s,rfl,?_⟩,rfl,trivial⟩
    rcases hb with hb|⟨hb,Sc⟩
    ·omega
    have h1:=hb.str s.data.toList;rw[hx]at Sc;have Sc:bulk (.lit (.string s.data.toList))≤B:=Sc;have h2:s.data.toList.length=s.size:=Array.length_toList;omega
   |slice e=>
    simp only[Bool.and_eq_true,decide_eq_true_eq]at hc;obtain⟨⟨RR,he⟩,hk⟩:=hc;have he:e∈S:=by simpa using he
    have R5:(vs=[.slice none 0 0])∨∃(a:Addr) (len cap:Nat),vs=[.slice (some a) len cap]∧len≤cap∧len≤B∧
      ∀i,i<len→∃cs',w.cells? base (a.add (i*P.cellsOf e)) (P.cellsOf e)=some cs'∧∃y,DataW.trod enc P w base spare held fuel e cs'=some y∧ON bulk B y.1:=by
     rcases DataW.trod_slice hu h with⟨rfl,_⟩|⟨a,len,cap,elems,rest,n,hn,rfl,hx,_,hl,hm,hlen,Wd,_,_⟩
     ·exact .inl rfl
     have Wo:len≤B:=by
      rcases hb with hb|⟨hb,Sc⟩
      ·omega
      have h1:=(hb.sl (elems.map (·.1)) (rest.map (·.1))).1;rw[hx]at Sc;rw[List.length_map]at h1;have Sc:bulk (.slice (elems.map (·.1)) (rest.map (·.1)))≤B:=Sc;omega
     refine .inr ⟨a,len,cap,rfl,hl,Wo,fun i hi=>?_⟩;obtain rfl:fuel=n:=by omega
     have h1:=Wd i hi;rw[X8 (by omega)]at h1
     cases R2:w.cells? base (a.add (i*P.cellsOf e)) (P.cellsOf e)with
     |none=>rw[R2]at h1;simp at h1
     |some cs'=>
      rw[R2]at h1;refine⟨cs',rfl,_,h1,?_⟩
      rcases hb with hb|⟨hb,Sc⟩
      ·exact .inl hb
      refine .inr ⟨hb,?_⟩;have h2:=(hb.sl (elems.map (·.1)) (rest.map (·.1))).2 elems[i].1 (List.mem_map.2 ⟨elems[i],List.getElem_mem _,rfl⟩);rw[hx]at Sc;exact Nat.le_trans h2 Sc
    -- by rows
    have V7:∃m f,m≤B∧(∀i,i<m→nY P B fuel e ((List.range (P.cellsOf e)).map (f i)))∧∃v,vs=[v]∧aO (fun g=>g<w.heap.size) w (.rows (P.cellsOf e) m f) v:=by
     rcases R5 with rfl|⟨a,len,cap,rfl,hl,hm,Wd⟩
     ·exact⟨0,fun _ _=>.any,Nat.zero_le _,fun i hi=>absurd hi (Nat.not_lt_zero _),_,rfl,none,0,rfl,Nat.le_refl _,.inl rfl⟩
     have hex:∀i,i<len→∃cs,nY P B fuel e cs∧cs.length=P.cellsOf e∧∀j,j<P.cellsOf e→∃u,w.cell? ((a.add (i*P.cellsOf e)).add j)=some u∧aO (fun g=>g<w.heap.size) w (cs.getD j .any) u:=by
      intro i hi;obtain⟨cs',hcs',y,hy,hyb⟩:=Wd i hi;obtain⟨_,Te,RQ⟩:=World.cells?_some hcs';obtain⟨cs,RW,Rx⟩:=ih e cs' y he hy hyb;have hlen:cs.length=P.cellsOf e:=by rw[Rx.length,Te]
      refine⟨cs,RW,hlen,fun j hj=>?_⟩;obtain⟨u,hu,hr⟩:=Rx.get j (by omega);exact⟨u,by rw[RQ j hj,hu],hr⟩
     obtain⟨g,hg⟩:=Classical.axiomOfChoice (r:=fun(i:Nat) (cs:List C)=>i<len→nY P B fuel e cs∧cs.length=P.cellsOf e∧∀j,j<P.cellsOf e→∃u,w.cell? ((a.add (i*P.cellsOf e)).add j)=some u∧aO (fun g=>g<w.heap.size) w (cs.getD j .any) u) (fun i=>by
      by_cases hi:i<len
      ·obtain⟨cs,h⟩:=hex i hi;exact⟨cs,fun _=>h⟩
      exact⟨[],fun h=>absurd h hi⟩)
     refine⟨len,fun i j=>(g i).getD j .any,hm,fun i hi=>?_,_,rfl,some a,cap,rfl,hl,?_⟩
     ·obtain⟨h1,h2,_⟩:=hg i hi;have e:(List.range (P.cellsOf e)).map (fun j=>(g i).getD j .any)=g i:=by
       refine List.ext_getElem (by simp[h2]) fun j hj1 hj2=>?_
       simp[X7,X8 hj2]
      rw[e];exact h1
     by_cases h0:len=0
     ·exact .inl h0
     right
     obtain⟨u,hu,_⟩:=(hg 0 (by omega)).2.2 0 RR;rw[Nat.zero_mul]at hu;have Zo:(a.add 0).add 0=a:=by simp[Addr.add]
     rw[Zo]at hu;obtain⟨Ru,Yn⟩:=Je hu;refine⟨a.block,a.off,?_,Ru,fun i j hi hj=>?_⟩
     ·obtain⟨b,o,s⟩:=a;simp only at Yn;subst Yn;rfl
     obtain⟨u,hu,hr⟩:=(hg i hi).2.2 j hj;refine⟨u,?_,hr⟩;rw[←hu]
     congr 1
     obtain⟨b,o,s⟩:=a;simp only at Yn;subst Yn;unfold Addr.add
     split<;>split<;>simp_all<;>omega
    simp only
    cases hue:P.underlying e with
    |none=>
     obtain⟨m,f,h1,h2,v,rfl,h3⟩:=V7;exact⟨[.rows (P.cellsOf e) m f],⟨m,f,rfl,h1,h2⟩,h3,trivial⟩
    |some de=>
     cases de with
     |int k=>
      rw[hue]at hk;have hk:P.cellsOf e=1:=by simpa using hk
      obtain⟨m,f,h1,h2,v,rfl,a,cap,rfl,h4,h5⟩:=V7;have Yd:∀i,i<m→∃x,f i 0= .int k x∧k.min≤x∧x≤k.max:=by
       intro i hi
       have:=h2 i hi
       rw[hk]at this
       cases fuel with
       |zero=>exact this.elim
       |succ fuel=>
        simp only[nY,hue]at this;obtain⟨x,hx,hr⟩:=this;simp only[List.range_succ,List.range_zero,List.nil_append,List.map_cons,List.map_nil,List.cons.injEq,and_true]at hx;exact⟨x,hx,hr⟩
      obtain⟨g,hg⟩:=Classical.axiomOfChoice (r:=fun(i:Nat) (x:Int)=>i<m→f i 0= .int k x∧k.min≤x∧x≤k.max) (fun i=>by
       by_cases hi:i<m
       ·obtain⟨x,h⟩:=Yd i hi;exact⟨x,fun _=>h⟩
       exact⟨0,fun h=>absurd h hi⟩)
      have hlen:((List.range m).map g).length=m:=by simp
      refine⟨[.ints k ((List.range m).map g)],⟨_,rfl,by rw[hlen];exact h1,fun x hx=>?_⟩,⟨a,cap,by rw[hlen],by rw[hlen];exact h4,?_⟩,trivial⟩
      ·obtain⟨i,hi,rfl⟩:=List.mem_map.1 hx;exact(hg i (List.mem_range.1 hi)).2
      rw[hlen]
      rcases h5 with h5|⟨b,o,ha,hb,RQ⟩
      ·exact .inl h5
      refine .inr ⟨b,o,ha,hb,fun i hi=>?_⟩;obtain⟨u,hu,hr⟩:=RQ i 0 hi (by omega);rw[(hg i hi).1]at hr;have hr:u= .int k (g i):=hr;rw[hk,Nat.mul_one,Nat.add_zero]at hu;rw[hu,hr]
      simp[X7,hi]
     |_=>
      obtain⟨m,f,h1,h2,v,rfl,h3⟩:=V7;exact⟨[.rows (P.cellsOf e) m f],⟨m,f,rfl,h1,h2⟩,h3,trivial⟩
   |struct fs=>
    simp only[Bool.and_eq_true]at hc;obtain⟨XN,VL⟩:=hc;obtain⟨xs,n,hn,hx,Te,U5,hf⟩:=DataW.trod_struct hu h;obtain rfl:fuel=n:=by omega
    have Rz:∀f∈fs.toList,∃y,DataW.trod enc P w base spare held fuel f.type ((vs.drop f.offset).take (P.cellsOf f.type))=some y∧ON bulk B y.1:=by
     intro f hfm;obtain⟨i,hi,rfl⟩:=List.mem_iff_getElem.1 hfm;have SQ:i<fs.size:=by simpa using hi
     have h1:=hf i fs[i] (Array.getElem?_eq_getElem SQ);rw[X8 (by omega)]at h1;refine⟨xs[i],by simpa using h1,?_⟩
     rcases hb with hb|⟨hb,Sc⟩
     ·exact .inl hb
     refine .inr ⟨hb,?_⟩;have h2:=hb.agg (xs.map (·.1)) xs[i].1 (List.mem_map.2 ⟨xs[i],List.getElem_mem _,rfl⟩);rw[hx]at Sc;exact Nat.le_trans h2 Sc
    have VL:∀f∈fs.toList,f.type∈S:=fun f hf=>by simpa using List.all_eq_true.1 VL f hf
    simp only
    -- field by field
    have key:∀(l:List Field) (off:Nat),(∀f∈l,∃y,DataW.trod enc P w base spare held fuel f.type ((vs.drop f.offset).take (P.cellsOf f.type))=some y∧ON bulk B y.1)→(∀f∈l,f.type∈S)→pP P off l vs.length=true→
      ∃cs,PA (nY P B fuel) l cs∧gC (fun g=>g<w.heap.size) w cs (vs.drop off):=by
     intro l
     induction l with
     |nil=>
      intro off _ _ UT;simp only[pP,beq_iff_eq]at UT;exact⟨[],rfl,by rw[List.drop_eq_nil_of_le (by omega)];trivial⟩
     |cons f r ihl=>
      intro off hy hm UT;simp only[pP,Bool.and_eq_true,beq_iff_eq]at UT;obtain⟨ho,UT⟩:=UT;obtain⟨y,hy1,hy2⟩:=hy f (by simp);obtain⟨c1,h1,h2⟩:=ih f.type _ y (hm f (by simp)) hy1 hy2;obtain⟨c2,h3,h4⟩:=ihl (off+P.cellsOf f.type) (fun g hg=>hy g (by simp[hg])) (fun g hg=>hm g (by simp[hg])) UT;refine⟨c1++c2,⟨c1,c2,rfl,h1,h3⟩,?_⟩;have e:vs.drop off=(vs.drop f.offset).take (P.cellsOf f.type)++vs.drop (off+P.cellsOf f.type):=by
       rw[ho,←List.drop_drop,List.take_append_drop]
      rw[e];exact h2.append h4
    have:=key fs.toList 0 Rz VL (by rw[Te];exact XN)
    rwa [List.drop_zero]at this
   |array m e=>
    simp only[Bool.and_eq_true,beq_iff_eq]at hc;obtain⟨he,Sx⟩:=hc;have he:e∈S:=by simpa using he
    obtain⟨xs,n,hn,hx,Te,U5,hf⟩:=DataW.trod_array hu h;obtain rfl:fuel=n:=by omega
    simp only;have key:∀j,j≤m→∃l:List (List C),l.length=j∧(∀c∈l,nY P B fuel e c)∧gC (fun g=>g<w.heap.size) w l.flatten (vs.take (j*P.cellsOf e)):=by
     intro j
     induction j with
     |zero=>intro _;exact⟨[],rfl,fun c hc=>(by cases hc),by rw[Nat.zero_mul];trivial⟩
     |succ j ihj=>
      intro hj;obtain⟨l,h1,h2,h3⟩:=ihj (by omega);have h4:=hf j (by omega);rw[X8 (by omega)]at h4;obtain⟨c,h5,h6⟩:=ih e _ xs[j] he h4 (by
       rcases hb with hb|⟨hb,Sc⟩
       ·exact .inl hb
       refine .inr ⟨hb,?_⟩;have h2:=hb.agg (xs.map (·.1)) xs[j].1 (List.mem_map.2 ⟨xs[j],List.getElem_mem _,rfl⟩);rw[hx]at Sc;exact Nat.le_trans h2 Sc)
      refine⟨l++[c],by rw[X6,h1];rfl,fun x hx=>?_,?_⟩
      ·rcases List.mem_append.1 hx with hx|hx
       ·exact h2 x hx
       obtain rfl:=List.mem_singleton.1 hx;exact h5
      rw[List.flatten_append,Nat.add_mul,Nat.one_mul,List.take_add];refine h3.append ?_
      simpa using h6
    obtain⟨l,h1,h2,h3⟩:=key m (Nat.le_refl _);rw[←Sx,←Te,List.take_length]at h3;exact⟨l.flatten,⟨l,rfl,h1,h2⟩,h3⟩
   |_=>simp at hc
theorem EW {S:List TypeId}(hS:px P S=true){t:TypeId}(ht:t∈S){v:Value}{d:DataW H}{p:List MemPlace}(hv:v.oneCell'=true)(h:DataW.Trod enc P w base spare held t v d p)(hb:ON bulk B d):
  ∃n c,nY P B n t [c]∧aO (fun g=>g<w.heap.size) w c v:=by
 obtain⟨fuel,hf⟩:=h;have hvc:v.cells.toList=[v]:=by
  cases v<;>first|rfl|(simp[Value.oneCell']at hv)
 rw[hvc]at hf;obtain⟨cs,h1,h2⟩:=vG hS fuel t _ _ ht hf hb
 match cs,h2 with
 |[c],h2=>exact⟨fuel,c,h1,h2.1⟩
theorem Cq {S:List TypeId}(hS:px P S=true){t:TypeId}(ht:t∈S){us:Array Value}{d:DataW H}{p:List MemPlace}(h:DataW.Trod enc P w base spare held t (.agg us) d p)(hb:ON bulk B d):
  ∃n cs,nY P B n t cs∧dJ bm bn (fun g=>g<w.heap.size) w (.agg cs) (.agg us):=by
 obtain⟨fuel,hf⟩:=h;obtain⟨cs,h1,h2⟩:=vG hS fuel t _ _ ht hf hb;exact⟨fuel,cs,h1,us,rfl,h2.OV⟩
theorem HX {S:List TypeId}(hS:px P S=true){t:TypeId}(ht:t∈S){v:Value}{d:DataW H}{p:List MemPlace}(hv:v.oneCell'=true)(h:DataW.Trod enc P w base spare held t v d p):
  ∃n c,nY P maxLen n t [c]∧aO (fun g=>g<w.heap.size) w c v:=EW (bulk:=fun _=>0) hS ht hv h (.inl (Nat.le_refl _))
end
end Go.Eng
namespace Go.Eng
open Go Go.ChangeShapes Go.WideShapes Go.RowKit
section
variable {H:Type}{enc:TypeId×Value→H}{P:Program}
theorem vY (hl:laidOutB P=true){t:TypeId}(hr:P.readableRec t=true)(U7:t<P.types.size){W W':World}{v:Value}{d:DataW H}{ps:List MemPlace}(h:DataW.Trod enc P W 0 (fun _=>true) true t v d ps)
  (hb:Below W.heap.size W W') (Ru:∀x∈ps,x.block<W.heap.size):DataW.Trod enc P W' 0 (fun b=>decide (b<W.heap.size)) true t v d ps:=
 Below.trod hl hr U7 h hb Ru
theorem IX {f:Func}{s:ChangeSpec}{W W':World}{args:Array Value}{ds:List (DataW H)}{before:List MemPlace}{tb:TypeId}
  (hW:DataW.Whole enc P f.params.toList s.vars false W args.toList ds [] before) (hv:s.vars=[]) (hrt:f.resultTypes= #[tb]) (htb:P.underlying tb=some .bool)
  (SM:(s.fn H (ds++[])).results=[.lit (.bool true)]) (Ry:DataW.TrodAll enc P W' 0 (fun b=>decide (b<W.heap.size)) true f.params.toList args.toList (s.fn H (ds++[])).args before)
  (R1:(s.fn H (ds++[])).vars=[]) (hb:Below W.heap.size W W'):s.post enc P f false true false false W args (.bool true) W':=by
 refine⟨ds,[],before,[],before,[],hW,?_,Ry,?_,World.keptBut_mono (fun p hp=>⟨hp,.inr (.inl hp)⟩) (hb.frame (· ∈before)),fun h=>by cases h⟩
 ·rw[SM,hrt];exact trodAll_mk1 (shut_bool htb true)
 rw[hv,R1];rfl
theorem Fk {w:World}{r:Reach}{base:Nat}{t e:TypeId}{v:Value}(ht:P.underlying t=some (.slice e))(h:Value.okWide P w r base t v):v.oneCell'=true:=by
 obtain⟨a,len,cap,rfl⟩:=okWide_slice ht h;rfl
end
end Go.Eng
namespace Go.Proofs.YthnkehdgnagmnaaGreat
open Go.Proofs.Tryz
open Go Go.Eng
set_option maxRecDepth 100000 in
theorem DT:px prog [26,23,71,24,5,69]=true:=by kernel_rfl
def OM:List C→List C→Prop
 |[],[]=>True
 |a::x,b::y=>dK a b∧OM x y
 |_,_=>False
theorem OM.rep {ok:Nat→Prop}{w:World}:∀{a b:List C} {vs:List Value},OM a b→bI bm bn ok w a vs→bI bm bn ok w b vs
 |[],[],_,_,h=>h
 |_::_,_::_,[],_,h=>h.elim
 |_::_,_::_,_::_,ha,h=>⟨aA.bh (ha.1 _ _ _ (aO.dV h.1)),OM.rep ha.2 h.2⟩
 |[],_::_,_,ha,_=>ha.elim
 |_::_,[],_,ha,_=>ha.elim
theorem DU {a b:List C}(h:OM a b):ti (.agg a) (.agg b):=fun ok w v hr=>by
 obtain⟨vs,e,hl⟩:=hr;exact⟨vs,e,h.rep hl⟩
theorem tG {n:Nat}{cs:List C}(h:nY prog maxLen n 5 cs):∃x:Nat,cs=[.int .u8 x]∧x<256:=by
 cases n with
 |zero=>exact h.elim
 |succ n=>
  simp only[nY,Tryz.underlying5]at h;obtain⟨x,rfl,h1,h2⟩:=h;have e1:IntKind.u8.min=0:=rfl;have e2:IntKind.u8.max=255:=rfl;rw[e1]at h1;rw[e2]at h2;exact⟨x.toNat,by rw[Int.toNat_of_nonneg h1],by omega⟩
theorem ML {n:Nat}{cs:List C}(h:nY prog maxLen n 71 cs):∃o:Bx,cs=(List.range 5).map (oC o)∧o.Ok:=by
 cases n with
 |zero=>exact h.elim
 |succ n=>
  simp only[nY,Tryz.underlying71]at h;obtain⟨c1,c2,rfl,h1,c3,c4,rfl,h2,c5,c6,rfl,h3,c7,c8,rfl,h4,c9,c10,rfl,h5,h6⟩:=h;have h6:c10=[]:=h6;subst h6;obtain⟨k,rfl,k1⟩:=tG h1;obtain⟨a,rfl,k2⟩:=tG h2;obtain⟨b,rfl,k3⟩:=tG h3;obtain⟨d,rfl,k5⟩:=tG h5
  cases n with
  |zero=>exact h4.elim
  |succ n=>
   simp only[nY,Tryz.underlying69]at h4;obtain⟨x,rfl,k4⟩:=h4;have e1:IntKind.i8.min= -128:=rfl;have e2:IntKind.i8.max=127:=rfl;rw[e1,e2]at k4;exact⟨⟨k,a,b,x,d⟩,rfl,k1,k2,k3,k4,k5⟩
set_option maxRecDepth 100000 in
theorem A0 {n:Nat}{cs:List C}(h:nY prog maxLen n 23 cs):∃(c:C) (r:List Bx),cs=[c]∧(∀o∈r,o.Ok)∧r.length<2^63∧dK c (IF r):=by
 cases n with
 |zero=>exact h.elim
 |succ n=>
  simp only[nY,Tryz.underlying23,Tryz.underlying71]at h;obtain⟨m,f,hc,ZJ,hm⟩:=h;have h5:prog.cellsOf 71=5:=by kernel_rfl
  rw[h5]at hc hm;subst hc;obtain⟨g,hg⟩:=Classical.axiomOfChoice (r:=fun(i:Nat) (a:Bx)=>i<m→(List.range 5).map (f i)=(List.range 5).map (oC a)∧a.Ok) (fun i=>by
   by_cases hi:i<m
   ·obtain⟨a,h1,h2⟩:=ML (hm i hi);exact⟨a,fun _=>⟨h1,h2⟩⟩
   exact⟨default,fun h=>absurd h hi⟩)
  refine⟨_,(List.range m).map g,rfl,fun a ha=>?_,?_,dK.rows (by simp) fun i j hi hj=>dK.of_eq ?_⟩
  ·obtain⟨i,hi,rfl⟩:=List.mem_map.1 ha;exact(hg i (List.mem_range.1 hi)).2
  ·have:maxLen<2^63:=by decide
   simp only[List.length_map,List.length_range];omega
  have h1:=congrArg (fun l:List C=>l[j]?) (hg i hi).1;simp only[List.getElem?_map,List.getElem?_range hj,Option.map_some,Option.some.injEq]at h1;rw[h1]
  congr 1
  rw[X7,List.getElem?_map,List.getElem?_range hi];rfl
def QQ (l:List Int):Prop:=l.length<2^63∧∀i,i<l.length→0≤l.getD i 0∧l.getD i 0<256
theorem C7 {n:Nat}{cs:List C}(h:nY prog maxLen n 24 cs):∃l:List Int,cs=[.ints .u8 l]∧QQ l:=by
 cases n with
 |zero=>exact h.elim
 |succ n=>
  simp only[nY,Tryz.underlying24,Tryz.underlying5]at h;obtain⟨l,rfl,h1,h2⟩:=h;have e1:IntKind.u8.min=0:=rfl;have e2:IntKind.u8.max=255:=rfl;rw[e1,e2]at h2
  have:maxLen<2^63:=by decide
  refine⟨l,rfl,by omega,fun i hi=>?_⟩
  have:=h2 (l.getD i 0) (by rw[X7,X8 hi];exact List.getElem_mem _)
  omega
set_option maxRecDepth 100000 in
theorem G8 {n:Nat}{cells:List C}(h:nY prog maxLen n 26 cells):∃(r:List Bx) (cs:List Int) (s:Nat),(∀o∈r,o.Ok)∧r.length<2^63∧QQ cs∧s<256∧OM cells [IF r,.ints .u8 cs,.int .u8 s]:=by
 cases n with
 |zero=>exact h.elim
 |succ n=>
  simp only[nY,Tryz.underlying26]at h;obtain⟨c1,r1,rfl,h1,c2,r2,rfl,h2,c3,r3,rfl,h3,h4⟩:=h;have h4:r3=[]:=h4;subst h4;obtain⟨c,r,rfl,hr,hl,hle⟩:=A0 h1;obtain⟨cs,rfl,hc⟩:=C7 h2;obtain⟨s,rfl,hs⟩:=tG h3;exact⟨r,cs,s,hr,hl,hc,hs,hle,.refl _,.refl _,trivial⟩
theorem Ki (s:Nat):1≤gD s∧gD s≤12:=by
 have:=Nat.mod_lt s (show 0<12 by decide)
 unfold gD;omega
theorem Ga {l most:Nat}(s:Nat)(h:l≤most):(l/gD s=0→ED (l/gD s) (gD s)=0)∧l/gD s*ED (l/gD s) (gD s)≤most∧l/gD s≤most∧ED (l/gD s) (gD s)≤12:=by
 have hw:=Ki s;have h1:=Nat.div_mul_le_self l (gD s);have h2:=Nat.div_le_self l (gD s);unfold ED;refine⟨fun e=>if_pos e,?_,by omega,?_⟩
 ·split
  ·omega
  omega
 split<;>omega
end Go.Proofs.YthnkehdgnagmnaaGreat
namespace Go.Mx
open Go Go.R
section
variable {r c f:Nat}{M:Mt}
theorem nN.Qq {y z:Nat→R}(hy:nN r c M y)(hz:nN r c M z)(a:R):nN r c M (fun j=>y j-z j*a):=fun i hi=>by
 rw[cN (g:=fun j=>M i j*y j+ -(a*(M i j*z j))) fun j _=>by
  show M i j*(y j-z j*a)=_;rw[sub_def,mul_add,mul_neg];congr 2;ac_rfl]
 rw[qo,xP,uf,hy i hi,hz i hi,mul_zero,gE,add_zero]
theorem nN.scale {z:Nat→R}(hz:nN r c M z)(a:R):nN r c M (fun j=>z j*a):=fun i hi=>by
 rw[cN (g:=fun j=>a*(M i j*z j)) fun j _=>by
  show M i j*(z j*a)=_
  ac_rfl,uf,hz i hi,mul_zero]
theorem nN.comb {y:Nat→R}{X:Mt}{a:Nat→R}(hy:nN r c M y):∀{n:Nat},(∀l,l<n→nN r c M (X l))→nN r c M (fun j=>y j-sm n (fun l=>a l*X l j))
 |0,_=>fun i hi=>by
  rw[cN (g:=fun j=>M i j*y j) fun j _=>by
   show M i j*(y j-q 0)=_;rw[sub_zero]]
  exact hy i hi
 |n+1,h=>by
  have h1:=(nN.comb (a:=a) hy (n:=n) fun l hl=>h l (by omega)).Qq (h n (by omega)) (a n);refine fun i hi=>(cN fun j _=>?_).trans (h1 i hi);show M i j*(y j-(sm n (fun l=>a l*X l j)+a n*X n j))=M i j*(y j-sm n (fun l=>a l*X l j)-X n j*a n);rw[mul_comm (a n),sub_def,sub_def,sub_def,j8,add_assoc]
structure Sp (r c f:Nat) (M X:Mt) (γ:Nat→Nat):Prop where
 ker:∀l,l<f→nN r c M (X l)
 lt:∀i,i<f→γ i<c
 one:∀l i,l<f→i<f→X l (γ i)=if l=i then q 1 else q 0
 un:∀z,nN r c M z→(∀i,i<f→z (γ i)=q 0)→∀j,j<c→z j=q 0
theorem Sp.span {X:Mt}{γ:Nat→Nat}(P:Sp r c f M X γ){y:Nat→R}(hy:nN r c M y){j:Nat}(hj:j<c):y j=sm f (fun l=>y (γ l)*X l j):=by
 refine fh (P.un _ (hy.comb (a:=fun l=>y (γ l)) P.ker) (fun i hi=>?_) j hj);rw[gO hi fun l hl RE=>by rw[P.one l i hl hi,if_neg RE,mul_zero],P.one i i hi hi,if_pos rfl,mul_one,sub_self]
theorem Sp.inj {X:Mt}{γ:Nat→Nat}(P:Sp r c f M X γ){i j:Nat}(hi:i<f)(hj:j<f)(h:γ i=γ j):i=j:=by
 refine Classical.byContradiction fun RE=>eR ?_;have h1:=P.one i i hi hi;rw[h,P.one i j hi hj,if_neg RE,if_pos rfl]at h1;exact h1.symm
def OP (γ:Nat→Nat)(a b:Nat):Nat→Nat:=fun i=>if i=a then γ b else if i=b then γ a else γ i
theorem Sp.swap {X:Mt}{γ:Nat→Nat}(P:Sp r c f M X γ){a b:Nat}(ha:a<f)(hb:b<f):Sp r c f M (gy X a b) (OP γ a b):=by
 obtain⟨σ,hσ⟩:∃σ:Nat→Nat,σ=fun i=>if i=a then b else if i=b then a else i:=⟨_,rfl⟩
 have h1:∀i,gy X a b i=X (σ i):=fun i=>by
  rw[hσ];unfold gy;dsimp only
  split
  ·rfl
  split<;>rfl
 have h2:∀i,OP γ a b i=γ (σ i):=fun i=>by
  rw[hσ];unfold OP;dsimp only
  split
  ·rfl
  split<;>rfl
 have h3:∀i,i<f→σ i<f:=fun i hi=>by
  rw[hσ];dsimp only
  split
  ·exact hb
  split
  ·exact ha
  exact hi
 have h4:∀i,σ (σ i)=i:=fun i=>by
  rw[hσ];dsimp only
  by_cases e:i=a
  ·rw[if_pos e]
   by_cases e2:b=a
   ·rw[if_pos e2,e2,e]
   rw[if_neg e2,if_pos rfl,e]
  rw[if_neg e]
  by_cases e2:i=b
  ·rw[if_pos e2,if_pos rfl,e2]
  rw[if_neg e2,if_neg e,if_neg e2]
 refine⟨fun l hl=>by rw[h1];exact P.ker _ (h3 l hl),fun i hi=>by rw[h2];exact P.lt _ (h3 i hi),fun l i hl hi=>?_,fun z hz h0=>P.un z hz fun i hi=>?_⟩
 ·rw[h1,h2,P.one _ _ (h3 l hl) (h3 i hi)]
  by_cases e:l=i
  ·rw[if_pos e,if_pos (by rw[e])]
  rw[if_neg e,if_neg (fun h=>e (by rw[←h4 l,h,h4]))]
 have:=h0 (σ i) (h3 i hi)
 rwa [h2,h4]at this
theorem Sp.clear {X:Mt}{γ:Nat→Nat}(P:Sp r c f M X γ){s k:Nat}(hs:s<f)(hk:k<c)(h0:X s k≠q 0):Sp r c f M (fx X s k) (fun i=>if i=s then k else γ i):=by
 have hz:∀i,i<f→i≠s→X s (γ i)=q 0:=fun i hi RE=>by rw[P.one s i hs hi,if_neg fun e=>RE e.symm]
 refine⟨fun l hl=>?_,fun i hi=>?_,fun l i hl hi=>?_,fun z ZF h1 j hj=>?_⟩
 ·by_cases e:l=s
  ·have:fx X s k l=fun j=>X s j*iv (X s k):=funext fun j=>if_pos e
   rw[this];exact(P.ker s hs).scale _
  have:fx X s k l=fun j=>X l j-X s j*(iv (X s k)*X l k):=funext fun j=>by
   unfold fx;rw[if_neg e,mul_assoc]
  rw[this];exact(P.ker l hl).Qq (P.ker s hs) _
 ·show(if i=s then k else γ i)<c
  split
  ·exact hk
  exact P.lt i hi
 ·show fx X s k l (if i=s then k else γ i)=_;unfold fx
  by_cases e:l=s
  ·subst e;rw[if_pos rfl]
   by_cases e2:i=l
   ·rw[if_pos e2,jw h0,if_pos e2.symm]
   rw[if_neg e2,hz i hi e2,zero_mul,if_neg fun e=>e2 e.symm]
  rw[if_neg e]
  by_cases e2:i=s
  ·rw[if_pos e2,jw h0,one_mul,sub_self,if_neg (fun e3=>e (by rw[e3,e2]))]
  rw[if_neg e2,hz i hi e2,zero_mul,zero_mul,sub_zero];exact P.one l i hl hi
 have hg:z (γ s)=q 0:=by
  have h2:=P.span ZF hk;have h3:=h1 s hs;rw[if_pos rfl]at h3;rw[h3,gO hs fun l hl RE=>by
   have:=h1 l hl
   rw[if_neg RE]at this;rw[this,zero_mul]]at h2
  rcases gn h2.symm with e|e
  ·exact e
  exact absurd e h0
 refine P.un z ZF (fun i hi=>?_) j hj
 by_cases e:i=s
 ·rw[e];exact hg
 have:=h1 i hi
 rwa [if_neg e]at this
theorem Aw {j:Nat}(h:∀i,i<r→M i j=q 0):∀k i,i<r→(red r M k).1 i j=q 0
 |0,i,hi=>h i hi
 |k+1,i,hi=>by
  have ih:=Aw h k;have hl:=(bz r M k).len
  show(gB r k (red r M k)).1 i j=q 0
  unfold gB
  split
  ·rename_i hf
   have hs:∀i,i<r→gy (red r M k).1 (red r M k).2.length (jM (red r M k).1 k (r-(red r M k).2.length) (red r M k).2.length) i j=q 0:=fun i hi=>by
    unfold gy
    split
    ·exact ih _ hf
    split
    ·have:=(ou hl hf).1
     exact ih _ (by omega)
    exact ih i hi
   have hp:(red r M k).2.length<r:=by have:=(ou hl hf).1;omega
   simp only;unfold fx
   split
   ·rw[hs _ hp,zero_mul]
   rw[hs _ hp,hs i hi,zero_mul,zero_mul,sub_zero]
  exact ih i hi
theorem xX {p:List Nat}:∀(c f:Nat) (γ:Nat→Nat),(∀i,i<f→γ i<c∧p.contains (γ i)=false)→(∀i j,i<f→j<f→γ i=γ j→i=j)→f≤free p c
 |0,f,γ,h,_=>by
  rcases Nat.eq_zero_or_pos f with e|e
  ·omega
  exact absurd (h 0 e).1 (Nat.not_lt_zero _)
 |c+1,f,γ,h,hi=>by
  by_cases hc:∃a,a<f∧γ a=c
  ·obtain⟨a,ha,e⟩:=hc;have h1:=xX (p:=p) c (f-1) (fun i=>if i<a then γ i else γ (i+1)) (fun i We=>?_) fun i j We hjf e=>?_
   ·rw[free,←e,if_neg (by rw[(h a ha).2];decide)];rw[←e]at h1;omega
   ·split
    ·have h2:=h i (by omega);refine⟨?_,h2.2⟩
     have:γ i≠c:=fun k=>by have:=hi i a (by omega) ha (k.trans e.symm);omega
     omega
    have h2:=h (i+1) (by omega);refine⟨?_,h2.2⟩
    have:γ (i+1)≠c:=fun k=>by have:=hi (i+1) a (by omega) ha (k.trans e.symm);omega
    omega
   split at e<;>split at e
   ·exact hi i j (by omega) (by omega) e
   ·have:=hi i (j+1) (by omega) (by omega) e;omega
   ·have:=hi (i+1) j (by omega) (by omega) e;omega
   have:=hi (i+1) (j+1) (by omega) (by omega) e;omega
  have h1:=xX (p:=p) c f γ (fun i We=>by
   have h2:=h i We;exact⟨by
        have:γ i≠c:=fun k=>hc ⟨i,We,k⟩
        omega,h2.2⟩) hi
  rw[free];omega
end
section
open Go.Tw (kV)
variable {A:List R}{r c f:Nat}{M X:Mt}{γ:Nat→Nat}
theorem Sp.wv (P:Sp r c f M X γ)(hM:MW A r c M 1):∃n,n≤r∧n+f≤c∧MW A f c X (4^n):=by
 classical
 have main:∀l,l<f→∃n,n≤r∧n+f≤c∧∀j,j<c→Wv A (X l j) (4^n):=by
  intro l hl
  let G:Nat→Prop:=fun j=>∃i,i<f∧γ i=j
  let N:Mt:=fun i j=>if j<c then(if G j then q 0 else M i j)else M i (γ l)
  have hNG:∀i j,j<c→G j→N i j=q 0:=fun i j hj hg=>by show(if j<c then _ else _)=_;rw[if_pos hj,if_pos hg]
  have hNM:∀i j,j<c→¬G j→N i j=M i j:=fun i j hj hg=>by show(if j<c then _ else _)=_;rw[if_pos hj,if_neg hg]
  have hNc:∀i,N i c=M i (γ l):=fun i=>if_neg (Nat.lt_irrefl c);have E:=bz r N c;have hG0:∀i j,i<r→j<c→G j→(red r N c).1 i j=q 0:=fun i j hi hj hg=>Aw (fun i _=>hNG i j hj hg) c i hi;have hGp:∀j,j<c→G j→j∉(red r N c).2:=fun j hj hg hm=>by
   obtain⟨i,hi,rfl⟩:=dN.1 hm;have TD:=Nat.lt_of_lt_of_le hi E.len
   have:=E.one i i TD hi
   rw[hG0 i _ TD hj hg,if_pos rfl]at this;exact eR this.symm
  have hpG:∀j,j<c→¬G j→j∈(red r N c).2:=fun j hj hg=>Classical.byContradiction fun hm=>by
   have hz:=(lL r c N _ c).1 (E.PD hj hm);have Wg:∀i,i<f→iH (red r N c).2 (fun i=> -(red r N c).1 i j) (fun k=>if k=j then q 1 else q 0) (red r N c).2.length (γ i)=q 0:=fun i hi=>by
    rw[j3 fun a ha e=>hGp (γ i) (P.lt i hi) ⟨i,hi,rfl⟩ (dN.2 ⟨a,ha,e⟩),if_neg fun e=>hg ⟨i,hi,e⟩]
   have h1:nN r c M (iH (red r N c).2 (fun i=> -(red r N c).1 i j) (fun k=>if k=j then q 1 else q 0) (red r N c).2.length):=fun i hi=>by
    refine(cN fun k hk=>?_).trans (hz i hi)
    by_cases h:G k
    ·obtain⟨a,ha,rfl⟩:=h;rw[Wg a ha,mul_zero,mul_zero]
    rw[hNM i k hk h]
   have h2:=P.un _ h1 Wg j hj;rw[j3 fun a ha e=>hm (dN.2 ⟨a,ha,e⟩),if_pos rfl]at h2;exact eR h2
  refine⟨(red r N c).2.length,E.len,?_,fun j hj=>?_⟩
  ·have h1:=xX (p:=(red r N c).2) c f γ (fun i hi=>⟨P.lt i hi,?_⟩) fun i j hi hj e=>P.inj hi hj e
   ·have:=oU r N c;omega
   rw[←Bool.not_eq_true,List.contains_iff_mem];exact hGp _ (P.lt i hi) ⟨i,hi,rfl⟩
  have p1:1≤4^(red r N c).2.length:=Nat.one_le_pow _ _ (by decide)
  by_cases hg:G j
  ·obtain⟨i,hi,rfl⟩:=hg;rw[P.one l i hl hi]
   split
   ·exact Wv.one.mono p1
   exact Wv.zero.mono p1
  let y:Nat→R:=fun j=>if j<c then(if G j then q 0 else X l j)else q 1
  have hyG:∀j,j<c→G j→y j=q 0:=fun j hj hg=>by show(if j<c then _ else _)=_;rw[if_pos hj,if_pos hg]
  have hyX:∀j,j<c→¬G j→y j=X l j:=fun j hj hg=>by show(if j<c then _ else _)=_;rw[if_pos hj,if_neg hg]
  have hyc:y c=q 1:=if_neg (Nat.lt_irrefl c);have hy:nN r (c+1) N y:=fun i hi=>by
   rw[sm,hNc,hyc,mul_one,←P.ker l hl i hi];have e1:sm c (fun k=>M i k*X l k)=sm c (fun k=>N i k*y k+if G k then M i k*X l k else q 0):=cN fun k hk=>by
    by_cases h:G k
    ·rw[hNG i k hk h,zero_mul,if_pos h,zero_add]
    rw[hNM i k hk h,hyX k hk h,if_neg h,add_zero]
   rw[e1,qo]
   congr 1
   rw[gO (P.lt l hl) fun k _ RE=>?_,if_pos ⟨l,hl,rfl⟩,P.one l l hl hl,if_pos rfl,mul_one]
   split
   ·rename_i h
    obtain⟨a,ha,rfl⟩:=h;rw[P.one l a hl ha,if_neg (fun e=>RE (by rw[e])),mul_zero]
   rfl
  obtain⟨i,hi,e⟩:=dN.1 (hpG j hj hg);have TD:=Nat.lt_of_lt_of_le hi E.len;have h1:=(lL r (c+1) N y c).2 hy i TD;rw[sm,hyc,mul_one,gO hj fun k hk RE=>?_,hyX j hj hg,e,E.one i i TD hi,if_pos rfl,one_mul,←e]at h1
  ·rw[kG h1];have hN:MW A r (c+1) N 1:=fun i j hi hj=>by
    show Wv A (if j<c then(if G j then q 0 else M i j)else M i (γ l)) 1
    split
    ·split
     ·exact Wv.zero
     exact hM i j hi (by assumption)
    exact hM i _ hi (P.lt l hl)
   exact(uH hN c (by omega) i c TD (by omega)).neg
  by_cases h:G k
  ·rw[hyG k hk h,mul_zero]
  obtain⟨a,ha,e2⟩:=dN.1 (hpG k hk h);rw[e2,E.one i a TD ha,if_neg (fun e3=>RE (by rw[e2,←e3,e])),zero_mul]
 by_cases hf:f=0
 ·refine⟨0,Nat.zero_le _,by omega,fun i j hi=>absurd hi (by omega)⟩
 obtain⟨s,hs⟩:=Classical.axiomOfChoice (r:=fun(l n:Nat)=>l<f→n≤r∧n+f≤c∧∀j,j<c→Wv A (X l j) (4^n)) (fun l=>by
  by_cases hl:l<f
  ·obtain⟨n,h⟩:=main l hl;exact⟨n,fun _=>h⟩
  exact⟨0,fun h=>absurd h hl⟩)
 -- the greatest of them
 have big:∀n,n≤f→n=0∨∃m,m<n∧∀l,l<n→s l≤s m:=by
  intro n
  induction n with
  |zero=>exact fun _=>.inl rfl
  |succ n ih=>
   intro hn
   right
   rcases ih (by omega)with e|⟨m,hm,h⟩
   ·exact⟨n,by omega,fun l hl=>by
                      obtain rfl:l=n:=by omega
                      exact Nat.le_refl _⟩
   by_cases k:s m≤s n
   ·exact⟨n,by omega,fun l hl=>by
     by_cases e:l=n
     ·rw[e];exact Nat.le_refl _
     exact Nat.le_trans (h l (by omega)) k⟩
   exact⟨m,by omega,fun l hl=>by
    by_cases e:l=n
    ·rw[e];omega
    exact h l (by omega)⟩
 rcases big f (Nat.le_refl f)with e|⟨m,hm,h⟩
 ·exact absurd e hf
 obtain⟨h1,h2,_⟩:=hs m hm;exact⟨s m,h1,h2,fun l j hl hj=>((hs l hl).2.2 j hj).mono (Nat.pow_le_pow_right (by decide) (h l hl))⟩
end
end Go.Mx
namespace Go.Mx
open Go Go.R
section
variable {A:List R}{r c f:Nat}{M:Mt}
structure Im (A:List R) (r c f:Nat) (M Z:Mt) (s:Nat) (γ:Nat→Nat):Prop where
 sp:Sp r c f M Z γ
 ker:nN r c M (Z f)
 low:∀i,i<s→i<f→Z f (γ i)=q 0
 up:∀i,s≤i→i<f→Wv A (Z f (γ i)) 1
theorem Im.step {Z:Mt}{p:List Nat}{γ:Nat→Nat}{k:Nat}(I:Im A r c f M Z p.length γ)(E:FB (f+1) k Z p)(hp:p.length≤f)(hk:k<c):
  (gB (f+1) k (Z,p)).2.length≤f∧∃γ',Im A r c f M (gB (f+1) k (Z,p)).1 (gB (f+1) k (Z,p)).2.length γ':=by
 unfold gB
 split
 ·rename_i hf
  obtain⟨h1,h2⟩:=ou (s:=(Z,p)) E.len hf;obtain⟨_,_,h3,_⟩:=jG Z k (f+1-p.length) p.length;simp only at hf h1 h2⊢
  generalize jM Z k (f+1-p.length) p.length=t at hf h1 h2 h3⊢
  have ht:t<f:=by
   refine Nat.lt_of_le_of_ne (by omega) fun e=>h2 ?_;rw[e,I.sp.span I.ker hk];refine sf fun l hl=>?_
   by_cases h:l<p.length
   ·rw[I.low l h hl,zero_mul]
   rw[h3 l (by omega) (by omega),mul_zero]
  have hs:p.length<f:=by omega
  have hn:gy Z p.length t p.length k≠q 0:=by
   unfold gy;rw[if_pos rfl];exact h2
  have hl:gy Z p.length t f=Z f:=by
   unfold gy;rw[if_neg (by omega),if_neg (by omega)]
  have P:=(I.sp.swap hs ht).clear hs hk hn;rw[X6,List.length_singleton];have hz:∀i,i<f→i≠p.length→gy Z p.length t p.length (OP γ p.length t i)=q 0:=fun i hi RE=>by rw[(I.sp.swap hs ht).one _ i hs hi,if_neg fun e=>RE e.symm]
  have hf':∀j,fx (gy Z p.length t) p.length k f j=Z f j-gy Z p.length t p.length j*iv (gy Z p.length t p.length k)*Z f k:=fun j=>by
   unfold fx;rw[if_neg (by omega),hl]
  refine⟨by omega,_,P,?_,fun i hi We=>?_,fun i hi We=>?_⟩
  ·have:fx (gy Z p.length t) p.length k f=fun j=>Z f j-gy Z p.length t p.length j*(iv (gy Z p.length t p.length k)*Z f k):=funext fun j=>by rw[hf',mul_assoc]
   rw[this];exact I.ker.Qq ((I.sp.swap hs ht).ker _ hs) _
  ·rw[hf']
   by_cases e:i=p.length
   ·rw[if_pos e,jw hn,one_mul,sub_self]
   rw[if_neg e,hz i We e,zero_mul,zero_mul,sub_zero];unfold OP;rw[if_neg e,if_neg (by omega)];exact I.low i (by omega) We
  rw[hf'];rw[if_neg (by omega),hz i We (by omega),zero_mul,zero_mul,sub_zero];unfold OP;rw[if_neg (by omega)]
  split
  ·exact I.up _ (Nat.le_refl _) hs
  exact I.up i (by omega) We
 exact⟨hp,γ,I⟩
theorem Im.red {Z:Mt}{γ:Nat→Nat}(I:Im A r c f M Z 0 γ):∀k,k≤c→(red (f+1) Z k).2.length≤f∧∃γ',Im A r c f M (red (f+1) Z k).1 (red (f+1) Z k).2.length γ'
 |0,_=>⟨Nat.zero_le _,γ,I⟩
 |k+1,hk=>by
  obtain⟨h1,γ',h2⟩:=Im.red I k (by omega);exact h2.step (bz (f+1) Z k) h1 (by omega)
theorem Im.Qt {Z:Mt}{γ:Nat→Nat}(I:Im A r c f M Z 0 γ):(Mx.red (f+1) Z c).2.length=f:=by
 obtain⟨h1,γ',h2⟩:=I.red c (Nat.le_refl c);refine Nat.le_antisymm h1 (Nat.le_of_not_lt fun h=>?_);have h3:=h2.sp.one _ _ h h;rw[(bz (f+1) Z c).low _ _ (Nat.le_refl _) (by omega) (h2.sp.lt _ h),if_pos rfl]at h3;exact eR h3.symm
theorem Mv {n r c f:Nat}(h1:n≤r)(h2:n+f≤c)(hr:r*c≤20)(hc:c≤12):4^n≤256∧1+f*(1+4^n)≤258:=by
 have h3:n*c≤20:=Nat.le_trans (Nat.mul_le_mul_right c h1) hr;have h4:n*n≤n*c:=Nat.mul_le_mul_left n (by omega);have h5:n≤4:=Nat.le_of_not_lt fun h=>by have:=Nat.mul_le_mul (show 5≤n from h) (show 5≤n from h);omega
 match n,h5 with
 |0,_=>exact⟨by decide,by omega⟩
 |1,_=>exact⟨by decide,by omega⟩
 |2,_=>exact⟨by decide,by omega⟩
 |3,_=>exact⟨by decide,by omega⟩
 |4,_=>exact⟨by decide,by omega⟩
theorem Im.wv {Z:Mt}{s:Nat}{γ:Nat→Nat}(I:Im A r c f M Z s γ)(hM:MW A r c M 1)(hr:r*c≤20)(hc:c≤12):MW A (f+1) c Z 258:=by
 obtain⟨n,h1,h2,h3⟩:=I.sp.wv hM;obtain⟨w1,w2⟩:=Mv h1 h2 hr hc;intro i j hi hj
 by_cases e:i<f
 ·exact(h3 i j e hj).mono (by omega)
 obtain rfl:i=f:=by omega
 rw[I.sp.span I.ker hj];have h4:Wv A (sm i (fun l=>Z i (γ l)*Z l j)) _:=Wv.sm (w:=fun _=>1+4^n) fun l hl=>by
  by_cases h:l<s
  ·left;rw[I.low l h hl,zero_mul]
  right;exact(I.up l (by omega) hl).mul (h3 l j hl hj)
 refine h4.mono ?_
 have:∀m W,ns m (fun _=>W)=m*W:=fun m W=>by
  induction m with
  |zero=>rw[ns];omega
  |succ m ih=>rw[ns,ih,Nat.add_mul];omega
 rw[this];exact w2
theorem Im.mw {Z:Mt}{γ:Nat→Nat}(I:Im A r c f M Z 0 γ)(hM:MW A r c M 1)(hr:r*c≤20)(hc:c≤12){k:Nat}(hk:k≤c):MW A (f+1) c (Mx.red (f+1) Z k).1 258:=by
 obtain⟨_,γ',h2⟩:=I.red k hk;exact h2.wv hM hr hc
theorem LF {K:Mt}{φ:Nat→Nat}(hK:∀l j,l<f→K l j=iH (Mx.red r M c).2 (fun i=> -(Mx.red r M c).1 i (φ l)) (fun j=>if j=φ l then q 1 else q 0) (Mx.red r M c).2.length j)
  (hφ:∀l,l<f→φ l<c∧φ l∉(Mx.red r M c).2) (hi:∀i j,i<f→j<f→φ i=φ j→i=j) (ha:∀j,j<c→j∉(Mx.red r M c).2→∃l,l<f∧φ l=j):Sp r c f M K φ:=by
 have E:=bz r M c;refine⟨fun l hl=>?_,fun i h=>(hφ i h).1,fun l i hl h=>?_,fun z hz h0 j hj=>?_⟩
 ·have:=(lL r c M _ c).1 (E.PD (hφ l hl).1 (hφ l hl).2)
  exact fun i h=>(cN fun j _=>by rw[hK l j hl]).trans (this i h)
 ·rw[hK l _ hl,j3 fun a h1 e=>(hφ i h).2 (dN.2 ⟨a,h1,e⟩)]
  by_cases e:l=i
  ·rw[if_pos e,if_pos (by rw[e])]
  rw[if_neg e,if_neg fun e2=>e (hi l i hl h e2.symm)]
 by_cases hp:j∈(Mx.red r M c).2
 ·obtain⟨i,h1,rfl⟩:=dN.1 hp;have TD:=Nat.lt_of_lt_of_le h1 E.len;have h2:=(lL r c M z c).2 hz i TD
  rwa [gO hj fun k hk RE=>?_,E.one i i TD h1,if_pos rfl,one_mul]at h2
  by_cases h:k∈(Mx.red r M c).2
  ·obtain⟨a,h3,rfl⟩:=dN.1 h;rw[E.one i a TD h3,if_neg (fun e=>RE (by rw[e])),zero_mul]
  obtain⟨l,h3,rfl⟩:=ha k hk h;rw[h0 l h3,mul_zero]
 obtain⟨l,h3,rfl⟩:=ha j hj hp;exact h0 l h3
theorem Em {v b x:Nat→R}(hb:∀i,i<r→b i=sm c (fun j=>M i j*v j))
  (hx:∀j,j<c→x j=iH (Mx.red r (uK c M b) c).2 (fun i=>(Mx.red r (uK c M b) c).1 i c) (fun _=>q 0) (Mx.red r (uK c M b) c).2.length j):
  nN r c M (fun j=>v j-x j)∧∀j,j<c→j∉(Mx.red r M c).2→v j-x j=v j:=by
 obtain⟨a1,a2⟩:=pH (xb (r:=r) (c:=c) (M:=M) (b:=b)) c (Nat.le_refl c);refine⟨(lL r c M _ c).1 fun i hi=>?_,fun j hj hp=>?_⟩
 ·have E:=bz r M c;have h1:=s7 hb hi (k:=c);rw[cN fun j hj=>by rw[a1 i j hi hj]]at h1;have h2:sm c (fun j=>(Mx.red r M c).1 i j*x j)=(Mx.red r (uK c M b) c).1 i c:=by
   rw[cN (g:=fun j=>(Mx.red r M c).1 i j*iH (Mx.red r M c).2 (fun i=>(Mx.red r (uK c M b) c).1 i c) (fun _=>q 0) (Mx.red r M c).2.length j) fun j hj=>by rw[hx j hj,a2]]
   by_cases h:i<(Mx.red r M c).2.length
   ·exact E.row (Nat.le_refl c) _ h
   rw[E.NP (Nat.le_refl c) _ (by omega) hi,h1,E.NP (Nat.le_refl c) _ (by omega) hi]
  rw[cN (g:=fun j=>(Mx.red r M c).1 i j*v j+ -((Mx.red r M c).1 i j*x j)) fun j _=>by
   show(Mx.red r M c).1 i j*(v j-x j)=_
   rw[sub_def,mul_add,mul_neg],qo,xP,h2,←h1,add_neg]
 rw[hx j hj,a2,j3 fun a h1 e=>hp (dN.2 ⟨a,h1,e⟩),sub_zero]
end
end Go.Mx
namespace Go.Proofs.YthnkehdgnagmnaaGreat
open Go.Proofs.Tryz
open Go Go.Eng
open Go.Tw (El ax TG)
open Go.Mx (sm iv gp red iH Wv MW nN uK)
section
variable {A:List R}
theorem Oo (c:Nat)(M:Nat→Nat→Nu A)(b:Nat→Nu A):vM (fb c M b)=uK c (vM M) (fun i=>(b i).v):=by
 funext i j
 unfold vM fb uK
 split<;>rfl
theorem Jj {n r c:Nat}(h1:n≤r)(h2:n≤c)(Tt:r*c≤20)(hc:c≤12):4^n≤256∧(c-n)*(4^n+1)+2≤259∧n≤6:=by
 obtain⟨h3,h4⟩:=Go.Mx.Mv (f:=c-n) h1 (by omega) Tt hc;refine⟨h3,by rw[Nat.add_comm (4^n)];omega,Nat.le_of_not_lt fun h=>?_⟩
 have:4^7≤4^n:=Nat.pow_le_pow_right (by decide) h
 omega
variable (S:Go.Tw.Src 64 A)(hA:A.length≤3)
include S hA
theorem Kt {r c:Nat}(M:Nat→Nat→Nu A)(b v:Nat→Nu A)(Tt:r*c≤20)(hr:r≤20)(hc:c≤12)(h0:r=0→c=0)(hw:∀i j,i<r→j<c→(M i j).w≤1)(Sj:∀i,i<r→(b i).w≤259)
  (hb:∀i,i<r→(b i).v=sm c (fun j=>(M i j).v*(v j).v)) (hv:∀j,j<c→(v j).w≤1):
  ∃X:Nat→Nu A,(∀j,(X j).w≤259)∧nN r c (vM M) (fun j=>(v j).v-(X j).v)∧(∀j,j<c→j∉(red r (vM M) c).2→(v j).v-(X j).v=(v j).v)∧
   Pr prog 9 [.one (bK r (fun _=>c) M),.one (oQ r b)] (.aF [.one (oQ c X),.one (.int .i64 0)]):=by
 have hd:dR r≤1:=by unfold dR;split<;>omega
 have ea:=Oo c M b;have stop:∀k,k≤c+dR r→∃k',k'≤c∧red r (vM (fb c M b)) k=red r (vM (fb c M b)) k':=fun k hk=>by
  by_cases h:k≤c
  ·exact⟨k,h,rfl⟩
  obtain rfl:k=c+1:=by omega
  exact⟨c,Nat.le_refl _,by rw[ea];exact Go.Mx.yK hb⟩
 have key:∀k,k≤c→(red r (vM (fb c M b)) k).2.length≤6∧MW A r (c+dR r) (red r (vM (fb c M b)) k).1 259:=fun k hk=>by
  rw[ea];obtain⟨a1,a2⟩:=Go.Mx.pH (Go.Mx.xb (r:=r) (c:=c) (M:=vM M) (b:=fun i=>(b i).v)) k hk;have hl:=(Go.Mx.bz r (vM M) k).len;have Rv:=Ca r (vM M) k;obtain⟨n1,n2,n3⟩:=Jj hl (Nat.le_trans Rv hk) Tt hc;refine⟨by rw[a2];exact n3,fun i j hi hj=>?_⟩
  by_cases h:j<c
  ·rw[a1 i j hi h];exact(Go.Mx.uH (ur hw) k hk i j hi h).mono (by omega)
  obtain rfl:j=c:=by omega
  have:=Go.Mx.MY (ur hw) hb (fun j hj=>(v j).wv.mono (hv j hj)) hk hi
  rw[a2]at this;exact this.mono n2
 have hwa:∀i j,i<r→j<c+dR r→(fb c M b i j).w≤259:=fun i j hi hj=>by
  unfold fb
  split
  ·exact Nat.le_trans (hw i j hi (by assumption)) (by decide)
  exact Sj i hi
 have hm:r*(c+dR r)≤20*13:=Nat.mul_le_mul hr (by omega);obtain⟨X,d,x1,x2,x3⟩:=FQ S hA (fb c M b) (fun _=>259) (by omega) (show c+dR r<2^30 by omega) (by omega) (fun h=>by unfold dR;rw[if_pos h];exact h0 h) hwa (by decide) (fun _ _ _=>Nat.le_refl _) (fun _ _=>.inl (by decide))
  (fun k hk=>by obtain⟨k',h1,h2⟩:=stop k hk;rw[h2];exact(key k' h1).1) (fun k hk=>by obtain⟨k',h1,h2⟩:=stop k hk;rw[h2];exact(key k' h1).2)
 have E:=Go.Mx.bz r (vM (fb c M b)) (c+dR r);have er:red r (vM (fb c M b)) (c+dR r)=red r (vM (fb c M b)) c:=by
  by_cases e:r=0
  ·rw[show dR r=0 from if_pos e];rfl
  rw[show dR r=1 from if_neg e,ea];exact Go.Mx.yK hb
 have hp:c∉(red r (vM (fb c M b)) (c+dR r)).2:=fun h=>by
  rw[er]at h;obtain⟨i,hi,e⟩:=Go.Mx.dN.1 h
  have:=(Go.Mx.bz r (vM (fb c M b)) c).lt i hi
  omega
 rw[CI]at x3;have hsv:∀j,(I3 c (
             red r (vM (fb c M b)) (c+dR r)).2 X j).v=iH (red r (vM (fb c M b)) c).2 (fun i=>(red r (vM (fb c M b)) c).1 i c) (fun _=>R.q 0) (red r (vM (fb c M b)) c).2.length j:=fun j=>by
  unfold I3;rw[Go.Mx.nO Nu.v,←er];refine oX (fun i hi=>?_) (Nat.le_refl _) j
  have:i<r:=Nat.lt_of_lt_of_le hi E.len
  exact x1 i c this (by
             have:dR r=1:=if_neg (by omega)
             omega)
 obtain⟨g1,g2⟩:=Go.Mx.Em (M:=vM M) (v:=fun j=>(v j).v) (b:=fun i=>(b i).v) (x:=fun j=>(I3 c (red r (vM (fb c M b)) (c+dR r)).2 X j).v) hb (fun j _=>by rw[hsv j,ea]);refine⟨I3 c (red r (vM (fb c M b)) (c+dR r)).2 X,fun j=>?_,g1,g2,?_⟩
 ·refine ss (P:=fun a:Nu A=>a.w≤259) (fun i hi=>?_) (fun _=>by show 1≤259;decide) (Nat.le_refl _) j
  have:i<r:=Nat.lt_of_lt_of_le hi E.len
  exact x2 i c this (by
             have:dR r=1:=if_neg (by omega)
             omega)
 refine Be (fun i j=>(M i j).x) (fun i j=>(X i j).x) (fun i=>(b i).x) _ _ _ (by omega) (by omega) h0 rfl E.len E.lt x3 ⟨_,_,rfl⟩ ⟨_,_,rfl⟩ _ (fun h'=>absurd h' hp) (fun _=>?_);unfold oQ;rw[L9]
theorem NO {r c f:Nat}{M:Nat→Nat→R}{γ:Nat→Nat}(Z:Nat→Nat→Nu A)(hM:MW A r c M 1)(Tt:r*c≤20)(hc:c≤12)(hf:f≤12)(I:Go.Mx.Im A r c f M (vM Z) 0 γ)(hw:∀i j,i<f+1→j<c→(Z i j).w≤258):
  Pr prog 14 [.one (bK (f+1) (fun _=>c) Z)] (.one (.int .i64 f)):=by
 obtain⟨X,_,_,x3⟩:=H7 S hA Z (fun _=>258) (show f+1<2^30 by omega) (by omega) (fun h=>absurd h (by omega)) hw (fun _ _ _=>by decide) (fun k hk=>I.mw hM Tt hc hk)
 have:=JJ (fun i j=>(Z i j).x) (fun i j=>(X i j).x) (red (f+1) (vM Z) c).2 x3
 rwa [I.Qt]at this
end
open Go Go.Eng
open Go.Tw (El ax TG)
open Go.Mx (sm iv gp red iH Wv MW nN)
theorem sA (p:List Nat){c i:Nat}(h:i<(fl p c).length):i<(fl p (c+1)).length∧(fl p (c+1)).getD i 0=(fl p c).getD i 0:=by
 rw[show fl p (c+1)=if c∈p then fl p c else fl p c++[c]from rfl]
 split
 ·exact⟨h,rfl⟩
 refine⟨by rw[X6];omega,?_⟩;rw[X7,List.getElem?_append_left h,←X7]
theorem FC (p:List Nat):∀(c j:Nat),j<c→j∉p→∃l,l<(fl p c).length∧(fl p c).getD l 0=j
 |c+1,j,hj,hp=>by
  by_cases e:j=c
  ·subst e;refine⟨(fl p j).length,?_,?_⟩
   ·rw[fl,if_neg hp,X6,List.length_singleton];omega
   rw[fl,if_neg hp,X7,List.getElem?_append_right (Nat.le_refl _),Nat.sub_self];rfl
  obtain⟨l,h1,h2⟩:=FC p c j (by omega) hp;obtain⟨h3,h4⟩:=sA p h1;exact⟨l,h3,h4.trans h2⟩
theorem Cs (p:List Nat):∀(c i j:Nat),i<j→j<(fl p c).length→(fl p c).getD i 0<(fl p c).getD j 0
 |c+1,i,j,US,hj=>by
  by_cases hl:j<(fl p c).length
  ·rw[(sA p hl).2,(sA p (show i<(fl p c).length by omega)).2];exact Cs p c i j US hl
  by_cases hc:c∈p
  ·rw[fl,if_pos hc]at hj;exact absurd hj hl
  have hi:i<(fl p c).length:=by
   rw[fl,if_neg hc,X6,List.length_singleton]at hj;omega
  rw[(sA p hi).2];have e:j=(fl p c).length:=by
   rw[fl,if_neg hc,X6,List.length_singleton]at hj;omega
  rw[fl,if_neg hc,e,X7 (l:=fl p c++[c]),List.getElem?_append_right (Nat.le_refl _),Nat.sub_self];exact(qq p c i hi).1
theorem M7 (p:List Nat){c i j:Nat}(hi:i<(fl p c).length)(hj:j<(fl p c).length)(e:(fl p c).getD i 0=(fl p c).getD j 0):i=j:=by
 rcases Nat.lt_trichotomy i j with h|h|h
 ·have:=Cs p c i j h hj;omega
 ·exact h
 have:=Cs p c j i h hi;omega
theorem F2 {no s:Nat}{fo:Nat→Nat→C}{cs bs:List Int}
  (cm:Pr prog 5 [.agg [.rows 5 no fo,.ints .u8 cs,.int .u8 s],.one (.int .i64 20)] (.aF [.one .nil,.one (.bool false)])):
  Pr prog 3 [.agg [.rows 5 no fo,.ints .u8 cs,.int .u8 s],.one (.ints .u8 bs)] (.one (.bool true)):=by
 refine pw func3 ⟨[0,1,2,4,5,6,7,8,10,11,12,13,14,15,16,17,20,34,38,39,40,41,79,81,82,83],[(21,(.cons 13 [11] (.cons 14 [] .nil .nil) .nil))]⟩ ?_;simp only[Tryz.f3,ntmps3,iz,seval];simp only[vx,T,seval];refine Cg yi ?_;simp only[vx,T,seval];refine Cg cm ?_;simp only[vx,T,seval];exact Ve rfl
theorem EO {no s r:Nat}{c:Nat→Nat}{m:Nat→Nat→Nb}{fo:Nat→Nat→C}{cs bs:List Int}
  (cm:Pr prog 5 [.agg [.rows 5 no fo,.ints .u8 cs,.int .u8 s],.one (.int .i64 20)] (.aF [.one (av r c m),.one (.bool false)])):
  Pr prog 3 [.agg [.rows 5 no fo,.ints .u8 cs,.int .u8 s],.one (.ints .u8 bs)] (.one (.bool true)):=by
 refine pw func3 ⟨[0,1,2,4,5,6,7,8,10,11,12,13,14,15,16,17,20,34,38,39,40,41,79,81,82,83],[(21,(.cons 13 [11] (.cons 14 [] .nil .nil) .nil))]⟩ ?_;simp only[Tryz.f3,ntmps3,iz,seval];simp only[vx,T,seval];refine Cg yi ?_;simp only[vx,T,seval];refine Cg cm ?_;simp only[vx,T,seval,av];exact Ve rfl
theorem EF {A:List R}(S:Go.Tw.Src 64 A)(hA:A.length≤3){no s n:Nat}{a:Nat→Nb}{fo:Nat→Nat→C}{cs bs:List Int}{r c:Nat}(f:Nat→Nu A)(hf:∀v,(f v).x=JS n a v∧(f v).w=1)(M:Nat→Nat→Nu A)(h0:r=0→c=0)(Tt:r*c≤20)(hr:r≤20)(hc:c≤12)
  (hw:∀i j,i<r→j<c→(M i j).w≤1) (hn:n<2^30) (hbs:∀i,i<bs.length→0≤bs.getD i 0∧bs.getD i 0<256) (Uh:bs.length<2^63) (cb:Pr prog 7 [.one (.rows 5 no fo)] (.one (ak n a)))
  (cm:Pr prog 5 [.agg [.rows 5 no fo,.ints .u8 cs,.int .u8 s],.one (.int .i64 20)] (.aF [.one (bK r (fun _=>c) M),.one (.bool true)])):
  Pr prog 3 [.agg [.rows 5 no fo,.ints .u8 cs,.int .u8 s],.one (.ints .u8 bs)] (.one (.bool true)):=by
 have cp:=JE (fun _=>c) (fun i j=>(M i j).x) (by omega:r<2^38) fun _ _=>by omega
 have cl:=tc (fun _=>c) (fun i j=>(M i j).x) (k:=c) (by split;exact h0 (by assumption);rfl) (by omega:r<2^38);obtain⟨b,hb⟩:∃b:Nat→Nu A,∀i,b i=f (bs.getD i 0).toNat:=⟨_,fun _=>rfl⟩;have Sj:∀i,(b i).w=1:=fun i=>by rw[hb];exact(hf _).2
 have XE:r≤4∨c≤5:=by
  by_cases h:r≤4
  ·exact .inl h
  have:5*c≤r*c:=Nat.mul_le_mul_right _ (by omega)
  omega
 have b2:wA=2000:=rfl;have b8:wB=800:=rfl;obtain⟨o,ho,ca⟩:=Lo S hA (r:=r) (n:=c) (n':=c) (p:=1) (q:=1) M b (by omega) (by omega) (Nat.le_refl _) hw (fun j _=>Nat.le_of_eq (Sj j)) (by omega) (by omega);obtain⟨X,hX,x1,x2,cx⟩:=Kt S hA M o b Tt hr hc h0 hw (fun i hi=>Nat.le_trans (ho i hi).2 (by omega)) (fun i hi=>(ho i hi).1) (fun j _=>Nat.le_of_eq (Sj j));obtain⟨K,hK,ck⟩:=zM S hA M (by omega) (by omega) (by omega) h0 hw XE;obtain⟨D,hD⟩:=OH (n:=c) (p:=fun j d=>d.v=(b j).v-(X j).v∧Pr prog 13 [nX (b j).x,nX (X j).x] (.aF [nX d.x,.one (.int .i64 0)])) (b 0) fun j _=>by
  obtain⟨d,d1,_,d3⟩:=xp S hA (a:=b j) (b:=X j) (by rw[Sj];omega) (Nat.le_trans (hX j) (by omega));exact⟨d,d1,d3⟩
 have UU:(fl (red r (vM M) c).2 c).length≤c:=Gm _ _;obtain⟨nk,UQ⟩:∃nk,nk=(fl (red r (vM M) c).2 c).length:=⟨_,rfl⟩;obtain⟨Z,hZ⟩:∃Z:Nat→Nat→Nu A,∀i,Z i=if i<nk then K i else D:=⟨_,fun _=>rfl⟩
 have hZk:∀i,i<nk→Z i=K i:=fun i hi=>by rw[hZ,if_pos hi]
 have XM:Z nk=D:=by rw[hZ,if_neg (Nat.lt_irrefl _)]
 have sp:Go.Mx.Sp r c nk (vM M) (vM Z) (fun l=>(fl (red r (vM M) c).2 c).getD l 0):=by
  refine Go.Mx.LF (fun l j hl=>?_) (fun l hl=>qq _ c l (by rw[←UQ];exact hl)) (fun i j hi hj e=>M7 _ (by rw[←UQ];exact hi) (by rw[←UQ];exact hj) e) (fun j hj hp=>?_)
  ·show(Z l j).v=_
   rw[hZk l hl,(hK l j (by rw[←UQ];exact hl)).1];rfl
  obtain⟨l,h1,h2⟩:=FC _ c j hj hp;exact⟨l,by rw[UQ];exact h1,h2⟩
 have I:Go.Mx.Im A r c nk (vM M) (vM Z) 0 (fun l=>(fl (red r (vM M) c).2 c).getD l 0):=by
  refine⟨sp,fun i hi=>?_,fun i hi=>absurd hi (Nat.not_lt_zero _),fun i _ hi=>?_⟩
  ·refine(Go.Mx.cN fun j hj=>?_).trans (x1 i hi)
   show vM M i j*(Z nk j).v=_;rw[XM,(hD j hj).1]
  obtain⟨h1,h2⟩:=qq (red r (vM M) c).2 c i (by rw[←UQ];exact hi);show Wv A (Z nk _).v 1;rw[XM,(hD _ h1).1,x2 _ h1 h2];exact(b _).wv.mono (Nat.le_of_eq (Sj _))
 obtain⟨Y,y1,y2,y3⟩:=Qd Z (I.wv (ur hw) Tt hc);have cr:=NO S hA Y (ur hw) Tt hc (by omega) (by rw[y2];exact I) y3;have y1':bK (nk+1) (fun _=>c) Y=bK (nk+1) (fun _=>c) Z:=by
  unfold bK;rw[y1]
 rw[y1']at cr;have cf:=Ap (r:=nk) (fun _=>c) (fun i j=>(K i j).x) (by omega) fun _ _=>by omega
 rw[←UQ]at ck;have hnc:nk≤c:=by rw[UQ];exact UU
 clear hK sp I y1 y2 y3 y1' UU;refine pw func3 ⟨[0,1,2,4,5,6,7,8,10,11,12,13,14,15,16,17,20,34,38,39,40,41,79,81,82,83],[(21,(.cons 13 [11] (.cons 14 [] .nil .nil) .nil))]⟩ ?_;simp only[Tryz.f3,ntmps3,iz,seval];simp only[vx,T,seval];refine Cg yi ?_;simp only[vx,T,seval];refine Cg cm ?_;simp only[vx,T,seval,bK,av,ak];refine Cg cl ?_;simp only[vx,T,seval,bK,av,ak];refine⟨fun g0=>Lg ?_,fun g0=>Lg ?_⟩
 ·simp only[vx,T,seval,bK,av,ak];exact Ve rfl
 have hbc:bs.length=c:=by omega
 simp only[vx,T,seval,bK,av,ak];refine Cg cb ?_;simp only[vx,T,seval,bK,av,ak];refine Lk (fun y:{i:Nat//i≤bs.length}=>⟨[(4,.one (.bool false)),(5,.one (bK r (fun _=>c) M)),(7,.one (ak n a)),(8,.one (.own 1 2 0 y.1)),(38,.one (.ints .u8 bs)),(39,.one (.int .i64 bs.length)),(40,.one (.int .i64 y.1))],[(1,⟨.rows 37 2 y.1 (fun i=>bw (b i).x),true⟩)],2,111⟩) (fun y=>bs.length-y.1) ⟨0,Nat.zero_le _⟩ ?_ (fun⟨i,hi⟩=>?_)
 ·refine Sa ?_;simp only[ry,seval,rz,bK,av,ak]
 simp only;have wi:=wI i (by omega);simp only[vx,T,seval,bK,av,ak];refine⟨fun g=>Lg ?_,fun g=>Lg ?_⟩
 ·have RG:i<bs.length:=by omega
  obtain⟨b1,b2⟩:=hbs i RG;obtain⟨v,hv⟩:∃v:Nat,bs.getD i 0=v:=⟨(bs.getD i 0).toNat,by omega⟩;have wv:IntKind.i64.wrap (v:Int)=(v:Int):=IntWalk.i64_in _ (by omega);have Te:=O6 a v hn (by omega);have ev:(b i).x=JS n a v:=by rw[hb,hv];exact(hf v).1
  simp only[vx,T,seval,bK,av,ak,hv,wv];refine⟨by omega,Cg Te ?_⟩;simp only[vx,T,seval,nX,nV,tC,aa,wi];refine⟨⟨by omega,by omega⟩,Lq ⟨i+1,by omega⟩ ?_ (by show bs.length-(i+1)<bs.length-i;omega)⟩;refine Sa ?_;simp only[ry,seval,rz,bK,av,ak,tC,aa];have s:=rA (fun i=>(b i).x) i;simp only[ev]at s;exact s
 obtain rfl:c=i:=by omega
 simp only[vx,T,seval,bK,av,ak];refine Cg cp ?_;simp only[vx,T,seval,bK,av,ak,Nat.not_lt_zero,Nat.sub_zero];refine Cg ca ?_;simp only[vx,T,seval,bK,av,oQ,ak];refine Cg cx ?_;simp only[vx,T,seval,bK,av,oQ,ak];refine Cg cp ?_;simp only[vx,T,seval,bK,av,oQ,ak];refine Cg ck ?_;simp only[vx,T,seval,bK,av,oQ,ak];refine Lk (fun y:{i:Nat//i≤c}=>⟨[(4,.one (.bool false)),(8,.one (.own 1 2 0 c)),(11,.one (oQ c X)),(13,.one (bK nk (fun _=>c) K)),(15,.one (.own 2 2 0 y.1)),(81,.one (.int .i64 c)),(82,.one (.int .i64 y.1))],
  [(1,⟨.rows 37 2 c (fun i=>bw (b i).x),false⟩),(2,⟨.rows 37 2 y.1 (fun i=>bw (D i).x),true⟩)],3,111⟩) (fun y=>c-y.1) ⟨0,Nat.zero_le _⟩ ?_ (fun⟨i,hi⟩=>?_)
 ·refine Sa ?_;simp only[ry,seval,rz,bK,av,oQ,ak,Nat.not_lt_zero]
 simp only;have wi:=wI i (by omega);simp only[vx,T,seval,bK,av,oQ,ak];refine⟨fun g=>Lg ?_,fun g=>Lg ?_⟩
 ·have hic:i<c:=by omega
  have cs:=(hD i hic).2;simp only[vx,T,seval,bK,av,oQ,ak,bw,tC,aa];refine⟨by omega,by omega,Cg cs ?_⟩;simp only[vx,T,seval,nX,nV,tC,aa,wi];refine⟨⟨by omega,by omega⟩,Lq ⟨i+1,by omega⟩ ?_ (by show c-(i+1)<c-i;omega)⟩;refine Sa ?_;simp only[ry,seval,rz,bK,av,oQ,ak,tC,aa];exact rA (fun i=>(D i).x) i
 obtain rfl:c=i:=by omega
 simp only[vx,T,seval,bK,av,oQ,ak];have cr':=cr.args (xs:=[.one (.rows 1 (nk+1) (fun i j=>if i<nk then .rows 2 c (fun l=>bw (K i l).x)else[.rows 2 c fun l k=>bw (D l).x k].getD ((i-nk)*1+j) .any))]) ⟨.cell (dK.rows rfl fun i j hi hj=>.of_eq (by
  obtain rfl:j=0:=by omega
  by_cases e:i<nk
  ·show _=ak c fun j=>(Z i j).x;rw[if_pos e,hZk i e];rfl
  obtain rfl:nk=i:=by omega
  show _=ak c fun j=>(Z nk j).x;rw[if_neg e,XM,Nat.sub_self];rfl)),trivial⟩
 refine cH.fresh cf ?_;simp only[vx,T,seval,bK,av,oQ,ak];refine⟨⟨by omega,by omega⟩,Cg cr' ?_⟩;simp only[vx,T,seval,bK,av,oQ,ak];exact Ve (by simp)
open Go Go.Eng
theorem Ie {n n':Nat}{cells:List C}{c:C}(h:nY prog maxLen n 26 cells)(h':nY prog maxLen n' 24 [c]):Pr prog 3 [.agg cells,.one c] (.one (.bool true)):=by
 obtain⟨r,cs,s,hr,Vi,⟨hl,R2⟩,hs,hle⟩:=G8 h;obtain⟨bs,e,Uh,hbs⟩:=C7 h';obtain rfl:c= .ints .u8 bs:=by simpa using e
 refine Pr.args (ys:=[.agg [IF r,.ints .u8 cs,.int .u8 s],.one (.ints .u8 bs)]) ?_ ⟨DU hle,.refl _,trivial⟩;obtain⟨A,n,a,S,hA,hn,cb,ca,hf⟩:=Pk r hr Vi;have M:=fun{R:V} h1 h2=>Ej a (IF r) cs s 20 (by omega) hs R2 hl (by decide) cb ca ⟨_,_,rfl⟩ (R:=R) h1 h2
 by_cases h1:20<cs.length
 ·exact F2 (M (fun _=>rfl) (fun h=>absurd h1 (by omega)))
 by_cases h2:(E0 a n:Int)≤2
 ·obtain⟨f,hf⟩:=hf h2;obtain⟨d1,d2,d3,d4⟩:=Ga (l:=cs.length) (most:=20) s (by omega);have cm:=M (fun h=>absurd h h1) (fun _=>rfl);rw[decide_eq_true h2,show xf n a cs (gD s)=fun i j=>(f (cs.getD (i*gD s+j) 0).toNat).x from funext fun i=>funext fun j=>((hf _).1).symm]at cm;exact EF S hA f hf (fun i j=>f (cs.getD (i*gD s+j) 0).toNat) d1 d2 d3 d4 (fun i j _ _=>Nat.le_of_eq (hf _).2) (by omega) hbs Uh cb cm
 have cm:=M (fun h=>absurd h h1) (fun _=>rfl);rw[decide_eq_false h2]at cm;exact EO cm
end Go.Proofs.YthnkehdgnagmnaaGreat
namespace Go.Proofs.YthnkehdgnagmnaaGreat
open Go.Proofs.Tryz
open Go Go.Proofs Go.Eng Go.ChangeShapes Go.WideShapes Go.ChangeAt Go.RowKit
theorem Tryz.own:ownKnob prog.godebug=none:=by kernel_rfl
theorem Tryz.laidOut:laidOutB prog=true:=by kernel_rfl
set_option maxRecDepth 100000 in
theorem oz (os:Os)(started:os.Started)(H:Type)(enc:TypeId×Value→H):
  ReturnsInHanded {} Tryz.checked os 3 .any (Rows.matrixImageSpec.pre6 enc prog Tryz.f3 Rows.matrixImageRow.domain false) (Rows.matrixImageSpec.post enc prog Tryz.f3 false true false false):=by
 refine returnsInHanded_of_change (C:=Tryz.checked) Tryz.own started (by kernel_rfl) func3
  (ChangeSpec.witness6 (enc:=enc) (C:=Tryz.checked) false ⟨#[],#[.agg #[.slice none 0 0,.slice none 0 0,.int .u8 0],.slice none 0 0],[]⟩ 8 (by kernel_rfl) (by kernel_rfl) (by kernel_rfl) (by kernel_rfl)) ?_
 intro W base args ds gs before W7 hW hcnd _;have RI:∀(j:Nat) t v,Tryz.f3.params[j]? =some t→args[j]? =some v→Value.okWide prog W .any base t v:=W7;have Vw:=hW;obtain⟨p,q,hA0,hV,rfl,S7,ZL⟩:=hW;have hA:DataW.TrodAll enc prog W 0 (fun _=>true) true Tryz.f3.params.toList args.toList ds p:=hA0;rw[Tryz.params3]at hA RI;obtain⟨v0,v1,d0,d1,p0,p1,rfl,rfl,rfl,h0,h1⟩:=trodAll_two hA;obtain⟨rfl,rfl⟩:=trodVars_none hV;clear hA0 W7;simp only[List.append_nil]at Vw;have Ru:=fun x hx=>Vw.lt x hx;obtain⟨us,rfl,Sx⟩:=okWide_struct Tryz.underlying26 (RI 0 26 v0 rfl rfl);have o1:v1.oneCell'=true:=Fk Tryz.underlying24 (RI 1 24 v1 rfl rfl);have s0:=fun W' hb=>vY (W':=W') Tryz.laidOut (by kernel_rfl) (of_decide_eq_true (by kernel_rfl)) h0 hb (fun x hx=>Ru x (List.mem_append_left _ hx));have s1:=fun W' hb=>vY (W':=W') Tryz.laidOut (by kernel_rfl) (of_decide_eq_true (by kernel_rfl)) h1 hb (fun x hx=>Ru x (List.mem_append_right _ hx));obtain⟨n0,cs0,SI,SZ⟩:=Cq (bulk:=fun _=>0) (B:=maxLen) DT (by decide) h0 (.inl (Nat.le_refl _));obtain⟨n1,c1,UJ,T7⟩:=HX DT (by decide) o1 h1;have XN:=Ie SI UJ;have Ry:a6 bm bn (fun g=>g<W.heap.size) W [.agg cs0,.one c1] [.agg us,v1]:=⟨SZ,aA.bh (ρ:=bm) (dom:=bn) T7,trivial⟩
 refine((XN.2 (fun g=>g<W.heap.size) W #[.agg us,v1] (fun _ h=>h) Ry).mono ?_)
 rintro e W' ⟨v,rfl,hB,hv⟩;have hv:v= .bool true:=hv;subst hv;exact⟨_,rfl,IX Vw rfl rfl Tryz.underlying4 rfl (trodAll_mk2 (s0 W' hB) (s1 W' hB)) rfl hB⟩
theorem matrixImage_holds:Rows.MatrixImageSaid:=
 OpenClaim.holds_of_wide 3 Tryz.f3 rfl rfl rfl rfl rfl rfl rfl ⟨rfl,rfl,rfl,rfl,rfl⟩ rfl rfl rfl rfl rfl (by kernel_rfl) func3 (by kernel_rfl)
  (of_decide_eq_true (by kernel_rfl)) (by unfold Func.isWrapper;first|(rw[if_pos (by decide+kernel)];kernel_rfl)|(rw[if_neg (by decide+kernel)];exact⟨rfl,rfl⟩))
  (fun os started H enc _=>oz os started H enc)
end Go.Proofs.YthnkehdgnagmnaaGreat
