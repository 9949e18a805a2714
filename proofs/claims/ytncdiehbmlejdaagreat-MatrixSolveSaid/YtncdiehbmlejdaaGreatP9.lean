/-
  MatrixKernel and MatrixSolve: for every input the law returns true, and each argument reads afterwards as it read before. No condition beyond the cells of the given rows.
  (Text 9 of 9; made by a program out of smaller texts.)
-/
import Derived.Deep.Slices
import Derived.ChangeArms
import Derived.ChangeSame
import Derived.Below
import Derived.OpenShut
import Derived.ProofKit
import Derived.Test.YtncdiehbmlejdaaGreatRows
import Derived.Test.YtncdiehbmlejdaaGreatP8
set_option linter.unusedSimpArgs false
set_option linter.unusedVariables false
set_option maxHeartbeats 16000000
set_option maxRecDepth 10000
open Nat renaming reduceAdd→J1,reduceMul→J2,reduceSub→J3,reduceEqDiff→J4,reduceLT→J5,reduceLeDiff→J6,reduceBEq→J7,reduceDiv→J8,reduceMod→J9,reducePow→J0
open Int renaming reduceToNat→K1,reduceLE→K2,reduceLT→K3,reduceEq→K4,reducePow→K5,reduceSub→K6,reduceNeg→K7,natCast_add→X2,natCast_one→X3,natCast_zero→X4
open List renaming getD_cons_zero→X0,getD_cons_succ→X1,length_take→X5,length_append→X6,getD_eq_getElem?_getD→X7,getElem?_eq_getElem→X8
namespace Go.Proofs.YtncdiehbmlejdaaGreat
open Go.Proofs.Tryz
open Go Go.Eng
open Go.Tw (El ax TG gI jC)
open Go.Mx (sm iv iq red jT kI lP ir)
section
variable {A:List R}(S:Go.Tw.Src 64 A)(hA:A.length≤3)
include S hA
theorem PY {t:List El}{e:El}(T:TG A t)(he:e.length=2^t.length)(hv:Go.Tw.val t.length t e=R.q 1):gI jC t.length t e:=by
 obtain⟨z,w,d,E,_,_⟩:=T.ev S hA;have hx:Go.Tw.Ht t.length z w (Go.Tw.val t.length t e) 0:=by rw[hv];exact Go.Tw.Ht.rat (by decide) (by decide)
 exact(gI.of E he hx).mono (Go.Tw.xd _ (T.jE S hA)).2
theorem Ma {z:List El×El}{β μ:Nat}(nz:ax A z.1 z.2 (R.q 1) β μ):Pr prog 79 [nX z] (.one (.int .i64 (R.bL (R.q 1)))):=by
 have W:=(tD S hA nz.tg (Nat.le_refl _)).rq.mono (show jC≤2^30 by decide);have g:=kx (by decide) (Nat.le_refl _) W nz.len ((PY S hA nz.tg nz.len nz.val).mono (show jC≤2^30 by decide));rw[Go.Tw.bU nz.tg.rd.rl nz.len,nz.val]at g;exact yO _ _ g
theorem DH {r c k W:Nat}(X:Nat→Nat→Nu A)(d:Nu A)(p:List Nat)(hk:k<c)(hq:p.length≤r)(hw:∀i j,i<r→j<c→(X i j).w≤W)(hd:d.w≤W)(hW:p.length<r→W≤150∨(W≤256∧k+1=c))
  (hlow:∀i j,p.length≤i→i<r→j<k→(X i j).v=R.q 0):
  ∃(X':Nat→Nat→Nu A) (d':Nu A),PR r c k p.length (fun i j=>(X i j).x) (fun i j=>(X' i j).x) d.x d'.x (kI (vM X) k (r-p.length) p.length)∧iq r c (vM X') (jT r k (vM X,p)).1∧
   (∀i j,i<r→j<c→(X' i j).w≤W*4^((jT r k (vM X,p)).2.length-p.length))∧d'.w≤W*4^((jT r k (vM X,p)).2.length-p.length):=by
 obtain⟨h1,h2,h3,h4⟩:=Go.Mx.kr (vM X) k (r-p.length) p.length;have b3:wC=300:=rfl;have b8:wB=800:=rfl;have b2:wA=2000:=rfl;have hsg:∀i,p.length≤i→i<r→Pr prog 79 [nX (X i k).x] (.one (.int .i64 (R.bL (X i k).v))):=fun i hi hir=>tY S hA (by
  have:=hw i k hir hk
  have:=hW (by omega)
  omega)
 by_cases ht:kI (vM X) k (r-p.length) p.length<r
 ·have hs:jT r k (vM X,p)=(ir (lP (vM X) p.length (kI (vM X) k (r-p.length) p.length)) p.length k,p++[k]):=by
   unfold jT;exact if_pos ht
  rw[hs]
  generalize kI (vM X) k (r-p.length) p.length=t at h1 h2 h3 h4 ht
  have hne:=h4 (by omega);have hW':=hW (by omega);have hwt:=fun j (hj:j<c)=>hw t j ht hj;have hnk:(X t k).v≠R.q 0:=hne;have hlt:=fun j (hj:j<k)=>hlow t j h1 ht hj;obtain⟨d1,v1,w1,n1⟩:∃d1:Nu A,d1.w=d.w∧(p.length<t→Pr prog 56 [nX d.x] (nX d1.x))∧(t=p.length→d1.x=d.x):=by
   by_cases e:t=p.length
   ·exact⟨d,rfl,fun h=>absurd h (by omega),fun _=>rfl⟩
   obtain⟨c,_,c2,c3⟩:=CW S hA (a:=d) (by omega);exact⟨c,c2,fun _=>c3,fun h=>absurd h e⟩
  obtain⟨d',_,wd,nd⟩:=w9 S hA (a:=d1) (b:=X t k) (by omega) (by have:=hwt k hk;omega);obtain⟨T',hT'⟩:=OP (n:=c) (p:=fun j c=>c.v=(X t j).v*iv (X t k).v∧c.w≤2*W∧Lb 118 (X t j).x (X t k).x c.x) (X 0 0) fun j hj=>by
   have e1:=hwt j hj;have e2:=hwt k hk;obtain⟨c,c1,c2,c3⟩:=Je S hA (a:=X t j) (b:=X t k) (by omega) (by omega) hnk;exact⟨c,c1,by omega,c3⟩
  obtain⟨T,hTd⟩:∃T:Nat→Nu A,∀j,T j=if j<k then X t j else T' j:=⟨_,fun _=>rfl⟩
  have hTl:∀j,j<k→T j=X t j:=fun j hj=>by rw[hTd,if_pos hj]
  have hTr:∀j,k≤j→T j=T' j:=fun j hj=>by rw[hTd,if_neg (by omega)]
  have hTv:∀j,j<c→(T j).v=(X t j).v*iv (X t k).v:=fun j hj=>by
   by_cases e:j<k
   ·rw[hTl j e,hlt j e,R.zero_mul]
   rw[hTr j (by omega)];exact(hT' j hj).1
  have hTw:∀j,j<c→(T j).w≤2*W:=fun j hj=>by
   by_cases e:j<k
   ·rw[hTl j e];have:=hwt j hj;omega
   rw[hTr j (by omega)];exact(hT' j hj).2.1
  have hsT:∀j,k≤j→j<c→Pr prog 79 [nX (T j).x] (.one (.int .i64 (R.bL (T j).v))):=fun j h5 h6=>by
   have e3:=hTw j h6
   rcases hW' with h|⟨h,hc1⟩
   ·exact tY S hA (by omega)
   obtain rfl:j=k:=by omega
   have e4:=hTv j h6;rw[Go.Mx.oF hnk]at e4
   have:=(T j).ok
   rw[e4]at this⊢;exact Ma S hA this
  have hsw:∀i j,i<r→j<c→(dO X p.length t i j).w≤W:=fun i j hi hj=>Hs (by omega) ht hw hi hj;obtain⟨Q,hQ⟩:=OF (r:=r) (c:=c) (p:=fun i j c=>c.v=(dO X p.length t i k).v*(T j).v∧c.w≤3*W∧Lb 116 (dO X p.length t i k).x (T j).x c.x) (X 0 0) fun i j hi hj=>by
   have e1:=hTw j hj;have e2:=hsw i k hi hk;obtain⟨c,c1,c2,c3⟩:=w9 S hA (a:=dO X p.length t i k) (b:=T j) (by omega) (by omega);exact⟨c,c1,by omega,c3⟩
  obtain⟨Z',hZ'⟩:=OF (r:=r) (c:=c) (p:=fun i j c=>c.v=(dO X p.length t i j).v-(dO X p.length t i k).v*(T j).v∧c.w≤W*4∧Lb 158 (dO X p.length t i j).x (Q i j).x c.x) (X 0 0) fun i j hi hj=>by
   obtain⟨q1,q2,_⟩:=hQ i j hi hj;have e2:=hsw i j hi hj;obtain⟨c,c1,c2,c3⟩:=Lp S hA (a:=dO X p.length t i j) (b:=Q i j) (by omega) (by omega);exact⟨c,by rw[c1,q1],by omega,c3⟩
  obtain⟨Z,hZd⟩:∃Z:Nat→Nat→Nu A,∀i j,Z i j=if j<k∨R.bL (T j).v=0 then dO X p.length t i j else Z' i j:=⟨_,fun _ _=>rfl⟩
  have hZv:∀i j,i<r→j<c→(Z i j).v=(dO X p.length t i j).v-(T j).v*(dO X p.length t i k).v:=fun i j hi hj=>by
   rw[hZd]
   split
   ·rename_i e
    have:(T j).v=R.q 0:=by
     rcases e with e|e
     ·rw[hTl j e,hlt j e]
     exact R.gO.1 e
    rw[this,R.zero_mul,R.sub_zero]
   rw[(hZ' i j hi hj).1,R.mul_comm]
  refine⟨fun i=>if i=p.length then T else if R.bL (dO X p.length t i k).v=0 then dO X p.length t i else Z i,d',⟨fun i=>R.bL (X i k).v,hsg,h1,Nat.le_of_lt ht,fun i a b=>R.gO.2 (h3 i a b),.inr ⟨ht,fun e=>hnk (R.gO.1 e),d1.x,fun j=>(T j).x,fun i j=>(Z i j).x,fun i j=>(Q i j).x,fun i=>R.bL (dO X p.length t i k).v,fun j=>R.bL (T j).v,
   w1,n1,nd,fun j h5 h6=>?_,fun j h5=>?_,hsT,fun i hi hne=>?_,fun i hi hne _ j hj=>⟨fun e=>?_,fun h5 h6=>⟨?_,?_⟩⟩,?_⟩⟩,fun i j hi hj=>?_,fun i j hi hj=>?_,?_⟩
  ·show Lb _ _ _ (T j).x;rw[hTr j h5];exact(hT' j h6).2.2
  ·show(T j).x=(X t j).x
   rw[hTl j h5]
  ·have:=tY S hA (a:=dO X p.length t i k) (by have:=hsw i k hi hk;omega)
   rw[kY]at this;exact this
  ·show(Z i j).x=_
   rw[hZd,if_pos e,kY]
  ·have:=(hQ i j hi hj).2.2
   rw[kY]at this;exact this
  ·have:=(hZ' i j hi hj).2.2
   rw[kY]at this;show Lb _ _ _ (Z i j).x;rw[hZd,if_neg (fun e=>e.elim (by omega) h6)];exact this
  ·funext i j
   dsimp only
   by_cases e1:i=p.length
   ·rw[if_pos e1,if_pos e1]
   rw[if_neg e1,if_neg e1]
   by_cases e2:R.bL (dO X p.length t i k).v=0
   ·rw[if_pos e2,if_pos e2,kY]
   rw[if_neg e2,if_neg e2]
  ·show Nu.v _=ir (lP (vM X) p.length t) p.length k i j;unfold ir;have e0:lP (vM X) p.length t p.length=vM X t:=by unfold lP;rw[if_pos rfl]
   rw[e0,←xy,←xy];have tj:=hTv j hj
   dsimp only
   by_cases e1:i=p.length
   ·rw[if_pos e1,if_pos e1,tj];rfl
   rw[if_neg e1,if_neg e1]
   by_cases e2:R.bL (dO X p.length t i k).v=0
   ·rw[if_pos e2,R.gO.1 e2,R.mul_zero,R.sub_zero]
   rw[if_neg e2,hZv i j hi hj,tj];rfl
  ·rw[X6,List.length_singleton,Nat.add_sub_cancel_left,Nat.pow_one]
   dsimp only
   split
   ·have:=hTw j hj;omega
   split
   ·have:=hsw i j hi hj;omega
   rw[hZd]
   split
   ·have:=hsw i j hi hj;omega
   exact(hZ' i j hi hj).2.1
  rw[X6,List.length_singleton,Nat.add_sub_cancel_left,Nat.pow_one]
  have:=hwt k hk
  omega
 have hs:jT r k (vM X,p)=(vM X,p):=by
  unfold jT;exact if_neg ht
 rw[hs];refine⟨X,d,⟨fun i=>R.bL (X i k).v,hsg,h1,by omega,fun i a b=>R.gO.2 (h3 i a b),.inl ⟨by omega,rfl,rfl⟩⟩,fun i j _ _=>rfl,fun i j hi hj=>?_,?_⟩
 ·rw[Nat.sub_self,Nat.pow_zero,Nat.mul_one];exact hw i j hi hj
 rw[Nat.sub_self,Nat.pow_zero,Nat.mul_one];exact hd
theorem so {r c:Nat}(M:Nat→Nat→Nu A)(hr:r<2^30)(hc:c<2^30)(hrc:r*c<2^30)(h0:r=0→c=0)(hw:∀i j,i<r→j<c→(M i j).w≤1)(h5:r≤4∨c≤5):
  ∃(X:Nat→Nat→Nu A) (d:Nu A),iq r c (vM X) (red r (vM M) c).1∧(∀i j,i<r→j<c→(X i j).w≤4^(red r (vM M) c).2.length)∧
   Pr prog 44 [.one (b6 r (fun _=>c) M)] (.aD [.agg [b6 r (fun _=>c) X,.ints .i64 (fD (red r (vM M) c).2),tC d.x.1.length d.x.1,aa d.x.2],.one (.int .i64 0)]):=by
 have dm:∀i j,j<c→(i*c+j)/c=i∧(i*c+j)%c=j:=fun i j hj=>by
  have hc0:0<c:=by omega
  rw[Nat.mul_comm i c,Nat.mul_add_div hc0,Nat.mul_add_mod,Nat.div_eq_of_lt hj,Nat.mod_eq_of_lt hj];exact⟨rfl,rfl⟩
 have dv:∀p,p<r*c→p/c<r∧p%c<c:=fun p hp=>by
  have hc0:0<c:=by
   rcases Nat.eq_zero_or_pos c with h|h
   ·subst h;omega
   exact h
  exact⟨Nat.div_lt_of_lt_mul (by rw[Nat.mul_comm];exact hp),Nat.mod_lt _ hc0⟩
 obtain⟨o,ho,hJ⟩:=OY S hA (n:=r*c) hrc (fun p=>M (p/c) (p%c)) fun p hp=>by
  obtain⟨e1,e2⟩:=dv p hp
  have:=hw _ _ e1 e2
  have b8:wB=800:=rfl;omega
 have ho':∀i j,i<r→j<c→(o (i*c+j)).v=(M i j).v∧(o (i*c+j)).w=(M i j).w:=fun i j hi hj=>by
  have:=ho (i*c+j) (place hi hj)
  rw[(dm i j hj).1,(dm i j hj).2]at this;exact this
 obtain⟨X,e0,hI,hS⟩:=Go.Tw.chain (α:=(Nat→Nat→Nu A)×Nu A) (I:=fun k X=>k≤c→iq r c (vM X.1) (red r (vM M) k).1∧(∀i j,i<r→j<c→(X.1 i j).w≤4^(red r (vM M) k).2.length)∧X.2.w≤4^(red r (vM M) k).2.length)
  (St:=fun k X Y=>k<c→PR r c k (red r (vM M) k).2.length (fun i j=>(X.1 i j).x) (fun i j=>(Y.1 i j).x) X.2.x Y.2.x (kI (red r (vM M) k).1 k (r-(red r (vM M) k).2.length) (red r (vM M) k).2.length)) (x0:=(fun i j=>o (i*c+j),Nu.int A 1))
  (fun _=>⟨fun i j hi hj=>(ho' i j hi hj).1,fun i j hi hj=>by show(o _).w≤1;rw[(ho' i j hi hj).2];exact hw i j hi hj,Nat.le_refl _⟩) (n:=c) (fun k X hk hX=>by
   obtain⟨a1,a2,a3⟩:=hX (Nat.le_of_lt hk);have E:=Go.Mx.dJ r (vM M) k;have hle:=xH r (vM M) k;obtain⟨X',d',s1,s2,s3,s4⟩:=DH S hA (W:=4^(red r (vM M) k).2.length) X.1 X.2 (red r (vM M) k).2 hk E.len a2 a3 (fun h=>by
     have hq:(red r (vM M) k).2.length≤3∨((red r (vM M) k).2.length=4∧k+1=c):=by omega
     rcases hq with h|⟨h,h'⟩
     ·exact .inl (Nat.le_trans (Nat.pow_le_pow_right (by decide) h) (by decide))
     exact .inr ⟨by rw[h];decide,h'⟩) (fun i j h1 h2 h3=>(a1 i j h2 (by omega)).trans (E.low i j h1 h2 h3))
   obtain⟨t1,t2⟩:=Go.Mx.xQ (s:=(vM X.1,(red r (vM M) k).2)) (t:=red r (vM M) k) a1 rfl hk E.len;have ef:=Go.Mx.r7 a1 hk (r-(red r (vM M) k).2.length) (red r (vM M) k).2.length (by have:=E.len;omega);rw[ef]at s1;have hpw:4^(red r (vM M) k).2.length*4^((jT r k (vM X.1,(red r (vM M) k).2)).2.length-(red r (vM M) k).2.length)≤4^(red r (vM M) (k+1)).2.length:=by
    rw[t2,←Nat.pow_add];refine Nat.pow_le_pow_right (by decide) ?_;show _≤(jT r k (red r (vM M) k)).2.length
    have:(red r (vM M) k).2.length≤(jT r k (red r (vM M) k)).2.length:=by
     unfold jT
     split
     ·rw[X6];omega
     omega
    omega
   exact⟨(X',d'),fun _=>s1,fun _=>⟨fun i j hi hj=>(s2 i j hi hj).trans (t1 i j hi hj),fun i j hi hj=>Nat.le_trans (s3 i j hi hj) hpw,Nat.le_trans s4 hpw⟩⟩)
 obtain⟨b1,b2,_⟩:=hI c (Nat.le_refl _) (Nat.le_refl _);refine⟨(X c).1,(X c).2,b1,b2,?_⟩;exact OS (r:=r) (c:=c) (fun i j=>(M i j).x) (fun p=>(o p).x) (fun k i j=>((X k).1 i j).x) (fun k=>(X k).2.x) (fun k=>(red r (vM M) k).2) (fun k=>kI (red r (vM M) k).1 k (r-(red r (vM M) k).2.length) (red r (vM M) k).2.length) hr hc hrc h0 hJ
  (fun i j hi hj=>by rw[e0]) (by rw[e0];rfl) rfl (fun k _=>(Go.Mx.dJ r (vM M) k).len) (fun k hk=>hS k hk hk) (fun k _=>FW r (vM M) k)
end
open Go Go.Eng
open Go.Tw (El)
theorem Fy (a:Nat)(h:a<4294967296):eW .and .u64 (a:Int) 4294967295=(a:Int):=by
 show IntKind.u64.wrap ((BitVec.ofInt 64 (a:Int)&&&BitVec.ofInt 64 4294967295).toNat:Int)=(a:Int);rw[BitVec.toNat_and];have e1:(BitVec.ofInt 64 (a:Int)).toNat=a:=by
  rw[BitVec.ofInt_natCast,BitVec.toNat_ofNat];exact Nat.mod_eq_of_lt (by omega)
 have e2:(BitVec.ofInt 64 4294967295).toNat=2^32-1:=by decide
 rw[e1,e2,Nat.and_two_pow_sub_one_eq_mod,Nat.mod_eq_of_lt h];exact IntWalk.u64_in _ (by omega)
theorem ND (y:Nat)(hy:y<2147483648):Pr prog 160 [.one (.int .u64 1),.one (.int .u64 y)] (.aD [.one (.int .u64 0),.one (.int .u64 y)]):=by
 have h1:eW .and .u64 1 4294967295=1:=Fy 1 (by decide);have h2:=Fy y (by omega);have h3:eW .and .u64 0 4294967295=0:=Fy 0 (by decide);have z0:IntKind.u64.wrap 0=0:=rfl;have z1:∀x:Int,IntKind.u64.wrap (0*x)=0:=fun x=>by rw[Int.zero_mul];rfl
 have d0:(y:Int).fdiv 4294967296=0:=by rw[Int.fdiv_eq_ediv_of_nonneg _ (by decide)];omega
 have w1:IntKind.u64.wrap (1*(y:Int))=y:=by rw[IntWalk.u64_in _ (by omega)];omega
 refine pw func160 ⟨[0,1,4,5,6,7,8,9,10,11,12,13],[]⟩ ?_;simp only[Tryz.f160,ntmps160,iz,seval];simp only[vx,T,seval,h1,h2,h3,d0,w1,z0,z1,Int.mul_zero,Int.add_zero];exact fL.refl _
theorem PW (y:Nat)(hy:y<2147483648):Pr prog 121 [.one (.int .u64 1),.one (.int .u64 y)] (.aD [.one (.int .u64 0),.one (.int .u64 y)]):=by
 have h:=ND y hy;refine pw func121 ⟨[0,1,4,5,6,7,8,9],[]⟩ ?_;simp only[Tryz.f121,ntmps121,iz,seval];simp only[vx,T,seval];refine Cg h ?_;simp only[vx,T,seval];exact Ve rfl
open Go Go.Eng
open Go.Tw (El)
def CV (x:Nb)(z:Nat→C)(k:Nat)(i j:Nat):C:=if i<k then bu x j else z j
theorem Jm (x:Nb)(n:Nat)(hn:n<2147483648):Fr prog 84 [.one (ak 1 fun _=>x),.one (.int .i64 n)] (.rows 36 2 n (fun _=>bu x)):=by
 have h:=PW n hn;refine fw func84 ⟨[0,1,4,5,6,7,8,10,26,37],[(9,(.cons 7 [0] (.cons 8 [] (.cons 9 [] .nil .nil) .nil) .nil))]⟩ ?_;simp only[Tryz.f84,ntmps84,iz,seval];simp only[vx,T,seval,ak];have u1:IntKind.u64.wrap 1=1:=rfl;have un:IntKind.u64.wrap (n:Int)=n:=IntWalk.u64_in _ (by omega);have vn:IntKind.i64.wrap (n:Int)=n:=IntWalk.i64_in _ (by omega);refine⟨fun h=>absurd h (by omega),fun _=>Lg ?_⟩;simp only[vx,T,seval,ak,u1,un];refine Cg h ?_;simp only[vx,T,seval,ak,u1,un,vn];refine⟨fun h=>absurd h (by omega),fun _=>Lg ?_⟩;simp only[vx,T,seval,ak,vn];refine⟨by omega,?_⟩
 refine Lk (fun y:{k:Nat//k≤n∧(0<n→0<k)}=>⟨[(0,.one (ak 1 fun _=>x)),(1,.one (.int .i64 n)),(4,.one .nil),(7,.one (.own 1 2 0 n)),(8,.one (.int .i64 y.1))],[(1,⟨.rows 36 2 n (CV x (fun j=>[C.nil,C.nil].getD j .any) y.1),true⟩)],3,48⟩) (fun y=>n-y.1) ⟨if 1<n then 1 else n,by split<;>omega,fun h=>by split<;>omega⟩ ?_ (fun⟨k,hk,h0⟩=>?_)
 ·refine Sa ?_;simp only[ry,seval,rz,ak];intro i j hi hj;simp only[yl,CV]
  rcases(by omega:n=0∨n=1∨1<n)with h|h|h
  ·omega
  ·subst h;simp[show i=0 by omega]
  simp[h]
 simp only;simp only[vx,T,seval,ak];refine⟨fun g=>Lg ?_,fun g=>Lg ?_⟩
 ·have g':k<n:=by omega
  simp only[vx,T,seval,ak];refine⟨by omega,by omega,?_⟩
  generalize hm:(if k<((n:Int)-k).toNat then k else((n:Int)-k).toNat)=m
  have m0:0<m∧k+m≤n∧m≤k:=by split at hm<;>omega
  have wm:IntKind.i64.wrap ((k:Int)+m)=((k+m:Nat):Int):=by rw[IntWalk.i64_in _ (by omega)];omega
  refine Lq ⟨k+m,by omega,by omega⟩ ?_ (by show n-(k+m)<n-k;omega);refine Sa ?_;simp only[ry,seval,rz,ak,wm];intro i j hi hj;simp only[yl,CV]
  repeat' split
  all_goals first|rfl|omega
 have g':k=n:=by omega
 simp only[vx,T,seval,ak];refine⟨rfl,rfl,fun i j hi hj=>?_⟩;simp only[CV,g',if_pos hi]
open Go Go.Eng
open Go.Tw (El)
open Go.Mx (jD free)
theorem Fr.OA {P:Program}{f:FuncId}{xs ys:List V}{B:Bk}(h:Fr P f ys B)(ha:wE xs ys):Fr P f xs B:=
 ⟨h.1,h.2.1,fun ok w vs hok hvs=>h.2.2 ok w vs hok (ha.rep hvs)⟩
theorem G1 (n:Nat)(hn:n<2147483648):Fr prog 46 [.one (.int .i64 n)] (.rows 36 2 n (fun _=>bu (uH 0))):=by
 have c0:=sH 0 (by decide);have h:=Fr.OA (Jm (uH 0) n hn) (xs:=[.one (.rows 2 1 (AF (uH 0))),.one (.int .i64 n)]) ⟨.cell (Dm (uH 0) (Nat.le_refl 1)),.refl _,trivial⟩;refine fw func46 ⟨[0,2],[]⟩ ?_;simp only[Tryz.f46,ntmps46,iz,seval];simp only[vx,T,seval];refine Cg c0 ?_;simp only[vx,T,seval,nX,nV,tC,aa];refine cB.fresh h ?_;simp only[vx,T,seval];exact⟨rfl,rfl,fun _ _ _ _=>rfl⟩
theorem LO (n k:Nat)(hn:n<2147483648)(hk:k<n):Fr prog 55 [.one (.int .i64 n),.one (.int .i64 k)] (.rows 36 2 n (fun j=>bu (oQ k j))):=by
 have c1:=sH 1 (by decide);have h:=G1 n hn;refine fw func55 ⟨[0,1,4,5],[]⟩ ?_;simp only[Tryz.f55,ntmps55,iz,seval];simp only[vx,T,seval];refine cB.fresh h ?_;simp only[vx,T,seval];refine Cg c1 ?_;simp only[vx,T,seval,nX,nV,tC,aa];refine⟨by omega,?_⟩;refine⟨rfl,rfl,fun i j hi hj=>?_⟩;show a8 _ _ _ _ i j=bu (oQ k i) j;unfold a8 oQ
 by_cases e:i=k
 ·rw[if_pos e,if_pos (Nat.zero_le _),if_pos (by simpa using hj),if_pos (by omega)]
  match j,hj with
  |0,_=>rfl
  |1,_=>rfl
 rw[if_neg e,if_neg (by omega)]
theorem KS {r c:Nat}(x N G:Nat→Nat→Nb)(p:List Nat)(D1 D2:C)(hr:r<2^30)(hc:c<2^30)(h0:r=0→c=0)(hp:p.length≤r)(hlt:∀i,i<p.length→p.getD i 0<c)
  (hE:Pr prog 44 [.one (au r (fun _=>c) x)] (.aD [.agg [au r (fun _=>c) N,.ints .i64 (fD p),D1,D2],.one (.int .i64 0)]))
  (hG:∀k i,k<c→i<p.length→Pr prog 56 [nX (N i k)] (nX (G i k))) (s1:∃n f,D1= .rows 1 n f) (s2:∃n f,D2= .rows 4 n f):
  Pr prog 15 [.one (au r (fun _=>c) x)] (.aD [.one (au (fl p c).length (fun _=>c) fun i=>EA p G (fun k=>oQ k) p.length ((fl p c).getD i 0)),.one (.int .i64 0)]):=by
 obtain⟨n1,f1,rfl⟩:=s1;obtain⟨n2,f2,rfl⟩:=s2;have cl:=ku (fun _=>c) x (k:=c) (by split;exact h0 (by assumption);rfl) (by omega:r<2^38);have cv:=qp (r:=r) (fun _=>c) x (by omega) (b:=true) (by simp);refine pw func15 ⟨[0,2,3,4,5,6,7,8,9,10,13,20,23,24,25,30,36,37,38,39],[]⟩ ?_;simp only[Tryz.f15,ntmps15,iz,seval];simp only[vx,T,seval,au,ak];refine Cg cv ?_;simp only[vx,T,seval,au,ak];refine Cg hE ?_;simp only[vx,T,seval,au,ak];refine Cg cl ?_;simp only[vx,T,seval,au,ak];refine Lk (fun y:{k:Nat//k≤c}=>⟨[(0,.one (au r (fun _=>c) x)),(2,.one .nil),(3,.one (.int .i64 0)),(4,.one (.ptr 1 0)),(6,.one (.own 2 1 0 (fl p y.1).length)),(23,.one (.int .i64 c)),(24,.one (.int .i64 y.1))],
  [(1,⟨.var [au r (fun _=>c) N,.ints .i64 (fD p),.rows 1 n1 f1,.rows 4 n2 f2],true⟩),(2,⟨.rows 31 1 (fl p y.1).length (fun i _=>ak c (EA p G (fun k=>oQ k) p.length ((fl p y.1).getD i 0))),true⟩)],3,62⟩) (fun y=>c-y.1) ⟨0,Nat.zero_le _⟩ ?_ (fun⟨k,hk⟩=>?_)
 ·refine Sa ?_;simp only[ry,seval,rz,au,ak,fl,List.length_nil,Nat.not_lt_zero]
 simp only;have wi:IntKind.i64.wrap ((k:Int)+1)=((k+1:Nat):Int):=by rw[IntWalk.i64_in _ (by omega)];omega
 simp only[vx,T,seval,au,ak];refine⟨fun g=>Lg ?_,fun g=>Lg ?_⟩
 ·have hkc:k<c:=by omega
  by_cases hm:k∈p
  ·have e:fl p (k+1)=fl p k:=if_pos hm;have cp:=vt (fD p) k (by rw[bw];omega) (b:=true) (by rw[xE];simp[hm]);simp only[vx,T,seval,au,ak];refine Cg cp ?_;simp only[vx,T,seval,au,ak,wi];refine Lq ⟨k+1,by omega⟩ ?_ (by show c-(k+1)<c-k;omega);refine Sa ?_;simp only[ry,seval,rz,au,ak,e]
  have e:fl p (k+1)=fl p k++[k]:=if_neg hm;have cp:=vt (fD p) k (by rw[bw];omega) (b:=false) (by rw[xE];simp[hm]);have cu:=LO c k (by omega) hkc;simp only[vx,T,seval,au,ak];refine Cg cp ?_;simp only[vx,T,seval,au,ak];refine Cg cl ?_;simp only[vx,T,seval,au,ak];refine cB.fresh cu ?_;simp only[vx,T,seval,au,ak,bw];refine Lk (fun y:{n:Nat//n≤p.length}=>⟨[(0,.one (au r (fun _=>c) x)),(2,.one .nil),(3,.one (.int .i64 0)),(4,.one (.ptr 1 0)),(6,.one (.own 2 1 0 (fl p k).length)),(7,.one (.int .i64 k)),(8,.one (.own 3 2 0 c)),(23,.one (.int .i64 c)),(24,.one (.int .i64 k)),(36,.one (.ints .i64 (fD p))),(37,.one (.int .i64 p.length)),(38,.one (.int .i64 y.1))],
   [(1,⟨.var [au r (fun _=>c) N,.ints .i64 (fD p),.rows 1 n1 f1,.rows 4 n2 f2],true⟩),(2,⟨.rows 31 1 (fl p k).length (fun i _=>ak c (EA p G (fun k=>oQ k) p.length ((fl p k).getD i 0))),true⟩),(3,⟨.rows 36 2 c (fun j=>bu (EA p G (fun k=>oQ k) y.1 k j)),true⟩)],4,62⟩) (fun y=>p.length-y.1) ⟨0,Nat.zero_le _⟩ ?_ (fun⟨n,hn⟩=>?_)
  ·refine Sa ?_;simp only[ry,seval,rz,au,ak,EA,jD]
  simp only;have wn:IntKind.i64.wrap ((n:Int)+1)=((n+1:Nat):Int):=by rw[IntWalk.i64_in _ (by omega)];omega
  simp only[vx,T,seval,au,ak,bw];refine⟨fun g3=>Lg ?_,fun g3=>Lg ?_⟩
  ·have hnl:n<p.length:=by omega
   have hG':=hG k n hkc hnl;have hlt':=hlt n hnl;simp only[vx,T,seval,au,ak,bu,tC,aa,lC,bw];refine⟨by omega,by omega,by omega,Cg hG' ?_⟩;simp only[vx,T,seval,nX,nV,bu,tC,aa,lC,bw,wn];refine⟨by omega,Lq ⟨n+1,by omega⟩ ?_ (by show p.length-(n+1)<p.length-n;omega)⟩;refine Sa ?_;simp only[ry,seval,rz,au,ak,tC,aa];intro i j hi hj;exact Ap p (fun i=>G i k) (oQ k) n i j hj
  obtain rfl:n=p.length:=by omega
  simp only[vx,T,seval,au,ak,wi];have hl:=Hd p k;have el:(fl p (k+1)).length=(fl p k).length+1:=by rw[e];simp
  refine⟨⟨by omega,by omega⟩,Lq ⟨k+1,by omega⟩ ?_ (by show c-(k+1)<c-k;omega)⟩;refine Sa ?_;simp only[ry,seval,rz,au,ak,el];intro i j hi hj;rw[e]
  by_cases h:i<(fl p k).length
  ·rw[if_pos h,X7,X7,List.getElem?_append_left h]
  obtain rfl:i=(fl p k).length:=by omega
  obtain rfl:j=0:=by omega
  rw[if_neg h,X7 (l:=fl p k++[k]),List.getElem?_append_right (Nat.le_refl _),Nat.sub_self];rfl
 obtain rfl:k=c:=by omega
 simp only[vx,T,seval,au,ak];exact fL.refl _
open Go Go.Eng
open Go.Tw (El)
open Go.Mx (jD free)
theorem KO {r c d:Nat}(x:Nat→Nat→Nb)(b:Nat→Nb)(hr:r<2^30)(hc:c<2^30)(hd:d≤1)(hd1:r≠0→d=1):Pr prog 45 [.one (au r (fun _=>c) x),.one (.rows 1 r fun i _=>.rows 2 d (AF (b i)))] (.one (au r (fun _=>c+d) (Ec c x b))):=by
 refine pw func45 ⟨[0,1,4,5,6,11,12,13],[]⟩ ?_;simp only[Tryz.f45,ntmps45,iz,seval];simp only[vx,T,seval,au,ak];refine⟨by omega,?_⟩;refine Lk (fun y:{k:Nat//k≤r}=>⟨[(0,.one (au r (fun _=>c) x)),(1,.one (.rows 1 r fun i _=>.rows 2 d (AF (b i)))),(4,.one .nil),(5,.one (.own 1 1 0 r)),(11,.one (.int .i64 r)),(12,.one (.int .i64 y.1))],
  [(1,⟨.rows 31 1 r (fun i _=>if i<y.1 then ak (c+d) (Ec c x b i)else .nil),true⟩)],2,30⟩) (fun y=>r-y.1) ⟨0,Nat.zero_le _⟩ ?_ (fun⟨k,hk⟩=>?_)
 ·refine Sa ?_;simp only[ry,seval,rz,au,ak,Nat.not_lt_zero];intro i j hi hj;obtain rfl:j=0:=by omega
  rfl
 simp only;have wi:IntKind.i64.wrap ((k:Int)+1)=((k+1:Nat):Int):=by rw[IntWalk.i64_in _ (by omega)];omega
 simp only[vx,T,seval,au,ak];refine⟨fun g=>Lg ?_,fun g=>Lg ?_⟩
 ·have hkr:k<r:=by omega
  obtain rfl:=hd1 (by omega);have cc:=yV (n:=c) (m:=1) (x k) (fun _=>b k) (by omega);have cc':=cc.args (xs:=[.one (.rows 1 2 (fun i j=>[ak c (x k),.rows 2 1 (AF (b k))].getD (i*1+j) .any))]) ⟨.cell (dK.rows rfl fun i j hi hj=>by
   obtain rfl:j=0:=by omega
   match i,hi with
   |0,_=>exact .refl _
   |1,_=>exact Dm (b k) (Nat.le_refl 1)),trivial⟩
  simp only[vx,T,seval,au,ak];refine⟨by omega,by omega,Cg cc' ?_⟩;simp only[vx,T,seval,au,ak,wi];refine⟨by omega,Lq ⟨k+1,by omega⟩ ?_ (by show r-(k+1)<r-k;omega)⟩;refine Sa ?_;simp only[ry,seval,rz,au,ak];intro i j hi hj;obtain rfl:j=0:=by omega
  by_cases e:i=k
  ·subst e;rw[if_pos (Nat.lt_succ_self i)]
   simp[a8]
   rfl
  by_cases h:i<k
  ·rw[if_pos (show i<k+1 by omega)]
   simp[a8,e,h]
  rw[if_neg (show¬i<k+1 by omega)]
  simp[a8,e,h]
 obtain rfl:k=r:=by omega
 simp only[vx,T,seval,au,ak];refine fL.cell (dK.rows rfl fun i j hi hj=>.of_eq ?_);rw[if_pos hi]
theorem GB {r c d:Nat}(x N:Nat→Nat→Nb)(b:Nat→Nb)(p:List Nat)(D1 D2:C)(hr:r<2^30)(hc:c<2^30)(h0:r=0→c=0)(hd:d=if r=0 then 0 else 1)(hp:p.length≤r)(hlt:∀i,i<p.length→p.getD i 0<c+d)
  (hE:Pr prog 44 [.one (au r (fun _=>c+d) (Ec c x b))] (.aD [.agg [au r (fun _=>c+d) N,.ints .i64 (fD p),D1,D2],.one (.int .i64 0)]))
  (s1:∃n f,D1= .rows 1 n f) (s2:∃n f,D2= .rows 4 n f) (R:V) (h1:c∈p→R= .aD [.one .nil,.one (.int .i64 13)])
  (h2:c∉p→R= .aD [.one (ak c (jD p (fun i=>N i c) (fun _=>uH 0) p.length)),.one (.int .i64 0)]):
  Pr prog 9 [.one (au r (fun _=>c) x),.one (ak r b)] R:=by
 obtain⟨n1,f1,rfl⟩:=s1;obtain⟨n2,f2,rfl⟩:=s2;have hd1:r≠0→d=1:=fun h=>by rw[hd,if_neg h]
 have hdl:d≤1:=by rw[hd];split<;>omega
 have cl:=ku (fun _=>c) x (k:=c) (by split;exact h0 (by assumption);rfl) (by omega:r<2^38);have cv:=qp (r:=r) (fun _=>c) x (by omega) (b:=true) (by simp);have cb:=(KO (r:=r) (c:=c) (d:=d) x b hr hc hdl hd1).sG (.refl _) (x':=.rows 1 r fun i _=>if i<r then .rows 2 1 (AF (b i))else .nil) (dK.rows rfl fun i j hi hj=>by
  rw[if_pos hi,hd1 (by omega)];exact .refl _)
 have cz:=G1 c (by omega);refine pw func9 ⟨[0,1,4,5,6,7,8,9,10,11,12,13,14,24,28,29,30,31,51,56,57,58,59,65],[]⟩ ?_;simp only[Tryz.f9,ntmps9,iz,seval];simp only[vx,T,seval,au,ak];refine Cg cv ?_;simp only[vx,T,seval,au,ak];refine⟨by omega,?_⟩;refine Lk (fun y:{k:Nat//k≤r}=>⟨[(0,.one (au r (fun _=>c) x)),(4,.one .nil),(5,.one (.int .i64 0)),(6,.one (.own 1 1 0 r)),(28,.one (ak r b)),(29,.one (.int .i64 r)),(30,.one (.int .i64 y.1))],
  [(1,⟨.rows 31 1 r (fun i _=>if i<y.1 then .rows 2 1 (AF (b i))else .nil),true⟩)],2,79⟩) (fun y=>r-y.1) ⟨0,Nat.zero_le _⟩ ?_ (fun⟨k,hk⟩=>?_)
 ·refine Sa ?_;simp only[ry,seval,rz,au,ak,Nat.not_lt_zero];intro i j hi hj;obtain rfl:j=0:=by omega
  rfl
 simp only;have wi:IntKind.i64.wrap ((k:Int)+1)=((k+1:Nat):Int):=by rw[IntWalk.i64_in _ (by omega)];omega
 simp only[vx,T,seval,au,ak];refine⟨fun g=>Lg ?_,fun g=>Lg ?_⟩
 ·have hkr:k<r:=by omega
  simp only[vx,T,seval,au,ak,bu,tC,aa,wi,uy,dB,eE,List.contains,List.elem];refine⟨by omega,by omega,Lq ⟨k+1,by omega⟩ ?_ (by show r-(k+1)<r-k;omega)⟩;refine Sa ?_;simp only[ry,seval,rz,au,ak,tC,aa];intro i j hi hj;obtain rfl:j=0:=by omega
  by_cases e:i=k
  ·subst e;rw[if_pos (show i<i+1 by omega)]
   simp[a8]
   rfl
  by_cases h:i<k
  ·rw[if_pos (show i<k+1 by omega)]
   simp[a8,e,h]
  rw[if_neg (show¬i<k+1 by omega)]
  simp[a8,e,h]
 obtain rfl:k=r:=by omega
 simp only[vx,T,seval,au,ak];refine Cg cl ?_;simp only[vx,T,seval,au,ak];refine Cg cb ?_;simp only[vx,T,seval,au,ak];refine Cg hE ?_;simp only[vx,T,seval,au,ak];refine cB.fresh cz ?_;simp only[vx,T,seval,au,ak,bw];refine Lk (fun y:{n:Nat//n≤p.length∧∀j,j<n→p.getD j 0≠c}=>⟨[(4,.one .nil),(5,.one (.int .i64 0)),(9,.one (.int .i64 c)),(10,.one (.ptr 1 0)),(12,.one (.own 2 2 0 c)),(56,.one (.ints .i64 (fD p))),(57,.one (.int .i64 p.length)),(58,.one (.int .i64 y.1))],
  [(1,⟨.var [au k (fun _=>c+d) N,.ints .i64 (fD p),.rows 1 n1 f1,.rows 4 n2 f2],true⟩),(2,⟨.rows 36 2 c (fun j=>bu (jD p (fun i=>N i c) (fun _=>uH 0) y.1 j)),true⟩)],3,79⟩) (fun y=>p.length-y.1) ⟨0,Nat.zero_le _,fun j hj=>absurd hj (Nat.not_lt_zero _)⟩ ?_ (fun⟨n,hn,hne⟩=>?_)
 ·refine Sa ?_;simp only[ry,seval,rz,au,ak,jD]
 simp only;have wn:IntKind.i64.wrap ((n:Int)+1)=((n+1:Nat):Int):=by rw[IntWalk.i64_in _ (by omega)];omega
 simp only[vx,T,seval,au,ak,bw];refine⟨fun g3=>Lg ?_,fun g3=>Lg ?_⟩
 ·have hnl:n<p.length:=by omega
  have hlt':=hlt n hnl;obtain rfl:d=1:=hd1 (by omega);simp only[vx,T,seval,au,ak,lC,bw];refine⟨by omega,?_⟩;refine⟨fun g4=>Lg ?_,fun g4=>Lg ?_⟩
  ·have e:=h1 (Go.Mx.rX.2 ⟨n,hnl,by omega⟩);simp only[vx,T,seval];exact Ve e.symm
  simp only[vx,T,seval,au,ak,bu,tC,aa,lC,bw,wn];refine⟨by omega,by omega,by omega,Lq ⟨n+1,by omega,fun j hj=>?_⟩ ?_ (by show p.length-(n+1)<p.length-n;omega)⟩
  ·by_cases e:j=n
   ·rw[e];omega
   exact hne j (by omega)
  refine Sa ?_;simp only[ry,seval,rz,au,ak,tC,aa];intro i j hi hj;exact Ap p (fun i=>N i c) (fun _=>uH 0) n i j hj
 obtain rfl:n=p.length:=by omega
 have e:=h2 (fun h=>by
  obtain⟨i,h3,h4⟩:=Go.Mx.rX.1 h;exact hne i h3 h4.symm)
 simp only[vx,T,seval,au,ak];rw[e];exact fL.refl _
open Go Go.Eng
open Go.Tw (El)
theorem Jh {r c:Nat}(x N:Nat→Nat→Nb)(p:List Nat)(D1 D2:C)(hr:r<2^30)
  (hE:Pr prog 44 [.one (au r (fun _=>c) x)] (.aD [.agg [au r (fun _=>c) N,.ints .i64 (fD p),D1,D2],.one (.int .i64 0)])) (s1:∃n f,D1= .rows 1 n f) (s2:∃n f,D2= .rows 4 n f):
  Pr prog 22 [.one (au r (fun _=>c) x)] (.aD [.one (au r (fun _=>c) N),.one (.ints .i64 (fD p)),.one (.int .i64 0)]):=by
 obtain⟨n1,f1,rfl⟩:=s1;obtain⟨n2,f2,rfl⟩:=s2;have cv:=qp (r:=r) (fun _=>c) x (by omega) (b:=true) (by simp);refine pw func22 ⟨[0,2,3,4,5,6,9],[(4,.nil)]⟩ ?_;simp only[Tryz.f22,ntmps22,iz,seval];simp only[vx,T,seval,au,ak];refine Cg cv ?_;simp only[vx,T,seval,au,ak];refine Cg hE ?_;simp only[vx,T,seval,au,ak];exact fL.refl _
theorem MW (a b:List Int)(ha:a.length<2^38){q:Bool}(hq:q=true↔a=b):Pr prog 31 [.one (.ints .i64 a),.one (.ints .i64 b)] (.one (.bool q)):=by
 refine pw func31 ⟨[0,1,4,5,10,12,13,14,24],[]⟩ ?_;simp only[Tryz.f31,ntmps31,iz,seval];simp only[vx,T,seval];refine⟨fun g=>Lg ?_,fun g=>Lg ?_⟩
 ·have e:q=false:=by
   cases q with
   |false=>rfl
   |true=>exact absurd (congrArg List.length (hq.1 rfl)) (by omega)
  subst e;simp only[vx,T,seval];exact Ve rfl
 have hl:a.length=b.length:=by omega
 simp only[vx,T,seval];refine Lk (fun y:{i:Nat//i≤a.length∧∀j,j<i→a.getD j 0=b.getD j 0}=>⟨[(0,.one (.ints .i64 a)),(1,.one (.ints .i64 b)),(4,.one (.bool false)),(12,.one (.int .i64 a.length)),(13,.one (.int .i64 y.1))],[],1,26⟩) (fun y=>a.length-y.1) ⟨0,Nat.zero_le _,fun j hj=>absurd hj (Nat.not_lt_zero _)⟩ ?_ (fun⟨i,hi,hb⟩=>?_)
 ·refine Sa ?_;simp only[ry,seval,rz]
 simp only;have wi:IntKind.i64.wrap ((i:Int)+1)=((i+1:Nat):Int):=by rw[IntWalk.i64_in _ (by omega)];omega
 simp only[vx,T,seval];refine⟨fun g1=>Lg ?_,fun g1=>Lg ?_⟩
 ·simp only[vx,T,seval];refine⟨by omega,by omega,?_⟩;refine⟨fun g2=>Lg ?_,fun g2=>Lg ?_⟩
  ·have e:q=false:=by
    cases q with
    |false=>rfl
    |true=>exact absurd (by rw[hq.1 rfl]) g2
   subst e;simp only[vx,T,seval];exact Ve rfl
  simp only[vx,T,seval,wi];refine Lq ⟨i+1,by omega,fun j hj=>?_⟩ ?_ (by show a.length-(i+1)<a.length-i;omega)
  ·by_cases e:j=i
   ·rw[e];exact g2
   exact hb j (by omega)
  refine Sa ?_;simp only[ry,seval,rz]
 have e:q=true:=hq.2 (List.ext_getElem hl fun j h1 h2=>by
  have:=hb j (by omega)
  rw[X7,X7,X8 h1,X8 h2]at this;exact this)
 subst e;simp only[vx,T,seval];exact Ve rfl
open Go Go.Eng
open Go.Tw (El)
theorem B6 {r c:Nat}(x:Nat→Nat→Nb)(hr:r<2^30)(hc:c<2^30)(h0:r=0→c=0):Pr prog 59 [.one (au r (fun _=>c) x)] (.one (au c (fun _=>r) fun i j=>x j i)):=by
 have cl:=ku (fun _=>c) x (k:=c) (by split;exact h0 (by assumption);rfl) (by omega:r<2^38);have cv:=qp (r:=r) (fun _=>c) x (by omega) (b:=true) (by simp);refine pw func59 ⟨[0,2,3,4,6,9,14,15,16,18,19,20,21],[(10,(.cons 11 [0,1,12] (.cons 13 [] .nil .nil) .nil))]⟩ ?_;simp only[Tryz.f59,ntmps59,iz,seval];simp only[vx,T,seval,au,ak];refine Cg cv ?_;simp only[vx,T,seval,au,ak];refine Cg cl ?_;simp only[vx,T,seval,au,ak];refine⟨by omega,?_⟩;refine Lk (fun y:{k:Nat//k≤c}=>⟨[(0,.one (au r (fun _=>c) x)),(2,.one .nil),(3,.one (.win 1 2 0 c)),(14,.one (.int .i64 c)),(15,.one (.int .i64 y.1))],
  [(1,⟨.wins 31 2 c (fun i=>if i<y.1 then ak r (fun a=>x a i)else .nil),true⟩)],3,40⟩) (fun y=>c-y.1) ⟨0,Nat.zero_le _⟩ ?_ (fun⟨k,hk⟩=>?_)
 ·refine Sa ?_;simp only[ry,seval,rz,au,ak,Nat.not_lt_zero]
 simp only;have wi:IntKind.i64.wrap ((k:Int)+1)=((k+1:Nat):Int):=by rw[IntWalk.i64_in _ (by omega)];omega
 simp only[vx,T,seval,au,ak];refine⟨fun g=>Lg ?_,fun g=>Lg ?_⟩
 ·have hkc:k<c:=by omega
  simp only[vx,T,seval,au,ak];refine Lk (fun y:{n:Nat//n≤r}=>⟨[(0,.one (au r (fun _=>c) x)),(2,.one .nil),(3,.one (.win 1 2 0 c)),(4,.one (.int .i64 k)),(14,.one (.int .i64 c)),(15,.one (.int .i64 k)),(18,.one (au r (fun _=>c) x)),(19,.one (.int .i64 r)),(20,.one (.int .i64 y.1))],
   [(1,⟨.wins 31 2 c (fun i=>if i<k then ak r (fun a=>x a i)else if i=k then .own 2 2 0 y.1 else .nil),true⟩),(2,⟨.rows 36 2 y.1 (fun a=>bu (x a k)),true⟩)],3,40⟩) (fun y=>r-y.1) ⟨0,Nat.zero_le _⟩ ?_ (fun⟨n,hn⟩=>?_)
  ·refine Sub.mk [(2,none)] ?_;simp only[ry,seval,X2,X3,X4,au,ak];intro i hi
   by_cases h:i<k
   ·simp only[if_pos h];exact⟨trivial,trivial,fun _ _ _ _=>trivial⟩
   by_cases h2:i=k
   ·simp only[if_neg h,if_pos h2];decide
   simp only[if_neg h,if_neg h2]
  simp only;have wn:IntKind.i64.wrap ((n:Int)+1)=((n+1:Nat):Int):=by rw[IntWalk.i64_in _ (by omega)];omega
  simp only[vx,T,seval,au,ak];refine⟨fun g1=>Lg ?_,fun g1=>Lg ?_⟩
  ·have hnr:n<r:=by omega
   simp only[vx,T,seval,au,ak,bu,tC,aa,wn,Nat.lt_irrefl];refine⟨by omega,by omega,by omega,by omega,⟨by omega,by omega⟩,by omega,Lq ⟨n+1,by omega⟩ ?_ (by show r-(n+1)<r-n;omega)⟩;refine Sub.mk [(2,some 21)] ?_;simp only[ry,seval,X2,X3,X4,au,ak,tC,aa];refine⟨fun i hi=>?_,rh (fun a=>x a k) n⟩
   by_cases h2:i=k
   ·subst h2;simp only[if_neg (Nat.lt_irrefl i),if_true];decide
   by_cases h:i<k
   ·simp only[if_pos h,if_neg h2];exact⟨trivial,trivial,fun _ _ _ _=>trivial⟩
   simp only[if_neg h,if_neg h2]
  obtain rfl:r=n:=by omega
  simp only[vx,T,seval,au,ak,wi];refine Lq ⟨k+1,by omega⟩ ?_ (by show c-(k+1)<c-k;omega);refine Sub.trans (Sub.tA 1 2 rfl rfl (by decide)) ?_;simp only[dB,eE];refine Sa ?_;simp only[ry,seval,rz,au,ak];intro i hi
  by_cases h2:i=k
  ·subst h2;simp only[if_neg (Nat.lt_irrefl i),if_true,if_pos (show i<i+1 by omega),Nat.zero_add];exact⟨trivial,trivial,fun _ _ _ _=>trivial⟩
  by_cases h:i<k
  ·simp only[if_pos h,if_pos (show i<k+1 by omega)];exact⟨trivial,trivial,fun _ _ _ _=>trivial⟩
  simp only[if_neg h,if_neg h2,if_neg (show¬i<k+1 by omega)]
 obtain rfl:c=k:=by omega
 simp only[vx,T,seval,au,ak];refine fL.cell (dK.rows rfl fun i j hi hj=>.of_eq ?_);simp only[if_pos hi]
theorem Pd {r c:Nat}(x N:Nat→Nat→Nb)(p:List Nat)(D1 D2:C)(hr:r<2^30)(hc:c<2^30)(h0:r=0→c=0)
  (hE:Pr prog 44 [.one (au c (fun _=>r) fun i j=>x j i)] (.aD [.agg [au c (fun _=>r) N,.ints .i64 (fD p),D1,D2],.one (.int .i64 0)])) (s1:∃n f,D1= .rows 1 n f) (s2:∃n f,D2= .rows 4 n f):
  Pr prog 23 [.one (au r (fun _=>c) x)] (.aD [.one (.ints .i64 (fD p)),.one (.int .i64 0)]):=by
 obtain⟨n1,f1,rfl⟩:=s1;obtain⟨n2,f2,rfl⟩:=s2;have cv:=qp (r:=r) (fun _=>c) x (by omega) (b:=true) (by simp);have ct:=B6 x hr hc h0;refine pw func23 ⟨[0,2,3,4,5,8],[]⟩ ?_;simp only[Tryz.f23,ntmps23,iz,seval];simp only[vx,T,seval,au,ak];refine Cg cv ?_;simp only[vx,T,seval,au,ak];refine Cg ct ?_;simp only[vx,T,seval,au,ak];refine Cg hE ?_;simp only[vx,T,seval,au,ak];exact fL.refl _
open Go Go.Eng
open Go.Tw (El)
theorem Im {r c d:Nat}(x y:Nat→Nat→Nb)(hr:r<2^30)(hc:c<2^30)(hd:d<2^30):Pr prog 45 [.one (au r (fun _=>c) x),.one (au r (fun _=>d) y)] (.one (au r (fun _=>c+d) fun i j=>if j<c then x i j else y i (j-c))):=by
 refine pw func45 ⟨[0,1,4,5,6,11,12,13],[]⟩ ?_;simp only[Tryz.f45,ntmps45,iz,seval];simp only[vx,T,seval,au,ak];refine⟨by omega,?_⟩;refine Lk (fun z:{k:Nat//k≤r}=>⟨[(0,.one (au r (fun _=>c) x)),(1,.one (au r (fun _=>d) y)),(4,.one .nil),(5,.one (.own 1 1 0 r)),(11,.one (.int .i64 r)),(12,.one (.int .i64 z.1))],
  [(1,⟨.rows 31 1 r (fun i _=>if i<z.1 then ak (c+d) (fun j=>if j<c then x i j else y i (j-c))else .nil),true⟩)],2,30⟩) (fun z=>r-z.1) ⟨0,Nat.zero_le _⟩ ?_ (fun⟨k,hk⟩=>?_)
 ·refine Sa ?_;simp only[ry,seval,rz,au,ak,Nat.not_lt_zero];intro i j hi hj;obtain rfl:j=0:=by omega
  rfl
 simp only;have wi:IntKind.i64.wrap ((k:Int)+1)=((k+1:Nat):Int):=by rw[IntWalk.i64_in _ (by omega)];omega
 simp only[vx,T,seval,au,ak];refine⟨fun g=>Lg ?_,fun g=>Lg ?_⟩
 ·have hkr:k<r:=by omega
  have cc:=yV (n:=c) (m:=d) (x k) (y k) (by omega);simp only[vx,T,seval,au,ak];refine⟨by omega,by omega,Cg cc ?_⟩;simp only[vx,T,seval,au,ak,wi];refine⟨by omega,Lq ⟨k+1,by omega⟩ ?_ (by show r-(k+1)<r-k;omega)⟩;refine Sa ?_;simp only[ry,seval,rz,au,ak];intro i j hi hj;obtain rfl:j=0:=by omega
  by_cases e:i=k
  ·subst e;rw[if_pos (Nat.lt_succ_self i)]
   simp[a8]
  by_cases h:i<k
  ·rw[if_pos (show i<k+1 by omega)]
   simp[a8,e,h]
  rw[if_neg (show¬i<k+1 by omega)]
  simp[a8,e,h]
 obtain rfl:k=r:=by omega
 simp only[vx,T,seval,au,ak];refine fL.cell (dK.rows rfl fun i j hi hj=>.of_eq ?_);rw[if_pos hi]
theorem Jf {r:Nat}(x:Nat→Nat→Nb)(hr:r<2^30):Pr prog 66 [.one (au r (fun _=>r) x)] (.one (.bool true)):=by
 have cv:=qp (r:=r) (fun _=>r) x (by omega) (b:=true) (by simp)
 have cl:=ku (fun _=>r) x (k:=r) (by split<;>omega) (by omega:r<2^38)
 refine pw func66 ⟨[0,2],[]⟩ ?_;simp only[Tryz.f66,ntmps66,iz,seval];simp only[vx,T,seval,au,ak];refine Cg cv ?_;simp only[vx,T,seval,au,ak];refine Cg cl ?_;simp only[vx,T,seval,au,ak];exact Ve rfl
theorem Gy {n:Nat}(x N:Nat→Nat→Nb)(p:List Nat)(D1 D2:C)(hn:n<2^29)
  (hE:Pr prog 44 [.one (au n (fun _=>n+n) fun i j=>if j<n then x i j else oQ i (j-n))] (.aD [.agg [au n (fun _=>n+n) N,.ints .i64 (fD p),D1,D2],.one (.int .i64 0)]))
  (s1:∃n f,D1= .rows 1 n f) (s2:∃n f,D2= .rows 4 n f) (hp:∀i,i<n→i<p.length∧p.getD i 0=i):
  Pr prog 29 [.one (au n (fun _=>n) x)] (.aD [.one (au n (fun _=>n) fun i j=>N i (n+j)),.one (.int .i64 0)]):=by
 obtain⟨n1,f1,rfl⟩:=s1;obtain⟨n2,f2,rfl⟩:=s2;have cs:=Jf x (show n<2^30 by omega);have cb:=Im (r:=n) (c:=n) (d:=n) x (fun i j=>oQ i j) (by omega) (by omega) (by omega);refine pw func29 ⟨[0,2,3,4,5,6,7,8,9,10,13,19,20,21,38,43,44,45,53],[]⟩ ?_;simp only[Tryz.f29,ntmps29,iz,seval];simp only[vx,T,seval,au,ak];refine Cg cs ?_;simp only[vx,T,seval,au,ak];refine⟨by omega,?_⟩;refine Lk (fun z:{k:Nat//k≤n}=>⟨[(0,.one (au n (fun _=>n) x)),(2,.one .nil),(3,.one (.int .i64 0)),(4,.one (.int .i64 n)),(5,.one (.own 1 1 0 n)),(19,.one (.int .i64 n)),(20,.one (.int .i64 z.1))],
  [(1,⟨.rows 31 1 n (fun i _=>if i<z.1 then ak n (fun j=>oQ i j)else .nil),true⟩)],2,66⟩) (fun z=>n-z.1) ⟨0,Nat.zero_le _⟩ ?_ (fun⟨k,hk⟩=>?_)
 ·refine Sa ?_;simp only[ry,seval,rz,au,ak,Nat.not_lt_zero];intro i j hi hj;obtain rfl:j=0:=by omega
  rfl
 simp only;have wi:IntKind.i64.wrap ((k:Int)+1)=((k+1:Nat):Int):=by rw[IntWalk.i64_in _ (by omega)];omega
 simp only[vx,T,seval,au,ak];refine⟨fun g=>Lg ?_,fun g=>Lg ?_⟩
 ·have hkn:k<n:=by omega
  have cu:=LO n k (by omega) hkn;simp only[vx,T,seval,au,ak];refine cB.fresh cu ?_;simp only[vx,T,seval,au,ak,wi,uy,dB,eE,List.contains,List.elem];refine⟨by omega,Lq ⟨k+1,by omega⟩ ?_ (by show n-(k+1)<n-k;omega)⟩;refine Sa ?_;simp only[ry,seval,rz,au,ak];intro i j hi hj;obtain rfl:j=0:=by omega
  by_cases e:i=k
  ·subst e;rw[if_pos (Nat.lt_succ_self i)]
   simp[a8]
  by_cases h:i<k
  ·rw[if_pos (show i<k+1 by omega)]
   simp[a8,e,h]
  rw[if_neg (show¬i<k+1 by omega)]
  simp[a8,e,h]
 obtain rfl:k=n:=by omega
 have cb':=cb.sG (.refl _) (x':=.rows 1 k fun i _=>if i<k then ak k (fun j=>oQ i j)else .nil) (dK.rows rfl fun i j hi hj=>.of_eq (by rw[if_pos hi]));simp only[vx,T,seval,au,ak];refine Cg cb' ?_;simp only[vx,T,seval,au,ak];refine Cg hE ?_;simp only[vx,T,seval,au,ak];refine⟨by omega,?_⟩;refine Lk (fun z:{i:Nat//i≤k}=>⟨[(2,.one .nil),(3,.one (.int .i64 0)),(4,.one (.int .i64 k)),(7,.one (.ptr 1 0)),(9,.one (.own 2 1 0 k)),(43,.one (.int .i64 k)),(44,.one (.int .i64 z.1))],
  [(1,⟨.var [au k (fun _=>k+k) N,.ints .i64 (fD p),.rows 1 n1 f1,.rows 4 n2 f2],true⟩),(2,⟨.rows 31 1 k (fun i _=>if i<z.1 then ak k (fun j=>N i (k+j))else .nil),true⟩)],3,66⟩) (fun z=>k-z.1) ⟨0,Nat.zero_le _⟩ ?_ (fun⟨i,hi⟩=>?_)
 ·refine Sa ?_;simp only[ry,seval,rz,au,ak,Nat.not_lt_zero];intro i j hi hj;obtain rfl:j=0:=by omega
  rfl
 simp only;have wj:IntKind.i64.wrap ((i:Int)+1)=((i+1:Nat):Int):=by rw[IntWalk.i64_in _ (by omega)];omega
 simp only[vx,T,seval,au,ak];refine⟨fun g1=>Lg ?_,fun g1=>Lg ?_⟩
 ·obtain⟨h1,h2⟩:=hp i (by omega);simp only[vx,T,seval,au,ak,lC,bw,h2,wj];have e0:((k+k:Nat):Int)-(k:Int)=(k:Int):=by omega
  refine⟨by omega,by omega,by omega,by omega,Lq ⟨i+1,by omega⟩ ?_ (by show k-(i+1)<k-i;omega)⟩;refine Sa ?_;simp only[ry,seval,rz,au,ak];intro i' j hi' hj;obtain rfl:j=0:=by omega
  by_cases e:i'=i
  ·subst e;rw[if_pos (Nat.lt_succ_self i')]
   simp[a8]
   try omega
  by_cases h:i'<i
  ·rw[if_pos (show i'<i+1 by omega)]
   simp[a8,e,h]
  rw[if_neg (show¬i'<i+1 by omega)]
  simp[a8,e,h]
 obtain rfl:k=i:=by omega
 simp only[vx,T,seval,au,ak];exact fL.aD ⟨.cell (dK.rows rfl fun i j hi hj=>.of_eq (by rw[if_pos hi])),.refl _,trivial⟩
open Go Go.Eng
open Go.Tw (El)
open Go.Mx (jD iq red free)
section
variable {A:List R}
def IS (A:List R)(k j:Nat):Nu A:=if j=k then Nu.int A 1 else Nu.int A 0
theorem Lz (k j:Nat):(IS A k j).x=oQ k j:=by
 unfold IS oQ
 by_cases h:j=k
 ·rw[if_pos h,if_pos (by omega)];rfl
 rw[if_neg h,if_neg (by omega)];rfl
theorem Oy (k j:Nat):(IS A k j).v=if j=k then R.q 1 else R.q 0:=by
 unfold IS
 split<;>rfl
def Ld (p:List Nat)(G:Nat→Nat→Nu A)(k:Nat):Nat→Nu A:=jD p (fun i=>G i k) (IS A k) p.length
theorem On (p:List Nat)(G:Nat→Nat→Nu A)(k j:Nat):(Ld p G k j).x=EA p (fun i k=>(G i k).x) (fun k=>oQ k) p.length k j:=by
 unfold Ld EA;rw[Go.Mx.pI Nu.x]
 congr 1
 funext j
 exact Lz k j
theorem OO (p:List Nat)(G:Nat→Nat→Nu A)(k j:Nat):(Ld p G k j).v=jD p (fun i=>(G i k).v) (fun j=>if j=k then R.q 1 else R.q 0) p.length j:=by
 unfold Ld;rw[Go.Mx.pI Nu.v]
 congr 1
 funext j
 exact Oy k j
theorem we {α:Type}{P:α→Prop}{p:List Nat}{f b:Nat→α}(hf:∀i,i<p.length→P (f i))(hb:∀j,P (b j)):∀{n:Nat} (_:n≤p.length) (j:Nat),P (jD p f b n j)
 |0,_,j=>hb j
 |n+1,h,j=>by
  rw[rM]
  split
  ·exact hf n (by omega)
  exact we hf hb (by omega) j
theorem tH {α:Type}{p:List Nat}{f g b:Nat→α}(h:∀i,i<p.length→f i=g i):∀{n:Nat} (_:n≤p.length) (j:Nat),jD p f b n j=jD p g b n j
 |0,_,j=>rfl
 |n+1,hn,j=>by
  rw[rM,rM,h n (by omega),tH h (by omega) j]
theorem wO (p:List Nat):∀(c i:Nat),i<(fl p c).length→(fl p c).getD i 0<c∧(fl p c).getD i 0∉p
 |0,i,h=>absurd h (Nat.not_lt_zero _)
 |c+1,i,h=>by
  by_cases hc:c∈p
  ·rw[show fl p (c+1)=fl p c from if_pos hc]at h⊢;obtain⟨h1,h2⟩:=wO p c i h;exact⟨by omega,h2⟩
  have e:fl p (c+1)=fl p c++[c]:=if_neg hc;rw[e]at h⊢
  by_cases h1:i<(fl p c).length
  ·obtain⟨h2,h3⟩:=wO p c i h1;rw[X7,List.getElem?_append_left h1,←X7];exact⟨by omega,h3⟩
  rw[X6,List.length_singleton]at h;obtain rfl:i=(fl p c).length:=by omega
  rw[X7,List.getElem?_append_right (Nat.le_refl _),Nat.sub_self];exact⟨by show c<c+1;omega,hc⟩
noncomputable def N3 (M:Nat→Nat→R)(r c i j:Nat):R:=jD (red r M c).2 (fun i'=> -(red r M c).1 i' ((fl (red r M c).2 c).getD i 0)) (fun j=>if j=(fl (red r M c).2 c).getD i 0 then R.q 1 else R.q 0) (red r M c).2.length j
theorem C7 {r c:Nat}(M X G:Nat→Nat→Nu A)(h1:iq r c (vM X) (red r (vM M) c).1)(h2:∀i j,i<r→j<c→(X i j).w≤4^(red r (vM M) c).2.length)
  (hG:∀i k,i<r→k<c→(G i k).v= -(X i k).v∧(G i k).w=(X i k).w) {i j:Nat} (hi:i<(fl (red r (vM M) c).2 c).length):
  (Ld (red r (vM M) c).2 G ((fl (red r (vM M) c).2 c).getD i 0) j).v=N3 (vM M) r c i j∧(Ld (red r (vM M) c).2 G ((fl (red r (vM M) c).2 c).getD i 0) j).w≤4^(red r (vM M) c).2.length:=by
 have hk:=(wO _ c i hi).1;have hl:=(Go.Mx.dJ r (vM M) c).len;unfold N3
 generalize(fl (red r (vM M) c).2 c).getD i 0=k at hk
 refine⟨?_,?_⟩
 ·rw[OO];exact tH (fun i' hi'=>by rw[(hG i' k (by omega) hk).1];exact congrArg _ (h1 i' k (by omega) hk)) (Nat.le_refl _) j
 refine we (P:=fun a:Nu A=>a.w≤4^(red r (vM M) c).2.length) (fun i' hi'=>?_) (fun j'=>?_) (Nat.le_refl _) j
 ·show(G i' k).w≤_
  rw[(hG i' k (by omega) hk).2];exact h2 i' k (by omega) hk
 show(IS A k j').w≤_
 have:1≤4^(red r (vM M) c).2.length:=Nat.one_le_pow _ _ (by decide)
 unfold IS
 split<;>exact this
theorem zx {f:FuncId}(hf:∀a:Nu A,a.w≤wA→∃c:Nu A,c.v= -a.v∧c.w=a.w∧Pr prog f [nX a.x] (nX c.x)){r c W:Nat}(X:Nat→Nat→Nu A)(hw:∀i j,i<r→j<c→(X i j).w≤W)(hW:W≤wA):
  ∃G:Nat→Nat→Nu A,∀i k,i<r→k<c→((G i k).v= -(X i k).v∧(G i k).w=(X i k).w)∧Pr prog f [nX (X i k).x] (nX (G i k).x):=by
 refine OF (p:=fun i k c=>(c.v= -(X i k).v∧c.w=(X i k).w)∧Pr prog f [nX (X i k).x] (nX c.x)) (X 0 0) fun i j hi hj=>?_;obtain⟨c,c1,c2,c3⟩:=hf (X i j) (Nat.le_trans (hw i j hi hj) hW);exact⟨c,⟨c1,c2⟩,c3⟩
variable (S:Go.Tw.Src 64 A)(hA:A.length≤3)
include S hA
omit S hA in
theorem p4 {q:Nat}(h:q≤5):4^q≤wA:=Nat.le_trans (Nat.pow_le_pow_right (by decide) h) (by decide)
omit S hA in
theorem CL {r c:Nat}(M:Nat→Nat→R)(h5:r≤4∨c≤5):(red r M c).2.length≤5:=by
 have:=xH r M c
 have:=(Go.Mx.dJ r M c).len
 omega
omit S hA in
theorem Dq {r c:Nat}(M:Nat→Nat→Nu A)(G:Nat→Nat→Nu A):au (fl (red r (vM M) c).2 c).length (fun _=>c) (fun i=>EA (red r (vM M) c).2 (fun i k=>(G i k).x) (fun k=>oQ k) (red r (vM M) c).2.length ((fl (red r (vM M) c).2 c).getD i 0))=b6 (fl (red r (vM M) c).2 c).length (fun _=>c) (fun i j=>Ld (red r (vM M) c).2 G ((fl (red r (vM M) c).2 c).getD i 0) j):=by
 unfold b6
 congr 1
 funext i j
 exact(On _ _ _ _).symm
theorem Gg {r c:Nat}(M:Nat→Nat→Nu A)(hr:r<2^30)(hc:c<2^30)(h0:r=0→c=0)(hw:∀i j,i<r→j<c→(M i j).w≤1)(h5:r≤4∨c≤5):
  ∃K:Nat→Nat→Nu A,(∀i j,i<(fl (red r (vM M) c).2 c).length→(K i j).v=N3 (vM M) r c i j∧(K i j).w≤4^(red r (vM M) c).2.length)∧
   Pr prog 17 [.one (b6 r (fun _=>c) M)] (.one (b6 (fl (red r (vM M) c).2 c).length (fun _=>c) K)):=by
 obtain⟨X,x1,x2,x3⟩:=zg S hA M hr hc h0 hw (by omega);obtain⟨G,hG⟩:=zx (f:=39) (fun a ha=>I1 S hA ha) X x2 (p4 (CL (vM M) h5));have E:=Go.Mx.dJ r (vM M) c;refine⟨fun i j=>Ld (red r (vM M) c).2 G ((fl (red r (vM M) c).2 c).getD i 0) j,fun i j hi=>C7 M X G x1 x2 (fun i k hi hk=>(hG i k hi hk).1) hi,?_⟩;rw[←Dq];exact DO (fun i j=>(M i j).x) (fun i j=>(X i j).x) (fun i k=>(G i k).x) (red r (vM M) c).2 hr hc h0 E.len E.lt x3 fun k i hk hi=>(hG i k (Nat.lt_of_lt_of_le hi E.len) hk).2
theorem NO {r c:Nat}(M:Nat→Nat→Nu A)(hr:r<2^30)(hc:c<2^30)(h0:r=0→c=0)(hw:∀i j,i<r→j<c→(M i j).w≤1)(h5:r≤4∨c≤5):
  Pr prog 18 [.one (b6 r (fun _=>c) M)] (.one (.int .i64 (red r (vM M) c).2.length)):=by
 obtain⟨X,x1,x2,x3⟩:=zg S hA M hr hc h0 hw (by omega);exact IG (fun i j=>(M i j).x) (fun i j=>(X i j).x) (red r (vM M) c).2 x3
theorem zj {r c:Nat}(M:Nat→Nat→Nu A)(hr:r<2^30)(hc:c<2^30)(hrc:r*c<2^30)(h0:r=0→c=0)(hw:∀i j,i<r→j<c→(M i j).w≤1)(h5:r≤4∨c≤5):
  ∃K:Nat→Nat→Nu A,(∀i j,i<(fl (red r (vM M) c).2 c).length→(K i j).v=N3 (vM M) r c i j∧(K i j).w≤4^(red r (vM M) c).2.length)∧
   Pr prog 15 [.one (b6 r (fun _=>c) M)] (.aD [.one (b6 (fl (red r (vM M) c).2 c).length (fun _=>c) K),.one (.int .i64 0)]):=by
 obtain⟨X,d,x1,x2,x3⟩:=so S hA M hr hc hrc h0 hw h5;obtain⟨G,hG⟩:=zx (f:=56) (fun a ha=>CW S hA ha) X x2 (p4 (CL (vM M) h5));have E:=Go.Mx.dJ r (vM M) c;refine⟨fun i j=>Ld (red r (vM M) c).2 G ((fl (red r (vM M) c).2 c).getD i 0) j,fun i j hi=>C7 M X G x1 x2 (fun i k hi hk=>(hG i k hi hk).1) hi,?_⟩;rw[←Dq];exact KS (fun i j=>(M i j).x) (fun i j=>(X i j).x) (fun i k=>(G i k).x) (red r (vM M) c).2 _ _ hr hc h0 E.len E.lt x3 (fun k i hk hi=>(hG i k (Nat.lt_of_lt_of_le hi E.len) hk).2) ⟨_,_,rfl⟩ ⟨_,_,rfl⟩
end
open Go Go.Eng
open Go.Tw (El)
open Go.Mx (jD iq red free)
section
variable {A:List R}
def ou (c:Nat)(M:Nat→Nat→Nu A)(b:Nat→Nu A)(i j:Nat):Nu A:=if j<c then M i j else b i
theorem Md (c:Nat)(M:Nat→Nat→Nu A)(b:Nat→Nu A)(i j:Nat):(ou c M b i j).x=Ec c (fun i j=>(M i j).x) (fun i=>(b i).x) i j:=by
 unfold ou Ec
 split<;>rfl
def dR (r:Nat):Nat:=if r=0 then 0 else 1
noncomputable def Pn (r c:Nat)(M:Nat→Nat→R)(j:Nat):R:=jD (red r M (c+dR r)).2 (fun i=>(red r M (c+dR r)).1 i c) (fun _=>R.q 0) (red r M (c+dR r)).2.length j
def N9 (c:Nat)(p:List Nat)(X:Nat→Nat→Nu A):Nat→Nu A:=jD p (fun i=>X i c) (fun _=>Nu.int A 0) p.length
theorem OC (c:Nat)(p:List Nat)(X:Nat→Nat→Nu A):(fun j=>(N9 c p X j).x)=jD p (fun i=>(X i c).x) (fun _=>uH 0) p.length:=by
 funext j
 unfold N9;rw[Go.Mx.pI Nu.x];rfl
theorem Q2 (j:Nat):oQ (-1) j=uH 0:=if_neg (by omega)
theorem Kj {r c:Nat}(M X:Nat→Nat→Nu A)(h1:iq r (c+dR r) (vM X) (red r (vM M) (c+dR r)).1)(h2:∀i j,i<r→j<c+dR r→(X i j).w≤4^(red r (vM M) (c+dR r)).2.length)(j:Nat):
  (N9 c (red r (vM M) (c+dR r)).2 X j).v=Pn r c (vM M) j∧(N9 c (red r (vM M) (c+dR r)).2 X j).w≤4^(red r (vM M) (c+dR r)).2.length:=by
 have hl:=(Go.Mx.dJ r (vM M) (c+dR r)).len;have hd:∀i,i<(red r (vM M) (c+dR r)).2.length→i<r∧c<c+dR r:=fun i hi=>⟨by omega,by unfold dR;rw[if_neg (by omega)];omega⟩;unfold N9 Pn;refine⟨?_,?_⟩
 ·rw[Go.Mx.pI Nu.v];exact tH (fun i hi=>h1 i c (hd i hi).1 (hd i hi).2) (Nat.le_refl _) j
 refine we (P:=fun a:Nu A=>a.w≤4^(red r (vM M) (c+dR r)).2.length) (fun i hi=>h2 i c (hd i hi).1 (hd i hi).2) (fun _=>?_) (Nat.le_refl _) j;exact Nat.one_le_pow _ _ (by decide)
variable (S:Go.Tw.Src 64 A)(hA:A.length≤3)
include S hA
omit S hA in
theorem IT {r c d:Nat}(M:Nat→Nat→Nu A)(b:Nat→Nu A):b6 r (fun _=>c+d) (ou c M b)=au r (fun _=>c+d) (Ec c (fun i j=>(M i j).x) (fun i=>(b i).x)):=by
 unfold b6
 congr 1
 funext i j
 exact Md c M b i j
theorem QX {r c:Nat}(M:Nat→Nat→Nu A)(b:Nat→Nu A)(hr:r<2^30)(hc:c<2^29)(h0:r=0→c=0)(hw:∀i j,i<r→j<c+dR r→(ou c M b i j).w≤1)(h5:r≤4∨c≤4):
  ∃X:Nat→Nu A,(∀j,(X j).v=Pn r c (vM (ou c M b)) j∧(X j).w≤4^(red r (vM (ou c M b)) (c+dR r)).2.length)∧
   (c∈(red r (vM (ou c M b)) (c+dR r)).2→Pr prog 11 [.one (b6 r (fun _=>c) M),.one (ug r b)] (.aD [.one .nil,.one (.bool false)]))∧
   (c∉(red r (vM (ou c M b)) (c+dR r)).2→Pr prog 11 [.one (b6 r (fun _=>c) M),.one (ug r b)] (.aD [.one (ug c X),.one (.bool true)])):=by
 have hd:dR r≤1:=by unfold dR;split<;>omega
 obtain⟨X,x1,x2,x3⟩:=zg S hA (ou c M b) hr (show c+dR r<2^30 by omega) (fun h=>by unfold dR;rw[if_pos h];exact h0 h) hw (by omega);have E:=Go.Mx.dJ r (vM (ou c M b)) (c+dR r);rw[IT]at x3;refine⟨N9 c (red r (vM (ou c M b)) (c+dR r)).2 X,fun j=>Kj (ou c M b) X x1 x2 j,fun h=>?_,fun h=>?_⟩
 ·exact QM (fun i j=>(M i j).x) (fun i j=>(X i j).x) (fun i=>(b i).x) _ hr (by omega) h0 rfl E.len E.lt (fun i hi h' e=>h' (Go.Mx.rX.2 ⟨i,hi,e.symm⟩)) x3 _ (fun _=>rfl) (fun h'=>absurd h h')
 refine QM (fun i j=>(M i j).x) (fun i j=>(X i j).x) (fun i=>(b i).x) _ hr (by omega) h0 rfl E.len E.lt (fun i hi h' e=>h' (Go.Mx.rX.2 ⟨i,hi,e.symm⟩)) x3 _ (fun h'=>absurd h' h) (fun _=>?_);unfold ug;rw[OC,show (fun j:Nat=>oQ (-1) j)=fun _=>uH 0 from funext Q2]
theorem Lt {r c:Nat}(M:Nat→Nat→Nu A)(b:Nat→Nu A)(hr:r<2^30)(hc:c<2^29)(hrc:r*(c+dR r)<2^30)(h0:r=0→c=0)(hw:∀i j,i<r→j<c+dR r→(ou c M b i j).w≤1)(h5:r≤4∨c≤4):
  ∃X:Nat→Nu A,(∀j,(X j).v=Pn r c (vM (ou c M b)) j∧(X j).w≤4^(red r (vM (ou c M b)) (c+dR r)).2.length)∧
   (c∈(red r (vM (ou c M b)) (c+dR r)).2→Pr prog 9 [.one (b6 r (fun _=>c) M),.one (ug r b)] (.aD [.one .nil,.one (.int .i64 13)]))∧
   (c∉(red r (vM (ou c M b)) (c+dR r)).2→Pr prog 9 [.one (b6 r (fun _=>c) M),.one (ug r b)] (.aD [.one (ug c X),.one (.int .i64 0)])):=by
 have hd:dR r≤1:=by unfold dR;split<;>omega
 obtain⟨X,d,x1,x2,x3⟩:=so S hA (ou c M b) hr (show c+dR r<2^30 by omega) hrc (fun h=>by unfold dR;rw[if_pos h];exact h0 h) hw (by omega);have E:=Go.Mx.dJ r (vM (ou c M b)) (c+dR r);rw[IT]at x3;refine⟨N9 c (red r (vM (ou c M b)) (c+dR r)).2 X,fun j=>Kj (ou c M b) X x1 x2 j,fun h=>?_,fun h=>?_⟩
 ·exact GB (fun i j=>(M i j).x) (fun i j=>(X i j).x) (fun i=>(b i).x) _ _ _ hr (by omega) h0 rfl E.len E.lt x3 ⟨_,_,rfl⟩ ⟨_,_,rfl⟩ _ (fun _=>rfl) (fun h'=>absurd h h')
 refine GB (fun i j=>(M i j).x) (fun i j=>(X i j).x) (fun i=>(b i).x) _ _ _ hr (by omega) h0 rfl E.len E.lt x3 ⟨_,_,rfl⟩ ⟨_,_,rfl⟩ _ (fun h'=>absurd h' h) (fun _=>?_);unfold ug;rw[OC]
end
open Go Go.Eng
open Go.Tw (El)
def uo (l:List Int)(i:Nat):Nb:=uH (l.getD i 0)
theorem jP (l:List Int)(hl:l.length<2^30)(hb:∀i,i<l.length→(l.getD i 0).natAbs<2^60):Pr prog 21 [.one (.ints .i64 l)] (.one (ak l.length (uo l))):=by
 refine pw func21 ⟨[0,2,3,5,6,7,8,9],[]⟩ ?_;simp only[Tryz.f21,ntmps21,iz,seval];simp only[vx,T,seval];refine Lk (fun y:{i:Nat//i≤l.length}=>⟨[(2,.one .nil),(3,.one (.own 1 2 0 y.1)),(6,.one (.ints .i64 l)),(7,.one (.int .i64 l.length)),(8,.one (.int .i64 y.1))],[(1,⟨.rows 36 2 y.1 (fun i=>bu (uo l i)),true⟩)],2,19⟩) (fun y=>l.length-y.1) ⟨0,Nat.zero_le _⟩ ?_ (fun⟨i,hi⟩=>?_)
 ·refine Sa ?_;simp only[ry,seval,rz]
 simp only;have wi:IntKind.i64.wrap ((i:Int)+1)=((i+1:Nat):Int):=by rw[IntWalk.i64_in _ (by omega)];omega
 simp only[vx,T,seval];refine⟨fun g=>Lg ?_,fun g=>Lg ?_⟩
 ·have hil:i<l.length:=by omega
  have hz:=hb i hil;have c:=gy (l.getD i 0) (by omega) (by omega);simp only[vx,T,seval];refine⟨by omega,Cg c ?_⟩;simp only[vx,T,seval,nX,nV,tC,aa,wi];refine⟨⟨by omega,by omega⟩,Lq ⟨i+1,by omega⟩ ?_ (by show l.length-(i+1)<l.length-i;omega)⟩;refine Sa ?_;simp only[ry,seval,rz,tC,aa];exact rh (uo l) i
 obtain rfl:i=l.length:=by omega
 simp only[vx,T,seval,ak];exact Ve rfl
def Nn (n:Nat)(a:Nat→Nb)(i:Nat):Nb:=if n=0 then uH 0 else a (i%n)
theorem PS {n:Nat}(a:Nat→Nb)(i:Nat)(hn:n<2^30)(hi:i<2^30):Pr prog 8 [.one (ak n a),.one (.int .i64 i)] (nX (Nn n a i)):=by
 have c0:=gy 0 (by decide) (by decide);refine pw func8 ⟨[0,1,4,11],[]⟩ ?_;simp only[Tryz.f8,ntmps8,iz,seval];simp only[vx,T,seval,ak];refine⟨fun h=>Lg ?_,fun h=>Lg ?_⟩
 ·have e:Nn n a i=uH 0:=if_pos (by omega);simp only[vx,T,seval];refine Cg c0 ?_;simp only[vx,T,seval,nX,nV,tC,aa];rw[e];exact Ve rfl
 have e:Nn n a i=a (i%n):=if_neg (by omega);simp only[vx,T,seval,ak];refine⟨fun h=>absurd h (by omega),fun _=>Lg ?_⟩;have hm:=Nat.mod_lt i (show 0<n by omega);have et:(i:Int).tmod (n:Int)=((i%n:Nat):Int):=rfl;simp only[vx,T,seval,ak,bu,tC,aa,et];refine⟨by omega,by omega,?_⟩;rw[e];exact Ve rfl
def Ex (a:Nat→Nb):Nat→Nat
 |0=>0
 |n+1=>if Ex a n<(a n).1.length then(a n).1.length else Ex a n
theorem GO {n:Nat}(a:Nat→Nb)(hn:n<2^30):Pr prog 33 [.one (ak n a)] (.one (.int .i64 (Ex a n))):=by
 refine pw func33 ⟨[0,2,3,4,8,18],[]⟩ ?_;simp only[Tryz.f33,ntmps33,iz,seval];simp only[vx,T,seval,ak];refine Lk (fun y:{i:Nat//i≤n}=>⟨[(0,.one (ak n a)),(2,.one (.int .i64 0)),(3,.one (.int .i64 (Ex a y.1))),(4,.one (.int .i64 y.1))],[],1,26⟩) (fun y=>n-y.1) ⟨0,Nat.zero_le _⟩ ?_ (fun⟨i,hi⟩=>?_)
 ·refine Sa ?_;simp only[ry,seval,rz,ak,Ex]
 simp only;have wi:IntKind.i64.wrap ((i:Int)+1)=((i+1:Nat):Int):=by rw[IntWalk.i64_in _ (by omega)];omega
 simp only[vx,T,seval,ak];refine⟨fun g=>Lg ?_,fun g=>Lg ?_⟩
 ·have hin:i<n:=by omega
  simp only[vx,T,seval,ak,bu,tC,aa];refine⟨by omega,?_⟩;refine⟨fun g2=>Lg ?_,fun g2=>Lg ?_⟩
  ·have e:Ex a (i+1)=(a i).1.length:=if_pos (by omega);simp only[vx,T,seval,ak,bu,tC,aa,wi];refine⟨by omega,Lq ⟨i+1,by omega⟩ ?_ (by show n-(i+1)<n-i;omega)⟩;refine Sa ?_;simp only[ry,seval,rz,ak,e]
  have e:Ex a (i+1)=Ex a i:=if_neg (by omega);simp only[vx,T,seval,ak,wi];refine Lq ⟨i+1,by omega⟩ ?_ (by show n-(i+1)<n-i;omega);refine Sa ?_;simp only[ry,seval,rz,ak,e]
 obtain rfl:i=n:=by omega
 simp only[vx,T,seval,ak];exact Ve rfl
open Go Go.Eng
open Go.Tw (El)
def gn (s:Nat):Nat:=1+s%12
def Ea (r w:Nat):Nat:=if r=0 then 0 else w
def xN (n:Nat)(a:Nat→Nb)(cs:List Int)(w i j:Nat):Nb:=Nn n a (cs.getD (i*w+j) 0).toNat
theorem EK {n:Nat}(a:Nat→Nb)(oc:C)(cs:List Int)(s most:Nat)(hn:n<2^30)(hs:s<256)(hcs:∀i,i<cs.length→0≤cs.getD i 0∧cs.getD i 0<256)(hl:cs.length<2^63)(hm:most≤100)
  (cb:Pr prog 7 [.one oc] (.one (ak n a))) (ca:Pr prog 32 [.one (ak n a)] (.one (.bool true))) (ho:∃n f,oc= .rows 5 n f) {R:V} (h1:most<cs.length→R= .aD [.one .nil,.one (.bool false)])
  (h2:cs.length≤most→R= .aD [.one (au (cs.length/gn s) (fun _=>Ea (cs.length/gn s) (gn s)) (xN n a cs (gn s))),.one (.bool (decide ((Ex a n:Int)≤2)))]):
  Pr prog 6 [.agg [oc,.ints .u8 cs,.int .u8 s],.one (.int .i64 most)] R:=by
 obtain⟨no,fo,rfl⟩:=ho;have cg:=GO a hn;refine pw func6 ⟨[0,1,2,4,5,6,7,8,9,10,11,29,36,42],[]⟩ ?_;simp only[Tryz.f6,ntmps6,iz,seval];simp only[vx,T,seval,ak];refine Cg cb ?_;have ew:IntKind.i64.wrap (1+(IntKind.i64.wrap (s:Int)).tmod 12)=((gn s:Nat):Int):=by
  rw[IntWalk.i64_in (s:Int) (by omega),show (s:Int).tmod 12=((s%12:Nat):Int)from rfl]
  have:=Nat.mod_lt s (show 0<12 by decide)
  rw[IntWalk.i64_in _ (by omega)];unfold gn;omega
 have w1:1≤gn s∧gn s≤12:=by
  have:=Nat.mod_lt s (show 0<12 by decide)
  unfold gn;omega
 generalize gn s=w at ew w1 h2
 simp only[vx,T,seval,ak,ew];refine Cg ca ?_;simp only[vx,T,seval,ak,ew];refine⟨fun g=>Lg ?_,fun g=>Lg ?_⟩
 ·have e:=h1 (by omega);simp only[vx,T,seval];exact Ve e.symm
 have e:=h2 (by omega);simp only[vx,T,seval];have hdv:=Nat.div_mul_le_self cs.length w;refine Lk (fun y:{q:Nat//q≤cs.length/w}=>⟨[(2,.one (.ptr 1 0)),(4,.one .nil),(5,.one (.bool false)),(6,.one (ak n a)),(7,.one (.int .i64 w)),(8,.one (.own 2 1 0 y.1)),(9,.one (.int .i64 (y.1*w:Nat)))],
  [(1,⟨.var [.rows 5 no fo,.ints .u8 cs,.int .u8 s],true⟩),(2,⟨.rows 31 1 y.1 (fun i _=>ak w (xN n a cs w i)),true⟩)],3,66⟩) (fun y=>cs.length/w-y.1) ⟨0,Nat.zero_le _⟩ ?_ (fun⟨q,hq⟩=>?_)
 ·refine Sa ?_;simp only[ry,seval,rz,ak,Nat.zero_mul]
 simp only;have wa:IntKind.i64.wrap (((q*w:Nat):Int)+(w:Int))=(((q+1)*w:Nat):Int):=by
  have:q*w≤cs.length:=Nat.le_trans (Nat.mul_le_mul_right _ hq) hdv
  rw[Nat.add_mul,Nat.one_mul,IntWalk.i64_in _ (by omega)];omega
 simp only[vx,T,seval,ak,wa];refine⟨fun g1=>Lg ?_,fun g1=>Lg ?_⟩
 ·have hql:q<cs.length/w:=by
   have:(q+1)*w≤cs.length:=by omega
   exact(Nat.le_div_iff_mul_le (by omega)).2 this
  have hqw:q*w+w≤cs.length:=by
   have:(q+1)*w≤cs.length:=by omega
   rw[Nat.add_mul,Nat.one_mul]at this;exact this
  simp only[vx,T,seval,ak];refine Lk (fun y:{j:Nat//j≤w}=>⟨[(2,.one (.ptr 1 0)),(4,.one .nil),(5,.one (.bool false)),(6,.one (ak n a)),(7,.one (.int .i64 w)),(8,.one (.own 2 1 0 q)),(9,.one (.int .i64 (q*w:Nat))),(10,.one (.own 3 2 0 y.1)),(11,.one (.int .i64 y.1))],
   [(1,⟨.var [.rows 5 no fo,.ints .u8 cs,.int .u8 s],true⟩),(2,⟨.rows 31 1 q (fun i _=>ak w (xN n a cs w i)),true⟩),(3,⟨.rows 36 2 y.1 (fun j=>bu (xN n a cs w q j)),true⟩)],4,66⟩) (fun y=>w-y.1) ⟨0,Nat.zero_le _⟩ ?_ (fun⟨j,hj⟩=>?_)
  ·refine Sa ?_;simp only[ry,seval,rz,ak]
  simp only;have wj:IntKind.i64.wrap ((j:Int)+1)=((j+1:Nat):Int):=by rw[IntWalk.i64_in _ (by omega)];omega
  simp only[vx,T,seval,ak];refine⟨fun g2=>Lg ?_,fun g2=>Lg ?_⟩
  ·have hjw:j<w:=by omega
   have wq:IntKind.i64.wrap (((q*w:Nat):Int)+(j:Int))=((q*w+j:Nat):Int):=by rw[IntWalk.i64_in _ (by omega)];omega
   obtain⟨b1,b2⟩:=hcs (q*w+j) (by omega);obtain⟨v,hv⟩:∃v:Nat,cs.getD (q*w+j) 0=v:=⟨(cs.getD (q*w+j) 0).toNat,by omega⟩;have wv:IntKind.i64.wrap (v:Int)=(v:Int):=IntWalk.i64_in _ (by omega);have hc:=PS a v hn (by omega);have ev:xN n a cs w q j=Nn n a v:=by unfold xN;rw[hv];rfl
   simp only[vx,T,seval,ak,wq,hv,wv];refine⟨by omega,Cg hc ?_⟩;simp only[vx,T,seval,nX,nV,tC,aa,wj];refine⟨⟨by omega,by omega⟩,Lq ⟨j+1,by omega⟩ ?_ (by show w-(j+1)<w-j;omega)⟩;refine Sa ?_;simp only[ry,seval,rz,ak,tC,aa];have s:=rh (xN n a cs w q) j;rw[ev]at s;exact s
  obtain rfl:w=j:=by omega
  have hq1:q<2^40:=by
   have:=Nat.le_mul_of_pos_right q (show 0<w by omega)
   omega
  simp only[vx,T,seval,ak,wa];refine⟨⟨by omega,by omega⟩,Lq ⟨q+1,by omega⟩ ?_ (by show cs.length/w-(q+1)<cs.length/w-q;omega)⟩;refine Sa ?_;simp only[ry,seval,rz,ak];exact L4 (fun i=>ak w (xN n a cs w i)) q
 obtain rfl:cs.length/w=q:=by
  refine Nat.le_antisymm (Nat.le_of_lt_succ ((Nat.div_lt_iff_lt_mul (by omega)).2 (show cs.length<(q+1)*w by omega))) hq
 simp only[vx,T,seval,ak];refine Cg cg ?_;simp only[vx,T,seval,ak];rw[e];exact fL.aD ⟨.cell (dK.rows rfl fun i j hi hj=>.of_eq (by unfold Ea ak;rw[if_neg (by omega)])),.refl _,trivial⟩
open Go Go.Eng
open Go.Tw (El ax TG b9 iB)
open Go.Mx (sm iv iq red jD free)
theorem C8 {A:List R}{x:List El×El}{v:R}(h:b9 A 64 x.1 x.2 v)(h2:x.1.length≤2):ax A x.1 x.2 v (300*1-1) (3*1):=by
 obtain⟨T,ha,hv,hb,_⟩:=h;refine⟨T,ha,hv,fun c=>?_⟩;rw[←hv]
 refine(Go.Tw.Sz.expr (c:=c) ha hb (fun j hj=>.gen ⟨⟨_,T.mem j hj,rfl⟩,(Go.Tw.In.root (h:=j) (t:=x.1)).le (by omega),rfl⟩)).mono ?_
 have e:=Go.Tw.wF (B:=64) (c:=c) x.1.length
 rcases(by omega:x.1.length=0∨x.1.length=1∨x.1.length=2)with h|h|h<;>rw [h]at e⊢<;>omega
theorem Ig (a:Nat→Nb):∀{n i:Nat},i<n→(a i).1.length≤Ex a n
 |n+1,i,h=>by
  unfold Ex
  by_cases e:i=n
  ·subst e
   split<;>omega
  have:=Ig a (show i<n by omega)
  split<;>omega
def G5 (r:List Bh):C:=.rows 5 r.length (fun i=>oC (r.getD i default))
theorem MQ (l:List (List El×El))(hl:l.length<2^38)(h:∀i,i<l.length→Pr prog 67 [nX (l.getD i default)] (.one (.bool true))):Pr prog 32 [.one (bR l)] (.one (.bool true)):=by
 refine pw func32 ⟨[0,2,3,7,15],[]⟩ ?_;simp only[Tryz.f32,ntmps32,iz,seval];simp only[vx,T,seval,bR];refine Lk (fun y:{i:Nat//i≤l.length}=>⟨[(0,.one (bR l)),(2,.one (.bool false)),(3,.one (.int .i64 y.1))],[],1,16⟩) (fun y=>l.length-y.1) ⟨0,Nat.zero_le _⟩ ?_ (fun⟨i,hi⟩=>?_)
 ·refine Sa ?_;simp only[ry,seval,rz,bR]
 simp only;have wi:IntKind.i64.wrap ((i:Int)+1)=((i+1:Nat):Int):=by rw[IntWalk.i64_in _ (by omega)];omega
 simp only[vx,T,seval,bR];refine⟨fun g=>Lg ?_,fun g=>Lg ?_⟩
 ·have c:=h i (by omega);obtain⟨x,hx⟩:∃x,x=l.getD i default:=⟨_,rfl⟩;rw[←hx]at c;simp only[vx,T,seval,bR,ff,←hx,bu];refine⟨by omega,Cg c ?_⟩;simp only[vx,T,seval,bR,wi];refine Lq ⟨i+1,by omega⟩ ?_ (by show l.length-(i+1)<l.length-i;omega);refine Sa ?_;simp only[ry,seval,rz,bR]
 simp only[vx,T,seval,bR];exact Ve rfl
theorem wL {A:List R}(S:Go.Tw.Src 64 A)(hA:A.length≤3){x:List El×El}{v:R}(h:b9 A 64 x.1 x.2 v):Pr prog 67 [nX x] (.one (.bool true)):=by
 have h3:=h.tg.jE S hA;have key:∀{a:El},Go.Tw.iB 64 a→∀i,i<a.length→¬mO 6 (a.getD i default):=fun{a} hb i hi hq=>by
  have hm:=hb (a.getD i default) (by rw[X7,X8 hi];exact List.getElem_mem _)
  have:=Go.Tw.pN hm.1 hm.2
  unfold mO at hq;unfold qm at this;omega
 refine KP x (by rw[h.len];exact aN (by omega)) (by omega) (fun j hj=>by rw[(h.tg.rd.rl j hj).1];exact aN (by omega)) ⟨fun e=>(by cases e),fun hl=>?_⟩
 rcases hl with⟨i,h1,h2⟩|⟨j,h1,i,h2,h3⟩
 ·exact absurd h2 (key h.bits i h1)
 exact absurd h3 (key (h.tb j h1) i h2)
theorem Oj (r:List Bh)(hr:∀o∈r,o.Ok)(hrl:r.length<2^63):∃(A:List R) (n:Nat) (a:Nat→Nb),Go.Tw.Src 64 A∧A.length≤3∧n≤24∧Pr prog 7 [.one (G5 r)] (.one (ak n a))∧
  Pr prog 32 [.one (ak n a)] (.one (.bool true))∧((Ex a n:Int)≤2→∃f:Nat→Nu A,∀v,(f v).x=Nn n a v∧(f v).w=1):=by
 obtain⟨A,l,S,hA,hl,hs,cb⟩:=Jg r hr hrl;have get:∀i,i<l.length→∃v,b9 A 64 (l.getD i default).1 (l.getD i default).2 v:=fun i hi=>hs _ (by rw[X7,X8 hi];exact List.getElem_mem _);refine⟨A,l.length,fun i=>l.getD i default,S,hA,hl,cb,MQ l (by omega) fun i hi=>?_,fun h2=>?_⟩
 ·obtain⟨v,hv⟩:=get i hi;exact wL S hA hv
 have hx:∀v,∃y:Nu A,y.x=Nn l.length (fun i=>l.getD i default) v∧y.w=1:=fun v=>by
  by_cases h0:l.length=0
  ·exact⟨Nu.int A 0,(if_pos h0).symm,rfl⟩
  have hm:=Nat.mod_lt v (show 0<l.length by omega);obtain⟨w,hw⟩:=get _ hm;have hq:=Ig (fun i=>l.getD i default) hm;exact⟨⟨_,w,1,Nat.le_refl _,C8 hw (by have hq:(l.getD (v%l.length) default).1.length≤_:=hq;omega)⟩,(if_neg h0).symm,rfl⟩
 exact Classical.skolem.1 hx
section
variable {A:List R}(S:Go.Tw.Src 64 A)(hA:A.length≤3)
include S hA
theorem Bb {r c:Nat}(K L:Nat→Nat→Nu A)(hr:r<2^38)(hc:c<2^38)(h:∀i j,i<r→j<c→(K i j).v=(L i j).v∧(K i j).w≤wA∧(L i j).w≤wB):
  Pr prog 16 [.one (b6 r (fun _=>c) K),.one (b6 r (fun _=>c) L)] (.one (.bool true)):=by
 have cg:=DF S hA (fun _=>c) K hr (fun _ _=>hc) fun i j hi hj=>(h i j hi hj).2.1;have ce:=Cz S hA (n:=r) (n':=r) (fun _=>c) (fun _=>c) K L hr (fun _ _=>hc) (fun _ i j hi _ hj=>⟨(h i j hi hj).2.1,(h i j hi hj).2.2,.inl (h i j hi hj).1⟩) (r:=true) (by simp;exact fun i hi j hj=>(h i j hi hj).1);refine pw func16 ⟨[0,1,4],[]⟩ ?_;simp only[Tryz.f16,ntmps16,iz,seval];simp only[vx,T,seval,b6,au];refine Cg cg ?_;simp only[vx,T,seval,b6,au];refine Cg ce ?_;simp only[vx,T,seval,b6,au];exact Ve rfl
end
end Go.Proofs.YtncdiehbmlejdaaGreat
/-
  The elimination of matrices of rational numbers, reckoned.
-/
namespace Go.Mx
open Go Go.R
theorem PZ (x:Rat):iv (q x)=q x⁻¹:=by
 by_cases h:x=0
 ·subst h;unfold iv;rw[dif_neg (by simp)];exact congrArg q (by decide+kernel)
 have h0:q x≠q 0:=fun e=>h (ki e);refine jA (z:=q x) ?_ h0;rw[mul_comm,oF h0,←dS,Rat.inv_mul_cancel x h]
abbrev Mq:=Nat→Nat→Rat
def G2 (M:Mq)(k:Nat):Nat→Nat→Nat
 |0,p=>p
 |n+1,p=>if M p k=0 then G2 M k n (p+1)else p
def Mu (M:Mq)(a b:Nat):Mq:=fun i=>if i=a then M b else if i=b then M a else M i
def Mo (M:Mq)(t k:Nat):Mq:=fun i j=>if i=t then M t j*(M t k)⁻¹ else M i j-M t j*(M t k)⁻¹*M i k
def IC (r k:Nat)(s:Mq×List Nat):Mq×List Nat:=
 if G2 s.1 k (r-s.2.length) s.2.length<r then(Mo (Mu s.1 s.2.length (G2 s.1 k (r-s.2.length) s.2.length)) s.2.length k,s.2++[k])else s
def yY (r:Nat)(M:Mq):Nat→Mq×List Nat
 |0=>(M,[])
 |k+1=>IC r k (yY r M k)
def qM (M:Mq):Mt:=fun i j=>q (M i j)
theorem L6 (M:Mq)(k:Nat):∀n p,kI (qM M) k n p=G2 M k n p
 |0,_=>rfl
 |n+1,p=>by
  unfold kI G2;rw[L6 M k n (p+1)]
  by_cases h:M p k=0
  ·rw[if_pos h,if_pos (show qM M p k=q 0 by unfold qM;rw[h])]
  rw[if_neg h,if_neg (show qM M p k≠q 0 from fun e=>h (ki e))]
theorem OU (M:Mq)(a b:Nat):lP (qM M) a b=qM (Mu M a b):=by
 funext i j
 unfold lP Mu qM
 by_cases h1:i=a
 ·simp only[if_pos h1]
 by_cases h2:i=b
 ·simp only[if_neg h1,if_pos h2]
 simp only[if_neg h1,if_neg h2]
theorem Oa (M:Mq)(t k:Nat):ir (qM M) t k=qM (Mo M t k):=by
 funext i j
 unfold ir Mo qM;simp only[PZ]
 by_cases h:i=t
 ·simp only[if_pos h,dS]
 simp only[if_neg h,Rat.sub_eq_add_neg,vD,vU,dS];rfl
theorem LZ (r:Nat)(M:Mq):∀k,red r (qM M) k=(qM (yY r M k).1,(yY r M k).2)
 |0=>rfl
 |k+1=>by
  rw[red,LZ r M k];unfold jT;show _=(qM (IC r k (yY r M k)).1,(IC r k (yY r M k)).2);unfold IC;simp only[L6]
  split
  ·rw[OU,Oa]
  rfl
end Go.Mx
/-
  The elimination of one matrix with a root, reckoned: what its inverse is.
-/
namespace Go.Mx
open Go Go.R
theorem Hf (M:Mt)(a:Nat):lP M a a=M:=by
 funext i
 unfold lP
 by_cases h:i=a
 ·rw[if_pos h,h]
 rw[if_neg h,if_neg h]
theorem Gp {r k:Nat}{s:Mt×List Nat}(h:s.2.length<r)(h0:s.1 s.2.length k≠q 0):jT r k s=(ir s.1 s.2.length k,s.2++[k]):=by
 have e:kI s.1 k (r-s.2.length) s.2.length=s.2.length:=by
  obtain⟨n,hn⟩:∃n,r-s.2.length=n+1:=⟨r-s.2.length-1,by omega⟩;rw[hn];unfold kI;rw[if_neg h0]
 unfold jT;rw[e,if_pos h,Hf]
theorem zh {r k:Nat}{s:Mt×List Nat}(h:s.2.length=r):jT r k s=s:=by
 unfold jT;rw[h,Nat.sub_self];unfold kI;rw[if_neg (Nat.lt_irrefl r)]
theorem NU:iv (q 1)=q 1:=by
 refine jA (z:=q 1) ?_ gF;rw[mul_comm,oF gF,mul_one]
theorem FK {s:R}(hs:s≠q 0){M:Mt}(h00:M 0 0=s)(h01:M 0 1=q 0)(h02:M 0 2=q 1)(h03:M 0 3=q 0)(h10:M 1 0=q 0)(h11:M 1 1=q 1)(h12:M 1 2=q 0)(h13:M 1 3=q 1):
  (red 2 M 4).2=[0,1]∧(red 2 M 4).1 0 2=iv s∧(red 2 M 4).1 0 3=q 0∧(red 2 M 4).1 1 2=q 0∧(red 2 M 4).1 1 3=q 1:=by
 have e1:red 2 M 1=(ir M 0 0,[0]):=Gp (s:=(M,[])) (by show 0<2;decide) (by show M 0 0≠q 0;rw[h00];exact hs);have n0:∀j,ir M 0 0 0 j=M 0 j*iv s:=fun j=>by unfold ir;rw[if_pos rfl,h00]
 have n1:∀j,ir M 0 0 1 j=M 1 j:=fun j=>by unfold ir;rw[if_neg (by decide),h10,mul_zero,sub_zero]
 have e2:red 2 M 2=(ir (ir M 0 0) 1 1,[0,1]):=by
  show jT 2 1 (red 2 M 1)=_;rw[e1];exact Gp (s:=(ir M 0 0,[0])) (by show 1<2;decide) (by show ir M 0 0 1 1≠q 0;rw[n1,h11];exact gF)
 have e4:red 2 M 4=(ir (ir M 0 0) 1 1,[0,1]):=by
  show jT 2 3 (jT 2 2 (red 2 M 2))=_;rw[e2,zh (r:=2) (s:=(ir (ir M 0 0) 1 1,[0,1])) rfl,zh (r:=2) (s:=(ir (ir M 0 0) 1 1,[0,1])) rfl]
 have m0:∀j,ir (ir M 0 0) 1 1 0 j=M 0 j*iv s:=fun j=>by
  have:ir (ir M 0 0) 1 1 0 j=ir M 0 0 0 j-ir M 0 0 1 j*iv (ir M 0 0 1 1)*ir M 0 0 0 1:=if_neg (by decide)
  rw[this,n0,n0 1,h01,zero_mul,mul_zero,sub_zero]
 have m1:∀j,ir (ir M 0 0) 1 1 1 j=M 1 j:=fun j=>by
  have:ir (ir M 0 0) 1 1 1 j=ir M 0 0 1 j*iv (ir M 0 0 1 1):=if_pos rfl
  rw[this,n1,n1,h11,NU,mul_one]
 rw[e4];exact⟨rfl,(m0 2).trans (by rw[h02,one_mul]),(m0 3).trans (by rw[h03,zero_mul]),(m1 2).trans h12,(m1 3).trans h13⟩
end Go.Mx
namespace Go.Proofs.YtncdiehbmlejdaaGreat
open Go.Proofs.Tryz
open Go Go.Eng
open Go.Tw (El ax TG)
open Go.Mx (sm iv iq red jD yY)
def um (l:List (List Int))(i j:Nat):Int:=(l.getD i []).getD j 0
abbrev Pe (r c:Nat)(l:List (List Int)):Prop:=∀i,i<r→∀j,j<c→(um l i j).natAbs<2^60
section
variable {A:List R}
def iN (A:List R)(l:List (List Int))(i j:Nat):Nu A:=if h:(um l i j).natAbs<2^60 then Nu.int A (um l i j) h else Nu.int A 0
theorem P0 {l:List (List Int)}{i j:Nat}(h:(um l i j).natAbs<2^60):(iN A l i j).x=uH (um l i j):=by unfold iN;rw[dif_pos h];rfl
theorem G4 {l:List (List Int)}{i j:Nat}(h:(um l i j).natAbs<2^60):(iN A l i j).v=R.q (Rat.ofInt (um l i j)):=by unfold iN;rw[dif_pos h];rfl
theorem xR (l:List (List Int))(i j:Nat):(iN A l i j).w=1:=by unfold iN;split<;>rfl
theorem qv {c:Nat}(a:List Int){l:List (List Int)}{i:Nat}(h:∀j,j<c→a.getD j 0=um l i j∧(um l i j).natAbs<2^60):dK (ak c (uo a)) (ak c (fun j=>(iN A l i j).x)):=
 dK.rows rfl fun j k hj _=>.of_eq (by show bu (uH (a.getD j 0)) k=bu (iN A l i j).x k;rw[P0 (h j hj).2,(h j hj).1])
theorem Ib {r c:Nat}(M:Nat→Nat→Nu A)(l n:List (List Int))(p:List Nat)(hM:∀i j,i<r→j<c→(M i j).v=R.q (Rat.ofInt (um l i j)))
  (h:(yY r (fun i j=>Rat.ofInt (um l i j)) c).2=p∧∀i,i<r→∀j,j<c→(yY r (fun i j=>Rat.ofInt (um l i j)) c).1 i j=Rat.ofInt (um n i j)):
  (red r (vM M) c).2=p∧∀i j,i<r→j<c→(red r (vM M) c).1 i j=R.q (Rat.ofInt (um n i j)):=by
 obtain⟨h1,h2⟩:=Go.Mx.CJ (M:=vM M) (N:=Go.Mx.qM fun i j=>Rat.ofInt (um l i j)) (r:=r) (c:=c) (fun i j hi hj=>hM i j hi hj) c (Nat.le_refl c);rw[Go.Mx.LZ]at h1 h2;refine⟨h2.trans h.1,fun i j hi hj=>(h1 i j hi hj).trans ?_⟩;show R.q _=_;rw[h.2 i hi j hj]
def PD (a:List Int):C:=.rows 1 1 (fun i j=>[ak 2 (uo a)].getD (i*1+j) .any)
def OV (a b:List Int):C:=.rows 1 2 (fun i j=>[ak 2 (uo a),ak 2 (uo b)].getD (i*1+j) .any)
theorem H6 {a:List Int}(h:Pe 1 2 [a]):dK (PD a) (b6 1 (fun _=>2) (iN A [a])):=
 dK.rows rfl fun i j hi hj=>by
  obtain rfl:i=0:=by omega
  obtain rfl:j=0:=by omega
  exact qv a fun j hj=>⟨rfl,h 0 (by decide) j hj⟩
theorem xa {a b:List Int}(h:Pe 2 2 [a,b]):dK (OV a b) (b6 2 (fun _=>2) (iN A [a,b])):=
 dK.rows rfl fun i j hi hj=>by
  obtain rfl:j=0:=by omega
  match i,hi with
  |0,_=>exact qv a fun j hj=>⟨rfl,h 0 (by decide) j hj⟩
  |1,_=>exact qv b fun j hj=>⟨rfl,h 1 (by decide) j hj⟩
def PQ (a b:Nb):C:=.rows 2 2 (fun i j=>[tC a.1.length a.1,aa a.2,tC b.1.length b.1,aa b.2].getD (i*2+j) .any)
def inv2 (x:Nb):C:=.rows 1 2 (fun i j=>[PQ x (uH 0),ak 2 (uo [0,1])].getD (i*1+j) .any)
def uA (a:Nu A)(i j:Nat):Nu A:=if i=0∧j=0 then a else iN A [[0,0],[0,1]] i j
def tu (a:Nu A)(i j:Nat):Nu A:=if j<2 then uA a i j else IS A i (j-2)
theorem Dd (a:Nu A):dK (inv2 a.x) (b6 2 (fun _=>2) (uA a)):=
 dK.rows rfl fun i j hi hj=>by
  obtain rfl:j=0:=by omega
  match i,hi with
  |0,_=>
   exact dK.rows rfl fun k l hk hl=>by
    match k,hk,l,hl with
    |0,_,0,_=>exact .refl _
    |0,_,1,_=>exact .refl _
    |1,_,0,_=>exact .refl _
    |1,_,1,_=>exact .refl _
  |1,_=>exact qv (A:=A) (c:=2) [0,1] (l:=[[0,0],[0,1]]) (i:=1) (by decide)
def C5:List (List Int):=[[1,2],[2,4]]
theorem H5:Pe 2 2 C5:=by decide
theorem wP {M:Nat→Nat→Nu A}(hM:∀i j,i<2→j<2→(M i j).v=R.q (Rat.ofInt (um C5 i j))):(red 2 (vM M) 2).2=[0]∧∀i j,i<2→j<2→(red 2 (vM M) 2).1 i j=R.q (Rat.ofInt (um [[1,2],[0,0]] i j)):=
 Ib M C5 _ _ hM (by decide+kernel)
theorem L8:∀i j,i<2→j<2→(iN A C5 i j).v=R.q (Rat.ofInt (um C5 i j)):=fun i j hi hj=>G4 (H5 i hi j hj)
theorem Pl {a:Nu A}{n:Nat}(h:a.w≤4^n)(hn:n≤4):a.w≤wA:=Nat.le_trans h (Nat.le_trans (Nat.pow_le_pow_right (by decide) hn) (by decide))
variable (S:Go.Tw.Src 64 A)(hA:A.length≤3)
include S hA
theorem HB {r c:Nat}(X Y:Nat→Nat→Nu A)(hr:r<2^38)(hc:c<2^38)(h:∀i j,i<r→j<c→(X i j).v=(Y i j).v∧(X i j).w≤wA∧(Y i j).w≤wB):
  Pr prog 30 [.one (b6 r (fun _=>c) X),.one (b6 r (fun _=>c) Y)] (.one (.bool true)):=
 Cz S hA (n:=r) (n':=r) (fun _=>c) (fun _=>c) X Y hr (fun _ _=>hc) (fun _ i j hi _ hj=>⟨(h i j hi hj).2.1,(h i j hi hj).2.2,.inl (h i j hi hj).1⟩) (by simp;exact fun i hi j hj=>(h i j hi hj).1)
theorem Gx:∃X:Nat→Nat→Nu A,Pr prog 22 [.one (OV [1,2] [2,4])] (.aD [.one (b6 2 (fun _=>2) X),.one (.ints .i64 [0]),.one (.int .i64 0)])∧
  Pr prog 30 [.one (b6 2 (fun _=>2) X),.one (OV [1,2] [0,0])] (.one (.bool true)):=by
 obtain⟨e1,e2⟩:=wP (A:=A) L8;obtain⟨X,d,x1,x2,x3⟩:=so S hA (r:=2) (c:=2) (iN A C5) (by decide) (by decide) (by decide) (by omega) (fun i j _ _=>by rw[xR];exact Nat.le_refl 1) (by omega);have c:=Jh (r:=2) (c:=2) (fun i j=>(iN A C5 i j).x) (fun i j=>(X i j).x) _ _ _ (by decide) x3 ⟨_,_,rfl⟩ ⟨_,_,rfl⟩;rw[e1]at c x2;refine⟨X,c.I5 (fL.cell (xa H5)),(HB S hA (r:=2) (c:=2) X (iN A [[1,2],[0,0]]) (by decide) (by decide) fun i j hi hj=>⟨?_,Pl (x2 i j hi hj) (by decide),by rw[xR];decide⟩).sG (.refl _) (xa (by decide))⟩;rw[G4 ((show Pe 2 2 [[1,2],[0,0]] by decide) i hi j hj)];exact(x1 i j hi hj).trans (e2 i j hi hj)
theorem HN:∃X:Nat→Nat→Nu A,Pr prog 15 [.one (OV [1,2] [2,4])] (.aD [.one (b6 1 (fun _=>2) X),.one (.int .i64 0)])∧
  Pr prog 30 [.one (b6 1 (fun _=>2) X),.one (PD [-2,1])] (.one (.bool true)):=by
 obtain⟨e1,e2⟩:=wP (A:=A) L8;obtain⟨X,x1,x2⟩:=zj S hA (r:=2) (c:=2) (iN A C5) (by decide) (by decide) (by decide) (by omega) (fun i j _ _=>by rw[xR];exact Nat.le_refl 1) (by omega);unfold N3 at x1;rw[e1]at x1 x2;refine⟨X,x2.I5 (fL.cell (xa H5)),(HB S hA (r:=1) (c:=2) X (iN A [[-2,1]]) (by decide) (by decide) fun i j hi hj=>⟨?_,Pl (x1 i j hi).2 (by decide),by rw[xR];decide⟩).sG (.refl _) (H6 (by decide))⟩;rw[G4 ((show Pe 1 2 [[-2,1]] by decide) i hi j hj),(x1 i j hi).1];obtain rfl:i=0:=by omega
 match j,hj with
 |0,_=>
  show-((red 2 (vM (iN A C5)) 2).1 0 1)=_
  rw[e2 0 1 (by decide) (by decide),←R.vU];exact congrArg R.q (by decide+kernel)
 |1,_=>rfl
theorem Nx:Pr prog 23 [.one (OV [1,2] [2,4])] (.aD [.one (.ints .i64 [0]),.one (.int .i64 0)]):=by
 have hM:∀i j,i<2→j<2→(iN A C5 j i).v=R.q (Rat.ofInt (um C5 i j)):=fun i j hi hj=>by
  rw[G4 (H5 j hj i hi)]
  match i,hi,j,hj with
  |0,_,0,_=>rfl
  |0,_,1,_=>rfl
  |1,_,0,_=>rfl
  |1,_,1,_=>rfl
 obtain⟨e1,e2⟩:=wP (A:=A) (M:=fun i j=>iN A C5 j i) hM;obtain⟨X,d,x1,x2,x3⟩:=so S hA (r:=2) (c:=2) (fun i j=>iN A C5 j i) (by decide) (by decide) (by decide) (by omega) (fun i j _ _=>by rw[xR];exact Nat.le_refl 1) (by omega);have c:=Pd (r:=2) (c:=2) (fun i j=>(iN A C5 i j).x) (fun i j=>(X i j).x) _ _ _ (by decide) (by decide) (by omega) x3 ⟨_,_,rfl⟩ ⟨_,_,rfl⟩;rw[e1]at c;exact c.I5 (fL.cell (xa H5))
theorem Li:∃X:Nat→Nu A,Pr prog 9 [.one (PD [1,1]),.one (ak 1 (uo [5]))] (.aD [.one (ug 2 X),.one (.int .i64 0)])∧
  Pr prog 13 [.one (ug 2 X),.one (ak 2 (uo [5,0]))] (.one (.bool true)):=by
 have hM:∀i j,i<1→j<3→(ou 2 (iN A [[1,1]]) (fun j=>iN A [[5]] 0 j) i j).v=R.q (Rat.ofInt (um [[1,1,5]] i j)):=fun i j hi hj=>by
  obtain rfl:i=0:=by omega
  match j,hj with
  |0,_=>rfl
  |1,_=>rfl
  |2,_=>rfl
 obtain⟨e1,e2⟩:=Ib (r:=1) (c:=3) (ou 2 (iN A [[1,1]]) (fun j=>iN A [[5]] 0 j)) [[1,1,5]] [[1,1,5]] [0] hM (by decide+kernel)
 obtain⟨X,x1,_,x3⟩:=Lt S hA (r:=1) (c:=2) (iN A [[1,1]]) (fun j=>iN A [[5]] 0 j) (by decide) (by decide) (by decide) (by omega) (fun i j _ _=>by unfold ou;split<;>rw [xR]<;>exact Nat.le_refl 1) (by omega)
 unfold Pn at x1;rw[show 2+dR 1=3 from rfl,e1]at x1 x3;have c:=x3 (by decide);have hv:∀j,j<2→(X j).v=(iN A [[5,0]] 0 j).v:=fun j hj=>by
  rw[(x1 j).1]
  match j,hj with
  |0,_=>exact(e2 0 2 (by decide) (by decide)).trans rfl
  |1,_=>rfl
 exact⟨X,c.sG (H6 (by decide)) (qv [5] (l:=[[5]]) (i:=0) (by decide)),(G3 S hA (n:=2) (n':=2) X (fun j=>iN A [[5,0]] 0 j) (by decide) (fun _ i hi=>⟨Pl (x1 i).2 (by decide),by rw[xR];decide,.inl (hv i hi)⟩) (by simp;exact hv)).sG (.refl _) (qv [5,0] (l:=[[5,0]]) (i:=0) (by decide))⟩
theorem OT {s:Nu A}(hs:s.v*s.v=R.q 2)(hw:s.w≤1):∃(half:Nu A) (X:Nat→Nat→Nu A),Pr prog 26 [nX s.x,nX ([],[mkRat 1 2])] (.aD [nX half.x,.one (.int .i64 0)])∧
  Pr prog 29 [.one (inv2 s.x)] (.aD [.one (b6 2 (fun _=>2) X),.one (.int .i64 0)])∧Pr prog 30 [.one (b6 2 (fun _=>2) X),.one (inv2 half.x)] (.one (.bool true)):=by
 have hs0:s.v≠R.q 0:=fun e=>by
  rw[e,R.zero_mul]at hs;exact absurd (R.ki hs) (by decide)
 have hf:Go.Tw.b9 A 64 [] [mkRat 1 2] (R.q (mkRat 1 2)):=ov (n:=1) (d:=2) (by decide) (by decide) (by decide);obtain⟨half,v1,w1,c1⟩:=r9 S hA (a:=s) (b:=⟨([],[mkRat 1 2]),_,1,Nat.le_refl 1,C8 (x:=([],[mkRat 1 2])) hf (by decide)⟩) (Nat.le_trans hw (by decide)) (show 1≤800 by decide);have hv:half.v=iv s.v:=xz (by rw[v1,←R.mul_assoc,hs,←R.dS];exact congrArg R.q (by decide+kernel));have hM:∀i j,(tu s i j).x=if j<2 then(uA s i j).x else oQ i (j-2):=fun i j=>by
  unfold tu
  split
  ·rfl
  exact Lz i (j-2)
 have hW:∀i j,i<2→j<4→(tu s i j).w≤1:=fun i j _ _=>by
  unfold tu uA IS
  split
  ·split
   ·exact hw
   rw[xR];exact Nat.le_refl 1
  split<;>exact Nat.le_refl 1
 obtain⟨X,d,x1,x2,x3⟩:=so S hA (r:=2) (c:=4) (tu s) (by decide) (by decide) (by decide) (by omega) hW (by omega);obtain⟨e1,e2,e3,e4,e5⟩:=Go.Mx.FK (M:=vM (tu s)) hs0 rfl rfl rfl rfl rfl rfl rfl rfl;have hpv:∀i,i<2→i<(red 2 (vM (tu s)) 4).2.length∧(red 2 (vM (tu s)) 4).2.getD i 0=i:=by rw[e1];decide
 have em:b6 2 (fun _=>4) (tu s)=au 2 (fun _=>2+2) fun i j=>if j<2 then(uA s i j).x else oQ i (j-2):=
  congrArg (au 2 (fun _=>4)) (funext fun i=>funext fun j=>hM i j)
 rw[em]at x3;have c2:=Gy (n:=2) (fun i j=>(uA s i j).x) (fun i j=>(X i j).x) (red 2 (vM (tu s)) 4).2 _ _ (by decide) x3 ⟨_,_,rfl⟩ ⟨_,_,rfl⟩ hpv;rw[e1]at x2;clear hpv x3
 generalize(red 2 (vM (tu s)) 4).1=N at x1 e2 e3 e4 e5
 refine⟨half,fun i j=>X i (2+j),c1,c2.I5 (fL.cell (Dd s)),(HB S hA (r:=2) (c:=2) (fun i j=>X i (2+j)) (uA half) (by decide) (by decide) fun i j hi hj=>⟨?_,Pl (x2 i (2+j) hi (by omega)) (by decide),?_⟩).sG (.refl _) (Dd half)⟩
 ·refine(x1 i (2+j) hi (by omega)).trans ?_
  have i0:(uA half 0 0).v=half.v:=congrArg Nu.v (if_pos ⟨rfl,rfl⟩);have i1:∀i j,¬(i=0∧j=0)→(um [[0,0],[0,1]] i j).natAbs<2^60→(uA half i j).v=R.q (Rat.ofInt (um [[0,0],[0,1]] i j)):=fun i j h h'=>(congrArg Nu.v (if_neg h)).trans (G4 h')
  match i,hi,j,hj with
  |0,_,0,_=>exact e2.trans (hv.symm.trans i0.symm)
  |0,_,1,_=>exact e3.trans (i1 0 1 (by decide) (by decide)).symm
  |1,_,0,_=>exact e4.trans (i1 1 0 (by decide) (by decide)).symm
  |1,_,1,_=>exact e5.trans (i1 1 1 (by decide) (by decide)).symm
 unfold uA;have h8:wB=800:=rfl
 split
 ·rw[w1];show s.w+1≤wB;omega
 rw[xR];omega
end
open Go Go.Eng
open Go.Tw (El ax)
theorem Ov:∃(A:List R) (s:Nu A),Go.Tw.Src 64 A∧A.length≤3∧s.v*s.v=R.q 2∧s.w≤1∧Pr prog 24 [nX (uH 2)] (.aD [nX s.x,.one (.int .i64 0)]):=by
 have S0:Go.Tw.Src 64 []:=⟨fun k hk=>absurd hk (Nat.not_lt_zero _),fun k hk=>absurd hk (Nat.not_lt_zero _)⟩;have e:mkRat 2 1=Rat.ofInt 2:=by decide+kernel
 have hf:Go.Tw.b9 [] 64 [] [mkRat 2 1] (R.q (mkRat 2 1)):=ov (n:=2) (d:=1) (by decide) (by decide) (by decide);have hn:R.nn (R.q (mkRat 2 1)):=R.bB.2 (.inr (R.tG.2 (by decide+kernel)));obtain⟨A,x,S,_,hA,nx,c⟩:=LV S0 (by decide) (by decide) (c:=([],[mkRat 2 1])) hf hn;rw[e]at c;refine⟨A,⟨x,_,1,Nat.le_refl 1,nx.mono (by decide) (by decide)⟩,S,Nat.le_trans hA (by decide),?_,Nat.le_refl 1,c⟩;exact(R.dM hn).trans (congrArg R.q e)
theorem xq:Pr prog 5 [] (.one (.bool true)):=by
 obtain⟨A,s,S,hA,hs,hw,cq⟩:=Ov;obtain⟨Xr,cr,qr⟩:=Gx S hA;obtain⟨Xk,ck,qk⟩:=HN S hA;have cro:=Nx S hA;obtain⟨Xs,cs,qs⟩:=Li S hA;obtain⟨half,Xi,ch,ci,qi⟩:=OT S hA hs hw;have i12:=jP [1,2] (by decide) (by decide);have i24:=jP [2,4] (by decide) (by decide);have i01:=jP [0,1] (by decide) (by decide);have i11:=jP [1,1] (by decide) (by decide);have i00:=jP [0,0] (by decide) (by decide);have i21:=jP [-2,1] (by decide) (by decide);have i50:=jP [5,0] (by decide) (by decide);have i5:=jP [5] (by decide) (by decide);have f2:=gy 2 (by decide) (by decide);have f0:=gy 0 (by decide) (by decide);have fr:=og 1 2 (by decide) (by decide) (by decide) (by decide+kernel) (by decide+kernel);have fq:=pP (mkRat 1 2) [];have eq:=MW [0] [0] (by decide) (q:=true) (by simp);refine pw func5 ⟨[0,1,2,3,4,5,6,7,8,9,11,13,14,15,16,17],[(6,(.cons 8 [6] (.cons 9 [] .nil .nil) .nil)),(7,.nil)]⟩ ?_;simp only[Tryz.f5,ntmps5,iz,seval];simp only[vx,T,seval];refine Cg i12 ?_;simp only[vx,T,seval,ak];refine Cg i24 ?_;simp only[vx,T,seval,ak];refine Cg cr ?_;simp only[vx,T,seval,b6,au,ak];refine Cg ck ?_;simp only[vx,T,seval,b6,au,ak];refine Cg cro ?_;simp only[vx,T,seval,b6,au,ak];refine Cg f2 ?_;simp only[vx,T,seval,nX,nV,tC,aa];refine Cg cq ?_;simp only[vx,T,seval,nX,nV,tC,aa];refine Cg fr ?_;simp only[vx,T,seval,QV,QC];refine Cg fq ?_;simp only[vx,T,seval,nX,nV,tC,aa];refine Cg ch ?_;simp only[vx,T,seval,nX,nV,tC,aa];refine Cg f0 ?_;simp only[vx,T,seval,nX,nV,tC,aa];refine Cg i01 ?_;simp only[vx,T,seval,ak];refine Cg ci ?_;simp only[vx,T,seval,b6,au,ak];refine Cg i11 ?_;simp only[vx,T,seval,ak];refine Cg i5 ?_;simp only[vx,T,seval,ak];refine Cg cs ?_;simp only[vx,T,seval,ug,ak];refine Cg i12 ?_;simp only[vx,T,seval,ak];refine Cg i00 ?_;simp only[vx,T,seval,ak];refine Cg qr ?_;simp only[vx,T,seval,ak];refine Cg eq ?_;simp only[vx,T,seval,ak];refine Cg i21 ?_;simp only[vx,T,seval,ak];refine Cg qk ?_;simp only[vx,T,seval,ak];refine Cg eq ?_;simp only[vx,T,seval,ak];refine Cg f0 ?_;simp only[vx,T,seval,nX,nV,tC,aa];refine Cg i01 ?_;simp only[vx,T,seval,ak];refine Cg qi ?_;simp only[vx,T,seval,ak];refine Cg i50 ?_;simp only[vx,T,seval,ak];refine Cg qs ?_;simp only[vx,T,seval,ak];exact Ve rfl
open Go Go.Eng
open Go.Tw (El ax TG)
open Go.Mx (sm iv iq red jD free)
theorem Jb {r c:Nat}(M:Nat→Nat→R){i:Nat}(hi:i<(fl (red r M c).2 c).length){j:Nat}(hj:j<r):sm c (fun k=>M j k*N3 M r c i k)=R.q 0:=by
 obtain⟨h1,h2⟩:=wO _ c i hi;exact(Go.Mx.Dy r c M _ c).1 ((Go.Mx.dJ r M c).Pu h1 h2) j hj
theorem Jj {no s:Nat}{fo:Nat→Nat→C}{cs:List Int}
  (cm:Pr prog 6 [.agg [.rows 5 no fo,.ints .u8 cs,.int .u8 s],.one (.int .i64 24)] (.aD [.one .nil,.one (.bool false)])):
  Pr prog 4 [.agg [.rows 5 no fo,.ints .u8 cs,.int .u8 s]] (.one (.bool true)):=by
 refine pw func4 ⟨[0,1,2,3,4,5,6,8,10,12,19,44,45,46,47,48,53,54,55,56,61],[]⟩ ?_;simp only[Tryz.f4,ntmps4,iz,seval];simp only[vx,T,seval];refine Cg xq ?_;simp only[vx,T,seval];refine Cg cm ?_;simp only[vx,T,seval];exact Ve rfl
theorem G8 {no s r:Nat}{c:Nat→Nat}{m:Nat→Nat→Nb}{fo:Nat→Nat→C}{cs:List Int}
  (cm:Pr prog 6 [.agg [.rows 5 no fo,.ints .u8 cs,.int .u8 s],.one (.int .i64 24)] (.aD [.one (au r c m),.one (.bool false)])):
  Pr prog 4 [.agg [.rows 5 no fo,.ints .u8 cs,.int .u8 s]] (.one (.bool true)):=by
 refine pw func4 ⟨[0,1,2,3,4,5,6,8,10,12,19,44,45,46,47,48,53,54,55,56,61],[]⟩ ?_;simp only[Tryz.f4,ntmps4,iz,seval];simp only[vx,T,seval];refine Cg xq ?_;simp only[vx,T,seval];refine Cg cm ?_;simp only[vx,T,seval,au];exact Ve rfl
theorem LY {q n:Nat}(h:q≤n):4^q≤4^n:=Nat.pow_le_pow_right (by decide) h
theorem Iq {A:List R}(S:Go.Tw.Src 64 A)(hA:A.length≤3){no s:Nat}{fo:Nat→Nat→C}{cs:List Int}{r c:Nat}(M:Nat→Nat→Nu A)(h0:r=0→c=0)(hrc:r*c≤24)(hr:r≤24)(hc:c≤12)(hw:∀i j,i<r→j<c→(M i j).w≤1)
  (cm:Pr prog 6 [.agg [.rows 5 no fo,.ints .u8 cs,.int .u8 s],.one (.int .i64 24)] (.aD [.one (b6 r (fun _=>c) M),.one (.bool true)])):
  Pr prog 4 [.agg [.rows 5 no fo,.ints .u8 cs,.int .u8 s]] (.one (.bool true)):=by
 have hl1:=(Go.Mx.dJ r (vM M) c).len;have hl2:=xH r (vM M) c;have hlf:(fl (red r (vM M) c).2 c).length+(red r (vM M) c).2.length=c:=by rw[F1];exact Go.Mx.sC r (vM M) c
 have h5:r≤4∨c≤4:=by
  by_cases h:r≤4
  ·exact .inl h
  have:5*c≤r*c:=Nat.mul_le_mul_right _ (by omega)
  omega
 have hq:(red r (vM M) c).2.length≤3∨((red r (vM M) c).2.length≤4∧c≤6):=by
  by_cases h:r≤3
  ·omega
  have:4*c≤r*c:=Nat.mul_le_mul_right _ (by omega)
  omega
 obtain⟨K,hK,ck⟩:=zj S hA M (by omega) (by omega) (by omega) h0 hw (by omega);obtain⟨L,hL,cl⟩:=Gg S hA M (by omega) (by omega) h0 hw (by omega);have cr:=NO S hA M (by omega) (by omega) h0 hw (by omega);have hz:∀i,i<(fl (red r (vM M) c).2 c).length→∀j,j<r→sm c (fun k=>(M j k).v*(K i k).v)=R.q 0:=fun i hi j hj=>by
  rw[Go.Mx.mi fun k hk=>by rw[(hK i k hi).1]];exact Jb (vM M) hi hj
 have hp:4^(red r (vM M) c).2.length≤256∧1+c*(1+4^(red r (vM M) c).2.length)≤wA:=by
  show _∧_≤2000
  rcases hq with h|⟨h,h'⟩
  ·have e:4^(red r (vM M) c).2.length≤64:=LY h
   have:=Nat.mul_le_mul hc (show 1+4^(red r (vM M) c).2.length≤65 by omega)
   omega
  have e:4^(red r (vM M) c).2.length≤256:=LY h
  have:=Nat.mul_le_mul h' (show 1+4^(red r (vM M) c).2.length≤257 by omega)
  omega
 generalize(red r (vM M) c).2.length=d at*
 generalize(fl (red r (vM M) c).2 c).length=nk at*
 have cv:=Bb S hA K L (r:=nk) (c:=c) (by omega) (by omega) fun i j hi _=>⟨by rw[(hK i j hi).1,(hL i j hi).1],Nat.le_trans (hK i j hi).2 (Nat.le_trans hp.1 (by decide)),Nat.le_trans (hL i j hi).2 (Nat.le_trans hp.1 (by decide))⟩;have cc:=ob (fun _=>c) (fun i j=>(M i j).x) (k:=c) (by split;exact h0 (by assumption);rfl) (by omega:r<2^38);have cp:=Ja (fun _=>c) (fun i j=>(M i j).x) (by omega:r<2^38) fun _ _=>by omega
 have wk:IntKind.i64.wrap ((nk:Int)+(d:Int))=(c:Int):=by rw[IntWalk.i64_in _ (by omega)];omega
 refine pw func4 ⟨[0,1,2,3,4,5,6,8,10,12,19,44,45,46,47,48,53,54,55,56,61],[]⟩ ?_;simp only[Tryz.f4,ntmps4,iz,seval];simp only[vx,T,seval];refine Cg xq ?_;simp only[vx,T,seval];refine Cg cm ?_;simp only[vx,T,seval,b6,au,ak];refine Cg cp ?_;simp only[vx,T,seval,b6,au,ak];refine Cg ck ?_;simp only[vx,T,seval,b6,au,ak];refine Cg cl ?_;simp only[vx,T,seval,b6,au,ak];refine Cg cv ?_;simp only[vx,T,seval,b6,au,ak];refine Cg cr ?_;simp only[vx,T,seval,b6,au,ak];refine Cg cc ?_;simp only[vx,T,seval,b6,au,ak,wk];refine Lk (fun y:{i:Nat//i≤nk}=>⟨[(2,.one (.bool false)),(3,.one (b6 r (fun _=>c) M)),(45,.one (b6 nk (fun _=>c) K)),(46,.one (.int .i64 nk)),(47,.one (.int .i64 y.1))],[],1,64⟩) (fun y=>nk-y.1) ⟨0,Nat.zero_le _⟩ ?_ (fun⟨i,hi⟩=>?_)
 ·refine Sa ?_;simp only[ry,seval,rz,b6,au,ak]
 simp only;have wi:IntKind.i64.wrap ((i:Int)+1)=((i+1:Nat):Int):=by rw[IntWalk.i64_in _ (by omega)];omega
 simp only[vx,T,seval,b6,au,ak];refine⟨fun g=>Lg ?_,fun g=>Lg ?_⟩
 ·have hin:i<nk:=by omega
  obtain⟨o,ho,co⟩:=JD S hA (r:=r) (n:=c) (n':=c) (p:=1) (q:=4^d) M (K i) (by omega) (by omega) (Nat.le_refl _) hw (fun j hj=>(hK i j hin).2) hp.2 (by show _≤800;omega);simp only[vx,T,seval,b6,au,ak];refine⟨by omega,Cg co ?_⟩;simp only[vx,T,seval,ug,ak];refine Lk (fun y:{j:Nat//j≤r}=>⟨[(2,.one (.bool false)),(3,.one (b6 r (fun _=>c) M)),(45,.one (b6 nk (fun _=>c) K)),(46,.one (.int .i64 nk)),(47,.one (.int .i64 i)),(53,.one (ug r o)),(54,.one (.int .i64 r)),(55,.one (.int .i64 y.1))],[],1,64⟩) (fun y=>r-y.1) ⟨0,Nat.zero_le _⟩ ?_ (fun⟨j,hj⟩=>?_)
  ·refine Sa ?_;simp only[ry,seval,rz,b6,au,ug,ak]
  simp only;have wj:IntKind.i64.wrap ((j:Int)+1)=((j+1:Nat):Int):=by rw[IntWalk.i64_in _ (by omega)];omega
  simp only[vx,T,seval,ug,ak];refine⟨fun g2=>Lg ?_,fun g2=>Lg ?_⟩
  ·have hjr:j<r:=by omega
   have no:=(o j).ok;rw[(ho j hjr).1,hz i hin j hjr]at no;have cs:=Ip S hA no;simp only[vx,T,seval,ug,ak,bu,tC,aa];refine⟨by omega,Cg cs ?_⟩;simp only[vx,T,seval,wj];refine Lq ⟨j+1,by omega⟩ ?_ (by show r-(j+1)<r-j;omega);refine Sa ?_;simp only[ry,seval,rz,b6,au,ug,ak]
  obtain rfl:r=j:=by omega
  simp only[vx,T,seval,wi];refine Lq ⟨i+1,by omega⟩ ?_ (by show nk-(i+1)<nk-i;omega);refine Sa ?_;simp only[ry,seval,rz,b6,au,ug,ak]
 simp only[vx,T,seval];exact Ve rfl
open Go Go.Eng
open Go.Tw (El ax TG)
open Go.Mx (sm iv iq red jD)
theorem QS {r c n:Nat}(x:Nat→Nat→Nb)(b:Nat→Nb)(hr:r<2^30)(hn:n<2^30)(h:n≠r):Pr prog 9 [.one (au r (fun _=>c) x),.one (ak n b)] (.aD [.one .nil,.one (.int .i64 1)]):=by
 have cv:=qp (r:=r) (fun _=>c) x (by omega) (b:=true) (by simp);refine pw func9 ⟨[0,1,4,5,6,7,8,9,10,11,12,13,14,24,28,29,30,31,51,56,57,58,59,65],[]⟩ ?_;simp only[Tryz.f9,ntmps9,iz,seval];simp only[vx,T,seval,au,ak];refine Cg cv ?_;simp only[vx,T,seval,au,ak];refine⟨fun _=>Lg ?_,fun h'=>absurd h' (by omega)⟩;simp only[vx,T,seval];exact Ve rfl
theorem QZ {r c:Nat}(M:Nat→Nat→R)(h:c∉(red r M (c+1)).2):(red r M (c+1)).2.length≤c:=by
 have e:=FW r M c
 by_cases g:Go.Mx.kI (red r M c).1 c (r-(red r M c).2.length) (red r M c).2.length<r
 ·rw[if_pos g]at e;rw[e]at h;exact absurd (List.mem_append_right _ (by simp)) h
 rw[if_neg g]at e;rw[e];exact xH r M c
theorem Q0 {A:List R}{r c:Nat}(M:Nat→Nat→Nu A)(b:Nat→Nu A)(h:c∉(red r (vM (ou c M b)) (c+dR r)).2){i:Nat}(hi:i<r):sm c (fun j=>(M i j).v*Pn r c (vM (ou c M b)) j)=(b i).v:=by
 have hd:dR r=1:=if_neg (by omega);unfold Pn;rw[hd]at h⊢;have E:=Go.Mx.dJ r (vM (ou c M b)) (c+1);have s:=(Go.Mx.Dy r (c+1) (vM (ou c M b)) _ (c+1)).1 (E.solve h) i hi
 generalize jD (red r (vM (ou c M b)) (c+1)).2 (fun i=>(red r (vM (ou c M b)) (c+1)).1 i c) (fun _=>R.q 0) (red r (vM (ou c M b)) (c+1)).2.length=y at s⊢
 rw[sm]at s;have e1:sm c (fun k=>vM (ou c M b) i k*if k=c then-R.q 1 else y k)=sm c (fun j=>(M i j).v*y j):=Go.Mx.mi fun j hj=>by
  show(ou c M b i j).v*_=_
  rw[if_neg (by omega)];unfold ou;rw[if_pos hj]
 have e2:vM (ou c M b) i c=(b i).v:=by
  show(ou c M b i c).v=_
  unfold ou;rw[if_neg (Nat.lt_irrefl c)]
 rw[e1,if_pos rfl,e2,R.mul_neg,R.mul_one,←R.sub_def]at s;exact Go.Mx.Jt.1 s
theorem QY {r c:Nat}{M:Nat→Nat→R}(h:c∉(red r M (c+dR r)).2):(red r M (c+dR r)).2.length≤r∧(red r M (c+dR r)).2.length≤c:=by
 have hl:=(Go.Mx.dJ r M (c+dR r)).len;refine⟨hl,?_⟩
 by_cases e:r=0
 ·omega
 rw[show dR r=1 from if_neg e]at h⊢;exact QZ M h
theorem Q1 {r c d:Nat}(h1:d≤r)(h2:d≤c)(hrc:r*c≤20)(hc:c≤12):4^d≤256∧1+c*(1+4^d)≤wA:=by
 show _∧_≤2000
 by_cases h:d≤3
 ·have e:4^d≤64:=Nat.pow_le_pow_right (n:=4) (by decide) h
  have:=Nat.mul_le_mul hc (show 1+4^d≤65 by omega)
  omega
 have a:4*c≤r*c:=Nat.mul_le_mul_right _ (by omega);have b:r*4≤r*c:=Nat.mul_le_mul_left _ (by omega)
 by_cases h':d≤4
 ·have e:4^d≤256:=Nat.pow_le_pow_right (n:=4) (by decide) h'
  have:=Nat.mul_le_mul (show c≤5 by omega) (show 1+4^d≤257 by omega)
  omega
 have:5*5≤r*c:=Nat.mul_le_mul (by omega) (by omega)
 omega
theorem QU {no s:Nat}{fo:Nat→Nat→C}{cs bs:List Int}
  (cm:Pr prog 6 [.agg [.rows 5 no fo,.ints .u8 cs,.int .u8 s],.one (.int .i64 20)] (.aD [.one .nil,.one (.bool false)])):
  Pr prog 3 [.agg [.rows 5 no fo,.ints .u8 cs,.int .u8 s],.one (.ints .u8 bs)] (.one (.bool true)):=by
 refine pw func3 ⟨[0,1,2,4,5,6,7,8,10,11,12,13,14,16,28,32,33,34,35,59,74],[]⟩ ?_;simp only[Tryz.f3,ntmps3,iz,seval];simp only[vx,T,seval];refine Cg xq ?_;simp only[vx,T,seval];refine Cg cm ?_;simp only[vx,T,seval];exact Ve rfl
theorem QQ {no s r:Nat}{c:Nat→Nat}{m:Nat→Nat→Nb}{fo:Nat→Nat→C}{cs bs:List Int}
  (cm:Pr prog 6 [.agg [.rows 5 no fo,.ints .u8 cs,.int .u8 s],.one (.int .i64 20)] (.aD [.one (au r c m),.one (.bool false)])):
  Pr prog 3 [.agg [.rows 5 no fo,.ints .u8 cs,.int .u8 s],.one (.ints .u8 bs)] (.one (.bool true)):=by
 refine pw func3 ⟨[0,1,2,4,5,6,7,8,10,11,12,13,14,16,28,32,33,34,35,59,74],[]⟩ ?_;simp only[Tryz.f3,ntmps3,iz,seval];simp only[vx,T,seval];refine Cg xq ?_;simp only[vx,T,seval];refine Cg cm ?_;simp only[vx,T,seval,au];exact Ve rfl
theorem QN {A:List R}(S:Go.Tw.Src 64 A)(hA:A.length≤3){no s n:Nat}{a:Nat→Nb}{fo:Nat→Nat→C}{cs bs:List Int}{r c:Nat}(f:Nat→Nu A)(hf:∀v,(f v).x=Nn n a v∧(f v).w=1)(M:Nat→Nat→Nu A)(h0:r=0→c=0)(hrc:r*c≤20)(hr:r≤20)(hc:c≤12)
  (hw:∀i j,i<r→j<c→(M i j).w≤1) (hn:n<2^30) (hbs:∀i,i<bs.length→0≤bs.getD i 0∧bs.getD i 0<256) (hbl:bs.length<2^63) (cb:Pr prog 7 [.one (.rows 5 no fo)] (.one (ak n a)))
  (cm:Pr prog 6 [.agg [.rows 5 no fo,.ints .u8 cs,.int .u8 s],.one (.int .i64 20)] (.aD [.one (b6 r (fun _=>c) M),.one (.bool true)])):
  Pr prog 3 [.agg [.rows 5 no fo,.ints .u8 cs,.int .u8 s],.one (.ints .u8 bs)] (.one (.bool true)):=by
 have cp:=Ja (fun _=>c) (fun i j=>(M i j).x) (by omega:r<2^38) fun _ _=>by omega
 obtain⟨b,hb⟩:∃b:Nat→Nu A,∀i,b i=f (bs.getD i 0).toNat:=⟨_,fun _=>rfl⟩;refine pw func3 ⟨[0,1,2,4,5,6,7,8,10,11,12,13,14,16,28,32,33,34,35,59,74],[]⟩ ?_;simp only[Tryz.f3,ntmps3,iz,seval];simp only[vx,T,seval];refine Cg xq ?_;simp only[vx,T,seval];refine Cg cm ?_;simp only[vx,T,seval,b6,au,ak];refine⟨fun g0=>Lg ?_,fun g0=>Lg ?_⟩
 ·simp only[vx,T,seval,b6,au,ak];exact Ve rfl
 have hb30:bs.length≤30:=by omega
 simp only[vx,T,seval,b6,au,ak];refine Cg cb ?_;simp only[vx,T,seval,b6,au,ak];refine Lk (fun y:{i:Nat//i≤bs.length}=>⟨[(4,.one (.bool false)),(5,.one (b6 r (fun _=>c) M)),(7,.one (ak n a)),(8,.one (.own 1 2 0 y.1)),(32,.one (.ints .u8 bs)),(33,.one (.int .i64 bs.length)),(34,.one (.int .i64 y.1))],[(1,⟨.rows 36 2 y.1 (fun i=>bu (b i).x),true⟩)],2,100⟩) (fun y=>bs.length-y.1) ⟨0,Nat.zero_le _⟩ ?_ (fun⟨i,hi⟩=>?_)
 ·refine Sa ?_;simp only[ry,seval,rz,b6,au,ak]
 simp only;have wi:IntKind.i64.wrap ((i:Int)+1)=((i+1:Nat):Int):=by rw[IntWalk.i64_in _ (by omega)];omega
 simp only[vx,T,seval,b6,au,ak];refine⟨fun g=>Lg ?_,fun g=>Lg ?_⟩
 ·have hil:i<bs.length:=by omega
  obtain⟨b1,b2⟩:=hbs i hil;obtain⟨v,hv⟩:∃v:Nat,bs.getD i 0=v:=⟨(bs.getD i 0).toNat,by omega⟩;have wv:IntKind.i64.wrap (v:Int)=(v:Int):=IntWalk.i64_in _ (by omega);have hcl:=PS a v hn (by omega);have ev:(b i).x=Nn n a v:=by rw[hb,hv];exact(hf v).1
  simp only[vx,T,seval,b6,au,ak,hv,wv];refine⟨by omega,Cg hcl ?_⟩;simp only[vx,T,seval,nX,nV,tC,aa,wi];refine⟨⟨by omega,by omega⟩,Lq ⟨i+1,by omega⟩ ?_ (by show bs.length-(i+1)<bs.length-i;omega)⟩;refine Sa ?_;simp only[ry,seval,rz,b6,au,ak,tC,aa];have s:=rh (fun i=>(b i).x) i;simp only[ev]at s;exact s
 obtain rfl:i=bs.length:=by omega
 simp only[vx,T,seval,b6,au,ak];refine Cg cp ?_;simp only[vx,T,seval,b6,au,ak,Nat.not_lt_zero,Nat.sub_zero];refine⟨⟨by omega,by omega⟩,?_⟩
 by_cases e:bs.length=r
 ·subst e
  have hd:dR bs.length≤1:=by unfold dR;split<;>omega
  have h5:bs.length≤4∨c≤4:=by
   by_cases h:bs.length≤4
   ·exact .inl h
   have:5*c≤bs.length*c:=Nat.mul_le_mul_right _ (by omega)
   omega
  have hm:=Nat.mul_le_mul hb30 (show c+dR bs.length≤13 by omega);have hwa:∀i j,i<bs.length→j<c+dR bs.length→(ou c M b i j).w≤1:=fun i j hi hj=>by
   unfold ou
   split
   ·exact hw i j hi (by assumption)
   rw[hb,(hf _).2];exact Nat.le_refl 1
  obtain⟨X,hX,x1,x2⟩:=Lt S hA M b (by omega) (by omega) (by omega) h0 hwa h5;obtain⟨Y,hY,y1,y2⟩:=QX S hA M b (by omega) (by omega) h0 hwa h5
  by_cases hp:c∈(red bs.length (vM (ou c M b)) (c+dR bs.length)).2
  ·have c1:=x1 hp;have c2:=y1 hp;refine Cg c1 ?_;simp only[vx,T,seval,b6,au,ak];refine Cg c2 ?_;simp only[vx,T,seval];exact Ve rfl
  have c1:=x2 hp;have c2:=y2 hp;have hz:=fun i (hi:i<bs.length)=>Q0 M b hp hi;obtain⟨w1,w2⟩:=Q1 (QY hp).1 (QY hp).2 hrc hc
  generalize(red bs.length (vM (ou c M b)) (c+dR bs.length)).2.length=d at*
  have b2:wA=2000:=rfl;have b8:wB=800:=rfl;have c3:=M0 S hA (n:=c) X (by omega) fun i hi=>by have:=(hX i).2;omega
  have c4:=G3 S hA (n:=c) (n':=c) X Y (by omega) (fun _ i _=>⟨by have:=(hX i).2;omega,by have:=(hY i).2;omega,.inl (by rw[(hX i).1,(hY i).1])⟩) (r:=true) (by simp;exact fun i _=>by rw[(hX i).1,(hY i).1]);obtain⟨o,ho,c5⟩:=JD S hA (r:=bs.length) (n:=c) (n':=c) (p:=1) (q:=4^d) M X (by omega) (by omega) (Nat.le_refl _) hw (fun j _=>(hX j).2) w2 (by omega);have hv:∀i,i<bs.length→(o i).v=(b i).v:=fun i hi=>by
   rw[(ho i hi).1,Go.Mx.mi fun k hk=>by rw[(hX k).1]];exact hz i hi
  have c6:=G3 S hA (n:=bs.length) (n':=bs.length) o b (by omega) (fun _ i hi=>⟨by have:=(ho i hi).2;omega,by rw[hb,(hf _).2];omega,.inl (hv i hi)⟩) (r:=true) (by simp;exact hv);refine Cg c1 ?_;simp only[vx,T,seval,b6,au,ug,ak];refine Cg c2 ?_;simp only[vx,T,seval,ug,ak];refine Cg c3 ?_;simp only[vx,T,seval,ug,ak];refine Cg c4 ?_;simp only[vx,T,seval,ug,ak];refine Cg c5 ?_;simp only[vx,T,seval,ug,ak];refine Cg c6 ?_;simp only[vx,T,seval];exact Ve rfl
 have ce:=QS (r:=r) (c:=c) (n:=bs.length) (fun i j=>(M i j).x) (fun i=>(b i).x) (by omega) (by omega) e;refine Cg ce ?_;simp only[vx,T,seval];refine⟨fun _=>Lg ?_,fun h=>absurd h (by omega)⟩;simp only[vx,T,seval];exact Ve rfl
end Go.Proofs.YtncdiehbmlejdaaGreat
/-
  THE ENGINE, PART OP: what comes in, read as data, as the engine's cells.
-/
namespace Go.Eng
open Go Go.ChangeShapes Go.WideShapes Go.Deep
def oK (P:Program):Nat→List Field→Nat→Bool
 |off,[],tot=>off==tot
 |off,f::r,tot=>f.offset==off&&oK P (off+P.cellsOf f.type) r tot
def wW (P:Program)(S:List TypeId):Bool:=S.all fun t=>
 match P.underlying t with
 |some .bool=>true
 |some (.int _)=>true
 |some .string=>true
 |some (.slice e)=>decide (0<P.cellsOf e)&&S.contains e&&(match P.underlying e with|some (.int _)=>P.cellsOf e==1|_=>true)
 |some (.struct fs)=>oK P 0 fs.toList (P.cellsOf t)&&fs.toList.all fun f=>S.contains f.type
 |some (.array n e)=>S.contains e&&P.cellsOf t==n*P.cellsOf e
 |_=>false
def Oz (R:TypeId→List C→Prop):List Field→List C→Prop
 |[],cs=>cs=[]
 |f::r,cs=>∃c1 c2,cs=c1++c2∧R f.type c1∧Oz R r c2
def oG (P:Program)(B:Nat):Nat→TypeId→List C→Prop
 |0,_,_=>False
 |n+1,t,cs=>
  match P.underlying t with
  |some .bool=>∃b,cs=[.bool b]
  |some (.int k)=>∃x,cs=[.int k x]∧k.min≤x∧x≤k.max
  |some .string=>∃s:ByteArray,cs=[.str s]∧s.size≤B
  |some (.slice e)=>
   match P.underlying e with
   |some (.int k)=>∃xs:List Int,cs=[.ints k xs]∧xs.length≤B∧∀x∈xs,k.min≤x∧x≤k.max
   |_=>∃m f,cs=[.rows (P.cellsOf e) m f]∧m≤B∧∀i,i<m→oG P B n e ((List.range (P.cellsOf e)).map (f i))
  |some (.struct fs)=>Oz (oG P B n) fs.toList cs
  |some (.array m e)=>∃l:List (List C),cs=l.flatten∧l.length=m∧∀c∈l,oG P B n e c
  |_=>False
theorem oG.mono {P:Program}{B B':Nat}(hB:B≤B'):∀{n:Nat} {t:TypeId} {cs:List C},oG P B n t cs→oG P B' n t cs:=by
 intro n
 induction n with
 |zero=>intro t cs h;exact h
 |succ n ih=>
  intro t cs h;have hf:∀(fs:List Field) (cs:List C),Oz (oG P B n) fs cs→Oz (oG P B' n) fs cs:=by
   intro fs
   induction fs with
   |nil=>intro cs h;exact h
   |cons f r ihf=>
    rintro cs ⟨c1,c2,rfl,h1,h2⟩;exact⟨c1,c2,rfl,ih h1,ihf c2 h2⟩
  simp only[oG]at h⊢
  split at h
  ·exact h
  ·exact h
  ·obtain⟨s,h1,h2⟩:=h;exact⟨s,h1,Nat.le_trans h2 hB⟩
  ·split at h
   ·obtain⟨xs,h1,h2,h3⟩:=h;exact⟨xs,h1,Nat.le_trans h2 hB,h3⟩
   obtain⟨m,f,h1,h2,h3⟩:=h;exact⟨m,f,h1,Nat.le_trans h2 hB,fun i hi=>ih (h3 i hi)⟩
  ·exact hf _ _ h
  ·obtain⟨l,h1,h2,h3⟩:=h;exact⟨l,h1,h2,fun c hc=>ih (h3 c hc)⟩
  exact h
structure Ni {H:Type} (bulk:DataW H→Nat):Prop where
 str:∀s:List UInt8,s.length≤bulk (.lit (.string s))
 sl:∀el sp,el.length≤bulk (.slice el sp)∧∀d∈el,bulk d≤bulk (.slice el sp)
 agg:∀ps d,d∈ps→bulk d≤bulk (.agg ps)
def Oq {H:Type}(bulk:DataW H→Nat)(B:Nat)(d:DataW H):Prop:=maxLen≤B∨(Ni bulk∧bulk d≤B)
def gj (ok:Nat→Prop)(w:World):List C→List Value→Prop
 |[],[]=>True
 |c::cs,v::vs=>aP ok w c v∧gj ok w cs vs
 |_,_=>False
theorem gj.append {ok:Nat→Prop}{w:World}:∀{a b:List C} {x y:List Value},gj ok w a x→gj ok w b y→gj ok w (a++b) (x++y)
 |[],_,[],_,_,h=>h
 |_::_,_,_::_,_,h1,h2=>⟨h1.1,gj.append h1.2 h2⟩
 |[],_,_::_,_,h,_=>h.elim
 |_::_,_,[],_,h,_=>h.elim
theorem gj.length {ok:Nat→Prop}{w:World}:∀{a:List C} {x:List Value},gj ok w a x→a.length=x.length
 |[],[],_=>rfl
 |_::_,_::_,h=>by simp[gj.length h.2]
 |[],_::_,h=>h.elim
 |_::_,[],h=>h.elim
theorem gj.get {ok:Nat→Prop}{w:World}:∀{a:List C} {x:List Value},gj ok w a x→∀j,j<a.length→∃u,x[j]? =some u∧aP ok w (a.getD j .any) u
 |_::_,u::_,h,0,_=>⟨u,rfl,h.1⟩
 |_::_,_::_,h,j+1,hj=>by simpa using gj.get h.2 j (by simpa using hj)
 |[],[],_,j,hj=>absurd hj (by simp)
 |[],_::_,h,_,_=>h.elim
 |_::_,[],h,_,_=>h.elim
theorem gj.Pc {ok:Nat→Prop}{w:World}:∀{a:List C} {x:List Value},gj ok w a x→bZ bm bp ok w a x
 |[],[],_=>trivial
 |_::_,_::_,h=>⟨aI.bh h.1,gj.Pc h.2⟩
 |[],_::_,h=>h.elim
 |_::_,[],h=>h.elim
theorem JI {w:World}{a:Addr}{v:Value}(h:w.cell? a=some v):a.block<w.heap.size∧a.spot=none:=by
 unfold World.cell? at h
 split at h
 ·rename_i c _ _ hb
  refine⟨(Array.getElem?_eq_some_iff.1 hb).1,?_⟩
  split at h
  ·cases h
  rename_i hs
  cases hsp:a.spot with
  |none=>rfl
  |some x=>rw[hsp]at hs;simp at hs
 cases h
section
variable {H:Type}{bulk:DataW H→Nat}{B:Nat}{enc:TypeId×Value→H}{P:Program}{w:World}{base:Nat}{spare:Nat→Bool}{held:Bool}
theorem DA {S:List TypeId}(hS:wW P S=true):∀(fuel:Nat) (t:TypeId) (vs:List Value) (x:DataW H×List MemPlace),t∈S→DataW.trod enc P w base spare held fuel t vs=some x→Oq bulk B x.1→
  ∃cs,oG P B fuel t cs∧gj (fun g=>g<w.heap.size) w cs vs:=by
 intro fuel
 induction fuel with
 |zero=>intro t vs x _ h _;simp[DataW.trod]at h
 |succ fuel ih=>
  intro t vs x ht h hb;have hc:=List.all_eq_true.1 hS t ht;simp only[oG]
  cases hu:P.underlying t with
  |none=>rw[hu]at hc;simp at hc
  |some d=>
   rw[hu]at hc
   cases d with
   |bool=>
    obtain⟨b,rfl,_⟩:=DataW.trod_bool hu h;exact⟨[.bool b],⟨b,rfl⟩,rfl,trivial⟩
   |int k=>
    obtain⟨n,rfl,_,hw⟩:=DataW.trod_int hu h;simp only[Lit.wf,Bool.and_eq_true,decide_eq_true_eq]at hw;exact⟨[.int k n],⟨n,rfl,hw⟩,rfl,trivial⟩
   |string=>
    obtain⟨s,rfl,hx,hs⟩:=DataW.trod_string hu h;refine⟨[.str s],⟨s,rfl,?_⟩,rfl,trivial⟩
    rcases hb with hb|⟨hb,hb2⟩
    ·omega
    have h1:=hb.str s.data.toList;rw[hx]at hb2;have hb2:bulk (.lit (.string s.data.toList))≤B:=hb2;have h2:s.data.toList.length=s.size:=Array.length_toList;omega
   |slice e=>
    simp only[Bool.and_eq_true,decide_eq_true_eq]at hc;obtain⟨⟨hpos,he⟩,hk⟩:=hc;have he:e∈S:=by simpa using he
    have hfit:(vs=[.slice none 0 0])∨∃(a:Addr) (len cap:Nat),vs=[.slice (some a) len cap]∧len≤cap∧len≤B∧
      ∀i,i<len→∃cs',w.cells? base (a.add (i*P.cellsOf e)) (P.cellsOf e)=some cs'∧∃y,DataW.trod enc P w base spare held fuel e cs'=some y∧Oq bulk B y.1:=by
     rcases DataW.trod_slice hu h with⟨rfl,_⟩|⟨a,len,cap,elems,rest,n,hn,rfl,hx,_,hl,hm,hlen,hel,_,_⟩
     ·exact .inl rfl
     have hlB:len≤B:=by
      rcases hb with hb|⟨hb,hb2⟩
      ·omega
      have h1:=(hb.sl (elems.map (·.1)) (rest.map (·.1))).1;rw[hx]at hb2;rw[List.length_map]at h1;have hb2:bulk (.slice (elems.map (·.1)) (rest.map (·.1)))≤B:=hb2;omega
     refine .inr ⟨a,len,cap,rfl,hl,hlB,fun i hi=>?_⟩;obtain rfl:fuel=n:=by omega
     have h1:=hel i hi;rw[X8 (by omega)]at h1
     cases hcs:w.cells? base (a.add (i*P.cellsOf e)) (P.cellsOf e)with
     |none=>rw[hcs]at h1;simp at h1
     |some cs'=>
      rw[hcs]at h1;refine⟨cs',rfl,_,h1,?_⟩
      rcases hb with hb|⟨hb,hb2⟩
      ·exact .inl hb
      refine .inr ⟨hb,?_⟩;have h2:=(hb.sl (elems.map (·.1)) (rest.map (·.1))).2 elems[i].1 (List.mem_map.2 ⟨elems[i],List.getElem_mem _,rfl⟩);rw[hx]at hb2;exact Nat.le_trans h2 hb2
    -- by rows
    have hrows:∃m f,m≤B∧(∀i,i<m→oG P B fuel e ((List.range (P.cellsOf e)).map (f i)))∧∃v,vs=[v]∧aP (fun g=>g<w.heap.size) w (.rows (P.cellsOf e) m f) v:=by
     rcases hfit with rfl|⟨a,len,cap,rfl,hl,hm,hel⟩
     ·exact⟨0,fun _ _=>.any,Nat.zero_le _,fun i hi=>absurd hi (Nat.not_lt_zero _),_,rfl,none,0,rfl,Nat.le_refl _,.inl rfl⟩
     have hex:∀i,i<len→∃cs,oG P B fuel e cs∧cs.length=P.cellsOf e∧∀j,j<P.cellsOf e→∃u,w.cell? ((a.add (i*P.cellsOf e)).add j)=some u∧aP (fun g=>g<w.heap.size) w (cs.getD j .any) u:=by
      intro i hi;obtain⟨cs',hcs',y,hy,hyb⟩:=hel i hi;obtain⟨_,hcl,hcell⟩:=World.cells?_some hcs';obtain⟨cs,hok,hrep⟩:=ih e cs' y he hy hyb;have hlen:cs.length=P.cellsOf e:=by rw[hrep.length,hcl]
      refine⟨cs,hok,hlen,fun j hj=>?_⟩;obtain⟨u,hu,hr⟩:=hrep.get j (by omega);exact⟨u,by rw[hcell j hj,hu],hr⟩
     obtain⟨g,hg⟩:=Classical.axiomOfChoice (r:=fun(i:Nat) (cs:List C)=>i<len→oG P B fuel e cs∧cs.length=P.cellsOf e∧∀j,j<P.cellsOf e→∃u,w.cell? ((a.add (i*P.cellsOf e)).add j)=some u∧aP (fun g=>g<w.heap.size) w (cs.getD j .any) u) (fun i=>by
      by_cases hi:i<len
      ·obtain⟨cs,h⟩:=hex i hi;exact⟨cs,fun _=>h⟩
      exact⟨[],fun h=>absurd h hi⟩)
     refine⟨len,fun i j=>(g i).getD j .any,hm,fun i hi=>?_,_,rfl,some a,cap,rfl,hl,?_⟩
     ·obtain⟨h1,h2,_⟩:=hg i hi;have e:(List.range (P.cellsOf e)).map (fun j=>(g i).getD j .any)=g i:=by
       refine List.ext_getElem (by simp[h2]) fun j hj1 hj2=>?_
       simp[X7,X8 hj2]
      rw[e];exact h1
     by_cases h0:len=0
     ·exact .inl h0
     right
     obtain⟨u,hu,_⟩:=(hg 0 (by omega)).2.2 0 hpos;rw[Nat.zero_mul]at hu;have ha0:(a.add 0).add 0=a:=by simp[Addr.add]
     rw[ha0]at hu;obtain⟨hlt,hsp⟩:=JI hu;refine⟨a.block,a.off,?_,hlt,fun i j hi hj=>?_⟩
     ·obtain⟨b,o,s⟩:=a;simp only at hsp;subst hsp;rfl
     obtain⟨u,hu,hr⟩:=(hg i hi).2.2 j hj;refine⟨u,?_,hr⟩;rw[←hu]
     congr 1
     obtain⟨b,o,s⟩:=a;simp only at hsp;subst hsp;unfold Addr.add
     split<;>split<;>simp_all<;>omega
    simp only
    cases hue:P.underlying e with
    |none=>
     obtain⟨m,f,h1,h2,v,rfl,h3⟩:=hrows;exact⟨[.rows (P.cellsOf e) m f],⟨m,f,rfl,h1,h2⟩,h3,trivial⟩
    |some de=>
     cases de with
     |int k=>
      rw[hue]at hk;have hk:P.cellsOf e=1:=by simpa using hk
      obtain⟨m,f,h1,h2,v,rfl,a,cap,rfl,h4,h5⟩:=hrows;have h2':∀i,i<m→∃x,f i 0= .int k x∧k.min≤x∧x≤k.max:=by
       intro i hi
       have:=h2 i hi
       rw[hk]at this
       cases fuel with
       |zero=>exact this.elim
       |succ fuel=>
        simp only[oG,hue]at this;obtain⟨x,hx,hr⟩:=this;simp only[List.range_succ,List.range_zero,List.nil_append,List.map_cons,List.map_nil,List.cons.injEq,and_true]at hx;exact⟨x,hx,hr⟩
      obtain⟨g,hg⟩:=Classical.axiomOfChoice (r:=fun(i:Nat) (x:Int)=>i<m→f i 0= .int k x∧k.min≤x∧x≤k.max) (fun i=>by
       by_cases hi:i<m
       ·obtain⟨x,h⟩:=h2' i hi;exact⟨x,fun _=>h⟩
       exact⟨0,fun h=>absurd h hi⟩)
      have hlen:((List.range m).map g).length=m:=by simp
      refine⟨[.ints k ((List.range m).map g)],⟨_,rfl,by rw[hlen];exact h1,fun x hx=>?_⟩,⟨a,cap,by rw[hlen],by rw[hlen];exact h4,?_⟩,trivial⟩
      ·obtain⟨i,hi,rfl⟩:=List.mem_map.1 hx;exact(hg i (List.mem_range.1 hi)).2
      rw[hlen]
      rcases h5 with h5|⟨b,o,ha,hb,hcell⟩
      ·exact .inl h5
      refine .inr ⟨b,o,ha,hb,fun i hi=>?_⟩;obtain⟨u,hu,hr⟩:=hcell i 0 hi (by omega);rw[(hg i hi).1]at hr;have hr:u= .int k (g i):=hr;rw[hk,Nat.mul_one,Nat.add_zero]at hu;rw[hu,hr]
      simp[X7,hi]
     |_=>
      obtain⟨m,f,h1,h2,v,rfl,h3⟩:=hrows;exact⟨[.rows (P.cellsOf e) m f],⟨m,f,rfl,h1,h2⟩,h3,trivial⟩
   |struct fs=>
    simp only[Bool.and_eq_true]at hc;obtain⟨hcon,hmem⟩:=hc;obtain⟨xs,n,hn,hx,hcl,hxl,hf⟩:=DataW.trod_struct hu h;obtain rfl:fuel=n:=by omega
    have hall:∀f∈fs.toList,∃y,DataW.trod enc P w base spare held fuel f.type ((vs.drop f.offset).take (P.cellsOf f.type))=some y∧Oq bulk B y.1:=by
     intro f hfm;obtain⟨i,hi,rfl⟩:=List.mem_iff_getElem.1 hfm;have hi':i<fs.size:=by simpa using hi
     have h1:=hf i fs[i] (Array.getElem?_eq_getElem hi');rw[X8 (by omega)]at h1;refine⟨xs[i],by simpa using h1,?_⟩
     rcases hb with hb|⟨hb,hb2⟩
     ·exact .inl hb
     refine .inr ⟨hb,?_⟩;have h2:=hb.agg (xs.map (·.1)) xs[i].1 (List.mem_map.2 ⟨xs[i],List.getElem_mem _,rfl⟩);rw[hx]at hb2;exact Nat.le_trans h2 hb2
    have hmem:∀f∈fs.toList,f.type∈S:=fun f hf=>by simpa using List.all_eq_true.1 hmem f hf
    simp only
    -- field by field
    have key:∀(l:List Field) (off:Nat),(∀f∈l,∃y,DataW.trod enc P w base spare held fuel f.type ((vs.drop f.offset).take (P.cellsOf f.type))=some y∧Oq bulk B y.1)→(∀f∈l,f.type∈S)→oK P off l vs.length=true→
      ∃cs,Oz (oG P B fuel) l cs∧gj (fun g=>g<w.heap.size) w cs (vs.drop off):=by
     intro l
     induction l with
     |nil=>
      intro off _ _ hcf;simp only[oK,beq_iff_eq]at hcf;exact⟨[],rfl,by rw[List.drop_eq_nil_of_le (by omega)];trivial⟩
     |cons f r ihl=>
      intro off hy hm hcf;simp only[oK,Bool.and_eq_true,beq_iff_eq]at hcf;obtain⟨ho,hcf⟩:=hcf;obtain⟨y,hy1,hy2⟩:=hy f (by simp);obtain⟨c1,h1,h2⟩:=ih f.type _ y (hm f (by simp)) hy1 hy2;obtain⟨c2,h3,h4⟩:=ihl (off+P.cellsOf f.type) (fun g hg=>hy g (by simp[hg])) (fun g hg=>hm g (by simp[hg])) hcf;refine⟨c1++c2,⟨c1,c2,rfl,h1,h3⟩,?_⟩;have e:vs.drop off=(vs.drop f.offset).take (P.cellsOf f.type)++vs.drop (off+P.cellsOf f.type):=by
       rw[ho,←List.drop_drop,List.take_append_drop]
      rw[e];exact h2.append h4
    have:=key fs.toList 0 hall hmem (by rw[hcl];exact hcon)
    rwa [List.drop_zero]at this
   |array m e=>
    simp only[Bool.and_eq_true,beq_iff_eq]at hc;obtain⟨he,hsz⟩:=hc;have he:e∈S:=by simpa using he
    obtain⟨xs,n,hn,hx,hcl,hxl,hf⟩:=DataW.trod_array hu h;obtain rfl:fuel=n:=by omega
    simp only;have key:∀j,j≤m→∃l:List (List C),l.length=j∧(∀c∈l,oG P B fuel e c)∧gj (fun g=>g<w.heap.size) w l.flatten (vs.take (j*P.cellsOf e)):=by
     intro j
     induction j with
     |zero=>intro _;exact⟨[],rfl,fun c hc=>(by cases hc),by rw[Nat.zero_mul];trivial⟩
     |succ j ihj=>
      intro hj;obtain⟨l,h1,h2,h3⟩:=ihj (by omega);have h4:=hf j (by omega);rw[X8 (by omega)]at h4;obtain⟨c,h5,h6⟩:=ih e _ xs[j] he h4 (by
       rcases hb with hb|⟨hb,hb2⟩
       ·exact .inl hb
       refine .inr ⟨hb,?_⟩;have h2:=hb.agg (xs.map (·.1)) xs[j].1 (List.mem_map.2 ⟨xs[j],List.getElem_mem _,rfl⟩);rw[hx]at hb2;exact Nat.le_trans h2 hb2)
      refine⟨l++[c],by rw[X6,h1];rfl,fun x hx=>?_,?_⟩
      ·rcases List.mem_append.1 hx with hx|hx
       ·exact h2 x hx
       obtain rfl:=List.mem_singleton.1 hx;exact h5
      rw[List.flatten_append,Nat.add_mul,Nat.one_mul,List.take_add];refine h3.append ?_
      simpa using h6
    obtain⟨l,h1,h2,h3⟩:=key m (Nat.le_refl _);rw[←hsz,←hcl,List.take_length]at h3;exact⟨l.flatten,⟨l,rfl,h1,h2⟩,h3⟩
   |_=>simp at hc
theorem QR {S:List TypeId}(hS:wW P S=true){t:TypeId}(ht:t∈S){v:Value}{d:DataW H}{p:List MemPlace}(hv:v.oneCell'=true)(h:DataW.Trod enc P w base spare held t v d p)(hb:Oq bulk B d):
  ∃n c,oG P B n t [c]∧aP (fun g=>g<w.heap.size) w c v:=by
 obtain⟨fuel,hf⟩:=h;have hvc:v.cells.toList=[v]:=by
  cases v<;>first|rfl|(simp[Value.oneCell']at hv)
 rw[hvc]at hf;obtain⟨cs,h1,h2⟩:=DA hS fuel t _ _ ht hf hb
 match cs,h2 with
 |[c],h2=>exact⟨fuel,c,h1,h2.1⟩
theorem A2 {S:List TypeId}(hS:wW P S=true){t:TypeId}(ht:t∈S){us:Array Value}{d:DataW H}{p:List MemPlace}(h:DataW.Trod enc P w base spare held t (.agg us) d p)(hb:Oq bulk B d):
  ∃n cs,oG P B n t cs∧dF bm bp (fun g=>g<w.heap.size) w (.agg cs) (.agg us):=by
 obtain⟨fuel,hf⟩:=h;obtain⟨cs,h1,h2⟩:=DA hS fuel t _ _ ht hf hb;exact⟨fuel,cs,h1,us,rfl,h2.Pc⟩
theorem QW {S:List TypeId}(hS:wW P S=true){t:TypeId}(ht:t∈S){v:Value}{d:DataW H}{p:List MemPlace}(hv:v.oneCell'=true)(h:DataW.Trod enc P w base spare held t v d p):
  ∃n c,oG P maxLen n t [c]∧aP (fun g=>g<w.heap.size) w c v:=QR (bulk:=fun _=>0) hS ht hv h (.inl (Nat.le_refl _))
end
end Go.Eng
/-
  THE ENGINE, PART LW: a law: a function that answers true, and leaves its arguments as they were.
-/
namespace Go.Eng
open Go Go.ChangeShapes Go.WideShapes Go.RowKit
section
variable {H:Type}{enc:TypeId×Value→H}{P:Program}
theorem DL (hl:laidOutB P=true){t:TypeId}(hr:P.readableRec t=true)(hrow:t<P.types.size){W W':World}{v:Value}{d:DataW H}{ps:List MemPlace}(h:DataW.Trod enc P W 0 (fun _=>true) true t v d ps)
  (hb:Below W.heap.size W W') (hlt:∀x∈ps,x.block<W.heap.size):DataW.Trod enc P W' 0 (fun b=>decide (b<W.heap.size)) true t v d ps:=
 Below.trod hl hr hrow h hb hlt
theorem FP {f:Func}{s:ChangeSpec}{W W':World}{args:Array Value}{ds:List (DataW H)}{before:List MemPlace}{tb:TypeId}
  (hW:DataW.Whole enc P f.params.toList s.vars false W args.toList ds [] before) (hv:s.vars=[]) (hrt:f.resultTypes= #[tb]) (htb:P.underlying tb=some .bool)
  (hres:(s.fn H (ds++[])).results=[.lit (.bool true)]) (hargs:DataW.TrodAll enc P W' 0 (fun b=>decide (b<W.heap.size)) true f.params.toList args.toList (s.fn H (ds++[])).args before)
  (hvs:(s.fn H (ds++[])).vars=[]) (hb:Below W.heap.size W W'):s.post enc P f false true false false W args (.bool true) W':=by
 refine⟨ds,[],before,[],before,[],hW,?_,hargs,?_,World.keptBut_mono (fun p hp=>⟨hp,.inr (.inl hp)⟩) (hb.frame (· ∈before)),fun h=>by cases h⟩
 ·rw[hres,hrt];exact trodAll_mk1 (shut_bool htb true)
 rw[hv,hvs];rfl
theorem QP {w:World}{r:Reach}{base:Nat}{t e:TypeId}{v:Value}(ht:P.underlying t=some (.slice e))(h:Value.okWide P w r base t v):v.oneCell'=true:=by
 obtain⟨a,len,cap,rfl⟩:=okWide_slice ht h;rfl
end
end Go.Eng
namespace Go.Proofs.YtncdiehbmlejdaaGreat
open Go.Proofs.Tryz
open Go Go.Eng
set_option maxRecDepth 100000 in
theorem I9:wW prog [26,23,75,24,5,73]=true:=by kernel_rfl
def N5:List C→List C→Prop
 |[],[]=>True
 |a::x,b::y=>dK a b∧N5 x y
 |_,_=>False
theorem N5.rep {ok:Nat→Prop}{w:World}:∀{a b:List C} {vs:List Value},N5 a b→bZ bm bp ok w a vs→bZ bm bp ok w b vs
 |[],[],_,_,h=>h
 |_::_,_::_,[],_,h=>h.elim
 |_::_,_::_,_::_,ha,h=>⟨aI.bh (ha.1 _ _ _ (aP.dV h.1)),N5.rep ha.2 h.2⟩
 |[],_::_,_,ha,_=>ha.elim
 |_::_,[],_,ha,_=>ha.elim
theorem Eg {a b:List C}(h:N5 a b):sU (.agg a) (.agg b):=fun ok w v hr=>by
 obtain⟨vs,e,hl⟩:=hr;exact⟨vs,e,h.rep hl⟩
theorem sQ {n:Nat}{cs:List C}(h:oG prog maxLen n 5 cs):∃x:Nat,cs=[.int .u8 x]∧x<256:=by
 cases n with
 |zero=>exact h.elim
 |succ n=>
  simp only[oG,Tryz.underlying5]at h;obtain⟨x,rfl,h1,h2⟩:=h;have e1:IntKind.u8.min=0:=rfl;have e2:IntKind.u8.max=255:=rfl;rw[e1]at h1;rw[e2]at h2;exact⟨x.toNat,by rw[Int.toNat_of_nonneg h1],by omega⟩
theorem Nk {n:Nat}{cs:List C}(h:oG prog maxLen n 75 cs):∃o:Bh,cs=(List.range 5).map (oC o)∧o.Ok:=by
 cases n with
 |zero=>exact h.elim
 |succ n=>
  simp only[oG,Tryz.underlying75]at h;obtain⟨c1,c2,rfl,h1,c3,c4,rfl,h2,c5,c6,rfl,h3,c7,c8,rfl,h4,c9,c10,rfl,h5,h6⟩:=h;have h6:c10=[]:=h6;subst h6;obtain⟨k,rfl,k1⟩:=sQ h1;obtain⟨a,rfl,k2⟩:=sQ h2;obtain⟨b,rfl,k3⟩:=sQ h3;obtain⟨d,rfl,k5⟩:=sQ h5
  cases n with
  |zero=>exact h4.elim
  |succ n=>
   simp only[oG,Tryz.underlying73]at h4;obtain⟨x,rfl,k4⟩:=h4;have e1:IntKind.i8.min= -128:=rfl;have e2:IntKind.i8.max=127:=rfl;rw[e1,e2]at k4;exact⟨⟨k,a,b,x,d⟩,rfl,k1,k2,k3,k4,k5⟩
set_option maxRecDepth 100000 in
theorem A8 {n:Nat}{cs:List C}(h:oG prog maxLen n 23 cs):∃(c:C) (r:List Bh),cs=[c]∧(∀o∈r,o.Ok)∧r.length<2^63∧dK c (G5 r):=by
 cases n with
 |zero=>exact h.elim
 |succ n=>
  simp only[oG,Tryz.underlying23,Tryz.underlying75]at h;obtain⟨m,f,hc,hm0,hm⟩:=h;have h5:prog.cellsOf 75=5:=by kernel_rfl
  rw[h5]at hc hm;subst hc;obtain⟨g,hg⟩:=Classical.axiomOfChoice (r:=fun(i:Nat) (a:Bh)=>i<m→(List.range 5).map (f i)=(List.range 5).map (oC a)∧a.Ok) (fun i=>by
   by_cases hi:i<m
   ·obtain⟨a,h1,h2⟩:=Nk (hm i hi);exact⟨a,fun _=>⟨h1,h2⟩⟩
   exact⟨default,fun h=>absurd h hi⟩)
  refine⟨_,(List.range m).map g,rfl,fun a ha=>?_,?_,dK.rows (by simp) fun i j hi hj=>dK.of_eq ?_⟩
  ·obtain⟨i,hi,rfl⟩:=List.mem_map.1 ha;exact(hg i (List.mem_range.1 hi)).2
  ·have:maxLen<2^63:=by decide
   simp only[List.length_map,List.length_range];omega
  have h1:=congrArg (fun l:List C=>l[j]?) (hg i hi).1;simp only[List.getElem?_map,List.getElem?_range hj,Option.map_some,Option.some.injEq]at h1;rw[h1]
  congr 1
  rw[X7,List.getElem?_map,List.getElem?_range hi];rfl
def P5 (l:List Int):Prop:=l.length<2^63∧∀i,i<l.length→0≤l.getD i 0∧l.getD i 0<256
theorem Ji {n:Nat}{cs:List C}(h:oG prog maxLen n 24 cs):∃l:List Int,cs=[.ints .u8 l]∧P5 l:=by
 cases n with
 |zero=>exact h.elim
 |succ n=>
  simp only[oG,Tryz.underlying24,Tryz.underlying5]at h;obtain⟨l,rfl,h1,h2⟩:=h;have e1:IntKind.u8.min=0:=rfl;have e2:IntKind.u8.max=255:=rfl;rw[e1,e2]at h2
  have:maxLen<2^63:=by decide
  refine⟨l,rfl,by omega,fun i hi=>?_⟩
  have:=h2 (l.getD i 0) (by rw[X7,X8 hi];exact List.getElem_mem _)
  omega
set_option maxRecDepth 100000 in
theorem H2 {n:Nat}{cells:List C}(h:oG prog maxLen n 26 cells):∃(r:List Bh) (cs:List Int) (s:Nat),(∀o∈r,o.Ok)∧r.length<2^63∧P5 cs∧s<256∧N5 cells [G5 r,.ints .u8 cs,.int .u8 s]:=by
 cases n with
 |zero=>exact h.elim
 |succ n=>
  simp only[oG,Tryz.underlying26]at h;obtain⟨c1,r1,rfl,h1,c2,r2,rfl,h2,c3,r3,rfl,h3,h4⟩:=h;have h4:r3=[]:=h4;subst h4;obtain⟨c,r,rfl,hr,hl,hle⟩:=A8 h1;obtain⟨cs,rfl,hc⟩:=Ji h2;obtain⟨s,rfl,hs⟩:=sQ h3;exact⟨r,cs,s,hr,hl,hc,hs,hle,.refl _,.refl _,trivial⟩
theorem JO (s:Nat):1≤gn s∧gn s≤12:=by
 have:=Nat.mod_lt s (show 0<12 by decide)
 unfold gn;omega
theorem Hp {l most:Nat}(s:Nat)(h:l≤most):(l/gn s=0→Ea (l/gn s) (gn s)=0)∧l/gn s*Ea (l/gn s) (gn s)≤most∧l/gn s≤most∧Ea (l/gn s) (gn s)≤12:=by
 have hw:=JO s;have h1:=Nat.div_mul_le_self l (gn s);have h2:=Nat.div_le_self l (gn s);unfold Ea;refine⟨fun e=>if_pos e,?_,by omega,?_⟩
 ·split
  ·omega
  omega
 split<;>omega
theorem DS {n:Nat}{cells:List C}(h:oG prog maxLen n 26 cells):Pr prog 4 [.agg cells] (.one (.bool true)):=by
 obtain⟨r,cs,s,hr,hrl,⟨hl,hcs⟩,hs,hle⟩:=H2 h;refine Pr.args (ys:=[.agg [G5 r,.ints .u8 cs,.int .u8 s]]) ?_ ⟨Eg hle,trivial⟩;obtain⟨A,n,a,S,hA,hn,cb,ca,hf⟩:=Oj r hr hrl;have M:=fun{R:V} h1 h2=>EK a (G5 r) cs s 24 (by omega) hs hcs hl (by decide) cb ca ⟨_,_,rfl⟩ (R:=R) h1 h2
 by_cases h1:24<cs.length
 ·exact Jj (M (fun _=>rfl) (fun h=>absurd h1 (by omega)))
 by_cases h2:(Ex a n:Int)≤2
 ·obtain⟨f,hf⟩:=hf h2;obtain⟨d1,d2,d3,d4⟩:=Hp (l:=cs.length) (most:=24) s (by omega);have cm:=M (fun h=>absurd h h1) (fun _=>rfl);rw[decide_eq_true h2,show xN n a cs (gn s)=fun i j=>(f (cs.getD (i*gn s+j) 0).toNat).x from funext fun i=>funext fun j=>((hf _).1).symm]at cm;exact Iq S hA (fun i j=>f (cs.getD (i*gn s+j) 0).toNat) d1 d2 d3 d4 (fun i j _ _=>Nat.le_of_eq (hf _).2) cm
 have cm:=M (fun h=>absurd h h1) (fun _=>rfl);rw[decide_eq_false h2]at cm;exact G8 cm
theorem QT {n n':Nat}{cells:List C}{c:C}(h:oG prog maxLen n 26 cells)(h':oG prog maxLen n' 24 [c]):Pr prog 3 [.agg cells,.one c] (.one (.bool true)):=by
 obtain⟨r,cs,s,hr,hrl,⟨hl,hcs⟩,hs,hle⟩:=H2 h;obtain⟨bs,e,hbl,hbs⟩:=Ji h';obtain rfl:c= .ints .u8 bs:=by simpa using e
 refine Pr.args (ys:=[.agg [G5 r,.ints .u8 cs,.int .u8 s],.one (.ints .u8 bs)]) ?_ ⟨Eg hle,.refl _,trivial⟩;obtain⟨A,n,a,S,hA,hn,cb,ca,hf⟩:=Oj r hr hrl;have M:=fun{R:V} h1 h2=>EK a (G5 r) cs s 20 (by omega) hs hcs hl (by decide) cb ca ⟨_,_,rfl⟩ (R:=R) h1 h2
 by_cases h1:20<cs.length
 ·exact QU (M (fun _=>rfl) (fun h=>absurd h1 (by omega)))
 by_cases h2:(Ex a n:Int)≤2
 ·obtain⟨f,hf⟩:=hf h2;obtain⟨d1,d2,d3,d4⟩:=Hp (l:=cs.length) (most:=20) s (by omega);have cm:=M (fun h=>absurd h h1) (fun _=>rfl);rw[decide_eq_true h2,show xN n a cs (gn s)=fun i j=>(f (cs.getD (i*gn s+j) 0).toNat).x from funext fun i=>funext fun j=>((hf _).1).symm]at cm;exact QN S hA f hf (fun i j=>f (cs.getD (i*gn s+j) 0).toNat) d1 d2 d3 d4 (fun i j _ _=>Nat.le_of_eq (hf _).2) (by omega) hbs hbl cb cm
 have cm:=M (fun h=>absurd h h1) (fun _=>rfl);rw[decide_eq_false h2]at cm;exact QQ cm
end Go.Proofs.YtncdiehbmlejdaaGreat
/-
  MatrixKernel, MatrixSolve: for every input the law returns true, and each argument reads afterwards as it read before. No condition beyond the given row's own cells.
-/
namespace Go.Proofs.YtncdiehbmlejdaaGreat
open Go.Proofs.Tryz
open Go Go.Proofs Go.Eng Go.ChangeShapes Go.WideShapes Go.ChangeAt Go.RowKit
theorem Tryz.own:ownKnob prog.godebug=none:=by kernel_rfl
theorem Tryz.laidOut:laidOutB prog=true:=by kernel_rfl
set_option maxRecDepth 100000 in
theorem nC (os:Os)(started:os.Started)(H:Type)(enc:TypeId×Value→H):
  ReturnsInHanded {} Tryz.checked os 4 .any (Rows.matrixKernelSpec.pre6 enc prog Tryz.f4 Rows.matrixKernelRow.domain false) (Rows.matrixKernelSpec.post enc prog Tryz.f4 false true false false):=by
 refine returnsInHanded_of_change (C:=Tryz.checked) Tryz.own started (by kernel_rfl) func4
  (ChangeSpec.witness6 (enc:=enc) (C:=Tryz.checked) false ⟨#[],#[.agg #[.slice none 0 0,.slice none 0 0,.int .u8 0]],[]⟩ 8 (by kernel_rfl) (by kernel_rfl) (by kernel_rfl) (by kernel_rfl)) ?_
 intro W base args ds gs before hval0 hW hcnd _;have hval:∀(j:Nat) t v,Tryz.f4.params[j]? =some t→args[j]? =some v→Value.okWide prog W .any base t v:=hval0;have hW':=hW;obtain⟨p,q,hA0,hV,rfl,hfz,hnd⟩:=hW;have hA:DataW.TrodAll enc prog W 0 (fun _=>true) true Tryz.f4.params.toList args.toList ds p:=hA0;rw[Tryz.params4]at hA hval;obtain⟨v0,d0,rfl,rfl,h0⟩:=trodAll_one hA;obtain⟨rfl,rfl⟩:=trodVars_none hV;clear hA0 hval0;simp only[List.append_nil]at hW';have hlt:=fun x hx=>hW'.lt x hx;obtain⟨us,rfl,hsz⟩:=okWide_struct Tryz.underlying26 (hval 0 26 v0 rfl rfl);have s0:=fun W' hb=>DL (W':=W') Tryz.laidOut (by kernel_rfl) (of_decide_eq_true (by kernel_rfl)) h0 hb (fun x hx=>hlt x (hx));obtain⟨n0,cs0,hc0,hr0⟩:=A2 (bulk:=fun _=>0) (B:=maxLen) I9 (by decide) h0 (.inl (Nat.le_refl _));have hcon:=DS hc0;have hargs:a6 bm bp (fun g=>g<W.heap.size) W [.agg cs0] [.agg us]:=⟨hr0,trivial⟩
 refine((hcon.2 (fun g=>g<W.heap.size) W #[.agg us] (fun _ h=>h) hargs).mono ?_)
 rintro e W' ⟨v,rfl,hB,hv⟩;have hv:v= .bool true:=hv;subst hv;exact⟨_,rfl,FP hW' rfl rfl Tryz.underlying4 rfl (trodAll_mk1 (s0 W' hB)) rfl hB⟩
theorem matrixKernel_holds:Rows.MatrixKernelSaid:=
 OpenClaim.holds_of_wide 4 Tryz.f4 rfl rfl rfl rfl rfl rfl rfl ⟨rfl,rfl,rfl,rfl,rfl⟩ rfl rfl rfl rfl rfl (by kernel_rfl) func4 (by kernel_rfl)
  (of_decide_eq_true (by kernel_rfl)) (by unfold Func.isWrapper;first|(rw[if_pos (by decide+kernel)];kernel_rfl)|(rw[if_neg (by decide+kernel)];exact⟨rfl,rfl⟩))
  (fun os started H enc _=>nC os started H enc)
set_option maxRecDepth 100000 in
theorem QL (os:Os)(started:os.Started)(H:Type)(enc:TypeId×Value→H):
  ReturnsInHanded {} Tryz.checked os 3 .any (Rows.matrixSolveSpec.pre6 enc prog Tryz.f3 Rows.matrixSolveRow.domain false) (Rows.matrixSolveSpec.post enc prog Tryz.f3 false true false false):=by
 refine returnsInHanded_of_change (C:=Tryz.checked) Tryz.own started (by kernel_rfl) func3
  (ChangeSpec.witness6 (enc:=enc) (C:=Tryz.checked) false ⟨#[],#[.agg #[.slice none 0 0,.slice none 0 0,.int .u8 0],.slice none 0 0],[]⟩ 8 (by kernel_rfl) (by kernel_rfl) (by kernel_rfl) (by kernel_rfl)) ?_
 intro W base args ds gs before hval0 hW hcnd _;have hval:∀(j:Nat) t v,Tryz.f3.params[j]? =some t→args[j]? =some v→Value.okWide prog W .any base t v:=hval0;have hW':=hW;obtain⟨p,q,hA0,hV,rfl,hfz,hnd⟩:=hW;have hA:DataW.TrodAll enc prog W 0 (fun _=>true) true Tryz.f3.params.toList args.toList ds p:=hA0;rw[Tryz.params3]at hA hval;obtain⟨v0,v1,d0,d1,p0,p1,rfl,rfl,rfl,h0,h1⟩:=trodAll_two hA;obtain⟨rfl,rfl⟩:=trodVars_none hV;clear hA0 hval0;simp only[List.append_nil]at hW';have hlt:=fun x hx=>hW'.lt x hx;obtain⟨us,rfl,hsz⟩:=okWide_struct Tryz.underlying26 (hval 0 26 v0 rfl rfl);have o1:v1.oneCell'=true:=QP Tryz.underlying24 (hval 1 24 v1 rfl rfl);have s0:=fun W' hb=>DL (W':=W') Tryz.laidOut (by kernel_rfl) (of_decide_eq_true (by kernel_rfl)) h0 hb (fun x hx=>hlt x (List.mem_append_left _ hx));have s1:=fun W' hb=>DL (W':=W') Tryz.laidOut (by kernel_rfl) (of_decide_eq_true (by kernel_rfl)) h1 hb (fun x hx=>hlt x (List.mem_append_right _ hx));obtain⟨n0,cs0,hc0,hr0⟩:=A2 (bulk:=fun _=>0) (B:=maxLen) I9 (by decide) h0 (.inl (Nat.le_refl _));obtain⟨n1,c1,hc1,hr1⟩:=QW I9 (by decide) o1 h1;have hcon:=QT hc0 hc1;have hargs:a6 bm bp (fun g=>g<W.heap.size) W [.agg cs0,.one c1] [.agg us,v1]:=⟨hr0,aI.bh (ρ:=bm) (dom:=bp) hr1,trivial⟩
 refine((hcon.2 (fun g=>g<W.heap.size) W #[.agg us,v1] (fun _ h=>h) hargs).mono ?_)
 rintro e W' ⟨v,rfl,hB,hv⟩;have hv:v= .bool true:=hv;subst hv;exact⟨_,rfl,FP hW' rfl rfl Tryz.underlying4 rfl (trodAll_mk2 (s0 W' hB) (s1 W' hB)) rfl hB⟩
theorem matrixSolve_holds:Rows.MatrixSolveSaid:=
 OpenClaim.holds_of_wide 3 Tryz.f3 rfl rfl rfl rfl rfl rfl rfl ⟨rfl,rfl,rfl,rfl,rfl⟩ rfl rfl rfl rfl rfl (by kernel_rfl) func3 (by kernel_rfl)
  (of_decide_eq_true (by kernel_rfl)) (by unfold Func.isWrapper;first|(rw[if_pos (by decide+kernel)];kernel_rfl)|(rw[if_neg (by decide+kernel)];exact⟨rfl,rfl⟩))
  (fun os started H enc _=>QL os started H enc)
end Go.Proofs.YtncdiehbmlejdaaGreat
