/-
  MatrixMul: for every input the law returns true, and each argument reads afterwards as it read before. No condition.
  (Text 6 of 9; made by a program out of smaller texts.)
-/
import Derived.WalkKit
import Derived.Lib.AppendZerosOnto
import Derived.Lib.Walk
import Derived.Test.YtehahgjkjfoebaaGreatP5
set_option linter.unusedSimpArgs false
set_option linter.unusedVariables false
set_option maxHeartbeats 16000000
set_option maxRecDepth 10000
open Nat renaming reduceAdd→J1,reduceMul→J2,reduceSub→J3,reduceEqDiff→J4,reduceLT→J5,reduceLeDiff→J6,reduceBEq→J7,reduceDiv→J8,reduceMod→J9,reducePow→J0
open Int renaming reduceToNat→K1,reduceLE→K2,reduceLT→K3,reduceEq→K4,reducePow→K5,reduceSub→K6,reduceNeg→K7,natCast_add→X2,natCast_one→X3,natCast_zero→X4
open List renaming getD_cons_zero→X0,getD_cons_succ→X1,length_take→X5,length_append→X6,getD_eq_getElem?_getD→X7,getElem?_eq_getElem→X8
open Nat renaming le_trans→O0,le_refl→O1,zero_le→O2,pow_le_pow_right→O3,pow_succ→O4,not_lt_zero→O5,mul_comm→O6,mod_eq_of_lt→O7,mul_le_mul_right→O8,mul_le_mul_left→O9
open Int renaming toNat_natCast→Q1,natCast_mul→Q2
open Go.IntWalk renaming i64_in→Q4
namespace Go.Tw
open Go Go.R Go.Eng
def Lr (a:R):Prop:=Ra 64 a∨((∀x:Rat,a≠q x)∧∃e f b:R,Ra 64 e∧Ra 64 f∧Ra 64 b∧R.pos b∧a=e+f*R.sqrt b)
def Wc (h c:Nat):Nat:=if h=0 then 64 else 193+c
def Cn:Nat→Nat
 |0=>0
 |h+1=>2*Cn h+(2^(h+1)+1)*Wc h (Cn h)+2
def Wn (h:Nat):Nat:=Wc h (Cn h)
def lW:Nat:=2^25
def lC:Nat:=2^26
theorem uR:∀h,h≤5→Cn h≤lW∧Wn h≤lW∧Wn h+Cn h≤lC:=by decide+kernel
section
variable {h:Nat}{z:List El}{w:Nat→Nat}{C:Nat}
theorem vh.congr {z':List El}{w':Nat→Nat}(ez:∀i,i<h→z'.getD i []=z.getD i [])(ew:∀i,i<h→w' i=w i)(S:vh h z w C):vh h z' w' C:=by
 obtain⟨δ,d0,dl,S⟩:=S.ex;have e1:∀a,val h z' a=val h z a:=fun a=>val_congr ez a;have e2:∀a,cH h w' a=cH h w a:=fun a=>n7 ew a;refine⟨δ,d0,dl,fun y M H hy hM iM e nM=>?_⟩;obtain⟨a,ha,rfl⟩:=hy;rw[e1,e1]at e;rw[e2]at nM;obtain⟨Y,hY,iY,vY,nY⟩:=S (val h z a) M H (.of ha) hM iM e nM;exact⟨Y,hY,iY,by rw[e1,e1];exact vY,by rw[e2];exact nY⟩
theorem vh.mono {K:Nat}(S:vh h z w C)(hk:C≤K):vh h z w K:=by
 obtain⟨δ,d0,dl,S⟩:=S.ex;refine⟨δ,d0,O0 dl (O3 (by decide) hk),fun y M H hy hM iM e nM=>?_⟩;obtain⟨Y,hY,iY,vY,nY⟩:=S y M H hy hM iM e nM;exact⟨Y,hY,iY,vY,Rat.le_trans nY (gT (by omega))⟩
theorem Ih.root (S:vh h z w C)(Z:Zt h z w){y x:R}{H:Nat}(hy:In h z y)(e:y*y=x)(hx:Ih h z w x H):Ih h z w y (H+C):=by
 obtain⟨δ,d0,dl,S⟩:=S.ex;obtain⟨M,N,hM,iM,hN,ex,nM,lN⟩:=hx;obtain⟨P,hP,iP,vP,nP⟩:=smul Z hM iM nM lN;obtain⟨Y,hY,iY,vY,nY⟩:=S (y*q (N:Rat)) P H (In.mul Z.rd.rl hy (In.rat _)) hP iP (by rw[vP,←ex,←e];ac_rfl) (by rw[show 2*H=H+H by omega];exact nP);refine⟨Y,N*δ,hY,iY,Nat.mul_pos hN d0,by rw[kR,←mul_assoc];exact vY,nY,?_⟩;rw[Nat.pow_add];exact Nat.mul_le_mul lN dl
theorem vh.ht (S:vh h z w C)(Z:Zt h z w){y x:R}{H:Nat}(hy:In h z y)(e:y*y=x)(hx:Ht h z w x H):Ht h z w y (H+C):=by
 obtain⟨δ,d0,dl,S⟩:=S.ex;obtain⟨P,Q,hP,hQ,iP,iQ,h0,he,nP,nQ⟩:=hx;obtain⟨Y,hY,iY,vY,nY⟩:=S (y*val h z Q) (aj h z P Q) H (In.mul Z.rd.rl hy (.of hQ)) aa (bf.mul Z.int iP iQ) (by rw[val_mul Z.rd.rl hP hQ,←he,←e];ac_rfl)
  (by rw[show 2*H=H+H by omega];exact Rat.le_trans (dP Z.wt Z.rd.rl hP hQ) (dS bV nP nQ))
 obtain⟨K,hK,iK,vK,nK⟩:=smul Z hQ iQ nQ dl;refine⟨Y,K,hY,hK,iY,iK,?_,?_,nY,by rw[Nat.add_comm];exact nK⟩
 ·rw[vK];exact pe (Aj d0) h0
 rw[vK,←vY];ac_rfl
theorem Lr.ih (Z:Zt h z w)(S:vh h z w (Cn h)){a:R}(L:Lr a)(hi:In h z a):Ih h z w a (Wn h):=by
 rcases L with k|⟨hn,e,f,b,he,hf,hb,hp,rfl⟩
 ·refine(Ra.ih k).mono ?_
  unfold Wn Wc;split<;>omega
 have h0:h≠0:=fun e0=>by
  subst e0;obtain⟨x,ex⟩:=tJ hi;exact hn x ex
 obtain⟨y,ef,_,_⟩:=id hf;obtain⟨x,ee,_,_⟩:=id he;have hy:y≠0:=fun k=>hn x (by rw[ee,ef,k,zero_mul,add_zero]);have hs:In h z (R.sqrt b):=by
  have e1:R.sqrt b=(e+f*R.sqrt b+ -e)*q (y⁻¹):=by
   rw[add_comm e,add_assoc,add_neg,add_zero,ef,mul_comm,←mul_assoc,←dg,Rat.inv_mul_cancel _ hy,one_mul]
  rw[e1];exact In.mul Z.rd.rl (hi.add (In.neg (by rw[ee];exact In.rat _))) (In.rat _)
 have h1:=Ih.root S Z hs (R.cV (bu.2 (.inr hp))) (Ra.ih hb);have h2:=(Ra.ih he).add Z ((Ra.ih hf).mul Z h1);exact h2.mono (by unfold Wn Wc;rw[if_neg h0];omega)
theorem Ih.down {x:R}:∀{k H:Nat},Zt (h+k) z w→In h z x→Ih (h+k) z w x H→Ih h z w x H
 |0,_,_,_,hx=>hx
 |k+1,_,Z,hi,hx=>Ih.down (k:=k) (Z.le (Nat.le_succ _)) hi (Ih.split (h:=h+k) Z (v:=q 0) (hi.le (Nat.le_add_right _ _)) (In.rat 0) (by rw[zero_mul,add_zero];exact hx)).1
end
theorem H5 {t:List El}:∀{h:Nat} (_:Rd h t) (_:∀i,i<h→Lr (val i t (t.getD i []))),∃(z:List El) (w d:Nat→Nat),Zt h z w∧Lk h t z d∧vh h z w (Cn h)∧
  ∀i,i<h→w i≤2^Wn i∧d i≤2^Wn i∧vh i z w (Cn i)∧Ih i z w (val i t (t.getD i [])) (Wn i)
 |0,_,_=>⟨[],fun _=>1,fun _=>1,R1,⟨fun i hi=>absurd hi (O5 _),fun i hi=>absurd hi (O5 _)⟩,vh.zero,fun i hi=>absurd hi (O5 _)⟩
 |h+1,D,F=>by
  obtain⟨z,w,d,Z,K,S,hb⟩:=H5 (D.le (Nat.le_succ h)) (fun i hi=>F i (by omega));have hx:=Lr.ih Z S (F h (by omega)) ((K.eK (D.le (Nat.le_succ h)).rl _).1 (.of (D.rl h (by omega)).1));obtain⟨M,N,hM,iM,hN,e,nM,lN⟩:=id hx;obtain⟨z',w',d',TJ,hZ,hL,hw,hd⟩:=M8 Z K D hM iM hN e nM lN;have key:∀i,i≤h→∀{C:Nat},vh i z w C→vh i z' w' C:=fun i hi _ s=>s.congr (fun j hj=>(TJ j (by omega)).1) fun j hj=>(TJ j (by omega)).2.1;have key':∀i,i≤h→∀{x:R} {H:Nat},Ih i z w x H→Ih i z' w' x H:=fun i hi x H ⟨M,N,hM,iM,hN,e,nM,lN⟩=>
   ⟨M,N,hM,iM,hN,by rw[e];exact(val_congr (fun j hj=>(TJ j (by omega)).1) M).symm,by rw[n7 (fun j hj=>(TJ j (by omega)).2.1) M];exact nM,lN⟩
  refine⟨z',w',d',hZ,hL,vh.succ hZ hw (key h (O1 h) S),fun i hi=>?_⟩
  by_cases k:i=h
  ·subst k;exact⟨hw,hd,key i (O1 i) S,key' i (O1 i) hx⟩
  obtain⟨_,k2,k3⟩:=TJ i (by omega);obtain⟨b1,b2,b3,b4⟩:=hb i (by omega);rw[k2,k3];exact⟨b1,b2,key i (by omega) b3,key' i (by omega) b4⟩
structure Lv (h:Nat) (t z:List El) (w d:Nat→Nat):Prop where
 rd:Rd h t
 zt:Zt h z w
 lk:Lk h t z d
 wb:∀i,i<h→w i≤2^lW
 db:∀i,i<h→d i≤2^lW
 rb:∀i,i<h→Ih i z w (val i t (t.getD i [])) lW
 sq:∀i,i<h→vh i z w lW
section
variable {t z:List El}{w d:Nat→Nat}
theorem Lv.le {h k:Nat}(L:Lv h t z w d)(hk:k≤h):Lv k t z w d:=⟨L.rd.le hk,L.zt.le hk,L.lk.le hk,fun i hi=>L.wb i (by omega),fun i hi=>L.db i (by omega),fun i hi=>L.rb i (by omega),fun i hi=>L.sq i (by omega)⟩
theorem Lv.ev {h:Nat}(L:Lv h t z w d):Ev lW h t z w d:=⟨L.rd,L.zt,L.lk,L.wb,L.db,fun i hi=>(L.rb i hi).ht⟩
theorem Lv.congr {h:Nat}{t':List El}(e:∀i,i<h→t'.getD i []=t.getD i [])(L:Lv h t' z w d):Lv h t z w d:=by
 have ev:∀i,i≤h→∀a,val i t' a=val i t a:=fun i hi a=>val_congr (fun j hj=>e j (by omega)) a;exact⟨L.rd.congr e,L.zt,⟨L.lk.d0,fun i hi=>by rw[←e i hi,←ev i (by omega)];exact L.lk.v i hi⟩,L.wb,L.db,fun i hi=>by rw[←e i hi,←ev i (by omega)];exact L.rb i hi,L.sq⟩
def lN (h H:Nat):Nat:=4^h*(H+2*lW)/8+1
theorem Lv.MU {h:Nat}(L:Lv h t z w d):Q0 lW h z w (fun _ H=>H+lW) lN:=by
 have l2:2≤lW:=by decide
 have hp:∀h,2^h≤4^h:=fun h=>Nat.pow_le_pow_left (by decide) h;refine⟨fun{i} {y x H} hi hy e hx=>(L.sq i hi).ht (L.zt.le (Nat.le_of_lt hi)) hy e hx,fun{h H}=>?_,fun{h H K} hK=>?_,fun{h H K} hK=>?_⟩
 ·have h1:=Nat.mul_le_mul (hp h) (show 2*H+6*lW≤4*(H+2*lW) by omega);rw[Nat.mul_left_comm]at h1;unfold sX lN;omega
 ·have h1:=O9 (4^h) (show K+2*lW≤4*(H+2*lW) by omega);unfold lN;rw[O4,Nat.mul_assoc (4^h)];omega
 have h1:=Nat.mul_le_mul (hp h) (show 2*K+6*lW≤16*(H+2*lW) by omega);rw[Nat.mul_left_comm]at h1;unfold sX lN;rw[O4,Nat.mul_assoc (4^h),Nat.mul_left_comm];omega
theorem Lv.basis {h:Nat}(L:Lv h t z w d){j:Nat}(hj:j<h):Ih h z w (R.sqrt (val j t (t.getD j []))) lW:=by
 refine Ih.le (h:=j+1) ⟨zE (2^j)++aU j 1,d j,?_,bf.zero.app (bf.rat ⟨1,rfl⟩),L.lk.d0 j hj,?_,?_,L.db j hj⟩ (by omega)
 ·rw[X6,av,aA,O4];omega
 ·rw[ft av,val_zero,bx,zero_add,one_mul,(L.lk.le (show j+1≤h by omega)).root (L.rd.rl.le (by omega)),mul_comm]
 rw[jb av,kM,gU]
 have:(w j:Rat)≤p2 lW:=Rat.natCast_le_natCast.2 (L.wb j hj)
 have e:ab 1=1:=by decide+kernel
 rw[e];grind
theorem Lv.parts {h:Nat}(L:Lv (h+1) t z w d){a:El}{H:Nat}(ha:a.length=2^(h+1))(hx:Ih (h+1) z w (val (h+1) t a) H):
  Ih h z w (val h t (a.take (2^h))) H∧Ih h z w (val h t (a.drop (2^h))) (H+lW):=by
 have L':=L.le (Nat.le_succ h);have hr:=L.lk.root L.rd.rl;have hd:=mZ (L.lk.d0 h (by omega));have hu:In h t (val h t (a.take (2^h))):=.of (ai ha);have hv:In h t (val h t (a.drop (2^h))*q ((d h:Rat)⁻¹)):=In.mul L'.rd.rl (.of (ah ha)) (In.rat _);have e:val (h+1) t a=val h t (a.take (2^h))+val h t (a.drop (2^h))*q ((d h:Rat)⁻¹)*R.sqrt (val h z (z.getD h [])):=by
  rw[hr,mul_assoc (val h t _),←mul_assoc (q _),mul_comm (q ((d h:Rat)⁻¹)),hd,one_mul];rfl
 rw[e]at hx;obtain⟨k1,k2⟩:=Ih.split L.zt ((L'.lk.eK L'.rd.rl _).1 hu) ((L'.lk.eK L'.rd.rl _).1 hv) hx;have TP:Ih h z w (q (d h:Rat)) lW:=by
  refine Ih.rat ?_ ?_
  ·rw[Rat.num_natCast,Int.natAbs_natCast];exact L.db h (by omega)
  rw[Rat.den_natCast];exact Nat.one_le_two_pow
 have k4:=k2.mul L'.zt TP;rw[mul_assoc,mul_comm (q _),hd,mul_one]at k4;exact⟨k1,k4⟩
theorem Lv.qb:∀{h:Nat} (_:Lv h t z w d) {a:El} {H:Nat},a.length=2^h→Ih h z w (val h t a) H→QB ((H+h*lW)/32+1) a
 |0,_,a,H,ha,hx=>by
  obtain⟨x,rfl⟩:=bw ha;intro c hc;rw[List.mem_singleton.1 hc,Nat.zero_mul,Nat.add_zero]
  have:=Ht.zero (x:=x) hx.ht
  exact tc this.1 this.2
 |h+1,L,a,H,ha,hx=>by
  obtain⟨h1,h2⟩:=L.parts ha hx;have k1:=Lv.qb (L.le (Nat.le_succ h)) (ai ha) h1;have k2:=Lv.qb (L.le (Nat.le_succ h)) (ah ha) h2;rw[←List.take_append_drop (2^h) a,Nat.succ_mul];exact(k1.mono (by omega)).app (k2.mono (by omega))
def lM (h s:Nat):Nat:=(s+4*(h*lW))/32+1
theorem Lv.PC:∀{h:Nat} (_:Lv h t z w d) {a b:El} {H K s:Nat},a.length=2^h→b.length=2^h→Ih h z w (val h t a) H→Ih h z w (val h t b) K→H+K≤s→cM (lM h s) h t a b
 |0,L,a,b,H,K,s,ha,hb,hx,hy,hs=>by
  have e:∀{c:El} {J:Nat},c.length=2^0→Ih 0 z w (val 0 t c) J→J≤s→QB (lM 0 s) c:=fun hc hx hj=>(L.qb hc hx).mono (by unfold lM;omega);refine⟨e ha hx (by omega),e hb hy (by omega),e (J:=H+K) aa ?_ hs⟩;rw[val_mul L.rd.rl ha hb];exact hx.mul L.zt hy
 |h+1,L,a,b,H,K,s,ha,hb,hx,hy,hs=>by
  have L':=L.le (Nat.le_succ h);obtain⟨a1,a2⟩:=L.parts ha hx;obtain⟨b1,b2⟩:=L.parts hb hy;have r:=L.rb h (by omega);have hr:=(L.rd.rl h (by omega)).1;have p22:=a2.mul L'.zt b2;rw[←val_mul L'.rd.rl (ah ha) (ah hb)]at p22;have e:∀{c:El} {J:Nat},c.length=2^(h+1)→Ih (h+1) z w (val (h+1) t c) J→J≤s→QB (lM (h+1) s) c:=fun hc hx hj=>(L.qb hc hx).mono (by unfold lM;omega);have ih:=fun{a b:El} {H K:Nat} ha hb hx hy hs=>(Lv.PC L' (a:=a) (b:=b) (H:=H) (K:=K) (s:=s+3*lW) ha hb hx hy hs).mono (show lM h (s+3*lW)≤lM (h+1) s by have:=Nat.add_one_mul h lW;unfold lM;omega);refine⟨e ha hx (by omega),e hb hy (by omega),e (J:=H+K) aa ?_ hs,ih (ai ha) (ai hb) a1 b1 (by omega),ih (ah ha) (ah hb) a2 b2 (by omega),
   ih aa hr p22 r (by omega),ih (ai ha) (ah hb) a1 b2 (by omega),ih (ah ha) (ai hb) a2 b1 (by omega)⟩
  rw[val_mul L.rd.rl ha hb];exact hx.mul L.zt hy
end
theorem TG.full {A:List R}{t:List El}(T:TG A t)(hA:A.length≤t.length){a:R}(ha:a∈A):∃j,j<t.length∧val j t (t.getD j [])=a:=by
 obtain⟨σ,hσ,hi⟩:=T.GV;obtain⟨k,hk,rfl⟩:=List.mem_iff_getElem.1 ha;have ek:A.getD k (q 0)=A[k]:=by rw[X7,X8 hk];rfl
 by_cases hc:∃j,j<t.length∧σ j=k
 ·obtain⟨j,hj,e⟩:=hc;exact⟨j,hj,by rw[(hσ j hj).2,e,ek]⟩
 have SW:∀j,j<t.length→σ j≠k:=fun j hj e=>hc ⟨j,hj,e⟩;have key:∀i,i<t.length→σ i<A.length∧σ i≠k:=fun i h=>⟨(hσ i h).1,SW i h⟩;obtain⟨n,hn⟩:∃n,A.length=n+1:=⟨A.length-1,by omega⟩
 have:=DJ n t.length (fun i=>if σ i<k then σ i else σ i-1) (fun i h=>by
  have:=key i h
  show(if σ i<k then σ i else σ i-1)<n
  split<;>omega) fun i j VG hj e=>by
  have:=hi i j VG hj
  have:=key i (by omega)
  have:=key j hj
  have e:(if σ i<k then σ i else σ i-1)=(if σ j<k then σ j else σ j-1):=e
  split at e<;>split at e<;>omega
 omega
section
variable {A:List R}(S:Src 64 A)(h6:A.length≤6)(hL:∀a,a∈A→Lr a)
include S h6 hL
theorem TG.lv {t:List El}(T:TG A t):∃(z:List El) (w d:Nat→Nat),Lv t.length t z w d∧(∀a,a∈A→In t.length t a→Ih t.length z w a lW)∧∀a,a∈A→In t.length t (R.sqrt a)→Ih t.length z w (R.sqrt a) lC:=by
 have hl:=T.kB;obtain⟨z,w,d,Z,K,Sq,hb⟩:=H5 T.rd (fun i hi=>hL _ (T.mem i hi));have L:Lv t.length t z w d:=⟨T.rd,Z,K,fun i hi=>O0 (hb i hi).1 (O3 (by decide) (uR i (by omega)).2.1),fun i hi=>O0 (hb i hi).2.1 (O3 (by decide) (uR i (by omega)).2.1),
  fun i hi=>(hb i hi).2.2.2.mono (uR i (by omega)).2.1,fun i hi=>(hb i hi).2.2.1.mono (uR i (by omega)).1⟩
 refine⟨z,w,d,L,?_⟩
 by_cases h5:t.length≤5
 ·have n:=uR _ h5;have ha:∀a,a∈A→In t.length t a→Ih t.length z w a (Wn t.length):=fun a ha hi=>Lr.ih Z Sq (hL a ha) ((K.eK T.rd.rl _).1 hi);refine⟨fun a k hi=>(ha a k hi).mono n.2.1,fun a k hi=>?_⟩;obtain⟨j,hj,e⟩:=List.mem_iff_getElem.1 k;have hp:=S.pos j hj;rw[X7,X8 hj,Option.getD_some,e]at hp;have es:=R.cV (bu.2 (.inr hp));have hx:=ha a k (by have:=In.mul T.rd.rl hi hi;rwa [es]at this);exact(Ih.root Sq Z ((K.eK T.rd.rl _).1 hi) es hx).mono n.2.2
 have full:=fun{a:R} (k:a∈A)=>T.full (by omega) k;refine⟨fun a k _=>?_,fun a k _=>?_⟩
 ·obtain⟨j,hj,rfl⟩:=full k;exact(L.rb j hj).le (Nat.le_of_lt hj)
 obtain⟨j,hj,rfl⟩:=full k;exact(L.basis hj).mono (by decide)
theorem TG.xH {t:List El}(T:TG A t):∃(z:List El) (w d:Nat→Nat),Lv t.length t z w d∧∀{x:R} {H:Nat},In t.length t x→Sz False (fun y H=>(∃a,a∈A∧y=R.sqrt a)∧H=lC) x H→Ih t.length z w x H:=by
 obtain⟨s,G,hr,_⟩:=T.top S;obtain⟨z,w,d,L,_,h1⟩:=G.lv S h6 hL;have hl:t.length≤(t++s).length:=by rw[X6];omega
 have L':=(L.le hl).congr (t:=t) fun i hi=>cR hi;refine⟨z,w,d,L',fun{x H} Tb hs=>?_⟩;have hx:Ih (t++s).length z w x H:=by
  clear Tb
  induction hs with
  |gen g=>obtain⟨⟨a,ha,rfl⟩,rfl⟩:=g;exact h1 a ha (hr a ha)
  |rat h1 h2=>exact Ih.rat h1 h2
  |add _ _ h1 h2=>exact h1.add L.zt h2
  |mul _ _ h1 h2=>exact h1.mul L.zt h2
  |neg _ h1=>exact h1.neg
  |inv v=>exact v.elim
  |mono _ e h1=>exact h1.mono e
 obtain⟨k,hk⟩:=Nat.exists_eq_add_of_le hl;have hZ:=L.zt;rw[hk]at hZ hx;exact Ih.down hZ ((L'.lk.eK L'.rd.rl _).1 Tb) hx
end
end Go.Tw
namespace Go.Tw
open Go Go.R Go.Eng
section
variable {A:List R}
def oF (A:List R):Prop:=dV A∨(A.length≤6∧∀a,a∈A→Lr a)
instance {A:List R}:Coe (dV A) (oF A):=⟨.inl⟩
theorem TG.my (hA:oF A){t:List El}(T:TG A t):t.length≤6:=by
 have:=T.kB
 rcases hA with h|h
 ·have:A.length≤3:=h
  omega
 omega
theorem TG.PD (S:Src 64 A)(hA:dV A){t:List El}(T:TG A t):∃(z:List El) (w d:Nat→Nat),Ev cW t.length t z w d∧(∀a,a∈A→In t.length t (R.sqrt a)→Ht t.length z w (R.sqrt a) (oB t.length))∧∀a,a∈A→In t.length t a→Ht t.length z w a cW:=by
 obtain⟨_,z,w,d,Z,L,UY,h1,h2⟩:=T.env S hA;exact⟨z,w,d,⟨T.rd,Z,L,fun i hi=>(UY i hi).1,fun i hi=>(UY i hi).2.1,fun i hi=>(UY i hi).2.2⟩,h1,h2⟩
theorem Ev.congr {h:Nat}{t' t z:List El}{w d:Nat→Nat}(e:∀i,i<h→t'.getD i []=t.getD i [])(E:Ev cW h t' z w d):Ev cW h t z w d:=by
 have ev:∀i,i≤h→∀a,val i t' a=val i t a:=fun i hi a=>val_congr (fun j hj=>e j (by omega)) a;exact⟨E.rd.congr e,E.zt,⟨E.lk.d0,fun i hi=>by rw[←e i hi,←ev i (by omega)];exact E.lk.v i hi⟩,E.wb,E.db,fun i hi=>by rw[←e i hi,←ev i (by omega)];exact E.rb i hi⟩
theorem Ht.down {h:Nat}{z:List El}{w:Nat→Nat}{x:R}:∀{k H:Nat},Zt (h+k) z w→In h z x→Ht (h+k) z w x H→Ht h z w x (2^k*H)
 |0,H,_,_,hx=>by rw[Nat.pow_zero,Nat.one_mul];exact hx
 |k+1,H,Z,hi,hx=>by
  have h1:=(Ht.split (h:=h+k) Z (v:=q 0) (hi.le (Nat.le_add_right _ _)) (In.rat 0) (by rw[zero_mul,add_zero];exact hx)).1;have h2:=Ht.down (k:=k) (Z.le (Nat.le_succ _)) hi h1
  rwa [←Nat.mul_assoc,←O4]at h2
structure NM (A:List R) (F:Nat):Prop where
 le:F≤6
 ex:∃T,TG A T∧T.length=F
 mx:∀U,TG A U→U.length≤F
theorem NM.eq {F K:Nat}(h:NM A F)(k:NM A K):F=K:=by
 obtain⟨T,h1,h2⟩:=h.ex;obtain⟨U,k1,k2⟩:=k.ex
 have:=h.mx U k1
 have:=k.mx T h1
 omega
theorem TG.rk (S:Src 64 A)(hA:dV A){t:List El}(T:TG A t):∃F,NM A F∧∃(z:List El) (w d:Nat→Nat),Ev cW t.length t z w d∧
  ∀{a:El} {x:R} {β μ:Nat},In t.length t x→Tw.val t.length t a=x→mr A x β μ→Ht t.length z w (Tw.val t.length t a) (2^(F-t.length)*(β+μ*oB F)):=by
 obtain⟨s,G,hr,hU⟩:=T.top S;obtain⟨z,w,d,E,h1,_⟩:=G.PD S hA;have hl:t.length≤(t++s).length:=by rw[X6];omega
 have E':=(E.le hl).congr (t:=t) fun i hi=>cR hi;refine⟨(t++s).length,⟨G.my (.inl hA),⟨_,G,rfl⟩,hU⟩,z,w,d,E',fun Tb hv hs=>?_⟩;obtain⟨k,hk⟩:=Nat.exists_eq_add_of_le hl;have hx:=(hs (oB (t++s).length)).ht E.zt (fun y H ⟨⟨a,ha,e⟩,hc⟩=>by rw[e,hc,oL hA,Nat.one_mul];exact h1 a ha (hr a ha));rw[hv];have hz:=(E'.lk.eK E'.rd.rl _).1 Tb;have hZ:=E.zt;rw[hk]at hZ hx⊢;rw[Nat.add_sub_cancel_left];exact Ht.down hZ hz hx
def qN (β μ:Nat):Nat:=4*β+2^21*μ+2^30
theorem KU {β μ β' μ':Nat}(h1:β≤β')(h2:μ≤μ'):qN β μ≤qN β' μ':=by
 unfold qN;omega
theorem MH {h F β μ:Nat}(h1:h≤F)(h2:F≤6):sX cW h (2^(F-h)*(β+μ*oB F))≤qN β μ:=by
 have e1:2^h*2^(F-h)=2^F:=by rw[←Nat.pow_add];congr 1;omega
 have e2:2^h*(6*cW)≤2^F*(6*cW):=O8 _ (O3 (by decide) h1);have e3:2^h*(2*(2^(F-h)*(β+μ*oB F))+6*cW)≤2^F*(2*(β+μ*oB F))+2^F*(6*cW):=by
  rw[Nat.mul_add,Nat.mul_left_comm,←Nat.mul_assoc (2^h),e1,Nat.mul_left_comm 2];omega
 unfold sX
 generalize 2^h*(2*(2^(F-h)*(β+μ*oB F))+6*cW)=N at e3
 clear e1 e2;unfold qN;unfold cW at e3
 match F,h2 with
 |0,_=>simp only[oB]at e3;omega
 |1,_=>simp only[oB]at e3;omega
 |2,_=>simp only[oB]at e3;omega
 |3,_=>simp only[oB]at e3;omega
 |4,_=>simp only[oB]at e3;omega
 |5,_=>simp only[oB]at e3;omega
 |6,_=>simp only[oB]at e3;omega
theorem Ph {h F β μ:Nat}(h1:h≤F)(h2:F≤6):bM cW h (2^(F-h)*(β+μ*oB F))≤qN β μ:=O0 zT (MH h1 h2)
theorem Nj {h β μ:Nat}(h6:h≤6):sX lW h (β+μ*2^19)≤qN β μ∧lM h (β+μ*2^19)≤qN β μ:=by
 have h1:=O8 (2*(β+μ*2^19)+6*lW) (show 2^h≤2^6 from O3 (by decide) h6);have h2:=O8 lW h6;unfold sX lM qN;unfold lW at*
 omega
theorem mr.lt (hV:¬dV A){x:R}{β μ:Nat}(h:mr A x β μ):Sz False (fun y H=>(∃a,a∈A∧y=R.sqrt a)∧H=lC) x (β+μ*2^19):=
 (h (2^19)).imp hV fun _ _ ⟨k,e⟩=>⟨k,by rw[e,show kp A=128 from if_neg hV];rfl⟩
theorem oF.l (hA:oF A)(hV:¬dV A):A.length≤6∧∀a,a∈A→Lr a:=hA.resolve_left hV
theorem NQ:∀h,h≤6→sX cW h (oB h+8)≤jS:=by decide+kernel
section
variable (S:Src 64 A)(hA:oF A)
include S hA
theorem TG.ev {t:List El}(T:TG A t):∃(cc H:Nat) (z:List El) (w d:Nat→Nat),Ev cc t.length t z w d∧sX cc t.length (H+8)≤jS∧∀a,a∈A→In t.length t (R.sqrt a)→Ht t.length z w (R.sqrt a) H:=by
 have h6:=T.my hA
 by_cases hV:dV A
 ·obtain⟨z,w,d,E,h1,_⟩:=T.PD S hV;exact⟨cW,_,z,w,d,E,NQ _ h6,h1⟩
 obtain⟨k1,k2⟩:=hA.l hV;obtain⟨z,w,d,L,_,h1⟩:=T.lv S k1 k2;refine⟨lW,lC,z,w,d,L.ev,?_,fun a ha hi=>(h1 a ha hi).ht⟩;have h1:=O8 (2*(lC+8)+6*lW) (show 2^t.length≤2^6 from O3 (by decide) h6);unfold sX jS;unfold lW lC at*;omega
theorem TG.Rj {t:List El}(T:TG A t){e:El}(he:e.length=2^t.length){x:Rat}(hv:val t.length t e=q x)(h1:x.num.natAbs≤2^8)(h2:x.den≤2^8):iF jS t.length t e:=by
 obtain⟨cc,H,z,w,d,E,hs,_⟩:=T.ev S hA;exact(iF.of E he (by rw[hv];exact Ht.rat h1 h2)).mono (O0 (sR (by omega)) hs)
theorem ax.ev {t:List El}{a:El}{x:R}{β μ:Nat}(h:ax A t a x β μ):∃(cc:Nat) (z:List El) (w d:Nat→Nat) (H:Nat),Ev cc t.length t z w d∧Ht t.length z w (Tw.val t.length t a) H∧sX cc t.length H≤qN β μ:=by
 by_cases hV:dV A
 ·obtain⟨F,I,z,w,d,E,hx⟩:=h.tg.rk S hV;exact⟨cW,z,w,d,_,E,hx h.in h.val h.sz,MH (I.mx _ h.tg) I.le⟩
 obtain⟨k1,k2⟩:=hA.l hV;obtain⟨z,w,d,L,hx⟩:=h.tg.xH S k1 k2;exact⟨lW,z,w,d,_,L.ev,by rw[h.val];exact(hx h.in (h.sz.lt hV)).ht,(Nj (h.tg.my hA)).1⟩
theorem ax.qb {t:List El}{a:El}{x:R}{β μ:Nat}(h:ax A t a x β μ):QB (qN β μ) a:=by
 obtain⟨cc,z,w,d,H,E,hx,hb⟩:=h.ev S hA;exact(E.qb h.len hx).mono (O0 so hb)
theorem ax.QQ {t:List El}{a:El}{x:R}{β μ:Nat}(h:ax A t a x β μ):iF (qN β μ) t.length t a:=by
 obtain⟨cc,z,w,d,H,E,hx,hb⟩:=h.ev S hA;exact(iF.of E h.len hx).mono hb
theorem ax.RT {t:List El}{a:El}{x:R}{β μ:Nat}(h:ax A t a x β μ):mn (qN β μ) t.length t a:=by
 obtain⟨cc,z,w,d,H,E,hx,hb⟩:=h.ev S hA;exact(mn.of E h.len hx).mono hb
theorem ax.PC {t:List El}{a b:El}{x y:R}{β μ β' μ':Nat}(h:ax A t a x β μ)(k:ax A t b y β' μ'):cM (qN (β+β') (μ+μ')) t.length t a b:=by
 by_cases hV:dV A
 ·obtain⟨F,I,z,w,d,E,hx⟩:=h.tg.rk S hV
  refine(cM.of E h.len k.len (hx h.in h.val h.sz) (hx k.in k.val k.sz) (s:=2^(F-t.length)*((β+β')+(μ+μ')*oB F)) ?_).mono (Ph (I.mx _ h.tg) I.le)
  rw[←Nat.mul_add,Nat.add_mul];exact O9 _ (by omega)
 obtain⟨k1,k2⟩:=hA.l hV;obtain⟨z,w,d,L,hx⟩:=h.tg.xH S k1 k2;exact(L.PC h.len k.len (by rw[h.val];exact hx h.in (h.sz.lt hV)) (by rw[k.val];exact hx k.in (k.sz.lt hV)) (s:=(β+β')+(μ+μ')*2^19) (by rw[Nat.add_mul];omega)).mono (Nj (h.tg.my hA)).2
end
def tB:Nat:=2^23
theorem Ev.basis {h:Nat}{t z:List El}{w d:Nat→Nat}(E:Ev cW h t z w d){j:Nat}(hj:j<h):Ht h z w (R.sqrt (val j t (t.getD j []))) (2*cW):=by
 have h1:=(Ht.root (h:=j) (z:=z) (w:=w) (E.wb j hj)).le (show j+1≤h by omega);have hr:=(E.lk.le (show j+1≤h by omega)).root (E.rd.rl.le (by omega));have hd:=mZ (E.lk.d0 j hj);have h4:=h1.mul E.zt (Ht.GW (E.lk.d0 j hj) (E.db j hj));rw[hr,mul_comm,←mul_assoc,mul_comm (q ((d j:Rat)⁻¹)),hd,one_mul]at h4;exact h4.mono (by omega)
theorem Ev.short {h:Nat}{t z:List El}{w d:Nat→Nat}(E:Ev cW h t z w d){a:El}{B:Nat}(ha:a.length=2^h)(hb:iu B a):Ht h z w (val h t a) (fE B (2*cW) h):=
 Ht.expr E.zt ha hb fun _ hj=>E.basis hj
theorem xV:∀h,h≤2→rX h (2*cW)≤jS∧rX h (fE 64 (2*cW) h)≤jS:=by
 intro h hh
 match h,hh with
 |0,_=>decide+kernel
 |1,_=>decide+kernel
 |2,_=>decide+kernel
theorem xT:sX cW 3 cW≤jS∧sX cW 2 cW≤jS∧bM cW 2 (2*cW)≤jS:=by decide+kernel
theorem H3 {i:Nat}(h:i≤2):rX i cW≤jS:=O0 (Kh (by omega)) (xV i h).1
theorem M7 {h:Nat}(h6:h≤6):lN h lW≤jS:=by
 have h1:=O8 (lW+2*lW) (show 4^h≤4^6 from O3 (by decide) h6);unfold lN jS;unfold lW at*
 omega
theorem TG.qb (S:Src 64 A)(hA:oF A){t:List El}(T:TG A t){i:Nat}(hi:i<t.length):QB tB (t.getD i []):=by
 have h6:=T.my hA
 by_cases hV:dV A
 rotate_left
 ·obtain⟨k1,k2⟩:=hA.l hV;obtain⟨z,w,d,L,_⟩:=T.lv S k1 k2
  have:=O8 lW (show i≤5 by omega)
  exact((L.le (Nat.le_of_lt hi)).qb (L.rd.rl i hi).1 (L.rb i hi)).mono (by unfold tB;unfold lW at*;omega)
 have hA:=hV;obtain⟨z,w,d,E,_,_⟩:=T.PD S hA;have Ei:=E.le (Nat.le_of_lt hi)
 refine(Ei.qb (E.rd.rl i hi).1 (E.rb i hi)).mono ?_
 have:=T.kB
 have:A.length≤3:=hA
 have:2^i≤2^2:=O3 (by decide) (by omega)
 have:=O8 (cW+cW) this
 unfold bW tB cW at*
 omega
theorem TG.R8 (S:Src 64 A)(hA:oF A){t:List El}(T:TG A t){e:El}(he:e.length=2^t.length)(hv:val t.length t e∈A):kE jS t.length t e:=by
 have h6:=T.my hA
 by_cases hV:dV A
 rotate_left
 ·obtain⟨k1,k2⟩:=hA.l hV;obtain⟨z,w,d,L,h2,_⟩:=T.lv S k1 k2;exact(kE.of L.ev L.MU he (h2 _ hv (.of he)).ht).mono (M7 h6)
 have hA:=hV;obtain⟨z,w,d,E,_,h2⟩:=T.PD S hA;have hx:=h2 _ hv (.of he);have hA:A.length≤3:=hA;have h3:=O0 T.kB hA
 by_cases Zr:t.length≤2
 ·exact(kE.of E E.MU he hx).mono (H3 Zr)
 have h3:t.length=3:=by omega
 obtain⟨j,hj,ej⟩:=T.full (by omega) hv;rw[h3]at E he hx ej hj⊢;have E2:=E.le (show 2≤3 by omega);have Tb:In 2 t (val 3 t e):=by
  rw[←ej];exact(In.of (E.rd.rl j hj).1).le (by omega)
 obtain⟨p,hp,ep⟩:=Tb;have e1:val 3 t (p++zE (2^2))=val 3 t e:=by rw[kD (h:=2) hp,ep]
 have e2:e=p++zE (2^2):=(val_inj E.rd (by rw[X6,hp,av]) he e1).symm;have et:e.take (2^2)=p:=by rw[e2,List.take_append_of_le_length (by omega),List.take_of_length_le (by omega)]
 have ed:e.drop (2^2)=zE (2^2):=by rw[e2,List.drop_append_of_le_length (by omega),List.drop_of_length_le (by omega),List.nil_append]
 have hpx:Ht 2 z w (val 2 t p) cW:=by
  rw[ep,←ej];exact(E.rb j hj).le (by omega)
 have hr:Ht 2 z w (val 2 t (t.getD 2 [])) cW:=E.pB;have WA:=(E.rd.rl 2 (by omega)).1;refine kE.low ed ((iF.of E he hx).mono xT.1) ?_ ((mn.of E2 WA hr).mono xT.2.1) fun i hi=>?_
 ·rw[et];exact(kE.of E2 E2.MU hp hpx).mono (H3 (by omega))
 obtain⟨hl,Yy⟩:=dz E2.rd.rl WA hi;rw[et];refine⟨(cM.of E2 hp hl hpx (hr.inv Yy) (s:=2*cW) (by omega)).mono xT.2.2,?_⟩;have Xb:Ht 2 z w (val 2 t (aj 2 t p i)) (2*cW):=by
  rw[val_mul E2.rd.rl hp hl];exact(hpx.mul E2.zt (hr.inv Yy)).mono (by omega)
 exact(kE.of E2 E2.MU aa Xb).mono (xV 2 (by omega)).1
theorem TG.RK (S:Src 64 A)(hA:dV A){t:List El}(T:TG A t)(h2:t.length≤2){e:El}(he:e.length=2^t.length)(hb:iu 64 e):kE jS t.length t e:=by
 obtain⟨z,w,d,E,_,_⟩:=T.PD S hA;exact(kE.of E E.MU he (E.short he hb)).mono (xV _ h2).2
theorem TG.QQ (S:Src 64 A)(hA:oF A){t:List El}(T:TG A t){i:Nat}(hi:i<t.length):kE jS i t (t.getD i []):=by
 have h6:=T.my hA
 by_cases hV:dV A
 rotate_left
 ·obtain⟨k1,k2⟩:=hA.l hV;obtain⟨z,w,d,L,_⟩:=T.lv S k1 k2;have Li:=L.le (Nat.le_of_lt hi);exact(kE.of Li.ev Li.MU (L.rd.rl i hi).1 (L.rb i hi).ht).mono (M7 (by omega))
 have hA:=hV;obtain⟨z,w,d,E,_,_⟩:=T.PD S hA;have Ei:=E.le (Nat.le_of_lt hi)
 have:=T.kB
 have:A.length≤3:=hA
 exact(kE.of Ei Ei.MU (E.rd.rl i hi).1 (E.rb i hi)).mono (H3 (by omega))
end
end Go.Tw
namespace Go.Proofs.YtehahgjkjfoebaaGreat
open Go.Proofs.Tryz
open Go Go.Eng
open Go.Tw (El)
def fQ (l:List Rat)(i:Nat):Nat→C:=qC (l.getD i default)
theorem Ig (l:List Rat):ag l= .rows 4 l.length (fQ l):=rfl
def Qk (l:List Rat):Prop:=∀x∈l,qm x<2^38
theorem Qk.of {l:List Rat}{B:Nat}(h:Tw.QB B l)(hB:B<2^38):Qk l:=fun x hx=>Nat.lt_of_le_of_lt (h x hx) hB
theorem Qk.get {l:List Rat}(h:Qk l)(i:Nat):qm (l.getD i default)<2^38:=by
 rw[X7]
 cases e:l[i]? with
 |none=>exact Nat.lt_of_le_of_lt (show qm (default:Rat)≤1 by decide+kernel) (by decide)
 |some x=>exact h x (List.mem_of_getElem? e)
theorem wh (q:Rat)(hq:qm q<2^40):Pr prog 211 [QV q] (.one (.bool true)):=by
 have h:=x5 (zs q.num) (zs (q.den:Int)) (zm q.num) (zm (q.den:Int)) (qP _) (qP _) (by unfold qm at hq;rw[aX];omega) (by unfold qm at hq;rw[aX,aG];omega);rw[M0]at h;exact h
theorem EK (q:Rat)(hq:qm q<2^40):Pr prog 223 [QV q] (.one (.bool false)):=by
 refine pw func223 ⟨[0,1,2],[]⟩ ?_;simp only[Tryz.f223,ntmps223,iz,seval];simp only[vx,T,seval,QV,QC];refine Cg (wh q hq) ?_;simp only[vx,T,seval];exact Ve rfl
theorem wS {z:Int}:bQ z=0↔z=0:=by unfold bQ;(repeat' split)<;>omega
theorem B6 (q:Rat)(hq:qm q<2^40):Pr prog 214 [QV q] (.one (.bool (decide (q≠0)))):=by
 refine pw func214 ⟨[0,1,2],[]⟩ ?_;simp only[Tryz.f214,ntmps214,iz,seval];simp only[vx,T,seval,QV,QC];refine Cg (ki q hq) ?_;simp only[vx,T,seval];refine vb ?_
 have:bQ q.num≠0↔q≠0:=by rw[Ne,wS,Rat.num_eq_zero]
 exact decide_eq_decide.2 this
def Oo (p:Rat→Bool)(xs:List Rat):Int:=if xs.findIdx p<xs.length then(xs.findIdx p:Int)else-1
theorem Kg (p:Rat→Bool)(xs:List Rat):decide (0≤Oo p xs)=xs.any p:=by
 unfold Oo;rw[Bool.eq_iff_iff,decide_eq_true_eq,List.any_eq_true,←List.findIdx_lt_length]
 split<;>rename_i h
 ·exact⟨fun _=>h,fun _=>by omega⟩
 exact⟨fun k=>by omega,fun k=>absurd k h⟩
theorem eY {xs:List Rat}{i:Nat}(h:i<xs.length):xs.getD i default=xs[i]:=by
 rw[X7,X8 h];rfl
theorem HN (f:FuncId)(p:Rat→Bool)(xs:List Rat)(hl:xs.length<2^38)(hf:∀i,i<xs.length→Pr prog f [QV (xs.getD i default)] (.one (.bool (p (xs.getD i default))))):
  Pr prog 233 [eV xs,.one (.fn f 0 (fun _=>.any))] (.one (.int .i64 (Oo p xs))):=by
 refine pw func233 ⟨[0,1,4,5,7,8,9,16],[]⟩ ?_;simp only[Tryz.f233,ntmps233,iz,seval];simp only[vx,T,seval,eV,ag];refine Lk (fun y:{i:Nat//i≤xs.length∧∀k,k<i→p (xs.getD k default)=false}=>⟨[(0,eV xs),(1,.one (.fn f 0 (fun _=>.any))),(7,.one (.int .i64 xs.length)),(8,.one (.int .i64 y.1))],[],1,19⟩) (fun y=>xs.length-y.1) ⟨0,O2 _,fun k h=>absurd h (O5 _)⟩ ?_ (fun⟨i,hi,hz⟩=>?_)
 ·refine Sa ?_;simp only[ry,seval,rz,eV,ag]
 have i1:=wI i (by omega);simp only[vx,T,seval,eV,ag];refine⟨fun h1=>Lg ?_,fun h1=>Lg ?_⟩
 ·have VI:=hf i (by omega);obtain⟨a,ha⟩:∃a,a=xs.getD i default:=⟨_,rfl⟩;rw[←ha]at VI;simp only[vx,T,seval,eV,ag,←ha,qC];refine⟨by omega,Cg VI ?_⟩;simp only[vx,T,seval];refine⟨fun h2=>Lg ?_,fun h2=>Lg ?_⟩
  ·have e1:xs.findIdx p=i:=by
    rw[List.findIdx_eq (by omega)];refine⟨by rw[←eY (by omega),←ha];simpa using h2,fun j hj=>?_⟩;rw[←eY (by omega)];exact hz j hj
   have e2:Oo p xs=i:=by unfold Oo;rw[e1,if_pos (by omega)]
   simp only[vx,T,seval,e2];exact Ve rfl
  simp only[vx,T,seval];simp only[i1];refine Lq ⟨i+1,by omega,fun k hk=>?_⟩ ?_ ?_
  ·by_cases h3:k<i
   ·exact hz k h3
   rw[show k=i by omega,←ha];simpa using h2
  ·refine Sa ?_;simp only[ry,seval,rz,eV,ag]
  simp only;omega
 have e1:xs.findIdx p=xs.length:=by
  rw[List.findIdx_eq_length];intro x hx;obtain⟨k,hk,rfl⟩:=List.mem_iff_getElem.1 hx;rw[←eY hk];exact hz k (by omega)
 have e2:Oo p xs= -1:=by unfold Oo;rw[if_neg (by omega)]
 simp only[vx,T,seval,e2];exact Ve rfl
theorem vT (f:FuncId)(p:Rat→Bool)(xs:List Rat)(hl:xs.length<2^38)(hf:∀i,i<xs.length→Pr prog f [QV (xs.getD i default)] (.one (.bool (p (xs.getD i default))))):
  Pr prog 213 [eV xs,.one (.fn f 0 (fun _=>.any))] (.one (.bool (xs.any p))):=by
 refine pw func213 ⟨[0,1,4],[]⟩ ?_;simp only[Tryz.f213,ntmps213,iz,seval];simp only[vx,T,seval,eV,ag];refine Cg (HN f p xs hl hf) ?_;simp only[vx,T,seval];exact vb (Kg p xs)
theorem lB (a:El)(n:Nat)(hl:a.length=n)(hn:n<2^38)(hq:Qk a):Pr prog 185 [eV a,.one (.int .i64 n)] (.one (.bool true)):=by
 have hc:=vT 223 (fun _=>false) a (by omega) (fun i hi=>EK _ (Nat.lt_trans (hq.get i) (by decide)));rw[show a.any (fun _=>false)=false from List.any_eq_false.2 (fun _ _=>by simp)]at hc;subst hl;refine pw func185 ⟨[0,1,4],[]⟩ ?_;simp only[Tryz.f185,ntmps185,iz,seval];simp only[vx,T,seval,eV,ag];refine Cg hc ?_;simp only[vx,T,seval];exact Ve rfl
structure Tk (h:Nat) (t:List El):Prop where
 le8:h≤8
 len:∀i,i<h→(t.getD i []).length=2^i
 q:∀i,i<h→Qk (t.getD i [])
theorem Tk.le {h k:Nat}{t:List El}(T:Tk h t)(hk:k≤h):Tk k t:=⟨by have:=T.le8;omega,fun i hi=>T.len i (by omega),fun i hi=>T.q i (by omega)⟩
theorem dO {h:Nat}(hh:h≤8):IntKind.i64.wrap (1*2^(if h≤64 then h else 64))=((2^h:Nat):Int):=by
 rw[if_pos (by omega),Int.one_mul,Q4]
 ·rw[Int.natCast_pow];rfl
 have:2^h≤2^8:=O3 (by decide) hh
 have e:((2:Int)^h)=((2^h:Nat):Int):=by rw[Int.natCast_pow];rfl
 rw[e];generalize 2^h=q at this⊢;constructor<;>omega
theorem aN {h:Nat}(hh:h≤8):2^h<2^38:=Nat.lt_of_le_of_lt (O3 (by decide) hh) (by decide)
theorem jJ {h:Nat}{t:List El}(tk:Tk h t):Pr prog 184 [tV h t] (.one (.bool true)):=by
 have hh:=tk.le8;refine pw func184 ⟨[0,2,3,4,5,6,7,8,16],[]⟩ ?_;simp only[Tryz.f184,ntmps184,iz,seval];simp only[vx,T,seval,tV,tC];refine Lk (fun y:{i:Nat//i≤h}=>⟨[(5,tV h t),(6,.one (.int .i64 h)),(7,.one (.int .i64 y.1))],[],1,18⟩) (fun y=>h-y.1) ⟨0,O2 _⟩ ?_ (fun⟨i,hi⟩=>?_)
 ·refine Sa ?_;simp only[ry,seval,rz,tV,tC]
 have i1:=wI i (by omega);simp only[vx,T,seval,tV,tC];refine⟨fun h1=>Lg ?_,fun h1=>Lg ?_⟩
 ·have hih:i<h:=by omega
  have hs:=dO (h:=i) (by omega);have hp:=aN (h:=i) (by omega);simp only[vx,T,seval,tV,tC,ag,hs];refine⟨by omega,by omega,Cg (lB (t.getD i []) (2^i) (tk.len i hih) hp (tk.q i hih)) ?_⟩;simp only[vx,T,seval];simp only[i1];refine Lq ⟨i+1,by omega⟩ ?_ ?_
  ·refine Sa ?_;simp only[ry,seval,rz,tV,tC]
  simp only;omega
 simp only[vx,T,seval];exact Ve rfl
open Go Go.Eng
open Go.Tw (El aC aH zE aj av au ar aa)
def wQ (l:List Rat)(i k j:Nat):C:=if k<i then fQ l k j else[C.bool false,C.nil,C.bool false,C.nil].getD j .any
theorem s7 (l:List Rat)(k j:Nat):[C.bool false,C.nil,C.bool false,C.nil].getD j C.any=wQ l 0 k j:=by
 unfold wQ;rw[if_neg (O5 _)]
theorem IY {l:List Rat}{n k:Nat}(h:k<n)(j:Nat):wQ l n k j=fQ l k j:=if_pos h
theorem dD (q:Rat){l:List Rat}{k:Nat}(e:l.getD k default=q)(j:Nat):[C.bool (zs q.num),C.ints .u32 (zm q.num),C.bool (zs (q.den:Int)),C.ints .u32 (zm (q.den:Int))].getD j C.any=fQ l k j:=by
 subst e
 match j with
 |0|1|2|3=>rfl
 |_+4=>rfl
theorem yf (q:Rat){l:List Rat}{i:Nat}(e:l.getD i default=q)(k j:Nat)(hj:j<4):
  bz (wQ l i) i 0 [C.bool (zs q.num),C.ints .u32 (zm q.num),C.bool (zs (q.den:Int)),C.ints .u32 (zm (q.den:Int))] k j=wQ l (i+1) k j:=by
 unfold bz
 by_cases h:k=i
 ·subst h;rw[if_pos rfl,if_pos (O2 _),if_pos (by simpa using hj),Nat.sub_zero,dD q e,IY (Nat.lt_succ_self _)]
 rw[if_neg h];unfold wQ
 by_cases h2:k<i
 ·rw[if_pos h2,if_pos (by omega)]
 rw[if_neg h2,if_neg (by omega)]
theorem yN {l:List Rat}{n:Nat}(h:l.length=n):Y5 [] 0 (Bk.rows 66 4 n (wQ l n)) (Bk.rows 66 4 l.length (fQ l)):=
 ⟨rfl,h.symm,fun _ j hi _=>IY hi j⟩
theorem oR (n:Nat)(hn:n<2^38):Fr prog 212 [.one (.int .i64 n)] (.rows 66 4 (zE n).length (fQ (zE n))):=by
 refine fw func212 ⟨[0,2,3,4,8,9,10],[]⟩ ?_;simp only[Tryz.f212,ntmps212,iz,seval];simp only[vx,T,seval];refine⟨by omega,Lk (fun y:{i:Nat//i≤n}=>⟨[(3,.one (.own 1 4 0 n)),(8,.one (.int .i64 n)),(9,.one (.int .i64 y.1))],[(1,⟨.rows 66 4 n (wQ (zE n) y.1),true⟩)],2,18⟩) (fun y=>n-y.1) ⟨0,O2 _⟩ ?_ (fun⟨i,hi⟩=>?_)⟩
 ·refine Sa ?_;simp only[ry,seval,rz];exact fun i j _ _=>s7 _ i j
 have i1:=wI i (by omega);simp only[vx,T,seval];refine⟨fun h1=>Lg ?_,fun h1=>Lg ?_⟩
 ·have SU:i<n:=by omega
  simp only[vx,T,seval];refine Cg (cP 0 (by decide) (by decide)) ?_;simp only[vx,T,seval,QV,QC];simp only[i1];refine⟨by omega,Lq ⟨i+1,by omega⟩ ?_ ?_⟩
  ·refine Sa ?_;simp only[ry,seval,rz];exact fun k j _ hj=>yf _ (by simp[zE,X7,SU];rfl) k j hj
  simp only;omega
 have SU:i=n:=by omega
 subst SU;simp only[vx,T,seval];exact⟨av.symm,yN av⟩
theorem Cp (q:Rat)(hq:qm q<2^40):Pr prog 186 [QV q] (QV (-q)):=by
 refine pw func186 ⟨[0,1,2],[]⟩ ?_;simp only[Tryz.f186,ntmps186,iz,seval];simp only[vx,T,seval,QV,QC];refine Cg (wP q.num (by unfold qm at hq;omega)) ?_;simp only[vx,T,seval,ZV];exact Ve rfl
theorem om (a:El)(hl:a.length<2^38)(hq:Qk a):Fr prog 141 [eV a] (.rows 66 4 (aH a).length (fQ (aH a))):=by
 refine fw func141 ⟨[0,2,3,4,5,9,10,11,12],[]⟩ ?_;simp only[Tryz.f141,ntmps141,iz,seval];simp only[vx,T,seval,eV,ag];refine⟨by omega,Lk (fun y:{i:Nat//i≤a.length}=>⟨[(0,eV a),(3,.one (.own 1 4 0 a.length)),(9,eV a),(10,.one (.int .i64 a.length)),(11,.one (.int .i64 y.1))],[(1,⟨.rows 66 4 a.length (wQ (aH a) y.1),true⟩)],2,23⟩) (fun y=>a.length-y.1) ⟨0,O2 _⟩ ?_ (fun⟨i,hi⟩=>?_)⟩
 ·refine Sa ?_;simp only[ry,seval,rz,eV,ag];exact fun i j _ _=>s7 _ i j
 have i1:=wI i (by omega);simp only[vx,T,seval,eV,ag];refine⟨fun h1=>Lg ?_,fun h1=>Lg ?_⟩
 ·have SU:i<a.length:=by omega
  have VD:=hq.get i;have en:(aH a).getD i default= -(a.getD i default):=by
   unfold aH;rw[X7,List.getElem?_map,X8 SU,X7,X8 SU];rfl
  obtain⟨x,hx⟩:∃x,x=a.getD i default:=⟨_,rfl⟩;rw[←hx]at VD en;simp only[vx,T,seval,eV,ag,←hx,qC];refine⟨by omega,Cg (Cp x (by omega)) ?_⟩;simp only[vx,T,seval,QV,QC];simp only[i1];refine⟨by omega,Lq ⟨i+1,by omega⟩ ?_ ?_⟩
  ·refine Sa ?_;simp only[ry,seval,rz,eV,ag];exact fun k j _ hj=>yf _ en k j hj
  simp only;omega
 have SU:i=a.length:=by omega
 subst SU;simp only[vx,T,seval];exact⟨au.symm,yN au⟩
theorem kS (a b:El)(hl:a.length<2^38)(UD:b.length=a.length)(Vm:Qk a)(Us:Qk b):Fr prog 174 [eV a,eV b] (.rows 66 4 (aC a b).length (fQ (aC a b))):=by
 refine fw func174 ⟨[0,1,4,5,6,11,12,13],[]⟩ ?_;simp only[Tryz.f174,ntmps174,iz,seval];simp only[vx,T,seval,eV,ag];refine⟨by omega,Lk (fun y:{i:Nat//i≤a.length}=>⟨[(0,eV a),(1,eV b),(5,.one (.own 1 4 0 a.length)),(11,.one (.int .i64 a.length)),(12,.one (.int .i64 y.1))],[(1,⟨.rows 66 4 a.length (wQ (aC a b) y.1),true⟩)],2,29⟩) (fun y=>a.length-y.1) ⟨0,O2 _⟩ ?_ (fun⟨i,hi⟩=>?_)⟩
 ·refine Sa ?_;simp only[ry,seval,rz,eV,ag];exact fun i j _ _=>s7 _ i j
 have i1:=wI i (by omega);simp only[vx,T,seval,eV,ag];refine⟨fun h1=>Lg ?_,fun h1=>Lg ?_⟩
 ·have SU:i<a.length:=by omega
  have VD:=Vm.get i;have Xg:=Us.get i;have en:(aC a b).getD i default=a.getD i default+b.getD i default:=by
   unfold aC;rw[X7,List.getElem?_zipWith,X8 SU,X7,X8 SU,X8 (by omega:i<b.length),X7,X8 (by omega:i<b.length)];rfl
  obtain⟨x,hx⟩:∃x,x=a.getD i default:=⟨_,rfl⟩;obtain⟨y,hy⟩:∃y,y=b.getD i default:=⟨_,rfl⟩;rw[←hx]at VD en;rw[←hy]at Xg en;simp only[vx,T,seval,eV,ag,←hx,←hy,qC];refine⟨by omega,by omega,Cg (CZ x y VD Xg) ?_⟩;simp only[vx,T,seval,QV,QC];simp only[i1];refine⟨by omega,Lq ⟨i+1,by omega⟩ ?_ ?_⟩
  ·refine Sa ?_;simp only[ry,seval,rz,eV,ag];exact fun k j _ hj=>yf _ en k j hj
  simp only;omega
 have SU:i=a.length:=by omega
 subst SU;simp only[vx,T,seval];exact⟨(ar rfl UD).symm,yN (ar rfl UD)⟩
open Go Go.Eng
open Go.Tw (El aC aH zE aj av au ar aa QB cM ai ah)
theorem dq (a:El)(hl:a.length<2^38)(hq:Qk a):Pr prog 167 [eV a] (.one (.bool (decide (a=zE a.length)))):=by
 have hc:=vT 214 (fun q=>decide (q≠0)) a hl (fun i hi=>B6 _ (Nat.lt_trans (hq.get i) (by decide)));refine pw func167 ⟨[0,2],[]⟩ ?_;simp only[Tryz.f167,ntmps167,iz,seval];simp only[vx,T,seval,eV,ag];refine Cg hc ?_;simp only[vx,T,seval];refine vb ?_;rw[Bool.eq_iff_iff,Bool.not_eq_true',List.any_eq_false,decide_eq_true_eq]
 constructor
 ·intro h;refine List.eq_replicate_iff.2 ⟨rfl,fun b hb=>?_⟩
  have:=h b hb
  simpa using this
 intro h b hb;rw[h]at hb
 have:=List.eq_of_mem_replicate hb
 simp[this]
theorem dC {h:Nat}{t:List El}(tk:Tk h t)(a:El)(ha:a.length=2^h)(hq:Qk a):Pr prog 140 [tV h t,eV a] (.one (.bool true)):=by
 have hs:=dO tk.le8;have hn:=lB a (2^h) ha (aN tk.le8) hq;have hr:=jJ tk;refine pw func140 ⟨[0,1,4],[]⟩ ?_;simp only[Tryz.f140,ntmps140,iz,seval];simp only[vx,T,seval,tV,tC,eV,ag];refine Cg hr ?_;simp only[vx,T,seval,hs];refine⟨Int.natCast_nonneg _,Cg hn ?_⟩;simp only[vx,T,seval];exact Ve rfl
theorem lF {h:Nat}{t:List El}(tk:Tk h t)(a b:El)(ha:a.length=2^h)(hb:b.length=2^h)(hq:Qk a)(Us:Qk b):Pr prog 173 [tV h t,eV a,eV b] (.one (.bool true)):=by
 have hs:=dO tk.le8;have hn:=lB b (2^h) hb (aN tk.le8) Us;have hr:=dC tk a ha hq;refine pw func173 ⟨[0,1,2,6],[]⟩ ?_;simp only[Tryz.f173,ntmps173,iz,seval];simp only[vx,T,seval,tV,tC,eV,ag];refine Cg hr ?_;simp only[vx,T,seval,hs];refine⟨Int.natCast_nonneg _,Cg hn ?_⟩;simp only[vx,T,seval];exact Ve rfl
theorem mD {h:Nat}{t:List El}(hh:h<2^38):Pr prog 235 [tV (h+1) t] (.aB [tV h t,eV (t.getD h [])]):=by
 have w1:IntKind.i64.wrap (((h+1:Nat):Int)-1)=(h:Int):=by rw[Q4 _ (by omega)];omega
 refine pw func235 ⟨[0,2,3],[(1,.nil)]⟩ ?_;simp only[Tryz.f235,ntmps235,iz,seval];simp only[vx,T,seval,tV,tC,ag,w1];exact⟨by omega,by omega,Ve rfl⟩
theorem Ef {a:El}{n i:Nat}(h:i<n)(j:Nat):fQ a i j=fQ (a.take n) i j:=by
 unfold fQ;rw[X7,X7,List.getElem?_take_of_lt h]
theorem D5 {a:El}{n:Nat}(i j:Nat):fQ a (n+i) j=fQ (a.drop n) i j:=by
 unfold fQ;rw[X7,X7,List.getElem?_drop]
theorem ja {h:Nat}(hh:h<38){a:El}(ha:a.length=2^(h+1)):Pr prog 236 [eV a] (.aB [eV (a.take (2^h)),eV (a.drop (2^h))]):=by
 have hp:2^h<2^38:=Nat.pow_lt_pow_right (by decide) hh;obtain⟨n,hn⟩:∃n,n=2^h:=⟨_,rfl⟩;have S9:a.length=2*n:=by rw[ha,O4,hn];omega
 rw[←hn]at hp⊢;have w1:IntKind.i64.wrap (((a.length:Nat):Int).tdiv 2)=(n:Int):=by
  rw[S9,Int.tdiv_eq_ediv_of_nonneg (by omega),Q4 _ (by omega)];omega
 refine pw func236 ⟨[0,2,3],[(1,.nil)]⟩ ?_;simp only[Tryz.f236,ntmps236,iz,seval];simp only[vx,T,seval,eV,ag,w1];refine⟨by omega,by omega,Va ⟨⟨rfl,by rw[X5];omega,fun i j hi _=>Ef hi j⟩,⟨rfl,by rw[List.length_drop];omega,fun i j hi _=>D5 i j⟩,trivial⟩⟩
open Go Go.Eng
open Go.Tw (El aC aH zE aj av au ar aa QB cM ai ah)
theorem lK (a b:El)(i j:Nat):(if i<a.length then fQ a i j else fQ b (i-a.length) j)=fQ (a++b) i j:=by
 unfold fQ
 by_cases h:i<a.length
 ·rw[if_pos h,X7,X7,List.getElem?_append_left h]
 rw[if_neg h,X7,X7,List.getElem?_append_right (by omega)]
theorem Co {a b:El}{t:List El}(ha:a.length=2^0)(hb:b.length=2^0)(qa:Qk a)(qb:Qk b):
  Fr prog 215 [tV 0 t,eV a,eV b] (.rows 66 4 (aj 0 t a b).length (fQ (aj 0 t a b))):=by
 have VD:=qa.get 0;have Xg:=qb.get 0;have em:aj 0 t a b=[a.getD 0 default*b.getD 0 default]:=rfl;obtain⟨x,hx⟩:∃x,x=a.getD 0 default:=⟨_,rfl⟩;obtain⟨y,hy⟩:∃y,y=b.getD 0 default:=⟨_,rfl⟩;rw[←hx,←hy]at em;rw[←hx]at VD;rw[←hy]at Xg;refine fw func215 ⟨[0,1,2,6,7,8,9,10,11,12,13,14,26],[]⟩ ?_;simp only[Tryz.f215,ntmps215,iz,seval];simp only[vx,T,seval,tV,tC,eV,ag,←hx,←hy,qC];refine⟨by omega,by omega,Cg (Da x y VD Xg) ?_⟩;simp only[vx,T,seval,QV,QC];rw[em];refine⟨rfl,rfl,rfl,fun i j hi hj=>?_⟩;obtain rfl:i=0:=by omega
 show List.getD _ (0*4+j) _=_;rw[Nat.zero_mul,Nat.zero_add];exact dD (x*y) rfl j
theorem tS {a b:El}{h:Nat}{t:List El}(hh:h+1<38)(ha:a.length=2^(h+1))(hb:b.length=2^(h+1))(qa:Qk a)(qb:Qk b)(hz:a=zE (2^(h+1))∨b=zE (2^(h+1))):
  Fr prog 215 [tV (h+1) t,eV a,eV b] (.rows 66 4 (aj (h+1) t a b).length (fQ (aj (h+1) t a b))):=by
 have hp:2^(h+1)<2^38:=Nat.pow_lt_pow_right (by decide) hh;have em:aj (h+1) t a b=zE a.length:=by
  rw[ha]
  rcases hz with rfl|rfl
  ·exact Go.Tw.bH
  exact Go.Tw.gj
 rw[em];have ca:=dq a (by omega) qa;have cb:=dq b (by omega) qb;have cz:=oR a.length (by omega);obtain⟨za,YW⟩:∃za,za=decide (a=zE a.length):=⟨_,rfl⟩;rw[←YW]at ca;refine fw func215 ⟨[0,1,2,6,7,8,9,10,11,12,13,14,26],[]⟩ ?_;simp only[Tryz.f215,ntmps215,iz,seval];simp only[vx,T,seval,tV,tC,eV,ag];refine⟨fun h=>absurd h (by omega),fun _=>Lg ?_⟩;simp only[vx,T,seval,tV,tC,eV,ag];refine Cg ca ?_
 cases za with
 |true=>
  simp only[vx,T,seval];refine cN.fresh cz ?_;simp only[vx,T,seval];exact⟨rfl,rfl,fun _ _ _ _=>rfl⟩
 |false=>
  have Zz:b=zE b.length:=by
   rcases hz with rfl|rfl
   ·exact absurd YW (by rw[av,decide_eq_true rfl];decide)
   rw[av]
  rw[decide_eq_true Zz]at cb;simp only[vx,T,seval];refine Cg cb ?_;simp only[vx,T,seval];refine cN.fresh cz ?_;simp only[vx,T,seval];exact⟨rfl,rfl,fun _ _ _ _=>rfl⟩
theorem Cr {t:List El}{X:Nat}(hX:X<2^37){h:Nat}(ih:∀{a b:El},a.length=2^h→b.length=2^h→cM X h t a b→
  Fr prog 215 [tV h t,eV a,eV b] (.rows 66 4 (aj h t a b).length (fQ (aj h t a b)))) {a b:El} (tk:Tk (h+1) t) (ha:a.length=2^(h+1)) (hb:b.length=2^(h+1)) (hm:cM X (h+1) t a b) (nza:a≠zE (2^(h+1))) (nzb:b≠zE (2^(h+1))):
  Fr prog 215 [tV (h+1) t,eV a,eV b] (.rows 66 4 (aj (h+1) t a b).length (fQ (aj (h+1) t a b))):=by
 have hh:=tk.le8;have hp:2^(h+1)<2^38:=Nat.pow_lt_pow_right (by decide) (by omega);obtain⟨qa,qb,_,k1,k2,k5,k3,k4⟩:=hm;have qka:Qk a:=.of qa (by omega);have qkb:Qk b:=.of qb (by omega);have ca:=dq a (by omega) qka;have cb:=dq b (by omega) qkb;rw[ha,decide_eq_false nza]at ca;rw[hb,decide_eq_false nzb]at cb;have cs:=mD (h:=h) (t:=t) (by omega);have cx:=ja (h:=h) (by omega) ha;have cy:=ja (h:=h) (by omega) hb;have Tu:=ai ha;have Ts:=ah ha;have ZA:=ai hb;have Ys:=ah hb;have m1:=ih Tu ZA k1;have m2:=ih Ts Ys k2;have m5:=ih aa (tk.len h (by omega)) k5;have m3:=ih Tu Ys k3;have m4:=ih Ts ZA k4;have hph:2^h<2^38:=Nat.pow_lt_pow_right (by decide) (by omega);have a1:=kS _ _ (by rw[aa];omega) (by rw[aa,aa]) (Qk.of k1.q.2.2 (by omega)) (Qk.of k5.q.2.2 (by omega));have a2:=kS _ _ (by rw[aa];omega) (by rw[aa,aa]) (Qk.of k3.q.2.2 (by omega)) (Qk.of k4.q.2.2 (by omega));clear k1 k2 k3 k4 k5 ih;obtain⟨x,hx⟩:∃x,x=a.take (2^h):=⟨_,rfl⟩;obtain⟨y,hy⟩:∃y,y=a.drop (2^h):=⟨_,rfl⟩;obtain⟨u,hu⟩:∃u,u=b.take (2^h):=⟨_,rfl⟩;obtain⟨v,hv⟩:∃v,v=b.drop (2^h):=⟨_,rfl⟩;obtain⟨r,hr⟩:∃r,r=t.getD h []:=⟨_,rfl⟩;rw[←hr]at cs m5 a1;rw[←hx,←hy]at cx;rw[←hu,←hv]at cy;rw[←hx,←hu]at m1;rw[←hy,←hv]at m2 m5;rw[←hx,←hv]at m3;rw[←hy,←hu]at m4;rw[←hx,←hu,←hy,←hv]at a1;rw[←hx,←hv,←hy,←hu]at a2;have em:aj (h+1) t a b=aC (aj h t x u) (aj h t (aj h t y v) r)++aC (aj h t x v) (aj h t y u):=by rw[hx,hy,hu,hv,hr,Go.Tw.aj]
 rw[em];obtain⟨p1,Vh⟩:∃p,p=aj h t x u:=⟨_,rfl⟩;obtain⟨p2,UO⟩:∃p,p=aj h t y v:=⟨_,rfl⟩;rw[←UO]at m2 m5 a1⊢;obtain⟨p5,hp5⟩:∃p,p=aj h t p2 r:=⟨_,rfl⟩;obtain⟨p3,VW⟩:∃p,p=aj h t x v:=⟨_,rfl⟩;obtain⟨p4,YX⟩:∃p,p=aj h t y u:=⟨_,rfl⟩;rw[←Vh]at m1 a1⊢;rw[←hp5]at m5 a1⊢;rw[←VW]at m3 a2⊢;rw[←YX]at m4 a2⊢;obtain⟨s1,VE⟩:∃p,p=aC p1 p5:=⟨_,rfl⟩;obtain⟨s2,U4⟩:∃p,p=aC p3 p4:=⟨_,rfl⟩;have l1:s1.length=2^h:=by rw[VE];exact ar (by rw[Vh,aa]) (by rw[hp5,aa])
 have l2:s2.length=2^h:=by rw[U4];exact ar (by rw[VW,aa]) (by rw[YX,aa])
 rw[←VE]at a1⊢;rw[←U4]at a2⊢;refine fw func215 ⟨[0,1,2,6,7,8,9,10,11,12,13,14,26],[]⟩ ?_;simp only[Tryz.f215,ntmps215,iz,seval];simp only[vx,T,seval,tV,tC,eV,ag];refine⟨fun h=>absurd h (by omega),fun _=>Lg ?_⟩;simp only[vx,T,seval,tV,tC,eV,ag];refine Cg ca ?_;simp only[vx,T,seval];refine Cg cb ?_;simp only[vx,T,seval];refine Cg cs ?_;simp only[vx,T,seval,tV,tC,eV,ag];refine Cg cx ?_;simp only[vx,T,seval,tV,tC,eV,ag];refine Cg cy ?_;simp only[vx,T,seval,tV,tC,eV,ag];refine Cg m1.rows ?_;simp only[vx,T,seval,tV,tC,eV,ag];refine Cg m2.rows ?_;simp only[vx,T,seval,tV,tC,eV,ag];refine Cg m5.rows ?_;simp only[vx,T,seval,tV,tC,eV,ag];refine cN.fresh a1 ?_;simp only[vx,T,seval,tV,tC,eV,ag];refine Cg m3.rows ?_;simp only[vx,T,seval,tV,tC,eV,ag];refine Cg m4.rows ?_;simp only[vx,T,seval,tV,tC,eV,ag];refine Cg a2.rows ?_;simp only[vx,T,seval,tV,tC,eV,ag];exact⟨⟨by omega,by omega⟩,List.length_append.symm,rfl,List.length_append.symm,fun i j _ _=>lK s1 s2 i j⟩
theorem jl {t:List El}{X:Nat}(hX:X<2^37):∀{h:Nat} {a b:El},Tk h t→a.length=2^h→b.length=2^h→cM X h t a b→
  Fr prog 215 [tV h t,eV a,eV b] (.rows 66 4 (aj h t a b).length (fQ (aj h t a b))):=by
 intro h
 induction h with
 |zero=>
  intro a b _ ha hb hm;exact Co ha hb (.of hm.1 (by omega)) (.of hm.2.1 (by omega))
 |succ h ih=>
  intro a b tk ha hb hm;have hh:=tk.le8
  by_cases za:a=zE (2^(h+1))
  ·exact tS (by omega) ha hb (.of hm.1 (by omega)) (.of hm.2.1 (by omega)) (.inl za)
  by_cases zb:b=zE (2^(h+1))
  ·exact tS (by omega) ha hb (.of hm.1 (by omega)) (.of hm.2.1 (by omega)) (.inr zb)
  exact Cr hX (fun{a b} g1 g2 g3=>ih (tk.le (Nat.le_succ h)) g1 g2 g3) tk ha hb hm za zb
open Go Go.Eng
open Go.Tw (El aC aH zE aj av au ar aa QB cM ai ah)
theorem fR.cell {c c':C}(h:dH c c'):fR (.one c) (.one c'):=fun ok w v hr=>aF.bn (h ok w v (aQ.dZ hr))
theorem fR.QF {a a' b b':C}(h1:dH a a')(h2:dH b b'):fR (.agg [a,b]) (.agg [a',b']):=by
 intro ok w v hr;obtain⟨vs,e,hl⟩:=hr;refine⟨vs,e,?_⟩
 generalize vs.toList=l at hl⊢
 match l,hl with
 |[x,y],⟨k1,k2,_⟩=>exact⟨aF.bn (h1 ok w x (aQ.dZ k1)),aF.bn (h2 ok w y (aQ.dZ k2)),trivial⟩
theorem Dt {a b:Int}:fe a b=0↔a=b:=by unfold fe;split;omega;split<;>omega
theorem HZ {a b:Int}(h:¬bQ a=bQ b):fe (bQ a) (bQ b)=fe a b:=by
 unfold bQ fe at*;(repeat' split)<;>(repeat' split at h)<;>first|omega|rfl
theorem Og {a b:Int}(h:bQ a=bQ b):IntKind.i64.wrap (bQ a*fe (a.natAbs:Int) (b.natAbs:Int))=fe a b:=by
 have e:bQ a*fe (a.natAbs:Int) (b.natAbs:Int)=fe a b:=by
  rcases Int.lt_trichotomy a 0 with h0|h0|h0
  ·have e1:bQ a= -1:=by unfold bQ;rw[if_neg (by omega),if_pos h0]
   have e2:b<0:=by rw[e1]at h;unfold bQ at h;(repeat' split at h)<;>omega
   rw[e1];unfold fe;(repeat' split)<;>omega
  ·have e1:bQ a=0:=by unfold bQ;rw[if_pos h0]
   have e2:b=0:=by rw[e1]at h;unfold bQ at h;(repeat' split at h)<;>omega
   rw[e1];unfold fe;(repeat' split)<;>omega
  have e1:bQ a=1:=by unfold bQ;rw[if_neg (by omega),if_neg (by omega)]
  have e2:0<b:=by rw[e1]at h;unfold bQ at h;(repeat' split at h)<;>omega
  rw[e1];unfold fe;(repeat' split)<;>omega
 rw[e];refine Q4 _ ?_
 unfold fe;(repeat' split)<;>omega
theorem rm (a b:Int)(ha:zn a<2^42)(hb:zn b<2^42):Pr prog 163 [ZV a,ZV b] (.one (.int .i64 (fe a b))):=by
 have ca:=fZ a ha;have cb:=fZ b hb;have ta:=fX a (by omega);have tb:=fX b (by omega);refine pw func163 ⟨[0,1,2,3,4,5,6,13],[]⟩ ?_;simp only[Tryz.f163,ntmps163,iz,seval];simp only[vx,T,seval,ZV];refine Cg ca ?_;simp only[vx,T,seval,ZV];refine Cg cb ?_;simp only[vx,T,seval,ZV];refine⟨fun g=>Lg ?_,fun g=>Lg ?_⟩
 ·simp only[vx,T,seval,ZV];refine Cg (kZ _ _) ?_;simp only[vx,T,seval,ZV];exact Ve (by rw[HZ g])
 simp only[vx,T,seval,ZV];refine Cg ta ?_;simp only[vx,T,seval,ZV];refine Cg tb ?_;simp only[vx,T,seval,ZV];refine Cg (gV a.natAbs b.natAbs (by unfold zn at ha;omega) (by unfold zn at hb;omega)) ?_;simp only[vx,T,seval,ZV];exact Ve (by rw[Og g])
theorem pN (q:Rat)(hq:qm q<2^40):Pr prog 175 [QV q] (QV q):=by
 have c1:=j0 (zm q.num) (by unfold qm at hq;rw[aX];omega);have c2:=j0 (zm (q.den:Int)) (by unfold qm at hq;rw[aX,aG];omega);refine pw func175 ⟨[0,1,2],[]⟩ ?_;simp only[Tryz.f175,ntmps175,iz,seval];simp only[vx,T,seval,QV,QC];refine Cg c1 ?_;simp only[vx,T,seval];refine Cg c2 ?_;simp only[vx,T,seval];exact Ve rfl
theorem oD (a:El)(hl:a.length<2^38)(hq:Qk a):Fr prog 139 [eV a] (.rows 66 4 a.length (fQ a)):=by
 refine fw func139 ⟨[0,2,3,4,5,9,10,11,12],[]⟩ ?_;simp only[Tryz.f139,ntmps139,iz,seval];simp only[vx,T,seval,eV,ag];refine⟨by omega,Lk (fun y:{i:Nat//i≤a.length}=>⟨[(0,eV a),(3,.one (.own 1 4 0 a.length)),(9,eV a),(10,.one (.int .i64 a.length)),(11,.one (.int .i64 y.1))],[(1,⟨.rows 66 4 a.length (wQ a y.1),true⟩)],2,23⟩) (fun y=>a.length-y.1) ⟨0,O2 _⟩ ?_ (fun⟨i,hi⟩=>?_)⟩
 ·refine Sa ?_;simp only[ry,seval,rz,eV,ag];exact fun i j _ _=>s7 _ i j
 have i1:=wI i (by omega);simp only[vx,T,seval,eV,ag];refine⟨fun h1=>Lg ?_,fun h1=>Lg ?_⟩
 ·have SU:i<a.length:=by omega
  have VD:=hq.get i;obtain⟨x,hx⟩:∃x,x=a.getD i default:=⟨_,rfl⟩;rw[←hx]at VD;simp only[vx,T,seval,eV,ag,←hx,qC];refine⟨by omega,Cg (pN x (by omega)) ?_⟩;simp only[vx,T,seval,QV,QC];simp only[i1];refine⟨by omega,Lq ⟨i+1,by omega⟩ ?_ ?_⟩
  ·refine Sa ?_;simp only[ry,seval,rz,eV,ag];exact fun k j _ hj=>yf _ hx.symm k j hj
  simp only;omega
 have SU:i=a.length:=by omega
 subst SU;simp only[vx,T,seval];exact yN rfl
theorem sr (a:El)(hl:a.length<2^38):Pr prog 125 [eV a] (eV a):=by
 refine pw func125 ⟨[0,2,4],[]⟩ ?_;simp only[Tryz.f125,ntmps125,iz,seval];simp only[vx,T,seval,eV,ag];intro b hb;refine Lg ?_;simp only[vx,T,seval];refine⟨fun g=>Lg ?_,fun g=>Lg ?_⟩
 ·simp only[vx,T,seval];have h0:a=[]:=by
   cases a with
   |nil=>rfl
   |cons x xs=>have:=hb (by simp);rw[this]at g;cases g
  subst h0;exact fR.cell (.pV _ _)
 simp only[vx,T,seval];exact⟨⟨by omega,by omega⟩,fR.refl _⟩
def nV (h:Nat)(t:List El)(a:El):V:=.agg [tC h t,ag a]
theorem vB (q:Rat)(hq:qm q<2^40)(t:List El):Pr prog 126 [QV q] (nV 0 t [q]):=by
 have c:=pN q hq;refine pw func126 ⟨[0,1,2],[]⟩ ?_;simp only[Tryz.f126,ntmps126,iz,seval];simp only[vx,T,seval,QV,QC];refine Cg c ?_;simp only[vx,T,seval,QV,QC];refine fR.QF (.pV _ _) (.rows rfl fun i j hi hj=>.of_eq ?_);obtain rfl:i=0:=by omega
 show List.getD _ (0*4+j) _=_;rw[Nat.zero_mul,Nat.zero_add];exact dD q rfl j
open Go Go.Eng
open Go.Tw (El aC aH zE aj av au ar aa QB cM ai ah)
def LQ (a b:Rat):Int:=fe (a.num*b.den) (b.num*a.den)
theorem me {a:Int}{n:Nat}(h:0<n):bQ (a*n)=bQ a:=by
 rcases Int.lt_trichotomy a 0 with h0|h0|h0
 ·have:a*n<0:=Int.mul_neg_of_neg_of_pos h0 (by omega)
  unfold bQ;rw[if_neg (by omega),if_pos this,if_neg (by omega),if_pos h0]
 ·subst h0;rw[Int.zero_mul]
 have:0<a*n:=Int.mul_pos h0 (by omega)
 unfold bQ;rw[if_neg (by omega),if_neg (by omega),if_neg (by omega),if_neg (by omega)]
theorem Ew {a b:Rat}(h:¬bQ a.num=bQ b.num):fe (bQ a.num) (bQ b.num)=LQ a b:=by
 unfold LQ;rw[←me (a:=a.num) b.den_pos,←me (a:=b.num) a.den_pos];rw[←me (a:=a.num) b.den_pos,←me (a:=b.num) a.den_pos]at h;exact HZ h
theorem Cy (a b:Rat)(ha:qm a<2^38)(hb:qm b<2^38):Pr prog 117 [QV a,QV b] (.one (.int .i64 (LQ a b))):=by
 have ca:=ki a (by omega);have cb:=ki b (by omega);have na:zn a.num<2^38∧nl a.den<2^38:=by unfold qm at ha;omega
 have nb:zn b.num<2^38∧nl b.den<2^38:=by unfold qm at hb;omega
 have ma:=bT a.num (b.den:Int) (by omega) (by rw[aG];omega);have mb:=bT b.num (a.den:Int) (by omega) (by rw[aG];omega);have e1:=cZ a.num (b.den:Int);have e2:=cZ b.num (a.den:Int);rw[aG]at e1 e2;have cc:=rm (a.num*b.den) (b.num*a.den) (by omega) (by omega);refine pw func117 ⟨[0,1,2,3,4,5,6,13,16],[]⟩ ?_;simp only[Tryz.f117,ntmps117,iz,seval];simp only[vx,T,seval,QV,QC];refine Cg ca ?_;simp only[vx,T,seval,QV,QC];refine Cg cb ?_;simp only[vx,T,seval,QV,QC];refine⟨fun g=>Lg ?_,fun g=>Lg ?_⟩
 ·simp only[vx,T,seval,QV,QC];refine⟨fun g2=>Lg ?_,fun g2=>Lg ?_⟩
  ·simp only[vx,T,seval,QV,QC];exact Ve (by rw[←Ew g,gQ g2])
  simp only[vx,T,seval,QV,QC];exact Ve (by rw[←Ew g,iW (by omega)])
 simp only[vx,T,seval,QV,QC];refine Cg ma ?_;simp only[vx,T,seval,ZV];refine Cg mb ?_;simp only[vx,T,seval,ZV];refine Cg cc ?_;simp only[vx,T,seval,ZV];exact Ve rfl
end Go.Proofs.YtehahgjkjfoebaaGreat
namespace Go.Eng
open Go
end Go.Eng
namespace Go.Eng
open Go
theorem I3 {z:Int}(h:z.natAbs<18446744073709551616):qm (Rat.ofInt z)≤2:=by
 have h1:zn z≤2:=aE (by unfold BB;omega);have h2:nl 1≤1:=aE (by decide);unfold qm;rw[Rat.ofInt_num,Rat.ofInt_den];omega
end Go.Eng
namespace Go.Eng
open Go
theorem gF {n:Nat}{f:Nat→Bool}:(List.range n).all f=true↔∀i,i<n→f i=true:=by
 simp[List.all_eq_true]
theorem j8 {n:Nat}{f:Nat→Bool}{i:Nat}(h:i<n)(hf:f i=false):(List.range n).all f=false:=by
 cases hr:(List.range n).all f with
 |false=>rfl
 |true=>have:=gF.1 hr i h;rw[hf]at this;cases this
end Go.Eng
namespace Go.Proofs.YtehahgjkjfoebaaGreat
open Go.Proofs.Tryz
open Go Go.Eng
open Go.Tw (El aC aH zE aj av au ar aa QB cM ai ah)
def s8 (n m:Nat)(p:Nat→Bool):Bool:=decide (n=m)&&(List.range n).all p
theorem x7 {n m:Nat}{p:Nat→Bool}(h:¬(n:Int)=m):s8 n m p=false:=by unfold s8;rw[decide_eq_false (by omega),Bool.false_and]
theorem I1 (f:FuncId)(p:Nat→Bool)(xs ys:List Rat)(hl:xs.length<2^38)(hf:∀i,i<xs.length→Pr prog f [QV (xs.getD i default),QV (ys.getD i default)] (.one (.bool (p i)))):
  Pr prog 115 [eV xs,eV ys,.one (.fn f 0 (fun _=>.any))] (.one (.bool (s8 xs.length ys.length p))):=by
 refine pw func115 ⟨[0,1,2,6,7,8,9,14,15,16,17,18,30],[]⟩ ?_;simp only[Tryz.f115,ntmps115,iz,seval];simp only[vx,T,seval,eV,ag];refine⟨fun g=>Lg ?_,fun g=>Lg ?_⟩
 ·simp only[vx,T,seval];exact vb (x7 g).symm
 have YY:xs.length=ys.length:=by omega
 simp only[vx,T,seval,eV,ag];refine Lk (fun y:{i:Nat//i≤xs.length∧∀k,k<i→p k=true}=>⟨[(1,eV ys),(2,.one (.fn f 0 (fun _=>.any))),(15,eV xs),(16,.one (.int .i64 xs.length)),(17,.one (.int .i64 y.1))],[],1,32⟩) (fun y=>xs.length-y.1) ⟨0,O2 _,fun k h=>absurd h (O5 _)⟩ ?_ (fun⟨i,hi,hz⟩=>?_)
 ·refine Sa ?_;simp only[ry,seval,rz,eV,ag]
 have i1:=wI i (by omega);simp only[vx,T,seval,eV,ag];refine⟨fun h1=>Lg ?_,fun h1=>Lg ?_⟩
 ·have VI:=hf i (by omega);obtain⟨a,ha⟩:∃a,a=xs.getD i default:=⟨_,rfl⟩;obtain⟨b,hb⟩:∃b,b=ys.getD i default:=⟨_,rfl⟩;rw[←ha,←hb]at VI;simp only[vx,T,seval,eV,ag,←ha,←hb,qC];refine⟨by omega,by omega,Cg VI ?_⟩;simp only[vx,T,seval];refine⟨fun h2=>Lg ?_,fun h2=>Lg ?_⟩
  ·simp only[vx,T,seval];have h2:p i=false:=by simpa using h2
   exact vb (by unfold s8;rw[j8 (by omega) h2,Bool.and_false])
  simp only[vx,T,seval];simp only[i1];refine Lq ⟨i+1,by omega,fun k hk=>?_⟩ ?_ ?_
  ·by_cases h3:k<i
   ·exact hz k h3
   rw[show k=i by omega];simpa using h2
  ·refine Sa ?_;simp only[ry,seval,rz,eV,ag]
  simp only;omega
 simp only[vx,T,seval];exact vb (by unfold s8;rw[decide_eq_true YY,Bool.true_and];exact(gF.2 fun k hk=>hz k (by omega)).symm)
theorem IL (f:FuncId)(p:Nat→Bool)(t u:List El)(n m:Nat)(hl:n<2^38)(hf:∀i,i<n→i<m→Pr prog f [eV (t.getD i []),eV (u.getD i [])] (.one (.bool (p i)))):
  Pr prog 114 [tV n t,tV m u,.one (.fn f 0 (fun _=>.any))] (.one (.bool (s8 n m p))):=by
 refine pw func114 ⟨[0,1,2,6,7,8,9,14,15,16,17,18,30],[]⟩ ?_;simp only[Tryz.f114,ntmps114,iz,seval];simp only[vx,T,seval,tV,tC,eV,ag];refine⟨fun g=>Lg ?_,fun g=>Lg ?_⟩
 ·simp only[vx,T,seval];exact vb (x7 g).symm
 have YY:n=m:=by omega
 simp only[vx,T,seval,tV,tC,eV,ag];refine Lk (fun y:{i:Nat//i≤n∧∀k,k<i→p k=true}=>⟨[(1,tV m u),(2,.one (.fn f 0 (fun _=>.any))),(15,tV n t),(16,.one (.int .i64 n)),(17,.one (.int .i64 y.1))],[],1,32⟩) (fun y=>n-y.1) ⟨0,O2 _,fun k h=>absurd h (O5 _)⟩ ?_ (fun⟨i,hi,hz⟩=>?_)
 ·refine Sa ?_;simp only[ry,seval,rz,tV,tC,eV,ag]
 have i1:=wI i (by omega);simp only[vx,T,seval,tV,tC,eV,ag];refine⟨fun h1=>Lg ?_,fun h1=>Lg ?_⟩
 ·have VI:=hf i (by omega) (by omega);simp only[vx,T,seval,tV,tC,eV,ag];refine⟨by omega,by omega,Cg VI ?_⟩;simp only[vx,T,seval];refine⟨fun h2=>Lg ?_,fun h2=>Lg ?_⟩
  ·simp only[vx,T,seval];have h2:p i=false:=by simpa using h2
   exact vb (by unfold s8;rw[j8 (by omega) h2,Bool.and_false])
  simp only[vx,T,seval];simp only[i1];refine Lq ⟨i+1,by omega,fun k hk=>?_⟩ ?_ ?_
  ·by_cases h3:k<i
   ·exact hz k h3
   rw[show k=i by omega];simpa using h2
  ·refine Sa ?_;simp only[ry,seval,rz,tV,tC,eV,ag]
  simp only;omega
 simp only[vx,T,seval];exact vb (by unfold s8;rw[decide_eq_true YY,Bool.true_and];exact(gF.2 fun k hk=>hz k (by omega)).symm)
open Go Go.Eng
open Go.Tw (El aC aH zE aj av au ar aa QB cM ai ah)
theorem kF {h:Nat}{t:List El}(tk:Tk h t)(a b:El)(ha:a.length=2^h)(hb:b.length=2^h)(hq:Qk a)(Us:Qk b):Pr prog 169 [tV h t,eV a,eV b] (eV (aC a b)):=by
 have hp:=aN tk.le8;have c:=lF tk a b ha hb hq Us;have d:=(kS a b (by omega) (by omega) hq Us).rows;refine pw func169 ⟨[0,1,2,6,11],[]⟩ ?_;simp only[Tryz.f169,ntmps169,iz,seval];simp only[vx,T,seval,tV,tC,eV,ag];refine Cg c ?_;simp only[vx,T,seval,tV,tC,eV,ag];refine Cg d ?_;simp only[vx,T,seval,tV,tC,eV,ag];exact Ve rfl
theorem wG {h:Nat}{t:List El}(tk:Tk h t)(a:El)(ha:a.length=2^h)(hq:Qk a):Pr prog 94 [tV h t,eV a] (eV (aH a)):=by
 have hp:=aN tk.le8;have c:=dC tk a ha hq;have d:=(om a (by omega) hq).rows;refine pw func94 ⟨[0,1,4,8],[]⟩ ?_;simp only[Tryz.f94,ntmps94,iz,seval];simp only[vx,T,seval,tV,tC,eV,ag];refine Cg c ?_;simp only[vx,T,seval,tV,tC,eV,ag];refine Cg d ?_;simp only[vx,T,seval,tV,tC,eV,ag];exact Ve rfl
theorem fv {h X:Nat}{t:List El}(hX:X<2^37)(tk:Tk h t)(a b:El)(ha:a.length=2^h)(hb:b.length=2^h)(hm:cM X h t a b):Pr prog 168 [tV h t,eV a,eV b] (eV (aj h t a b)):=by
 have c:=lF tk a b ha hb (.of hm.q.1 (by omega)) (.of hm.q.2.1 (by omega));have d:=(jl hX tk ha hb hm).rows;refine pw func168 ⟨[0,1,2,6,11],[]⟩ ?_;simp only[Tryz.f168,ntmps168,iz,seval];simp only[vx,T,seval,tV,tC,eV,ag];refine Cg c ?_;simp only[vx,T,seval,tV,tC,eV,ag];refine Cg d ?_;simp only[vx,T,seval,tV,tC,eV,ag];exact Ve rfl
theorem z8 (a b:Rat)(ha:qm a<2^38)(hb:qm b<2^38):Pr prog 116 [QV a,QV b] (.one (.bool (decide (a=b)))):=by
 have c:=Cy a b ha hb;refine pw func116 ⟨[0,1,2,3,4],[]⟩ ?_;simp only[Tryz.f116,ntmps116,iz,seval];simp only[vx,T,seval,QV,QC];refine Cg c ?_;simp only[vx,T,seval,QV,QC];refine vb (decide_eq_decide.2 ?_);unfold LQ;rw[Dt]
 constructor
 ·intro h;rw[←Rat.mkRat_self a,←Rat.mkRat_self b];exact(Rat.mkRat_eq_iff a.den_nz b.den_nz).2 h
 rintro rfl;rfl
open Go Go.Eng
open Go.Tw (El aC aH zE aj av au ar aa QB cM ai ah)
def II (a b:El):Bool:=s8 a.length b.length fun i=>decide (a.getD i default=b.getD i default)
theorem EM {a b:El}:II a b=true↔a=b:=by
 unfold II s8;rw[Bool.and_eq_true,decide_eq_true_eq,gF]
 constructor
 ·rintro⟨h1,h2⟩;refine List.ext_getElem h1 fun i g1 g2=>?_
  have:=of_decide_eq_true (h2 i g1)
  rwa [eY g1,eY g2]at this
 rintro rfl;exact⟨rfl,fun i _=>decide_eq_true rfl⟩
theorem qQ (a b:El)(hl:a.length<2^38)(ha:Qk a)(hb:Qk b):Pr prog 73 [eV a,eV b] (.one (.bool (decide (a=b)))):=by
 have c:=I1 116 (fun i=>decide (a.getD i default=b.getD i default)) a b hl (fun i _=>z8 _ _ (ha.get i) (hb.get i));have e:decide (a=b)=II a b:=by rw[Bool.eq_iff_iff,decide_eq_true_eq,EM]
 rw[e];refine pw func73 ⟨[0,1,4],[]⟩ ?_;simp only[Tryz.f73,ntmps73,iz,seval];simp only[vx,T,seval,eV,ag];refine Cg c ?_;simp only[vx,T,seval];exact Ve rfl
def eJ (h k:Nat)(t u:List El):Bool:=decide (k≤h)&&(List.range k).all fun i=>decide (t.getD i []=u.getD i [])
theorem hO {h k:Nat}{t u:List El}(tk:Tk h t)(uk:Tk k u):Pr prog 72 [tV h t,tV k u] (.one (.bool (eJ h k t u))):=by
 have h8:=tk.le8;have k8:=uk.le8;have c:=IL 73 (fun i=>decide (t.getD i []=u.getD i [])) t u k k (by omega);refine pw func72 ⟨[0,1,4],[]⟩ ?_;simp only[Tryz.f72,ntmps72,iz,seval];simp only[vx,T,seval,tV,tC,eV,ag];refine⟨fun g=>Lg ?_,fun g=>Lg ?_⟩
 ·have hf:∀i,i<k→i<k→Pr prog 73 [eV (t.getD i []),eV (u.getD i [])] (.one (.bool (decide (t.getD i []=u.getD i [])))):=fun i hi _=>
   qQ _ _ (by rw[tk.len i (by omega)];exact aN (by omega)) (tk.q i (by omega)) (uk.q i hi)
  simp only[vx,T,seval,tV,tC,eV,ag];refine⟨by omega,Cg (c hf) ?_⟩;simp only[vx,T,seval];exact vb (by unfold eJ s8;rw[decide_eq_true rfl,decide_eq_true (by omega:k≤h)])
 simp only[vx,T,seval];exact vb (by unfold eJ;rw[decide_eq_false (by omega:¬k≤h)];rfl)
end Go.Proofs.YtehahgjkjfoebaaGreat
namespace Go.Tw
open Go Go.Eng
theorem td (x:Rat):(if 0<x then 1 else if x<0 then-1 else 0:Int)=Go.Eng.bQ x.num:=by
 have h1:0≤x.num↔0≤x:=Rat.num_nonneg;have h2:x.num=0↔x=0:=Rat.num_eq_zero;unfold Go.Eng.bQ
 by_cases h0:x=0
 ·rw[if_pos (h2.2 h0),h0,if_neg (Rat.lt_irrefl),if_neg (Rat.lt_irrefl)]
 rw[if_neg (fun h=>h0 (h2.1 h))]
 by_cases hp:0≤x
 ·rw[if_pos (Rat.lt_of_le_of_ne hp (Ne.symm h0)),if_neg (by have:=h1.2 hp;omega)]
 rw[if_neg (fun h=>hp (Rat.le_of_lt h)),if_pos (Rat.not_le.1 hp),if_pos (by have:=mt h1.1 hp;omega)]
theorem dF {h:Nat}{t:List El}:∀{a:El},-1≤bp h t a∧bp h t a≤1:=by
 induction h with
 |zero=>
  intro a;unfold bp
  split
  ·omega
  split<;>omega
 |succ h ih=>
  intro a;rw[bp]
  split
  ·exact ih
  split
  ·exact ih
  have h1:=@ih (a.take (2^h));have h2:=@ih (aO h t a);have e:∀x y:Int,-1≤x∧x≤1→ -1≤y∧y≤1→ -1≤x*y∧x*y≤1:=fun x y hx hy=>by
   have:x= -1∨x=0∨x=1:=by omega
   rcases this with rfl|rfl|rfl<;>omega
  exact e _ _ h1 h2
theorem oe {h:Nat}{t:List El}(a:El):aC (aj h t (a.take (2^h)) (a.take (2^h))) (aH (aj h t (t.getD h []) (aj h t (a.drop (2^h)) (a.drop (2^h)))))=aO h t a:=by
 unfold aO;rw[lq (t.getD h [])]
end Go.Tw
namespace Go.Proofs.YtehahgjkjfoebaaGreat
open Go.Proofs.Tryz
open Go Go.Eng
open Go.Tw (El aC aH zE aj av au ar aa QB cM ai ah aO aJ yS tB aU aA)
structure TQ (h:Nat) (t:List El):Prop where
 tk:Tk h t
 h6:h≤6
 q:∀i,i<h→QB tB (t.getD i [])
theorem TQ.le {h k:Nat}{t:List El}(W:TQ h t)(hk:k≤h):TQ k t:=⟨W.tk.le hk,by have:=W.h6;omega,fun i hi=>W.q i (by omega)⟩
theorem re {h:Nat}{t:List El}(tk:Tk h t)(a b:El)(ha:a.length=2^h)(hb:b.length=2^h)(hq:Qk a)(Us:Qk b):Pr prog 124 [tV h t,eV a,eV b] (eV (aC a (aH b))):=by
 have hp:=aN tk.le8;have c:=lF tk a b ha hb hq Us;have hqn:Qk (aH b):=fun x hx=>by
  obtain⟨y,hy,rfl⟩:=List.mem_map.1 hx;rw[Go.Tw.Df];exact Us y hy
 have d:=(om b (by omega) Us).rows;have e:=(kS a (aH b) (by omega) (by rw[au];omega) hq hqn).rows;refine pw func124 ⟨[0,1,2,6,11],[]⟩ ?_;simp only[Tryz.f124,ntmps124,iz,seval];simp only[vx,T,seval,tV,tC,eV,ag];refine Cg c ?_;simp only[vx,T,seval,tV,tC,eV,ag];refine Cg d ?_;simp only[vx,T,seval,tV,tC,eV,ag];refine Cg e ?_;simp only[vx,T,seval,tV,tC,eV,ag];exact Ve rfl
theorem uT {h X:Nat}{t:List El}(W:TQ (h+1) t)(a:El)(ha:a.length=2^(h+1))(hX:X<2^37)(hN:yS X h t a):Fr prog 241 [tV (h+1) t,eV a] (.rows 66 4 (aO h t a).length (fQ (aO h t a))):=by
 have W':=W.le (Nat.le_succ h);have h6:=W.h6;have cs:=mD (h:=h) (t:=t) (by omega);have ch:=ja (h:=h) (by omega) ha;have Tu:=ai ha;have Ts:=ah ha;have hp:=aN W'.tk.le8;have hr:=W.tk.len h (by omega);obtain⟨k1,k2,k3⟩:=hN;have m1:=jl hX W'.tk Tu Tu k1;have m2:=jl hX W'.tk Ts Ts k2;have m3:=jl hX W'.tk aa hr k3;have g1:=k1.q.2.2;have g3:=k3.q.2.2;obtain⟨x,hx⟩:∃x,x=a.take (2^h):=⟨_,rfl⟩;obtain⟨y,hy⟩:∃y,y=a.drop (2^h):=⟨_,rfl⟩;obtain⟨r,SQ⟩:∃r,r=t.getD h []:=⟨_,rfl⟩;have em:aO h t a=aC (aj h t x x) (aH (aj h t (aj h t y y) r)):=by rw[hx,hy,SQ];rfl
 rw[←hx,←hy]at ch;rw[←SQ]at cs hr m3 g3;rw[←hx]at m1 g1;rw[←hy]at m2 m3 g3;have n1:=om _ (by rw[aa];omega) (Qk.of g3 (by omega));have a1:=kS _ (aH (aj h t (aj h t y y) r)) (by rw[aa];omega) (by rw[au,aa,aa]) (Qk.of g1 (by omega)) (Qk.of g3.neg (by omega));rw[←em]at a1;clear em ha k1 k2 k3;have m1:=m1.rows;have m2:=m2.rows;have m3:=m3.rows;have n1:=n1.rows;refine fw func241 ⟨[0,1,4,5,6,7,8],[]⟩ ?_;simp only[Tryz.f241,ntmps241,iz,seval];simp only[vx,T,seval,tV,tC,eV,ag];refine Cg cs ?_;simp only[vx,T,seval,tV,tC,eV,ag];refine Cg ch ?_;simp only[vx,T,seval,tV,tC,eV,ag];refine Cg m1 ?_;simp only[vx,T,seval,tV,tC,eV,ag];refine Cg m2 ?_;simp only[vx,T,seval,tV,tC,eV,ag];refine Cg m3 ?_;simp only[vx,T,seval,tV,tC,eV,ag];refine Cg n1 ?_;simp only[vx,T,seval,tV,tC,eV,ag];refine cN.fresh a1 ?_;simp only[vx,T,seval,tV,tC,eV,ag];exact⟨rfl,rfl,fun _ _ _ _=>rfl⟩
theorem tG {h X:Nat}{t:List El}(W:TQ (h+1) t)(a:El)(ha:a.length=2^(h+1))(hX:X<2^37)(hq:QB X a)(hN:yS X h t a):Pr prog 246 [tV (h+1) t,eV a] (eV (aO h t a)):=by
 have c:=dC W.tk a ha (.of hq (by omega));have d:=(uT W a ha hX hN).rows;refine pw func246 ⟨[0,1,4,13],[]⟩ ?_;simp only[Tryz.f246,ntmps246,iz,seval];simp only[vx,T,seval,tV,tC,eV,ag];refine Cg c ?_;simp only[vx,T,seval,tV,tC,eV,ag];refine⟨fun h=>absurd h (by omega),fun _=>Lg ?_⟩;simp only[vx,T,seval,tV,tC,eV,ag];refine Cg d ?_;simp only[vx,T,seval,tV,tC,eV,ag];exact Ve rfl
theorem Kz (h:Nat)(q:Rat)(k j:Nat)(hj:j<4):
  bz (fQ (zE (2^h))) 0 0 [C.bool (zs q.num),C.ints .u32 (zm q.num),C.bool (zs (q.den:Int)),C.ints .u32 (zm (q.den:Int))] k j=fQ (aU h q) k j:=by
 have hp:0<2^h:=Nat.pow_pos (by decide);unfold bz
 by_cases hk:k=0
 ·subst hk;rw[if_pos rfl,if_pos (O2 _),if_pos (by simpa using hj),Nat.sub_zero];exact dD q rfl j
 rw[if_neg hk];unfold fQ aU
 congr 1
 rw[X7,X7,List.getElem?_cons,if_neg hk];unfold zE;rw[List.getElem?_replicate,List.getElem?_replicate]
 by_cases h2:k<2^h
 ·rw[if_pos h2,if_pos (by omega)]
 rw[if_neg h2,if_neg (by omega)]
theorem eI {h:Nat}{t:List El}(tk:Tk h t)(q:Rat)(hq:qm q<2^38):Pr prog 166 [tV h t,QV q] (eV (aU h q)):=by
 have c:=jJ tk;have d:=wh q (by omega);have hp:=aN tk.le8;have z:=oR (2^h) hp;have w:=dO tk.le8;have hz:(zE (2^h)).length=2^h:=av;have hp0:0<2^h:=Nat.pow_pos (by decide);refine pw func166 ⟨[0,1,3,4,5,13],[]⟩ ?_;simp only[Tryz.f166,ntmps166,iz,seval];simp only[vx,T,seval,tV,tC,QV,QC];refine Cg c ?_;simp only[vx,T,seval,tV,tC];refine Cg d ?_;simp only[vx,T,seval,tV,tC,w];refine⟨Int.natCast_nonneg _,cN.fresh z ?_⟩;simp only[vx,T,seval,tV,tC,QV,QC];exact⟨by omega,fR.cell (dH.rows (by rw[hz,Go.Tw.aA]) (fun i j _ hj=>dH.of_eq (Kz h q i j hj)))⟩
open Go Go.Eng
open Go.Tw (El aC aH zE aj av au ar aa QB cM ai ah aO aJ tB aU aA bp iF dF td oe)
theorem fF {a:El}{n:Nat}(h:n≤a.length):dH (.rows 4 n (fun i=>qC (a.getD i default))) (ag (a.take n)):=
 dH.rows (by rw[X5];omega) fun i j hi _=>dH.of_eq (Ef hi j)
theorem e9 {a:El}{n:Nat}:dH (.rows 4 (a.length-n) (fun i=>qC (a.getD (n+i) default))) (ag (a.drop n)):=
 dH.rows (by rw[List.length_drop]) fun i j _ _=>dH.of_eq (D5 i j)
theorem OL {t:List El}{a:El}(ha:a.length=2^0)(hq:Qk a):Pr prog 123 [tV 0 t,eV a] (.one (.int .i64 (bp 0 t a))):=by
 obtain⟨x,rfl⟩:=Go.Tw.bw ha;have hx:qm x<2^38:=hq x (by simp);have e:bp 0 t [x]=bQ x.num:=td x;have c:=ki x (by omega);rw[e];refine pw func123 ⟨[0,1,4,5,6,7,8,9,10,11,12,15,41,50],[(4,.nil)]⟩ ?_;simp only[Tryz.f123,ntmps123,iz,seval];simp only[vx,T,seval,tV,tC,eV,ag,qC,X0];refine Cg c ?_;simp only[vx,T,seval,ag];exact Ve rfl
theorem js {X:Nat}(hX:X<2^37){t:List El}:∀{h:Nat} {a:El},TQ h t→a.length=2^h→iF X h t a→Pr prog 123 [tV h t,eV a] (.one (.int .i64 (bp h t a)))
 |0,a,_,ha,hi=>OL ha (.of hi.qb (by omega))
 |h+1,a,W,ha,hi=>by
  have W':=W.le (Nat.le_succ h);obtain⟨Vm,⟨k1,k2,k3⟩,i1,i2,i3⟩:=hi;have Tu:=ai ha;have Ts:=ah ha;have v1:=js hX W' Tu i1;have v2:=js hX W' Ts i2;have v3:=js hX W' aJ i3;have h6:=W.h6;have hp:=aN W'.tk.le8;have hr:=W.tk.len h (by omega);have m1:=fv hX W'.tk _ _ Tu Tu k1;have m2:=fv hX W'.tk _ _ Ts Ts k2;have m3:=fv hX W'.tk _ _ hr aa k3.comm;have su:=re W'.tk _ _ aa aa (Qk.of k1.q.2.2 (by omega)) (Qk.of k3.comm.q.2.2 (by omega));rw[oe]at su;have hn:(2^h:Nat)≤a.length:=by rw[ha,O4];omega
  have SJ:a.length-2^h=(a.drop (2^h)).length:=by rw[List.length_drop]
  have cT:=fF hn;have cD:=e9 (a:=a) (n:=2^h);have v1:=v1.args (xs:=[tV h t,.one (.rows 4 (2^h) (fun i=>qC (a.getD i default)))]) ⟨.refl _,.cell cT,trivial⟩;have v2:=v2.args (xs:=[tV h t,.one (.rows 4 (a.length-2^h) (fun i=>qC (a.getD (2^h+i) default)))]) ⟨.refl _,.cell cD,trivial⟩;have m1:=m1.args (xs:=[tV h t,.one (.rows 4 (2^h) (fun i=>qC (a.getD i default))),.one (.rows 4 (2^h) (fun i=>qC (a.getD i default)))]) ⟨.refl _,.cell cT,.cell cT,trivial⟩;have m2:=m2.args (xs:=[tV h t,.one (.rows 4 (a.length-2^h) (fun i=>qC (a.getD (2^h+i) default))),.one (.rows 4 (a.length-2^h) (fun i=>qC (a.getD (2^h+i) default)))]) ⟨.refl _,.cell cD,.cell cD,trivial⟩;obtain⟨n,SY⟩:∃n,n=2^h:=⟨_,rfl⟩;have S9:a.length=2*n:=by rw[ha,O4,SY];omega
  have e:bp (h+1) t a=if bp h t (a.drop (2^h))=0∨bp h t (a.take (2^h))=bp h t (a.drop (2^h))then bp h t (a.take (2^h))else if bp h t (a.take (2^h))=0 then bp h t (a.drop (2^h))else bp h t (a.take (2^h))*bp h t (aO h t a):=rfl
  have r1:=@dF h t (a.take (2^h));have r3:=@dF h t (aO h t a);obtain⟨s1,VE⟩:∃s,s=bp h t (a.take (2^h)):=⟨_,rfl⟩;obtain⟨s2,U4⟩:∃s,s=bp h t (a.drop (2^h)):=⟨_,rfl⟩;obtain⟨s3,YZ⟩:∃s,s=bp h t (aO h t a):=⟨_,rfl⟩;rw[←VE,←U4,←YZ]at e;rw[←VE]at v1 r1;rw[←U4]at v2;rw[←YZ]at v3 r3;rw[e];rw[←SY]at v1 v2 m1 m2 su m3 hp;have w1:IntKind.i64.wrap (((h+1:Nat):Int)-1)=(h:Int):=by rw[Q4 _ (by omega)];omega
  have w2:IntKind.i64.wrap (((a.length:Nat):Int).tdiv 2)=(n:Int):=by
   rw[S9,Int.tdiv_eq_ediv_of_nonneg (by omega),Q4 _ (by omega)];omega
  have w4:((a.length:Int)-(n:Int)).toNat=a.length-n:=by omega
  have w3:IntKind.i64.wrap (s1*s3)=s1*s3:=by
   rw[Q4]
   have:s1= -1∨s1=0∨s1=1:=by omega
   rcases this with h|h|h<;>rw [h]<;>omega
  obtain⟨r,SQ⟩:∃r,r=t.getD h []:=⟨_,rfl⟩;rw[←SQ]at m3 su;clear Vm i1 i2 i3 Tu Ts k1 k2 k3 hr VE U4 YZ cT cD W;refine pw func123 ⟨[0,1,4,5,6,7,8,9,10,11,12,15,41,50],[(4,.nil)]⟩ ?_;simp only[Tryz.f123,ntmps123,iz,seval];simp only[vx,T,seval,tV,tC,eV,ag,w1,w2];refine⟨fun h=>absurd h (by omega),fun _=>Lg ?_⟩;simp only[vx,T,seval,tV,tC,eV,ag,w1,w2];refine⟨⟨by omega,by omega⟩,⟨by omega,by omega⟩,⟨by omega,by omega,by omega⟩,Cg v1 ?_⟩;simp only[vx,T,seval,tV,tC,eV,ag,w1,w2,w4];refine Cg v2 ?_;simp only[vx,T,seval,tV,tC,eV,ag,w1,w2,w4];refine⟨fun k2=>Lg ?_,fun k2=>Lg ?_⟩
  ·rw[if_pos (.inl k2)];simp only[vx,T,seval,tV,tC,eV,ag,w1,w2,w4];exact Ve rfl
  simp only[vx,T,seval,tV,tC,eV,ag,w1,w2,w4];refine⟨fun k3=>Lg ?_,fun k3=>Lg ?_⟩
  ·rw[if_pos (.inr k3)];simp only[vx,T,seval,tV,tC,eV,ag,w1,w2,w4];exact Ve rfl
  rw[if_neg (not_or.2 ⟨k2,k3⟩)];simp only[vx,T,seval,tV,tC,eV,ag,w1,w2,w4];refine⟨fun k1=>Lg ?_,fun k1=>Lg ?_⟩
  ·rw[if_pos k1];simp only[vx,T,seval,tV,tC,eV,ag,w1,w2,w4];exact Ve rfl
  rw[if_neg k1];simp only[vx,T,seval,tV,tC,eV,ag,w1,w2,w4];refine Cg m1 ?_;simp only[vx,T,seval,tV,tC,eV,ag,w1,w2,w4,←SQ];refine⟨⟨by omega,by omega⟩,Cg m2 ?_⟩;simp only[vx,T,seval,tV,tC,eV,ag,w1,w2,w4,←SQ];refine Cg m3 ?_;simp only[vx,T,seval,tV,tC,eV,ag,w1,w2,w4,←SQ];refine Cg su ?_;simp only[vx,T,seval,tV,tC,eV,ag,w1,w2,w4,←SQ];refine Cg v3 ?_;simp only[vx,T,seval,tV,tC,eV,ag,w1,w2,w4,w3,←SQ];exact Ve rfl
open Go Go.Eng
open Go.Tw (El aC aH zE aj av au ar aa QB cM ai ah aO aJ tB aU aA bp iF dF Rl val)
structure yb (X h:Nat) (t:List El):Prop where
 tq:TQ h t
 s:∀i,i<h→iF X i t (t.getD i [])
 p:∀i,i<h→0<bp i t (t.getD i [])
theorem yb.le {X h k:Nat}{t:List El}(W:yb X h t)(hk:k≤h):yb X k t:=⟨W.tq.le hk,fun i hi=>W.s i (by omega),fun i hi=>W.p i (by omega)⟩
theorem E9 {X h:Nat}(hX:X<2^37){t:List El}(W:yb X h t):Pr prog 172 [tV h t] (.one (.bool true)):=by
 have h3:=W.tq.h6;have z:=cP 0 (by decide) (by decide);have f:=eI W.tq.tk (Rat.ofInt 0) (by decide+kernel);have hqz:Qk (aU h (Rat.ofInt 0)):=fun x hx=>by
  unfold aU at hx
  rcases List.mem_cons.1 hx with rfl|hx
  ·decide+kernel
  rw[List.eq_of_mem_replicate hx];decide+kernel
 have g:=dC W.tq.tk (aU h (Rat.ofInt 0)) aA hqz;have v:∀i,i<h→Pr prog 123 [tV i t,eV (t.getD i [])] (.one (.int .i64 (bp i t (t.getD i [])))):=fun i hi=>
  js hX (W.tq.le (by omega)) (W.tq.tk.len i hi) (W.s i hi)
 refine pw func172 ⟨[0,2,3,4,10,11,12,13,14,23],[]⟩ ?_;simp only[Tryz.f172,ntmps172,iz,seval];simp only[vx,T,seval,tV,tC,ag];refine Cg z ?_;simp only[vx,T,seval,tV,tC,QV,QC];refine Cg f ?_;simp only[vx,T,seval,tV,tC,eV,ag];refine Cg g ?_;simp only[vx,T,seval,tV,tC,eV,ag];have h0:h<2^60:=by omega
 refine Lk (fun y:{i:Nat//i≤h}=>⟨[(0,tV h t),(2,.one (.bool false)),(11,tV h t),(12,.one (.int .i64 h)),(13,.one (.int .i64 y.1))],[],2,25⟩) (fun y=>h-y.1) ⟨0,O2 _⟩ ?_ (fun⟨i,hi⟩=>?_)
 ·refine Sa ?_;simp only[ry,seval,rz,tV,tC,ag]
 simp only;have wi:=wI i (by omega);simp only[vx,T,seval,tV,tC,ag];refine⟨fun k=>Lg ?_,fun k=>Lg ?_⟩
 ·have SI:i<h:=by omega
  have vi:=v i SI;have pi:=W.p i SI;simp only[vx,T,seval,tV,tC,ag];refine⟨⟨by omega,by omega⟩,⟨by omega,by omega⟩,Cg vi ?_⟩;simp only[vx,T,seval,tV,tC,ag];refine⟨fun hh=>absurd hh (by omega),fun _=>Lg ?_⟩;simp only[vx,T,seval,tV,tC,ag,wi];refine Lq ⟨i+1,by omega⟩ ?_ (by show h-(i+1)<h-i;omega);refine Sa ?_;simp only[ry,seval,rz,tV,tC,ag]
 simp only[vx,T,seval,tV,tC,ag];exact Ve rfl
theorem FO {X h:Nat}(hX:X<2^37){t l:List El}(W:yb X h t)(hl:l.length<2^60)(hf:∀i,i<l.length→(l.getD i []).length=2^h∧Qk (l.getD i [])):Pr prog 122 [tV h t,tV l.length l] (.one (.bool true)):=by
 have r:=E9 hX W;have v:∀i,i<l.length→Pr prog 140 [tV h t,eV (l.getD i [])] (.one (.bool true)):=fun i hi=>dC W.tq.tk _ (hf i hi).1 (hf i hi).2;clear hf;refine pw func122 ⟨[0,1,4,6,7,8,9,10,16],[]⟩ ?_;simp only[Tryz.f122,ntmps122,iz,seval];simp only[vx,T,seval,tV,tC,ag];refine Lk (fun y:{i:Nat//i≤l.length}=>⟨[(0,tV h t),(1,tV l.length l),(4,.one (.bool false)),(7,tV l.length l),(8,.one (.int .i64 l.length)),(9,.one (.int .i64 y.1))],[],2,20⟩) (fun y=>l.length-y.1) ⟨0,O2 _⟩ ?_ (fun⟨i,hi⟩=>?_)
 ·refine Sa ?_;simp only[ry,seval,rz,tV,tC,ag]
 simp only;have wi:=wI i (by omega);simp only[vx,T,seval,tV,tC,ag];refine⟨fun k=>Lg ?_,fun k=>Lg ?_⟩
 ·have SI:i<l.length:=by omega
  have vi:=v i SI;simp only[vx,T,seval,tV,tC,ag];refine⟨⟨by omega,by omega⟩,Cg vi ?_⟩;simp only[vx,T,seval,tV,tC,ag,wi];refine Lq ⟨i+1,by omega⟩ ?_ (by show l.length-(i+1)<l.length-i;omega);refine Sa ?_;simp only[ry,seval,rz,tV,tC,ag]
 simp only[vx,T,seval,tV,tC,ag];refine Cg r ?_;simp only[vx,T,seval,tV,tC,ag];exact Ve rfl
theorem kW {X h:Nat}(hX:X<2^37){t:List El}{a:El}(W:yb X h t)(ha:a.length=2^h)(hs:iF X h t a):Pr prog 127 [tV h t,eV a] (.one (.int .i64 (bp h t a))):=by
 have v:=js hX W.tq ha hs;have g:=FO hX (l:=[a]) W (by show(1:Nat)<2^60;decide) (fun i hi=>by
  obtain rfl:i=0:=by
               have:i<1:=hi
               omega
  exact⟨ha,.of hs.qb (by omega)⟩)
 refine pw func127 ⟨[0,1,4,9],[]⟩ ?_;simp only[Tryz.f127,ntmps127,iz,seval];simp only[vx,T,seval,tV,tC,eV,ag];refine Cg (g.args ⟨.refl _,.cell (.rows rfl fun i j hi hj=>.of_eq ?_),trivial⟩) ?_
 ·obtain rfl:i=0:=by omega
  obtain rfl:j=0:=by omega
  rfl
 simp only[vx,T,seval,tV,tC,eV,ag];refine Cg v ?_;simp only[vx,T,seval,tV,tC,eV,ag];exact Ve rfl
end Go.Proofs.YtehahgjkjfoebaaGreat
namespace Go.Eng
def cJ:Nat→Nat
 |0=>0
 |n+1=>if(cJ n+1)*(cJ n+1)≤n+1 then cJ n+1 else cJ n
theorem jt:∀n,cJ n*cJ n≤n∧n<(cJ n+1)*(cJ n+1)
 |0=>by decide
 |n+1=>by
  have⟨h1,h2⟩:=jt n
  rw[cJ]
  split
  ·rename_i h
   refine⟨h,?_⟩;have e:(cJ n+1+1)*(cJ n+1+1)=(cJ n+1)*(cJ n+1)+2*cJ n+3:=by
    simp only[Nat.mul_add,Nat.add_mul,Nat.mul_one,Nat.one_mul];omega
   rw[e];omega
  rename_i h
  exact⟨by omega,by omega⟩
theorem tL {n s:Nat}(h1:s*s≤n)(h2:n<(s+1)*(s+1)):cJ n=s:=by
 have⟨k1,k2⟩:=jt n
 rcases Nat.lt_trichotomy (cJ n) s with h|h|h
 ·have:=Nat.mul_le_mul (show cJ n+1≤s by omega) (show cJ n+1≤s by omega)
  omega
 ·exact h
 have:=Nat.mul_le_mul (show s+1≤cJ n by omega) (show s+1≤cJ n by omega)
 omega
theorem GF (s:Nat):cJ (s*s)=s:=tL (O1 _) (Nat.mul_lt_mul'' (Nat.lt_succ_self s) (Nat.lt_succ_self s))
theorem Bz (n:Nat):cJ n≤n:=by
 have:=(jt n).1
 rcases Nat.eq_zero_or_pos (cJ n)with h|h
 ·omega
 exact O0 (Nat.le_mul_of_pos_left _ h) this
theorem xe {a x:Nat}(hx:0<x):cJ a≤(x+a/x)/2:=by
 have h:=(jt a).1;obtain⟨s,hs⟩:∃s,s=cJ a:=⟨_,rfl⟩;rw[←hs]at h⊢;have key:2*s-x≤a/x:=by
  rw[Nat.le_div_iff_mul_le hx];refine O0 ?_ h
  by_cases h0:2*s≤x
  ·rw[show 2*s-x=0 by omega,Nat.zero_mul];exact O2 _
  by_cases h1:x≤s
  ·obtain⟨d,rfl⟩:=Nat.exists_eq_add_of_le h1;rw[show 2*(x+d)-x=x+2*d by omega];simp only[Nat.mul_add,Nat.add_mul,Nat.mul_assoc,Nat.two_mul]
   have:=O6 x d
   omega
  obtain⟨d,rfl⟩:=Nat.exists_eq_add_of_le (show s≤x by omega);obtain⟨e,rfl⟩:=Nat.exists_eq_add_of_le (show d≤s by omega);rw[show 2*(d+e)-(d+e+d)=e by omega];simp only[Nat.mul_add,Nat.add_mul]
  have:=O6 d e
  omega
 omega
theorem zI {a x:Nat}(hx:0<x)(h:x≤(x+a/x)/2):x*x≤a:=by
 have:x≤a/x:=by omega
 exact(Nat.le_div_iff_mul_le hx).1 this
theorem N5 {n b:Nat}(h:n<b*b):cJ n<b:=by
 refine Nat.lt_of_not_le fun hl=>?_
 have:=Nat.mul_le_mul hl hl
 have:=(jt n).1
 omega
end Go.Eng
namespace Go.Eng
open Go
theorem qY (k:Nat):BB^k=2^(32*k):=by
 rw[show BB=2^32 from rfl,←Nat.pow_mul]
def lf (n:Nat):Nat:=32*(nl n-1)+bl (fy n)
theorem Ey {n:Nat}(h:0<n):n<2^lf n:=by
 have h1:=(gP h).1;have h2:=(yw _ h1).2.1;unfold lf;rw[Nat.pow_add,←qY];have h3:n<(fy n+1)*BB^(nl n-1):=by
  unfold fy;rw[Nat.add_mul,Nat.one_mul,O6];exact Nat.lt_mul_div_succ n (Nat.pow_pos (by decide))
 refine Nat.lt_of_lt_of_le h3 ?_;rw[O6];exact O9 _ (by omega)
theorem xD {n:Nat}(h:0<n):lf n≤32*nl n:=by
 have h1:=gP h;have h2:bl (fy n)≤32:=zu h1.2;have h3:=eL.2 h;unfold lf;omega
theorem EW {n:Nat}(h:0<n):cJ n<2^(lf n/2+1):=by
 refine N5 (Nat.lt_of_lt_of_le (Ey h) ?_);rw[←Nat.pow_add];exact O3 (by decide) (by omega)
theorem FP (n:Nat):(List.replicate (n/32+1) (0:Int)).set (n/32) ((2^(n%32):Nat):Int)=ak (2^n):=by
 have hw:2^(n%32)<2^32:=Nat.pow_lt_pow_right (by decide) (Nat.mod_lt _ (by decide));have hp:0<2^(n%32):=Nat.pow_pos (by decide);have Tb:bO ((List.replicate (n/32+1) (0:Int)).set (n/32) ((2^(n%32):Nat):Int)):=(bO.replicate _).set _ ⟨by omega,by omega⟩;have hl:n/32<(List.replicate (n/32+1) (0:Int)).length:=by simp
 have hv:=dN (xs:=List.replicate (n/32+1) (0:Int)) (i:=n/32) (x:=((2^(n%32):Nat):Int)) hl;rw[cO,X7,List.getElem?_replicate]at hv;rw[if_pos (by omega),Q1]at hv;have h0:((some (0:Int)).getD 0).toNat=0:=rfl;rw[h0,Nat.mul_zero,Nat.add_zero,Nat.zero_add,qY,←Nat.pow_add,Nat.div_add_mod]at hv;rw[←hv]
 refine(cC Tb (.inr ?_)).symm
 rw[List.length_set,List.length_replicate,Nat.add_sub_cancel,X7,List.getElem?_set];rw[if_pos rfl,if_pos hl]
 show((2^(n%32):Nat):Int)≠0
 omega
end Go.Eng
namespace Go.Eng
open Go
def A7 (x:Rat):Option Rat:=
 if 0≤x.num∧cJ x.num.natAbs*cJ x.num.natAbs=x.num.natAbs∧cJ x.den*cJ x.den=x.den then some (mkRat (cJ x.num.natAbs) (cJ x.den))else none
theorem IG {a b n d:Nat}(ha:a*a=n)(hb:b*b=d)(h:n.Coprime d):a.Coprime b:=by
 subst ha hb;exact Nat.Coprime.coprime_dvd_left (Nat.dvd_mul_right a a) (Nat.Coprime.coprime_dvd_right (Nat.dvd_mul_right b b) h)
theorem NY {a b:Nat}(h:a.Coprime b):(a*a).Coprime (b*b):=
 Nat.Coprime.mul_left (Nat.Coprime.mul_right h h) (Nat.Coprime.mul_right h h)
theorem qE {x r:Rat}(h:A7 x=some r):r*r=x∧0≤x.num∧cJ x.num.natAbs*cJ x.num.natAbs=x.num.natAbs∧cJ x.den*cJ x.den=x.den∧r.num=(cJ x.num.natAbs:Int)∧r.den=cJ x.den:=by
 unfold A7 at h
 split at h
 ·rename_i hc
  obtain⟨h0,h1,h2⟩:=hc;obtain rfl:=Option.some.inj h;have hb:cJ x.den≠0:=fun e=>by rw[e]at h2;exact x.den_nz h2.symm
  have Za:(cJ x.num.natAbs).Coprime (cJ x.den):=IG h1 h2 x.reduced;obtain⟨r0,Ui⟩:∃r0:Rat,r0=⟨(cJ x.num.natAbs:Int),cJ x.den,hb,by simpa using Za⟩:=⟨_,rfl⟩;have e1:r0.num=(cJ x.num.natAbs:Int):=by rw[Ui]
  have e2:r0.den=cJ x.den:=by rw[Ui]
  have e3:mkRat (cJ x.num.natAbs) (cJ x.den)=r0:=by rw[←e1,←e2];exact Rat.mkRat_self r0
  rw[e3];refine⟨?_,h0,h1,h2,e1,e2⟩;have e4:r0*r0=mkRat (r0.num*r0.num) (r0.den*r0.den):=Rat.mul_def' r0 r0;rw[e4,e1,e2,h2,←Q2,h1,Int.natAbs_of_nonneg h0];exact Rat.mkRat_self x
 cases h
theorem Am {x:Rat}(h:A7 x=none)(r:Rat):r*r≠x:=by
 rintro rfl;have Za:(r.num.natAbs*r.num.natAbs).Coprime (r.den*r.den):=NY r.reduced;obtain⟨r1,Vc⟩:∃r1:Rat,r1=⟨r.num*r.num,r.den*r.den,Nat.mul_ne_zero r.den_nz r.den_nz,by rw[Int.natAbs_mul];exact Za⟩:=⟨_,rfl⟩;have e1:r1.num=r.num*r.num:=by rw[Vc]
 have e2:r1.den=r.den*r.den:=by rw[Vc]
 have e3:r*r=r1:=by rw[Rat.mul_def',←e1,←e2];exact Rat.mkRat_self r1
 unfold A7 at h;rw[e3,if_pos]at h
 ·cases h
 rw[e1,e2,Int.natAbs_mul,GF,GF];refine⟨?_,rfl,rfl⟩
 rcases Int.le_total 0 r.num with h|h
 ·exact Int.mul_nonneg h h
 exact Int.mul_nonneg_of_nonpos_of_nonpos h h
end Go.Eng
namespace Go.Proofs.YtehahgjkjfoebaaGreat
open Go.Proofs.Tryz
open Go Go.Proofs Go.Eng
theorem Dm (x:Nat)(hx:x<BB):Pr prog 267 [.one (.int .u32 x)] (.one (.int .i64 (bl x:Nat))):=by
 refine⟨⟨_,func267,by rfl,by rfl⟩,fun ok w vs Tc hr=>?_⟩;obtain⟨vs⟩:=vs
 match vs,hr with
 |[v],hr=>
  obtain⟨hv,_⟩:=hr;have hv:v= .int .u32 x:=hv;subst hv
  refine(Tryz.tT x w (by omega) (by unfold BB at hx;omega)).mono ?_
  rintro e W' ⟨rfl,rfl⟩;refine⟨_,rfl,Go.RowKit.Below.refl _ _,?_⟩;show Value.int .i64 ((Lib.bitLen (x:Int).toNat:Nat):Int)= .int .i64 ((bl x:Nat):Int);rw[Q1,v9 x (by unfold BB at hx;omega)]
theorem Cs (z:Int)(h0:z≠0)(hz:zn z<2^42):Pr prog 269 [ZV z] (.one (.int .i64 (lf z.natAbs:Nat))):=by
 have hp:0<z.natAbs:=by omega
 have c:=fX z (by omega);have ht:=gP hp;have d:=Dm (fy z.natAbs) ht.2;have Vz:=kU hp;have hl:nl z.natAbs<2^42:=hz;have Uz:=eL.2 hp;have hg:(ak z.natAbs).getD (nl z.natAbs-1) 0=((fy z.natAbs:Nat):Int):=by rw[lG,Vz]
 have hb:=xD hp;have w1:IntKind.i64.wrap ((nl z.natAbs:Int)-1)=((nl z.natAbs-1:Nat):Int):=by rw[Q4 _ (by omega)];omega
 have w2:IntKind.i64.wrap (32*((nl z.natAbs-1:Nat):Int))=((32*(nl z.natAbs-1):Nat):Int):=by rw[Q4 _ (by omega)];omega
 have w3:IntKind.i64.wrap (((32*(nl z.natAbs-1):Nat):Int)+(bl (fy z.natAbs):Nat))=((lf z.natAbs:Nat):Int):=by
  unfold lf at hb⊢;rw[Q4 _ (by omega)];omega
 refine pw func269 ⟨[0,1,2,3,9],[]⟩ ?_;simp only[Tryz.f269,ntmps269,iz,seval];simp only[vx,T,seval,ZV];refine Cg c ?_;simp only[vx,T,seval,ZV];refine⟨fun h=>absurd h (by omega),fun _=>Lg ?_⟩;simp only[vx,T,seval,ZV,w1,w2,hg,Q1];refine⟨⟨by omega,by omega⟩,Cg d ?_⟩;simp only[vx,T,seval,ZV,w3];exact Ve rfl
theorem yO (n:Nat)(hn:n<2^50):Pr prog 270 [.one (.int .i64 n)] (.one (.ints .u32 (ak (2^n)))):=by
 have hlp:=FP n;have hw:2^(n%32)<2^32:=Nat.pow_lt_pow_right (by decide) (Nat.mod_lt _ (by decide));have w1:IntKind.i64.wrap ((n:Int).tdiv 32)=((n/32:Nat):Int):=by rw[Int.tdiv_eq_ediv_of_nonneg (by omega),Q4 _ (by omega)];omega
 have w2:IntKind.i64.wrap (((n/32:Nat):Int)+1)=((n/32+1:Nat):Int):=by rw[Q4 _ (by omega)];omega
 have w3:(n:Int).tmod 32=((n%32:Nat):Int):=rfl;have w4:IntKind.u32.wrap (1*2^(if n%32≤32 then n%32 else 32))=((2^(n%32):Nat):Int):=by
  have e:(2:Int)^(n%32)=((2^(n%32):Nat):Int):=by rw[Int.natCast_pow];rfl
  rw[if_pos (by omega),Int.one_mul,e]
  generalize 2^(n%32)=k at hw
  rw[IntWalk.u32_in _ (by omega)]
 refine pw func270 ⟨[0,2,3],[]⟩ ?_;simp only[Tryz.f270,ntmps270,iz,seval];simp only[vx,T,seval,w1,w2,w3,Q1];refine⟨⟨by omega,by omega,by omega,by omega⟩,by omega,⟨by omega,by omega⟩,Ve ?_⟩;rw[w4,List.take_of_length_le (by simp),hlp]
theorem EJ (a:Nat)(ha:nl a<2^43):Pr prog 271 [.one (.ints .u32 (ak a))] (.one (.ints .u32 (ak (a/2)))):=by
 have c:=(kJ a 1 (by omega) (by decide)).ints;have SI:a/2^1<BB^nl a:=Nat.lt_of_le_of_lt (Nat.div_le_self _ _) (cG a);have d:=du (ij (nl a) (a/2^1)) (gn _ _) (by rw[aP];omega);rw[jV,O7 SI]at d;refine pw func271 ⟨[0,2],[]⟩ ?_;simp only[Tryz.f271,ntmps271,iz,seval];simp only[vx,T,seval];refine Cg c ?_;simp only[vx,T,seval];refine Cg d ?_;simp only[vx,T,seval];exact Ve rfl
theorem Fy {a x:Nat}(h1:cJ a≤x)(hx:0<x)(h:x≤(x+a/x)/2):x=cJ a:=by
 have h2:=zI hx h;have h3:=(jt a).2;refine Nat.le_antisymm ?_ h1;refine Nat.le_of_lt_succ (Nat.lt_of_not_le fun h4=>?_)
 have:(cJ a+1)*(cJ a+1)≤x*x:=Nat.mul_le_mul h4 h4
 omega
theorem Mw {a:Nat}(h:0<a):0<cJ a:=by
 have h3:=(jt a).2
 rcases Nat.eq_zero_or_pos (cJ a)with h0|h0
 ·rw[h0]at h3;omega
 exact h0
theorem Bu (z:Int)(h0:0<z)(hz:zn z<2^40):Pr prog 265 [ZV z] (.aB [ZV (cJ z.natAbs:Nat),.one (.int .i64 0)]):=by
 have hs:bQ z=1:=by unfold bQ;rw[if_neg (by omega),if_neg (by omega)]
 have cs:=fZ z (by omega);rw[hs]at cs;have cb:=Cs z (by omega) (by omega);have ct:=fX z (by omega);obtain⟨a,ha⟩:∃a,a=z.natAbs:=⟨_,rfl⟩;have TO:zs z=false:=dE.2 (by omega);have ha0:0<a:=by omega
 have hal:nl a<2^40:=by rw[ha];exact hz
 rw[←ha]at cb ct⊢;have hb:=xD ha0;have S1:=EW ha0;have XX:=Mw ha0;have w1:IntKind.i64.wrap (((lf a:Nat):Int).tdiv 2)=((lf a/2:Nat):Int):=by rw[Int.tdiv_eq_ediv_of_nonneg (by omega),Q4 _ (by omega)];omega
 have w2:IntKind.i64.wrap (((lf a/2:Nat):Int)+1)=((lf a/2+1:Nat):Int):=by rw[Q4 _ (by omega)];omega
 have csh:=yO (lf a/2+1) (by omega);have UC:nl (2^(lf a/2+1))<2^42:=by
  have:2^(lf a/2+1)<BB^(nl a+1):=by
   rw[qY];exact Nat.pow_lt_pow_right (by decide) (by omega)
  have:=aE this
  omega
 refine pw func265 ⟨[0,1,2,3,4,5,6,8,10,11,14,38],[]⟩ ?_;simp only[Tryz.f265,ntmps265,iz,seval];simp only[vx,T,seval,ZV];refine Cg cs ?_;simp only[vx,T,seval,ZV];refine Cg cb ?_;simp only[vx,T,seval,ZV,w1,w2];refine Cg csh ?_;simp only[vx,T,seval,ZV];refine Lk (fun y:{x:Nat//cJ a≤x∧0<x∧nl x<2^42}=>⟨[(0,ZV z),(1,.one (.ptr 1 0)),(2,.one (.ptr 2 0)),(3,.one (.int .i64 0)),(4,.one (.int .i64 (lf a/2+1:Nat))),(5,.one (.ints .u32 (ak y.1)))],[(1,⟨.var [.bool (zs z),.ints .u32 (zm z)],true⟩),(2,⟨.var [.bool false,.nil],true⟩)],3,42⟩) (fun y=>y.1) ⟨2^(lf a/2+1),Nat.le_of_lt S1,Nat.pow_pos (by decide),UC⟩ ?_ (fun⟨x,Xa,Wy,Wb⟩=>?_)
 ·refine Sa ?_;simp only[ry,seval,rz,ZV]
 simp only;have TB:nl (a/x)≤nl a:=bh (Nat.div_le_self _ _);simp only[vx,T,seval,ZV];refine Cg ct ?_;simp only[vx,T,seval,ZV];refine Cg (je a x Wy (by omega) (by omega)) ?_;simp only[vx,T,seval,ZV];have V4:=uc x (a/x);have hhl:nl ((x+a/x)/2)≤nl (x+a/x):=bh (Nat.div_le_self _ _);refine Cg (pb x (a/x) (by omega) (by omega)) ?_;simp only[vx,T,seval,ZV];refine Cg (EJ (x+a/x) (by omega)) ?_;simp only[vx,T,seval,ZV];refine Cg (gV ((x+a/x)/2) x (by omega) (by omega)) ?_;simp only[vx,T,seval,ZV];have Zi:0≤fe ((x+a/x)/2:Nat) (x:Nat)↔x≤(x+a/x)/2:=by
  unfold fe
  constructor
  ·intro h
   by_cases h2:(((x+a/x)/2:Nat):Int)<(x:Int)
   ·rw[if_pos h2]at h;omega
   omega
  intro h;rw[if_neg (by omega)]
  split<;>omega
 refine⟨fun k1=>Lg ?_,fun k1=>Lg ?_⟩
 ·have hx:=Fy Xa Wy (Zi.1 k1);simp only[vx,T,seval,ZV];refine Cg (b5 false x (by omega)) ?_;have e2:fL false x=((cJ a:Nat):Int):=by rw[←hx];rfl
  rw[e2];simp only[vx,T,seval,ZV];refine Va ?_;simp only[cY,a5,ry,seval,ZV]
 simp only[vx,T,seval,ZV];have SI:(x+a/x)/2<x:=by
  refine Nat.lt_of_not_le fun h=>k1 (Zi.2 h)
 refine Lq ⟨(x+a/x)/2,xe Wy,Nat.lt_of_lt_of_le XX (xe Wy),Nat.lt_of_le_of_lt (bh (Nat.le_of_lt SI)) Wb⟩ ?_ SI;refine Sa ?_;simp only[ry,seval,rz,ZV]
end Go.Proofs.YtehahgjkjfoebaaGreat
namespace Go.Eng
open Go
theorem pP (a b:Int):a.fdiv (-b)=(-a).fdiv b:=by
 have:=Int.neg_fdiv_neg (a:= -a) (b:=b)
 rwa [Int.neg_neg]at this
theorem uA (n d:Int):Int.gcd n (-d)=Int.gcd n d:=by unfold Int.gcd;rw[Int.natAbs_neg]
theorem oJ (n d:Int):Int.gcd (-n) d=Int.gcd n d:=by unfold Int.gcd;rw[Int.natAbs_neg]
theorem Ki {n:Int}{d:Nat}(hd:0<d):n.fdiv (-(Int.gcd n d:Int))=(mkRat (-n) d).num:=by
 rw[pP,←xY hd,oJ]
theorem KJ {n:Int}{d:Nat}(hd:0<d):(-(d:Int)).fdiv (-(Int.gcd n d:Int))=((mkRat (-n) d).den:Int):=by
 rw[pP,Int.neg_neg,←yv hd,oJ]
theorem inv_pos {x:Rat}{d:Nat}(h:x.num=(d:Int)):x⁻¹=mkRat x.den d:=by
 rw[Rat.inv_def,h];rfl
theorem inv_neg {x:Rat}{d:Nat}(h:x.num= -(d:Int)):x⁻¹=mkRat (-(x.den:Int)) d:=by
 rw[Rat.inv_def,h]
 cases d with
 |zero=>rfl
 |succ d=>rfl
end Go.Eng
namespace Go.Proofs.YtehahgjkjfoebaaGreat
open Go.Proofs.Tryz
open Go Go.Eng
open Go.Tw (El aC aH zE aj av au ar aa QB cM ai ah aO aJ tB aU aA cF mn)
theorem vj (n:Int)(d:Nat)(hn:zn n<2^40)(hd:nl d<2^40)(h0:0<d):Pr prog 238 [ZV n,ZV (-(d:Int))] (QV (mkRat (-n) d)):=by
 have hg:(0:Int)<(Int.gcd n d:Nat):=by have:=yR (n:=n) h0;omega
 have Zw:zn (Int.gcd n d)≤nl d:=sh (b:=(d:Int)) (by
  have:=Nat.gcd_le_right n.natAbs (show 0<(d:Int).natAbs by omega)
  exact this)
 have XU:zs (-(d:Int))=true:=lR.2 (by omega);have Ut:zn (-(d:Int))=nl d:=by unfold zn;rw[Int.natAbs_neg];rfl
 have c:=rP n (-(d:Int)) (by omega) (by rw[Ut];omega);rw[uA]at c;have cn:=wP (Int.gcd n d) (by omega);have VZ:zn (-(Int.gcd n d:Int))≤nl d:=by unfold zn at Zw⊢;rw[Int.natAbs_neg];exact Zw
 refine pw func238 ⟨[0,1,2,3,4,5,10],[]⟩ ?_;simp only[Tryz.f238,ntmps238,iz,seval];simp only[vx,T,seval,ZV];refine Cg c ?_;simp only[vx,T,seval,ZV];refine⟨fun _=>Lg ?_,fun h=>absurd (XU.symm.trans h) (by decide)⟩;simp only[vx,T,seval,ZV];refine Cg cn ?_;simp only[vx,T,seval,ZV];refine Cg (nH n (-(Int.gcd n d:Int)) (by omega) (by omega) (by omega)) ?_;rw[Ki h0];simp only[vx,T,seval,ZV];refine Cg (nH (-(d:Int)) (-(Int.gcd n d:Int)) (by rw[Ut];omega) (by omega) (by omega)) ?_;rw[KJ h0];simp only[vx,T,seval,ZV];refine Va ?_;simp only[cY,a5,ry,seval,QV,QC]
theorem nf (z:Int):Pr prog 253 [ZV z] (.one (.bool (decide (z=0)))):=by
 refine pw func253 ⟨[0,1,2],[]⟩ ?_;simp only[Tryz.f253,ntmps253,iz,seval];simp only[vx,T,seval,ZV];refine Ve ?_;rw[aX]
 congr 2
 by_cases h:z=0
 ·rw[decide_eq_true h,decide_eq_true];rw[h,dY.2 rfl];rfl
 rw[decide_eq_false h,decide_eq_false];intro e;exact h (dY.1 (by omega))
theorem Fu (x:Rat)(hx:qm x<2^38)(h0:x≠0):Pr prog 240 [QV 1,QV x] (.aB [QV x⁻¹,.one (.int .i64 0)]):=by
 have z:=nf x.num;have hn:x.num≠0:=fun h=>h0 (Rat.num_eq_zero.1 h);rw[decide_eq_false hn]at z;have q1:(1:Rat).num=1:=rfl;have q2:((1:Rat).den:Int)=1:=rfl;unfold qm at hx;have m1:=bT (1:Rat).num (x.den:Int) (by decide+kernel) (by rw[aG];omega);have m2:=bT ((1:Rat).den:Int) x.num (by decide+kernel) (by omega);rw[q1,Int.one_mul]at m1;rw[q2,Int.one_mul]at m2;have lo:Pr prog 238 [ZV (x.den:Int),ZV x.num] (QV x⁻¹):=by
  by_cases hp:0<x.num
  ·obtain⟨d,hd⟩:∃d:Nat,x.num=d:=⟨x.num.toNat,by omega⟩;rw[inv_pos hd,hd];rw[hd]at hx hp;rw[aG]at hx;exact fA _ d (by rw[aG];omega) (by omega) (by omega)
  obtain⟨d,hd⟩:∃d:Nat,x.num= -(d:Int):=⟨(-x.num).toNat,by omega⟩;rw[inv_neg hd,hd];have Ut:zn (-(d:Int))=nl d:=by unfold zn;rw[Int.natAbs_neg];rfl
  rw[hd,Ut]at hx;exact vj _ d (by rw[aG];omega) (by omega) (by omega)
 refine pw func240 ⟨[0,1,2,3,4,5,8],[]⟩ ?_;simp only[Tryz.f240,ntmps240,iz,seval];simp only[vx,T,seval,QV,QC];refine Cg z ?_;simp only[vx,T,seval,QV,QC];refine Cg m1 ?_;simp only[vx,T,seval,QV,QC,ZV];refine Cg m2 ?_;simp only[vx,T,seval,QV,QC,ZV];refine Cg lo ?_;simp only[vx,T,seval,QV,QC,ZV];exact Ve rfl
theorem FQ (a x:Rat)(h0:x=0):Pr prog 240 [QV a,QV x] (.aB [.agg [.bool false,.nil,.bool false,.nil],.one (.int .i64 6)]):=by
 have z:=nf x.num;have hn:x.num=0:=by rw[h0];rfl
 rw[decide_eq_true hn]at z;refine pw func240 ⟨[0,1,2,3,4,5,8],[]⟩ ?_;simp only[Tryz.f240,ntmps240,iz,seval];simp only[vx,T,seval,QV,QC];refine Cg z ?_;simp only[vx,T,seval,QV,QC];exact Ve rfl
theorem fR.aB {xs ys:List V}(h:yZ xs ys):fR (.aB xs) (.aB ys):=fun _ _ _ ⟨vs,e,hl⟩=>⟨vs,e,h.rep hl⟩
theorem jx {t:List El}:∀{h:Nat} {a n:El},cF h t a=some n→n.length=2^h
 |0,a,n,e=>by
  unfold cF at e
  split at e
  ·cases e
  obtain rfl:=Option.some.inj e;rfl
 |h+1,a,n,e=>by
  have e':((cF h t (aO h t a)).map fun n=>aj h t (a.take (2^h)) n++aH (aj h t (a.drop (2^h)) n))=some n:=e;obtain⟨m,_,rfl⟩:=Option.map_eq_some_iff.1 e';rw[X6,au,aa,aa,O4];omega
def zR:C:=.rows 4 1 (fun i j=>[C.bool false,.nil,.bool false,.nil].getD (i*4+j) .any)
def Sl (c:C):Prop:=c= .nil∨c=zR
def Ep (h:Nat)(t:List El)(a:El)(f:FuncId):Prop:=
 (∀n,cF h t a=some n→Pr prog f [tV h t,eV a] (.aB [eV n,.one (.bool true)]))∧
 (cF h t a=none→∃c,Sl c∧Pr prog f [tV h t,eV a] (.aB [.one c,.one (.bool false)]))
theorem Jb {X:Nat}{t:List El}(hX:X<2^37){a:El}(ha:a.length=2^0)(hq:QB X a):Ep 0 t a 222:=by
 obtain⟨x,rfl⟩:=Go.Tw.bw ha;have hx:qm x≤X:=hq x (by simp);have one:=cP 1 (by decide) (by decide);have e:cF 0 t [x]=if x=0 then none else some [x⁻¹]:=rfl
 unfold Ep;rw[e]
 by_cases h0:x=0
 ·rw[if_pos h0];refine⟨fun n h=>(by cases h),fun _=>?_⟩;have d:=FQ 1 x h0;refine⟨_,.inr rfl,?_⟩;refine pw func222 ⟨[0,1,4,5,6,7,8,10,11,12,13,16,43],[(2,(.cons 9 [7] (.cons 10 [] .nil .nil) .nil))]⟩ ?_;simp only[Tryz.f222,ntmps222,iz,seval];simp only[vx,T,seval,tV,tC,eV,ag];refine Cg one ?_;simp only[vx,T,seval,QV,QC,tV,tC,eV,ag,qC,X0];refine Cg d ?_;simp only[vx,T,seval,QV,QC,tV,tC,eV,ag,qC,X0];exact Ve rfl
 rw[if_neg h0];refine⟨fun n h=>?_,fun h=>(by cases h)⟩;obtain rfl:=Option.some.inj h;have d:=Fu x (by omega) h0;refine pw func222 ⟨[0,1,4,5,6,7,8,10,11,12,13,16,43],[(2,(.cons 9 [7] (.cons 10 [] .nil .nil) .nil))]⟩ ?_;simp only[Tryz.f222,ntmps222,iz,seval];simp only[vx,T,seval,tV,tC,eV,ag];refine Cg one ?_;simp only[vx,T,seval,QV,QC,tV,tC,eV,ag,qC,X0];refine Cg d ?_;simp only[vx,T,seval,QV,QC,tV,tC,eV,ag,qC,X0];refine fR.aB ⟨.cell (.rows rfl fun i j hi _=>.of_eq ?_),.refl _,trivial⟩;obtain rfl:i=0:=by omega
 rw[Nat.zero_mul,Nat.zero_add];exact dD x⁻¹ rfl j
theorem qc {X:Nat}(hX:X<2^37){t:List El}:∀{h:Nat} {a:El},TQ h t→a.length=2^h→mn X h t a→Ep h t a 222
 |0,a,_,ha,hi=>Jb hX ha hi
 |h+1,a,W,ha,hi=>by
  have W':=W.le (Nat.le_succ h);obtain⟨_,hN,_,i3,_,i5⟩:=hi;have ih:=qc hX W' aJ i3;have h6:=W.h6;have hp:=aN W'.tk.le8;have cs:=mD (h:=h) (t:=t) (by omega);have ch:=ja (h:=h) (by omega) ha;have cn:=(uT W a ha hX hN).rows;have Tu:=ai ha;have Ts:=ah ha;have e:cF (h+1) t a=(cF h t (aO h t a)).map fun n=>aj h t (a.take (2^h)) n++aH (aj h t (a.drop (2^h)) n):=rfl;unfold Ep at ih⊢;rw[e]
  cases hn:cF h t (aO h t a)with
  |none=>
   refine⟨fun n h=>(by cases h),fun _=>?_⟩;obtain⟨c,V3,hc⟩:=ih.2 hn;refine⟨.nil,.inl rfl,?_⟩
   rcases V3 with rfl|rfl
   ·refine pw func222 ⟨[0,1,4,5,6,7,8,10,11,12,13,16,43],[(2,(.cons 9 [7] (.cons 10 [] .nil .nil) .nil))]⟩ ?_;simp only[Tryz.f222,ntmps222,iz,seval];simp only[vx,T,seval,tV,tC,eV,ag];refine⟨fun h=>absurd h (by omega),fun _=>Lg ?_⟩;simp only[vx,T,seval,tV,tC,eV,ag];refine Cg cs ?_;simp only[vx,T,seval,tV,tC,eV,ag];refine Cg cn ?_;simp only[vx,T,seval,tV,tC,eV,ag];refine Cg hc ?_;simp only[vx,T,seval,tV,tC,eV,ag];exact Ve rfl
   refine pw func222 ⟨[0,1,4,5,6,7,8,10,11,12,13,16,43],[(2,(.cons 9 [7] (.cons 10 [] .nil .nil) .nil))]⟩ ?_;simp only[Tryz.f222,ntmps222,iz,seval];simp only[vx,T,seval,tV,tC,eV,ag];refine⟨fun h=>absurd h (by omega),fun _=>Lg ?_⟩;simp only[vx,T,seval,tV,tC,eV,ag];refine Cg cs ?_;simp only[vx,T,seval,tV,tC,eV,ag];refine Cg cn ?_;simp only[vx,T,seval,tV,tC,eV,ag];refine Cg hc ?_;simp only[vx,T,seval,tV,tC,eV,ag,zR];exact Ve rfl
  |some n=>
   refine⟨fun n' hh=>?_,fun hh=>(by cases hh)⟩;obtain rfl:=Option.some.inj hh;have hc:=ih.1 n hn;obtain⟨k1,k2⟩:=i5 n hn;have ln:=jx hn;have m1:=jl hX W'.tk Tu ln k1;have m2:=(jl hX W'.tk Ts ln k2).rows;have nn:=(om _ (by rw[aa];omega) (Qk.of k2.q.2.2 (by omega))).rows;obtain⟨x,hx⟩:∃x,x=a.take (2^h):=⟨_,rfl⟩;obtain⟨y,hy⟩:∃y,y=a.drop (2^h):=⟨_,rfl⟩;rw[←hx,←hy]at ch⊢;rw[←hx]at m1;rw[←hy]at m2 nn;refine pw func222 ⟨[0,1,4,5,6,7,8,10,11,12,13,16,43],[(2,(.cons 9 [7] (.cons 10 [] .nil .nil) .nil))]⟩ ?_;simp only[Tryz.f222,ntmps222,iz,seval];simp only[vx,T,seval,tV,tC,eV,ag];refine⟨fun h=>absurd h (by omega),fun _=>Lg ?_⟩;simp only[vx,T,seval,tV,tC,eV,ag];refine Cg cs ?_;simp only[vx,T,seval,tV,tC,eV,ag];refine Cg cn ?_;simp only[vx,T,seval,tV,tC,eV,ag];refine Cg hc ?_;simp only[vx,T,seval,tV,tC,eV,ag];refine Cg ch ?_;simp only[vx,T,seval,tV,tC,eV,ag];refine cN.fresh m1 ?_;simp only[vx,T,seval,tV,tC,eV,ag];refine Cg m2 ?_;simp only[vx,T,seval,tV,tC,eV,ag];refine Cg nn ?_;simp only[vx,T,seval,tV,tC,eV,ag];exact⟨by rw[aa,au,aa];omega,fR.aB ⟨.cell (.rows List.length_append.symm fun i j _ _=>.of_eq (lK _ _ i j)),.refl _,trivial⟩⟩
open Go Go.Proofs Go.Eng
theorem Fj {a a' b b':C}(h1:dH a a')(h2:dH b b'):uJ (.agg [a,b]) (.agg [a',b']):=by
 intro ok w v hr;obtain⟨vs,e,hl⟩:=hr;refine⟨vs,e,?_⟩
 generalize vs.toList=l at hl⊢
 match l,hl with
 |[x,y],⟨k1,k2,_⟩=>exact⟨aF.bn (h1 ok w x (aQ.dZ k1)),aF.bn (h2 ok w y (aQ.dZ k2)),trivial⟩
theorem RS:uJ (.agg [.bool false,.nil]) (ZV 0):=Fj (.refl _) (by
 have:zm 0=[]:=by decide+kernel
 rw[this];exact .zv _)
theorem Jd (z:Int)(h0:0<z)(hz:zn z<2^38):Pr prog 254 [ZV z] (.aB [ZV (cJ z.natAbs:Nat),.one (.bool (decide (cJ z.natAbs*cJ z.natAbs=z.natAbs)))]):=by
 have c:=Bu z h0 (by omega);obtain⟨s,hs⟩:∃s,s=cJ z.natAbs:=⟨_,rfl⟩;have TN:zn (s:Int)≤zn z:=sh (by rw[hs];exact Bz _);rw[←hs]at c⊢;have m:=bT (s:Int) (s:Int) (by omega) (by omega);have hm:zn ((s:Int)*s)≤zn (s:Int)+zn (s:Int):=cZ _ _;have cc:=rm ((s:Int)*s) z (by omega) (by omega);have e:decide (fe ((s:Int)*s) z=0)=decide (s*s=z.natAbs):=decide_eq_decide.2 (by rw[Dt];omega);refine pw func254 ⟨[0,1,2,3,4,5],[(2,(.cons 11 [9,10] (.cons 12 [] .nil .nil) .nil))]⟩ ?_;simp only[Tryz.f254,ntmps254,iz,seval];simp only[vx,T,seval,ZV];refine Cg c ?_;simp only[vx,T,seval,ZV];refine Cg m ?_;simp only[vx,T,seval,ZV];refine Cg cc ?_;simp only[vx,T,seval,ZV];rw[e];exact Ve rfl
theorem Ca:Pr prog 265 [ZV 0] (.aB [.agg [.bool false,.nil],.one (.int .i64 0)]):=by
 have cs:=fZ 0 (by decide+kernel);have hs:bQ 0=0:=rfl;rw[hs]at cs;refine pw func265 ⟨[0,1,2,3,4,5,6,8,10,11,14,38],[]⟩ ?_;simp only[Tryz.f265,ntmps265,iz,seval];simp only[vx,T,seval,ZV];refine Cg cs ?_;simp only[vx,T,seval,ZV];exact Ve rfl
theorem F8 (z:Int)(h0:z<0)(hz:zn z<2^38):Pr prog 265 [ZV z] (.aB [.agg [.bool false,.nil],.one (.int .i64 7)]):=by
 have cs:=fZ z (by omega);have hs:bQ z= -1:=by unfold bQ;rw[if_neg (by omega),if_pos h0]
 rw[hs]at cs;refine pw func265 ⟨[0,1,2,3,4,5,6,8,10,11,14,38],[]⟩ ?_;simp only[Tryz.f265,ntmps265,iz,seval];simp only[vx,T,seval,ZV];refine Cg cs ?_;simp only[vx,T,seval,ZV];exact Ve rfl
theorem IQ (z:Int)(h0:z<0)(hz:zn z<2^38):Pr prog 254 [ZV z] (.aB [.agg [.bool false,.nil],.one (.bool false)]):=by
 have c:=F8 z h0 hz;refine pw func254 ⟨[0,1,2,3,4,5],[(2,(.cons 11 [9,10] (.cons 12 [] .nil .nil) .nil))]⟩ ?_;simp only[Tryz.f254,ntmps254,iz,seval];simp only[vx,T,seval,ZV];refine Cg c ?_;simp only[vx,T,seval,ZV];exact Ve rfl
theorem FU:Pr prog 254 [ZV 0] (.aB [.agg [.bool false,.nil],.one (.bool true)]):=by
 have c:=Ca;have m:=bT 0 0 (by decide+kernel) (by decide+kernel);have m:=m.args (xs:=[.agg [.bool false,.nil],.agg [.bool false,.nil]]) ⟨RS,RS,trivial⟩;have cc:=rm 0 0 (by decide+kernel) (by decide+kernel);rw[pO rfl]at cc;rw[Int.mul_zero]at m;refine pw func254 ⟨[0,1,2,3,4,5],[(2,(.cons 11 [9,10] (.cons 12 [] .nil .nil) .nil))]⟩ ?_;simp only[Tryz.f254,ntmps254,iz,seval];simp only[vx,T,seval,ZV];refine Cg c ?_;simp only[vx,T,seval,ZV];refine Cg m ?_;simp only[vx,T,seval,ZV];refine Cg cc ?_;simp only[vx,T,seval,ZV];exact Ve rfl
theorem nB (z:Int)(hz:zn z<2^38):∃m,(m= .nil∨∃xs,m= .ints .u32 xs)∧Pr prog 254 [ZV z] (.aB [.agg [.bool false,m],.one (.bool (decide (0≤z∧cJ z.natAbs*cJ z.natAbs=z.natAbs)))])∧
  (0≤z→dH m (.ints .u32 (zm (cJ z.natAbs:Nat)))):=by
 rcases Int.lt_trichotomy z 0 with h|h|h
 ·refine⟨.nil,.inl rfl,?_,fun h2=>absurd h2 (by omega)⟩;rw[decide_eq_false (by omega)];exact IQ z h hz
 ·subst h;refine⟨.nil,.inl rfl,?_,fun _=>?_⟩
  ·rw[decide_eq_true (by decide)];exact FU
  have:zm (cJ (0:Int).natAbs:Nat)=[]:=by decide+kernel
  rw[this];exact .zv _
 refine⟨_,.inr ⟨_,rfl⟩,?_,fun _=>.refl _⟩;have e:decide (0≤z∧cJ z.natAbs*cJ z.natAbs=z.natAbs)=decide (cJ z.natAbs*cJ z.natAbs=z.natAbs):=decide_eq_decide.2 ⟨fun h=>h.2,fun h2=>⟨by omega,h2⟩⟩;rw[e];have r:=Jd z h hz;have TO:zs (cJ z.natAbs:Nat)=false:=dE.2 (by omega);unfold ZV at r⊢;rw[TO]at r;exact r
theorem zi {a b c d a' b' c' d':C}(h1:dH a a')(h2:dH b b')(h3:dH c c')(h4:dH d d'):uJ (.agg [a,b,c,d]) (.agg [a',b',c',d']):=by
 intro ok w v hr;obtain⟨vs,e,hl⟩:=hr;refine⟨vs,e,?_⟩
 generalize vs.toList=l at hl⊢
 match l,hl with
 |[x,y,z,u],⟨k1,k2,k3,k4,_⟩=>exact⟨aF.bn (h1 ok w x (aQ.dZ k1)),aF.bn (h2 ok w y (aQ.dZ k2)),aF.bn (h3 ok w z (aQ.dZ k3)),aF.bn (h4 ok w u (aQ.dZ k4)),trivial⟩
theorem Gn {x:Rat}{b1 b2:Bool}{m1 m2:C}(k1:m1= .nil∨∃xs,m1= .ints .u32 xs)(k2:m2= .nil∨∃xs,m2= .ints .u32 xs)(c1:Pr prog 254 [ZV x.num] (.aB [.agg [.bool false,m1],.one (.bool b1)]))
  (c2:Pr prog 254 [ZV (x.den:Int)] (.aB [.agg [.bool false,m2],.one (.bool b2)])) (h:¬(b1=true∧b2=true)):Pr prog 244 [QV x] (.aB [.agg [.bool false,.nil,.bool false,.nil],.one (.bool false)]):=by
 rcases k1 with rfl|⟨x1,rfl⟩<;>rcases k2 with rfl|⟨x2,rfl⟩<;>cases b1<;>cases b2
 ·refine pw func244 ⟨[0,1,2,3,4,5,6,7,25],[]⟩ ?_;simp only[Tryz.f244,ntmps244,iz,seval];simp only[vx,T,seval,QV,QC,ZV];refine Cg c1 ?_;simp only[vx,T,seval,QV,QC,ZV];refine Cg c2 ?_;simp only[vx,T,seval,QV,QC,ZV];exact Ve rfl
 ·refine pw func244 ⟨[0,1,2,3,4,5,6,7,25],[]⟩ ?_;simp only[Tryz.f244,ntmps244,iz,seval];simp only[vx,T,seval,QV,QC,ZV];refine Cg c1 ?_;simp only[vx,T,seval,QV,QC,ZV];refine Cg c2 ?_;simp only[vx,T,seval,QV,QC,ZV];exact Ve rfl
 ·refine pw func244 ⟨[0,1,2,3,4,5,6,7,25],[]⟩ ?_;simp only[Tryz.f244,ntmps244,iz,seval];simp only[vx,T,seval,QV,QC,ZV];refine Cg c1 ?_;simp only[vx,T,seval,QV,QC,ZV];refine Cg c2 ?_;simp only[vx,T,seval,QV,QC,ZV];exact Ve rfl
 ·exact absurd ⟨rfl,rfl⟩ h
 ·refine pw func244 ⟨[0,1,2,3,4,5,6,7,25],[]⟩ ?_;simp only[Tryz.f244,ntmps244,iz,seval];simp only[vx,T,seval,QV,QC,ZV];refine Cg c1 ?_;simp only[vx,T,seval,QV,QC,ZV];refine Cg c2 ?_;simp only[vx,T,seval,QV,QC,ZV];exact Ve rfl
 ·refine pw func244 ⟨[0,1,2,3,4,5,6,7,25],[]⟩ ?_;simp only[Tryz.f244,ntmps244,iz,seval];simp only[vx,T,seval,QV,QC,ZV];refine Cg c1 ?_;simp only[vx,T,seval,QV,QC,ZV];refine Cg c2 ?_;simp only[vx,T,seval,QV,QC,ZV];exact Ve rfl
 ·refine pw func244 ⟨[0,1,2,3,4,5,6,7,25],[]⟩ ?_;simp only[Tryz.f244,ntmps244,iz,seval];simp only[vx,T,seval,QV,QC,ZV];refine Cg c1 ?_;simp only[vx,T,seval,QV,QC,ZV];refine Cg c2 ?_;simp only[vx,T,seval,QV,QC,ZV];exact Ve rfl
 ·exact absurd ⟨rfl,rfl⟩ h
 ·refine pw func244 ⟨[0,1,2,3,4,5,6,7,25],[]⟩ ?_;simp only[Tryz.f244,ntmps244,iz,seval];simp only[vx,T,seval,QV,QC,ZV];refine Cg c1 ?_;simp only[vx,T,seval,QV,QC,ZV];refine Cg c2 ?_;simp only[vx,T,seval,QV,QC,ZV];exact Ve rfl
 ·refine pw func244 ⟨[0,1,2,3,4,5,6,7,25],[]⟩ ?_;simp only[Tryz.f244,ntmps244,iz,seval];simp only[vx,T,seval,QV,QC,ZV];refine Cg c1 ?_;simp only[vx,T,seval,QV,QC,ZV];refine Cg c2 ?_;simp only[vx,T,seval,QV,QC,ZV];exact Ve rfl
 ·refine pw func244 ⟨[0,1,2,3,4,5,6,7,25],[]⟩ ?_;simp only[Tryz.f244,ntmps244,iz,seval];simp only[vx,T,seval,QV,QC,ZV];refine Cg c1 ?_;simp only[vx,T,seval,QV,QC,ZV];refine Cg c2 ?_;simp only[vx,T,seval,QV,QC,ZV];exact Ve rfl
 ·exact absurd ⟨rfl,rfl⟩ h
 ·refine pw func244 ⟨[0,1,2,3,4,5,6,7,25],[]⟩ ?_;simp only[Tryz.f244,ntmps244,iz,seval];simp only[vx,T,seval,QV,QC,ZV];refine Cg c1 ?_;simp only[vx,T,seval,QV,QC,ZV];refine Cg c2 ?_;simp only[vx,T,seval,QV,QC,ZV];exact Ve rfl
 ·refine pw func244 ⟨[0,1,2,3,4,5,6,7,25],[]⟩ ?_;simp only[Tryz.f244,ntmps244,iz,seval];simp only[vx,T,seval,QV,QC,ZV];refine Cg c1 ?_;simp only[vx,T,seval,QV,QC,ZV];refine Cg c2 ?_;simp only[vx,T,seval,QV,QC,ZV];exact Ve rfl
 ·refine pw func244 ⟨[0,1,2,3,4,5,6,7,25],[]⟩ ?_;simp only[Tryz.f244,ntmps244,iz,seval];simp only[vx,T,seval,QV,QC,ZV];refine Cg c1 ?_;simp only[vx,T,seval,QV,QC,ZV];refine Cg c2 ?_;simp only[vx,T,seval,QV,QC,ZV];exact Ve rfl
 exact absurd ⟨rfl,rfl⟩ h
theorem BZ {x:Rat}(hx:qm x<2^38)(h:A7 x=none):Pr prog 244 [QV x] (.aB [.agg [.bool false,.nil,.bool false,.nil],.one (.bool false)]):=by
 unfold qm at hx;obtain⟨m1,k1,c1,_⟩:=nB x.num (by omega);obtain⟨m2,k2,c2,_⟩:=nB (x.den:Int) (by rw[aG];omega);refine Gn k1 k2 c1 c2 fun⟨h1,h2⟩=>?_;have h1:=of_decide_eq_true h1;have h2:=of_decide_eq_true h2;unfold A7 at h;rw[if_pos ⟨h1.1,h1.2,h2.2⟩]at h;cases h
theorem BP {x r:Rat}(hx:qm x<2^38)(h:A7 x=some r):Pr prog 244 [QV x] (.aB [QV r,.one (.bool true)]):=by
 obtain⟨_,s1,s2,s3,s4,s5⟩:=qE h;unfold qm at hx;obtain⟨m1,k1,c1,l1⟩:=nB x.num (by omega);obtain⟨m2,k2,c2,l2⟩:=nB (x.den:Int) (by rw[aG];omega);rw[decide_eq_true ⟨s1,s2⟩]at c1;rw[decide_eq_true ⟨by omega,s3⟩]at c2;have l1:=l1 s1;have l2:=l2 (by omega);have hz1:zs r.num=false:=dE.2 (by omega);have hz2:zs (r.den:Int)=false:=dE.2 (by omega);have fin:fR (.aB [.agg [.bool false,m1,.bool false,m2],.one (.bool true)]) (.aB [QV r,.one (.bool true)]):=by
  refine fR.aB ⟨?_,.refl _,trivial⟩;unfold QV QC;rw[hz1,hz2,s4,s5];exact zi (.refl _) l1 (.refl _) l2
 rcases k1 with rfl|⟨x1,rfl⟩<;>rcases k2 with rfl|⟨x2,rfl⟩
 ·refine pw func244 ⟨[0,1,2,3,4,5,6,7,25],[]⟩ ?_;simp only[Tryz.f244,ntmps244,iz,seval];simp only[vx,T,seval,QV,QC,ZV];refine Cg c1 ?_;simp only[vx,T,seval,QV,QC,ZV];refine Cg c2 ?_;simp only[vx,T,seval,QV,QC,ZV];exact fin
 ·refine pw func244 ⟨[0,1,2,3,4,5,6,7,25],[]⟩ ?_;simp only[Tryz.f244,ntmps244,iz,seval];simp only[vx,T,seval,QV,QC,ZV];refine Cg c1 ?_;simp only[vx,T,seval,QV,QC,ZV];refine Cg c2 ?_;simp only[vx,T,seval,QV,QC,ZV];exact fin
 ·refine pw func244 ⟨[0,1,2,3,4,5,6,7,25],[]⟩ ?_;simp only[Tryz.f244,ntmps244,iz,seval];simp only[vx,T,seval,QV,QC,ZV];refine Cg c1 ?_;simp only[vx,T,seval,QV,QC,ZV];refine Cg c2 ?_;simp only[vx,T,seval,QV,QC,ZV];exact fin
 refine pw func244 ⟨[0,1,2,3,4,5,6,7,25],[]⟩ ?_;simp only[Tryz.f244,ntmps244,iz,seval];simp only[vx,T,seval,QV,QC,ZV];refine Cg c1 ?_;simp only[vx,T,seval,QV,QC,ZV];refine Cg c2 ?_;simp only[vx,T,seval,QV,QC,ZV];exact fin
open Go Go.Eng
open Go.Tw (El aC aH zE aj av au ar aa QB cM ai ah aO aJ tB aU aA cF mn)
theorem ru {X h:Nat}(hX:X<2^37){t:List El}{a n:El}(W:TQ h t)(ha:a.length=2^h)(hi:mn X h t a)(hn:cF h t a=some n):
  Pr prog 182 [tV h t,eV a] (.aB [eV n,.one (.int .i64 0)]):=by
 have f:=dC W.tk a ha (.of hi.qb (by omega));have c:=(qc hX W ha hi).1 n hn;refine pw func182 ⟨[0,1,4,5,6,7,11,19],[]⟩ ?_;simp only[Tryz.f182,ntmps182,iz,seval];simp only[vx,T,seval,tV,tC,eV,ag];refine Cg f ?_;simp only[vx,T,seval,tV,tC,eV,ag];refine Cg c ?_;simp only[vx,T,seval,tV,tC,eV,ag];exact Ve rfl
open Go Go.Eng
open Go.Tw (El aC aH zE aj av au ar aa QB cM ai ah aO aJ tB aU aA)
theorem ue (z:Int)(hz:zn z<2^40):Pr prog 272 [ZV z] (ZV z):=by
 have c:=fX z (by omega);have d:=yr z.natAbs (by show nl z.natAbs<_;unfold zn at hz;omega);have s:=b5 (zs z) z.natAbs (by unfold zn at hz;omega);have e:fL (zs z) z.natAbs=z:=cB z;rw[e]at s;refine pw func272 ⟨[0,1,2],[]⟩ ?_;simp only[Tryz.f272,ntmps272,iz,seval];simp only[vx,T,seval,ZV];refine Cg c ?_;simp only[vx,T,seval,ZV];refine Cg d ?_;simp only[vx,T,seval,ZV];refine Cg s ?_;simp only[vx,T,seval,ZV];exact Ve rfl
theorem Ch (n:Int)(d:Nat)(hn:zn n<2^39)(hd:nl d<2^39)(h0:0<d):Pr prog 266 [ZV n,ZV (d:Int)] (.aB [QV (mkRat n d),.one (.int .i64 0)]):=by
 have n1:=ue n (by omega);have n2:=ue (d:Int) (by rw[aG];omega);have z:=nf (d:Int);rw[decide_eq_false (by omega)]at z;have lo:=fA n d (by omega) (by omega) h0;refine pw func266 ⟨[0,1,2,3,4,5,11],[]⟩ ?_;simp only[Tryz.f266,ntmps266,iz,seval];simp only[vx,T,seval,ZV];refine Cg n1 ?_;simp only[vx,T,seval,ZV];refine Cg n2 ?_;simp only[vx,T,seval,ZV];refine Cg z ?_;simp only[vx,T,seval,ZV];refine Cg lo ?_;simp only[vx,T,seval,ZV,QV,QC];exact Ve rfl
theorem Cf (n:Int)(d:Nat)(hn: -9223372036854775808≤n∧n≤9223372036854775807)(hd:d≤9223372036854775807)(h0:0<d)(k1:zn n<2^39)(k2:nl d<2^39):
  Pr prog 256 [.one (.int .i64 n),.one (.int .i64 d)] (QV (mkRat n d)):=by
 have c1:=gO n hn.1 hn.2;have c2:=gO (d:Int) (by omega) (by omega);have m:=Ch n d k1 k2 h0;refine pw func256 ⟨[0,1,4,5,6,16],[]⟩ ?_;simp only[Tryz.f256,ntmps256,iz,seval];simp only[vx,T,seval,ZV];refine Cg c1 ?_;simp only[vx,T,seval,ZV];refine Cg c2 ?_;simp only[vx,T,seval,ZV];refine Cg m ?_;simp only[vx,T,seval,ZV,QV,QC];exact Ve rfl
theorem C7 {X h:Nat}{t:List El}{a:El}(hX:X<2^37)(W:TQ h t)(ha:a.length=2^h)(hm:cM X h t a (aU h (mkRat 1 2))):
  Pr prog 247 [tV h t,eV a] (eV (aj h t a (aU h (mkRat 1 2)))):=by
 have c:=Cf 1 2 (by decide) (by decide) (by decide) (by decide+kernel) (by decide+kernel);have f:=eI W.tk (mkRat 1 2) (by decide+kernel);have m:=fv hX W.tk _ _ ha aA hm;refine pw func247 ⟨[0,1,4],[]⟩ ?_;simp only[Tryz.f247,ntmps247,iz,seval];simp only[vx,T,seval,tV,tC,eV,ag];refine Cg c ?_;simp only[vx,T,seval,tV,tC,eV,ag,QV,QC];refine Cg f ?_;simp only[vx,T,seval,tV,tC,eV,ag];refine Cg m ?_;simp only[vx,T,seval,tV,tC,eV,ag];exact Ve rfl
open Go Go.Proofs Go.RowKit Go.Eng
set_option maxRecDepth 100000 in
theorem CC (k:Nat)(h0:0<k)(hb:k*64≤140737488355328)(w:World)(i:TypeInfo)(z:Value)(hi:prog.info? 66=some i)(hz:i.zero=some z)(hs:i.size=4)(Xh:i.bytes=64):
  Calls prog 255 #[.slice none 0 0,.int .i64 k] w fun e w'=>e= .returned (.slice (some ⟨w.heap.size,0,none⟩) 0 (grownCap w k 0 66))∧
   w'=w.drew.alloc (.cells (Builtin.zeroCells z.cells k++Builtin.zeroCells z.cells (grownCap w k 0 66-k)) 66):=by
 have h1:¬((k:Int)<0):=by omega
 have h3:wrap64 ((k:Int)-(((0:Nat):Int)-((0:Nat):Int)))=(k:Int):=by unfold wrap64;omega
 have h4:(k:Int)>0:=by omega
 have hrz:∀ty,(Builtin.append_ #[54,3] ty #[.slice none 0 0,.int .i64 (k:Int)]).run prog w=
   .ok (.slice (some ⟨w.heap.size,0,none⟩) k (grownCap w k 0 66)) (w.drew.alloc (.cells (Builtin.zeroCells z.cells k++Builtin.zeroCells z.cells (grownCap w k 0 66-k)) 66)):=fun ty=>
  Lib.run_append_nil_zeros w 54 3 ty 66 i z .i64 .i64 (by rfl) (by rfl) hi hz k h0 (by omega) (by omega) (by rw[Xh];omega)
 obtain⟨G,hG⟩:∃G,G=grownCap w k 0 66:=⟨_,rfl⟩;rw[←hG]at hrz⊢;have hGn:k≤G:=by rw[hG];exact grownCap_ge w _ _ _
 clear hG
 go_enter func255,ntmps255
 go_wp2_with (at_builtin;refine Lib.wpList_append_run _ rfl _ _ _ _ rfl _ _ rfl rfl _ _ (hrz _) ?_)
 all_goals(go_ret;exact⟨rfl,rfl⟩)
set_option maxRecDepth 100000 in
theorem Bx (w:World):Calls prog 255 #[.slice none 0 0,.int .i64 0] w fun e w'=>e= .returned (.slice none 0 0)∧w'=w:=by
 go_enter func255,ntmps255
 go_wp2
 go_ret
 exact⟨rfl,rfl⟩
theorem C8 (k:Nat)(hb:k*64≤140737488355328):Fr prog 255 [.one .nil,.one (.int .i64 k)] (.rows 66 4 0 (fun _ _=>.any)):=by
 obtain⟨i,d,z,hi,hu,hz,_,hs,Xh,TW,_⟩:=bF CV (show T 66=some _ from rfl);have hs:i.size=4:=hs.symm;have Xh:i.bytes=64:=Xh.symm;refine⟨⟨_,func255,by rfl,by rfl⟩,trivial,fun ok w vs Tc hr=>?_⟩;obtain⟨vs⟩:=vs
 match vs,hr with
 |[v,u],hr=>
  obtain⟨hv,hu,_⟩:=hr;have hv:v= .slice none 0 0:=hv;have hu:u= .int .i64 k:=hu;subst hv hu
  by_cases h0:k=0
  ·subst h0
   refine(Bx w).mono ?_
   rintro e w' ⟨rfl,rfl⟩;exact⟨_,⟨none,0⟩,rfl,Go.RowKit.Below.refl _ _,rfl,(fun g o h=>by cases h),(fun j=>by simp[Bk.cell]),trivial,O1 _,0,O1 _,.inr ⟨rfl,rfl,rfl,rfl⟩⟩
  refine(CC k (by omega) hb w i z hi hz hs Xh).mono ?_
  rintro e w' ⟨rfl,rfl⟩;have UB:z.cells.size=4:=by
   have:=congrArg List.length TW
   simpa[T]using this.symm
  have hGn:k≤grownCap w k 0 66:=grownCap_ge w _ _ _;refine⟨_,⟨some (w.heap.size,0),0⟩,rfl,((Go.RowKit.Below.refl _ w).drew).alloc (O1 _) _,rfl,fun g o h=>?_,?_,trivial,O1 _,grownCap w k 0 66,O2 _,.inl ⟨w.heap.size,0,0,rfl,rfl,.inr (by simp),?_⟩⟩
  ·have:w.heap.size=g:=by simpa using congrArg (Option.map Prod.fst) h
   subst this;exact⟨O1 _,by simp⟩
  ·unfold aM;refine⟨_,66,heap_alloc_new w.drew _,fun j c hj=>?_⟩
   simp[Bk.cell]at hj
  have Ud:b7 (w.drew.alloc (.cells (Builtin.zeroCells z.cells k++Builtin.zeroCells z.cells (grownCap w k 0 66-k)) 66)) w.heap.size=(Builtin.zeroCells z.cells k++Builtin.zeroCells z.cells (grownCap w k 0 66-k)).size:=dJ (heap_alloc_new w.drew _);rw[Ud];simp only[Array.size_append,size_zeroCells,UB,Bk.wd];omega
end Go.Proofs.YtehahgjkjfoebaaGreat
namespace Go.Eng
open Go
theorem gg {P:Program}{f:FuncId}{xs ys:List V}{B:Bk}(h:Fr P f ys B)(ha:yZ xs ys):Fr P f xs B:=
 ⟨h.1,h.2.1,fun ok w vs Tc Ti=>h.2.2 ok w vs Tc (ha.rep Ti)⟩
theorem ot {α:Type}{ps:List (List α)}{i:Nat}(h:i<ps.length):(ps.take (i+1)).flatten=(ps.take i).flatten++ps.getD i default:=by
 rw[List.take_add_one,List.flatten_append,X7,X8 h];simp
theorem j6 {α:Type}(ps:List (List α))(i:Nat):(ps.take i).flatten.length≤ps.flatten.length:=by
 conv=>rhs;rw[←List.take_append_drop i ps,List.flatten_append,X6]
 exact Nat.le_add_right _ _
end Go.Eng
namespace Go.Proofs.YtehahgjkjfoebaaGreat
open Go.Proofs.Tryz
open Go Go.Eng
open Go.Tw (El)
def fG (l:List (Nat→C))(i j:Nat):C:=l.getD i (fun _=>.any) j
def GC (l:List (Nat→C)):C:=.rows 4 l.length (fG l)
theorem QU (p q:List (Nat→C)):∀(i j:Nat),i<p.length+q.length→j<4→(if i<p.length then fG p i j else fG q (i-p.length) j)=fG (p++q) i j:=by
 intro i j _ _;unfold fG
 by_cases h:i<p.length
 ·rw[if_pos h,X7,X7,List.getElem?_append_left h]
 rw[if_neg h,X7,X7,List.getElem?_append_right (by omega)]
theorem y6 (ps:List (List (Nat→C)))(hl:ps.flatten.length<2^38)(hk:ps.length<2^38):Fr prog 245 [.one (.rows 1 ps.length (fun i _=>GC (ps.getD i default)))] (.rows 66 4 (ps.flatten).length (fG (ps.flatten))):=by
 refine fw func245 ⟨[0,2,3,5,6,8,9,10,11,12,20,25,26,27,28],[]⟩ ?_;simp only[Tryz.f245,ntmps245,iz,seval];simp only[vx,T,seval];refine Lk (fun y:{i:Nat//i≤ps.length}=>⟨[(0,.one (.rows 1 ps.length (fun i _=>GC (ps.getD i default)))),(3,.one (.int .i64 (ps.take y.1).flatten.length)),(9,.one (.rows 1 ps.length (fun i _=>GC (ps.getD i default)))),(10,.one (.int .i64 ps.length)),(11,.one (.int .i64 y.1))],[],1,36⟩) (fun y=>ps.length-y.1) ⟨0,O2 _⟩ ?_ (fun⟨i,hi⟩=>?_)
 ·refine Sa ?_;simp only[ry,seval,rz]
 have h0:=j6 ps i;have i1:=wI i (by omega);simp only[vx,T,seval];refine⟨fun h1=>Lg ?_,fun h1=>Lg ?_⟩
 ·have hs:=ot (ps:=ps) (i:=i) (by omega);have h2:=j6 ps (i+1);have V4:(ps.take (i+1)).flatten.length=(ps.take i).flatten.length+(ps.getD i default).length:=by rw[hs,X6]
  obtain⟨a,ha⟩:∃a,a=ps.getD i default:=⟨_,rfl⟩;rw[←ha]at V4;have w1:IntKind.i64.wrap (((ps.take i).flatten.length:Int)+a.length)=((ps.take (i+1)).flatten.length:Int):=by rw[Q4 _ (by omega)];omega
  simp only[vx,T,seval,GC,←ha];simp only[w1];refine⟨by omega,fun h=>absurd h (by omega),fun _=>Lg ?_⟩;simp only[vx,T,seval,GC,←ha];simp only[i1];refine Lq ⟨i+1,by omega⟩ ?_ ?_
  ·refine Sa ?_;simp only[ry,seval,rz]
  simp only;omega
 have XX:i=ps.length:=by omega
 subst XX;rw[List.take_length];simp only[vx,T,seval];refine cN.fresh (C8 ps.flatten.length (by omega)) ?_;simp only[vx,T,seval];refine Lk (fun y:{i:Nat//i≤ps.length}=>⟨[(0,.one (.rows 1 ps.length (fun i _=>GC (ps.getD i default)))),(6,.one (.own 1 4 0 (ps.take y.1).flatten.length)),(25,.one (.rows 1 ps.length (fun i _=>GC (ps.getD i default)))),(26,.one (.int .i64 ps.length)),(27,.one (.int .i64 y.1))],[(1,⟨(.rows 66 4 ((ps.take y.1).flatten).length (fG ((ps.take y.1).flatten))),true⟩)],2,36⟩) (fun y=>ps.length-y.1) ⟨0,O2 _⟩ ?_ (fun⟨i,hi⟩=>?_)
 ·refine Sa ?_;simp only[ry,seval,rz];exact fun i j h=>absurd h (by omega)
 have h0:=j6 ps i;have i1:=wI i (by omega);simp only[vx,T,seval];refine⟨fun h1=>Lg ?_,fun h1=>Lg ?_⟩
 ·have hs:=ot (ps:=ps) (i:=i) (by omega);have h2:=j6 ps (i+1);have V4:(ps.take (i+1)).flatten.length=(ps.take i).flatten.length+(ps.getD i default).length:=by rw[hs,X6]
  obtain⟨a,ha⟩:∃a,a=ps.getD i default:=⟨_,rfl⟩;rw[←ha]at V4 hs;simp only[vx,T,seval,GC,←ha];simp only[i1];refine⟨by omega,by rw[←X6,←hs];omega,Lq ⟨i+1,by omega⟩ ?_ ?_⟩
  ·refine Sa ?_;simp only[ry,seval,rz,hs];exact⟨by simp,by simp,QU _ _⟩
  simp only;omega
 have XX:i=ps.length:=by omega
 subst XX;rw[List.take_length];simp only[vx,T,seval];exact⟨rfl,rfl,fun _ _ _ _=>rfl⟩
theorem y9 (l:El):dH (ag l) (GC (l.map qC)):=dH.rows (List.length_map _).symm fun i j hi _=>.of_eq (by
 unfold fG;rw[X7,X7,List.getElem?_map,X8 hi];rfl)
theorem Ix (l:El):dH (GC (l.map qC)) (ag l):=dH.rows (List.length_map _) fun i j hi _=>.of_eq (by
 have hi:i<l.length:=by rw[List.length_map]at hi;exact hi
 unfold fG;rw[X7,X7,List.getElem?_map,X8 hi];rfl)
theorem D6 {x y:C}{p q:List (Nat→C)}(hx:dH x (GC p))(hy:dH y (GC q))(hl:p.length+q.length<2^38):
  Pr prog 245 [.one (.rows 1 2 (fun i j=>[x,y].getD (i*1+j) .any))] (.one (GC (p++q))):=by
 have c:=(y6 [p,q] (by simpa using hl) (by simp)).rows;have e:[p,q].flatten=p++q:=by simp
 rw[e]at c;refine c.args ⟨.cell (.rows rfl fun i j hi hj=>?_),trivial⟩;obtain rfl:j=0:=by omega
 match i,hi with
 |0,_=>exact hx
 |1,_=>exact hy
theorem Qc (a b:El)(hl:a.length+b.length<2^38):Pr prog 245 [.one (.rows 1 2 (fun i j=>[ag a,ag b].getD (i*1+j) .any))] (eV (a++b)):=by
 have c:=D6 (y9 a) (y9 b) (by simpa using hl);rw[←List.map_append]at c;exact c.res (fR.cell (Ix _))
open Go Go.Eng
open Go.Tw (El aC aH zE aj av au ar aa QB cM ai ah aO aJ tB aU aA cF mn kE iF val In)
def LH (h:Nat)(t:List El)(a:El)(f:FuncId):Prop:=
 (∃b,b.length=2^h∧val h t b*val h t b=val h t a∧Pr prog f [tV h t,eV a] (.aB [eV b,.one (.bool true)]))∨
 (Go.Tw.mv h t (val h t a)∧∃l:List (Nat→C),l.length≤2^h∧Pr prog f [tV h t,eV a] (.aB [.one (GC l),.one (.bool false)]))
theorem yA {t:List El}{x r:Rat}(hx:qm x<2^38)(h:A7 x=some r):Pr prog 229 [tV 0 t,eV [x]] (.aB [eV [r],.one (.bool true)]):=by
 have c:=BP hx h;refine pw func229 ⟨[0,1,4,5,6,7,8,9,10,11,12,13,14,15,16,17,18,19,21,22,23,24,28,61,68,82,108,117,118,119,120,136],[(4,.nil),(5,.nil)]⟩ ?_;simp only[Tryz.f229,ntmps229,iz,seval];simp only[vx,T,seval,QV,QC,tV,tC,eV,ag,qC,X0];refine Cg c ?_;simp only[vx,T,seval,QV,QC,tV,tC,eV,ag,qC,X0];refine fR.aB ⟨.cell (.rows rfl fun i j hi _=>.of_eq ?_),.refl _,trivial⟩;obtain rfl:i=0:=by omega
 rw[Nat.zero_mul,Nat.zero_add];exact dD r rfl j
theorem yi {t:List El}{x:Rat}(hx:qm x<2^38)(h:A7 x=none):Pr prog 229 [tV 0 t,eV [x]] (.aB [.one zR,.one (.bool false)]):=by
 have c:=BZ hx h;refine pw func229 ⟨[0,1,4,5,6,7,8,9,10,11,12,13,14,15,16,17,18,19,21,22,23,24,28,61,68,82,108,117,118,119,120,136],[(4,.nil),(5,.nil)]⟩ ?_;simp only[Tryz.f229,ntmps229,iz,seval];simp only[vx,T,seval,QV,QC,tV,tC,eV,ag,qC,X0];refine Cg c ?_;simp only[vx,T,seval,QV,QC,tV,tC,eV,ag,qC,X0];exact Ve rfl
theorem JR {t:List El}{a:El}(ha:a.length=2^0)(hq:Qk a):LH 0 t a 229:=by
 obtain⟨x,rfl⟩:=Go.Tw.bw ha;have hx:qm x<2^38:=hq x (by simp)
 cases h:A7 x with
 |some r=>
  refine .inl ⟨[r],rfl,?_,yA hx h⟩;show R.q r*R.q r=R.q x;rw[←R.dg,(qE h).1]
 |none=>
  refine .inr ⟨?_,[fun j=>[C.bool false,.nil,.bool false,.nil].getD j .any],O1 _,(yi hx h).res (fR.aB ⟨.cell (.rows rfl fun i j hi _=>.of_eq ?_),.refl _,trivial⟩)⟩
  rotate_left
  ·obtain rfl:i=0:=by omega
   rw[Nat.zero_mul,Nat.zero_add];rfl
  rintro z ⟨b,hb,rfl⟩ e;obtain⟨y,rfl⟩:=Go.Tw.bw hb;have e:R.q y*R.q y=R.q x:=e;rw[←R.dg]at e;exact Am h y (R.j3 e)
open Go Go.Eng
open Go.Tw (El aC aH zE aj av au ar aa QB cM ai ah aO aJ tB aU aA cF mn yS kE iF val In)
theorem CF {h:Nat}:aU h (Rat.ofInt 0)=zE (2^h):=by
 have:=Nat.two_pow_pos h
 show(0:Rat)::List.replicate (2^h-1) 0=List.replicate (2^h) 0
 rw[←List.replicate_succ];congr 1;omega
theorem M1 {f:FuncId}{r:V}{h n:Nat}{t:List El}{a:El}(c:Pr prog f [tV h t,eV (a.take n)] r)(hn:n≤a.length):Pr prog f [tV h t,.one (.rows 4 n (fun i=>qC (a.getD i default)))] r:=
 c.args ⟨.refl _,.cell (fF hn),trivial⟩
theorem Fo {X h:Nat}(hX:X<2^37){t:List El}{a w:El}(W:TQ (h+1) t)(ha:a.length=2^(h+1))(hq:QB X a)(hv:a.drop (2^h)=zE (2^h))(hw:w.length=2^h)
  (c:Pr prog 229 [tV h t,eV (a.take (2^h))] (.aB [eV w,.one (.bool true)])):
  Pr prog 229 [tV (h+1) t,eV a] (.aB [eV (w++zE (2^h)),.one (.bool true)]):=by
 have W':=W.le (Nat.le_succ h);have h3:=W.h6;have hp:2^h≤64:=O3 (n:=2) (by decide) (show h≤6 by omega);have z:=dq (a.drop (2^h)) (by rw[ah ha];omega) (.of (hq.drop _) (by omega));rw[decide_eq_true (by rw[ah ha];exact hv)]at z;have i0:=cP 0 (by decide) (by decide);have f:=eI W'.tk (Rat.ofInt 0) (by decide+kernel);rw[CF]at f;have k:=Qc w (zE (2^h)) (by rw[hw,av];omega);have hn:(2^h:Nat)≤a.length:=by rw[ha,O4];omega
 have z:=z.args (xs:=[.one (.rows 4 (a.length-2^h) (fun i=>qC (a.getD (2^h+i) default)))]) ⟨.cell e9,trivial⟩;have c:=M1 c hn;obtain⟨n,SY⟩:∃n,n=2^h:=⟨_,rfl⟩;have S9:a.length=2*n:=by rw[ha,O4,SY];omega
 have w1:IntKind.i64.wrap (((h+1:Nat):Int)-1)=(h:Int):=by rw[Q4 _ (by omega)];omega
 have w2:IntKind.i64.wrap (((a.length:Nat):Int).tdiv 2)=(n:Int):=by
  rw[S9,Int.tdiv_eq_ediv_of_nonneg (by omega),Q4 _ (by omega)];omega
 have w4:((a.length:Int)-(n:Int)).toNat=a.length-n:=by omega
 rw[←SY]at z f c k hp⊢;refine pw func229 ⟨[0,1,4,5,6,7,8,9,10,11,12,13,14,15,16,17,18,19,21,22,23,24,28,61,68,82,108,117,118,119,120,136],[(4,.nil),(5,.nil)]⟩ ?_;simp only[Tryz.f229,ntmps229,iz,seval];simp only[vx,T,seval,tV,tC,eV,ag,QV,QC,w1,w2,w4];refine⟨fun h=>absurd h (by omega),fun _=>Lg ?_⟩;simp only[vx,T,seval,tV,tC,eV,ag,QV,QC,w1,w2,w4];refine⟨⟨by omega,by omega⟩,⟨by omega,by omega⟩,⟨by omega,by omega⟩,⟨by omega,by omega,by omega⟩,Cg z ?_⟩;simp only[vx,T,seval,tV,tC,eV,ag,QV,QC,w1,w2,w4];refine Cg c ?_;simp only[vx,T,seval,tV,tC,eV,ag,QV,QC,w1,w2,w4];refine Cg i0 ?_;simp only[vx,T,seval,tV,tC,eV,ag,QV,QC,w1,w2,w4];refine Cg f ?_;simp only[vx,T,seval,tV,tC,eV,ag,QV,QC,w1,w2,w4];refine Cg k ?_;simp only[vx,T,seval,tV,tC,eV,ag,QV,QC,w1,w2,w4];exact Ve rfl
theorem xA {X h:Nat}(hX:X<2^37){t:List El}{a i:El}(W:TQ (h+1) t)(ha:a.length=2^(h+1))(hq:QB X a)(hv:a.drop (2^h)=zE (2^h)){p l:List (Nat→C)}{b:Bool}(UC:p.length≤2^h)
  (c:Pr prog 229 [tV h t,eV (a.take (2^h))] (.aB [.one (GC l),.one (.bool false)])) (hr:mn X h t (t.getD h [])) (hi:cF h t (t.getD h [])=some i) (qi:cM X h t (a.take (2^h)) i)
  (c2:Pr prog 229 [tV h t,eV (aj h t (a.take (2^h)) i)] (.aB [.one (GC p),.one (.bool b)])):
  Pr prog 229 [tV (h+1) t,eV a] (.aB [.one (GC ((zE (2^h)).map qC++p)),.one (.bool b)]):=by
 have W':=W.le (Nat.le_succ h);have h3:=W.h6;have hp:2^h≤64:=O3 (n:=2) (by decide) (show h≤6 by omega);have z:=dq (a.drop (2^h)) (by rw[ah ha];omega) (.of (hq.drop _) (by omega));rw[decide_eq_true (by rw[ah ha];exact hv)]at z;have i0:=cP 0 (by decide) (by decide);have f:=eI W'.tk (Rat.ofInt 0) (by decide+kernel);rw[CF]at f;have k:=D6 (y9 (zE (2^h))) (dH.refl (GC p)) (by rw[List.length_map,av];omega);have lr:=W.tk.len h (by omega);have iv:=ru hX W' lr hr hi;have m:=fv hX W'.tk _ _ (ai ha) (Go.Proofs.YtehahgjkjfoebaaGreat.jx hi) qi;have hn:(2^h:Nat)≤a.length:=by rw[ha,O4];omega
 have z:=z.args (xs:=[.one (.rows 4 (a.length-2^h) (fun i=>qC (a.getD (2^h+i) default)))]) ⟨.cell e9,trivial⟩;have c:=M1 c hn;have m:=m.args (xs:=[tV h t,.one (.rows 4 (2^h) (fun i=>qC (a.getD i default))),eV i]) ⟨.refl _,.cell (fF hn),.refl _,trivial⟩;obtain⟨n,SY⟩:∃n,n=2^h:=⟨_,rfl⟩;have S9:a.length=2*n:=by rw[ha,O4,SY];omega
 have w1:IntKind.i64.wrap (((h+1:Nat):Int)-1)=(h:Int):=by rw[Q4 _ (by omega)];omega
 have w2:IntKind.i64.wrap (((a.length:Nat):Int).tdiv 2)=(n:Int):=by
  rw[S9,Int.tdiv_eq_ediv_of_nonneg (by omega),Q4 _ (by omega)];omega
 have w4:((a.length:Int)-(n:Int)).toNat=a.length-n:=by omega
 obtain⟨r,SQ⟩:∃r,r=t.getD h []:=⟨_,rfl⟩;rw[←SQ]at iv;obtain⟨y,hy⟩:∃y,y=aj h t (a.take (2^h)) i:=⟨_,rfl⟩;rw[←hy]at m c2;rw[←SY]at z f c k m hp⊢;refine pw func229 ⟨[0,1,4,5,6,7,8,9,10,11,12,13,14,15,16,17,18,19,21,22,23,24,28,61,68,82,108,117,118,119,120,136],[(4,.nil),(5,.nil)]⟩ ?_;simp only[Tryz.f229,ntmps229,iz,seval];simp only[vx,T,seval,tV,tC,eV,ag,QV,QC,w1,w2,w4,←SQ,GC];refine⟨fun h=>absurd h (by omega),fun _=>Lg ?_⟩;simp only[vx,T,seval,tV,tC,eV,ag,QV,QC,w1,w2,w4,←SQ,GC];refine⟨⟨by omega,by omega⟩,⟨by omega,by omega⟩,⟨by omega,by omega⟩,⟨by omega,by omega,by omega⟩,Cg z ?_⟩;simp only[vx,T,seval,tV,tC,eV,ag,QV,QC,w1,w2,w4,←SQ,GC];refine Cg c ?_;simp only[vx,T,seval,tV,tC,eV,ag,QV,QC,w1,w2,w4,←SQ,GC];refine Cg iv ?_;simp only[vx,T,seval,tV,tC,eV,ag,QV,QC,w1,w2,w4,←SQ,GC];refine Cg m ?_;simp only[vx,T,seval,tV,tC,eV,ag,QV,QC,w1,w2,w4,←SQ,GC];refine Cg c2 ?_;simp only[vx,T,seval,tV,tC,eV,ag,QV,QC,w1,w2,w4,←SQ,GC];refine Cg i0 ?_;simp only[vx,T,seval,tV,tC,eV,ag,QV,QC,w1,w2,w4,←SQ,GC];refine Cg f ?_;simp only[vx,T,seval,tV,tC,eV,ag,QV,QC,w1,w2,w4,←SQ,GC];refine Cg k ?_;simp only[vx,T,seval,tV,tC,eV,ag,QV,QC,w1,w2,w4,←SQ,GC];exact Ve rfl
theorem FY {X h:Nat}(hX:X<2^37){t:List El}{a:El}(W:TQ (h+1) t)(ha:a.length=2^(h+1))(hq:QB X a)(hv:a.drop (2^h)≠zE (2^h)){l:List (Nat→C)}(hN:yS X h t a)
  (c:Pr prog 229 [tV h t,eV (aO h t a)] (.aB [.one (GC l),.one (.bool false)])):
  Pr prog 229 [tV (h+1) t,eV a] (.aB [.one .nil,.one (.bool false)]):=by
 have W':=W.le (Nat.le_succ h);have h3:=W.h6;have hp:2^h≤64:=O3 (n:=2) (by decide) (show h≤6 by omega);have z:=dq (a.drop (2^h)) (by rw[ah ha];omega) (.of (hq.drop _) (by omega));rw[decide_eq_false (by rw[ah ha];exact hv)]at z;have cn:=tG W a ha hX hq hN;have hn:(2^h:Nat)≤a.length:=by rw[ha,O4];omega
 have z:=z.args (xs:=[.one (.rows 4 (a.length-2^h) (fun i=>qC (a.getD (2^h+i) default)))]) ⟨.cell e9,trivial⟩;obtain⟨n,SY⟩:∃n,n=2^h:=⟨_,rfl⟩;have S9:a.length=2*n:=by rw[ha,O4,SY];omega
 have w1:IntKind.i64.wrap (((h+1:Nat):Int)-1)=(h:Int):=by rw[Q4 _ (by omega)];omega
 have w2:IntKind.i64.wrap (((a.length:Nat):Int).tdiv 2)=(n:Int):=by
  rw[S9,Int.tdiv_eq_ediv_of_nonneg (by omega),Q4 _ (by omega)];omega
 have w4:((a.length:Int)-(n:Int)).toNat=a.length-n:=by omega
 rw[←SY]at z;refine pw func229 ⟨[0,1,4,5,6,7,8,9,10,11,12,13,14,15,16,17,18,19,21,22,23,24,28,61,68,82,108,117,118,119,120,136],[(4,.nil),(5,.nil)]⟩ ?_;simp only[Tryz.f229,ntmps229,iz,seval];simp only[vx,T,seval,tV,tC,eV,ag,QV,QC,w1,w2,w4,GC];refine⟨fun h=>absurd h (by omega),fun _=>Lg ?_⟩;simp only[vx,T,seval,tV,tC,eV,ag,QV,QC,w1,w2,w4,GC];refine⟨⟨by omega,by omega⟩,⟨by omega,by omega⟩,⟨by omega,by omega⟩,⟨by omega,by omega,by omega⟩,Cg z ?_⟩;simp only[vx,T,seval,tV,tC,eV,ag,QV,QC,w1,w2,w4,GC];refine Cg cn ?_;simp only[vx,T,seval,tV,tC,eV,ag,QV,QC,w1,w2,w4,GC];refine Cg c ?_;simp only[vx,T,seval,tV,tC,eV,ag,QV,QC,w1,w2,w4,GC];exact Ve rfl
def vm (u n:El)(j:Nat):El:=[aC u n,aC u (aH n)].getD j []
theorem rJ {X h:Nat}(hX:X<2^37){t:List El}{a m w i:El}(W:TQ (h+1) t)(ha:a.length=2^(h+1))(hq:QB X a)(hv:a.drop (2^h)≠zE (2^h))(hN:yS X h t a){k:Nat}{r:V}(hk:k≤2)
  (c:Pr prog 229 [tV h t,eV (aO h t a)] (.aB [eV m,.one (.bool true)])) (hm:m.length=2^h) (qm:QB X m) (qx:∀j,j<2→cM X h t (vm (a.take (2^h)) m j) (aU h (mkRat 1 2)))
  (no:∀j,j<k→∃l:List (Nat→C),Pr prog 229 [tV h t,eV (aj h t (vm (a.take (2^h)) m j) (aU h (mkRat 1 2)))] (.aB [.one (GC l),.one (.bool false)]))
  (yes:k<2→r= .aB [eV (w++aj h t (a.drop (2^h)) i),.one (.bool true)]∧w.length=2^h∧w≠zE (2^h)∧QB X w∧mn X h t (aC w w)∧cF h t (aC w w)=some i∧cM X h t (a.drop (2^h)) i∧
   Pr prog 229 [tV h t,eV (aj h t (vm (a.take (2^h)) m k) (aU h (mkRat 1 2)))] (.aB [eV w,.one (.bool true)]))
  (end':k=2→r= .aB [.one .nil,.one (.bool false)]):
  Pr prog 229 [tV (h+1) t,eV a] r:=by
 have W':=W.le (Nat.le_succ h);have h3:=W.h6;have hp:2^h≤64:=O3 (n:=2) (by decide) (show h≤6 by omega);have z:=dq (a.drop (2^h)) (by rw[ah ha];omega) (.of (hq.drop _) (by omega));rw[decide_eq_false (by rw[ah ha];exact hv)]at z;have cn:=tG W a ha hX hq hN;have lu:=ai ha;have sa:=kF W'.tk (a.take (2^h)) m lu hm (.of (hq.take _) (by omega)) (.of qm (by omega));have sb:=re W'.tk (a.take (2^h)) m lu hm (.of (hq.take _) (by omega)) (.of qm (by omega));have lx:∀j,j<2→(vm (a.take (2^h)) m j).length=2^h:=fun j hj=>by
  match j,hj with
  |0,_=>exact ar lu hm
  |1,_=>exact ar lu (by rw[au,hm])
 have hf:∀j,j<2→Pr prog 247 [tV h t,eV (vm (a.take (2^h)) m j)] (eV (aj h t (vm (a.take (2^h)) m j) (aU h (mkRat 1 2)))):=fun j hj=>C7 hX W' (lx j hj) (qx j hj);have hn:(2^h:Nat)≤a.length:=by rw[ha,O4];omega
 have z:=z.args (xs:=[.one (.rows 4 (a.length-2^h) (fun i=>qC (a.getD (2^h+i) default)))]) ⟨.cell e9,trivial⟩;have sa:=sa.args (xs:=[tV h t,.one (.rows 4 (2^h) (fun i=>qC (a.getD i default))),eV m]) ⟨.refl _,.cell (fF hn),.refl _,trivial⟩;have sb:=sb.args (xs:=[tV h t,.one (.rows 4 (2^h) (fun i=>qC (a.getD i default))),eV m]) ⟨.refl _,.cell (fF hn),.refl _,trivial⟩;obtain⟨n,SY⟩:∃n,n=2^h:=⟨_,rfl⟩;have S9:a.length=2*n:=by rw[ha,O4,SY];omega
 have w1:IntKind.i64.wrap (((h+1:Nat):Int)-1)=(h:Int):=by rw[Q4 _ (by omega)];omega
 have w2:IntKind.i64.wrap (((a.length:Nat):Int).tdiv 2)=(n:Int):=by
  rw[S9,Int.tdiv_eq_ediv_of_nonneg (by omega),Q4 _ (by omega)];omega
 have w4:((a.length:Int)-(n:Int)).toNat=a.length-n:=by omega
 obtain⟨u,hu⟩:∃u,u=a.take (2^h):=⟨_,rfl⟩;rw[←hu]at sa sb hf no yes lx qx;rw[←SY]at z sa sb;refine pw func229 ⟨[0,1,4,5,6,7,8,9,10,11,12,13,14,15,16,17,18,19,21,22,23,24,28,61,68,82,108,117,118,119,120,136],[(4,.nil),(5,.nil)]⟩ ?_;simp only[Tryz.f229,ntmps229,iz,seval];simp only[vx,T,seval,tV,tC,eV,ag,QV,QC,w1,w2,w4,GC];refine⟨fun h=>absurd h (by omega),fun _=>Lg ?_⟩;simp only[vx,T,seval,tV,tC,eV,ag,QV,QC,w1,w2,w4,GC];refine⟨⟨by omega,by omega⟩,⟨by omega,by omega⟩,⟨by omega,by omega⟩,⟨by omega,by omega,by omega⟩,Cg z ?_⟩;simp only[vx,T,seval,tV,tC,eV,ag,QV,QC,w1,w2,w4,GC];refine Cg cn ?_;simp only[vx,T,seval,tV,tC,eV,ag,QV,QC,w1,w2,w4,GC];refine Cg c ?_;simp only[vx,T,seval,tV,tC,eV,ag,QV,QC,w1,w2,w4,GC];refine Cg sa ?_;simp only[vx,T,seval,tV,tC,eV,ag,QV,QC,w1,w2,w4,GC];refine Cg sb ?_;simp only[vx,T,seval,tV,tC,eV,ag,QV,QC,w1,w2,w4,GC];refine Lk (fun y:{j:Nat//j≤k}=>⟨[(4,.one .nil),(5,.one (.bool false)),(8,tV h t),(11,.one (.rows 4 (a.length-n) (fun i=>qC (a.getD (n+i) default)))),(117,.one (.own 1 1 0 2)),(118,.one (.int .i64 2)),(119,.one (.int .i64 y.1))],[(1,⟨.rows 54 1 2 (fun j _=>ag (vm u m j)),true⟩)],2,154⟩) (fun y=>k-y.1) ⟨0,O2 _⟩ ?_ (fun⟨j,hj⟩=>?_)
 ·refine Sa ?_;simp only[ry,seval,rz,tV,tC,eV,ag,GC];refine fun i j hi hj=>?_;obtain rfl:j=0:=by omega
  match i,hi with
  |0,_=>rfl
  |1,_=>rfl
 simp only;have wi:=wI j (by omega);simp only[vx,T,seval,tV,tC,eV,ag,QV,QC,w1,w2,w4,GC];refine⟨fun g=>Lg ?_,fun g=>Lg ?_⟩
 ·have hfj:=hf j (by omega);have VF:=no j;obtain⟨x,hx⟩:∃x,x=vm u m j:=⟨_,rfl⟩;rw[←hx]at hfj VF;obtain⟨y,hy⟩:∃y,y=aj h t x (aU h (mkRat 1 2)):=⟨_,rfl⟩;rw[←hy]at hfj VF
  by_cases We:j<k
  ·obtain⟨l,hl⟩:=VF We;simp only[vx,T,seval,tV,tC,eV,ag,QV,QC,w1,w2,w4,wi,←hx,GC];refine⟨⟨by omega,by omega⟩,Cg hfj ?_⟩;simp only[vx,T,seval,tV,tC,eV,ag,QV,QC,w1,w2,w4,wi,←hx,GC];refine Cg hl ?_;simp only[vx,T,seval,tV,tC,eV,ag,QV,QC,w1,w2,w4,wi,←hx,GC];refine Lq ⟨j+1,by omega⟩ ?_ (by show k-(j+1)<k-j;omega);refine Sa ?_;simp only[ry,seval,rz,tV,tC,eV,ag,GC]
  obtain rfl:j=k:=by omega
  obtain⟨hr,hw,hw0,qw,iw,hi,qi,cw⟩:=yes (by omega);rw[←hx,←hy]at cw;rw[hr];have zw:=dq w (by omega) (.of qw (by omega));rw[decide_eq_false (by rw[hw];exact hw0)]at zw;have aw:=kF W'.tk w w hw hw (.of qw (by omega)) (.of qw (by omega));have iv:=ru hX W' (ar hw hw) iw hi;have mw:=fv hX W'.tk _ _ (ah ha) (Go.Proofs.YtehahgjkjfoebaaGreat.jx hi) qi;have mw:=mw.args (xs:=[tV h t,.one (.rows 4 (a.length-2^h) (fun i=>qC (a.getD (2^h+i) default))),eV i]) ⟨.refl _,.cell e9,.refl _,trivial⟩;have kw:=Qc w (aj h t (a.drop (2^h)) i) (by rw[hw,aa];omega);rw[←SY]at mw kw⊢;simp only[vx,T,seval,tV,tC,eV,ag,QV,QC,w1,w2,w4,wi,←hx,GC];refine⟨⟨by omega,by omega⟩,Cg hfj ?_⟩;simp only[vx,T,seval,tV,tC,eV,ag,QV,QC,w1,w2,w4,wi,←hx,GC];refine Cg cw ?_;simp only[vx,T,seval,tV,tC,eV,ag,QV,QC,w1,w2,w4,wi,←hx,GC];refine Cg zw ?_;simp only[vx,T,seval,tV,tC,eV,ag,QV,QC,w1,w2,w4,wi,←hx,GC];refine Cg aw ?_;simp only[vx,T,seval,tV,tC,eV,ag,QV,QC,w1,w2,w4,wi,←hx,GC];refine Cg iv ?_;simp only[vx,T,seval,tV,tC,eV,ag,QV,QC,w1,w2,w4,wi,←hx,GC];refine Cg mw ?_;simp only[vx,T,seval,tV,tC,eV,ag,QV,QC,w1,w2,w4,wi,←hx,GC];refine Cg kw ?_;simp only[vx,T,seval,tV,tC,eV,ag,QV,QC,w1,w2,w4,wi,←hx,GC];exact Ve rfl
 have TZ:k=2:=by omega
 rw[end' TZ];simp only[vx,T,seval,tV,tC,eV,ag,QV,QC,w1,w2,w4,GC];exact Ve rfl
theorem AO {h:Nat}:Go.Tw.pA h=aU h (mkRat 1 2):=by
 unfold Go.Tw.pA;rw[show (2:Rat)⁻¹=mkRat 1 2 from by decide+kernel]
theorem Rq {f:FuncId}{zs:List V}{w:El}{b:Bool}(c:Pr prog f zs (.aB [eV w,.one (.bool b)])):Pr prog f zs (.aB [.one (GC (w.map qC)),.one (.bool b)]):=
 c.res (fR.aB ⟨.cell (y9 w),.refl _,trivial⟩)
theorem Ry {f:FuncId}{zs:List V}{w:El}{b:Bool}(c:Pr prog f zs (.aB [.one (GC (w.map qC)),.one (.bool b)])):Pr prog f zs (.aB [eV w,.one (.bool b)]):=
 c.res (fR.aB ⟨.cell (Ix w),.refl _,trivial⟩)
theorem Fh {f:FuncId}{zs:List V}(c:Pr prog f zs (.aB [.one .nil,.one (.bool false)])):Pr prog f zs (.aB [.one (GC []),.one (.bool false)]):=
 c.res (fR.aB ⟨.cell (.pV _ _),.refl _,trivial⟩)
theorem nc {X:Nat}(hX:X<2^37){t:List El}:∀{h:Nat} {a:El},TQ h t→Go.Tw.Rd h t→a.length=2^h→kE X h t a→LH h t a 229
 |0,a,_,_,ha,hs=>JR ha (.of hs.qb (by omega))
 |h+1,a,W,D,ha,hs=>by
  have W':=W.le (Nat.le_succ h);have D':=D.le (Nat.le_succ h);have ih:=fun{b:El} (hb:b.length=2^h) (k:kE X h t b)=>nc hX (a:=b) W' D' hb k;have hq:=hs.qb;have lz:(zE (2^h)).length=2^h:=av;have eP:2^(h+1)=2^h+2^h:=by rw[O4];omega
  obtain⟨⟨_,hN,_⟩,s2,s3⟩:=hs
  by_cases hv:a.drop (2^h)=zE (2^h)
  ·obtain⟨g1,g2,g3⟩:=s2 hv
   rcases ih (ai ha) g1 with⟨w,lw,ew,cw⟩|⟨n1,l,hl,c⟩
   ·obtain⟨k1,k2⟩:=Go.Tw.Af hv lw ew;exact .inl ⟨_,k1,k2,Fo hX W ha hq hv lw cw⟩
   obtain⟨i,hi,_,_⟩:=Go.Tw.jR D' (D.rl h (by omega)).1 (R.jQ (D.rl h (by omega)).2);obtain⟨qi,sq⟩:=g3 i hi
   rcases ih aa sq with⟨w,lw,ew,cw⟩|⟨n2,p,hp,c2⟩
   ·obtain⟨k1,k2⟩:=Go.Tw.A5 D.rl ha hv hi lw ew;refine .inl ⟨_,k1,k2,Ry ?_⟩;rw[List.map_append];exact xA hX W ha hq hv (by rw[List.length_map,lw];exact O1 _) c g2 hi qi (Rq cw)
   refine .inr ⟨Go.Tw.A1 D ha hv hi n1 n2,_,?_,xA hX W ha hq hv hp c g2 hi qi c2⟩;rw[X6,List.length_map,lz];omega
  obtain⟨g1,g2⟩:=s3 hv
  rcases ih aJ g1 with⟨n,ln,en,cn⟩|⟨n1,l,hl,c⟩
  ·have lm:(aH n).length=2^h:=by rw[au,ln]
   have em:val h t (aH n)*val h t (aH n)=val h t (aO h t a):=by rw[Go.Tw.val_neg ln,R.neg_mul,R.mul_neg,R.neg_neg,en]
   obtain⟨k1,k2,k3,k4⟩:=g2 n ln en;obtain⟨k1',k2',k3',k4'⟩:=g2 (aH n) lm em;rw[AO]at k2 k3 k4 k2' k3' k4';have qx:∀j,j<2→cM X h t (vm (a.take (2^h)) n j) (aU h (mkRat 1 2)):=fun j hj=>by
    match j,hj with
    |0,_=>exact k2
    |1,_=>exact k2'
   have fin:∀{m w:El},m.length=2^h→val h t m*val h t m=val h t (aO h t a)→w.length=2^h→val h t w*val h t w=val h t (aj h t (aC (a.take (2^h)) m) (aU h (mkRat 1 2)))→
     w≠zE (2^h)∧∃i,cF h t (aC w w)=some i∧(w++aj h t (a.drop (2^h)) i).length=2^(h+1)∧
      val (h+1) t (w++aj h t (a.drop (2^h)) i)*val (h+1) t (w++aj h t (a.drop (2^h)) i)=val (h+1) t a:=by
    intro m w lm em lw ew;have h0:=Go.Tw.yt D ha hv lm em ew;have h1:val h t (aC w w)≠R.q 0:=by
     rw[Go.Tw.val_add lw lw];exact fun e=>h0 (R.Hb e)
    obtain⟨i,hi,li,vi⟩:=Go.Tw.jR D' (ar lw lw) h1;refine⟨fun e=>h0 (by rw[e,Go.Tw.val_zero]),i,hi,Go.Tw.vV D ha hv lm em lw ew aa ?_⟩;rw[Go.Tw.val_add lw lw]at vi;rw[Go.Tw.val_mul D'.rl (ah ha) li,←R.add_mul,R.mul_comm (val h t (a.drop (2^h))),←R.mul_assoc,vi,R.one_mul]
   rcases ih aa k3 with⟨w,lw,ew,cw⟩|⟨n1,l1,_,c1⟩
   ·obtain⟨w0,i,hi,f1,f2⟩:=fin ln en lw ew;obtain⟨m1,_,m3,_,m5⟩:=k4 w lw ew;exact .inl ⟨_,f1,f2,rJ hX W ha hq hv hN (k:=0) (by omega) cn ln k1 qx (fun j hj=>absurd hj (O5 _)) (fun _=>⟨rfl,lw,w0,m1,m3,hi,m5 i hi,cw⟩) (fun e=>absurd e (by decide))⟩
   have no1:∀j,j<1→∃l:List (Nat→C),Pr prog 229 [tV h t,eV (aj h t (vm (a.take (2^h)) n j) (aU h (mkRat 1 2)))] (.aB [.one (GC l),.one (.bool false)]):=fun j hj=>by
    obtain rfl:j=0:=by omega
    exact⟨l1,c1⟩
   rcases ih aa k3' with⟨w,lw,ew,cw⟩|⟨n2,l2,_,c2⟩
   ·obtain⟨w0,i,hi,f1,f2⟩:=fin lm em lw ew;obtain⟨m1,_,m3,_,m5⟩:=k4' w lw ew;exact .inl ⟨_,f1,f2,rJ hX W ha hq hv hN (k:=1) (by omega) cn ln k1 qx no1 (fun _=>⟨rfl,lw,w0,m1,m3,hi,m5 i hi,cw⟩) (fun e=>absurd e (by decide))⟩
   refine .inr ⟨Go.Tw.wL D ha hv ln en n1 n2,[],O2 _,Fh (rJ (w:=[]) (i:=[]) hX W ha hq hv hN (k:=2) (by omega) cn ln k1 qx (fun j hj=>?_) (fun e=>absurd e (by decide)) (fun _=>rfl))⟩
   match j,hj with
   |0,_=>exact⟨l1,c1⟩
   |1,_=>exact⟨l2,c2⟩
  exact .inr ⟨Go.Tw.xo D ha hv n1,[],O2 _,Fh (FY hX W ha hq hv hN c)⟩
end Go.Proofs.YtehahgjkjfoebaaGreat
namespace Go.Tw
open Go Go.R
def dL (h:Nat):El:=zE (2^h)++aU h 1
theorem kQ {h:Nat}:(dL h).length=2^(h+1):=by unfold dL;rw[X6,av,aA,O4];omega
theorem rM {T:List El}{e:El}:val (T.length+1) (T++[e]) (dL T.length)=R.sqrt (val T.length T e):=by
 unfold dL;rw[ft av,val_zero,bx,zero_add,one_mul,fU,eF (O1 _)]
def bZ (H:Nat)(a:El):El:=a++zE (2^H-a.length)
theorem CU (m n:Nat):zE m++zE n=zE (m+n):=by unfold zE;rw[List.replicate_append_replicate]
theorem bA {H:Nat}{a:El}(h:a.length≤2^H):(bZ H a).length=2^H:=by unfold bZ;rw[X6,av];omega
theorem xj {H:Nat}{a:El}(h:a.length=2^H):bZ H a=a:=by unfold bZ;rw[h,Nat.sub_self];exact List.append_nil _
theorem F0 {H:Nat}{a:El}(h:a.length≤2^H):bZ (H+1) a=bZ H a++zE (2^H):=by
 unfold bZ;rw[List.append_assoc,CU,O4];congr 2;omega
theorem pr {T:List El}{m:Nat}{a:El}(ha:a.length=2^m):∀{H:Nat},m≤H→val H T (bZ H a)=val m T a
 |0,h=>by
        obtain rfl:m=0:=by omega
        rw[xj ha]
 |H+1,h=>by
  by_cases e:m=H+1
  ·subst e;rw[xj ha]
  have hl:a.length≤2^H:=by rw[ha];exact O3 (by decide) (by omega)
  rw[F0 hl,kD (bA hl),pr ha (by omega)]
theorem QB.pad {B H:Nat}{a:El}(h1:1≤B)(h:QB B a):QB B (bZ H a):=h.app (QB.zero.mono h1)
def a9 (H:Nat)(T rs:List El):Nat→El→El
 |0,a=>aU H (a.getD 0 0)
 |k+1,a=>aC (a9 H T rs k (a.take (2^k))) (aj H T (a9 H T rs k (a.drop (2^k))) (bZ H (rs.getD k [])))
theorem aY {H:Nat}{T rs:List El}:∀{k:Nat} {a:El},(a9 H T rs k a).length=2^H
 |0,_=>aA
 |_+1,_=>ar aY aa
theorem iR:∀{a:El} {n:Nat},a.length=n→aC a (zE n)=a
 |[],n,h=>by subst h;rfl
 |x::a,n,h=>by
  subst h
  show(x+0)::aC a (zE a.length)=x::a
  rw[iR rfl,Rat.add_zero]
theorem wW {H:Nat}{T rs:List El}:∀{k:Nat},a9 H T rs k (zE (2^k))=zE (2^H)
 |0=>by
  rw[a9];show aU H 0=_;unfold aU zE
  have:=Nat.two_pow_pos H
  rw[←List.replicate_succ];congr 1;omega
 |k+1=>by rw[a9,pR,pD,wW,bH,iR av]
theorem Ai {H:Nat}{T rs:List El}{k:Nat}{a:El}(hv:a.drop (2^k)=zE (2^k)):a9 H T rs (k+1) a=a9 H T rs k (a.take (2^k)):=by
 rw[a9,hv,wW,bH,iR aY]
structure Ext (A:List R) (u:List El) (k:Nat) (T rs:List El):Prop where
 tg:TG A T
 len:rs.length=k
 root:∀i,i<k→∃m,m≤T.length∧(rs.getD i []).length=2^m∧val m T (rs.getD i [])=R.sqrt (val i u (u.getD i []))
theorem kn {A:List R}{u T rs:List El}{K:Nat}(E:Ext A u K T rs):∀{k:Nat} {a:El},k≤K→a.length=2^k→val T.length T (a9 T.length T rs k a)=val k u a
 |0,a,_,ha=>by
  obtain⟨x,rfl⟩:=bw ha;rw[a9,bx];rfl
 |k+1,a,hk,ha=>by
  obtain⟨m,hm,hl,hv⟩:=E.root k (by omega);have UC:(bZ T.length (rs.getD k [])).length=2^T.length:=bA (by rw[hl];exact O3 (by decide) hm);rw[a9,val_add aY aa,val_mul E.tg.rd.rl aY UC,kn E (by omega) (ai ha),kn E (by omega) (ah ha),pr hl hm,hv,val]
theorem Ext.up {A:List R}{u T S rs:List El}{k:Nat}(E:Ext A u k T rs)(G:TG A (T++S)){r:El}{m:Nat}(hm:m≤(T++S).length)(hl:r.length=2^m)(hv:val m (T++S) r=R.sqrt (val k u (u.getD k []))):Ext A u (k+1) (T++S) (rs++[r]):=by
 refine⟨G,by rw[X6,E.len];rfl,fun i hi=>?_⟩
 by_cases h:i<k
 ·obtain⟨m',h1,h2,h3⟩:=E.root i h;have e:(rs++[r]).getD i []=rs.getD i []:=cR (by rw[E.len];exact h);refine⟨m',by rw[X6];omega,by rw[e,h2],by rw[e,eF h1,h3]⟩
 obtain rfl:i=k:=by omega
 have e:(rs++[r]).getD i []=r:=by rw[←E.len];exact fU
 exact⟨m,hm,by rw[e,hl],by rw[e,hv]⟩
theorem In.CR {A:List R}{u T rs:List El}{K:Nat}(E:Ext A u K T rs){k:Nat}(hk:k≤K){x:R}(hx:In k u x):In T.length T x:=by
 obtain⟨a,ha,rfl⟩:=hx;exact⟨a9 T.length T rs k a,aY,kn E hk ha⟩
end Go.Tw
namespace Go.Tw
open Go Go.R
theorem kE.sg {X h:Nat}{t:List El}{a:El}(H:kE X h t a):iF X h t a:=by
 cases h with
 |zero=>exact H
 |succ h=>exact H.1
structure Gd (X h:Nat) (t:List El) (a:El):Prop where
 sq:kE X h t a
 rt:∀b,b.length=2^h→val h t b*val h t b=val h t a→iF X h t b
section
variable {A:List R}
theorem TG.RA (S:Src 64 A)(hA:oF A){t:List El}(T:TG A t){e:El}(he:e.length=2^t.length)(hv:val t.length t e∈A)(hp:R.pos (val t.length t e)):Gd jS t.length t e:=by
 refine⟨T.R8 S hA he hv,fun b hb eb=>?_⟩;obtain⟨cc,H,z,w,d,E,Tq,h1⟩:=T.ev S hA;have hs:=R.cV (bu.2 (.inr hp));have hx:Ht t.length z w (val t.length t b) H:=by
  rcases R.zG (eb.trans hs.symm)with k|k
  ·rw[k];exact h1 _ hv (by rw[←k];exact .of hb)
  rw[k]
  have:In t.length t (R.sqrt (val t.length t e)):=by
   have:=(In.of (t:=t) hb).neg
   rwa [k,R.neg_neg]at this
  exact(h1 _ hv this).neg
 exact(iF.of E hb hx).mono (O0 (sR (by omega)) Tq)
theorem iu.zero {B n:Nat}:iu B (zE n):=fun c hc=>by
 rw[List.eq_of_mem_replicate hc];exact⟨O2 _,Nat.one_le_two_pow⟩
theorem TG.RN (S:Src 64 A)(hA:dV A){t:List El}(T:TG A t)(h2:t.length≤2){e:El}(he:e.length=2^t.length)(hv:val t.length t e=q 0):Gd jS t.length t e:=by
 have ez:=nv T.rd he hv;refine⟨by rw[ez];exact T.RK S hA h2 (by rw[av]) .zero,fun b hb eb=>?_⟩;rw[hv]at eb;exact T.Rj S hA hb (R.QX eb) (by decide) (by decide)
end
end Go.Tw
namespace Go.Proofs.YtehahgjkjfoebaaGreat
open Go.Proofs.Tryz
open Go Go.Eng
open Go.Tw (El aC aH zE aj av au ar aa QB cM ai ah aO aJ tB aU aA cF mn kE iF val In Gd Rd mv TG jS bp dL cA dF)
structure GQ (X h:Nat) (t:List El):Prop where
 rq:yb X h t
 rd:Rd h t
 sq:∀i,i<h→kE X i t (t.getD i [])
theorem GQ.le {X h k:Nat}{t:List El}(W:GQ X h t)(hk:k≤h):GQ X k t:=⟨W.rq.le hk,W.rd.le hk,fun i hi=>W.sq i (by omega)⟩
theorem tR {A:List R}(S:Go.Tw.Src 64 A)(hA:Go.Tw.oF A){t:List El}(G:TG A t){h:Nat}(hh:h≤t.length):GQ jS h t:=by
 have h3:=G.my hA;have hs:=fun i (hi:i<t.length)=>G.QQ S hA hi;have hb:=fun i (hi:i<t.length)=>G.qb S hA hi;refine GQ.le (h:=t.length) ⟨⟨⟨⟨by omega,fun i hi=>(G.rd.rl i hi).1,fun i hi=>.of (hb i hi) (by decide)⟩,h3,fun i hi=>hb i hi⟩,fun i hi=>(hs i hi).sg,fun i hi=>?_⟩,G.rd,hs⟩ hh;rw[cA (G.rd.rl.le (by omega)) (G.rd.rl i hi).1,R.gW (G.rd.rl i hi).2];decide
section
variable {X h:Nat}(hX:X<2^37){t:List El}{a:El}
include hX
theorem vF {w:El}(W:GQ X h t)(hw:w.length=2^h)(sw:iF X h t w)(c:Pr prog 229 [tV h t,eV a] (.aB [eV w,.one (.bool true)])):
  Pr prog 208 [tV h t,eV a] (.aB [eV (if bp h t w<0 then aH w else w),.one (.bool true)]):=by
 have s:=kW hX W.rq hw sw;have n:=wG W.rq.tq.tk w hw (.of sw.qb (by omega));refine pw func208 ⟨[0,1,4,5,6,7,15,19],[]⟩ ?_;simp only[Tryz.f208,ntmps208,iz,seval];simp only[vx,T,seval,tV,tC,eV,ag];refine Cg c ?_;simp only[vx,T,seval,tV,tC,eV,ag];refine Cg s ?_;simp only[vx,T,seval,tV,tC,eV,ag];refine⟨fun g=>Lg ?_,fun g=>Lg ?_⟩
 ·rw[if_pos g];simp only[vx,T,seval,tV,tC,eV,ag];refine Cg n ?_;simp only[vx,T,seval,tV,tC,eV,ag];exact Ve rfl
 rw[if_neg g];simp only[vx,T,seval,tV,tC,eV,ag];exact Ve rfl
omit hX in
theorem vG {l:List (Nat→C)}(c:Pr prog 229 [tV h t,eV a] (.aB [.one (GC l),.one (.bool false)])):
  Pr prog 208 [tV h t,eV a] (.aB [.one .nil,.one (.bool false)]):=by
 refine pw func208 ⟨[0,1,4,5,6,7,15,19],[]⟩ ?_;simp only[Tryz.f208,ntmps208,iz,seval];simp only[vx,T,seval,tV,tC,eV,ag];refine Cg c ?_;simp only[vx,T,seval,tV,tC,eV,ag,GC];exact Ve rfl
theorem vH (W:GQ X h t)(ha:a.length=2^h)(hB:Gd X h t a):
  (∃w,w.length=2^h∧val h t w=R.sqrt (val h t a)∧Pr prog 208 [tV h t,eV a] (.aB [eV w,.one (.bool true)]))∨
  (mv h t (val h t a)∧Pr prog 208 [tV h t,eV a] (.aB [.one .nil,.one (.bool false)])):=by
 rcases nc hX W.rq.tq W.rd ha hB.sq with⟨b,lb,eb,cb⟩|⟨no,l,_,c⟩
 ·refine .inl ⟨_,?_,?_,vF hX W lb (hB.rt b lb eb) cb⟩
  ·split
   ·rw[au,lb]
   exact lb
  have e:=cA W.rd.rl lb;have nn:∀x,x=val h t b∨x= -val h t b→R.nn x→x=R.sqrt (val h t a):=by
   intro x hx hn;rw[←eb]
   rcases hx with rfl|rfl
   ·exact(R.qF hn).symm
   rw[show val h t b*val h t b= -val h t b* -val h t b by rw[R.neg_mul,R.mul_neg,R.neg_neg]];exact(R.qF hn).symm
  split
  ·rename_i g
   rw[Go.Tw.val_neg lb];refine nn _ (.inr rfl) ?_
   rcases R.dh (val h t b)with⟨k,k2⟩|⟨k,k2⟩|⟨k,k2⟩
   ·rw[k,R.jK];exact R.bu.2 (.inl rfl)
   ·omega
   exact R.bu.2 (.inr k)
  rename_i g
  refine nn _ (.inl rfl) ?_
  rcases R.dh (val h t b)with⟨k,k2⟩|⟨k,k2⟩|⟨k,k2⟩
  ·rw[k];exact R.bu.2 (.inl rfl)
  ·exact R.bu.2 (.inr k)
  omega
 exact .inr ⟨no,vG c⟩
theorem y8 (W:GQ X h t):Pr prog 207 [tV h t] (.one (.bool true)):=by
 have h3:=W.rq.tq.h6;have f:∀i,i<h→Pr prog 140 [tV i t,eV (t.getD i [])] (.one (.bool true)):=fun i hi=>dC (W.rq.tq.tk.le (by omega)) _ (W.rd.rl i hi).1 (W.rq.tq.tk.q i hi);have s:∀i,i<h→Pr prog 127 [tV i t,eV (t.getD i [])] (.one (.int .i64 1)):=fun i hi=>by
  have c:=kW hX (W.rq.le (show i≤h by omega)) (W.rd.rl i hi).1 (W.sq i hi).sg
  rwa [cA (W.rd.rl.le (by omega)) (W.rd.rl i hi).1,R.gW (W.rd.rl i hi).2]at c
 have q:∀i,i<h→∃l,Pr prog 229 [tV i t,eV (t.getD i [])] (.aB [.one (GC l),.one (.bool false)]):=fun i hi=>by
  rcases nc hX (W.rq.tq.le (show i≤h by omega)) (W.rd.le (by omega)) (W.rd.rl i hi).1 (W.sq i hi)with⟨b,lb,eb,_⟩|⟨_,l,_,c⟩
  ·exact absurd eb (W.rd.ns i hi _ (.of lb))
  exact⟨l,c⟩
 refine pw func207 ⟨[0,2,3,4,6,7,8,9,10,27,36],[]⟩ ?_;simp only[Tryz.f207,ntmps207,iz,seval];simp only[vx,T,seval,tV,tC,ag];refine Lk (fun y:{i:Nat//i≤h}=>⟨[(0,tV h t),(2,.one (.bool false)),(7,tV h t),(8,.one (.int .i64 h)),(9,.one (.int .i64 y.1))],[],1,38⟩) (fun y=>h-y.1) ⟨0,O2 _⟩ ?_ (fun⟨i,hi⟩=>?_)
 ·refine Sa ?_;simp only[ry,seval,rz,tV,tC,ag]
 simp only;have wi:=wI i (by omega);simp only[vx,T,seval,tV,tC,ag];refine⟨fun k=>Lg ?_,fun k=>Lg ?_⟩
 ·have SI:i<h:=by omega
  have fi:=f i SI;have si:=s i SI;obtain⟨l,qi⟩:=q i SI;obtain⟨r,hr⟩:∃r,r=t.getD i []:=⟨_,rfl⟩;rw[←hr]at fi si qi;simp only[vx,T,seval,tV,tC,ag,←hr];refine⟨⟨by omega,by omega⟩,⟨by omega,by omega⟩,Cg fi ?_⟩;simp only[vx,T,seval,tV,tC,ag,←hr];refine⟨⟨by omega,by omega⟩,Cg si ?_⟩;simp only[vx,T,seval,tV,tC,ag,←hr];refine⟨⟨by omega,by omega⟩,Cg qi ?_⟩;simp only[vx,T,seval,tV,tC,ag,GC,wi];refine Lq ⟨i+1,by omega⟩ ?_ (by show h-(i+1)<h-i;omega);refine Sa ?_;simp only[ry,seval,rz,tV,tC,ag]
 simp only[vx,T,seval,tV,tC,ag];exact Ve rfl
end
def wT (t:List El)(k:Nat)(i:Nat)(_:Nat):C:=if i<k then ag (t.getD i [])else .nil
theorem OY {t:List El}{i k j:Nat}{r:El}(hr:r=t.getD i [])(hj:j<1):bz (wT t i) i 0 [ag r] k j=wT t (i+1) k j:=by
 obtain rfl:j=0:=by omega
 unfold bz wT
 by_cases hk:k=i
 ·subst hk;rw[if_pos rfl,if_pos (O1 _),if_pos (by simp),if_pos (by omega),hr,Nat.sub_self];rfl
 rw[if_neg hk]
 by_cases h2:k<i
 ·rw[if_pos h2,if_pos (by omega)]
 rw[if_neg h2,if_neg (by omega)]
theorem Pa {t:List El}{e:TypeId}{n:Nat}:Y5 [] 0 (Bk.rows e 1 n (wT t n)) (Bk.rows e 1 n (fun i _=>ag (t.getD i []))):=⟨rfl,rfl,fun i j hi _=>by
 rw[wT,if_pos hi]⟩
theorem CE {h:Nat}(hh:h≤8)(t:List El)(hl:∀i,i<h→(t.getD i []).length<2^38):Fr prog 209 [tV h t] (.rows 54 1 h (fun i _=>ag (t.getD i []))):=by
 refine fw func209 ⟨[0,2,3,4,5,9,10,11,12],[]⟩ ?_;simp only[Tryz.f209,ntmps209,iz,seval];simp only[vx,T,seval,tV,tC,ag];refine⟨by omega,Lk (fun y:{i:Nat//i≤h}=>⟨[(0,tV h t),(3,.one (.own 1 1 0 h)),(9,tV h t),(10,.one (.int .i64 h)),(11,.one (.int .i64 y.1))],[(1,⟨.rows 54 1 h (wT t y.1),true⟩)],2,23⟩) (fun y=>h-y.1) ⟨0,O2 _⟩ ?_ (fun⟨i,hi⟩=>?_)⟩
 ·refine Sa ?_;simp only[ry,seval,rz,tV,tC,ag];exact fun i j _ hj=>by
               obtain rfl:j=0:=by omega
               rw[wT,if_neg (O5 _)];rfl
 simp only;have wi:=wI i (by omega);simp only[vx,T,seval,tV,tC,ag];refine⟨fun g=>Lg ?_,fun g=>Lg ?_⟩
 ·have ci:=sr (t.getD i []) (hl i (by omega));obtain⟨r,hr⟩:∃r,r=t.getD i []:=⟨_,rfl⟩;rw[←hr]at ci;simp only[vx,T,seval,tV,tC,ag,←hr];refine⟨by omega,Cg ci ?_⟩;simp only[vx,T,seval,eV,tV,tC,ag,wi];refine⟨by omega,Lq ⟨i+1,by omega⟩ ?_ (by show h-(i+1)<h-i;omega)⟩;refine Sa ?_;simp only[ry,seval,rz,tV,tC,ag];exact fun k j _ hj=>OY hr hj
 have SU:i=h:=by omega
 subst SU;simp only[vx,T,seval,tV,tC,ag];exact Pa
open Go Go.Eng
open Go.Tw (El aC aH zE aj av au ar aa QB cM ai ah aO aJ tB aU aA cF mn kE iF val In Gd Rd mv TG jS bp dL cA dF)
theorem zq (h:Nat)(k j:Nat)(hj:j<4):
  bz (fQ (zE (2^(h+1)))) (2^h) 0 [C.bool (zs (Rat.ofInt 1).num),C.ints .u32 (zm (Rat.ofInt 1).num),C.bool (zs ((Rat.ofInt 1).den:Int)),C.ints .u32 (zm ((Rat.ofInt 1).den:Int))] k j=fQ (dL h) k j:=by
 have hp:0<2^h:=Nat.pow_pos (by decide);have e1:(dL h).getD (2^h) default=Rat.ofInt 1:=by
  unfold dL;rw[X7,List.getElem?_append_right (by rw[av];exact O1 _),av,Nat.sub_self];rfl
 unfold bz
 by_cases hk:k=2^h
 ·subst hk;rw[if_pos rfl,if_pos (O2 _),if_pos (by simpa using hj),Nat.sub_zero];exact dD _ e1 j
 rw[if_neg hk];unfold fQ
 congr 1
 have e2:∀{n:Nat},(zE n).getD k default=0:=by
  intro n;unfold zE;rw[X7,List.getElem?_replicate]
  split<;>rfl
 rw[e2];unfold dL;rw[X7]
 by_cases hl:k<2^h
 ·rw[List.getElem?_append_left (by rw[av];exact hl),←X7,e2]
 rw[List.getElem?_append_right (by rw[av];omega),av];unfold aU;obtain⟨d,hd⟩:∃d,k-2^h=d+1:=⟨k-2^h-1,by omega⟩;rw[hd,List.getElem?_cons_succ];unfold zE;rw[List.getElem?_replicate]
 split<;>rfl
theorem FZ {h:Nat}{U:List El}(tk:Tk (h+1) U):Pr prog 210 [tV (h+1) U,.one (.int .i64 h)] (eV (dL h)):=by
 have h8:=tk.le8;have r:=jJ tk;have hs:=dO (h:=h+1) h8;have U2:=dO (h:=h) (by omega);have hp:=aN h8;have z:=oR (2^(h+1)) hp;have o:=cP 1 (by decide) (by decide);have SI:2^h<2^(h+1):=Nat.pow_lt_pow_right (by decide) (by omega);have hlen:(zE (2^(h+1))).length=2^(h+1):=av;obtain⟨N,hN⟩:∃N,N=2^(h+1):=⟨_,rfl⟩;obtain⟨M,hM⟩:∃M,M=2^h:=⟨_,rfl⟩;have st:=zq h;rw[←hN]at hs z SI hlen hp st;rw[←hM]at U2 SI st;have hs:IntKind.i64.wrap (1*2^(if h≤63 then h+1 else 64))=(N:Int):=by
  rw[if_pos (by omega)]at hs⊢;exact hs
 refine pw func210 ⟨[0,1,4,5,18],[]⟩ ?_;simp only[Tryz.f210,ntmps210,iz,seval];simp only[vx,T,seval,tV,tC,ag];refine Cg r ?_;simp only[vx,T,seval,tV,tC,ag];refine⟨fun h=>absurd h (by omega),fun _=>Lg ?_⟩;simp only[vx,T,seval,tV,tC,ag,hs,U2];refine⟨fun h=>absurd h (by omega),fun _=>Lg ?_⟩;simp only[vx,T,seval,tV,tC,ag,hs,U2];refine⟨by omega,cN.fresh z ?_⟩;simp only[vx,T,seval,tV,tC,ag,hs,U2];refine⟨by omega,Cg o ?_⟩;simp only[vx,T,seval,tV,tC,ag,QV,QC,hs,U2,hlen];exact⟨⟨by omega,by omega⟩,fR.cell (dH.rows (by rw[Go.Tw.kQ,hN]) fun i j _ hj=>.of_eq (st i j hj))⟩
open Go Go.Eng
open Go.Tw (El aC aH zE aj av au ar aa QB cM ai ah aO aJ tB aU aA cF mn kE iF val In Gd Rd mv TG jS bp dL cA dF)
section
variable {A:List R}(S:Go.Tw.Src 64 A)(hA:Go.Tw.oF A){t:List El}{a:El}
include S hA
theorem Aa (G:TG A t)(ha:a.length=2^t.length)(hn:R.nn (val t.length t a))(hB:Gd jS t.length t a):
  (∃w,w.length=2^t.length∧val t.length t w=R.sqrt (val t.length t a)∧Pr prog 165 [tV t.length t,eV a] (.aB [tV t.length t,eV w,.one (.int .i64 0)]))∨
  (mv t.length t (val t.length t a)∧Pr prog 165 [tV t.length t,eV a] (.aB [tV (t.length+1) (t++[a]),eV (dL t.length),.one (.int .i64 0)])):=by
 have W:=tR S hA G (O1 _);have hX:jS<2^37:=by decide
 have h3:=W.rq.tq.h6;have f:=dC W.rq.tq.tk a ha (.of hB.sq.qb (by omega));have rd:=y8 hX W;have sg:=kW hX W.rq ha hB.sq.sg;have hs:¬bp t.length t a<0:=by
  rw[cA W.rd.rl ha]
  rcases R.dh (val t.length t a)with⟨k,k2⟩|⟨k,k2⟩|⟨k,k2⟩
  ·omega
  ·omega
  exact absurd k hn
 have cl:=CE (h:=t.length) (by omega) t (fun i hi=>by rw[(W.rd.rl i hi).1];exact aN (by omega));obtain⟨n,SY⟩:∃n,n=t.length:=⟨_,rfl⟩
 rcases vH hX W ha hB with⟨w,lw,ew,cw⟩|⟨no,c⟩
 ·refine .inl ⟨w,lw,ew,?_⟩;rw[←SY]at f rd sg cl cw hs⊢;have cl:=cl.rows;refine pw func165 ⟨[0,1,4,5,6,7,8,9,10,20,31,37],[]⟩ ?_;simp only[Tryz.f165,ntmps165,iz,seval];simp only[vx,T,seval,tV,tC,eV,ag];refine Cg f ?_;simp only[vx,T,seval,tV,tC,eV,ag];refine Cg rd ?_;simp only[vx,T,seval,tV,tC,eV,ag];refine Cg sg ?_;simp only[vx,T,seval,tV,tC,eV,ag];refine⟨fun h=>absurd h hs,fun _=>Lg ?_⟩;simp only[vx,T,seval,tV,tC,eV,ag];refine Cg cw ?_;simp only[vx,T,seval,tV,tC,eV,ag];refine Cg cl ?_;simp only[vx,T,seval,tV,tC,eV,ag];exact Ve rfl
 refine .inr ⟨no,?_⟩;have q:=sr a (by rw[ha];exact aN (by omega));have tk:Tk (t.length+1) (t++[a]):=by
  have key:∀i,i<t.length+1→i<t.length∨i=t.length:=fun i hi=>by omega
  refine⟨by omega,fun i hi=>?_,fun i hi=>?_⟩
  ·rcases key i hi with h|rfl
   ·rw[Go.Tw.cR h];exact(W.rd.rl i h).1
   rw[Go.Tw.fU];exact ha
  rcases key i hi with h|rfl
  ·rw[Go.Tw.cR h];exact W.rq.tq.tk.q i h
  rw[Go.Tw.fU];exact .of hB.sq.qb (by omega)
 have ro:=FZ tk;obtain⟨u,hu⟩:∃u,u=t++[a]:=⟨_,rfl⟩;have eu:∀i j,i<n+1→j<1→(if i<n then ag (t.getD i [])else[ag a].getD ((i-n)*1+j) .any)=ag (u.getD i []):=fun i j hi hj=>by
  obtain rfl:j=0:=by omega
  rw[SY,hu]
  by_cases h:i<t.length
  ·rw[if_pos h,Go.Tw.cR h]
  obtain rfl:i=t.length:=by omega
  rw[if_neg h,Go.Tw.fU,Nat.sub_self];rfl
 rw[←hu]at ro⊢;rw[←SY]at f rd sg cl c ro hs h3⊢;refine pw func165 ⟨[0,1,4,5,6,7,8,9,10,20,31,37],[]⟩ ?_;simp only[Tryz.f165,ntmps165,iz,seval];simp only[vx,T,seval,tV,tC,eV,ag];refine Cg f ?_;simp only[vx,T,seval,tV,tC,eV,ag];refine Cg rd ?_;simp only[vx,T,seval,tV,tC,eV,ag];refine Cg sg ?_;simp only[vx,T,seval,tV,tC,eV,ag];refine⟨fun h=>absurd h hs,fun _=>Lg ?_⟩;simp only[vx,T,seval,tV,tC,eV,ag];refine Cg c ?_;simp only[vx,T,seval,tV,tC,eV,ag];refine⟨fun h=>absurd h (by omega),fun _=>Lg ?_⟩;simp only[vx,T,seval,tV,tC,eV,ag];refine cN.fresh cl ?_;simp only[vx,T,seval,tV,tC,eV,ag];refine Cg q ?_;simp only[vx,T,seval,tV,tC,eV,ag];refine⟨⟨by omega,by omega⟩,Cg (ro.args ⟨.cell (.rows rfl fun i j hi hj=>.of_eq (eu i j hi hj)),.refl _,trivial⟩) ?_⟩;simp only[vx,T,seval,tV,tC,eV,ag];exact fR.aB ⟨.cell (.rows rfl fun i j hi hj=>.of_eq (eu i j hi hj)),.refl _,.refl _,trivial⟩
end
open Go Go.Eng
open Go.Tw (El aC aH zE aj av au ar aa QB cM ai ah tB aU aA val In Rd TG bZ a9)
theorem L3 (a:El)(h0:0<a.length)(hl:a.length<2^38):Fr prog 125 [eV a] (.rows 66 4 a.length (fQ a)):=by
 refine fw func125 ⟨[0,2,4],[]⟩ ?_;simp only[Tryz.f125,ntmps125,iz,seval];simp only[vx,T,seval,eV,ag];intro b hb;obtain rfl:=hb h0;refine Lg ?_;simp only[vx,T,seval];exact⟨⟨by omega,by omega⟩,rfl,rfl,fun i j _ _=>if_neg (O5 _)⟩
theorem MM {ks:El}{k:Nat}(hk:ks.length=k):∀(i j:Nat),i<k+1→j<4→
  (if i<k then fQ ks i j else[C.bool (zs (Rat.ofInt 0).num),C.ints .u32 (zm (Rat.ofInt 0).num),C.bool (zs ((Rat.ofInt 0).den:Int)),C.ints .u32 (zm ((Rat.ofInt 0).den:Int))].getD ((i-k)*4+j) C.any)=fQ (ks++[0]) i j:=by
 subst hk;intro i j hi hj
 by_cases h:i<ks.length
 ·rw[if_pos h];unfold fQ;rw[X7,X7,List.getElem?_append_left h]
 have:i=ks.length:=by omega
 subst this;rw[if_neg h,Nat.sub_self,Nat.zero_mul,Nat.zero_add];exact dD (Rat.ofInt 0) (by rw[X7,List.getElem?_append_right (O1 _),Nat.sub_self];rfl) j
theorem Dx (a:El)(k:Nat):a++zE (k+1)=(a++zE k)++[0]:=by
 rw[←Go.Tw.CU,List.append_assoc];rfl
theorem nu {h:Nat}{t:List El}{a:El}(hh:h≤8)(h0:0<a.length)(hl:a.length≤2^h):Pr prog 78 [tV h t,eV a] (eV (bZ h a)):=by
 have hp:=aN hh;have c:=L3 a h0 (by omega);have z:=cP 0 (by decide) (by decide);have hs:=dO (h:=h) hh;have e:bZ h a=a++zE (2^h-a.length):=rfl;rw[e];obtain⟨N,hN⟩:∃N,N=2^h:=⟨_,rfl⟩;rw[←hN]at hs hl hp⊢;refine pw func78 ⟨[0,1,4,5,13],[]⟩ ?_;simp only[Tryz.f78,ntmps78,iz,seval];simp only[vx,T,seval,tV,tC,eV,ag];refine cN.fresh c ?_;simp only[vx,T,seval,tV,tC,eV,ag];refine Lk (fun y:{k:Nat//a.length+k≤N}=>⟨[(0,tV h t),(4,.one .nil),(5,.one (.own 1 4 0 (a.length+y.1)))],[(1,⟨.rows 66 4 (a.length+y.1) (fQ (a++zE y.1)),true⟩)],2,19⟩) (fun y=>N-(a.length+y.1)) ⟨0,by omega⟩ ?_ (fun⟨k,hk⟩=>?_)
 ·refine Sa ?_;simp only[ry,seval,rz,tV,tC,eV,ag];exact fun i j _ _=>by rw[show a++zE 0=a from List.append_nil a]
 simp only;simp only[vx,T,seval,tV,tC,eV,ag,hs];refine⟨by omega,?_⟩;refine⟨fun g=>Lg ?_,fun g=>Lg ?_⟩
 ·simp only[vx,T,seval,tV,tC,eV,ag,hs];refine Cg z ?_;simp only[vx,T,seval,tV,tC,eV,ag,hs,QV,QC];refine⟨⟨by omega,by omega⟩,Lq ⟨k+1,by omega⟩ ?_ (by show N-(a.length+(k+1))<N-(a.length+k);omega)⟩;refine Sa ?_;simp only[ry,seval,rz,tV,tC,eV,ag,hs];exact⟨by omega,by omega,by rw[Dx];exact MM (by rw[X6,av])⟩
 simp only[vx,T,seval,tV,tC,eV,ag,hs];have ek:k=N-a.length:=by omega
 rw[←ek];exact fR.cell (dH.rows (by rw[X6,av]) fun i j _ _=>.refl _)
open Go Go.Eng
open Go.Tw (El aC aH zE aj av au ar aa QB cM ai ah tB aU aA val In Rd TG bZ bA a9 aY)
structure Gc (B X H K:Nat) (U rs:List El):Prop where
 tq:TQ H U
 hB:B<2^37
 hX:X<2^37
 r:∀i,i<K→∃m,m≤H∧(rs.getD i []).length=2^m
 m:∀j,j<K→∀b,b.length=2^j→QB B b→cM X H U (a9 H U rs j b) (bZ H (rs.getD j []))
theorem Gc.le {B X H K k:Nat}{U rs:List El}(I:Gc B X H K U rs)(hk:k≤K):Gc B X H k U rs:=⟨I.tq,I.hB,I.hX,fun i hi=>I.r i (by omega),fun j hj=>I.m j (by omega)⟩
def eM (H:Nat)(U rs:List El):V:=.agg [tC H U,tC rs.length rs]
theorem OG {B X H:Nat}{U rs:List El}{a:El}(I:Gc B X H 0 U rs)(ha:a.length=2^0)(hq:QB B a):Pr prog 120 [eM H U rs,eV a] (eV (a9 H U rs 0 a)):=by
 obtain⟨x,rfl⟩:=Go.Tw.bw ha;have hB:=I.hB;have hx:qm x≤B:=hq x (by simp);have f:=eI I.tq.tk x (by omega);have e:a9 H U rs 0 [x]=aU H x:=rfl;rw[e];refine pw func120 ⟨[0,1,2,4,5,6,7,8,11,26,37],[]⟩ ?_;simp only[Tryz.f120,ntmps120,iz,seval];simp only[vx,T,seval,eM,tV,tC,eV,ag,qC,X0];refine Cg f ?_;simp only[vx,T,seval,eM,tV,tC,eV,ag];exact Ve rfl
theorem mf {B X H:Nat}{U rs:List El}:∀{k:Nat} {a:El},Gc B X H k U rs→k≤rs.length→k≤8→a.length=2^k→QB B a→Pr prog 120 [eM H U rs,eV a] (eV (a9 H U rs k a))
 |0,a,I,_,_,ha,hq=>OG I ha hq
 |k+1,a,I,ZB,Zb,ha,hq=>by
  have I':=I.le (Nat.le_succ k);have Tu:=ai ha;have Ts:=ah ha;have c1:=mf I' (by omega) (by omega) Tu (hq.take _);have c2:=mf I' (by omega) (by omega) Ts (hq.drop _);have hB:=I.hB;have h3:=I.tq.h6;have hp:=aN (h:=k+1) Zb;have SI:2^k<2^(k+1):=Nat.pow_lt_pow_right (by decide) (by omega);have z:=dq (a.drop (2^k)) (by omega) (.of (hq.drop _) (by omega));have hn:(2^k:Nat)≤a.length:=by omega
  have cT:=fF hn;have cD:=e9 (a:=a) (n:=2^k);have c1:=c1.args (xs:=[eM H U rs,.one (.rows 4 (2^k) (fun i=>qC (a.getD i default)))]) ⟨.refl _,.cell cT,trivial⟩;have c2:=c2.args (xs:=[eM H U rs,.one (.rows 4 (a.length-2^k) (fun i=>qC (a.getD (2^k+i) default)))]) ⟨.refl _,.cell cD,trivial⟩;have z:=z.args (xs:=[.one (.rows 4 (a.length-2^k) (fun i=>qC (a.getD (2^k+i) default)))]) ⟨.cell cD,trivial⟩;have hg:∀i,i≤k→(IntKind.i64.wrap (1*2^(if i≤63 then i+1 else 64))<((a.length:Nat):Int)↔i<k):=fun i hi=>by
   have hs:=dO (h:=i+1) (by omega);rw[if_pos (by omega)]at hs⊢;rw[hs,ha]
   constructor
   ·intro h;refine Nat.lt_of_not_le fun h2=>?_
    have:=O3 (n:=2) (by decide) (show k+1≤i+1 by omega)
    omega
   intro h
   have:=Nat.pow_lt_pow_right (a:=2) (by decide) (show i+1<k+1 by omega)
   omega
  obtain⟨n,SY⟩:∃n,n=2^k:=⟨_,rfl⟩;have S9:a.length=2*n:=by rw[ha,O4,SY];omega
  have w2:IntKind.i64.wrap (((a.length:Nat):Int).tdiv 2)=(n:Int):=by
   rw[S9,Int.tdiv_eq_ediv_of_nonneg (by omega),Q4 _ (by omega)];omega
  have w4:((a.length:Int)-(n:Int)).toNat=a.length-n:=by omega
  have SW:¬((a.length:Nat):Int)=1:=by
   have:=Nat.two_pow_pos k
   omega
  have st:∀(hv:¬a.drop (2^k)=zE (2^k)),True:=fun _=>trivial;refine pw func120 ⟨[0,1,2,4,5,6,7,8,11,26,37],[]⟩ ?_;simp only[Tryz.f120,ntmps120,iz,seval];simp only[vx,T,seval,eM,tV,tC,eV,ag,w2,w4];refine⟨fun h=>absurd h SW,fun _=>Lg ?_⟩;simp only[vx,T,seval,eM,tV,tC,eV,ag,w2,w4];refine Lk (fun y:{i:Nat//i≤k}=>⟨[(1,eV a),(2,.one (.ptr 1 0)),(4,.one .nil),(5,.one (.int .i64 n)),(6,.one (.int .i64 y.1))],[(1,⟨.var [tC H U,tC rs.length rs],true⟩)],2,60⟩) (fun y=>k-y.1) ⟨0,O2 _⟩ ?_ (fun⟨i,hi⟩=>?_)
  ·refine Sa ?_;simp only[ry,seval,rz,tV,tC,eV,ag]
  simp only;have UR:=hg i hi;have wi:=wI i (by omega);simp only[vx,T,seval,tV,tC,eV,ag,wi];refine⟨by omega,?_⟩;refine⟨fun g=>Lg ?_,fun g=>Lg ?_⟩
  ·have Vd:=UR.1 g;simp only[vx,T,seval,tV,tC,eV,ag,wi];refine Lq ⟨i+1,by omega⟩ ?_ (by show k-(i+1)<k-i;omega);refine Sa ?_;simp only[ry,seval,rz,tV,tC,eV,ag]
  have Vd:i=k:=by
   have:¬i<k:=fun h=>g (UR.2 h)
   omega
  subst Vd;obtain⟨m,hm,lr⟩:=I.r i (by omega);have k1:=(I.m i (by omega) _ Tu (hq.take _)).q.1;have k2:=I.m i (by omega) _ Ts (hq.drop _);have UA:(rs.getD i []).length≤2^H:=by rw[lr];exact O3 (by decide) hm
  have pd:=nu (t:=U) (a:=rs.getD i []) (by omega) (by rw[lr];exact Nat.two_pow_pos _) UA;have hX:=I.hX;have mu:=fv I.hX I.tq.tk (a9 H U rs i (a.drop (2^i))) (bZ H (rs.getD i [])) aY (bA UA) k2;have ad:=kF I.tq.tk (a9 H U rs i (a.take (2^i))) _ aY aa (.of k1 (by omega)) (.of k2.q.2.2 (by omega));have el:=Go.Tw.Ai (H:=H) (T:=U) (rs:=rs) (k:=i) (a:=a);have er:a9 H U rs (i+1) a=aC (a9 H U rs i (a.take (2^i))) (aj H U (a9 H U rs i (a.drop (2^i))) (bZ H (rs.getD i []))):=rfl;rw[←er]at ad;obtain⟨r,hr⟩:∃r,r=a9 H U rs (i+1) a:=⟨_,rfl⟩;obtain⟨x,hx⟩:∃x,x=a9 H U rs i (a.take (2^i)):=⟨_,rfl⟩;obtain⟨y,hy⟩:∃y,y=a9 H U rs i (a.drop (2^i)):=⟨_,rfl⟩;obtain⟨v,hv⟩:∃v,v=rs.getD i []:=⟨_,rfl⟩;obtain⟨p,VU⟩:∃p,p=bZ H v:=⟨_,rfl⟩;rw[←hr,←hx]at el ad;rw[←hx]at c1;rw[←hy]at c2;rw[←hr];rw[←hv]at pd;rw[←hy,←hv,←VU]at ad mu;rw[←VU]at pd;have SU:i<rs.length:=by omega
  by_cases hz:a.drop (2^i)=zE (2^i)
  ·rw[decide_eq_true (by rw[Ts];exact hz)]at z;rw[el hz];rw[←SY]at c1 z;simp only[vx,T,seval,tV,tC,eV,ag,wi,w4];refine⟨⟨by omega,by omega⟩,Cg c1 ?_⟩;simp only[vx,T,seval,eM,tV,tC,eV,ag,wi,w4];refine⟨⟨by omega,by omega,by omega⟩,Cg z ?_⟩;simp only[vx,T,seval,eM,tV,tC,eV,ag,wi,w4];exact Ve rfl
  rw[decide_eq_false (by rw[Ts];exact hz)]at z;rw[←SY]at c1 c2 z;simp only[vx,T,seval,tV,tC,eV,ag,wi,w4];refine⟨⟨by omega,by omega⟩,Cg c1 ?_⟩;simp only[vx,T,seval,eM,tV,tC,eV,ag,wi,w4];refine⟨⟨by omega,by omega,by omega⟩,Cg z ?_⟩;simp only[vx,T,seval,eM,tV,tC,eV,ag,wi,w4];refine⟨⟨by omega,by omega,by omega⟩,Cg c2 ?_⟩;simp only[vx,T,seval,eM,tV,tC,eV,ag,wi,w4,←hv];refine⟨⟨by omega,by omega⟩,Cg pd ?_⟩;simp only[vx,T,seval,eM,tV,tC,eV,ag,wi,w4,←hv];refine Cg mu ?_;simp only[vx,T,seval,eM,tV,tC,eV,ag,wi,w4,←hv];refine Cg ad ?_;simp only[vx,T,seval,eM,tV,tC,eV,ag,wi,w4,←hv];exact Ve rfl
end Go.Proofs.YtehahgjkjfoebaaGreat
