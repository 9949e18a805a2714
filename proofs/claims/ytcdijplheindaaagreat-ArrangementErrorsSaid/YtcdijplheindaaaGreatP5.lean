/-
  ArrangementErrors: for every input the law returns true, and each argument reads afterwards as it read before. No condition.
  (Text 5 of 8; made by a program out of smaller texts.)
-/
import Derived.Test.YtcdijplheindaaaGreatP4
set_option linter.unusedSimpArgs false
set_option linter.unusedVariables false
set_option maxHeartbeats 16000000
set_option maxRecDepth 10000
open Nat renaming reduceAdd→J1,reduceMul→J2,reduceSub→J3,reduceEqDiff→J4,reduceLT→J5,reduceLeDiff→J6,reduceBEq→J7,reduceDiv→J8,reduceMod→J9,reducePow→J0
open Int renaming reduceToNat→K1,reduceLE→K2,reduceLT→K3,reduceEq→K4,reducePow→K5,reduceSub→K6,reduceNeg→K7,natCast_add→X2,natCast_one→X3,natCast_zero→X4
open List renaming getD_cons_zero→X0,getD_cons_succ→X1,length_take→X5,length_append→X6,getD_eq_getElem?_getD→X7,getElem?_eq_getElem→X8
open Nat renaming le_trans→O0,le_refl→O1,zero_le→O2,pow_le_pow_right→O3,pow_succ→O4,not_lt_zero→O5,mul_comm→O6,mod_eq_of_lt→O7,mul_le_mul_right→O8,mul_le_mul_left→O9
open Int renaming toNat_natCast→Q1,natCast_mul→Q2
open Go.IntWalk renaming i64_in→Q4,u64_in→Q5
open Option.some renaming injEq→Q6
set_option maxHeartbeats 2000000
namespace Go.Proofs.YtcdijplheindaaaGreat
open Go Go.Eng
theorem rdivide_spec (a b:Nat)(h0:0<b)(ha:nl a<2^42)(hb:nl b<2^42):Pr Tryz.prog 274 [.one (.ints .u32 (limbs a)),.one (.ints .u32 (limbs b))] (.tup [.one (.ints .u32 (limbs (a/b))),.one (.ints .u32 (limbs (a%b)))]):=by
 have hnb:=nl_pos.2 h0;refine pw Tryz.func274 ⟨[0,1,4,5,6,7,8,9,10,11,12,13,14,15,16,17,18,19,23,27,42,77,105,114],[]⟩ ?_;simp only[Tryz.f274,Tryz.ntmps274,iz,seval];simp only[vx,T,seval];refine Cg (rcompare_spec a b (by omega) (by omega)) ?_;simp only[vx,T,seval];refine⟨fun h1=>Lg ?_,fun h1=>Lg ?_⟩
 ·simp only[vx,T,seval];have hlt:a<b:=cmpI_neg h1;refine Va ?_;simp only[vLe,vLeL,ry,seval,Nat.div_eq_of_lt hlt,O7 hlt,limbs_zero]
 have hle:b≤a:=cmpI_nneg h1;simp only[vx,T,seval];refine⟨fun h2=>Lg ?_,fun h2=>Lg ?_⟩
 ·simp only[vx,T,seval];have ha2:a<2^64:=by have:=nl_le_iff.1 (show nl a≤2 by omega);unfold BB at this;omega
  refine Cg (rshort_spec a ha2) ?_;simp only[vx,T,seval];refine Cg (rshort_spec b (by omega)) ?_;simp only[vx,T,seval];refine⟨by omega,?_⟩;have e1:IntKind.u64.wrap ((a:Int).tdiv b)=((a/b:Nat):Int):=by
   have e3:(a:Int).tdiv b=((a/b:Nat):Int):=rfl
   have:=Nat.div_le_self a b
   generalize a/b=q at*
   rw[e3,Q5 _ (by omega)]
  have e2:(a:Int).tmod b=((a%b:Nat):Int):=rfl;simp only[e1,e2];refine Cg (rwords_spec (a/b) (Nat.lt_of_le_of_lt (Nat.div_le_self a b) ha2)) ?_;simp only[vx,T,seval];refine⟨by omega,?_⟩;simp only[e2];refine Cg (rwords_spec (a%b) (Nat.lt_of_le_of_lt (Nat.mod_le a b) ha2)) ?_;simp only[vx,T,seval];refine Va ?_;simp only[vLe,vLeL,ry,seval]
 simp only[vx,T,seval];refine⟨fun h3=>Lg ?_,fun h3=>Lg ?_⟩
 ·have h3':nl b=1:=by omega
  have hb1:b<BB:=by have:=nl_le_iff.1 (show nl b≤1 by omega);simpa using this
  have hm1:=Nat.mod_lt a h0;have hm2:IntKind.u64.wrap ((a%b:Nat):Int)=((a%b:Nat):Int):=by
   generalize a%b=m at*
   exact Q5 _ (by unfold BB at hb1;omega)
  simp only[vx,T,seval]
  simp(disch:=omega) only[lG,←X2,←Q2,Q1,Q4,Q5,wrapBB,fdivBB,true_and,and_true,Nat.pow_zero,Nat.div_one,O7 hb1]
  refine⟨by omega,Cg (rby_spec a b (by omega) h0 hb1) ?_⟩;simp only[vx,T,seval];simp only[hm2];refine Cg (rwords_spec (a%b) (by unfold BB at hb1;omega)) ?_;simp only[vx,T,seval];refine Va ?_;simp only[vLe,vLeL,ry,seval]
 simp only[vx,T,seval];have ht:=topW_mod h0;obtain⟨t1,t2⟩:=topW_lt h0;obtain⟨s1,s2,s3⟩:=shf_spec h0;have s4:=shf_nl h0;refine Cg (rlength_spec b h0 (by omega)) ?_;simp only[vx,T,seval];have hbl:bl (topW b)≤32:=bl_le (by unfold BB at t2;omega);have e0:IntKind.i64.wrap (IntKind.i64.wrap (32*(nl b:Nat))-((32*(nl b-1)+bl (topW b):Nat):Int))=((shf b:Nat):Int):=by
  have e1:IntKind.i64.wrap (32*(nl b:Nat))=32*(nl b:Nat):=Q4 _ (by omega);rw[e1,Q4 _ (by omega)];unfold shf;omega
 simp only[e0];refine CallK.fresh (rshifted_spec a (shf b) (by omega) s1) ?_;simp only[vx,T,seval];refine CallK.fresh (rshifted_spec b (shf b) (by omega) s1) ?_;simp only[vx,T,seval,dig_length];have hA2:2*(a*2^shf b)<BB^(nl a+1):=by
  have h5:=lt_of_nl a;have h6:2^shf b≤2^31:=O3 (by decide) (by omega);have h7:a*2^shf b≤a*2^31:=O9 _ h6;have h8:BB^(nl a+1)=BB^nl a*BB:=O4 _ _;have h9:a*(2*2^31)<BB^nl a*BB:=Nat.mul_lt_mul_of_lt_of_le h5 (by decide) (by decide);omega
 have hV2:val (dig (nl b+1) (b*2^shf b))=b*2^shf b:=val_dig_lt (Nat.lt_of_lt_of_le s2 (O3 (by decide) (by omega)));rw[List.take_of_length_le (by rw[dig_length];exact O1 _)];refine Cg (rtrim_spec _ (dig_inr _ _) (by rw[dig_length];omega)) ?_;rw[hV2];have hN:Nrm (b*2^shf b) (nl (b*2^shf b)):=⟨rfl,by omega,by rw[s4];exact s3⟩;obtain⟨A,hA⟩:∃A,A=a*2^shf b:=⟨_,rfl⟩;obtain⟨V,hV⟩:∃V,V=b*2^shf b:=⟨_,rfl⟩;have hmono:nl b≤nl a:=nl_mono hle;rw[←hA]at hA2⊢;rw[←hV]at s4 hN⊢;have hVp:=hN.pos;clear hV2 s2 s3;simp only[vx,T,seval,dig_length];have e4:IntKind.i64.wrap ((nl a:Int)-(nl V:Nat))=((nl a+1-nl V:Nat):Int)-1:=by rw[Q4 _ (by omega)];omega
 simp(disch:=omega) only[lG,←X2,←Q2,Q1,Q4,Q5,wrapBB,fdivBB,true_and,and_true,e4]
 refine⟨⟨by omega,by omega,by omega,by omega⟩,Lk (fun y:{y:Nat×List Int×List Int//DvInv A V (nl a+1) y.1 y.2.1 y.2.2∧y.2.2.length=nl a}=>⟨[(10,.one (.int .i64 (shf b))),(11,.one (.own 1 1 0 (nl a+1))),(12,.one (.ints .u32 (limbs V))),(13,.one (.own 2 1 0 (nl a))),(14,.one (.int .i64 ((y.1.1:Int)-1)))],[(1,⟨.ints 187 .u32 y.1.2.1,true⟩),(2,⟨.ints 187 .u32 y.1.2.2,true⟩)],3,128⟩) (fun y=>y.1.1) ⟨(nl a+1-nl V,_,List.replicate (nl a) 0),DvInv.init hN (by omega) hA2 (by omega),by simp⟩ ?_ (fun⟨⟨j,us,qs⟩,hy,hql⟩=>?_)⟩
 ·refine Sa ?_;simp only[ry,seval,rz];rfl
 simp only at hy hql;have hul:=hy.ulen;have hjl:=hy.le;have hui:=hy.uin;simp only[vx,T,seval];refine⟨fun h6=>Lg ?_,fun h6=>Lg ?_⟩
 ·obtain⟨i,rfl⟩:∃i,j=i+1:=⟨j-1,by omega⟩;have hAt:=hy.at;have hus0:val us<BB^(i+nl V+1):=by
   refine Nat.lt_of_lt_of_le hAt.lt ?_
   have:=O8 (BB^(i+1)) (Nat.le_of_lt hAt.nrm.lt)
   rw[←Nat.pow_add,show nl V+(i+1)=i+nl V+1 by omega]at this;exact this
  have hUv:val ((us.drop i).take (nl V+1))=val us/BB^i:=by
   rw[val_take (hui.drop i),val_drop hui,O7];rw[Nat.div_lt_iff_lt_mul (Nat.pow_pos (by decide)),O6,←Nat.pow_add,←Nat.add_assoc];exact hus0
  have hUl:val us/BB^i<BB^(nl V+1):=by
   rw[Nat.div_lt_iff_lt_mul (Nat.pow_pos (by decide)),O6,←Nat.pow_add,←Nat.add_assoc];exact hus0
  have hdg:=rdigit_spec us i V hui hVp (by omega) (by omega) (by rw[hUv];exact hAt.U.1);have htm:=rtrimM_spec us i (nl V+1) hui (by omega) (by omega);have hvl:=view_limbs (off:=i) (l:=nl V+1) hui (by omega);rw[hUv]at hdg htm hvl;have hq:=hy.q;have x0:((i+1:Nat):Int)-1=(i:Int):=by omega
  have x3:IntKind.i64.wrap ((i:Int)+(nl V:Nat))=((i+nl V:Nat):Int):=by rw[←X2,Q4 _ (by omega)]
  have p1:IntKind.i64.wrap (((i+nl V:Nat):Int)+1)=((i+nl V+1:Nat):Int):=by rw[Q4 _ (by omega)];omega
  have p2:(((i+nl V+1:Nat):Int)-(i:Int)).toNat=nl V+1:=by omega
  obtain⟨U,hUd⟩:∃U,U=val us/BB^i:=⟨_,rfl⟩;rw[←hUd]at hdg htm hvl hUl hq;obtain⟨q,hqd⟩:∃q,q=U/V:=⟨_,rfl⟩;rw[←hqd]at hdg hq;rw[x0];simp only[vx,T,seval]
  simp(disch:=omega) only[lG,←X2,←Q2,Q1,Q4,Q5,wrapBB,fdivBB,true_and,and_true,x3,p1,p2]
  refine⟨⟨by omega,by omega,by omega⟩,Cm 1 rfl trivial hdg ?_⟩;rintro r B' ⟨rfl,rfl⟩ _;simp only[vx,T,seval];refine⟨by omega,Cm 1 rfl trivial htm ?_⟩;rintro r B' ⟨rfl,rfl⟩ _;simp only[vx,T,seval];have hqV:V*q≤U:=by rw[hqd,O6];exact Nat.div_mul_le_self U V
  refine Cm 1 rfl trivial (rminusM_spec us i U (V*q) hui (by omega) (by omega) hvl.2 hqV (by omega)) ?_;rintro r B' ⟨rfl,rfl⟩ _;simp only[vx,T,seval];obtain⟨D,hD⟩:∃D,D=U-V*q:=⟨_,rfl⟩;rw[←hD];have hDl:D<BB^(nl V+1):=by omega
  have hDn:nl D≤nl V+1:=nl_le_of_lt hDl;have hUg:∀k,k<nl V+1→us.getD (i+k) 0=((U/BB^k%BB:Nat):Int):=fun k hk=>by
   rw[hUd,←hUv,←getD_val (view_inr hui i (nl V+1)),view_get hk]
  refine Lk (fun z:{z:Nat×List Int//CpInv us i U D (nl V+1) z.1 z.2}=>⟨[(10,.one (.int .i64 (shf b))),(11,.one (.own 1 1 0 (nl a+1))),(12,.one (.ints .u32 (limbs V))),(13,.one (.own 2 1 0 (nl a))),(14,.one (.int .i64 i)),(15,.one (.own 1 1 i (nl V+1))),(18,.one (.ints .u32 (limbs D))),(19,.one (.int .i64 z.1.1))],[(1,⟨.ints 187 .u32 z.1.2,true⟩),(2,⟨.ints 187 .u32 (qs.set i (q:Int)),true⟩)],3,128⟩) (fun z=>nl V+1-z.1.1) ⟨(0,us),CpInv.init i U D (nl V+1) hui⟩ ?_ (fun⟨⟨k,zs⟩,hz⟩=>?_)
  ·refine Sa ?_;simp only[ry,seval,rz]
  simp only at hz;have hzl:=hz.len;have hzk:=hz.le;simp only[vx,T,seval];refine⟨fun hk=>Lg ?_,fun hk=>Lg ?_⟩
  ·simp only[vx,T,seval];have hkm:k<nl V+1:=by omega
   have hdk:=modBB (D/BB^k);have k1:=wI k (by omega);refine⟨⟨by omega,by omega⟩,fun h'=>Lg ?_,fun h'=>Lg ?_⟩
   ·simp only[vx,T,seval];simp only[List.set_set,k1,lG];refine⟨⟨by omega,by omega⟩,by omega,Lq ⟨(k+1,zs.set (i+k) ((D/BB^k%BB:Nat):Int)),hz.put hkm (by omega) (hUg k hkm) rfl⟩ ?_ ?_⟩
    ·refine Sa ?_;simp only[ry,seval,rz]
    simp only;omega
   simp only[vx,T,seval];simp only[k1];refine Lq ⟨(k+1,zs.set (i+k) 0),hz.put hkm (by omega) (hUg k hkm) (digit_out (x:=D) (k:=k) (by omega))⟩ ?_ ?_
   ·refine Sa ?_;simp only[ry,seval,rz]
   simp only;omega
  have hkm:k=nl V+1:=by omega
  subst hkm;have hzv:=hz.done hUl hDl;have i1:IntKind.i64.wrap ((i:Int)-1)=(i:Int)-1:=by rw[Q4 _ (by omega)]
  have hUle:BB^i*U≤val us:=by rw[hUd];exact Nat.mul_div_le _ _
  have hst:val zs=val us-BB^i*(val us/BB^i/V*V):=by
   rw[←hUd,←hqd,O6 q V];have h1:BB^i*U=BB^i*D+BB^i*(V*q):=by rw[←Nat.mul_add];congr 1;omega
   omega
  have hst2:=hy.step hzl hz.inr hst;rw[←hUd,←hqd]at hst2;simp only[vx,T,seval];simp only[i1];refine Lq ⟨(i,zs,_),hst2,by simp only[List.length_set];exact hql⟩ ?_ ?_
  ·refine Sa ?_;simp only[ry,seval,rz]
  simp only;omega
 have hj0:j=0:=by omega
 subst hj0;subst hA hV;obtain⟨q1,q2,q3⟩:=hy.done h0;have hqi:=hy.qin;clear hy;simp only[vx,T,seval];rw[List.take_of_length_le (by omega)];refine Cg (rtrim_spec qs hqi (by omega)) ?_;rw[q1];simp only[vx,T,seval];rw[List.take_of_length_le (by omega)];refine Cg (rtrim_spec us hui (by omega)) ?_;rw[q2];have q4:nl (a%b*2^shf b)≤nl b:=by rw[←q2,←s4];exact nl_le_of_lt q3
 simp only[vx,T,seval];refine Cg (rback_spec (a%b*2^shf b) (shf b) (by omega) s1) ?_;rw[Nat.mul_div_cancel _ (Nat.pow_pos (by decide))];simp only[vx,T,seval];refine Va ?_;simp only[vLe,vLeL,ry,seval]
end Go.Proofs.YtcdijplheindaaaGreat
namespace Go.Eng
def zs (z:Int):Bool:=decide (z<0)
def zm (z:Int):List Int:=limbs z.natAbs
def zn (z:Int):Nat:=nl z.natAbs
def zof (s:Bool)(n:Nat):Int:=if s then-(n:Int)else n
theorem zs_zof (s:Bool)(n:Nat):zs (zof s n)=(s&&decide (0<n)):=by
 unfold zs zof
 cases s
 ·simp
 simp only[if_true,Bool.true_and];congr 1;simp only[eq_iff_iff];omega
theorem zof_natAbs (s:Bool)(n:Nat):(zof s n).natAbs=n:=by unfold zof;split<;>omega
theorem zm_zof (s:Bool)(n:Nat):zm (zof s n)=limbs n:=by unfold zm;rw[zof_natAbs]
theorem zof_self (z:Int):zof (zs z) z.natAbs=z:=by unfold zof zs;simp only[decide_eq_true_eq];split<;>omega
theorem val_zm (z:Int):val (zm z)=z.natAbs:=val_limbs _
theorem zm_inr (z:Int):InR (zm z):=InR.limbs _
theorem zm_length (z:Int):(zm z).length=zn z:=rfl
theorem zn_eq_zero {z:Int}:zn z=0↔z=0:=by unfold zn;rw[nl_eq_zero];omega
theorem zm_zero:zm 0=[]:=limbs_zero
theorem zs_true {z:Int}:zs z=true↔z<0:=by unfold zs;simp
theorem zs_false {z:Int}:zs z=false↔0≤z:=by unfold zs;simp
theorem add_same {a b:Int}(h:zs a=zs b):zof (zs a) (a.natAbs+b.natAbs)=a+b:=by
 unfold zof zs at*
 have h:a<0↔b<0:=by simpa using h
 simp only[decide_eq_true_eq]
 split<;>omega
theorem add_less {a b:Int}(h:zs a≠zs b)(hl:a.natAbs≤b.natAbs):zof (zs b) (b.natAbs-a.natAbs)=a+b:=by
 unfold zof zs at*
 have h:¬(a<0↔b<0):=by simpa using h
 simp only[decide_eq_true_eq]
 split<;>omega
theorem add_more {a b:Int}(h:zs a≠zs b)(hl:b.natAbs≤a.natAbs):zof (zs a) (a.natAbs-b.natAbs)=a+b:=by
 unfold zof zs at*
 have h:¬(a<0↔b<0):=by simpa using h
 simp only[decide_eq_true_eq]
 split<;>omega
theorem zof_mul (s t:Bool)(m n:Nat):zof (s !=t) (m*n)=zof s m*zof t n:=by
 cases s<;>cases t<;>simp [zof,Int.neg_mul,Int.mul_neg]
theorem mul_sign (a b:Int):zof (zs a !=zs b) (a.natAbs*b.natAbs)=a*b:=by
 rw[zof_mul,zof_self,zof_self]
theorem neg_sign (a:Int):zof (!zs a) a.natAbs= -a:=by
 unfold zof zs;simp only[Bool.not_eq_true',decide_eq_false_iff_not]
 split<;>omega
theorem fdiv_unique {a b q r:Int}(h:a=b*q+r)(hr:(0≤r∧r<b)∨(b<r∧r≤0)):a.fdiv b=q∧a.fmod b=r:=by
 have hb:b≠0:=by omega
 have e:b*(a.fdiv b)+a.fmod b=a:=Int.mul_fdiv_add_fmod a b;have hm:(0<b→0≤a.fmod b∧a.fmod b<b)∧(b<0→b<a.fmod b∧a.fmod b≤0):=by
  refine⟨fun hp=>⟨Int.fmod_nonneg_of_pos a hp,Int.fmod_lt_of_pos a hp⟩,fun hn=>?_⟩;have h1:a.fmod b= -((-a).fmod (-b)):=by rw[Int.neg_fmod_neg];omega
  have h2:=Int.fmod_nonneg_of_pos (-a) (show 0< -b by omega);have h3:=Int.fmod_lt_of_pos (-a) (show 0< -b by omega);omega
 have hq:a.fdiv b=q:=by
  generalize a.fdiv b=q' at*
  generalize a.fmod b=r' at*
  have e2:b*(q-q')=r'-r:=by rw[Int.mul_sub];omega
  rcases Int.lt_or_lt_of_ne hb with hb1|hb1
  ·have:=hm.2 hb1
   rcases Int.lt_trichotomy (q-q') 0 with h3|h3|h3
   ·have:b*(q-q')≥b*(-1):=Int.mul_le_mul_of_nonpos_left (by omega) (by omega)
    omega
   ·omega
   have:b*(q-q')≤b*1:=Int.mul_le_mul_of_nonpos_left (by omega) (by omega)
   omega
  have:=hm.1 hb1
  rcases Int.lt_trichotomy (q-q') 0 with h3|h3|h3
  ·have:b*(q-q')≤b*(-1):=Int.mul_le_mul_of_nonneg_left (by omega) (by omega)
   omega
  ·omega
  have:b*1≤b*(q-q'):=Int.mul_le_mul_of_nonneg_left (by omega) (by omega)
  omega
 exact⟨hq,by rw[hq]at e;omega⟩
theorem divmod_plain {a b:Int}(hb:b≠0)(h:zs a=zs b∨a.natAbs%b.natAbs=0):zof (zs a !=zs b) (a.natAbs/b.natAbs)=a.fdiv b∧zof (zs b) (a.natAbs%b.natAbs)=a.fmod b:=by
 have e:=Nat.div_add_mod a.natAbs b.natAbs;have l:=Nat.mod_lt a.natAbs (show 0<b.natAbs by omega);have ha:=zof_self a;have hb':=zof_self b;have key:=fdiv_unique (a:=a) (b:=b) (q:=zof (zs a !=zs b) (a.natAbs/b.natAbs)) (r:=zof (zs b) (a.natAbs%b.natAbs)) ?_ ?_
 ·exact⟨key.1.symm,key.2.symm⟩
 ·have e':(a.natAbs:Int)=b.natAbs*(a.natAbs/b.natAbs:Nat)+(a.natAbs%b.natAbs:Nat):=by rw[←Q2,←X2,e]
  have hr0:zs a≠zs b→((a.natAbs%b.natAbs:Nat):Int)=0:=fun hne=>by rcases h with h|h;exact absurd h hne;simp[h]
  have e2:b*zof (zs a !=zs b) (a.natAbs/b.natAbs)=zof (zs b) b.natAbs*zof (zs a !=zs b) (a.natAbs/b.natAbs):=by rw[hb']
  rw[e2];refine ha.symm.trans ?_
  generalize a.natAbs/b.natAbs=q at*
  generalize a.natAbs%b.natAbs=r at*
  generalize a.natAbs=m at*
  generalize b.natAbs=n at*
  generalize zs a=sa at*
  generalize zs b=sb at*
  cases sa<;>cases sb<;>simp [zof]at hr0⊢
  ·omega
  ·subst hr0;rw[Int.neg_mul_neg];simp at e'⊢;omega
  ·subst hr0;simp at e'⊢;rw[Int.mul_neg];omega
  rw[Int.neg_mul];omega
 cases hsb:zs b
 ·left
  have:=zs_false.1 hsb
  simp only[zof,Bool.false_eq_true,if_false];omega
 right
 have:=zs_true.1 hsb
 simp only[zof,if_true];omega
theorem divmod_up {a b:Int}(hb:b≠0)(h:zs a≠zs b)(hr:0<a.natAbs%b.natAbs):zof (zs a !=zs b) (a.natAbs/b.natAbs+1)=a.fdiv b∧zof (zs b) (b.natAbs-a.natAbs%b.natAbs)=a.fmod b:=by
 have e:=Nat.div_add_mod a.natAbs b.natAbs;have l:=Nat.mod_lt a.natAbs (show 0<b.natAbs by omega);have ha:=zof_self a;have hb':=zof_self b;have key:=fdiv_unique (a:=a) (b:=b) (q:=zof (zs a !=zs b) (a.natAbs/b.natAbs+1)) (r:=zof (zs b) (b.natAbs-a.natAbs%b.natAbs)) ?_ ?_
 ·exact⟨key.1.symm,key.2.symm⟩
 ·have e':(a.natAbs:Int)=b.natAbs*(a.natAbs/b.natAbs:Nat)+(a.natAbs%b.natAbs:Nat):=by rw[←Q2,←X2,e]
  have e3:b*zof (zs a !=zs b) (a.natAbs/b.natAbs+1)=zof (zs b) b.natAbs*zof (zs a !=zs b) (a.natAbs/b.natAbs+1):=by rw[hb']
  have e2:((b.natAbs-a.natAbs%b.natAbs:Nat):Int)=b.natAbs-(a.natAbs%b.natAbs:Nat):=by omega
  rw[e3];refine ha.symm.trans ?_
  generalize a.natAbs/b.natAbs=q at*
  generalize a.natAbs%b.natAbs=r at*
  generalize a.natAbs=m at*
  generalize b.natAbs=n at*
  generalize zs a=sa at*
  generalize zs b=sb at*
  cases sa<;>cases sb<;>simp [zof]at h⊢
  ·rw[e2,Int.neg_add,Int.mul_add,Int.neg_mul_neg];omega
  rw[e2,Int.neg_add,Int.mul_add,Int.mul_neg];omega
 cases hsb:zs b
 ·left
  have:=zs_false.1 hsb
  simp only[zof,Bool.false_eq_true,if_false];omega
 right
 have:=zs_true.1 hsb
 simp only[zof,if_true];omega
end Go.Eng
namespace Go.Eng
def sgn (z:Int):Int:=if z=0 then 0 else if z<0 then-1 else 1
theorem zn_mul (a b:Int):zn (a*b)≤zn a+zn b:=by unfold zn;rw[Int.natAbs_mul];exact nl_mul _ _
theorem zn_neg (a:Int):zn (-a)=zn a:=by unfold zn;rw[Int.natAbs_neg]
theorem zn_add (a b:Int):zn (a+b)≤max (zn a) (zn b)+1:=
 O0 (nl_mono (Int.natAbs_add_le a b)) (nl_add _ _)
theorem zn_zof (s:Bool)(n:Nat):zn (zof s n)=nl n:=by unfold zn;rw[zof_natAbs]
theorem zn_le {a b:Int}(h:a.natAbs≤b.natAbs):zn a≤zn b:=nl_mono h
theorem sgn_mul_range (x y:Int): -1≤sgn x*sgn y∧sgn x*sgn y≤1:=by
 unfold sgn
 (repeat' split)<;>simp
theorem sgn_mul_neg {x y:Int}:sgn x*sgn y<0↔(x<0∧0<y)∨(0<x∧y<0):=by
 unfold sgn
 (repeat' split)<;>simp<;>omega
theorem rem_ref (a b:Int):a-zof (zs a !=zs b) (a.natAbs/b.natAbs)*b=zof (zs a) (a.natAbs%b.natAbs):=by
 have e1:zof (zs a !=zs b) (a.natAbs/b.natAbs)*b=zof (zs a) (a.natAbs/b.natAbs*b.natAbs):=by
  have:=zof_mul (zs a !=zs b) (zs b) (a.natAbs/b.natAbs) b.natAbs
  rw[zof_self b]at this;rw[←this]
  congr 1
  cases zs a<;>cases zs b<;>rfl
 rw[e1];have h:=Nat.div_add_mod a.natAbs b.natAbs;rw[O6]at h
 generalize a.natAbs/b.natAbs*b.natAbs=p at h⊢
 generalize a.natAbs%b.natAbs=r at h⊢
 unfold zof zs;simp only[decide_eq_true_eq]
 split<;>omega
theorem divmod_ref {a b q r:Int}(h0:b≠0)(hq:q=zof (zs a !=zs b) (a.natAbs/b.natAbs))(hr:r=a-q*b):
  (sgn r*sgn b<0→q-1=a.fdiv b∧r+b=a.fmod b)∧(¬sgn r*sgn b<0→q=a.fdiv b∧r=a.fmod b):=by
 have hl:r.natAbs<b.natAbs:=by
  rw[hr,hq,rem_ref,zof_natAbs];exact Nat.mod_lt _ (by omega)
 rw[sgn_mul_neg];refine⟨fun h=>?_,fun h=>?_⟩
 ·have:=fdiv_unique (a:=a) (b:=b) (q:=q-1) (r:=r+b) (by rw[Int.mul_sub,hr,Int.mul_comm b q];omega) (by omega)
  exact⟨this.1.symm,this.2.symm⟩
 have:=fdiv_unique (a:=a) (b:=b) (q:=q) (r:=r) (by rw[hr,Int.mul_comm b q];omega) (by omega)
 exact⟨this.1.symm,this.2.symm⟩
end Go.Eng
set_option maxHeartbeats 2000000
namespace Go.Proofs.YtcdijplheindaaaGreat
open Go Go.Eng
def ZV (z:Int):V:=.agg [.bool (zs z),.ints .u32 (zm z)]
theorem isignedZ (b:Bool)(n:Nat)(hn:nl n<2^60):Pr Tryz.prog 219 [.one (.bool b),.one (.ints .u32 (limbs n))] (ZV (zof b n)):=by
 have h:=isigned_spec b (limbs n) (InR.limbs n) (by rw[limbs_length];omega);rw[val_limbs]at h;unfold ZV;rw[zs_zof,zm_zof];exact h
theorem itrimZ (z:Int)(hz:zn z<2^60):Pr Tryz.prog 238 [.one (.ints .u32 (zm z))] (.one (.ints .u32 (limbs z.natAbs))):=by
 have h:=itrim_spec (zm z) (zm_inr z) (by rw[zm_length];omega);rw[val_zm]at h;exact h
theorem cloneL (n:Nat)(hn:nl n<2^44):Pr Tryz.prog 218 [.one (.ints .u32 (limbs n))] (.one (.ints .u32 (limbs n))):=cloneU_spec _ (by rw[limbs_length];exact hn)
theorem iFromInt_spec (z:Int)(h1: -9223372036854775808≤z)(h2:z≤9223372036854775807):Pr Tryz.prog 169 [.one (.int .i64 z)] (ZV z):=by
 have hu:z.natAbs<2^64:=by omega
 have e0:zof (decide (z<0)) z.natAbs=z:=zof_self z;have hn:=nl_le_of_lt (n:=z.natAbs) (k:=2) (by unfold BB;omega);refine pw Tryz.func169 ⟨[0,2,3,7],[]⟩ ?_;simp only[Tryz.f169,Tryz.ntmps169,iz,seval];simp only[vx,T,seval,ZV];refine⟨fun h=>Lg ?_,fun h=>Lg ?_⟩
 ·have e1:IntKind.u64.wrap (0-IntKind.u64.wrap z)=(z.natAbs:Int):=by rw[wrap_u64',wrap_u64'];omega
  simp only[vx,T,seval,ZV];simp only[e1];refine Cg (ifromUint_spec z.natAbs hu) ?_;simp only[vx,T,seval,ZV];refine Cg (isignedZ _ z.natAbs (by omega)) ?_;rw[e0];simp only[vx,T,seval,ZV];refine Va ?_;simp only[vLe,vLeL,ry,seval,ZV]
 have e1:IntKind.u64.wrap z=(z.natAbs:Int):=by rw[wrap_u64'];omega
 simp only[vx,T,seval,ZV];simp only[e1];refine Cg (ifromUint_spec z.natAbs hu) ?_;simp only[vx,T,seval,ZV];refine Cg (isignedZ _ z.natAbs (by omega)) ?_;rw[e0];simp only[vx,T,seval,ZV];refine Va ?_;simp only[vLe,vLeL,ry,seval,ZV]
theorem iNeg_spec (a:Int)(ha:zn a<2^42):Pr Tryz.prog 296 [ZV a] (ZV (-a)):=by
 refine pw Tryz.func296 ⟨[0,1,2],[]⟩ ?_;simp only[Tryz.f296,Tryz.ntmps296,iz,seval];simp only[vx,T,seval,ZV];refine Cg (itrimZ a (by omega)) ?_;simp only[vx,T,seval,ZV];refine Cg (cloneL a.natAbs (by unfold zn at ha;omega)) ?_;simp only[vx,T,seval,ZV];refine Cg (isignedZ _ a.natAbs (by unfold zn at ha;omega)) ?_;rw[neg_sign];simp only[vx,T,seval,ZV];refine Va ?_;simp only[vLe,vLeL,ry,seval,ZV]
theorem iMul_spec (a b:Int)(ha:zn a<2^42)(hb:zn b<2^42):Pr Tryz.prog 195 [ZV a,ZV b] (ZV (a*b)):=by
 have hm:=nl_mul a.natAbs b.natAbs;unfold zn at ha hb;refine pw Tryz.func195 ⟨[0,1,2,3,4],[]⟩ ?_;simp only[Tryz.f195,Tryz.ntmps195,iz,seval];simp only[vx,T,seval,ZV];refine Cg (itrimZ a (by unfold zn;omega)) ?_;simp only[vx,T,seval,ZV];refine Cg (itrimZ b (by unfold zn;omega)) ?_;simp only[vx,T,seval,ZV];refine Cg (itimes_spec a.natAbs b.natAbs (by omega) (by omega)) ?_;simp only[vx,T,seval,ZV];refine Cg (isignedZ _ (a.natAbs*b.natAbs) (by omega)) ?_;rw[mul_sign];simp only[vx,T,seval,ZV];refine Va ?_;simp only[vLe,vLeL,ry,seval,ZV]
theorem iAdd_spec (a b:Int)(ha:zn a<2^42)(hb:zn b<2^42):Pr Tryz.prog 294 [ZV a,ZV b] (ZV (a+b)):=by
 have hm:=nl_add a.natAbs b.natAbs;unfold zn at ha hb;refine pw Tryz.func294 ⟨[0,1,2,3,4,5,6,17,27],[]⟩ ?_;simp only[Tryz.f294,Tryz.ntmps294,iz,seval];simp only[vx,T,seval,ZV];refine Cg (itrimZ a (by unfold zn;omega)) ?_;simp only[vx,T,seval,ZV];refine Cg (itrimZ b (by unfold zn;omega)) ?_;simp only[vx,T,seval,ZV,beq_iff_eq];refine⟨fun h=>Lg ?_,fun h=>Lg ?_⟩
 ·simp only[vx,T,seval,ZV];refine Cg (iplus_spec a.natAbs b.natAbs (by omega) (by omega)) ?_;simp only[vx,T,seval,ZV];refine Cg (isignedZ _ (a.natAbs+b.natAbs) (by omega)) ?_;rw[add_same h];simp only[vx,T,seval,ZV];refine Va ?_;simp only[vLe,vLeL,ry,seval,ZV]
 have h:=beq_eq_false_iff_ne.1 h;simp only[vx,T,seval,ZV];refine Cg (icompare_spec a.natAbs b.natAbs (by omega) (by omega)) ?_;simp only[vx,T,seval,ZV];refine⟨fun h2=>Lg ?_,fun h2=>Lg ?_⟩
 ·have h3:=cmpI_neg h2;simp only[vx,T,seval,ZV];refine Cg (iminus_spec b.natAbs a.natAbs (by omega) (by omega)) ?_;simp only[vx,T,seval,ZV];refine Cg (isignedZ _ (b.natAbs-a.natAbs) (Nat.lt_of_le_of_lt (nl_mono (Nat.sub_le _ _)) (by omega))) ?_;rw[add_less h (by omega)];simp only[vx,T,seval,ZV];refine Va ?_;simp only[vLe,vLeL,ry,seval,ZV]
 have h3:=cmpI_nneg h2;simp only[vx,T,seval,ZV];refine Cg (iminus_spec a.natAbs b.natAbs (by omega) (by omega)) ?_;simp only[vx,T,seval,ZV];refine Cg (isignedZ _ (a.natAbs-b.natAbs) (Nat.lt_of_le_of_lt (nl_mono (Nat.sub_le _ _)) (by omega))) ?_;rw[add_more h h3];simp only[vx,T,seval,ZV];refine Va ?_;simp only[vLe,vLeL,ry,seval,ZV]
theorem iSign_spec (a:Int)(ha:zn a<2^42):Pr Tryz.prog 234 [ZV a] (.one (.int .i64 (sgn a))):=by
 refine pw Tryz.func234 ⟨[0,1,2,3,9],[]⟩ ?_;simp only[Tryz.f234,Tryz.ntmps234,iz,seval];simp only[vx,T,seval,ZV];refine Cg (itrimZ a (by omega)) ?_;simp only[vx,T,seval,ZV];refine⟨fun h=>Lg ?_,fun h=>Lg ?_⟩
 ·have h0:a=0:=by have:=nl_eq_zero (n:=a.natAbs);omega
  simp only[vx,T,seval,ZV];subst h0;exact Ve rfl
 have h0:a≠0:=by rintro rfl;exact h (by simp[nl_zero])
 simp only[vx,T,seval,ZV];refine⟨fun h2=>Lg ?_,fun h2=>Lg ?_⟩
 ·simp only[vx,T,seval,ZV];refine Ve ?_;unfold sgn;rw[if_neg h0,if_pos (zs_true.1 h2)]
 simp only[vx,T,seval,ZV];refine Ve ?_
 have:=zs_false.1 h2
 unfold sgn;rw[if_neg h0,if_neg (by omega)]
end Go.Proofs.YtcdijplheindaaaGreat
set_option maxHeartbeats 2000000
namespace Go.Proofs.YtcdijplheindaaaGreat
open Go Go.Eng
theorem nl_mod_lt {a b:Nat}(hb:0<b):nl (a%b)≤nl b:=nl_mono (Nat.le_of_lt (Nat.mod_lt a hb))
theorem iGCD_spec (a b:Int)(ha:zn a<2^42)(hb:zn b<2^42):Pr Tryz.prog 291 [ZV a,ZV b] (ZV (Int.gcd a b)):=by
 have hg:Int.gcd a b=Nat.gcd a.natAbs b.natAbs:=rfl;unfold zn at ha hb;refine pw Tryz.func291 ⟨[0,1,2,3,4,5,6,8,9,10,29,40,49],[(9,(.cons 4 [2,3] (.cons 5 [] .nil .nil) .nil))]⟩ ?_;simp only[Tryz.f291,Tryz.ntmps291,iz,seval];simp only[vx,T,seval,ZV];refine Cg (itrimZ a (by unfold zn;omega)) ?_;simp only[vx,T,seval,ZV];refine Cg (itrimZ b (by unfold zn;omega)) ?_;simp only[vx,T,seval,ZV];refine Lk (fun y:{y:Nat×Nat//Nat.gcd y.1 y.2=Nat.gcd a.natAbs b.natAbs∧nl y.1<2^42∧nl y.2<2^42}=>⟨[(4,.one (.ptr 3 0)),(5,.one (.ints .u32 (limbs y.1.1))),(6,.one (.ints .u32 (limbs y.1.2)))],[(3,⟨.var [.bool false,.nil],true⟩)],4,57⟩) (fun y=>y.1.2) ⟨(a.natAbs,b.natAbs),rfl,ha,hb⟩ ?_ (fun⟨⟨u,v⟩,e,hu,hv⟩=>?_)
 ·refine Sa ?_;simp only[ry,seval,rz]
 simp only at e hu hv;simp only[vx,T,seval,ZV];refine⟨fun h1=>Lg ?_,fun h1=>Lg ?_⟩
 ·simp only[vx,T,seval,ZV];have hv0:0<v:=by
   rcases Nat.eq_zero_or_pos v with h|h
   ·subst h;rw[nl_zero]at*
    omega
   exact h
  refine Cg (idivide_spec u v hv0 (by omega) (by omega)) ?_;simp only[vx,T,seval,ZV];refine Lq ⟨(v,u%v),by rw[←e,Nat.gcd_comm u v,Nat.gcd_rec v u,Nat.gcd_comm],hv,Nat.lt_of_le_of_lt (nl_mod_lt hv0) hv⟩ ?_ ?_
  ·refine Sa ?_;simp only[ry,seval,rz,ZV]
  exact Nat.mod_lt _ hv0
 simp only[vx,T,seval,ZV];refine⟨fun h2=>Lg ?_,fun h2=>Lg ?_⟩
 ·simp only[vx,T,seval,ZV];refine⟨fun h3=>Lg ?_,fun h3=>Lg ?_⟩
  ·simp only[vx,T,seval,ZV];have hv0:0<v:=by
    rcases Nat.eq_zero_or_pos v with h|h
    ·subst h;rw[nl_zero]at*
     omega
    exact h
   refine Cg (idivide_spec u v hv0 (by omega) (by omega)) ?_;simp only[vx,T,seval,ZV];refine Lq ⟨(v,u%v),by rw[←e,Nat.gcd_comm u v,Nat.gcd_rec v u,Nat.gcd_comm],hv,Nat.lt_of_le_of_lt (nl_mod_lt hv0) hv⟩ ?_ ?_
   ·refine Sa ?_;simp only[ry,seval,rz,ZV]
   exact Nat.mod_lt _ hv0
  simp only[vx,T,seval,ZV];refine⟨fun h0=>Lg ?_,fun h0=>Lg ?_⟩
  ·have hv0:v=0:=nl_eq_zero.1 (by omega);subst hv0;rw[Nat.gcd_zero_right]at e;simp only[vx,T,seval,ZV];refine Cg (cloneL u (by omega)) ?_;simp only[vx,T,seval,ZV];refine Cg (isignedZ false u (by omega)) ?_;have e2:zof false u=((Int.gcd a b:Nat):Int):=by rw[hg,←e];rfl
   rw[e2];simp only[vx,T,seval,ZV];refine Va ?_;simp only[vLe,vLeL,ry,seval,ZV]
  have hu2:u<2^64:=by have:=nl_le_iff.1 (show nl u≤2 by omega);unfold BB at this;omega
  have hv2:v<2^64:=by have:=nl_le_iff.1 (show nl v≤2 by omega);unfold BB at this;omega
  simp only[vx,T,seval,ZV];refine Cg (itoUint_spec u hu2) ?_;simp only[vx,T,seval,ZV];refine Cg (itoUint_spec v hv2) ?_;simp only[vx,T,seval,ZV];refine Lk (fun y:{y:Nat×Nat//Nat.gcd y.1 y.2=Nat.gcd a.natAbs b.natAbs∧y.1<2^64∧y.2<2^64}=>⟨[(4,.one (.ptr 3 0)),(9,.one (.int .u64 y.1.1)),(10,.one (.int .u64 y.1.2))],[(3,⟨.var [.bool false,.nil],true⟩)],4,57⟩) (fun y=>y.1.2) ⟨(u,v),e,hu2,hv2⟩ ?_ (fun⟨⟨u,v⟩,e,hu,hv⟩=>?_)
  ·refine Sa ?_;simp only[ry,seval,rz]
  simp only at e hu hv;simp only[vx,T,seval,ZV];refine⟨fun h5=>Lg ?_,fun h5=>Lg ?_⟩
  ·simp only[vx,T,seval,ZV];have e2:(u:Int).tmod v=((u%v:Nat):Int):=rfl;simp only[e2];refine⟨by omega,by omega,Lq ⟨(v,u%v),by rw[←e,Nat.gcd_comm u v,Nat.gcd_rec v u,Nat.gcd_comm],hv,Nat.lt_trans (Nat.mod_lt u (by omega)) hv⟩ ?_ ?_⟩
   ·refine Sa ?_;simp only[ry,seval,rz,ZV]
   exact Nat.mod_lt _ (by omega)
  have hv0:v=0:=by omega
  subst hv0;rw[Nat.gcd_zero_right]at e;have hn:=nl_le_of_lt (n:=u) (k:=2) (by unfold BB;omega);simp only[vx,T,seval,ZV];refine Cg (ifromUint_spec u (by omega)) ?_;simp only[vx,T,seval,ZV];refine Cg (isignedZ false u (by omega)) ?_;have e2:zof false u=((Int.gcd a b:Nat):Int):=by rw[hg,←e];rfl
  rw[e2];simp only[vx,T,seval,ZV];refine Va ?_;simp only[vLe,vLeL,ry,seval,ZV]
 simp only[vx,T,seval,ZV];refine⟨fun h0=>Lg ?_,fun h0=>Lg ?_⟩
 ·have hv0:v=0:=nl_eq_zero.1 (by omega);subst hv0;rw[Nat.gcd_zero_right]at e;simp only[vx,T,seval,ZV];refine Cg (cloneL u (by omega)) ?_;simp only[vx,T,seval,ZV];refine Cg (isignedZ false u (by omega)) ?_;have e2:zof false u=((Int.gcd a b:Nat):Int):=by rw[hg,←e];rfl
  rw[e2];simp only[vx,T,seval,ZV];refine Va ?_;simp only[vLe,vLeL,ry,seval,ZV]
 have hu2:u<2^64:=by have:=nl_le_iff.1 (show nl u≤2 by omega);unfold BB at this;omega
 have hv2:v<2^64:=by have:=nl_le_iff.1 (show nl v≤2 by omega);unfold BB at this;omega
 simp only[vx,T,seval,ZV];refine Cg (itoUint_spec u hu2) ?_;simp only[vx,T,seval,ZV];refine Cg (itoUint_spec v hv2) ?_;simp only[vx,T,seval,ZV];refine Lk (fun y:{y:Nat×Nat//Nat.gcd y.1 y.2=Nat.gcd a.natAbs b.natAbs∧y.1<2^64∧y.2<2^64}=>⟨[(4,.one (.ptr 3 0)),(9,.one (.int .u64 y.1.1)),(10,.one (.int .u64 y.1.2))],[(3,⟨.var [.bool false,.nil],true⟩)],4,57⟩) (fun y=>y.1.2) ⟨(u,v),e,hu2,hv2⟩ ?_ (fun⟨⟨u,v⟩,e,hu,hv⟩=>?_)
 ·refine Sa ?_;simp only[ry,seval,rz]
 simp only at e hu hv;simp only[vx,T,seval,ZV];refine⟨fun h5=>Lg ?_,fun h5=>Lg ?_⟩
 ·simp only[vx,T,seval,ZV];have e2:(u:Int).tmod v=((u%v:Nat):Int):=rfl;simp only[e2];refine⟨by omega,by omega,Lq ⟨(v,u%v),by rw[←e,Nat.gcd_comm u v,Nat.gcd_rec v u,Nat.gcd_comm],hv,Nat.lt_trans (Nat.mod_lt u (by omega)) hv⟩ ?_ ?_⟩
  ·refine Sa ?_;simp only[ry,seval,rz,ZV]
  exact Nat.mod_lt _ (by omega)
 have hv0:v=0:=by omega
 subst hv0;rw[Nat.gcd_zero_right]at e;have hn:=nl_le_of_lt (n:=u) (k:=2) (by unfold BB;omega);simp only[vx,T,seval,ZV];refine Cg (ifromUint_spec u (by omega)) ?_;simp only[vx,T,seval,ZV];refine Cg (isignedZ false u (by omega)) ?_;have e2:zof false u=((Int.gcd a b:Nat):Int):=by rw[hg,←e];rfl
 rw[e2];simp only[vx,T,seval,ZV];refine Va ?_;simp only[vLe,vLeL,ry,seval,ZV]
end Go.Proofs.YtcdijplheindaaaGreat
set_option maxHeartbeats 2000000
namespace Go.Proofs.YtcdijplheindaaaGreat
open Go Go.Eng
def okI (b:Bool)(xs:List Int):Bool:=decide (limbs (val xs)=xs∧(b=true→xs≠[]))
theorem okI_of {b:Bool}{xs:List Int}(h:okI b xs=true):∃z:Int,b=zs z∧xs=zm z:=by
 unfold okI at h;simp only[decide_eq_true_eq]at h;refine⟨zof b (val xs),?_,by rw[zm_zof,h.1]⟩;rw[zs_zof]
 cases b
 ·rfl
 have:=h.2 rfl
 have h0:val xs≠0:=fun e=>this (by rw[←h.1,e,limbs_zero])
 simp;omega
theorem okI_Z (z:Int):okI (zs z) (zm z)=true:=by
 unfold okI;simp only[decide_eq_true_eq];refine⟨by rw[val_zm];rfl,fun h e=>?_⟩
 have:zn z=0:=by rw[←zm_length,e];rfl
 have:=zn_eq_zero.1 this
 subst this
 cases h
theorem limbs_last {n:Nat}(h:0<n):(limbs n).getD (nl n-1) 0≠0:=by
 rw[lG,topW_mod h]
 have:=(topW_lt h).1
 omega
theorem okI_nil (b:Bool):okI b []=!b:=by
 have:limbs (val [])=[]:=limbs_zero
 unfold okI
 cases b<;>simp [this]
theorem okI_last {b:Bool}{xs:List Int}(hx:InR xs)(h0:xs≠[]):okI b xs=decide (xs.getD (xs.length-1) 0≠0):=by
 unfold okI;simp only[h0,ne_eq,not_false_eq_true,implies_true,and_true]
 congr 1
 simp only[eq_iff_iff]
 constructor
 ·intro h e;rw[←h,limbs_length]at e;have hp:0<val xs:=by
   rcases Nat.eq_zero_or_pos (val xs)with h1|h1
   ·rw[h1,limbs_zero]at h;exact absurd h.symm h0
   exact h1
  exact limbs_last hp e
 intro h;exact limbs_val_last hx (.inr h)
theorem iValid_spec (b:Bool)(xs:List Int)(hx:InR xs)(hl:xs.length<2^44):Pr Tryz.prog 289 [.agg [.bool b,.ints .u32 xs]] (.one (.bool (okI b xs))):=by
 refine pw Tryz.func289 ⟨[0,1,2,3],[]⟩ ?_;simp only[Tryz.f289,Tryz.ntmps289,iz,seval];simp only[vx,T,seval];refine⟨fun h1=>Lg ?_,fun h1=>Lg ?_⟩
 ·have hx0:xs=[]:=List.length_eq_zero_iff.1 (by omega);subst hx0;simp only[vx,T,seval]
  cases b
  ·refine⟨fun h2=>Lg ?_,fun h2=>Lg ?_⟩
   ·simp only[vx,T,seval];refine Ve ?_;rw[okI_nil];rfl
   cases h2
  refine⟨fun h2=>absurd h2 (by decide),fun h2=>Lg ?_⟩;simp only[vx,T,seval];refine Ve ?_;rw[okI_nil];rfl
 have hx0:xs≠[]:=by rintro rfl;exact h1 rfl
 simp only[vx,T,seval];have i1:IntKind.i64.wrap ((xs.length:Int)-1)=((xs.length-1:Nat):Int):=by rw[Q4 _ (by omega)];omega
 refine⟨fun h2=>Lg ?_,fun h2=>absurd h2 (by omega)⟩;simp only[vx,T,seval]
 simp(disch:=omega) only[lG,←X2,←Q2,Q1,Q4,Q5,wrapBB,fdivBB,true_and,and_true,i1]
 refine⟨by omega,?_⟩;refine Ve ?_;rw[okI_last hx hx0]
theorem iDivMod_spec (a b:Int)(ha:zn a<2^42)(hb:zn b<2^42)(h0:b≠0):Pr Tryz.prog 354 [ZV a,ZV b] (.tup [ZV (a.fdiv b),ZV (a.fmod b),.one (.int .i64 0)]):=by
 unfold zn at ha hb;have hbp:0<b.natAbs:=by omega
 have hbn:=nl_pos.2 hbp;refine pw Tryz.func354 ⟨[0,1,2,3,4,5,6,7,8,9,15,35],[]⟩ ?_;simp only[Tryz.f354,Tryz.ntmps354,iz,seval];simp only[vx,T,seval,ZV];refine Cg (itrimZ b (by unfold zn;omega)) ?_;simp only[vx,T,seval,ZV];refine⟨fun h=>Lg ?_,fun h=>Lg ?_⟩
 ·omega
 simp only[vx,T,seval,ZV];refine Cg (itrimZ a (by unfold zn;omega)) ?_;simp only[vx,T,seval,ZV];refine Cg (idivide_spec a.natAbs b.natAbs hbp (by omega) (by omega)) ?_;have hr:=nl_mod_lt (a:=a.natAbs) hbp;have hq:nl (a.natAbs/b.natAbs)≤nl a.natAbs:=nl_mono (Nat.div_le_self _ _);simp only[vx,T,seval,ZV];refine⟨fun h1=>Lg ?_,fun h1=>Lg ?_⟩
 ·simp only[vx,T,seval,ZV];refine⟨fun h2=>Lg ?_,fun h2=>Lg ?_⟩
  ·simp only[vx,T,seval,ZV];have l1:limbs 1=[1]:=by rw[limbs_pos (by decide),show (1:Nat)/BB=0 by decide,limbs_zero];rfl
   rw[←l1];have hp:=nl_add (a.natAbs/b.natAbs) 1;have n1:nl 1=1:=by unfold nl;rw[l1];rfl
   refine Cg (iplus_spec (a.natAbs/b.natAbs) 1 (by omega) (by omega)) ?_;simp only[vx,T,seval,ZV];refine Cg (iminus_spec b.natAbs (a.natAbs%b.natAbs) (Nat.le_of_lt (Nat.mod_lt _ hbp)) (by omega)) ?_;have key:=divmod_up (a:=a) (b:=b) h0 h1 (nl_pos.1 (by omega));simp only[vx,T,seval,ZV];refine Cg (isignedZ _ (a.natAbs/b.natAbs+1) (by omega)) ?_;rw[key.1];simp only[vx,T,seval,ZV];refine Cg (isignedZ _ (b.natAbs-a.natAbs%b.natAbs) (Nat.lt_of_le_of_lt (nl_mono (Nat.sub_le _ _)) (by omega))) ?_;rw[key.2];simp only[vx,T,seval,ZV];refine Va ?_;simp only[vLe,vLeL,ry,seval,ZV]
  simp only[vx,T,seval,ZV];have key:=divmod_plain (a:=a) (b:=b) h0 (.inr (nl_eq_zero.1 (by omega)));refine Cg (isignedZ _ (a.natAbs/b.natAbs) (by omega)) ?_;rw[key.1];simp only[vx,T,seval,ZV];refine Cg (isignedZ _ (a.natAbs%b.natAbs) (by omega)) ?_;rw[key.2];simp only[vx,T,seval,ZV];refine Va ?_;simp only[vLe,vLeL,ry,seval,ZV]
 simp only[vx,T,seval,ZV];have key:=divmod_plain (a:=a) (b:=b) h0 (.inl (by simpa using h1));refine Cg (isignedZ _ (a.natAbs/b.natAbs) (by omega)) ?_;rw[key.1];simp only[vx,T,seval,ZV];refine Cg (isignedZ _ (a.natAbs%b.natAbs) (by omega)) ?_;rw[key.2];simp only[vx,T,seval,ZV];refine Va ?_;simp only[vLe,vLeL,ry,seval,ZV]
end Go.Proofs.YtcdijplheindaaaGreat
set_option maxHeartbeats 2000000
namespace Go.Proofs.YtcdijplheindaaaGreat
open Go Go.Eng
theorem rsignedZ (b:Bool)(n:Nat)(hn:nl n<2^60):Pr Tryz.prog 101 [.one (.bool b),.one (.ints .u32 (limbs n))] (ZV (zof b n)):=by
 have h:=rsigned_spec b (limbs n) (InR.limbs n) (by rw[limbs_length];omega);rw[val_limbs]at h;unfold ZV;rw[zs_zof,zm_zof];exact h
theorem rtrimZ (z:Int)(hz:zn z<2^60):Pr Tryz.prog 165 [.one (.ints .u32 (zm z))] (.one (.ints .u32 (limbs z.natAbs))):=by
 have h:=rtrim_spec (zm z) (zm_inr z) (by rw[zm_length];omega);rw[val_zm]at h;exact h
theorem zm_eq (z:Int):zm z=limbs z.natAbs:=rfl
theorem rFromInt_spec (z:Int)(h1: -9223372036854775808≤z)(h2:z≤9223372036854775807):Pr Tryz.prog 52 [.one (.int .i64 z)] (ZV z):=by
 have hu:z.natAbs<2^64:=by omega
 have e0:zof (decide (z<0)) z.natAbs=z:=zof_self z;have hn:=nl_le_of_lt (n:=z.natAbs) (k:=2) (by unfold BB;omega);refine pw Tryz.func52 ⟨[0,2,4],[]⟩ ?_;simp only[Tryz.f52,Tryz.ntmps52,iz,seval];simp only[vx,T,seval,ZV];refine⟨fun h=>Lg ?_,fun h=>Lg ?_⟩
 ·have e1:IntKind.u64.wrap (0-IntKind.u64.wrap z)=(z.natAbs:Int):=by rw[wrap_u64',wrap_u64'];omega
  simp only[vx,T,seval,ZV];simp only[e1];refine Cg (rwords_spec z.natAbs hu) ?_;simp only[vx,T,seval,ZV];have e2:zof true z.natAbs=z:=by rw[←e0,zof_natAbs];simp[h]
  refine Cg (rsignedZ _ z.natAbs (by omega)) ?_;rw[e2];simp only[vx,T,seval,ZV];refine Va ?_;simp only[vLe,vLeL,ry,seval,ZV]
 have e1:IntKind.u64.wrap z=(z.natAbs:Int):=by rw[wrap_u64'];omega
 simp only[vx,T,seval,ZV];simp only[e1];refine Cg (rwords_spec z.natAbs hu) ?_;simp only[vx,T,seval,ZV];have e2:zof false z.natAbs=z:=by rw[←e0,zof_natAbs];simp[h]
 refine Cg (rsignedZ _ z.natAbs (by omega)) ?_;rw[e2];simp only[vx,T,seval,ZV];refine Va ?_;simp only[vLe,vLeL,ry,seval,ZV]
theorem rNorm_spec (a:Int)(ha:zn a<2^59):Pr Tryz.prog 275 [ZV a] (ZV a):=by
 refine pw Tryz.func275 ⟨[0,1,2],[]⟩ ?_;simp only[Tryz.f275,Tryz.ntmps275,iz,seval];simp only[vx,T,seval,ZV];simp only[zm_eq];refine Cg (rsignedZ (zs a) a.natAbs (by unfold zn at ha;omega)) ?_;rw[zof_self];simp only[vx,T,seval,ZV];refine Va ?_;simp only[vLe,vLeL,ry,seval,ZV,zm_eq]
theorem rSign_spec (a:Int)(ha:zn a<2^59):Pr Tryz.prog 223 [ZV a] (.one (.int .i64 (sgn a))):=by
 refine pw Tryz.func223 ⟨[0,1,2,8,10],[]⟩ ?_;simp only[Tryz.f223,Tryz.ntmps223,iz,seval];simp only[vx,T,seval,ZV];refine Cg (rNorm_spec a ha) ?_;simp only[vx,T,seval,ZV];refine⟨fun h=>Lg ?_,fun h=>Lg ?_⟩
 ·have h0:a=0:=zn_eq_zero.1 (by rw[zm_length]at h;omega);simp only[vx,T,seval,ZV];subst h0;exact Ve rfl
 have h0:a≠0:=by rintro rfl;exact h (by rw[zm_zero];rfl)
 simp only[vx,T,seval,ZV];refine⟨fun h2=>Lg ?_,fun h2=>Lg ?_⟩
 ·simp only[vx,T,seval,ZV];refine Ve ?_;unfold sgn;rw[if_neg h0,if_pos (zs_true.1 h2)]
 simp only[vx,T,seval,ZV];refine Ve ?_
 have:=zs_false.1 h2
 unfold sgn;rw[if_neg h0,if_neg (by omega)]
theorem rNeg_spec (a:Int)(ha:zn a<2^59):Pr Tryz.prog 224 [ZV a] (ZV (-a)):=by
 refine pw Tryz.func224 ⟨[0,1,2],[]⟩ ?_;simp only[Tryz.f224,Tryz.ntmps224,iz,seval];simp only[vx,T,seval,ZV];simp only[zm_eq];refine Cg (rsignedZ _ a.natAbs (by unfold zn at ha;omega)) ?_;rw[neg_sign];simp only[vx,T,seval,ZV];refine Va ?_;simp only[vLe,vLeL,ry,seval,ZV,zm_eq]
theorem rMul_spec (a b:Int)(ha:zn a<2^42)(hb:zn b<2^42):Pr Tryz.prog 320 [ZV a,ZV b] (ZV (a*b)):=by
 have hm:=nl_mul a.natAbs b.natAbs;unfold zn at ha hb;refine pw Tryz.func320 ⟨[0,1,2,3,4],[]⟩ ?_;simp only[Tryz.f320,Tryz.ntmps320,iz,seval];simp only[vx,T,seval,ZV];refine Cg (rNorm_spec a (by unfold zn;omega)) ?_;simp only[vx,T,seval,ZV];refine Cg (rNorm_spec b (by unfold zn;omega)) ?_;simp only[vx,T,seval,ZV];simp only[zm_eq];refine Cg (rtimes_spec a.natAbs b.natAbs (by omega) (by omega)) ?_;simp only[vx,T,seval,ZV];refine Cg (rsignedZ _ (a.natAbs*b.natAbs) (by omega)) ?_;rw[mul_sign];simp only[vx,T,seval,ZV];refine Va ?_;simp only[vLe,vLeL,ry,seval,ZV,zm_eq]
theorem rAdd_spec (a b:Int)(ha:zn a<2^43)(hb:zn b<2^43):Pr Tryz.prog 321 [ZV a,ZV b] (ZV (a+b)):=by
 have hm:=nl_add a.natAbs b.natAbs;unfold zn at ha hb;refine pw Tryz.func321 ⟨[0,1,2,3,4,13,27],[]⟩ ?_;simp only[Tryz.f321,Tryz.ntmps321,iz,seval];simp only[vx,T,seval,ZV];refine Cg (rNorm_spec a (by unfold zn;omega)) ?_;simp only[vx,T,seval,ZV];refine Cg (rNorm_spec b (by unfold zn;omega)) ?_;simp only[vx,T,seval,ZV,beq_iff_eq];refine⟨fun h=>Lg ?_,fun h=>Lg ?_⟩
 ·simp only[vx,T,seval,ZV];simp only[zm_eq];refine Cg (rplus_spec a.natAbs b.natAbs (by omega) (by omega)) ?_;simp only[vx,T,seval,ZV];refine Cg (rsignedZ _ (a.natAbs+b.natAbs) (by omega)) ?_;rw[add_same h];simp only[vx,T,seval,ZV];refine Va ?_;simp only[vLe,vLeL,ry,seval,ZV,zm_eq]
 have h:=beq_eq_false_iff_ne.1 h;simp only[vx,T,seval,ZV];simp only[zm_eq];refine Cg (rcompare_spec a.natAbs b.natAbs (by omega) (by omega)) ?_;simp only[vx,T,seval,ZV];refine⟨fun h2=>Lg ?_,fun h2=>Lg ?_⟩
 ·have h3:b.natAbs≤a.natAbs:=cmpI_nneg (by omega);simp only[vx,T,seval,ZV];refine Cg (rminus_spec a.natAbs b.natAbs (by omega) (by omega)) ?_;simp only[vx,T,seval,ZV];refine Cg (rsignedZ _ (a.natAbs-b.natAbs) (Nat.lt_of_le_of_lt (nl_mono (Nat.sub_le _ _)) (by omega))) ?_;rw[add_more h h3];simp only[vx,T,seval,ZV];refine Va ?_;simp only[vLe,vLeL,ry,seval,ZV,zm_eq]
 have h3:a.natAbs<b.natAbs:=cmpI_neg (by omega);simp only[vx,T,seval,ZV];refine Cg (rminus_spec b.natAbs a.natAbs (by omega) (by omega)) ?_;simp only[vx,T,seval,ZV];refine Cg (rsignedZ _ (b.natAbs-a.natAbs) (Nat.lt_of_le_of_lt (nl_mono (Nat.sub_le _ _)) (by omega))) ?_;rw[add_less h (by omega)];simp only[vx,T,seval,ZV];refine Va ?_;simp only[vLe,vLeL,ry,seval,ZV,zm_eq]
theorem rSub_spec (a b:Int)(ha:zn a<2^43)(hb:zn b<2^43):Pr Tryz.prog 319 [ZV a,ZV b] (ZV (a-b)):=by
 refine pw Tryz.func319 ⟨[0,1,2,3,4],[]⟩ ?_;simp only[Tryz.f319,Tryz.ntmps319,iz,seval];simp only[vx,T,seval,ZV];refine Cg (rNeg_spec b (by omega)) ?_;simp only[vx,T,seval,ZV];refine Cg (rAdd_spec a (-b) (by omega) (by rw[zn_neg];omega)) ?_;rw[←Int.sub_eq_add_neg];simp only[vx,T,seval,ZV];refine Va ?_;simp only[vLe,vLeL,ry,seval,ZV]
theorem rGCD_spec (a b:Int)(ha:zn a<2^42)(hb:zn b<2^42):Pr Tryz.prog 222 [ZV a,ZV b] (ZV (Int.gcd a b)):=by
 have hg:Int.gcd a b=Nat.gcd a.natAbs b.natAbs:=rfl;unfold zn at ha hb;refine pw Tryz.func222 ⟨[0,1,2,3,4,5,6,8,17],[]⟩ ?_;simp only[Tryz.f222,Tryz.ntmps222,iz,seval];simp only[vx,T,seval,ZV];refine Cg (rtrimZ a (by unfold zn;omega)) ?_;simp only[vx,T,seval,ZV];refine Cg (rtrimZ b (by unfold zn;omega)) ?_;simp only[vx,T,seval,ZV];refine Lk (fun y:{y:Nat×Nat//Nat.gcd y.1 y.2=Nat.gcd a.natAbs b.natAbs∧nl y.1<2^42∧nl y.2<2^42}=>⟨[(4,.one (.ptr 3 0)),(5,.one (.ints .u32 (limbs y.1.1))),(6,.one (.ints .u32 (limbs y.1.2)))],[(3,⟨.var [.bool false,.nil],true⟩)],4,28⟩) (fun y=>y.1.2) ⟨(a.natAbs,b.natAbs),rfl,ha,hb⟩ ?_ (fun⟨⟨u,v⟩,e,hu,hv⟩=>?_)
 ·refine Sa ?_;simp only[ry,seval,rz]
 simp only at e hu hv;simp only[vx,T,seval,ZV];refine⟨fun h1=>Lg ?_,fun h1=>Lg ?_⟩
 ·have hv0:0<v:=nl_pos.1 (by omega);simp only[vx,T,seval,ZV];refine Cg (rdivide_spec u v hv0 (by omega) (by omega)) ?_;simp only[vx,T,seval,ZV];refine Lq ⟨(v,u%v),by rw[←e,Nat.gcd_comm u v,Nat.gcd_rec v u,Nat.gcd_comm],hv,Nat.lt_of_le_of_lt (nl_mod_lt hv0) hv⟩ ?_ ?_
  ·refine Sa ?_;simp only[ry,seval,rz,ZV]
  exact Nat.mod_lt _ hv0
 have hv0:v=0:=nl_eq_zero.1 (by omega);subst hv0;rw[Nat.gcd_zero_right]at e;simp only[vx,T,seval,ZV];refine Cg (rsignedZ false u (by omega)) ?_;have e2:zof false u=((Int.gcd a b:Nat):Int):=by rw[hg,←e];rfl
 rw[e2];simp only[vx,T,seval,ZV];refine Va ?_;simp only[vLe,vLeL,ry,seval,ZV]
theorem zn_small {z:Int}(h:z.natAbs<18446744073709551616):zn z≤2:=nl_le_of_lt (by unfold BB;omega)
theorem rDivMod_spec (a b:Int)(ha:zn a<2^40)(hb:zn b<2^40)(h0:b≠0):Pr Tryz.prog 276 [ZV a,ZV b] (.tup [ZV (a.fdiv b),ZV (a.fmod b),.one (.int .i64 0)]):=by
 have hbp:0<b.natAbs:=by omega
 have hbn:=nl_pos.2 hbp;obtain⟨q,hqd⟩:∃q,q=zof (zs a !=zs b) (a.natAbs/b.natAbs):=⟨_,rfl⟩;have hqn:zn q≤zn a:=by rw[hqd,zn_zof];exact nl_mono (Nat.div_le_self _ _)
 have hqb:=zn_mul q b;obtain⟨r,hrd⟩:∃r,r=a-q*b:=⟨_,rfl⟩;have hrn:zn r≤zn b:=by
  rw[hrd,hqd,rem_ref,zn_zof];exact nl_mono (Nat.le_of_lt (Nat.mod_lt _ hbp))
 obtain⟨key1,key2⟩:=divmod_ref h0 hqd hrd;refine pw Tryz.func276 ⟨[0,1,2,3,4,5,6,7,9,10,18,46],[(10,(.cons 2 [1] (.cons 3 [] (.cons 4 [] .nil .nil) .nil) .nil))]⟩ ?_;simp only[Tryz.f276,Tryz.ntmps276,iz,seval];simp only[vx,T,seval,ZV];refine Cg (rNorm_spec a (by omega)) ?_;simp only[vx,T,seval,ZV];refine Cg (rNorm_spec b (by omega)) ?_;simp only[vx,T,seval,ZV];refine⟨fun h=>Lg ?_,fun h=>Lg ?_⟩
 ·rw[zm_length]at h;exact absurd (zn_eq_zero.1 (by omega)) h0
 simp only[vx,T,seval,ZV];simp only[zm_eq];refine Cg (rdivide_spec a.natAbs b.natAbs hbp (by unfold zn at ha;omega) (by unfold zn at hb;omega)) ?_;simp only[vx,T,seval,ZV];refine Cg (rsignedZ (zs a !=zs b) (a.natAbs/b.natAbs) (by rw[←zn_zof (zs a !=zs b),←hqd];omega)) ?_;rw[←hqd];simp only[vx,T,seval,ZV,←zm_eq];refine Cg (rMul_spec q b (by omega) (by omega)) ?_;simp only[vx,T,seval,ZV];refine Cg (rSub_spec a (q*b) (by omega) (by omega)) ?_;rw[←hrd];simp only[vx,T,seval,ZV];refine Cg (rSign_spec r (by omega)) ?_;simp only[vx,T,seval,ZV];refine Cg (rSign_spec b (by omega)) ?_;have hw:IntKind.i64.wrap (sgn r*sgn b)=sgn r*sgn b:=by
  have:=sgn_mul_range r b
  exact Q4 _ (by omega)
 simp only[vx,T,seval,ZV,hw];refine⟨fun h3=>Lg ?_,fun h3=>Lg ?_⟩
 ·obtain⟨k1,k2⟩:=key1 h3;simp only[vx,T,seval,ZV];refine Cg (rFromInt_spec 1 (by omega) (by omega)) ?_;simp only[vx,T,seval,ZV];have z1:zn 1≤2:=zn_small (by decide);refine Cg (rSub_spec q 1 (by omega) (by omega)) ?_;rw[k1];simp only[vx,T,seval,ZV];refine Cg (rAdd_spec r b (by omega) (by omega)) ?_;rw[k2];simp only[vx,T,seval,ZV];refine Va ?_;simp only[vLe,vLeL,ry,seval,ZV]
 obtain⟨k1,k2⟩:=key2 h3;simp only[vx,T,seval,ZV];rw[←k1,←k2];refine Va ?_;simp only[vLe,vLeL,ry,seval,ZV]
end Go.Proofs.YtcdijplheindaaaGreat
namespace Go.Eng
def qm (q:Rat):Nat:=max (zn q.num) (nl q.den)
theorem gcd_pos {n:Int}{d:Nat}(hd:0<d):0<Int.gcd n d:=by
 unfold Int.gcd;exact Nat.gcd_pos_of_pos_right _ (by simpa using hd)
theorem mk_num {n:Int}{d:Nat}(hd:0<d):n.fdiv (Int.gcd n d)=(mkRat n d).num:=by
 rw[Rat.num_mkRat,if_neg (by omega),Int.fdiv_eq_ediv_of_nonneg _ (by omega)];unfold Int.gcd;rw[Nat.gcd_comm];rfl
theorem mk_den {n:Int}{d:Nat}(hd:0<d):(d:Int).fdiv (Int.gcd n d)=((mkRat n d).den:Int):=by
 rw[Rat.den_mkRat,if_neg (by omega),Int.fdiv_eq_ediv_of_nonneg _ (by omega)];unfold Int.gcd;rw[Nat.gcd_comm];rfl
theorem fdiv_one (n:Int):n.fdiv 1=n:=by rw[Int.fdiv_eq_ediv_of_nonneg _ (by omega)];exact Int.ediv_one n
theorem zn_num_mk (n:Int)(d:Nat):zn (mkRat n d).num≤zn n:=by
 rw[Rat.num_mkRat]
 split
 ·unfold zn;rw[Int.natAbs_zero,nl_zero];omega
 refine zn_le ?_;exact Int.natAbs_ediv_le_natAbs _ _
theorem nl_den_mk {n:Int}{d:Nat}(h:0<d):nl (mkRat n d).den≤nl d:=by
 rw[Rat.den_mkRat,if_neg (by omega)];exact nl_mono (Nat.div_le_self _ _)
theorem qm_mk {n:Int}{d:Nat}(h:0<d):qm (mkRat n d)≤max (zn n) (nl d):=by
 have h1:=zn_num_mk n d;have h2:=nl_den_mk (n:=n) h;unfold qm;omega
theorem qm_mul (a b:Rat):qm (a*b)≤qm a+qm b:=by
 rw[Rat.mul_def'];have h:=qm_mk (n:=a.num*b.num) (Nat.mul_pos a.den_pos b.den_pos);have h1:=zn_mul a.num b.num;have h2:=nl_mul a.den b.den;unfold qm at*;omega
theorem zn_nat (n:Nat):zn (n:Int)=nl n:=rfl
theorem qm_add (a b:Rat):qm (a+b)≤qm a+qm b+1:=by
 rw[Rat.add_def'];have h:=qm_mk (n:=a.num*b.den+b.num*a.den) (Nat.mul_pos a.den_pos b.den_pos);have h1:=zn_mul a.num b.den;have h2:=zn_mul b.num a.den;have h3:=zn_add (a.num*b.den) (b.num*a.den);have h4:=nl_mul a.den b.den;rw[zn_nat]at h1 h2;unfold qm at*;omega
theorem add_one {a b:Rat}(ha:a.den=1)(hb:b.den=1):(a+b).num=a.num+b.num∧(a+b).den=1:=by
 rw[Rat.add_def',ha,hb]
 constructor
 ·rw[Rat.num_mkRat];simp
 rw[Rat.den_mkRat];simp
theorem mul_one' {a b:Rat}(ha:a.den=1)(hb:b.den=1):(a*b).num=a.num*b.num∧(a*b).den=1:=by
 rw[Rat.mul_def',ha,hb]
 constructor
 ·rw[Rat.num_mkRat];simp
 rw[Rat.den_mkRat];simp
theorem add_cop {a b:Rat}(h:a.den.gcd b.den=1):(a+b).num=a.num*b.den+b.num*a.den∧(a+b).den=a.den*b.den:=by
 show(Rat.add a b).num=_∧(Rat.add a b).den=_
 delta Rat.add
 dsimp only
 rw[dif_pos h];exact⟨rfl,rfl⟩
theorem add_gen {a b:Rat}{g:Nat}(hg:g=a.den.gcd b.den){num:Int}(hn:num=a.num*((b.den/g:Nat):Int)+b.num*((a.den/g:Nat):Int)){h:Nat}(hh:h=num.natAbs.gcd g):
  num.fdiv h=(a+b).num∧(((a.den/g)*(b.den/h):Nat):Int)=((a+b).den:Int):=by
 have hgp:0<g:=by rw[hg];exact Nat.gcd_pos_of_pos_left _ a.den_pos
 have hga:g∣a.den:=by rw[hg];exact Nat.gcd_dvd_left _ _
 have hgb:g∣b.den:=by rw[hg];exact Nat.gcd_dvd_right _ _
 have hdp:0<a.den/g:=Nat.div_pos (Nat.le_of_dvd a.den_pos hga) hgp;have e1:a+b=mkRat num (a.den/g*b.den):=by
  rw[Rat.add_def',←Rat.mkRat_mul_right (a:=g) (n:=num) (by omega)]
  congr 1
  ·rw[hn,Int.add_mul,Int.mul_assoc,Int.mul_assoc,←Q2,←Q2,Nat.div_mul_cancel hgb,Nat.div_mul_cancel hga]
  rw[Nat.mul_right_comm,Nat.div_mul_cancel hga]
 have e2:num.natAbs.gcd g=num.natAbs.gcd (a.den/g*b.den):=by
  have:=Rat.add.aux a b (g:=g) hg rfl rfl
  simp only[←hn]at this;exact this
 have hp:0<a.den/g*b.den:=Nat.mul_pos hdp b.den_pos;have e3:h=Int.gcd num ((a.den/g*b.den:Nat):Int):=by rw[hh,e2];rfl
 have hhb:h∣b.den:=Nat.dvd_trans (by rw[hh];exact Nat.gcd_dvd_right _ _) hgb;rw[e1]
 constructor
 ·rw[←mk_num hp,←e3]
 rw[←mk_den hp,←e3,Int.fdiv_eq_ediv_of_nonneg _ (by omega),←Nat.mul_div_assoc _ hhb,Int.natCast_ediv]
theorem mul_gen (a b:Rat){g h:Nat}(hg:g=a.num.natAbs.gcd b.den)(hh:h=b.num.natAbs.gcd a.den):
  a.num.fdiv g*b.num.fdiv h=(a*b).num∧(((a.den/h)*(b.den/g):Nat):Int)=((a*b).den:Int):=by
 have hga:(g:Int)∣a.num:=Int.ofNat_dvd_left.2 (by rw[hg];exact Nat.gcd_dvd_left _ _);have hhb:(h:Int)∣b.num:=Int.ofNat_dvd_left.2 (by rw[hh];exact Nat.gcd_dvd_left _ _);rw[Int.fdiv_eq_ediv_of_nonneg _ (by omega),Int.fdiv_eq_ediv_of_nonneg _ (by omega)];have e:a*b=Rat.mul a b:=rfl;rw[e]
 delta Rat.mul
 dsimp only
 simp only[Int.divExact_eq_tdiv,Nat.divExact_eq_div];subst hg hh;refine⟨?_,rfl⟩;rw[Int.tdiv_eq_ediv_of_dvd hga,Int.tdiv_eq_ediv_of_dvd hhb]
end Go.Eng
set_option maxHeartbeats 2000000
namespace Go.Proofs.YtcdijplheindaaaGreat
open Go Go.Eng
def QC (q:Rat):List C:=[.bool (zs q.num),.ints .u32 (zm q.num),.bool (zs (q.den:Int)),.ints .u32 (zm (q.den:Int))]
def QV (q:Rat):V:=.agg (QC q)
theorem one_iff {z:Int}:z=1↔zs z=false∧zn z=1∧z.natAbs%BB=1:=by
 constructor
 ·rintro rfl;refine⟨rfl,?_,by decide⟩;have h1:zn 1≤1:=nl_le_of_lt (by decide);have h2:zn 1≠0:=fun e=>by have:=zn_eq_zero.1 e;omega
  omega
 rintro⟨h1,h2,h3⟩;have h4:=zs_false.1 h1;have h5:z.natAbs<BB:=by have:=nl_le_iff.1 (show nl z.natAbs≤1 by unfold zn at h2;omega);simpa using this
 rw[O7 h5]at h3;omega
theorem vb {p q:Bool}(h:p=q):VLe (.one (.bool p)) (.one (.bool q)):=Ve (by rw[h])
theorem zm_get0 (z:Int):(zm z).getD 0 0=((z.natAbs%BB:Nat):Int):=by
 unfold zm;rw[lG,Nat.pow_zero,Nat.div_one]
def okQ (s:Bool)(xs:List Int)(t:Bool)(ys:List Int):Bool:=
 okI s xs&&(okI t ys&&(decide (0<zof t (val ys))&&decide (((Int.gcd (zof s (val xs)) (zof t (val ys)):Nat):Int)=1)))
theorem okQ_Q (q:Rat):okQ (zs q.num) (zm q.num) (zs (q.den:Int)) (zm (q.den:Int))=true:=by
 unfold okQ;rw[val_zm,zof_self,val_zm,zof_self,okI_Z,okI_Z];have h1:=q.den_pos;have h2:Int.gcd q.num (q.den:Int)=1:=q.reduced;rw[h2]
 simp;omega
theorem iOne_spec (z:Int)(hz:zn z<2^60):Pr Tryz.prog 290 [ZV z] (.one (.bool (decide (z=1)))):=by
 have hiff:=one_iff (z:=z);refine pw Tryz.func290 ⟨[0,1,2],[]⟩ ?_;simp only[Tryz.f290,Tryz.ntmps290,iz,seval];simp only[vx,T,seval,ZV];refine⟨fun h1=>Lg ?_,fun h1=>Lg ?_⟩
 ·have h1:zs z=false:=by simpa using h1
  simp only[vx,T,seval];refine⟨fun h2=>Lg ?_,fun h2=>Lg ?_⟩
  ·rw[zm_length]at h2;simp only[vx,T,seval,zm_length,zm_get0];refine⟨by omega,vb (decide_eq_decide.2 ?_)⟩;rw[hiff];refine⟨fun h=>⟨h1,by omega,by omega⟩,fun h=>by omega⟩
  rw[zm_length]at h2;simp only[vx,T,seval];refine vb (decide_eq_false ?_).symm;rw[hiff];omega
 simp only[vx,T,seval];refine vb (decide_eq_false ?_).symm;rw[hiff];rintro⟨h2,_⟩;rw[h2]at h1;cases h1
theorem rOne_spec (z:Int)(hz:zn z<2^60):Pr Tryz.prog 326 [ZV z] (.one (.bool (decide (z=1)))):=by
 have hiff:=one_iff (z:=z);refine pw Tryz.func326 ⟨[0,1,2],[]⟩ ?_;simp only[Tryz.f326,Tryz.ntmps326,iz,seval];simp only[vx,T,seval,ZV];refine⟨fun h1=>Lg ?_,fun h1=>Lg ?_⟩
 ·rw[zm_length]at h1;simp only[vx,T,seval,zm_length,zm_get0];refine⟨by omega,?_⟩;refine⟨fun h2=>Lg ?_,fun h2=>Lg ?_⟩
  ·simp only[vx,T,seval];refine vb ?_
   cases hzs:zs z
   ·refine(decide_eq_true ?_).symm
    rw[hiff];exact⟨hzs,by omega,by omega⟩
   refine(decide_eq_false ?_).symm
   rw[hiff,hzs];rintro⟨h,_⟩
   cases h
  simp only[vx,T,seval];refine vb (decide_eq_false ?_).symm;rw[hiff];omega
 rw[zm_length]at h1;simp only[vx,T,seval];refine vb (decide_eq_false ?_).symm;rw[hiff];omega
theorem iQValid_spec (s t:Bool)(xs ys:List Int)(hx:InR xs)(hy:InR ys)(hxl:xs.length<2^40)(hyl:ys.length<2^40):Pr Tryz.prog 245 [.agg [.bool s,.ints .u32 xs,.bool t,.ints .u32 ys]] (.one (.bool (okQ s xs t ys))):=by
 refine pw Tryz.func245 ⟨[0,1,2],[]⟩ ?_;simp only[Tryz.f245,Tryz.ntmps245,iz,seval];simp only[vx,T,seval];refine Cg (iValid_spec s xs hx (by omega)) ?_;simp only[vx,T,seval];refine⟨fun h1=>Lg ?_,fun h1=>Lg ?_⟩
 ·simp only[vx,T,seval];refine Cg (iValid_spec t ys hy (by omega)) ?_;simp only[vx,T,seval];refine⟨fun h2=>Lg ?_,fun h2=>Lg ?_⟩
  ·obtain⟨z,rfl,rfl⟩:=okI_of h1;obtain⟨d,rfl,rfl⟩:=okI_of h2;rw[zm_length]at hxl hyl;have hok:okQ (zs z) (zm z) (zs d) (zm d)=(decide (0<d)&&decide (((Int.gcd z d:Nat):Int)=1)):=by
    unfold okQ;rw[h1,h2,val_zm,zof_self,val_zm,zof_self];rfl
   rw[hok];simp only[vx,T,seval];refine Cg (iSign_spec d (by omega)) ?_;simp only[vx,T,seval]
   have hs:(0<sgn d)↔0<d:=by unfold sgn;(repeat' split)<;>omega
   refine⟨fun h3=>Lg ?_,fun h3=>Lg ?_⟩
   ·rw[hs]at h3;simp only[vx,T,seval];refine Cg (iGCD_spec z d (by omega) (by omega)) ?_;have hgn:zn (Int.gcd z d)≤zn d:=zn_le (by
     have:=Nat.gcd_le_right z.natAbs (show 0<d.natAbs by omega)
     exact this)
    simp only[vx,T,seval,ZV];refine Cg (iOne_spec (Int.gcd z d) (by omega)) ?_;simp only[vx,T,seval];refine vb ?_;rw[decide_eq_true h3];rfl
   rw[hs]at h3;simp only[vx,T,seval];refine vb ?_;rw[decide_eq_false h3];rfl
  simp only[vx,T,seval];refine vb ?_;unfold okQ;rw[h1,h2];rfl
 simp only[vx,T,seval];refine vb ?_;unfold okQ;rw[h1];rfl
theorem iOne0_spec:Pr Tryz.prog 170 [] (ZV 1):=by
 refine pw Tryz.func170 ⟨[0],[]⟩ ?_;simp only[Tryz.f170,Tryz.ntmps170,iz,seval];simp only[vx,T,seval,ZV];refine Cg (iFromInt_spec 1 (by omega) (by omega)) ?_;simp only[vx,T,seval,ZV];refine Va ?_;simp only[vLe,vLeL,ry,seval,ZV]
theorem iQuo_spec (a b:Int)(ha:zn a<2^40)(hb:zn b<2^40)(h0:b≠0):Pr Tryz.prog 337 [ZV a,ZV b] (ZV (a.fdiv b)):=by
 refine pw Tryz.func337 ⟨[0,1,2,3,4,5,9],[]⟩ ?_;simp only[Tryz.f337,Tryz.ntmps337,iz,seval];simp only[vx,T,seval,ZV];refine Cg (iOne_spec b (by omega)) ?_;simp only[vx,T,seval,ZV];refine⟨fun h1=>Lg ?_,fun h1=>Lg ?_⟩
 ·subst h1;simp only[vx,T,seval,ZV];rw[fdiv_one];refine Va ?_;simp only[vLe,vLeL,ry,seval,ZV]
 simp only[vx,T,seval,ZV];refine Cg (iDivMod_spec a b (by omega) (by omega) h0) ?_;simp only[vx,T,seval,ZV];refine Va ?_;simp only[vLe,vLeL,ry,seval,ZV]
theorem rQuo_spec (a b:Int)(ha:zn a<2^40)(hb:zn b<2^40)(h0:b≠0):Pr Tryz.prog 225 [ZV a,ZV b] (ZV (a.fdiv b)):=by
 refine pw Tryz.func225 ⟨[0,1,2,3,4,5],[]⟩ ?_;simp only[Tryz.f225,Tryz.ntmps225,iz,seval];simp only[vx,T,seval,ZV];refine Cg (rDivMod_spec a b (by omega) (by omega) h0) ?_;simp only[vx,T,seval,ZV];refine Va ?_;simp only[vLe,vLeL,ry,seval,ZV]
theorem iLowest_spec (n:Int)(d:Nat)(hn:zn n<2^40)(hd:nl d<2^40)(h0:0<d):Pr Tryz.prog 295 [ZV n,ZV (d:Int)] (QV (mkRat n d)):=by
 have hg:(0:Int)<(Int.gcd n d:Nat):=by have:=gcd_pos (n:=n) h0;omega
 have hgn:zn (Int.gcd n d)≤nl d:=zn_le (b:=(d:Int)) (by
  have:=Nat.gcd_le_right n.natAbs (show 0<(d:Int).natAbs by omega)
  exact this)
 have hzd:zs (d:Int)=false:=zs_false.2 (by omega);refine pw Tryz.func295 ⟨[0,1,2,3,4,5,10],[]⟩ ?_;simp only[Tryz.f295,Tryz.ntmps295,iz,seval];simp only[vx,T,seval,ZV];refine Cg (iGCD_spec n d (by omega) (by rw[zn_nat];omega)) ?_;simp only[vx,T,seval,ZV];refine⟨fun h=>(by rw[hzd]at h;cases h),fun _=>Lg ?_⟩;simp only[vx,T,seval,ZV];refine Cg (iQuo_spec n (Int.gcd n d) (by omega) (by omega) (by omega)) ?_;rw[mk_num h0];simp only[vx,T,seval,ZV];refine Cg (iQuo_spec d (Int.gcd n d) (by rw[zn_nat];omega) (by omega) (by omega)) ?_;rw[mk_den h0];simp only[vx,T,seval,ZV];refine Va ?_;simp only[vLe,vLeL,ry,seval,QV,QC]
theorem iQFromInt_spec (z:Int)(h1: -9223372036854775808≤z)(h2:z≤9223372036854775807):Pr Tryz.prog 105 [.one (.int .i64 z)] (QV (Rat.ofInt z)):=by
 refine pw Tryz.func105 ⟨[0,2],[]⟩ ?_;simp only[Tryz.f105,Tryz.ntmps105,iz,seval];simp only[vx,T,seval,QV,QC];refine Cg (iFromInt_spec z h1 h2) ?_;simp only[vx,T,seval,ZV];refine Cg iOne0_spec ?_;simp only[vx,T,seval,ZV];refine Va ?_;simp only[vLe,vLeL,ry,seval,Rat.ofInt_num,Rat.ofInt_den,X3]
theorem rQFromInt_spec (z:Int)(h1: -9223372036854775808≤z)(h2:z≤9223372036854775807):Pr Tryz.prog 21 [.one (.int .i64 z)] (QV (Rat.ofInt z)):=by
 refine pw Tryz.func21 ⟨[0,2],[]⟩ ?_;simp only[Tryz.f21,Tryz.ntmps21,iz,seval];simp only[vx,T,seval,QV,QC];refine Cg (rFromInt_spec z h1 h2) ?_;simp only[vx,T,seval,ZV];refine Cg (rFromInt_spec 1 (by omega) (by omega)) ?_;simp only[vx,T,seval,ZV];refine Va ?_;simp only[vLe,vLeL,ry,seval,Rat.ofInt_num,Rat.ofInt_den,X3]
theorem iQSign_spec (q:Rat)(hq:qm q<2^40):Pr Tryz.prog 191 [QV q] (.one (.int .i64 (sgn q.num))):=by
 unfold qm at hq;refine pw Tryz.func191 ⟨[0,1,2],[]⟩ ?_;simp only[Tryz.f191,Tryz.ntmps191,iz,seval];simp only[vx,T,seval,QV,QC];refine Cg (iSign_spec q.num (by omega)) ?_;simp only[vx,T,seval,ZV];exact Ve rfl
theorem rQSign_spec (q:Rat)(hq:qm q<2^40):Pr Tryz.prog 284 [QV q] (.one (.int .i64 (sgn q.num))):=by
 unfold qm at hq;refine pw Tryz.func284 ⟨[0,1,2],[]⟩ ?_;simp only[Tryz.f284,Tryz.ntmps284,iz,seval];simp only[vx,T,seval,QV,QC];refine Cg (rSign_spec q.num (by omega)) ?_;simp only[vx,T,seval,ZV];exact Ve rfl
end Go.Proofs.YtcdijplheindaaaGreat
set_option maxHeartbeats 2000000
namespace Go.Proofs.YtcdijplheindaaaGreat
open Go Go.Eng
theorem fdiv_nat (a g:Nat):(a:Int).fdiv (g:Int)=((a/g:Nat):Int):=by
 rw[Int.fdiv_eq_ediv_of_nonneg _ (by omega)];rfl
theorem zn_fdiv (n:Int)(g:Nat):zn (n.fdiv g)≤zn n:=by
 rw[Int.fdiv_eq_ediv_of_nonneg _ (by omega)];exact zn_le (Int.natAbs_ediv_le_natAbs _ _)
theorem zm_len0 {z:Int}(h:((zm z).length:Int)=0):z=0:=zn_eq_zero.1 (by rw[zm_length]at h;omega)
theorem ofInt0:Rat.ofInt 0=0:=rfl
theorem iQMul_spec (a b:Rat)(ha:qm a<2^38)(hb:qm b<2^38):Pr Tryz.prog 270 [QV a,QV b] (QV (a*b)):=by
 have m1:=zn_mul a.num b.num;have m2:=nl_mul a.den b.den;have m3:=zn_mul a.num b.den;have m4:=zn_mul b.num a.den;have m5:=zn_add (a.num*b.den) (b.num*a.den);have n1:=zn_nat a.den;have n2:=zn_nat b.den;have p1:=a.den_pos;have p2:=b.den_pos;have p3:=Nat.mul_pos p1 p2;unfold qm at ha hb;refine pw Tryz.func270 ⟨[0,1,2,3,4,12],[]⟩ ?_;simp only[Tryz.f270,Tryz.ntmps270,iz,seval];simp only[vx,T,seval,QV,QC];refine Cg (iOne_spec a.den (by omega)) ?_;simp only[vx,T,seval,ZV];refine⟨fun h1=>Lg ?_,fun h1=>Lg ?_⟩
 ·simp only[vx,T,seval,ZV];refine Cg (iOne_spec b.den (by omega)) ?_;simp only[vx,T,seval,ZV];refine⟨fun h2=>Lg ?_,fun h2=>Lg ?_⟩
  ·obtain⟨k1,k2⟩:=mul_one' (a:=a) (b:=b) (by omega) (by omega);simp only[vx,T,seval,ZV];refine Cg (iMul_spec a.num b.num (by omega) (by omega)) ?_;simp only[vx,T,seval,ZV];refine Cg iOne0_spec ?_;simp only[vx,T,seval,ZV];rw[k1,k2];refine Va ?_;simp only[vLe,vLeL,ry,seval,X3]
  simp only[vx,T,seval,ZV];refine Cg (iMul_spec a.num b.num (by omega) (by omega)) ?_;simp only[vx,T,seval,ZV];refine Cg (iMul_spec a.den b.den (by omega) (by omega)) ?_;rw[←Q2];simp only[vx,T,seval,ZV];refine Cg (iLowest_spec (a.num*b.num) (a.den*b.den) (by omega) (by omega) p3) ?_;rw[←Rat.mul_def'];simp only[vx,T,seval,QV,QC];refine Va ?_;simp only[vLe,vLeL,ry,seval]
 simp only[vx,T,seval,ZV];refine Cg (iMul_spec a.num b.num (by omega) (by omega)) ?_;simp only[vx,T,seval,ZV];refine Cg (iMul_spec a.den b.den (by omega) (by omega)) ?_;rw[←Q2];simp only[vx,T,seval,ZV];refine Cg (iLowest_spec (a.num*b.num) (a.den*b.den) (by omega) (by omega) p3) ?_;rw[←Rat.mul_def'];simp only[vx,T,seval,QV,QC];refine Va ?_;simp only[vLe,vLeL,ry,seval]
theorem iQAdd_spec (a b:Rat)(ha:qm a<2^38)(hb:qm b<2^38):Pr Tryz.prog 250 [QV a,QV b] (QV (a+b)):=by
 have m1:=zn_mul a.num b.num;have m2:=nl_mul a.den b.den;have m3:=zn_mul a.num b.den;have m4:=zn_mul b.num a.den;have m5:=zn_add (a.num*b.den) (b.num*a.den);have n1:=zn_nat a.den;have n2:=zn_nat b.den;have p1:=a.den_pos;have p2:=b.den_pos;have p3:=Nat.mul_pos p1 p2;unfold qm at ha hb;refine pw Tryz.func250 ⟨[0,1,2,3,4,5,13],[]⟩ ?_;simp only[Tryz.f250,Tryz.ntmps250,iz,seval];simp only[vx,T,seval,QV,QC];refine Cg (iOne_spec a.den (by omega)) ?_;simp only[vx,T,seval,ZV];refine⟨fun h1=>Lg ?_,fun h1=>Lg ?_⟩
 ·simp only[vx,T,seval,ZV];refine Cg (iOne_spec b.den (by omega)) ?_;simp only[vx,T,seval,ZV];refine⟨fun h2=>Lg ?_,fun h2=>Lg ?_⟩
  ·obtain⟨k1,k2⟩:=add_one (a:=a) (b:=b) (by omega) (by omega);simp only[vx,T,seval,ZV];refine Cg (iAdd_spec a.num b.num (by omega) (by omega)) ?_;simp only[vx,T,seval,ZV];refine Cg iOne0_spec ?_;simp only[vx,T,seval,ZV];rw[k1,k2];refine Va ?_;simp only[vLe,vLeL,ry,seval,X3]
  simp only[vx,T,seval,ZV];refine Cg (iMul_spec a.num b.den (by omega) (by omega)) ?_;simp only[vx,T,seval,ZV];refine Cg (iMul_spec b.num a.den (by omega) (by omega)) ?_;simp only[vx,T,seval,ZV];refine Cg (iAdd_spec (a.num*b.den) (b.num*a.den) (by omega) (by omega)) ?_;simp only[vx,T,seval,ZV];refine Cg (iMul_spec a.den b.den (by omega) (by omega)) ?_;rw[←Q2];simp only[vx,T,seval,ZV];refine Cg (iLowest_spec (a.num*b.den+b.num*a.den) (a.den*b.den) (by omega) (by omega) p3) ?_;rw[←Rat.add_def'];simp only[vx,T,seval,QV,QC];refine Va ?_;simp only[vLe,vLeL,ry,seval]
 simp only[vx,T,seval,ZV];refine Cg (iMul_spec a.num b.den (by omega) (by omega)) ?_;simp only[vx,T,seval,ZV];refine Cg (iMul_spec b.num a.den (by omega) (by omega)) ?_;simp only[vx,T,seval,ZV];refine Cg (iAdd_spec (a.num*b.den) (b.num*a.den) (by omega) (by omega)) ?_;simp only[vx,T,seval,ZV];refine Cg (iMul_spec a.den b.den (by omega) (by omega)) ?_;rw[←Q2];simp only[vx,T,seval,ZV];refine Cg (iLowest_spec (a.num*b.den+b.num*a.den) (a.den*b.den) (by omega) (by omega) p3) ?_;rw[←Rat.add_def'];simp only[vx,T,seval,QV,QC];refine Va ?_;simp only[vLe,vLeL,ry,seval]
theorem rQMul_spec (a b:Rat)(ha:qm a<2^38)(hb:qm b<2^38):Pr Tryz.prog 279 [QV a,QV b] (QV (a*b)):=by
 have m1:=zn_mul a.num b.num;have m2:=nl_mul a.den b.den;have m3:=zn_mul a.num b.den;have m4:=zn_mul b.num a.den;have m5:=zn_add (a.num*b.den) (b.num*a.den);have n1:=zn_nat a.den;have n2:=zn_nat b.den;have p1:=a.den_pos;have p2:=b.den_pos;have p3:=Nat.mul_pos p1 p2;unfold qm at ha hb;obtain⟨g,hg⟩:∃g,g=a.num.natAbs.gcd b.den:=⟨_,rfl⟩;obtain⟨h,hh⟩:∃h,h=b.num.natAbs.gcd a.den:=⟨_,rfl⟩;have eg:Int.gcd a.num b.den=g:=by rw[hg];rfl
 have eh:Int.gcd b.num a.den=h:=by rw[hh];rfl
 have g0:0<g:=by rw[hg];exact Nat.gcd_pos_of_pos_right _ p2
 have h0:0<h:=by rw[hh];exact Nat.gcd_pos_of_pos_right _ p1
 have gl:nl g≤nl b.den:=by rw[hg];exact nl_mono (Nat.gcd_le_right _ p2)
 have hl:nl h≤nl a.den:=by rw[hh];exact nl_mono (Nat.gcd_le_right _ p1)
 have dl:nl (a.den/h)≤nl a.den:=nl_mono (Nat.div_le_self _ _);have dl2:nl (b.den/g)≤nl b.den:=nl_mono (Nat.div_le_self _ _);obtain⟨k1,k2⟩:=mul_gen a b hg hh;refine pw Tryz.func279 ⟨[0,1,2,3,4,5,6,18,27],[]⟩ ?_;simp only[Tryz.f279,Tryz.ntmps279,iz,seval];simp only[vx,T,seval,QV,QC];refine⟨fun h1=>Lg ?_,fun h1=>Lg ?_⟩
 ·have ez:a*b=0:=by rw[Rat.num_eq_zero.1 (zm_len0 h1),Rat.zero_mul]
  simp only[vx,T,seval,ZV];refine Cg (rQFromInt_spec 0 (by omega) (by omega)) ?_;rw[ez,←ofInt0];simp only[vx,T,seval,QV,QC];refine Va ?_;simp only[vLe,vLeL,ry,seval]
 simp only[vx,T,seval,ZV];refine⟨fun h2=>Lg ?_,fun h2=>Lg ?_⟩
 ·have ez:a*b=0:=by rw[Rat.num_eq_zero.1 (zm_len0 h2),Rat.mul_zero]
  simp only[vx,T,seval,ZV];refine Cg (rQFromInt_spec 0 (by omega) (by omega)) ?_;rw[ez,←ofInt0];simp only[vx,T,seval,QV,QC];refine Va ?_;simp only[vLe,vLeL,ry,seval]
 simp only[vx,T,seval,ZV];refine Cg (rOne_spec a.den (by omega)) ?_;simp only[vx,T,seval,ZV];refine⟨fun h3=>Lg ?_,fun h3=>Lg ?_⟩
 ·simp only[vx,T,seval,ZV];refine Cg (rOne_spec b.den (by omega)) ?_;simp only[vx,T,seval,ZV];refine⟨fun h4=>Lg ?_,fun h4=>Lg ?_⟩
  ·obtain⟨k1,k2⟩:=mul_one' (a:=a) (b:=b) (by omega) (by omega);simp only[vx,T,seval,ZV];refine Cg (rMul_spec a.num b.num (by omega) (by omega)) ?_;simp only[vx,T,seval,ZV];rw[k1,k2,h3];refine Va ?_;simp only[vLe,vLeL,ry,seval,X3]
  simp only[vx,T,seval,ZV];have hw1:zn (a.num.fdiv g)≤zn a.num:=zn_fdiv _ _;have hw2:zn (b.num.fdiv h)≤zn b.num:=zn_fdiv _ _;refine Cg (rGCD_spec a.num b.den (by omega) (by omega)) ?_;rw[eg];simp only[vx,T,seval,ZV];refine Cg (rGCD_spec b.num a.den (by omega) (by omega)) ?_;rw[eh];simp only[vx,T,seval,ZV];refine Cg (rQuo_spec a.num g (by omega) (by rw[zn_nat];omega) (by omega)) ?_;simp only[vx,T,seval,ZV];refine Cg (rQuo_spec b.num h (by omega) (by rw[zn_nat];omega) (by omega)) ?_;simp only[vx,T,seval,ZV];refine Cg (rMul_spec (a.num.fdiv g) (b.num.fdiv h) (by omega) (by omega)) ?_;rw[k1];simp only[vx,T,seval,ZV];refine Cg (rQuo_spec a.den h (by omega) (by rw[zn_nat];omega) (by omega)) ?_;rw[fdiv_nat];simp only[vx,T,seval,ZV];refine Cg (rQuo_spec b.den g (by omega) (by rw[zn_nat];omega) (by omega)) ?_;rw[fdiv_nat];simp only[vx,T,seval,ZV];refine Cg (rMul_spec ((a.den/h:Nat):Int) ((b.den/g:Nat):Int) (by rw[zn_nat];omega) (by rw[zn_nat];omega)) ?_;rw[←Q2,k2];simp only[vx,T,seval,ZV];refine Va ?_;simp only[vLe,vLeL,ry,seval]
 simp only[vx,T,seval,ZV];have hw1:zn (a.num.fdiv g)≤zn a.num:=zn_fdiv _ _;have hw2:zn (b.num.fdiv h)≤zn b.num:=zn_fdiv _ _;refine Cg (rGCD_spec a.num b.den (by omega) (by omega)) ?_;rw[eg];simp only[vx,T,seval,ZV];refine Cg (rGCD_spec b.num a.den (by omega) (by omega)) ?_;rw[eh];simp only[vx,T,seval,ZV];refine Cg (rQuo_spec a.num g (by omega) (by rw[zn_nat];omega) (by omega)) ?_;simp only[vx,T,seval,ZV];refine Cg (rQuo_spec b.num h (by omega) (by rw[zn_nat];omega) (by omega)) ?_;simp only[vx,T,seval,ZV];refine Cg (rMul_spec (a.num.fdiv g) (b.num.fdiv h) (by omega) (by omega)) ?_;rw[k1];simp only[vx,T,seval,ZV];refine Cg (rQuo_spec a.den h (by omega) (by rw[zn_nat];omega) (by omega)) ?_;rw[fdiv_nat];simp only[vx,T,seval,ZV];refine Cg (rQuo_spec b.den g (by omega) (by rw[zn_nat];omega) (by omega)) ?_;rw[fdiv_nat];simp only[vx,T,seval,ZV];refine Cg (rMul_spec ((a.den/h:Nat):Int) ((b.den/g:Nat):Int) (by rw[zn_nat];omega) (by rw[zn_nat];omega)) ?_;rw[←Q2,k2];simp only[vx,T,seval,ZV];refine Va ?_;simp only[vLe,vLeL,ry,seval]
theorem rQAdd_spec (a b:Rat)(ha:qm a<2^38)(hb:qm b<2^38):Pr Tryz.prog 278 [QV a,QV b] (QV (a+b)):=by
 have m1:=zn_mul a.num b.num;have m2:=nl_mul a.den b.den;have m3:=zn_mul a.num b.den;have m4:=zn_mul b.num a.den;have m5:=zn_add (a.num*b.den) (b.num*a.den);have n1:=zn_nat a.den;have n2:=zn_nat b.den;have p1:=a.den_pos;have p2:=b.den_pos;have p3:=Nat.mul_pos p1 p2;unfold qm at ha hb;obtain⟨g,hg⟩:∃g,g=a.den.gcd b.den:=⟨_,rfl⟩;have eg:Int.gcd (a.den:Int) b.den=g:=by rw[hg];rfl
 have g0:0<g:=by rw[hg];exact Nat.gcd_pos_of_pos_right _ p2
 have gl:nl g≤nl b.den:=by rw[hg];exact nl_mono (Nat.gcd_le_right _ p2)
 obtain⟨num,hn⟩:∃num,num=a.num*((b.den/g:Nat):Int)+b.num*((a.den/g:Nat):Int):=⟨_,rfl⟩;obtain⟨h,hh⟩:∃h,h=num.natAbs.gcd g:=⟨_,rfl⟩;have eh:Int.gcd num g=h:=by rw[hh];rfl
 have h0:0<h:=by rw[hh];exact Nat.gcd_pos_of_pos_right _ g0
 have hl:nl h≤nl g:=by rw[hh];exact nl_mono (Nat.gcd_le_right _ g0)
 have dl:nl (a.den/g)≤nl a.den:=nl_mono (Nat.div_le_self _ _);have dl2:nl (b.den/g)≤nl b.den:=nl_mono (Nat.div_le_self _ _);have dl3:nl (b.den/h)≤nl b.den:=nl_mono (Nat.div_le_self _ _);have w1:=zn_mul a.num ((b.den/g:Nat):Int);have w2:=zn_mul b.num ((a.den/g:Nat):Int);have w3:=zn_add (a.num*((b.den/g:Nat):Int)) (b.num*((a.den/g:Nat):Int));rw[zn_nat]at w1 w2;rw[←hn]at w3;have w4:zn (num.fdiv h)≤zn num:=zn_fdiv _ _;obtain⟨k1,k2⟩:=add_gen hg hn hh;refine pw Tryz.func278 ⟨[0,1,2,3,4,5,6,7,8,9,10,15,21,30,45],[]⟩ ?_;simp only[Tryz.f278,Tryz.ntmps278,iz,seval];simp only[vx,T,seval,QV,QC];refine⟨fun h1=>Lg ?_,fun h1=>Lg ?_⟩
 ·have ez:a+b=b:=by rw[Rat.num_eq_zero.1 (zm_len0 h1),Rat.zero_add]
  simp only[vx,T,seval,ZV];rw[ez];refine Va ?_;simp only[vLe,vLeL,ry,seval]
 simp only[vx,T,seval,ZV];refine⟨fun h2=>Lg ?_,fun h2=>Lg ?_⟩
 ·have ez:a+b=a:=by rw[Rat.num_eq_zero.1 (zm_len0 h2),Rat.add_zero]
  simp only[vx,T,seval,ZV];rw[ez];refine Va ?_;simp only[vLe,vLeL,ry,seval]
 simp only[vx,T,seval,ZV];refine Cg (rOne_spec a.den (by omega)) ?_;simp only[vx,T,seval,ZV];refine⟨fun h3=>Lg ?_,fun h3=>Lg ?_⟩
 ·simp only[vx,T,seval,ZV];refine Cg (rOne_spec b.den (by omega)) ?_;simp only[vx,T,seval,ZV];refine⟨fun h4=>Lg ?_,fun h4=>Lg ?_⟩
  ·obtain⟨k1,k2⟩:=add_one (a:=a) (b:=b) (by omega) (by omega);simp only[vx,T,seval,ZV];refine Cg (rAdd_spec a.num b.num (by omega) (by omega)) ?_;simp only[vx,T,seval,ZV];rw[k1,k2,h3];refine Va ?_;simp only[vLe,vLeL,ry,seval,X3]
  simp only[vx,T,seval,ZV];refine Cg (rGCD_spec a.den b.den (by omega) (by omega)) ?_;rw[eg];simp only[vx,T,seval,ZV];refine Cg (rOne_spec g (by rw[zn_nat];omega)) ?_;simp only[vx,T,seval,ZV];refine⟨fun h5=>Lg ?_,fun h5=>Lg ?_⟩
  ·obtain⟨k3,k4⟩:=add_cop (a:=a) (b:=b) (by rw[←hg];omega);simp only[vx,T,seval,ZV];refine Cg (rMul_spec a.num b.den (by omega) (by omega)) ?_;simp only[vx,T,seval,ZV];refine Cg (rMul_spec b.num a.den (by omega) (by omega)) ?_;simp only[vx,T,seval,ZV];refine Cg (rAdd_spec (a.num*b.den) (b.num*a.den) (by omega) (by omega)) ?_;simp only[vx,T,seval,ZV];refine Cg (rMul_spec a.den b.den (by omega) (by omega)) ?_;simp only[vx,T,seval,ZV];rw[k3,k4,Q2];refine Va ?_;simp only[vLe,vLeL,ry,seval]
  simp only[vx,T,seval,ZV];refine Cg (rQuo_spec a.den g (by omega) (by rw[zn_nat];omega) (by omega)) ?_;rw[fdiv_nat];simp only[vx,T,seval,ZV];refine Cg (rQuo_spec b.den g (by omega) (by rw[zn_nat];omega) (by omega)) ?_;rw[fdiv_nat];simp only[vx,T,seval,ZV];refine Cg (rMul_spec a.num ((b.den/g:Nat):Int) (by omega) (by rw[zn_nat];omega)) ?_;simp only[vx,T,seval,ZV];refine Cg (rMul_spec b.num ((a.den/g:Nat):Int) (by omega) (by rw[zn_nat];omega)) ?_;simp only[vx,T,seval,ZV];refine Cg (rAdd_spec _ _ (Nat.lt_of_le_of_lt w1 (by omega)) (Nat.lt_of_le_of_lt w2 (by omega))) ?_;rw[←hn];simp only[vx,T,seval,ZV];refine Cg (rGCD_spec num g (by omega) (by rw[zn_nat];omega)) ?_;rw[eh];simp only[vx,T,seval,ZV];refine Cg (rQuo_spec num h (by omega) (by rw[zn_nat];omega) (by omega)) ?_;rw[k1];simp only[vx,T,seval,ZV];refine Cg (rQuo_spec b.den h (by omega) (by rw[zn_nat];omega) (by omega)) ?_;rw[fdiv_nat];simp only[vx,T,seval,ZV];refine Cg (rMul_spec ((a.den/g:Nat):Int) ((b.den/h:Nat):Int) (by rw[zn_nat];omega) (by rw[zn_nat];omega)) ?_;rw[←Q2,k2];simp only[vx,T,seval,ZV];refine Va ?_;simp only[vLe,vLeL,ry,seval]
 simp only[vx,T,seval,ZV];refine Cg (rGCD_spec a.den b.den (by omega) (by omega)) ?_;rw[eg];simp only[vx,T,seval,ZV];refine Cg (rOne_spec g (by rw[zn_nat];omega)) ?_;simp only[vx,T,seval,ZV];refine⟨fun h5=>Lg ?_,fun h5=>Lg ?_⟩
 ·obtain⟨k3,k4⟩:=add_cop (a:=a) (b:=b) (by rw[←hg];omega);simp only[vx,T,seval,ZV];refine Cg (rMul_spec a.num b.den (by omega) (by omega)) ?_;simp only[vx,T,seval,ZV];refine Cg (rMul_spec b.num a.den (by omega) (by omega)) ?_;simp only[vx,T,seval,ZV];refine Cg (rAdd_spec (a.num*b.den) (b.num*a.den) (by omega) (by omega)) ?_;simp only[vx,T,seval,ZV];refine Cg (rMul_spec a.den b.den (by omega) (by omega)) ?_;simp only[vx,T,seval,ZV];rw[k3,k4,Q2];refine Va ?_;simp only[vLe,vLeL,ry,seval]
 simp only[vx,T,seval,ZV];refine Cg (rQuo_spec a.den g (by omega) (by rw[zn_nat];omega) (by omega)) ?_;rw[fdiv_nat];simp only[vx,T,seval,ZV];refine Cg (rQuo_spec b.den g (by omega) (by rw[zn_nat];omega) (by omega)) ?_;rw[fdiv_nat];simp only[vx,T,seval,ZV];refine Cg (rMul_spec a.num ((b.den/g:Nat):Int) (by omega) (by rw[zn_nat];omega)) ?_;simp only[vx,T,seval,ZV];refine Cg (rMul_spec b.num ((a.den/g:Nat):Int) (by omega) (by rw[zn_nat];omega)) ?_;simp only[vx,T,seval,ZV];refine Cg (rAdd_spec _ _ (Nat.lt_of_le_of_lt w1 (by omega)) (Nat.lt_of_le_of_lt w2 (by omega))) ?_;rw[←hn];simp only[vx,T,seval,ZV];refine Cg (rGCD_spec num g (by omega) (by rw[zn_nat];omega)) ?_;rw[eh];simp only[vx,T,seval,ZV];refine Cg (rQuo_spec num h (by omega) (by rw[zn_nat];omega) (by omega)) ?_;rw[k1];simp only[vx,T,seval,ZV];refine Cg (rQuo_spec b.den h (by omega) (by rw[zn_nat];omega) (by omega)) ?_;rw[fdiv_nat];simp only[vx,T,seval,ZV];refine Cg (rMul_spec ((a.den/g:Nat):Int) ((b.den/h:Nat):Int) (by rw[zn_nat];omega) (by rw[zn_nat];omega)) ?_;rw[←Q2,k2];simp only[vx,T,seval,ZV];refine Va ?_;simp only[vLe,vLeL,ry,seval]
end Go.Proofs.YtcdijplheindaaaGreat
namespace Go.Eng
open Go
def VLeN (x y:V):Prop:=∀ok w v,RepV1 loc0 dom0 ok w x v→RepV1 loc0 dom0 ok w y v
theorem VLeN.refl (x:V):VLeN x x:=fun _ _ _ h=>h
def VLeA:List V→List V→Prop
 |[],[]=>True
 |x::xs,y::ys=>VLeN x y∧VLeA xs ys
 |_,_=>False
theorem VLeA.rep {ok:Nat→Prop}{w:World}:∀{xs ys:List V} {vs:List Value},VLeA xs ys→RepVL loc0 dom0 ok w xs vs→RepVL loc0 dom0 ok w ys vs
 |[],[],_,_,h=>h
 |x::xs,y::ys,[],_,h=>h.elim
 |x::xs,y::ys,v::vs,ha,h=>⟨ha.1 ok w v h.1,VLeA.rep ha.2 h.2⟩
 |[],_::_,_,ha,_=>ha.elim
 |_::_,[],_,ha,_=>ha.elim
theorem Pr.args {P:Program}{f:FuncId}{xs ys:List V}{r:V}(h:Pr P f ys r)(ha:VLeA xs ys):Pr P f xs r:=
 ⟨h.1,fun ok w vs hok hvs=>h.2 ok w vs hok (ha.rep hvs)⟩
def CLe (c c':C):Prop:=∀ok w v,RepI ok w c v→RepI ok w c' v
theorem CLe.refl (c:C):CLe c c:=fun _ _ _ h=>h
theorem CLe.of_eq {c c':C}(h:c=c'):CLe c c':=h▸CLe.refl c
theorem CLe.nil_rows (wd:Nat)(f:Nat→Nat→C):CLe .nil (.rows wd 0 f):=fun ok w v h=>⟨none,0,h,O1 _,.inl rfl⟩
theorem CLe.rows {wd n n':Nat}{f g:Nat→Nat→C}(hn:n=n')(h:∀i j,i<n→j<wd→CLe (f i j) (g i j)):CLe (.rows wd n f) (.rows wd n' g):=by
 subst hn;rintro ok w v ⟨a,cap,hv,hle,hr⟩;refine⟨a,cap,hv,hle,?_⟩
 rcases hr with hr|⟨b,o,ha,hg,hcs⟩
 ·exact .inl hr
 refine .inr ⟨b,o,ha,hg,fun i j hi hj=>?_⟩;obtain⟨u,hu,hr⟩:=hcs i j hi hj;exact⟨u,hu,h i j hi hj ok w u hr⟩
theorem VLeN.cell {c c':C}(h:CLe c c'):VLeN (.one c) (.one c'):=fun ok w v hr=>RepC.of_repI (h ok w v (RepI.of_loc0 hr))
theorem Pr.arg1c {P:Program}{f:FuncId}{x y:C}{r:V}(h:Pr P f [.one y] r)(ha:CLe x y):Pr P f [.one x] r:=
 h.args ⟨.cell ha,trivial⟩
theorem Pr.res {P:Program}{f:FuncId}{xs:List V}{r r':V}(h:Pr P f xs r)(hr:VLe r r'):Pr P f xs r':=
 ⟨h.1,fun ok w vs hok hvs=>Calls.mono (h.2 ok w vs hok hvs) fun _ _ ⟨v,he,hb,hv⟩=>⟨v,he,hb,hr _ _ _ hv⟩⟩
theorem Mc.pre {P:Program}{f:FuncId}{args:List V}{e:TypeId}{wd n:Nat}{g g':Nat→Nat→C}{R:V→Bk→Prop}(h:Mc P f args (.rows e wd n g) R)
  (hg:∀i j,i<n→j<wd→CLe (g' i j) (g i j)):Mc P f args (.rows e wd n g') R:=by
 refine⟨h.1,fun ok w vs l hok hl ha hb hvs=>h.2 ok w vs l hok hl ha ?_ hvs⟩;unfold RepBk at hb⊢
 cases hla:l.addr with
 |none=>
  rw[hla]at hb;intro j
  have:=hb j
  simp only[Bk.cell]at this⊢
  split at this
  ·cases this
  rename_i hj;rw[if_neg hj]
 |some x=>
  obtain⟨b,o⟩:=x;rw[hla]at hb;obtain⟨cur,e',hg',hc⟩:=hb;refine⟨cur,e',hg',fun j c hj=>?_⟩;simp only[Bk.cell]at hj hc
  split at hj
  ·rename_i hjl
   obtain⟨u,hu,hr⟩:=hc j (g' (j/wd) (j%wd)) (if_pos hjl);obtain rfl:=Option.some.inj hj;have h0:0<wd:=by
    rcases Nat.eq_zero_or_pos wd with h0|h0
    ·subst h0;omega
    exact h0
   exact⟨u,hu,hg _ _ ((Nat.div_lt_iff_lt_mul h0).2 hjl) (Nat.mod_lt _ h0) _ _ _ hr⟩
  cases hj
end Go.Eng
set_option maxHeartbeats 2000000
namespace Go.Proofs.YtcdijplheindaaaGreat
open Go Go.Eng
def qC (q:Rat):Nat→C
 |0=>.bool (zs q.num)
 |1=>.ints .u32 (zm q.num)
 |2=>.bool (zs (q.den:Int))
 |3=>.ints .u32 (zm (q.den:Int))
 |_=>.any
def QsC (l:List Rat):C:=.rows 4 l.length (fun i=>qC (l.getD i default))
def tC (h:Nat)(t:List (List Rat)):C:=.rows 1 h (fun i _=>QsC (t.getD i []))
def tV (h:Nat)(t:List (List Rat)):V:=.one (tC h t)
def eV (a:List Rat):V:=.one (QsC a)
end Go.Proofs.YtcdijplheindaaaGreat
namespace Go.Re
def Nr (x e:Rat):Prop:= -e<x∧x<e
theorem Nr.mono {x e f:Rat}(h:Nr x e)(hf:e≤f):Nr x f:=by unfold Nr at*;grind
theorem Nr.add {x y e f:Rat}(h:Nr x e)(k:Nr y f):Nr (x+y) (e+f):=by unfold Nr at*;grind
theorem Nr.neg {x e:Rat}(h:Nr x e):Nr (-x) e:=by unfold Nr at*;grind
theorem Nr.sub {x y e f:Rat}(h:Nr x e)(k:Nr y f):Nr (x-y) (e+f):=by unfold Nr at*;grind
theorem Nr.symm {x y e:Rat}(h:Nr (x-y) e):Nr (y-x) e:=by unfold Nr at*;grind
theorem Nr.mul {x y e f:Rat}(h:Nr x e)(k:Nr y f):Nr (x*y) (e*f):=by
 unfold Nr at*
 have a:=Rat.mul_pos (a:=e-x) (b:=f-y) (by grind) (by grind);have b:=Rat.mul_pos (a:=e+x) (b:=f+y) (by grind) (by grind);have c:=Rat.mul_pos (a:=e-x) (b:=f+y) (by grind) (by grind);have d:=Rat.mul_pos (a:=e+x) (b:=f-y) (by grind) (by grind)
 constructor<;>grind
theorem half_pos {e:Rat}(h:0<e):0<e/2:=by grind
theorem div_pos {a b:Rat}(h:0<a)(k:0<b):0<a/b:=by
 rw[Rat.div_def];exact Rat.mul_pos h (Rat.inv_pos.2 k)
theorem div_mul {a b:Rat}(k:0<b):a/b*b=a:=by
 have:b≠0:=by grind
 grind
structure Sq where
 s:Nat→Rat
 h:∀e,0<e→∃N,∀m n,N≤m→N≤n→Nr (s m-s n) e
def eqv (a b:Sq):Prop:=∀e,0<e→∃N,∀n,N≤n→Nr (a.s n-b.s n) e
theorem eqv.refl (a:Sq):eqv a a:=fun e he=>⟨0,fun n _=>by unfold Nr;grind⟩
theorem eqv.symm {a b:Sq}(h:eqv a b):eqv b a:=fun e he=>by
 obtain⟨N,hN⟩:=h e he;exact⟨N,fun n hn=>(hN n hn).symm⟩
theorem eqv.trans {a b c:Sq}(h:eqv a b)(k:eqv b c):eqv a c:=fun e he=>by
 obtain⟨N,hN⟩:=h (e/2) (half_pos he);obtain⟨M,hM⟩:=k (e/2) (half_pos he);refine⟨max N M,fun n hn=>?_⟩;have h1:=hN n (by omega);have h2:=hM n (by omega);unfold Nr at*;grind
instance st:Setoid Sq:=⟨eqv,eqv.refl,eqv.symm,eqv.trans⟩
theorem Sq.bnd (a:Sq):∃B,0<B∧∀n,Nr (a.s n) B:=by
 obtain⟨N,hN⟩:=a.h 1 (by decide);have key:∀k,∃B,0<B∧∀n,n<k→Nr (a.s n) B:=by
  intro k
  induction k with
  |zero=>exact⟨1,by decide,fun n h=>absurd h (O5 _)⟩
  |succ k ih=>
   obtain⟨B,h0,hB⟩:=ih
   by_cases hp:0≤a.s k
   ·refine⟨B+a.s k+1,by grind,fun n hn=>?_⟩
    by_cases hk:n=k
    ·subst hk;unfold Nr;grind
    exact(hB n (by omega)).mono (by grind)
   refine⟨B-a.s k+1,by grind,fun n hn=>?_⟩
   by_cases hk:n=k
   ·subst hk;unfold Nr;grind
   exact(hB n (by omega)).mono (by grind)
 obtain⟨B,h0,hB⟩:=key (N+1);refine⟨B+1,by grind,fun n=>?_⟩
 by_cases hn:n<N+1
 ·exact(hB n hn).mono (by grind)
 have h1:=hN n N (by omega) (O1 _);have h2:=hB N (by omega);unfold Nr at*;grind
def Sq.const (q:Rat):Sq:=⟨fun _=>q,fun e he=>⟨0,fun m n _ _=>by unfold Nr;grind⟩⟩
def Sq.add (a b:Sq):Sq:=⟨fun n=>a.s n+b.s n,fun e he=>by
 obtain⟨N,hN⟩:=a.h (e/2) (half_pos he);obtain⟨M,hM⟩:=b.h (e/2) (half_pos he);refine⟨max N M,fun m n hm hn=>?_⟩;have h1:=hN m n (by omega) (by omega);have h2:=hM m n (by omega) (by omega);unfold Nr at*;grind⟩
def Sq.neg (a:Sq):Sq:=⟨fun n=> -a.s n,fun e he=>by
 obtain⟨N,hN⟩:=a.h e he;refine⟨N,fun m n hm hn=>?_⟩;have h1:=hN m n hm hn;unfold Nr at*;grind⟩
theorem mulNr {a b a' b' A B e:Rat}(hA:0<A)(hB:0<B)(he:0<e)(h1:Nr a A)(h2:Nr b' B)(h3:Nr (a-a') (e/2/B))(h4:Nr (b-b') (e/2/A)):Nr (a*b-a'*b') e:=by
 have k1:=h1.mul h4;have k2:=h3.mul h2;rw[div_mul hB]at k2;rw[Rat.mul_comm A,div_mul hA]at k1
 have:=k1.add k2
 unfold Nr at*;grind
def Sq.mul (a b:Sq):Sq:=⟨fun n=>a.s n*b.s n,fun e he=>by
 obtain⟨A,hA,ha⟩:=a.bnd;obtain⟨B,hB,hb⟩:=b.bnd;obtain⟨N,hN⟩:=a.h (e/2/B) (div_pos (half_pos he) hB);obtain⟨M,hM⟩:=b.h (e/2/A) (div_pos (half_pos he) hA);exact⟨max N M,fun m n hm hn=>mulNr hA hB he (ha m) (hb n) (hN m n (by omega) (by omega)) (hM m n (by omega) (by omega))⟩⟩
theorem eqv_add {a b c d:Sq}(h:eqv a c)(k:eqv b d):eqv (a.add b) (c.add d):=fun e he=>by
 obtain⟨N,hN⟩:=h (e/2) (half_pos he);obtain⟨M,hM⟩:=k (e/2) (half_pos he);refine⟨max N M,fun n hn=>?_⟩;have h1:=hN n (by omega);have h2:=hM n (by omega);show Nr (a.s n+b.s n-(c.s n+d.s n)) e;unfold Nr at*;grind
theorem eqv_neg {a c:Sq}(h:eqv a c):eqv a.neg c.neg:=fun e he=>by
 obtain⟨N,hN⟩:=h e he;refine⟨N,fun n hn=>?_⟩;have h1:=hN n (by omega);show Nr (-a.s n- -c.s n) e;unfold Nr at*;grind
theorem eqv_mul {a b c d:Sq}(h:eqv a c)(k:eqv b d):eqv (a.mul b) (c.mul d):=fun e he=>by
 obtain⟨A,hA,ha⟩:=a.bnd;obtain⟨B,hB,hb⟩:=d.bnd;obtain⟨N,hN⟩:=h (e/2/B) (div_pos (half_pos he) hB);obtain⟨M,hM⟩:=k (e/2/A) (div_pos (half_pos he) hA);exact⟨max N M,fun n hn=>mulNr hA hB he (ha n) (hb n) (hN n (by omega)) (hM n (by omega))⟩
def Sq.pos (a:Sq):Prop:=∃e,0<e∧∃N,∀n,N≤n→e<a.s n
theorem pos_eqv {a b:Sq}(h:eqv a b)(k:a.pos):b.pos:=by
 obtain⟨e,he,N,hN⟩:=k;obtain⟨M,hM⟩:=h (e/2) (half_pos he);refine⟨e/2,half_pos he,max N M,fun n hn=>?_⟩;have h1:=hN n (by omega);have h2:=hM n (by omega);unfold Nr at h2;grind
end Go.Re
def Go.R:Type:=Quotient Go.Re.st
namespace Go.R
open Go.Re
def mk (a:Sq):R:=Quotient.mk st a
theorem ind {p:R→Prop}(h:∀a,p (mk a))(x:R):p x:=Quotient.ind h x
theorem sound {a b:Sq}(h:eqv a b):mk a=mk b:=Quotient.sound (s:=st) h
theorem exact {a b:Sq}(h:mk a=mk b):eqv a b:=Quotient.exact (s:=st) h
theorem pt {a b:Sq}(h:∀n,a.s n=b.s n):mk a=mk b:=sound fun e he=>⟨0,fun n _=>by rw[h n];unfold Nr;grind⟩
def q (x:Rat):R:=mk (Sq.const x)
instance:Add R:=⟨Quotient.lift₂ (s₁:=st) (s₂:=st) (fun a b=>mk (a.add b)) fun _ _ _ _ h k=>sound (eqv_add h k)⟩
instance:Mul R:=⟨Quotient.lift₂ (s₁:=st) (s₂:=st) (fun a b=>mk (a.mul b)) fun _ _ _ _ h k=>sound (eqv_mul h k)⟩
instance:Neg R:=⟨Quotient.lift (s:=st) (fun a=>mk a.neg) fun _ _ h=>sound (eqv_neg h)⟩
instance:Sub R:=⟨fun a b=>a+ -b⟩
def pos (x:R):Prop:=Quotient.lift (s:=st) Sq.pos (fun _ _ h=>propext ⟨pos_eqv h,pos_eqv (eqv.symm h)⟩) x
theorem sub_def (x y:R):x-y=x+ -y:=rfl
end Go.R
namespace Go.R
open Go.Re
theorem add_comm (x y:R):x+y=y+x:=by
 induction x using ind with|h a=>induction y using ind with|h b=>
 exact pt fun n=>Rat.add_comm _ _
theorem add_assoc (x y z:R):x+y+z=x+(y+z):=by
 induction x using ind with|h a=>induction y using ind with|h b=>induction z using ind with|h c=>
 exact pt fun n=>Rat.add_assoc _ _ _
theorem mul_comm (x y:R):x*y=y*x:=by
 induction x using ind with|h a=>induction y using ind with|h b=>
 exact pt fun n=>Rat.mul_comm _ _
theorem mul_assoc (x y z:R):x*y*z=x*(y*z):=by
 induction x using ind with|h a=>induction y using ind with|h b=>induction z using ind with|h c=>
 exact pt fun n=>Rat.mul_assoc _ _ _
theorem mul_add (x y z:R):x*(y+z)=x*y+x*z:=by
 induction x using ind with|h a=>induction y using ind with|h b=>induction z using ind with|h c=>
 exact pt fun n=>Rat.mul_add _ _ _
theorem add_mul (x y z:R):(x+y)*z=x*z+y*z:=by rw[mul_comm,mul_add,mul_comm z,mul_comm z]
theorem add_zero (x:R):x+q 0=x:=by
 induction x using ind with|h a=>exact pt fun n=>Rat.add_zero _
theorem zero_add (x:R):q 0+x=x:=by rw[add_comm,add_zero]
theorem mul_one (x:R):x*q 1=x:=by
 induction x using ind with|h a=>exact pt fun n=>Rat.mul_one _
theorem one_mul (x:R):q 1*x=x:=by rw[mul_comm,mul_one]
theorem mul_zero (x:R):x*q 0=q 0:=by
 induction x using ind with|h a=>exact pt fun n=>Rat.mul_zero _
theorem zero_mul (x:R):q 0*x=q 0:=by rw[mul_comm,mul_zero]
theorem add_neg (x:R):x+ -x=q 0:=by
 induction x using ind with|h a=>exact pt fun n=>Rat.add_neg_cancel _
theorem sub_self (x:R):x-x=q 0:=add_neg x
theorem neg_add (x:R): -x+x=q 0:=by rw[add_comm,add_neg]
theorem neg_mul (x y:R): -x*y= -(x*y):=by
 induction x using ind with|h a=>induction y using ind with|h b=>
 exact pt fun n=>Rat.neg_mul _ _
theorem mul_neg (x y:R):x* -y= -(x*y):=by rw[mul_comm,neg_mul,mul_comm]
theorem neg_neg (x:R): - -x=x:=by
 induction x using ind with|h a=>exact pt fun n=>Rat.neg_neg _
theorem q_add (x y:Rat):q (x+y)=q x+q y:=pt fun _=>rfl
theorem q_mul (x y:Rat):q (x*y)=q x*q y:=pt fun _=>rfl
theorem q_neg (x:Rat):q (-x)= -q x:=pt fun _=>rfl
theorem neg_q0: -q 0=q 0:=pt fun _=>rfl
theorem eq_of_sub {x y:R}(h:x-y=q 0):x=y:=by
 have:x-y+y=y:=by rw[h,zero_add]
 rw[sub_def,add_assoc,neg_add,add_zero]at this;exact this
theorem q_pos {x:Rat}:pos (q x)↔0<x:=by
 constructor
 ·rintro⟨e,he,N,hN⟩
  have:e<x:=hN N (O1 _)
  grind
 intro h;exact⟨x/2,half_pos h,0,fun n _=>by show x/2<x;grind⟩
theorem pos_add {x y:R}:pos x→pos y→pos (x+y):=by
 induction x using ind with|h a=>induction y using ind with|h b=>
 rintro⟨e,he,N,hN⟩ ⟨f,hf,M,hM⟩;refine⟨e+f,by grind,max N M,fun n hn=>?_⟩;have h1:=hN n (by omega);have h2:=hM n (by omega);show e+f<a.s n+b.s n
 grind
theorem pos_mul {x y:R}:pos x→pos y→pos (x*y):=by
 induction x using ind with|h a=>induction y using ind with|h b=>
 rintro⟨e,he,N,hN⟩ ⟨f,hf,M,hM⟩;refine⟨e*f,Rat.mul_pos he hf,max N M,fun n hn=>?_⟩;have h1:=hN n (by omega);have h2:=hM n (by omega);show e*f<a.s n*b.s n;have h3:=Rat.mul_pos (a:=a.s n-e) (b:=f) (by grind) hf;have h4:=Rat.mul_pos (a:=a.s n) (b:=b.s n-f) (by grind) (by grind)
 grind
theorem not_pos0:¬pos (q 0):=fun h=>absurd (q_pos.1 h) (by decide)
theorem pos_irr {x:R}(h:pos x)(k:pos (-x)):False:=by
 have:=pos_add h k
 rw[add_neg]at this;exact not_pos0 this
theorem tri (x:R):x=q 0∨pos x∨pos (-x):=by
 induction x using ind with|h a=>
 by_cases h:a.pos
 ·exact .inr (.inl h)
 by_cases k:a.neg.pos
 ·exact .inr (.inr k)
 refine .inl (sound fun e he=>?_);obtain⟨N,hN⟩:=a.h (e/2) (half_pos he);have h1:∃n,N≤n∧¬e/2<a.s n:=Classical.byContradiction fun hh=>h ⟨e/2,half_pos he,N,fun n hn=>Classical.byContradiction fun h2=>hh ⟨n,hn,h2⟩⟩;have k1:∃n,N≤n∧¬e/2< -a.s n:=Classical.byContradiction fun hh=>k ⟨e/2,half_pos he,N,fun n hn=>Classical.byContradiction fun h2=>hh ⟨n,hn,h2⟩⟩;obtain⟨m,hm,h1⟩:=h1;obtain⟨l,hl,k1⟩:=k1;refine⟨N,fun n hn=>?_⟩;have h2:=hN n m hn hm;have k2:=hN n l hn hl;show Nr (a.s n-0) e;unfold Nr at*;grind
theorem pos_ne {x:R}(h:pos x):x≠q 0:=fun e=>by subst e;exact not_pos0 h
theorem neg_ne {x:R}(h:pos (-x)):x≠q 0:=fun e=>by subst e;rw[neg_q0]at h;exact not_pos0 h
theorem mul_ne {x y:R}(hx:x≠q 0)(hy:y≠q 0):x*y≠q 0:=by
 rcases(tri x).resolve_left hx with h|h<;>rcases(tri y).resolve_left hy with k|k
 ·exact pos_ne (pos_mul h k)
 ·refine neg_ne ?_;rw[←mul_neg];exact pos_mul h k
 ·refine neg_ne ?_;rw[←neg_mul];exact pos_mul h k
 refine pos_ne ?_
 have:=pos_mul h k
 rwa [neg_mul,mul_neg,neg_neg]at this
theorem mul_eq0 {x y:R}(h:x*y=q 0):x=q 0∨y=q 0:=by
 by_cases hx:x=q 0
 ·exact .inl hx
 exact .inr (Classical.byContradiction fun hy=>mul_ne hx hy h)
theorem q_inj {x y:Rat}(h:q x=q y):x=y:=by
 have h0:q (x-y)=q 0:=by rw[show x-y=x+ -y by grind,q_add,q_neg,h,add_neg]
 have h1:¬0<x-y:=fun hp=>pos_ne (q_pos.2 hp) h0;have h2:¬0< -(x-y):=fun hp=>neg_ne (x:=q (x-y)) (by rw[←q_neg];exact q_pos.2 hp) h0
 grind
theorem mul_cancel {x y z:R}(h:x*z=y*z)(hz:z≠q 0):x=y:=by
 refine eq_of_sub ((mul_eq0 (y:=z) ?_).resolve_right hz);rw[sub_def,add_mul,neg_mul,h,add_neg]
theorem inv_pos' {x:R}:pos x→∃y,x*y=q 1:=by
 induction x using ind with|h a=>
 rintro⟨e,he,N,hN⟩;have hne:∀n,N≤n→a.s n≠0:=fun n hn=>by have:=hN n hn;grind
 let b:Sq:=⟨fun n=>(a.s (max n N))⁻¹,fun f hf=>by
  obtain⟨M,hM⟩:=a.h (f*(e*e)) (Rat.mul_pos hf (Rat.mul_pos he he));refine⟨M,fun m n hm hn=>?_⟩;have h1:=hM (max m N) (max n N) (by omega) (by omega);have a1:=hN (max m N) (by omega);have a2:=hN (max n N) (by omega)
  revert h1 a1 a2
  generalize a.s (max m N)=u
  generalize a.s (max n N)=v
  intro h1 hu hv;have u0:0<u:=by grind
  have v0:0<v:=by grind
  have h2:u⁻¹-v⁻¹=(v-u)*(u⁻¹*v⁻¹):=by
   have:u≠0:=by grind
   have:v≠0:=by grind
   grind
  have p:=Rat.mul_pos (Rat.inv_pos.2 u0) (Rat.inv_pos.2 v0);have huv:e*e<u*v:=by
   have h3:=Rat.mul_pos (a:=u-e) (b:=e) (by grind) he;have h4:=Rat.mul_pos (a:=u) (b:=v-e) (by grind) (by grind)
   grind
  have huv1:u*v*(u⁻¹*v⁻¹)=1:=by
   have:u≠0:=by grind
   have:v≠0:=by grind
   grind
  rw[h2]
  revert p huv1
  generalize u⁻¹*v⁻¹=w
  intro p huv1;unfold Nr at*
  have k1:=Rat.mul_pos (a:=f*(e*e)-(v-u)) (b:=w) (by grind) p;have k2:=Rat.mul_pos (a:=f*(e*e)+(v-u)) (b:=w) (by grind) p;have k3:=Rat.mul_pos (a:=f*(u*v-e*e)) (b:=w) (Rat.mul_pos hf (by grind)) p;have k4:f*(u*v)*w=f:=by rw[Rat.mul_assoc,huv1,Rat.mul_one]
  grind⟩
 refine⟨mk b,sound fun f hf=>⟨N,fun n hn=>?_⟩⟩;have h1:a.s n*(a.s (max n N))⁻¹=1:=by
  rw[Nat.max_eq_left hn,Rat.mul_inv_cancel _ (hne n hn)]
 show Nr (a.s n*(a.s (max n N))⁻¹-1) f;rw[h1];unfold Nr;grind
theorem inv {x:R}(h:x≠q 0):∃y,x*y=q 1:=by
 rcases(tri x).resolve_left h with h|h
 ·exact inv_pos' h
 obtain⟨y,hy⟩:=inv_pos' h;exact⟨-y,by rw[mul_neg,←neg_mul,hy]⟩
def nn (x:R):Prop:=¬pos (-x)
theorem nn_iff {x:R}:nn x↔x=q 0∨pos x:=by
 constructor
 ·intro h
  rcases tri x with k|k|k
  ·exact .inl k
  ·exact .inr k
  exact absurd k h
 rintro(rfl|h) k
 ·rw[neg_q0]at k;exact not_pos0 k
 exact pos_irr h k
theorem step_root (b:Rat)(hb:0≤b)(d:Rat)(hd:0<d):∃s:Rat,0≤s∧s*s≤b∧b<(s+d)*(s+d):=by
 have key:∀k:Nat,b<(k*d)*(k*d)→∃s:Rat,0≤s∧s*s≤b∧b<(s+d)*(s+d):=by
  intro k
  induction k with
  |zero=>intro h;exfalso;simp at h;grind
  |succ k ih=>
   intro h
   by_cases hk:b<(k*d)*(k*d)
   ·exact ih hk
   refine⟨k*d,Rat.mul_nonneg (by simp[Rat.natCast_nonneg]) (by grind),by grind,?_⟩;have e:((k+1:Nat):Rat)*d=k*d+d:=by rw[Rat.natCast_add];grind
   rw[e]at h;exact h
 obtain⟨k,hk⟩:∃k:Nat,b/(d*d)+1<(k:Rat):=by
  refine⟨(b/(d*d)+1).ceil.toNat+1,?_⟩;have h1:=Rat.le_ceil (x:=b/(d*d)+1);have h2:((b/(d*d)+1).ceil:Rat)≤(((b/(d*d)+1).ceil.toNat:Nat):Rat):=by
   rw[←Rat.intCast_natCast,Rat.intCast_le_intCast];exact Int.self_le_toNat _
  rw[Rat.natCast_add]
  grind
 refine key k ?_;have hdd:=Rat.mul_pos hd hd;have h0:0≤b/(d*d):=by rw[Rat.div_def];exact Rat.mul_nonneg hb (Rat.le_of_lt (Rat.inv_pos.2 hdd))
 have e1:b/(d*d)*(d*d)=b:=div_mul hdd;have k1:(1:Rat)<k:=by grind
 have h2:=Rat.mul_pos (a:=(k:Rat)-b/(d*d)) (b:=d*d) (by grind) hdd;have h3:=Rat.mul_pos (a:=(k:Rat)*((k:Rat)-1)) (b:=d*d) (Rat.mul_pos (by grind) (by grind)) hdd
 grind
theorem arch (e:Rat)(he:0<e):∃N:Nat,∀n,N≤n→(1:Rat)/((n:Rat)+1)<e:=by
 refine⟨(1/e).ceil.toNat,fun n hn=>?_⟩;have h1:=Rat.le_ceil (x:=1/e);have h2:((1/e).ceil:Rat)≤(n:Rat):=by
  rw[←Rat.intCast_natCast,Rat.intCast_le_intCast];omega
 have h3:1/e<(n:Rat)+1:=by grind
 have e0:e≠0:=by grind
 have hpe:=div_pos (a:=1) (by decide) he;have n0:0<(n:Rat)+1:=by grind
 have h4:=Rat.mul_pos (a:=(n:Rat)+1-1/e) (b:=e) (by grind) he;have h5:1/e*e=1:=div_mul he;have h6:1<((n:Rat)+1)*e:=by grind
 have h7:=Rat.mul_pos (a:=((n:Rat)+1)*e-1) (b:=1/((n:Rat)+1)) (by grind) (div_pos (by decide) n0);have h8:1/((n:Rat)+1)*((n:Rat)+1)=1:=div_mul n0
 revert h7 h8
 generalize 1/((n:Rat)+1)=r
 generalize(n:Rat)+1=m
 intro h7 h8;have h9:(m*e-1)*r=r*m*e-r:=by grind
 rw[h9,h8]at h7
 grind
end Go.R
namespace Go.R
open Go.Re
theorem nn_even {a:Sq}(h:nn (mk a)){e:Rat}(he:0<e):∃N,∀n,N≤n→ -e<a.s n:=by
 rcases nn_iff.1 h with h|h
 ·obtain⟨N,hN⟩:=exact (b:=Sq.const 0) h e he;refine⟨N,fun n hn=>?_⟩;have h1:Nr (a.s n-0) e:=hN n hn;unfold Nr at h1;grind
 obtain⟨f,hf,N,hN⟩:=h;refine⟨N,fun n hn=>?_⟩
 have:=hN n hn
 grind
theorem exists_sqrt {x:R}(h:nn x):∃y,nn y∧y*y=x:=by
 induction x using ind with|h a=>
 let b:Nat→Rat:=fun n=>if 0≤a.s n then a.s n else 0
 have hb0:∀n,0≤b n:=fun n=>by show 0≤ite _ _ _;split<;>grind
 have dp:∀n:Nat,(0:Rat)<1/((n:Rat)+1):=fun n=>div_pos (by decide) (by have:(0:Rat)≤n:=Rat.natCast_nonneg;grind);obtain⟨s,hs⟩:=Classical.axiomOfChoice (r:=fun(n:Nat) (s:Rat)=>0≤s∧s*s≤b n∧b n<(s+1/((n:Rat)+1))*(s+1/((n:Rat)+1))) fun n=>step_root (b n) (hb0 n) _ (dp n);have hbc:∀m n (e:Rat),Nr (a.s m-a.s n) e→b m-b n<e:=by
  intro m n e h;unfold Nr at h
  show(ite _ _ _:Rat)-ite _ _ _<e
  split<;>split<;>grind
 have hc:∀e,0<e→∃N,∀m n,N≤m→N≤n→s m<s n+e:=by
  intro e he;obtain⟨N,hN⟩:=a.h (e*e/2) (half_pos (Rat.mul_pos he he));obtain⟨M,hM⟩:=arch (e/2) (half_pos he);refine⟨max N M,fun m n hm hn=>?_⟩;have h1:=hbc m n _ (hN m n (by omega) (by omega));obtain⟨m1,m2,m3⟩:=hs m;obtain⟨n1,n2,n3⟩:=hs n;have hd:=hM n (by omega);have dn:=dp n
  revert hd dn n3
  generalize(1:Rat)/((n:Rat)+1)=d
  intro n3 hd dn;refine Rat.not_le.1 fun hh=>?_;have k1:=Rat.mul_nonneg (a:=s m-(s n+e)) (b:=s m+(s n+e)) (by grind) (by grind);have k2:=Rat.mul_nonneg (a:=e/2-d) (b:=2*s n+d+e/2) (by grind) (by grind);have k3:=Rat.mul_nonneg (a:=s n) (b:=e) n1 (Rat.le_of_lt he);have k4:=Rat.mul_pos he he
  grind
 let y:Sq:=⟨s,fun e he=>by
  obtain⟨N,hN⟩:=hc e he;refine⟨N,fun m n hm hn=>?_⟩;have h1:=hN m n hm hn;have h2:=hN n m hn hm;unfold Nr;grind⟩
 refine⟨mk y,?_,?_⟩
 ·rintro⟨e,he,N,hN⟩;have h1:e< -s N:=hN N (O1 _)
  have:=(hs N).1
  grind
 refine sound fun e he=>?_;obtain⟨B,hB,hy⟩:=y.bnd;obtain⟨N,hN⟩:=nn_even h (half_pos he);have hq:0<e/2/(2*B+1):=div_pos (half_pos he) (by grind);obtain⟨M,hM⟩:=arch (e/2/(2*B+1)) hq;obtain⟨L,hL⟩:=arch 1 (by decide);refine⟨max N (max M L),fun n hn=>?_⟩;obtain⟨n1,n2,n3⟩:=hs n;have hd:=hM n (by omega);have hl:=hL n (by omega);have dn:=dp n;have ha:=hN n (by omega);have hyn:Nr (s n) B:=hy n;have hb:a.s n≤b n∧b n<a.s n+e/2∨a.s n=b n:=by
  show a.s n≤ite _ _ _∧ite _ _ _<a.s n+e/2∨a.s n=ite _ _ _
  split<;>grind
 show Nr (s n*s n-a.s n) e
 revert hd dn n3 hl
 generalize(1:Rat)/((n:Rat)+1)=d
 intro n3 hd hl dn;have e1:e/2/(2*B+1)*(2*B+1)=e/2:=div_mul (by grind)
 revert e1 hd
 generalize e/2/(2*B+1)=g
 intro hd e1;unfold Nr at*
 have k1:=Rat.mul_nonneg (a:=g-d) (b:=2*B+1) (by grind) (by grind);have k2:=Rat.mul_nonneg (a:=d) (b:=B-s n) (by grind) (by grind);have k3:=Rat.mul_nonneg (a:=d) (b:=1-d) (by grind) (by grind)
 grind
noncomputable def sqrt (x:R):R:=open Classical in if h:nn x then Classical.choose (exists_sqrt h)else q 0
theorem sqrt_mul {x:R}(h:nn x):sqrt x*sqrt x=x:=by
 unfold sqrt;rw[dif_pos h];exact(Classical.choose_spec (exists_sqrt h)).2
theorem sqrt_nn (x:R):nn (sqrt x):=by
 unfold sqrt
 split
 ·rename_i h;exact(Classical.choose_spec (exists_sqrt h)).1
 exact nn_iff.2 (.inl rfl)
end Go.R
namespace Go.R
open Go.Re
theorem id_mul (x y u v s:R):(x+y*s)*(u+v*s)=(x*u+y*v*(s*s))+(x*v+y*u)*s:=by
 induction x using ind with|h x=>induction y using ind with|h y=>induction u using ind with|h u=>induction v using ind with|h v=>induction s using ind with|h s=>
 exact pt fun n=>by simp only[Sq.add,Sq.mul];grind
theorem id_norm (x y s:R):(x+y*s)*(x-y*s)=x*x+ -(y*y*(s*s)):=by
 induction x using ind with|h x=>induction y using ind with|h y=>induction s using ind with|h s=>
 exact pt fun n=>by simp only[Sq.add,Sq.mul,Sq.neg];grind
theorem id_add (x y u v s:R):(x+y*s)+(u+v*s)=(x+u)+(y+v)*s:=by
 induction x using ind with|h x=>induction y using ind with|h y=>induction u using ind with|h u=>induction v using ind with|h v=>induction s using ind with|h s=>
 exact pt fun n=>by simp only[Sq.add,Sq.mul];grind
theorem id_neg (x y s:R): -(x+y*s)= -x+ -y*s:=by
 induction x using ind with|h x=>induction y using ind with|h y=>induction s using ind with|h s=>
 exact pt fun n=>by simp only[Sq.add,Sq.mul,Sq.neg];grind
theorem sqrt_pos {x:R}(h:pos x):pos (sqrt x):=by
 rcases nn_iff.1 (sqrt_nn x)with k|k
 ·have:=sqrt_mul (nn_iff.2 (.inr h))
  rw[k,mul_zero]at this;exact absurd this.symm (pos_ne h)
 exact k
theorem sq_nn (x:R):nn (x*x):=by
 rcases tri x with h|h|h
 ·rw[h,mul_zero];exact nn_iff.2 (.inl rfl)
 ·exact nn_iff.2 (.inr (pos_mul h h))
 have:=pos_mul h h
 rw[neg_mul,mul_neg,neg_neg]at this;exact nn_iff.2 (.inr this)
theorem sq_eq {x y:R}(h:x*x=y*y):x=y∨x= -y:=by
 have e:(x-y)*(x- -y)=q 0:=by
  have:(x-y)*(x- -y)=x*x-y*y:=by
   induction x using ind with|h x=>induction y using ind with|h y=>
   exact pt fun n=>by simp only[Sq.add,Sq.mul,Sq.neg];grind
  rw[this,h,sub_self]
 rcases mul_eq0 e with h|h
 ·exact .inl (eq_of_sub h)
 exact .inr (eq_of_sub h)
theorem sq_nn_eq {x y:R}(hx:nn x)(hy:nn y)(h:x*x=y*y):x=y:=by
 rcases sq_eq h with e|e
 ·exact e
 rcases nn_iff.1 hy with k|k
 ·rw[e,k,neg_q0]
 exact absurd (by rw[e,neg_neg];exact k) hx
theorem sqrt_sq {x:R}(h:nn x):sqrt (x*x)=x:=sq_nn_eq (sqrt_nn _) h (sqrt_mul (sq_nn x))
end Go.R
namespace Go.Tw
open Go Go.R
abbrev El:=List Rat
noncomputable def val:Nat→List El→El→R
 |0,_,a=>q (a.getD 0 0)
 |h+1,t,a=>val h t (a.take (2^h))+val h t (a.drop (2^h))*sqrt (val h t (t.getD h []))
def addE (a b:El):El:=List.zipWith (· + ·) a b
def negE (a:El):El:=a.map (- ·)
def zE (n:Nat):El:=List.replicate n 0
def mulE:Nat→List El→El→El→El
 |0,_,a,b=>[a.getD 0 0*b.getD 0 0]
 |h+1,t,a,b=>addE (mulE h t (a.take (2^h)) (b.take (2^h))) (mulE h t (mulE h t (a.drop (2^h)) (b.drop (2^h))) (t.getD h []))++
   addE (mulE h t (a.take (2^h)) (b.drop (2^h))) (mulE h t (a.drop (2^h)) (b.take (2^h)))
theorem len_take {a:El}{h:Nat}(ha:a.length=2^(h+1)):(a.take (2^h)).length=2^h:=by
 rw[X5,ha,O4];omega
theorem len_drop {a:El}{h:Nat}(ha:a.length=2^(h+1)):(a.drop (2^h)).length=2^h:=by
 rw[List.length_drop,ha,O4];omega
theorem addE_len {a b:El}{n:Nat}(ha:a.length=n)(hb:b.length=n):(addE a b).length=n:=by
 unfold addE;rw[List.length_zipWith,ha,hb,Nat.min_self]
theorem negE_len {a:El}:(negE a).length=a.length:=List.length_map _
theorem zE_len {n:Nat}:(zE n).length=n:=List.length_replicate
theorem mulE_len {h:Nat}{t:List El}:∀{a b:El},(mulE h t a b).length=2^h:=by
 induction h with
 |zero=>intro a b;rfl
 |succ h ih=>
  intro a b;rw[mulE,X6,addE_len ih ih,addE_len ih ih,O4];omega
theorem one_of {a:El}(h:a.length=2^0):∃x,a=[x]:=by
 match a,h with
 |[x],_=>exact⟨x,rfl⟩
theorem val_app {h:Nat}{t:List El}{a b:El}(ha:a.length=2^h):val (h+1) t (a++b)=val h t a+val h t b*sqrt (val h t (t.getD h [])):=by
 rw[val,List.take_append_of_le_length (by omega),List.take_of_length_le (by omega),List.drop_append_of_le_length (by omega),List.drop_of_length_le (by omega),List.nil_append]
theorem val_add {h:Nat}{t:List El}:∀{a b:El},a.length=2^h→b.length=2^h→val h t (addE a b)=val h t a+val h t b:=by
 induction h with
 |zero=>
  intro a b ha hb;obtain⟨x,rfl⟩:=one_of ha;obtain⟨y,rfl⟩:=one_of hb;exact q_add x y
 |succ h ih=>
  intro a b ha hb;have e1:(addE a b).take (2^h)=addE (a.take (2^h)) (b.take (2^h)):=List.take_zipWith;have e2:(addE a b).drop (2^h)=addE (a.drop (2^h)) (b.drop (2^h)):=List.drop_zipWith;rw[val,e1,e2,ih (len_take ha) (len_take hb),ih (len_drop ha) (len_drop hb),val,val,id_add]
theorem val_neg {h:Nat}{t:List El}:∀{a:El},a.length=2^h→val h t (negE a)= -val h t a:=by
 induction h with
 |zero=>
  intro a ha;obtain⟨x,rfl⟩:=one_of ha;exact q_neg x
 |succ h ih=>
  intro a ha;have e1:(negE a).take (2^h)=negE (a.take (2^h)):=List.map_take.symm;have e2:(negE a).drop (2^h)=negE (a.drop (2^h)):=List.map_drop.symm;rw[val,e1,e2,ih (len_take ha),ih (len_drop ha),val,id_neg]
theorem zE_take {h:Nat}:(zE (2^(h+1))).take (2^h)=zE (2^h):=by
 unfold zE;rw[List.take_replicate,O4,Nat.min_eq_left (by omega)]
theorem zE_drop {h:Nat}:(zE (2^(h+1))).drop (2^h)=zE (2^h):=by
 unfold zE;rw[List.drop_replicate,O4];congr 1;omega
theorem zE_app {h:Nat}:zE (2^h)++zE (2^h)=zE (2^(h+1)):=by
 unfold zE;rw[List.replicate_append_replicate,O4];congr 1;omega
theorem val_zero {h:Nat}{t:List El}:val h t (zE (2^h))=q 0:=by
 induction h with
 |zero=>rfl
 |succ h ih=>rw[val,zE_take,zE_drop,ih,zero_mul,add_zero]
def Rl (h:Nat)(t:List El):Prop:=∀i,i<h→(t.getD i []).length=2^i∧pos (val i t (t.getD i []))
theorem Rl.le {h k:Nat}{t:List El}(H:Rl h t)(hk:k≤h):Rl k t:=fun i hi=>H i (by omega)
theorem Rl.root {h:Nat}{t:List El}(H:Rl (h+1) t):sqrt (val h t (t.getD h []))*sqrt (val h t (t.getD h []))=val h t (t.getD h []):=
 sqrt_mul (nn_iff.2 (.inr (H h (by omega)).2))
theorem val_mul {h:Nat}{t:List El}:∀(_:Rl h t) {a b:El},a.length=2^h→b.length=2^h→val h t (mulE h t a b)=val h t a*val h t b:=by
 induction h with
 |zero=>intro _ a b _ _;exact q_mul _ _
 |succ h ih=>
  intro H a b ha hb;have H':=H.le (Nat.le_succ h);rw[mulE,val_app (addE_len mulE_len mulE_len),val_add mulE_len mulE_len,val_add mulE_len mulE_len,ih H' (len_take ha) (len_take hb),ih H' mulE_len (H h (by omega)).1,
   ih H' (len_drop ha) (len_drop hb),ih H' (len_take ha) (len_drop hb),ih H' (len_drop ha) (len_take hb),val,val,id_mul,H.root]
def normE (h:Nat)(t:List El)(a:El):El:=addE (mulE h t (a.take (2^h)) (a.take (2^h))) (negE (mulE h t (mulE h t (a.drop (2^h)) (a.drop (2^h))) (t.getD h [])))
theorem normE_len {h:Nat}{t:List El}{a:El}:(normE h t a).length=2^h:=addE_len mulE_len (by rw[negE_len,mulE_len])
theorem val_normE {h:Nat}{t:List El}(H:Rl (h+1) t){a:El}(ha:a.length=2^(h+1)):
  val h t (normE h t a)=val h t (a.take (2^h))*val h t (a.take (2^h))+ -(val h t (a.drop (2^h))*val h t (a.drop (2^h))*(sqrt (val h t (t.getD h []))*sqrt (val h t (t.getD h [])))):=by
 have H':=H.le (Nat.le_succ h);unfold normE;rw[val_add mulE_len (by rw[negE_len,mulE_len]),val_neg mulE_len,val_mul H' (len_take ha) (len_take ha),val_mul H' mulE_len (H h (by omega)).1,val_mul H' (len_drop ha) (len_drop ha),H.root]
def sgnE:Nat→List El→El→Int
 |0,_,a=>if 0<a.getD 0 0 then 1 else if a.getD 0 0<0 then-1 else 0
 |h+1,t,a=>
  if sgnE h t (a.drop (2^h))=0∨sgnE h t (a.take (2^h))=sgnE h t (a.drop (2^h))then sgnE h t (a.take (2^h))
  else if sgnE h t (a.take (2^h))=0 then sgnE h t (a.drop (2^h))
  else sgnE h t (a.take (2^h))*sgnE h t (normE h t a)
end Go.Tw
namespace Go.R
open Go.Re
theorem id_sq (p g s:R):(p+g*s)*(p+g*s)=(p*p+g*g*(s*s))+(p*g+p*g)*s:=by
 induction p using ind with|h p=>induction g using ind with|h g=>induction s using ind with|h s=>
 exact pt fun n=>by simp only[Sq.add,Sq.mul];grind
theorem id_sqn (p g r:R):(p*p+ -(g*g*r))*(p*p+ -(g*g*r))=(p*p+g*g*r)*(p*p+g*g*r)+ -((p*g+p*g)*(p*g+p*g)*r):=by
 induction p using ind with|h p=>induction g using ind with|h g=>induction r using ind with|h r=>
 exact pt fun n=>by simp only[Sq.add,Sq.mul,Sq.neg];grind
theorem eq_neg_of {x y:R}(h:x+y=q 0):x= -y:=by
 refine eq_of_sub ?_;rw[sub_def,neg_neg,h]
theorem two_ne:q 2≠q 0:=fun h=>absurd (q_inj h) (by decide)
theorem one_ne:q 1≠q 0:=fun h=>absurd (q_inj h) (by decide)
theorem twice (x:R):x+x=q 2*x:=by
 induction x using ind with|h x=>
 exact pt fun n=>by simp only[Sq.add,Sq.mul,Sq.const];grind
end Go.R
namespace Go.Tw
open Go Go.R
def In (h:Nat)(t:List El)(x:R):Prop:=∃a:El,a.length=2^h∧val h t a=x
theorem In.of {h:Nat}{t:List El}{a:El}(ha:a.length=2^h):In h t (val h t a):=⟨a,ha,rfl⟩
theorem In.add {h:Nat}{t:List El}{x y:R}(hx:In h t x)(hy:In h t y):In h t (x+y):=by
 obtain⟨a,ha,rfl⟩:=hx;obtain⟨b,hb,rfl⟩:=hy;exact⟨addE a b,addE_len ha hb,val_add ha hb⟩
theorem In.neg {h:Nat}{t:List El}{x:R}(hx:In h t x):In h t (-x):=by
 obtain⟨a,ha,rfl⟩:=hx;exact⟨negE a,by rw[negE_len,ha],val_neg ha⟩
theorem In.mul {h:Nat}{t:List El}(H:Rl h t){x y:R}(hx:In h t x)(hy:In h t y):In h t (x*y):=by
 obtain⟨a,ha,rfl⟩:=hx;obtain⟨b,hb,rfl⟩:=hy;exact⟨mulE h t a b,mulE_len,val_mul H ha hb⟩
def ratE (h:Nat)(x:Rat):El:=x::zE (2^h-1)
theorem ratE_len {h:Nat}{x:Rat}:(ratE h x).length=2^h:=by
 unfold ratE;rw[List.length_cons,zE_len];have:=Nat.two_pow_pos h;omega
theorem ratE_succ {h:Nat}{x:Rat}:ratE (h+1) x=ratE h x++zE (2^h):=by
 unfold ratE zE;rw[List.cons_append,List.replicate_append_replicate,O4]
 have:=Nat.two_pow_pos h
 congr 2;omega
theorem val_ratE {h:Nat}{t:List El}{x:Rat}:val h t (ratE h x)=q x:=by
 induction h with
 |zero=>rfl
 |succ h ih=>rw[ratE_succ,val_app ratE_len,ih,val_zero,zero_mul,add_zero]
theorem In.rat {h:Nat}{t:List El}(x:Rat):In h t (q x):=⟨ratE h x,ratE_len,val_ratE⟩
theorem val_up {h:Nat}{t:List El}{a:El}(ha:a.length=2^h):val (h+1) t (a++zE (2^h))=val h t a:=by
 rw[val_app ha,val_zero,zero_mul,add_zero]
theorem In.up {h:Nat}{t:List El}{x:R}(hx:In h t x):In (h+1) t x:=by
 obtain⟨a,ha,rfl⟩:=hx;exact⟨a++zE (2^h),by rw[X6,ha,zE_len,O4];omega,val_up ha⟩
theorem In.split {h:Nat}{t:List El}{x:R}(hx:In (h+1) t x):∃u v,In h t u∧In h t v∧x=u+v*sqrt (val h t (t.getD h [])):=by
 obtain⟨a,ha,rfl⟩:=hx;exact⟨_,_,.of (len_take ha),.of (len_drop ha),rfl⟩
theorem In.join {h:Nat}{t:List El}{u v:R}(hu:In h t u)(hv:In h t v):In (h+1) t (u+v*sqrt (val h t (t.getD h []))):=by
 obtain⟨a,ha,rfl⟩:=hu;obtain⟨b,hb,rfl⟩:=hv;exact⟨a++b,by rw[X6,ha,hb,O4];omega,val_app ha⟩
theorem In.root {h:Nat}{t:List El}:In (h+1) t (sqrt (val h t (t.getD h []))):=by
 have:=In.join (t:=t) (In.rat (h:=h) 0) (In.rat (h:=h) 1)
 rwa [one_mul,zero_add]at this
theorem In.le {h k:Nat}{t:List El}{x:R}(hx:In h t x)(hk:h≤k):In k t x:=by
 obtain⟨d,rfl⟩:=Nat.exists_eq_add_of_le hk;clear hk
 induction d with
 |zero=>exact hx
 |succ d ih=>exact ih.up
structure Rd (h:Nat) (t:List El):Prop where
 rl:Rl h t
 ns:∀i,i<h→∀x,In i t x→x*x≠val i t (t.getD i [])
theorem Rd.le {h k:Nat}{t:List El}(H:Rd h t)(hk:k≤h):Rd k t:=⟨H.rl.le hk,fun i hi=>H.ns i (by omega)⟩
theorem Rd.root_out {h:Nat}{t:List El}(H:Rd (h+1) t):¬In h t (sqrt (val h t (t.getD h []))):=fun k=>H.ns h (by omega) _ k H.rl.root
def invE:Nat→List El→El→Option El
 |0,_,a=>if a.getD 0 0=0 then none else some [(a.getD 0 0)⁻¹]
 |h+1,t,a=>(invE h t (normE h t a)).map fun n=>mulE h t (a.take (2^h)) n++negE (mulE h t (a.drop (2^h)) n)
theorem invE_some {h:Nat}{t:List El}:∀(_:Rl h t) {a b:El},a.length=2^h→invE h t a=some b→b.length=2^h∧val h t a*val h t b=q 1:=by
 induction h with
 |zero=>
  intro _ a b _ hb;rw[invE]at hb
  split at hb
  ·cases hb
  rename_i h0
  cases hb
  refine⟨rfl,?_⟩;show q _*q _=q 1;rw[←q_mul,X0,Rat.mul_inv_cancel _ h0]
 |succ h ih=>
  intro H a b ha hb;have H':=H.le (Nat.le_succ h);rw[invE,Option.map_eq_some_iff]at hb;obtain⟨n,hn,rfl⟩:=hb;obtain⟨hl,hv⟩:=ih H' normE_len hn;refine⟨by rw[X6,negE_len,mulE_len,mulE_len,O4];omega,?_⟩;rw[val_normE H ha]at hv;rw[val_app mulE_len,val_neg mulE_len,val_mul H' (len_take ha) hl,val_mul H' (len_drop ha) hl,val,←hv,←id_norm]
  generalize val h t (a.take (2^h))=x
  generalize val h t (a.drop (2^h))=y
  generalize val h t n=m
  rw[neg_mul,mul_assoc y m,mul_comm m,←mul_assoc y,←neg_mul,←add_mul,sub_def,mul_assoc]
theorem eq_of_root {h:Nat}{t:List El}(H:Rl h t)(hinv:∀x,In h t x→x≠q 0→∃y,In h t y∧x*y=q 1){x y s:R}(hx:In h t x)(hy:In h t y)(he:x+y*s=q 0)(hs:¬In h t s):y=q 0∧x=q 0:=by
 by_cases h0:y=q 0
 ·exact⟨h0,by rwa [h0,zero_mul,add_zero]at he⟩
 exfalso
 obtain⟨z,hz,hyz⟩:=hinv y hy h0
 apply hs
 have:s= -(x*z):=by
  have e:=eq_neg_of (x:=y*s) (y:=x) (by rw[add_comm];exact he)
  have:=congrArg (z* ·) e
  simp only[←mul_assoc,mul_neg]at this;rw[mul_comm z y,hyz,one_mul,mul_comm z x]at this;exact this
 rw[this];exact(In.mul H hx hz).neg
theorem invE_none {h:Nat}{t:List El}:∀(_:Rd h t) {a:El},a.length=2^h→invE h t a=none→val h t a=q 0:=by
 induction h with
 |zero=>
  intro _ a _ hb;rw[invE]at hb
  split at hb
  ·rename_i h0
   show q _=q 0;rw[h0]
  cases hb
 |succ h ih=>
  intro H a ha hb;have H':=H.le (Nat.le_succ h);rw[invE,Option.map_eq_none_iff]at hb;have h0:=ih H' normE_len hb;have hinv:∀x,In h t x→x≠q 0→∃y,In h t y∧x*y=q 1:=by
   rintro x ⟨a,ha,rfl⟩ h0
   cases hi:invE h t a with
   |none=>exact absurd (ih H' ha hi) h0
   |some b=>
    obtain⟨hl,hv⟩:=invE_some H'.rl ha hi;exact⟨_,.of hl,hv⟩
  rw[val_normE H.rl ha,←id_norm]at h0
  rcases mul_eq0 h0 with h0|h0
  ·exact h0
  rw[sub_def,←neg_mul,←val_neg (len_drop ha)]at h0
  have:=eq_of_root H'.rl hinv (.of (len_take ha)) (.of (by rw[negE_len];exact len_drop ha)) h0 H.root_out
  rw[val_neg (len_drop ha)]at this;rw[val,this.2,eq_neg_of (y:=q 0) (x:=val h t (a.drop (2^h))) ?_,neg_q0,zero_mul,add_zero];rw[add_zero]
  have:=congrArg (- ·) this.1
  simpa only[neg_neg,neg_q0]using this
theorem In.inv {h:Nat}{t:List El}(H:Rd h t){x y:R}(hx:In h t x)(h1:x*y=q 1):In h t y:=by
 obtain⟨a,ha,rfl⟩:=hx
 cases hi:invE h t a with
 |none=>
  rw[invE_none H ha hi,zero_mul]at h1;exact absurd h1.symm one_ne
 |some b=>
  obtain⟨hl,hv⟩:=invE_some H.rl ha hi
  have:y=val h t b:=by
   refine mul_cancel (z:=val h t a) ?_ ?_
   ·rw[mul_comm y,h1,mul_comm,hv]
   intro e;rw[e,zero_mul]at h1;exact one_ne h1.symm
  rw[this];exact .of hl
theorem In.inv' {h:Nat}{t:List El}(H:Rd h t)(x:R)(hx:In h t x)(h0:x≠q 0):∃y,In h t y∧x*y=q 1:=by
 obtain⟨y,hy⟩:=R.inv h0;exact⟨y,hx.inv H hy,hy⟩
theorem split_zero {h:Nat}{t:List El}(H:Rd (h+1) t){x y:R}(hx:In h t x)(hy:In h t y)(he:x+y*sqrt (val h t (t.getD h []))=q 0):x=q 0∧y=q 0:=
 (eq_of_root (H.rl.le (Nat.le_succ h)) (In.inv' (H.le (Nat.le_succ h))) hx hy he H.root_out).symm
theorem split_inj {h:Nat}{t:List El}(H:Rd (h+1) t){x y u v:R}(hx:In h t x)(hy:In h t y)(hu:In h t u)(hv:In h t v)
  (he:x+y*sqrt (val h t (t.getD h []))=u+v*sqrt (val h t (t.getD h []))):x=u∧y=v:=by
 have:=split_zero H (hx.add hu.neg) (hy.add hv.neg) (by
  rw[←id_add,he,←id_neg,add_neg])
 exact⟨eq_of_sub this.1,eq_of_sub this.2⟩
end Go.Tw
namespace Go.R
open Go.Re
theorem id_frac (x y a b:R):(x+y)*(a*b)=(x*a)*b+(y*b)*a:=by
 induction x using ind with|h x=>induction y using ind with|h y=>induction a using ind with|h a=>induction b using ind with|h b=>
 exact pt fun n=>by simp only[Sq.add,Sq.mul];grind
theorem id_prod (x y a b:R):(x*y)*(a*b)=(x*a)*(y*b):=by
 induction x using ind with|h x=>induction y using ind with|h y=>induction a using ind with|h a=>induction b using ind with|h b=>
 exact pt fun n=>by simp only[Sq.mul];grind
theorem id_conj (u v a b s:R):(u+ -v*s)*(a+ -b*s)=(u*a+v*b*(s*s))+ -(u*b+v*a)*s:=by
 induction u using ind with|h u=>induction v using ind with|h v=>induction a using ind with|h a=>induction b using ind with|h b=>induction s using ind with|h s=>
 exact pt fun n=>by simp only[Sq.add,Sq.mul,Sq.neg];grind
end Go.R
namespace Go.Tw
open Go Go.R
theorem mul_den (x:Rat):x*(x.den:Rat)=(x.num:Rat):=by
 have h0:(x.den:Rat)≠0:=fun e=>x.den_nz (Rat.natCast_inj.1 e);have e:x=(x.num:Rat)/(x.den:Rat):=by rw[←Rat.mkRat_eq_div,Rat.mkRat_self]
 grind
theorem sq_num (x:Rat):(x*x).num=x.num*x.num∧(x*x).den=x.den*x.den:=by
 rw[Rat.mul_def,Rat.normalize_eq]
 have:Nat.gcd (x.num*x.num).natAbs (x.den*x.den)=1:=by
  rw[Int.natAbs_mul];exact Nat.Coprime.mul_left (Nat.Coprime.mul_right x.reduced x.reduced) (Nat.Coprime.mul_right x.reduced x.reduced)
 constructor
 ·show _/_=_;rw[this];simp
 show _/_=_;rw[this];simp
def ab (x:Rat):Rat:=if 0≤x then x else-x
theorem ab_nn (x:Rat):0≤ab x:=by unfold ab;split<;>grind
theorem ab_add (x y:Rat):ab (x+y)≤ab x+ab y:=by unfold ab;split<;>split<;>split<;>grind
theorem ab_neg (x:Rat):ab (-x)=ab x:=by unfold ab;split<;>split<;>grind
theorem ab_mul (x y:Rat):ab (x*y)=ab x*ab y:=by
 unfold ab
 by_cases hx:0≤x<;>by_cases hy:0≤y
 ·rw[if_pos hx,if_pos hy,if_pos (Rat.mul_nonneg hx hy)]
 ·rw[if_pos hx,if_neg hy]
  have:=Rat.mul_nonneg (a:=x) (b:= -y) hx (by grind)
  split<;>grind
 ·rw[if_neg hx,if_pos hy]
  have:=Rat.mul_nonneg (a:= -x) (b:=y) (by grind) hy
  split<;>grind
 rw[if_neg hx,if_neg hy]
 have:=Rat.mul_nonneg (a:= -x) (b:= -y) (by grind) (by grind)
 rw[if_pos (by grind)];grind
def nrm:Nat→(Nat→Nat)→El→Rat
 |0,_,a=>ab (a.getD 0 0)
 |h+1,w,a=>nrm h w (a.take (2^h))+nrm h w (a.drop (2^h))*(w h:Rat)
theorem nrm_nn {h:Nat}{w:Nat→Nat}:∀{a:El},0≤nrm h w a:=by
 induction h with
 |zero=>intro a;exact ab_nn _
 |succ h ih=>intro a;rw[nrm];exact Rat.add_nonneg ih (Rat.mul_nonneg ih Rat.natCast_nonneg)
theorem nrm_app {h:Nat}{w:Nat→Nat}{a b:El}(ha:a.length=2^h):nrm (h+1) w (a++b)=nrm h w a+nrm h w b*(w h:Rat):=by
 rw[nrm,List.take_append_of_le_length (by omega),List.take_of_length_le (by omega),List.drop_append_of_le_length (by omega),List.drop_of_length_le (by omega),List.nil_append]
theorem nrm_neg {h:Nat}{w:Nat→Nat}:∀{a:El},a.length=2^h→nrm h w (negE a)=nrm h w a:=by
 induction h with
 |zero=>
  intro a ha;obtain⟨x,rfl⟩:=one_of ha;exact ab_neg x
 |succ h ih=>
  intro a ha;have e1:(negE a).take (2^h)=negE (a.take (2^h)):=List.map_take.symm;have e2:(negE a).drop (2^h)=negE (a.drop (2^h)):=List.map_drop.symm;rw[nrm,e1,e2,ih (len_take ha),ih (len_drop ha),nrm]
theorem nrm_add {h:Nat}{w:Nat→Nat}:∀{a b:El},a.length=2^h→b.length=2^h→nrm h w (addE a b)≤nrm h w a+nrm h w b:=by
 induction h with
 |zero=>
  intro a b ha hb;obtain⟨x,rfl⟩:=one_of ha;obtain⟨y,rfl⟩:=one_of hb;exact ab_add x y
 |succ h ih=>
  intro a b ha hb;have e1:(addE a b).take (2^h)=addE (a.take (2^h)) (b.take (2^h)):=List.take_zipWith;have e2:(addE a b).drop (2^h)=addE (a.drop (2^h)) (b.drop (2^h)):=List.drop_zipWith;have h1:=ih (len_take ha) (len_take hb);have h2:=ih (len_drop ha) (len_drop hb);rw[nrm,e1,e2,nrm,nrm];have hw:(0:Rat)≤w h:=Rat.natCast_nonneg;have h3:=Rat.mul_le_mul_of_nonneg_right h2 hw;rw[Rat.add_mul]at h3
  grind
theorem nrm_zero {h:Nat}{w:Nat→Nat}:nrm h w (zE (2^h))=0:=by
 induction h with
 |zero=>rfl
 |succ h ih=>rw[nrm,zE_take,zE_drop,ih];grind
theorem nrm_rat {h:Nat}{w:Nat→Nat}{x:Rat}:nrm h w (ratE h x)=ab x:=by
 induction h with
 |zero=>rfl
 |succ h ih=>rw[ratE_succ,nrm_app ratE_len,ih,nrm_zero];grind
def Wt (h:Nat)(z:List El)(w:Nat→Nat):Prop:=∀i,i<h→1≤w i∧nrm i w (z.getD i [])≤(w i:Rat)*(w i:Rat)
theorem Wt.le {h k:Nat}{z:List El}{w:Nat→Nat}(H:Wt h z w)(hk:k≤h):Wt k z w:=fun i hi=>H i (by omega)
theorem mul_le {a b c d:Rat}(ha:0≤a)(hd:0≤d)(h:a≤c)(k:b≤d):a*b≤c*d:=
 Rat.le_trans (Rat.mul_le_mul_of_nonneg_left k ha) (Rat.mul_le_mul_of_nonneg_right h hd)
theorem nrm_mul {h:Nat}{z:List El}{w:Nat→Nat}:∀(_:Wt h z w) (_:Rl h z) {a b:El},a.length=2^h→b.length=2^h→nrm h w (mulE h z a b)≤nrm h w a*nrm h w b:=by
 induction h with
 |zero=>
  intro _ _ a b ha hb;obtain⟨x,rfl⟩:=one_of ha;obtain⟨y,rfl⟩:=one_of hb;show ab (x*y)≤ab x*ab y;rw[ab_mul];exact Rat.le_refl
 |succ h ih=>
  intro W L a b ha hb;have W':=W.le (Nat.le_succ h);have L':=L.le (Nat.le_succ h);obtain⟨hw1,hw2⟩:=W h (by omega);have hr:=(L h (by omega)).1;have g1:=ih W' L' (len_take ha) (len_take hb);have g2:=ih W' L' (len_drop ha) (len_drop hb);have g3:=ih W' L' (len_take ha) (len_drop hb);have g4:=ih W' L' (len_drop ha) (len_take hb);have g5:=ih W' L' (a:=mulE h z (a.drop (2^h)) (b.drop (2^h))) mulE_len hr;have k1:=nrm_add (w:=w) (a:=mulE h z (a.take (2^h)) (b.take (2^h))) (b:=mulE h z (mulE h z (a.drop (2^h)) (b.drop (2^h))) (z.getD h [])) mulE_len mulE_len;have k2:=nrm_add (w:=w) (a:=mulE h z (a.take (2^h)) (b.drop (2^h))) (b:=mulE h z (a.drop (2^h)) (b.take (2^h))) mulE_len mulE_len;rw[mulE,nrm_app (addE_len mulE_len mulE_len),nrm,nrm];have n1:0≤nrm h w (a.take (2^h)):=nrm_nn;have n2:0≤nrm h w (a.drop (2^h)):=nrm_nn;have n3:0≤nrm h w (b.take (2^h)):=nrm_nn;have n4:0≤nrm h w (b.drop (2^h)):=nrm_nn;have n5:0≤nrm h w (mulE h z (a.drop (2^h)) (b.drop (2^h))):=nrm_nn;have n6:0≤nrm h w (z.getD h []):=nrm_nn;have hw:(0:Rat)≤w h:=Rat.natCast_nonneg;have m5:=mul_le n5 (Rat.mul_nonneg hw hw) g2 hw2;have m6:=Rat.mul_le_mul_of_nonneg_right k2 hw;have m7:=Rat.mul_le_mul_of_nonneg_right g3 hw;have m8:=Rat.mul_le_mul_of_nonneg_right g4 hw
  grind
def IsI (x:Rat):Prop:=∃n:Int,x=(n:Rat)
theorem IsI.add {x y:Rat}(h:IsI x)(k:IsI y):IsI (x+y):=by
 obtain⟨m,rfl⟩:=h;obtain⟨n,rfl⟩:=k;exact⟨m+n,(Rat.intCast_add m n).symm⟩
theorem IsI.mul {x y:Rat}(h:IsI x)(k:IsI y):IsI (x*y):=by
 obtain⟨m,rfl⟩:=h;obtain⟨n,rfl⟩:=k;exact⟨m*n,(Rat.intCast_mul m n).symm⟩
theorem IsI.neg {x:Rat}(h:IsI x):IsI (-x):=by
 obtain⟨m,rfl⟩:=h;exact⟨-m,(Rat.intCast_neg m).symm⟩
theorem IsI.zero:IsI 0:=⟨0,rfl⟩
def IntE (a:El):Prop:=∀x∈a,IsI x
theorem IntE.take {a:El}(h:IntE a)(n:Nat):IntE (a.take n):=fun x hx=>h x (List.mem_of_mem_take hx)
theorem IntE.drop {a:El}(h:IntE a)(n:Nat):IntE (a.drop n):=fun x hx=>h x (List.mem_of_mem_drop hx)
theorem IntE.app {a b:El}(h:IntE a)(k:IntE b):IntE (a++b):=fun x hx=>by
 rcases List.mem_append.1 hx with hx|hx
 ·exact h x hx
 exact k x hx
theorem IntE.neg {a:El}(h:IntE a):IntE (negE a):=fun x hx=>by
 obtain⟨y,hy,rfl⟩:=List.mem_map.1 hx;exact(h y hy).neg
theorem IntE.add:∀{a b:El},IntE a→IntE b→IntE (addE a b)
 |[],b,_,_=>by intro x hx;cases b<;>cases hx
 |x::a,[],_,_=>by intro y hy;cases hy
 |x::a,y::b,h,k=>by
  intro u hu;have hu:u=x+y∨u∈addE a b:=List.mem_cons.1 hu
  rcases hu with rfl|hu
  ·exact(h x (by simp)).add (k y (by simp))
  exact IntE.add (fun v hv=>h v (by simp[hv])) (fun v hv=>k v (by simp[hv])) u hu
theorem IntE.get {a:El}(h:IntE a)(i:Nat):IsI (a.getD i 0):=by
 rw[X7]
 cases e:a[i]? with
 |none=>exact IsI.zero
 |some x=>exact h x (List.mem_of_getElem? e)
def IntT (h:Nat)(z:List El):Prop:=∀i,i<h→IntE (z.getD i [])
theorem IntT.le {h k:Nat}{z:List El}(H:IntT h z)(hk:k≤h):IntT k z:=fun i hi=>H i (by omega)
theorem IntE.mul {h:Nat}{z:List El}:∀(_:IntT h z) {a b:El},IntE a→IntE b→IntE (mulE h z a b):=by
 induction h with
 |zero=>
  intro _ a b ha hb x hx;rw[mulE,List.mem_singleton]at hx;subst hx;exact(ha.get 0).mul (hb.get 0)
 |succ h ih=>
  intro T a b ha hb;have T':=T.le (Nat.le_succ h);rw[mulE];exact IntE.app (IntE.add (ih T' (ha.take _) (hb.take _)) (ih T' (ih T' (ha.drop _) (hb.drop _)) (T h (by omega))))
   (IntE.add (ih T' (ha.take _) (hb.drop _)) (ih T' (ha.drop _) (hb.take _)))
theorem IntE.zero {n:Nat}:IntE (zE n):=fun x hx=>by
 rw[List.eq_of_mem_replicate hx];exact IsI.zero
theorem IntE.rat {h:Nat}{x:Rat}(hx:IsI x):IntE (ratE h x):=fun y hy=>by
 rcases List.mem_cons.1 hy with rfl|hy
 ·exact hx
 exact IntE.zero y hy
structure Zt (h:Nat) (z:List El) (w:Nat→Nat):Prop where
 rd:Rd h z
 int:IntT h z
 wt:Wt h z w
theorem Zt.le {h k:Nat}{z:List El}{w:Nat→Nat}(H:Zt h z w)(hk:k≤h):Zt k z w:=⟨H.rd.le hk,H.int.le hk,H.wt.le hk⟩
def p2 (H:Nat):Rat:=((2^H:Nat):Rat)
theorem p2_add (H K:Nat):p2 (H+K)=p2 H*p2 K:=by unfold p2;rw[Nat.pow_add,Rat.natCast_mul]
theorem p2_nn (H:Nat):0≤p2 H:=Rat.natCast_nonneg
theorem p2_mono {H K:Nat}(h:H≤K):p2 H≤p2 K:=Rat.natCast_le_natCast.2 (O3 (by decide) h)
theorem p2_one:p2 1=2:=rfl
theorem p2_zero:p2 0=1:=rfl
theorem p2_ge1 (H:Nat):1≤p2 H:=by rw[←p2_zero];exact p2_mono (O2 _)
theorem mul_p2 {a b:Rat}{H K:Nat}(ha:0≤a)(h:a≤p2 H)(k:b≤p2 K):a*b≤p2 (H+K):=by
 rw[p2_add];exact mul_le ha (p2_nn _) h k
def Ht (h:Nat)(z:List El)(w:Nat→Nat)(x:R)(H:Nat):Prop:=
 ∃P Q:El,P.length=2^h∧Q.length=2^h∧IntE P∧IntE Q∧val h z Q≠q 0∧x*val h z Q=val h z P∧nrm h w P≤p2 H∧nrm h w Q≤p2 H
section
variable {h:Nat}{z:List El}{w:Nat→Nat}
theorem Ht.mono {x:R}{H K:Nat}(hx:Ht h z w x H)(hk:H≤K):Ht h z w x K:=by
 obtain⟨P,Q,hP,hQ,iP,iQ,h0,he,nP,nQ⟩:=hx;exact⟨P,Q,hP,hQ,iP,iQ,h0,he,Rat.le_trans nP (p2_mono hk),Rat.le_trans nQ (p2_mono hk)⟩
theorem Ht.add (Z:Zt h z w){x y:R}{H K:Nat}(hx:Ht h z w x H)(hy:Ht h z w y K):Ht h z w (x+y) (H+K+1):=by
 obtain⟨P,Q,hP,hQ,iP,iQ,h0,he,nP,nQ⟩:=hx;obtain⟨S,T,hS,hT,iS,iT,k0,ke,nS,nT⟩:=hy;have m1:=nrm_mul Z.wt Z.rd.rl hP hT;have m2:=nrm_mul Z.wt Z.rd.rl hS hQ;have m3:=nrm_mul Z.wt Z.rd.rl hQ hT;have m4:=nrm_add (w:=w) (a:=mulE h z P T) (b:=mulE h z S Q) mulE_len mulE_len;have b1:=mul_p2 nrm_nn nP nT;have b2:=mul_p2 nrm_nn nS nQ;have b3:=mul_p2 nrm_nn nQ nT;rw[Nat.add_comm K H]at b2;refine⟨addE (mulE h z P T) (mulE h z S Q),mulE h z Q T,addE_len mulE_len mulE_len,mulE_len,IntE.add (IntE.mul Z.int iP iT) (IntE.mul Z.int iS iQ),IntE.mul Z.int iQ iT,?_,?_,?_,?_⟩
 ·rw[val_mul Z.rd.rl hQ hT];exact mul_ne h0 k0
 ·rw[val_mul Z.rd.rl hQ hT,val_add mulE_len mulE_len,val_mul Z.rd.rl hP hT,val_mul Z.rd.rl hS hQ,id_frac,he,ke]
 ·rw[p2_add _ 1,p2_one];grind
 rw[p2_add _ 1,p2_one];have:=p2_nn (H+K);grind
theorem Ht.mul (Z:Zt h z w){x y:R}{H K:Nat}(hx:Ht h z w x H)(hy:Ht h z w y K):Ht h z w (x*y) (H+K):=by
 obtain⟨P,Q,hP,hQ,iP,iQ,h0,he,nP,nQ⟩:=hx;obtain⟨S,T,hS,hT,iS,iT,k0,ke,nS,nT⟩:=hy;have m1:=nrm_mul Z.wt Z.rd.rl hP hS;have m3:=nrm_mul Z.wt Z.rd.rl hQ hT;have b1:=mul_p2 nrm_nn nP nS;have b3:=mul_p2 nrm_nn nQ nT;refine⟨mulE h z P S,mulE h z Q T,mulE_len,mulE_len,IntE.mul Z.int iP iS,IntE.mul Z.int iQ iT,?_,?_,Rat.le_trans m1 b1,Rat.le_trans m3 b3⟩
 ·rw[val_mul Z.rd.rl hQ hT];exact mul_ne h0 k0
 rw[val_mul Z.rd.rl hQ hT,val_mul Z.rd.rl hP hS,id_prod,he,ke]
theorem Ht.neg {x:R}{H:Nat}(hx:Ht h z w x H):Ht h z w (-x) H:=by
 obtain⟨P,Q,hP,hQ,iP,iQ,h0,he,nP,nQ⟩:=hx;exact⟨negE P,Q,by rw[negE_len,hP],hQ,iP.neg,iQ,h0,by rw[neg_mul,he,val_neg hP],by rw[nrm_neg hP];exact nP,nQ⟩
theorem Ht.inv {x y:R}{H:Nat}(hx:Ht h z w x H)(h1:x*y=q 1):Ht h z w y H:=by
 obtain⟨P,Q,hP,hQ,iP,iQ,h0,he,nP,nQ⟩:=hx;refine⟨Q,P,hQ,hP,iQ,iP,?_,?_,nQ,nP⟩
 ·rw[←he];refine mul_ne ?_ h0;intro e;rw[e,zero_mul]at h1;exact one_ne h1.symm
 rw[←he,←mul_assoc,mul_comm y,h1,one_mul]
theorem Ht.rat {x:Rat}{H:Nat}(h1:x.num.natAbs≤2^H)(h2:x.den≤2^H):Ht h z w (q x) H:=by
 have hd:(x.den:Rat)≠0:=fun e=>x.den_nz (Rat.natCast_inj.1 e);refine⟨ratE h (x.num:Rat),ratE h (x.den:Rat),ratE_len,ratE_len,IntE.rat ⟨_,rfl⟩,IntE.rat ⟨(x.den:Int),(Rat.intCast_natCast _).symm⟩,?_,?_,?_,?_⟩
 ·rw[val_ratE];exact fun e=>hd (q_inj e)
 ·rw[val_ratE,val_ratE,←q_mul,mul_den]
 ·rw[nrm_rat];unfold ab p2
  have:((x.num.natAbs:Nat):Rat)≤((2^H:Nat):Rat):=Rat.natCast_le_natCast.2 h1
  refine Rat.le_trans ?_ this;rw[←Rat.intCast_natCast]
  split
  ·exact Rat.intCast_le_intCast.2 (by omega)
  rw[←Rat.intCast_neg];exact Rat.intCast_le_intCast.2 (by omega)
 rw[nrm_rat];unfold ab p2;rw[if_pos Rat.natCast_nonneg];exact Rat.natCast_le_natCast.2 h2
theorem Ht.up {x:R}{H:Nat}(hx:Ht h z w x H):Ht (h+1) z w x H:=by
 obtain⟨P,Q,hP,hQ,iP,iQ,h0,he,nP,nQ⟩:=hx;have e:∀A:El,A.length=2^h→nrm (h+1) w (A++zE (2^h))=nrm h w A:=fun A hA=>by rw[nrm_app hA,nrm_zero];grind
 refine⟨P++zE (2^h),Q++zE (2^h),?_,?_,iP.app IntE.zero,iQ.app IntE.zero,by rw[val_up hQ];exact h0,by rw[val_up hQ,val_up hP];exact he,by rw[e P hP];exact nP,by rw[e Q hQ];exact nQ⟩
 ·rw[X6,hP,zE_len,O4];omega
 rw[X6,hQ,zE_len,O4];omega
theorem Ht.le {k:Nat}{x:R}{H:Nat}(hx:Ht h z w x H)(hk:h≤k):Ht k z w x H:=by
 obtain⟨d,rfl⟩:=Nat.exists_eq_add_of_le hk;clear hk
 induction d with
 |zero=>exact hx
 |succ d ih=>exact ih.up
theorem Ht.root {H:Nat}(hw:w h≤2^H):Ht (h+1) z w (sqrt (val h z (z.getD h []))) H:=by
 refine⟨zE (2^h)++ratE h 1,ratE (h+1) 1,?_,ratE_len,IntE.zero.app (IntE.rat ⟨1,rfl⟩),IntE.rat ⟨1,rfl⟩,?_,?_,?_,?_⟩
 ·rw[X6,zE_len,ratE_len,O4];omega
 ·rw[val_ratE];exact one_ne
 ·rw[val_ratE,mul_one,val_app zE_len,val_zero,val_ratE,one_mul,zero_add]
 ·rw[nrm_app zE_len,nrm_zero,nrm_rat]
  have:(w h:Rat)≤p2 H:=Rat.natCast_le_natCast.2 hw
  have e:ab 1=1:=rfl;rw[e];grind
 rw[nrm_rat];exact p2_ge1 H
end
end Go.Tw
namespace Go.Tw
open Go Go.R
def conE (h:Nat)(a:El):El:=a.take (2^h)++negE (a.drop (2^h))
theorem conE_len {h:Nat}{a:El}(ha:a.length=2^(h+1)):(conE h a).length=2^(h+1):=by
 unfold conE;rw[X6,negE_len,len_take ha,len_drop ha,O4];omega
theorem conE_int {h:Nat}{a:El}(ha:IntE a):IntE (conE h a):=(ha.take _).app (ha.drop _).neg
section
variable {h:Nat}{z:List El}{w:Nat→Nat}
theorem val_conE {a:El}(ha:a.length=2^(h+1)):val (h+1) z (conE h a)=val h z (a.take (2^h))+ -val h z (a.drop (2^h))*sqrt (val h z (z.getD h [])):=by
 unfold conE;rw[val_app (len_take ha),val_neg (len_drop ha)]
theorem nrm_conE {a:El}(ha:a.length=2^(h+1)):nrm (h+1) w (conE h a)=nrm (h+1) w a:=by
 unfold conE;rw[nrm_app (len_take ha),nrm_neg (len_drop ha),nrm]
theorem nrm_normE (W:Wt (h+1) z w)(L:Rl (h+1) z){a:El}(ha:a.length=2^(h+1)):nrm h w (normE h z a)≤nrm (h+1) w a*nrm (h+1) w a:=by
 have W':=W.le (Nat.le_succ h);have L':=L.le (Nat.le_succ h);obtain⟨hw1,hw2⟩:=W h (by omega);have hr:=(L h (by omega)).1;have g1:=nrm_mul W' L' (len_take ha) (len_take ha);have g2:=nrm_mul W' L' (len_drop ha) (len_drop ha);have g5:=nrm_mul W' L' (a:=mulE h z (a.drop (2^h)) (a.drop (2^h))) mulE_len hr;have k1:=nrm_add (w:=w) (a:=mulE h z (a.take (2^h)) (a.take (2^h))) (b:=negE (mulE h z (mulE h z (a.drop (2^h)) (a.drop (2^h))) (z.getD h []))) mulE_len (by rw[negE_len,mulE_len]);rw[nrm_neg mulE_len]at k1;unfold normE;rw[nrm];have n1:0≤nrm h w (a.take (2^h)):=nrm_nn;have n2:0≤nrm h w (a.drop (2^h)):=nrm_nn;have n5:0≤nrm h w (mulE h z (a.drop (2^h)) (a.drop (2^h))):=nrm_nn;have hw:(0:Rat)≤w h:=Rat.natCast_nonneg;have m5:=mul_le n5 (Rat.mul_nonneg hw hw) g2 hw2;have m6:=Rat.mul_nonneg (Rat.mul_nonneg n1 n2) hw
 grind
theorem normE_int (T:IntT (h+1) z){a:El}(ha:IntE a):IntE (normE h z a):=by
 have T':=T.le (Nat.le_succ h);unfold normE;exact IntE.add (IntE.mul T' (ha.take _) (ha.take _)) (IntE.neg (IntE.mul T' (IntE.mul T' (ha.drop _) (ha.drop _)) (T h (by omega))))
theorem take_le {a:El}:nrm h w (a.take (2^h))≤nrm (h+1) w a:=by
 rw[nrm];have n2:0≤nrm h w (a.drop (2^h)):=nrm_nn;have hw:(0:Rat)≤w h:=Rat.natCast_nonneg
 have:=Rat.mul_nonneg n2 hw
 grind
theorem drop_le (W:Wt (h+1) z w){a:El}:nrm h w (a.drop (2^h))≤nrm (h+1) w a:=by
 rw[nrm];have n1:0≤nrm h w (a.take (2^h)):=nrm_nn;have n2:0≤nrm h w (a.drop (2^h)):=nrm_nn;have hw:(1:Rat)≤w h:=Rat.natCast_le_natCast.2 (W h (by omega)).1
 have:=Rat.mul_le_mul_of_nonneg_left hw n2
 grind
theorem val_normE' (L:Rl (h+1) z){a:El}(ha:a.length=2^(h+1)):val (h+1) z a*val (h+1) z (conE h a)=val h z (normE h z a):=by
 rw[val_conE ha,val_normE L ha,←id_norm,val,sub_def,neg_mul]
theorem normE_ne (R:Rd (h+1) z){a:El}(ha:a.length=2^(h+1))(h0:val (h+1) z a≠q 0):val h z (normE h z a)≠q 0:=by
 rw[←val_normE' R.rl ha];refine mul_ne h0 fun e=>h0 ?_;rw[val_conE ha]at e
 have:=split_zero R (.of (len_take ha)) (In.of (len_drop ha)).neg e
 have e2:=congrArg (- ·) this.2;simp only[neg_neg,neg_q0]at e2;rw[val,this.1,e2,zero_mul,add_zero]
theorem Ht.split (Z:Zt (h+1) z w){u v:R}{H:Nat}(hu:In h z u)(hv:In h z v)(hx:Ht (h+1) z w (u+v*sqrt (val h z (z.getD h []))) H):
  Ht h z w u (2*H)∧Ht h z w v (2*H)∧Ht h z w (u*u+ -(v*v*val h z (z.getD h []))) (2*H):=by
 obtain⟨P,Q,hP,hQ,iP,iQ,h0,he,nP,nQ⟩:=hx;have L:=Z.rd.rl;have Z':=Z.le (Nat.le_succ h);have e2:2*H=H+H:=by omega
 have hN0:=normE_ne Z.rd hQ h0;have hNn:nrm h w (normE h z Q)≤p2 (2*H):=by
  rw[e2];exact Rat.le_trans (nrm_normE Z.wt L hQ) (mul_p2 nrm_nn nQ nQ)
 have hNi:=normE_int Z.int iQ
 -- the numerator times the conjugate of the denominator
 have hM:(mulE (h+1) z P (conE h Q)).length=2^(h+1):=mulE_len;have hMi:IntE (mulE (h+1) z P (conE h Q)):=IntE.mul Z.int iP (conE_int iQ);have hMn:nrm (h+1) w (mulE (h+1) z P (conE h Q))≤p2 (2*H):=by
  rw[e2];refine Rat.le_trans (nrm_mul Z.wt L hP (conE_len hQ)) (mul_p2 nrm_nn nP ?_);rw[nrm_conE hQ];exact nQ
 have hMv:val (h+1) z (mulE (h+1) z P (conE h Q))=(u+v*sqrt (val h z (z.getD h [])))*val h z (normE h z Q):=by
  rw[val_mul L hP (conE_len hQ),←he,mul_assoc,val_normE' L hQ]
 rw[add_mul,mul_assoc v,mul_comm (sqrt _),←mul_assoc v]at hMv;obtain⟨s1,s2⟩:=split_inj Z.rd (.of (len_take hM)) (.of (len_drop hM)) (In.mul Z'.rd.rl hu (.of normE_len)) (In.mul Z'.rd.rl hv (.of normE_len)) hMv;refine⟨⟨_,_,len_take hM,normE_len,hMi.take _,hNi,hN0,s1.symm,Rat.le_trans take_le hMn,hNn⟩,
  ⟨_,_,len_drop hM,normE_len,hMi.drop _,hNi,hN0,s2.symm,Rat.le_trans (drop_le Z.wt) hMn,hNn⟩,?_⟩
 refine⟨normE h z P,normE h z Q,normE_len,normE_len,normE_int Z.int iP,hNi,hN0,?_,?_,hNn⟩
 ·-- conjugates of both sides
  have hr:=L.root;have hn:=id_norm u v (sqrt (val h z (z.getD h [])));rw[hr,sub_def,←neg_mul]at hn;rw[←val_normE' L hP,←val_normE' L hQ,val_conE hP,val_conE hQ,←he,←hn];have he2:(u+v*sqrt (val h z (z.getD h [])))*(val h z (Q.take (2^h))+val h z (Q.drop (2^h))*sqrt (val h z (z.getD h [])))=val h z (P.take (2^h))+val h z (P.drop (2^h))*sqrt (val h z (z.getD h [])):=he;rw[id_mul,hr]at he2;obtain⟨c1,c2⟩:=split_inj Z.rd ((In.mul Z'.rd.rl hu (.of (len_take hQ))).add (In.mul Z'.rd.rl (In.mul Z'.rd.rl hv (.of (len_drop hQ))) (.of (L h (by omega)).1))) ((In.mul Z'.rd.rl hu (.of (len_drop hQ))).add (In.mul Z'.rd.rl hv (.of (len_take hQ)))) (.of (len_take hP)) (.of (len_drop hP)) he2;have hc:=id_conj u v (val h z (Q.take (2^h))) (val h z (Q.drop (2^h))) (sqrt (val h z (z.getD h [])));rw[hr,c1,c2]at hc;rw[id_prod,hc]
 rw[e2];exact Rat.le_trans (nrm_normE Z.wt L hP) (mul_p2 nrm_nn nP nP)
theorem IsI.abs_le {x:Rat}{n:Int}{H:Nat}(h:x=(n:Rat))(k:ab x≤p2 H):n.natAbs≤2^H:=by
 subst h;unfold ab p2 at k;rw[←Rat.intCast_natCast]at k
 split at k
 ·rename_i h0
  have h0:(0:Int)≤n:=Rat.intCast_le_intCast.1 h0
  have:=Rat.intCast_le_intCast.1 k
  omega
 rename_i h0
 have h0:¬(0:Int)≤n:=fun e=>h0 (Rat.intCast_le_intCast.2 e);rw[←Rat.intCast_neg]at k
 have:=Rat.intCast_le_intCast.1 k
 omega
theorem Ht.zero {x:Rat}{H:Nat}(hx:Ht 0 z w (q x) H):x.num.natAbs≤2^H∧x.den≤2^H:=by
 obtain⟨P,Q,hP,hQ,iP,iQ,h0,he,nP,nQ⟩:=hx;obtain⟨a,rfl⟩:=one_of hP;obtain⟨b,rfl⟩:=one_of hQ;obtain⟨m,hm⟩:=iP a (by simp);obtain⟨n,hn⟩:=iQ b (by simp);have k1:m.natAbs≤2^H:=IsI.abs_le hm nP;have k2:n.natAbs≤2^H:=IsI.abs_le hn nQ;have he:q x*q b=q a:=he;rw[←q_mul]at he;have he:=q_inj he;have hb:b≠0:=fun e=>h0 (by show q b=q 0;rw[e]);subst hm;subst hn;have e1:((x.num*n:Int):Rat)=((m*x.den:Int):Rat):=by
  have:=mul_den x
  rw[Rat.intCast_mul,Rat.intCast_mul,←he,←this,Rat.intCast_natCast];grind
 have e2:x.num*n=m*x.den:=Rat.intCast_inj.1 e1;have n0:n≠0:=fun e=>hb (by rw[e];rfl);have e3:x.num.natAbs*n.natAbs=m.natAbs*x.den:=by
  have:=congrArg Int.natAbs e2
  rwa [Int.natAbs_mul,Int.natAbs_mul,Int.natAbs_natCast]at this
 have d1:x.den∣n.natAbs:=Nat.Coprime.dvd_of_dvd_mul_left x.reduced.symm ⟨m.natAbs,by rw[e3,O6]⟩;have hn0:0<n.natAbs:=Int.natAbs_pos.2 n0;have d2:=Nat.le_of_dvd hn0 d1;refine⟨?_,by omega⟩
 by_cases m0:m.natAbs=0
 ·have:x.num.natAbs*n.natAbs=0:=by rw[e3,m0,Nat.zero_mul]
  rcases Nat.mul_eq_zero.1 this with h|h
  ·omega
  omega
 have d3:x.num.natAbs∣m.natAbs:=Nat.Coprime.dvd_of_dvd_mul_right x.reduced ⟨n.natAbs,e3.symm⟩;exact O0 (Nat.le_of_dvd (by omega) d3) k1
end
structure Lk (h:Nat) (t z:List El) (d:Nat→Nat):Prop where
 d0:∀i,i<h→0<d i
 v:∀i,i<h→val i z (z.getD i [])=q ((d i:Rat)*(d i:Rat))*val i t (t.getD i [])
theorem Lk.le {h k:Nat}{t z:List El}{d:Nat→Nat}(H:Lk h t z d)(hk:k≤h):Lk k t z d:=⟨fun i hi=>H.d0 i (by omega),fun i hi=>H.v i (by omega)⟩
theorem q_pos_nat {n:Nat}(h:0<n):pos (q (n:Rat)):=q_pos.2 (Rat.natCast_pos.2 h)
theorem Lk.root {h:Nat}{t z:List El}{d:Nat→Nat}(H:Lk (h+1) t z d)(L:Rl (h+1) t):sqrt (val h z (z.getD h []))=q (d h:Rat)*sqrt (val h t (t.getD h [])):=by
 have hd:=q_pos_nat (H.d0 h (by omega));have hs:=sqrt_pos (L h (by omega)).2;rw[H.v h (by omega),q_mul]
 have:q ↑(d h)*q ↑(d h)*val h t (t.getD h [])=(q (d h:Rat)*sqrt (val h t (t.getD h [])))*(q (d h:Rat)*sqrt (val h t (t.getD h []))):=by
  rw[id_prod,L.root]
 rw[this];exact sqrt_sq (nn_iff.2 (.inr (pos_mul hd hs)))
theorem qn_inv {n:Nat}(h:0<n):q (n:Rat)*q ((n:Rat)⁻¹)=q 1:=by
 rw[←q_mul,Rat.mul_inv_cancel]
 exact fun e=>by have:=Rat.natCast_inj (a:=n) (b:=0)|>.1 e;omega
theorem Lk.in_iff {t z:List El}{d:Nat→Nat}{h:Nat}:∀(_:Lk h t z d) (_:Rl h t) (x:R),In h t x↔In h z x:=by
 induction h with
 |zero=>intro _ _ x;exact Iff.rfl
 |succ h ih=>
  intro H L x;have ih:=ih (H.le (Nat.le_succ h)) (L.le (Nat.le_succ h));have hr:=H.root L;have hd:=qn_inv (H.d0 h (by omega))
  constructor
  ·intro hx;obtain⟨u,v,hu,hv,rfl⟩:=hx.split
   have:u+v*sqrt (val h t (t.getD h []))=u+v*q ((d h:Rat)⁻¹)*sqrt (val h z (z.getD h [])):=by
    rw[hr,mul_assoc v,←mul_assoc (q _),mul_comm (q ((d h:Rat)⁻¹)),hd,one_mul]
   rw[this];obtain⟨a,ha,e⟩:=(ih _).1 hv;refine In.join ((ih _).1 hu) ?_;have hm:In h z (v*q ((d h:Rat)⁻¹)):=by
    rw[←e];refine⟨a.map (· *(d h:Rat)⁻¹),by rw[List.length_map,ha],?_⟩;have key:∀{k:Nat} {a:El} {c:Rat},a.length=2^k→val k z (a.map (· *c))=val k z a*q c:=by
     intro k
     induction k with
     |zero=>
      intro a c ha;obtain⟨x,rfl⟩:=one_of ha;exact q_mul x c
     |succ k ihk=>
      intro a c ha;rw[val,←List.map_take,←List.map_drop,ihk (len_take ha),ihk (len_drop ha),val,add_mul,mul_assoc,mul_assoc,mul_comm (q c)]
    exact key ha
   exact hm
  intro hx;obtain⟨u,v,hu,hv,rfl⟩:=hx.split;rw[hr,←mul_assoc];exact In.join ((ih _).2 hu) (In.mul (L.le (Nat.le_succ h)) ((ih _).2 hv) (In.rat _))
theorem coef_bound {t z:List El}{d w:Nat→Nat}{E:Nat}{h:Nat}:∀(_:Lk h t z d) (_:Rl h t) (_:Zt h z w) (_:∀i,i<h→d i≤2^E) {a:El} {H:Nat},a.length=2^h→Ht h z w (val h t a) H→
  ∀c∈a,c.num.natAbs≤2^(2^h*(H+E))∧c.den≤2^(2^h*(H+E)):=by
 induction h with
 |zero=>
  intro _ _ _ _ a H ha hx c hc;obtain⟨x,rfl⟩:=one_of ha;rw[List.mem_singleton]at hc;subst hc
  have:=hx.zero
  have e:2^H≤2^(2^0*(H+E)):=O3 (by decide) (by omega);exact⟨O0 this.1 e,O0 this.2 e⟩
 |succ h ih=>
  intro K L Z hE a H ha hx c hc;have K':=K.le (Nat.le_succ h);have L':=L.le (Nat.le_succ h);have Z':=Z.le (Nat.le_succ h);have hr:=K.root L;have hd:=qn_inv (K.d0 h (by omega));have hu:In h t (val h t (a.take (2^h))):=.of (len_take ha);have hv:In h t (val h t (a.drop (2^h))*q ((d h:Rat)⁻¹)):=In.mul L' (.of (len_drop ha)) (In.rat _);have e:val (h+1) t a=val h t (a.take (2^h))+val h t (a.drop (2^h))*q ((d h:Rat)⁻¹)*sqrt (val h z (z.getD h [])):=by
   rw[hr,mul_assoc (val h t _),←mul_assoc (q _),mul_comm (q ((d h:Rat)⁻¹)),hd,one_mul];rfl
  rw[e]at hx;obtain⟨k1,k2,_⟩:=Ht.split Z ((K'.in_iff L' _).1 hu) ((K'.in_iff L' _).1 hv) hx;have hdn:Ht h z w (q (d h:Rat)) E:=by
   refine Ht.rat ?_ ?_
   ·rw[Rat.num_natCast,Int.natAbs_natCast];exact hE h (by omega)
   rw[Rat.den_natCast];exact Nat.one_le_two_pow
  have k3:=k2.mul Z' hdn;rw[mul_assoc,mul_comm (q _),hd,mul_one]at k3;have hm:2^h*(2*H+E+E)=2^(h+1)*(H+E):=by
   rw[O4,Nat.mul_assoc];congr 1;omega
  rw[←List.take_append_drop (2^h) a,List.mem_append]at hc
  rcases hc with hc|hc
  ·have:=ih K' L' Z' (fun i hi=>hE i (by omega)) (len_take ha) (k1.mono (Nat.le_add_right _ E)) c hc
   rwa [hm]at this
  have:=ih K' L' Z' (fun i hi=>hE i (by omega)) (len_drop ha) k3 c hc
  rwa [hm]at this
end Go.Tw
namespace Go.Tw
open Go Go.R
theorem val_congr {t z:List El}{h:Nat}:∀(_:∀i,i<h→t.getD i []=z.getD i []) (a:El),val h t a=val h z a:=by
 induction h with
 |zero=>intro _ a;rfl
 |succ h ih=>
  intro H a;have ih:=ih (fun i hi=>H i (by omega));rw[val,val,ih,ih,H h (by omega),ih]
theorem Rd.congr {t z:List El}{h:Nat}(e:∀i,i<h→t.getD i []=z.getD i [])(H:Rd h t):Rd h z:=by
 have ev:∀i,i≤h→∀a,val i t a=val i z a:=fun i hi a=>val_congr (fun j hj=>e j (by omega)) a;refine⟨fun i hi=>?_,fun i hi x hx=>?_⟩
 ·rw[←e i hi,←ev i (by omega)];exact H.rl i hi
 obtain⟨a,ha,rfl⟩:=hx;rw[←e i hi,←ev i (by omega),←ev i (by omega)];exact H.ns i hi _ (.of ha)
theorem nrm_congr {w v:Nat→Nat}{h:Nat}:∀(_:∀i,i<h→w i=v i) (a:El),nrm h w a=nrm h v a:=by
 induction h with
 |zero=>intro _ a;rfl
 |succ h ih=>
  intro H a;have ih:=ih (fun i hi=>H i (by omega));rw[nrm,nrm,ih,ih,H h (by omega)]
section
variable {h:Nat}{z:List El}{w:Nat→Nat}
theorem Ht.in (Z:Zt h z w){x:R}{H:Nat}(hx:Ht h z w x H):In h z x:=by
 obtain⟨P,Q,hP,hQ,iP,iQ,h0,he,nP,nQ⟩:=hx;obtain⟨y,hy,hy2⟩:=In.inv' Z.rd _ (.of hQ) h0
 have:x=val h z P*y:=by rw[←he,mul_assoc,hy2,mul_one]
 rw[this];exact In.mul Z.rd.rl (.of hP) hy
theorem adj:∀{h:Nat} (_:Zt h z w) {Q:El} {K:Nat},Q.length=2^h→IntE Q→val h z Q≠q 0→nrm h w Q≤p2 K→
  ∃(A:El) (N:Nat),A.length=2^h∧IntE A∧0<N∧val h z Q*val h z A=q (N:Rat)∧nrm h w A≤p2 ((2^h-1)*K)∧N≤2^(2^h*K):=by
 intro h
 induction h with
 |zero=>
  intro Z Q K hQ iQ h0 nQ;obtain⟨x,rfl⟩:=one_of hQ;obtain⟨n,hn⟩:=iQ x (by simp);have k1:n.natAbs≤2^K:=IsI.abs_le hn nQ;have n0:n≠0:=fun e=>h0 (by show q x=q 0;rw[hn,e];rfl);have e0:p2 ((2^0-1)*K)=1:=by rw[show (2^0-1)*K=0 by simp];rfl
  have e1:(2:Nat)^(2^0*K)=2^K:=by rw[Nat.pow_zero,Nat.one_mul]
  rw[e0,e1]
  by_cases hp:0≤n
  ·refine⟨[1],n.natAbs,rfl,fun y hy=>⟨1,by rw[List.mem_singleton.1 hy];rfl⟩,by omega,?_,by show ab 1≤1;decide,k1⟩;show q x*q 1=_;rw[←q_mul,hn,←Rat.intCast_natCast,show ((n.natAbs:Nat):Int)=n by omega,Rat.mul_one]
  refine⟨[-1],n.natAbs,rfl,fun y hy=>⟨-1,by rw[List.mem_singleton.1 hy];rfl⟩,by omega,?_,by show ab (-1)≤1;decide,k1⟩;show q x*q (-1)=_;rw[←q_mul,hn,←Rat.intCast_natCast,show ((n.natAbs:Nat):Int)= -n by omega,Rat.intCast_neg]
  congr 1;grind
 |succ h ih=>
  intro Z Q K hQ iQ h0 nQ;have Z':=Z.le (Nat.le_succ h);have hNn:nrm h w (normE h z Q)≤p2 (2*K):=by
   rw[show 2*K=K+K by omega];exact Rat.le_trans (nrm_normE Z.wt Z.rd.rl hQ) (mul_p2 nrm_nn nQ nQ)
  obtain⟨A,N,hA,iA,hN,he,nA,hl⟩:=ih Z' (normE_len (a:=Q)) (normE_int Z.int iQ) (normE_ne Z.rd hQ h0) hNn;have hA2:(A++zE (2^h)).length=2^(h+1):=by rw[X6,hA,zE_len,O4];omega
  refine⟨mulE (h+1) z (conE h Q) (A++zE (2^h)),N,mulE_len,IntE.mul Z.int (conE_int iQ) (iA.app IntE.zero),hN,?_,?_,?_⟩
  ·rw[val_mul Z.rd.rl (conE_len hQ) hA2,val_up hA,←mul_assoc,val_normE' Z.rd.rl hQ,he]
  ·refine Rat.le_trans (nrm_mul Z.wt Z.rd.rl (conE_len hQ) hA2) ?_;have e:(2^(h+1)-1)*K=K+(2^h-1)*(2*K):=by
    have:=Nat.two_pow_pos h
    rw[O4,Nat.sub_mul,Nat.sub_mul,Nat.mul_assoc,Nat.one_mul,Nat.one_mul]
    have:2*K≤2^h*(2*K):=Nat.le_mul_of_pos_left _ this
    omega
   rw[e,nrm_conE hQ,nrm_app hA,nrm_zero];refine mul_p2 nrm_nn nQ ?_
   grind
  rw[O4,Nat.mul_assoc];exact hl
theorem Ht.whole (Z:Zt h z w){x:R}{K:Nat}(hx:Ht h z w x K):∃(M:El) (N:Nat),M.length=2^h∧IntE M∧0<N∧x*q (N:Rat)=val h z M∧nrm h w M≤p2 (2^h*K)∧N≤2^(2^h*K):=by
 obtain⟨P,Q,hP,hQ,iP,iQ,h0,he,nP,nQ⟩:=hx;obtain⟨A,N,hA,iA,hN,e,nA,hl⟩:=adj Z hQ iQ h0 nQ;refine⟨mulE h z P A,N,mulE_len,IntE.mul Z.int iP iA,hN,?_,?_,hl⟩
 ·rw[←e,←mul_assoc,he,val_mul Z.rd.rl hP hA]
 refine Rat.le_trans (nrm_mul Z.wt Z.rd.rl hP hA) ?_;have e:2^h*K=K+(2^h-1)*K:=by
  have:=Nat.two_pow_pos h
  rw[Nat.sub_mul,Nat.one_mul]
  have:K≤2^h*K:=Nat.le_mul_of_pos_left _ this
  omega
 rw[e];exact mul_p2 nrm_nn nP nA
theorem growW (Z:Zt h z w){t:List El}{d:Nat→Nat}(K:Lk h t z d)(R:Rd (h+1) t){H:Nat}{M:El}{N:Nat}(hM:M.length=2^h)(iM:IntE M)(hN:0<N)(e:val h t (t.getD h [])*q (N:Rat)=val h z M)(nM:nrm h w M≤p2 H)(hl:N≤2^H):
  ∃(z':List El) (w' d':Nat→Nat),(∀i,i<h→z'.getD i []=z.getD i []∧w' i=w i∧d' i=d i)∧Zt (h+1) z' w'∧Lk (h+1) t z' d'∧w' h≤2^H∧d' h≤2^H:=by
 obtain⟨B,hB⟩:∃B,B=mulE h z (ratE h (N:Rat)) M:=⟨_,rfl⟩;have hBl:B.length=2^h:=by rw[hB,mulE_len]
 have hN0:IsI (N:Rat):=⟨(N:Int),(Rat.intCast_natCast _).symm⟩;have hBi:IntE B:=by rw[hB];exact IntE.mul Z.int (IntE.rat hN0) iM
 have hBv:val h z B=q ((N:Rat)*(N:Rat))*val h t (t.getD h []):=by
  rw[hB,val_mul Z.rd.rl ratE_len hM,val_ratE,←e,q_mul,mul_comm (val h t _),←mul_assoc]
 have hBn:nrm h w B≤p2 (H+H):=by
  rw[hB];refine Rat.le_trans (nrm_mul Z.wt Z.rd.rl ratE_len hM) (mul_p2 nrm_nn ?_ nM);rw[nrm_rat];unfold ab p2;rw[if_pos Rat.natCast_nonneg];exact Rat.natCast_le_natCast.2 hl
 let z':List El:=(List.range h).map (fun i=>z.getD i [])++[B]
 have ez:∀i,i<h→z'.getD i []=z.getD i []:=fun i hi=>by
  show List.getD (_++_) i []=_;rw[X7,List.getElem?_append_left (by simpa using hi),List.getElem?_map,List.getElem?_range hi];rfl
 have eB:z'.getD h []=B:=by
  show List.getD (_++_) h []=_;rw[X7,List.getElem?_append_right (by simp)];simp
 let w':Nat→Nat:=fun i=>if i=h then 2^H else w i
 let d':Nat→Nat:=fun i=>if i=h then N else d i
 have ew:∀i,i<h→w' i=w i:=fun i hi=>if_neg (by omega);have ed:∀i,i<h→d' i=d i:=fun i hi=>if_neg (by omega);have ewh:w' h=2^H:=if_pos rfl;have edh:d' h=N:=if_pos rfl;have ev:∀i,i≤h→∀a,val i z' a=val i z a:=fun i hi a=>val_congr (fun j hj=>ez j (by omega)) a;have en:∀i,i≤h→∀a,nrm i w' a=nrm i w a:=fun i hi a=>nrm_congr (fun j hj=>ew j (by omega)) a;have hpos:pos (val h z B):=by
  rw[hBv]
  have:=q_pos_nat hN
  rw[q_mul];exact pos_mul (pos_mul this this) (R.rl h (by omega)).2
 have hns:∀x,In h z x→x*x≠val h z B:=by
  intro x hx he;have hi:=qn_inv hN;have hx2:In h t (x*q ((N:Rat)⁻¹)):=In.mul (R.rl.le (Nat.le_succ h)) ((K.in_iff (R.rl.le (Nat.le_succ h)) _).2 hx) (In.rat _);refine R.ns h (by omega) _ hx2 ?_;rw[id_prod,he,hBv,q_mul]
  have:q (N:Rat)*q (N:Rat)*(q ((N:Rat)⁻¹)*q ((N:Rat)⁻¹))=q 1:=by rw[id_prod,hi,mul_one]
  rw[mul_comm (q _*q _),mul_assoc,this,mul_one]
 refine⟨z',w',d',fun i hi=>⟨ez i hi,ew i hi,ed i hi⟩,⟨⟨fun i hi=>?_,fun i hi x hx=>?_⟩,fun i hi=>?_,fun i hi=>?_⟩,⟨fun i hi=>?_,fun i hi=>?_⟩,Nat.le_of_eq ewh,by rw[edh];exact hl⟩
 ·by_cases h1:i=h
  ·subst h1;rw[eB,ev i (O1 i)];exact⟨hBl,hpos⟩
  rw[ez i (by omega),ev i (by omega)];exact Z.rd.rl i (by omega)
 ·obtain⟨a,ha,rfl⟩:=hx
  by_cases h1:i=h
  ·subst h1;rw[eB,ev i (O1 i),ev i (O1 i)];exact hns _ (.of ha)
  rw[ez i (by omega),ev i (by omega),ev i (by omega)];exact Z.rd.ns i (by omega) _ (.of ha)
 ·by_cases h1:i=h
  ·subst h1;rw[eB];exact hBi
  rw[ez i (by omega)];exact Z.int i (by omega)
 ·by_cases h1:i=h
  ·subst h1;rw[eB,en i (O1 i),ewh];refine⟨Nat.one_le_two_pow,Rat.le_trans hBn ?_⟩;rw[p2_add];exact Rat.le_refl
  rw[ez i (by omega),en i (by omega),ew i (by omega)];exact Z.wt i (by omega)
 ·by_cases h1:i=h
  ·subst h1;rw[edh];exact hN
  rw[ed i (by omega)];exact K.d0 i (by omega)
 by_cases h1:i=h
 ·subst h1;rw[eB,edh,ev i (O1 i)];exact hBv
 rw[ez i (by omega),ed i (by omega),ev i (by omega)];exact K.v i (by omega)
theorem grow (Z:Zt h z w){t:List El}{d:Nat→Nat}(K:Lk h t z d)(R:Rd (h+1) t){H:Nat}(hx:Ht h z w (val h t (t.getD h [])) H):
  ∃(z':List El) (w' d':Nat→Nat),(∀i,i<h→z'.getD i []=z.getD i []∧w' i=w i∧d' i=d i)∧Zt (h+1) z' w'∧Lk (h+1) t z' d'∧w' h≤2^(2^h*H)∧d' h≤2^(2^h*H):=by
 obtain⟨M,N,hM,iM,hN,e,nM,hl⟩:=Ht.whole Z hx;exact growW Z K R hM iM hN e nM hl
def rS (W:Nat):Nat→Nat→Nat
 |0,H=>(H+1)/2
 |h+1,H=>2*rS W h (2*H+rS W h (2*H)+2+2*W)+2*H+W+2
theorem rS_mono {W h:Nat}:∀{H K:Nat},H≤K→rS W h H≤rS W h K:=by
 induction h with
 |zero=>intro H K hk;unfold rS;omega
 |succ h ih=>
  intro H K hk;have h1:=ih (H:=2*H) (K:=2*K) (by omega);have h2:=ih (H:=2*H+rS W h (2*H)+2+2*W) (K:=2*K+rS W h (2*K)+2+2*W) (by omega);rw[rS,rS];omega
theorem Ht.radicand (Z:Zt (h+1) z w){W:Nat}(hW:w h≤2^W):Ht h z w (val h z (z.getD h [])) (2*W):=by
 refine⟨z.getD h [],ratE h 1,(Z.rd.rl h (by omega)).1,ratE_len,Z.int h (by omega),IntE.rat ⟨1,rfl⟩,by rw[val_ratE];exact one_ne,by rw[val_ratE,mul_one],?_,?_⟩
 ·have hw:(w h:Rat)≤p2 W:=Rat.natCast_le_natCast.2 hW;rw[show 2*W=W+W by omega];exact Rat.le_trans (Z.wt h (by omega)).2 (mul_p2 Rat.natCast_nonneg hw hw)
 rw[nrm_rat];exact p2_ge1 _
theorem q_of_in0 {t:List El}{x:R}(h:In 0 t x):∃y,x=q y:=by
 obtain⟨a,_,rfl⟩:=h;exact⟨_,rfl⟩
theorem Ht.two:Ht h z w (q 2) 1:=Ht.rat (by decide) (by decide)
theorem Ht.sqrt {W:Nat}:∀{h:Nat} (_:Zt h z w) (_:∀i,i<h→w i≤2^W) {x y:R} {H:Nat},In h z y→y*y=x→Ht h z w x H→Ht h z w y (rS W h H):=by
 intro h
 induction h with
 |zero=>
  intro Z _ x y H hy he hx;obtain⟨r,rfl⟩:=q_of_in0 hy;rw[←q_mul]at he;subst he;obtain⟨h1,h2⟩:=Ht.zero hx;obtain⟨e1,e2⟩:=sq_num r;rw[e1,Int.natAbs_mul]at h1;rw[e2]at h2;have key:∀n:Nat,n*n≤2^H→n≤2^((H+1)/2):=by
   intro n hn;refine Nat.le_of_not_lt fun hl=>?_
   have:=Nat.mul_lt_mul'' hl hl
   rw[←Nat.pow_add]at this
   have:2^H≤2^((H+1)/2+(H+1)/2):=O3 (by decide) (by omega)
   omega
  exact Ht.rat (key _ h1) (key _ h2)
 |succ h ih=>
  intro Z hW x y H hy he hx;have Z':=Z.le (Nat.le_succ h);have hW':∀i,i<h→w i≤2^W:=fun i hi=>hW i (by omega);have L':=Z'.rd.rl;obtain⟨p,g,hp,hg,rfl⟩:=hy.split;have hs:Ht (h+1) z w (R.sqrt (val h z (z.getD h []))) W:=Ht.root (hW h (by omega));have hr:=Ht.radicand Z (hW h (by omega));have hrr:=Z.rd.rl.root;have hri:In h z (val h z (z.getD h [])):=.of (Z.rd.rl h (by omega)).1;have hr0:val h z (z.getD h [])≠q 0:=pos_ne (Z.rd.rl h (by omega)).2;rw[id_sq,hrr]at he;subst he;obtain⟨hu,hv,hn⟩:=Ht.split Z ((In.mul L' hp hp).add (In.mul L' (In.mul L' hg hg) hri)) ((In.mul L' hp hg).add (In.mul L' hp hg)) hx;rw[←id_sqn]at hn;have m1:rS W h (2*H)≤rS W h (2*H+rS W h (2*H)+2+2*W):=rS_mono (by omega)
  by_cases g0:g=q 0
  ·rw[g0,zero_mul,zero_mul,add_zero]at hu;rw[g0,zero_mul,add_zero];exact((ih Z' hW' hp rfl hu).up).mono (by rw[rS];omega)
  by_cases p0:p=q 0
  ·rw[p0,mul_zero,zero_add]at hu;obtain⟨ri,hri2⟩:=R.inv hr0;have h1:=hu.mul Z' (hr.inv hri2);rw[mul_assoc,hri2,mul_one]at h1;have h2:=(ih Z' hW' hg rfl h1).up.mul Z hs;rw[p0,zero_add];have m2:rS W h (2*H+2*W)≤rS W h (2*H+rS W h (2*H)+2+2*W):=rS_mono (by omega);exact h2.mono (by rw[rS];omega)
  have h1:=ih Z' hW' ((In.mul L' hp hp).add (In.mul L' (In.mul L' hg hg) hri).neg) rfl hn;have h2:=hu.add Z' h1;have e2:p*p+g*g*val h z (z.getD h [])+(p*p+ -(g*g*val h z (z.getD h [])))=q 2*(p*p):=by
   rw[←twice]
   generalize g*g*val h z (z.getD h [])=c
   generalize p*p=b
   rw[add_comm b (-c),←add_assoc,add_assoc b c,add_neg,add_zero]
  rw[e2]at h2;have hh:q (2:Rat)*q ((2:Rat)⁻¹)=q 1:=by rw[←q_mul,Rat.mul_inv_cancel _ (by decide)]
  have h3:=h2.mul Z' (Ht.two.inv hh);rw[mul_comm (q 2),mul_assoc,hh,mul_one]at h3;have h4:=(ih Z' hW' hp rfl h3).mono (rS_mono (K:=2*H+rS W h (2*H)+2+2*W) (by omega));have h5:=Ht.two.mul Z' h4;have h50:q 2*p≠q 0:=mul_ne two_ne p0;obtain⟨i,hi⟩:=R.inv h50;have h6:=hv.mul Z' (h5.inv hi);have e6:(p*g+p*g)*i=g:=by
   rw[twice,←mul_assoc,mul_assoc,mul_comm g,←mul_assoc,hi,one_mul]
  rw[e6]at h6;have h7:=h4.up.add Z (h6.up.mul Z hs);refine h7.mono ?_;rw[rS];omega
end
end Go.Tw
namespace Go.Tw
open Go Go.R
def Bits (n:Nat)(e:El):Prop:=∀c∈e,c.num.natAbs≤2^n∧c.den≤2^n
def Expr (B k:Nat)(As:List R)(x:R):Prop:=∃(m:Nat) (u:List El) (e:El),m≤k∧e.length=2^m∧Bits B e∧(∀j,j<m→val j u (u.getD j [])∈As)∧x=val m u e
def fE (B c:Nat):Nat→Nat
 |0=>B
 |k+1=>2*fE B c k+c+1
theorem fE_mono {B c m k:Nat}(h:m≤k):fE B c m≤fE B c k:=by
 induction k with
 |zero=>
      obtain rfl:m=0:=by omega
      exact O1 _
 |succ k ih=>
  by_cases e:m=k+1
  ·rw[e];exact O1 _
  have:=ih (by omega)
  rw[fE];omega
theorem Ht.expr {h:Nat}{z:List El}{w:Nat→Nat}(Z:Zt h z w){B c:Nat}{u:List El}:∀{m:Nat} {e:El},e.length=2^m→Bits B e→(∀j,j<m→Ht h z w (R.sqrt (val j u (u.getD j []))) c)→Ht h z w (val m u e) (fE B c m):=by
 intro m
 induction m with
 |zero=>
  intro e he hb _;obtain⟨x,rfl⟩:=one_of he;obtain⟨h1,h2⟩:=hb x (by simp);exact Ht.rat h1 h2
 |succ m ih=>
  intro e he hb hs;have h1:=ih (len_take he) (fun c hc=>hb c (List.mem_of_mem_take hc)) (fun j hj=>hs j (by omega));have h2:=ih (len_drop he) (fun c hc=>hb c (List.mem_of_mem_drop hc)) (fun j hj=>hs j (by omega));exact(h1.add Z (h2.mul Z (hs m (by omega)))).mono (by rw[fE];omega)
structure Src (B:Nat) (A:List R):Prop where
 pos:∀k,k<A.length→R.pos (A.getD k (q 0))
 expr:∀k,k<A.length→Expr B k (A.take k) (A.getD k (q 0))
def lkW:List (Nat×Nat)→Nat→Option Nat
 |[],_=>none
 |p::s,k=>if p.1=k then some p.2 else lkW s k
def mxW:List (Nat×Nat)→Nat
 |[]=>0
 |p::s=>max p.2 (mxW s)
def go (B k:Nat):Nat→List (Nat×Nat)→Nat→Nat→Nat
 |0,_,_,c=>fE B c k
 |n+1,s,kk,c=>match lkW s kk with
  |some W=>go B k n s (kk+1) (max c (2*W))
  |none=>max (go B k n s (kk+1) (max c (rS (mxW s) s.length (fE B c kk)))) (2*go B k n (s++[(kk,2^s.length*fE B c kk)]) (kk+1) (max c (2*(2^s.length*fE B c kk))))
theorem lkW_some {s:List (Nat×Nat)}{k W:Nat}(h:lkW s k=some W):∃j,j<s.length∧s.getD j (0,0)=(k,W):=by
 induction s with
 |nil=>cases h
 |cons p s ih=>
  rw[lkW]at h
  split at h
  ·rename_i e
   refine⟨0,by simp,?_⟩;obtain⟨a,b⟩:=p;simp only[Q6]at h e;subst h;subst e;rfl
  obtain⟨j,hj,e⟩:=ih h;exact⟨j+1,by simpa using hj,e⟩
theorem mxW_le {s:List (Nat×Nat)}{j:Nat}(h:j<s.length):(s.getD j (0,0)).2≤mxW s:=by
 induction s generalizing j with
 |nil=>exact absurd h (O5 _)
 |cons p s ih=>
  rw[mxW]
  cases j with
  |zero=>exact Nat.le_max_left _ _
  |succ j=>
   have:=ih (j:=j) (by simpa using h)
   show(s.getD j (0,0)).2≤_
   omega
structure Env (A:List R) (h:Nat) (t z:List El) (w d:Nat→Nat) (s:List (Nat×Nat)):Prop where
 sl:s.length=h
 rd:Rd h t
 zt:Zt h z w
 lk:Lk h t z d
 at':∀j,j<h→val j t (t.getD j [])=A.getD (s.getD j (0,0)).1 (q 0)∧w j≤2^(s.getD j (0,0)).2∧d j≤2^(s.getD j (0,0)).2∧Ht j z w (val j t (t.getD j [])) (s.getD j (0,0)).2
theorem Ht.congr {h:Nat}{z z':List El}{w w':Nat→Nat}(ez:∀i,i<h→z'.getD i []=z.getD i [])(ew:∀i,i<h→w' i=w i){x:R}{H:Nat}(hx:Ht h z w x H):Ht h z' w' x H:=by
 obtain⟨P,Q,hP,hQ,iP,iQ,h0,he,nP,nQ⟩:=hx;have e1:∀a,val h z' a=val h z a:=fun a=>val_congr ez a;have e2:∀a,nrm h w' a=nrm h w a:=fun a=>nrm_congr ew a;exact⟨P,Q,hP,hQ,iP,iQ,by rw[e1];exact h0,by rw[e1,e1];exact he,by rw[e2];exact nP,by rw[e2];exact nQ⟩
theorem Ht.natInv {h:Nat}{z:List El}{w:Nat→Nat}{n W:Nat}(h0:0<n)(hn:n≤2^W):Ht h z w (q ((n:Rat)⁻¹)) W:=by
 refine Ht.inv (x:=q (n:Rat)) ?_ (qn_inv h0);refine Ht.rat ?_ ?_
 ·rw[Rat.num_natCast,Int.natAbs_natCast];exact hn
 rw[Rat.den_natCast];exact Nat.one_le_two_pow
theorem Ht.basis {A:List R}{h:Nat}{t z:List El}{w d:Nat→Nat}{s:List (Nat×Nat)}(E:Env A h t z w d s){j:Nat}(hj:j<h):Ht h z w (R.sqrt (val j t (t.getD j []))) (2*(s.getD j (0,0)).2):=by
 obtain⟨_,h2,h3,_⟩:=E.at' j hj;have h1:=(Ht.root (h:=j) (z:=z) (w:=w) h2).le (show j+1≤h by omega);have hr:=(E.lk.le (show j+1≤h by omega)).root (E.rd.rl.le (by omega));have hd:=qn_inv (E.lk.d0 j hj);have h4:=h1.mul E.zt (Ht.natInv (E.lk.d0 j hj) h3);rw[hr,mul_comm,←mul_assoc,mul_comm (q ((d j:Rat)⁻¹)),hd,one_mul]at h4;exact h4.mono (by omega)
theorem mem_getD {A:List R}{x:R}{k:Nat}(h:x∈A.take k):∃i,i<k∧i<A.length∧x=A.getD i (q 0):=by
 obtain⟨i,hi,rfl⟩:=List.mem_iff_getElem.1 h;rw[X5]at hi;refine⟨i,by omega,by omega,?_⟩;rw[List.getElem_take,X7,X8 (by omega)];rfl
theorem Ht.src {A:List R}{B:Nat}(S:Src B A){h:Nat}{z:List El}{w:Nat→Nat}(Z:Zt h z w){k c:Nat}(hk:k<A.length)(hs:∀i,i<k→Ht h z w (R.sqrt (A.getD i (q 0))) c):Ht h z w (A.getD k (q 0)) (fE B c k):=by
 obtain⟨m,u,e,hm,he,hb,hu,hx⟩:=S.expr k hk;rw[hx]
 refine(Ht.expr Z he hb fun j hj=>?_).mono (fE_mono hm)
 obtain⟨i,hi,_,e⟩:=mem_getD (hu j hj);rw[e];exact hs i hi
theorem Env.grow {A:List R}{h:Nat}{t z:List El}{w d:Nat→Nat}{s:List (Nat×Nat)}(E:Env A h t z w d s){k H:Nat}(hp:pos (A.getD k (q 0)))(hx:Ht h z w (A.getD k (q 0)) H)(hn:¬In h t (R.sqrt (A.getD k (q 0)))):
  ∃(t' z':List El) (w' d':Nat→Nat),(∀i,i<h→t'.getD i []=t.getD i []∧z'.getD i []=z.getD i []∧w' i=w i)∧Env A (h+1) t' z' w' d' (s++[(k,2^h*H)]):=by
 obtain⟨a,ha,hv⟩:=(E.lk.in_iff E.rd.rl _).2 (hx.in E.zt)
 let t':List El:=(List.range h).map (fun i=>t.getD i [])++[a]
 have et:∀i,i<h→t'.getD i []=t.getD i []:=fun i hi=>by
  show List.getD (_++_) i []=_;rw[X7,List.getElem?_append_left (by simpa using hi),List.getElem?_map,List.getElem?_range hi];rfl
 have ea:t'.getD h []=a:=by
  show List.getD (_++_) h []=_;rw[X7,List.getElem?_append_right (by simp)];simp
 have ev:∀i,i≤h→∀b,val i t' b=val i t b:=fun i hi b=>val_congr (fun j hj=>et j (by omega)) b;have hp':pos (val h t a):=by rw[hv];exact hp
 have hns:∀x,In h t x→x*x≠val h t a:=by
  intro x hx he;rw[hv,←R.sqrt_mul (nn_iff.2 (.inr hp))]at he
  rcases sq_eq he with e|e
  ·exact hn (e▸hx)
  have:=hx.neg
  rw[e,neg_neg]at this;exact hn this
 have R':Rd (h+1) t':=by
  refine⟨fun i hi=>?_,fun i hi x hx=>?_⟩
  ·by_cases h1:i=h
   ·subst h1;rw[ea,ev i (O1 i)];exact⟨ha,hp'⟩
   rw[et i (by omega),ev i (by omega)];exact E.rd.rl i (by omega)
  obtain⟨b,hb,rfl⟩:=hx
  by_cases h1:i=h
  ·subst h1;rw[ea,ev i (O1 i),ev i (O1 i)];exact hns _ (.of hb)
  rw[et i (by omega),ev i (by omega),ev i (by omega)];exact E.rd.ns i (by omega) _ (.of hb)
 have K':Lk h t' z d:=⟨E.lk.d0,fun i hi=>by rw[et i hi,ev i (by omega)];exact E.lk.v i hi⟩;obtain⟨z',w',d',hag,hZ,hL,hw,hd⟩:=Tw.grow E.zt K' R' (H:=H) (by rw[ea,ev h (O1 h),hv];exact hx);refine⟨t',z',w',d',fun i hi=>⟨et i hi,(hag i hi).1,(hag i hi).2.1⟩,⟨by rw[X6,E.sl];rfl,R',hZ,hL,fun j hj=>?_⟩⟩
 by_cases h1:j=h
 ·have es:(s++[(k,2^h*H)]).getD j (0,0)=(k,2^h*H):=by
   rw[h1,X7,List.getElem?_append_right (by rw[E.sl];exact O1 h),E.sl];simp
  rw[es,h1,ea,ev h (O1 h),hv];exact⟨rfl,hw,hd,(hx.congr (fun i hi=>(hag i hi).1) (fun i hi=>(hag i hi).2.1)).mono (Nat.le_mul_of_pos_left _ (Nat.two_pow_pos h))⟩
 have hjh:j<h:=by omega
 have es:(s++[(k,2^h*H)]).getD j (0,0)=s.getD j (0,0):=by
  rw[X7,List.getElem?_append_left (by rw[E.sl];exact hjh),←X7]
 rw[es,et j hjh,ev j (by omega),(hag j hjh).2.1,(hag j hjh).2.2];obtain⟨a1,a2,a3,a4⟩:=E.at' j hjh;exact⟨a1,a2,a3,a4.congr (fun i hi=>(hag i (by omega)).1) (fun i hi=>(hag i (by omega)).2.1)⟩
theorem go_ok {A:List R}{B k:Nat}(S:Src B A)(hk:k<A.length):∀(n:Nat) {kk:Nat} (_:kk+n=k) {h:Nat} {t z:List El} {w d:Nat→Nat} {s:List (Nat×Nat)} {c:Nat} (_:Env A h t z w d s)
  (_:∀i,i<kk→Ht h z w (R.sqrt (A.getD i (q 0))) c) (_:In h t (A.getD k (q 0))),Ht h z w (A.getD k (q 0)) (go B k n s kk c):=by
 intro n
 induction n with
 |zero=>
  intro kk hkk h t z w d s c E hs _;exact Ht.src S E.zt hk (fun i hi=>hs i (by omega))
 |succ n ih=>
  intro kk hkk h t z w d s c E hs hin;have hkl:kk<A.length:=by omega
  have hp:=S.pos kk hkl;rw[go]
  cases hl:lkW s kk with
  |some W=>
   obtain⟨j,hj,ej⟩:=lkW_some hl;refine ih (by omega) E (fun i hi=>?_) hin
   by_cases h1:i=kk
   ·have hb:=Ht.basis E (j:=j) (by rw[←E.sl];exact hj);rw[(E.at' j (by rw[←E.sl];exact hj)).1,ej]at hb;rw[h1];exact hb.mono (Nat.le_max_right _ _)
   exact(hs i (by omega)).mono (Nat.le_max_left _ _)
  |none=>
   have hH:=Ht.src S E.zt hkl hs
   by_cases h0:In h t (R.sqrt (A.getD kk (q 0)))
   ·have hr:=Ht.sqrt (W:=mxW s) E.zt (fun i hi=>O0 (E.at' i hi).2.1 (O3 (by decide) (mxW_le (by rw[E.sl];exact hi)))) ((E.lk.in_iff E.rd.rl _).1 h0) (R.sqrt_mul (nn_iff.2 (.inr hp))) hH
    refine(ih (kk:=kk+1) (c:=max c (rS (mxW s) s.length (fE B c kk))) (by omega) E (fun i hi=>?_) hin).mono (Nat.le_max_left _ _)
    by_cases h1:i=kk
    ·rw[h1,E.sl];exact hr.mono (Nat.le_max_right _ _)
    exact(hs i (by omega)).mono (Nat.le_max_left _ _)
   obtain⟨t',z',w',d',hag,E'⟩:=E.grow hp hH h0;have ev:∀b,val h t' b=val h t b:=fun b=>val_congr (fun j hj=>(hag j hj).1) b;have hin0:In h t' (A.getD k (q 0)):=by
    obtain⟨b,hb,e⟩:=hin;exact⟨b,hb,by rw[ev];exact e⟩
   have hup:∀{x:R} {H:Nat},Ht h z w x H→Ht (h+1) z' w' x H:=fun hx=>(hx.congr (fun i hi=>(hag i hi).2.1) (fun i hi=>(hag i hi).2.2)).up;have h2:=ih (kk:=kk+1) (c:=max c (2*(2^s.length*fE B c kk))) (by omega) E' (fun i hi=>?_) hin0.up
   ·have hz:In h z' (A.getD k (q 0)):=((E'.lk.le (Nat.le_succ h)).in_iff (E'.rd.rl.le (Nat.le_succ h)) _).1 hin0;have h3:=(Ht.split E'.zt (v:=q 0) hz (In.rat 0) (by rw[zero_mul,add_zero];exact h2)).1;have h4:=h3.congr (z':=z) (w':=w) (fun i hi=>(hag i hi).2.1.symm) (fun i hi=>(hag i hi).2.2.symm);refine h4.mono ?_;rw[E.sl];exact Nat.le_max_right _ _
   by_cases h1:i=kk
   ·have hb:=Ht.basis E' (j:=h) (by omega);have es:(s++[(kk,2^h*fE B c kk)]).getD h (0,0)=(kk,2^h*fE B c kk):=by
     rw[X7,List.getElem?_append_right (by rw[E.sl];exact O1 h),E.sl];simp
    rw[(E'.at' h (by omega)).1,es]at hb;rw[h1,E.sl];exact hb.mono (Nat.le_max_right _ _)
   exact(hup (hs i (by omega))).mono (Nat.le_max_left _ _)
def sN (B:Nat)(σ:Nat→Nat):Nat→List (Nat×Nat)
 |0=>[]
 |h+1=>sN B σ h++[(σ h,2^(sN B σ h).length*go B (σ h) (σ h) (sN B σ h) 0 0)]
theorem env {A:List R}{B:Nat}(S:Src B A){t:List El}{σ:Nat→Nat}:∀{h:Nat} (_:Rd h t) (_:∀j,j<h→σ j<A.length∧val j t (t.getD j [])=A.getD (σ j) (q 0)),
  ∃(z:List El) (w d:Nat→Nat),Env A h t z w d (sN B σ h):=by
 intro h
 induction h with
 |zero=>
  intro R _;exact⟨[],fun _=>1,fun _=>1,rfl,R,⟨⟨fun i hi=>absurd hi (O5 _),fun i hi=>absurd hi (O5 _)⟩,fun i hi=>absurd hi (O5 _),fun i hi=>absurd hi (O5 _)⟩,
   ⟨fun i hi=>absurd hi (O5 _),fun i hi=>absurd hi (O5 _)⟩,fun j hj=>absurd hj (O5 _)⟩
 |succ h ih=>
  intro R hσ;obtain⟨z,w,d,E⟩:=ih (R.le (Nat.le_succ h)) (fun j hj=>hσ j (by omega));obtain⟨h1,h2⟩:=hσ h (by omega);have hin:In h t (A.getD (σ h) (q 0)):=by rw[←h2];exact .of (R.rl h (by omega)).1
  have hH:=go_ok S h1 (σ h) (kk:=0) (by omega) (c:=0) E (fun i hi=>absurd hi (O5 _)) hin;rw[←h2]at hH;obtain⟨z',w',d',hag,hZ,hL,hw,hd⟩:=Tw.grow E.zt E.lk R hH;refine⟨z',w',d',by rw[sN,X6,E.sl];rfl,R,hZ,hL,fun j hj=>?_⟩
  by_cases e:j=h
  ·have es:(sN B σ (h+1)).getD j (0,0)=(σ h,2^h*go B (σ h) (σ h) (sN B σ h) 0 0):=by
    rw[sN,e,E.sl,X7,List.getElem?_append_right (by rw[E.sl];exact O1 h),E.sl];simp
   rw[es,e];exact⟨h2,hw,hd,(hH.congr (fun i hi=>(hag i hi).1) (fun i hi=>(hag i hi).2.1)).mono (Nat.le_mul_of_pos_left _ (Nat.two_pow_pos h))⟩
  have hjh:j<h:=by omega
  have es:(sN B σ (h+1)).getD j (0,0)=(sN B σ h).getD j (0,0):=by
   rw[sN,X7,List.getElem?_append_left (by rw[E.sl];exact hjh),←X7]
  rw[es,(hag j hjh).2.1,(hag j hjh).2.2];obtain⟨a1,a2,a3,a4⟩:=E.at' j hjh;exact⟨a1,a2,a3,a4.congr (fun i hi=>(hag i (by omega)).1) (fun i hi=>(hag i (by omega)).2.1)⟩
end Go.Tw
namespace Go.Tw
open Go Go.R
def cW:Nat:=131072
end Go.Tw
namespace Go.R
open Go.Re
end Go.R
namespace Go.Tw
open Go Go.R
section
variable {h:Nat}{t:List El}{a:El}
end
end Go.Tw
namespace Go.Tw
open Go Go.R
end Go.Tw
namespace Go.Tw
open Go Go.R
end Go.Tw
namespace Go.Tw
open Go Go.R Go.Eng
def QB (B:Nat)(a:El):Prop:=∀c∈a,qm c≤B
theorem QB.mono {B C:Nat}{a:El}(h:QB B a)(k:B≤C):QB C a:=fun c hc=>O0 (h c hc) k
theorem QB.take {B:Nat}{a:El}(h:QB B a)(n:Nat):QB B (a.take n):=fun c hc=>h c (List.mem_of_mem_take hc)
theorem QB.drop {B:Nat}{a:El}(h:QB B a)(n:Nat):QB B (a.drop n):=fun c hc=>h c (List.mem_of_mem_drop hc)
theorem qm_zero:qm 0≤1:=by decide+kernel
theorem QB.zero {n:Nat}:QB 1 (zE n):=fun c hc=>by rw[List.eq_of_mem_replicate hc];exact qm_zero
theorem qm_neg (x:Rat):qm (-x)=qm x:=by unfold qm;rw[Rat.neg_num,Rat.neg_den,zn_neg]
theorem QB.neg {B:Nat}{a:El}(h:QB B a):QB B (negE a):=fun c hc=>by
 obtain⟨x,hx,rfl⟩:=List.mem_map.1 hc;rw[qm_neg];exact h x hx
theorem QB.add:∀{a b:El} {B C:Nat},QB B a→QB C b→QB (B+C+1) (addE a b)
 |[],b,_,_,_,_=>by intro x hx;cases b<;>cases hx
 |x::a,[],_,_,_,_=>by intro y hy;cases hy
 |x::a,y::b,B,C,h,k=>by
  intro u hu;have hu:u=x+y∨u∈addE a b:=List.mem_cons.1 hu
  rcases hu with rfl|hu
  ·have:=qm_add x y
   have:=h x (by simp)
   have:=k y (by simp)
   omega
  exact QB.add (fun v hv=>h v (by simp[hv])) (fun v hv=>k v (by simp[hv])) u hu
theorem QB.getD {B:Nat}{a:El}(h:QB B a)(h1:1≤B)(i:Nat):qm (a.getD i 0)≤B:=by
 rw[X7]
 cases e:a[i]? with
 |none=>exact O0 qm_zero h1
 |some x=>exact h x (List.mem_of_getElem? e)
theorem mul_zero_left {h:Nat}{t:List El}{b:El}:mulE h t (zE (2^h)) b=zE (2^h):=by
 have zz:∀n,addE (zE n) (zE n)=zE n:=by
  intro n;unfold addE zE;rw[List.zipWith_replicate,Nat.min_self,Rat.add_zero]
 induction h generalizing b with
 |zero=>rw[mulE];show[(0:Rat)*_]=_;rw[Rat.zero_mul];rfl
 |succ h ih=>rw[mulE,zE_take,zE_drop,ih,ih,ih,zz,zE_app]
theorem mul_zero_right {h:Nat}{t:List El}{a:El}:mulE h t a (zE (2^h))=zE (2^h):=by
 have zz:∀n,addE (zE n) (zE n)=zE n:=by
  intro n;unfold addE zE;rw[List.zipWith_replicate,Nat.min_self,Rat.add_zero]
 induction h generalizing a with
 |zero=>rw[mulE];show[_*(0:Rat)]=_;rw[Rat.mul_zero];rfl
 |succ h ih=>rw[mulE,zE_take,zE_drop,ih,ih,mul_zero_left,zz,zE_app]
end Go.Tw
namespace Go.Tw
open Go Go.R Go.Eng
section
variable {A:List R}
end
theorem nl_bits {n b:Nat}(h:n≤2^b):nl n≤b/32+1:=by
 refine nl_le_of_lt (Nat.lt_of_le_of_lt h ?_);show 2^b<(2^32)^(b/32+1);rw[←Nat.pow_mul];exact Nat.pow_lt_pow_right (by decide) (by omega)
theorem qm_bits {c:Rat}{b:Nat}(h1:c.num.natAbs≤2^b)(h2:c.den≤2^b):qm c≤b/32+1:=by
 have:=nl_bits h1
 have:=nl_bits h2
 unfold qm zn;omega
end Go.Tw
namespace Go.Tw
open Go Go.R Go.Eng
theorem addE_comm:∀(a b:El),addE a b=addE b a
 |[],[]=>rfl
 |[],_::_=>rfl
 |_::_,[]=>rfl
 |x::a,y::b=>by
  show(x+y)::addE a b=(y+x)::addE b a
  rw[Rat.add_comm,addE_comm]
theorem mulE_comm {h:Nat}{t:List El}:∀(a b:El),mulE h t a b=mulE h t b a:=by
 induction h with
 |zero=>intro a b;rw[mulE,mulE,Rat.mul_comm]
 |succ h ih=>
  intro a b;rw[mulE,mulE,ih (a.take _) (b.take _),ih (a.drop _) (b.drop _),ih (a.take _) (b.drop _),ih (a.drop _) (b.take _),addE_comm (mulE h t (b.drop _) (a.take _))]
structure Ev (h:Nat) (t z:List El) (w d:Nat→Nat):Prop where
 rd:Rd h t
 zt:Zt h z w
 lk:Lk h t z d
 wb:∀i,i<h→w i≤2^cW
 db:∀i,i<h→d i≤2^cW
 rb:∀i,i<h→Ht i z w (val i t (t.getD i [])) cW
theorem Ev.le {h k:Nat}{t z:List El}{w d:Nat→Nat}(E:Ev h t z w d)(hk:k≤h):Ev k t z w d:=⟨E.rd.le hk,E.zt.le hk,E.lk.le hk,fun i hi=>E.wb i (by omega),fun i hi=>E.db i (by omega),fun i hi=>E.rb i (by omega)⟩
def bW (h H:Nat):Nat:=2^h*(H+cW)/32+1
def MlB (X:Nat):Nat→List El→El→El→Prop
 |0,t,a,b=>QB X a∧QB X b∧QB X (mulE 0 t a b)
 |h+1,t,a,b=>QB X a∧QB X b∧QB X (mulE (h+1) t a b)∧MlB X h t (a.take (2^h)) (b.take (2^h))∧MlB X h t (a.drop (2^h)) (b.drop (2^h))∧
  MlB X h t (mulE h t (a.drop (2^h)) (b.drop (2^h))) (t.getD h [])∧MlB X h t (a.take (2^h)) (b.drop (2^h))∧MlB X h t (a.drop (2^h)) (b.take (2^h))
theorem MlB.q {X h:Nat}{t:List El}{a b:El}(H:MlB X h t a b):QB X a∧QB X b∧QB X (mulE h t a b):=by
 cases h with
 |zero=>exact H
 |succ h=>exact⟨H.1,H.2.1,H.2.2.1⟩
theorem neg_mulE {h:Nat}{t:List El}:∀{a b:El},a.length=2^h→mulE h t (negE a) b=negE (mulE h t a b):=by
 have nadd:∀(x y:El),negE (addE x y)=addE (negE x) (negE y):=by
  intro x
  induction x with
  |nil=>intro y;rfl
  |cons u x ih=>
   intro y
   cases y with
   |nil=>rfl
   |cons v y=>
    show-(u+v)::negE (addE x y)=(-u+ -v)::addE (negE x) (negE y)
    rw[ih,Rat.neg_add]
 induction h with
 |zero=>
  intro a b ha;obtain⟨x,rfl⟩:=Go.Tw.one_of ha
  show[-x*_]=[-(x*_)]
  rw[Rat.neg_mul]
 |succ h ih=>
  intro a b ha;have e1:(negE a).take (2^h)=negE (a.take (2^h)):=List.map_take.symm;have e2:(negE a).drop (2^h)=negE (a.drop (2^h)):=List.map_drop.symm;have e3:∀x y:El,negE (x++y)=negE x++negE y:=fun x y=>List.map_append;rw[Go.Tw.mulE,Go.Tw.mulE,e1,e2,ih (len_take ha),ih (len_drop ha),ih (len_take ha),ih (len_drop ha),ih mulE_len,e3,nadd,nadd]
theorem MlB.neg {X h:Nat}:∀{t:List El} {a b:El},a.length=2^h→MlB X h t a b→MlB X h t (negE a) b:=by
 induction h with
 |zero=>intro t a b ha ⟨h1,h2,h3⟩;exact⟨h1.neg,h2,by rw[neg_mulE ha];exact h3.neg⟩
 |succ h ih=>
  intro t a b ha ⟨h1,h2,h3,h4,h5,h6,h7,h8⟩;have e1:(negE a).take (2^h)=negE (a.take (2^h)):=List.map_take.symm;have e2:(negE a).drop (2^h)=negE (a.drop (2^h)):=List.map_drop.symm;refine⟨h1.neg,h2,by rw[neg_mulE ha];exact h3.neg,?_,?_,?_,?_,?_⟩
  ·rw[e1];exact ih (len_take ha) h4
  ·rw[e2];exact ih (len_drop ha) h5
  ·rw[e2,neg_mulE (len_drop ha)];exact ih mulE_len h6
  ·rw[e1];exact ih (len_take ha) h7
  rw[e2];exact ih (len_drop ha) h8
theorem MlB.mono {X Y:Nat}(hXY:X≤Y){h:Nat}:∀{t:List El} {a b:El},MlB X h t a b→MlB Y h t a b:=by
 induction h with
 |zero=>intro t a b H;exact⟨H.1.mono hXY,H.2.1.mono hXY,H.2.2.mono hXY⟩
 |succ h ih=>intro t a b ⟨h1,h2,h3,h4,h5,h6,h7,h8⟩;exact⟨h1.mono hXY,h2.mono hXY,h3.mono hXY,ih h4,ih h5,ih h6,ih h7,ih h8⟩
def bM (h s:Nat):Nat:=2^h*(s+3*cW)/32+1
theorem bW_bM {h H s:Nat}(e:H≤s+2*cW):bW h H≤bM h s:=by
 unfold bW bM
 have:=O9 (2^h) (show H+cW≤s+3*cW by omega)
 omega
theorem bM_succ {h s:Nat}:bM h (2*s+3*cW)≤bM (h+1) s:=by
 unfold bM;rw[O4,Nat.mul_assoc]
 have:=O9 (2^h) (show 2*s+3*cW+3*cW≤2*(s+3*cW) by omega)
 omega
section
variable {t z:List El}{w d:Nat→Nat}
theorem Ev.qb {h:Nat}(E:Ev h t z w d){a:El}{H:Nat}(ha:a.length=2^h)(hx:Ht h z w (val h t a) H):QB (bW h H) a:=fun c hc=>by
 have:=coef_bound (E:=cW) E.lk E.rd.rl E.zt E.db ha hx c hc
 exact qm_bits this.1 this.2
theorem Ev.parts {h:Nat}(E:Ev (h+1) t z w d){a:El}{H:Nat}(ha:a.length=2^(h+1))(hx:Ht (h+1) z w (val (h+1) t a) H):
  Ht h z w (val h t (a.take (2^h))) (2*H)∧Ht h z w (val h t (a.drop (2^h))) (2*H+cW)∧Ht h z w (val h t (normE h t a)) (2*H):=by
 have E':=E.le (Nat.le_succ h);have hr:=E.lk.root E.rd.rl;have hd:=qn_inv (E.lk.d0 h (by omega));have hu:In h t (val h t (a.take (2^h))):=.of (len_take ha);have hv:In h t (val h t (a.drop (2^h))*q ((d h:Rat)⁻¹)):=In.mul E'.rd.rl (.of (len_drop ha)) (In.rat _);have e:val (h+1) t a=val h t (a.take (2^h))+val h t (a.drop (2^h))*q ((d h:Rat)⁻¹)*R.sqrt (val h z (z.getD h [])):=by
  rw[hr,mul_assoc (val h t _),←mul_assoc (q _),mul_comm (q ((d h:Rat)⁻¹)),hd,one_mul];rfl
 rw[e]at hx;obtain⟨k1,k2,k3⟩:=Ht.split E.zt ((E'.lk.in_iff E'.rd.rl _).1 hu) ((E'.lk.in_iff E'.rd.rl _).1 hv) hx;have hdn:Ht h z w (q (d h:Rat)) cW:=by
  refine Ht.rat ?_ ?_
  ·rw[Rat.num_natCast,Int.natAbs_natCast];exact E.db h (by omega)
  rw[Rat.den_natCast];exact Nat.one_le_two_pow
 have k4:=k2.mul E'.zt hdn;rw[mul_assoc,mul_comm (q _),hd,mul_one]at k4;refine⟨k1,k4,?_⟩;rw[val_normE E.rd.rl ha,E.rd.rl.root];have e3:val h t (a.drop (2^h))*q ((d h:Rat)⁻¹)*(val h t (a.drop (2^h))*q ((d h:Rat)⁻¹))*val h z (z.getD h [])=val h t (a.drop (2^h))*val h t (a.drop (2^h))*val h t (t.getD h []):=by
  rw[id_prod,E.lk.v h (by omega),q_mul,mul_assoc (_*_) (_*_),←mul_assoc (q _*q _) (q _*q _),id_prod (q _) (q _),mul_comm (q (d h:Rat)⁻¹),hd,one_mul,one_mul]
 rw[e3]at k3;exact k3
theorem MlB.of {h:Nat}:∀(_:Ev h t z w d) {a b:El} {H K s:Nat},a.length=2^h→b.length=2^h→Ht h z w (val h t a) H→Ht h z w (val h t b) K→H+K≤s→MlB (bM h s) h t a b:=by
 induction h with
 |zero=>
  intro E a b H K s ha hb hx hy hs;refine⟨(E.qb ha hx).mono (bW_bM (by omega)),(E.qb hb hy).mono (bW_bM (by omega)),(E.qb mulE_len (H:=H+K) ?_).mono (bW_bM (by omega))⟩;rw[val_mul E.rd.rl ha hb];exact hx.mul E.zt hy
 |succ h ih=>
  intro E a b H K s ha hb hx hy hs;have E':=E.le (Nat.le_succ h);have L':=E'.rd.rl;obtain⟨a1,a2,_⟩:=E.parts ha hx;obtain⟨b1,b2,_⟩:=E.parts hb hy;have r:=E.rb h (by omega);have hr:=(E.rd.rl h (by omega)).1;have p22:=a2.mul E'.zt b2;rw[←val_mul L' (len_drop ha) (len_drop hb)]at p22;have ih:=fun{a b:El} {H K:Nat} ha hb hx hy hs=>(ih E' (a:=a) (b:=b) (H:=H) (K:=K) (s:=2*s+3*cW) ha hb hx hy hs).mono bM_succ;refine⟨(E.qb ha hx).mono (bW_bM (by omega)),(E.qb hb hy).mono (bW_bM (by omega)),(E.qb mulE_len (H:=H+K) ?_).mono (bW_bM (by omega)),ih (len_take ha) (len_take hb) a1 b1 (by omega),ih (len_drop ha) (len_drop hb) a2 b2 (by omega),
   ih mulE_len hr p22 r (by omega),ih (len_take ha) (len_drop hb) a1 b2 (by omega),ih (len_drop ha) (len_take hb) a2 b1 (by omega)⟩
  rw[val_mul E.rd.rl ha hb];exact hx.mul E.zt hy
def NmB (X h:Nat)(t:List El)(a:El):Prop:=MlB X h t (a.take (2^h)) (a.take (2^h))∧MlB X h t (a.drop (2^h)) (a.drop (2^h))∧MlB X h t (mulE h t (a.drop (2^h)) (a.drop (2^h))) (t.getD h [])
theorem NmB.mono {X Y h:Nat}(hXY:X≤Y){t:List El}{a:El}(H:NmB X h t a):NmB Y h t a:=⟨H.1.mono hXY,H.2.1.mono hXY,H.2.2.mono hXY⟩
def sX (h H:Nat):Nat:=2^h*(2*H+6*cW)/32+1
theorem sX_succ {h H K:Nat}(e:K≤2*H+3*cW):sX h K≤sX (h+1) H:=by
 unfold sX;rw[O4,Nat.mul_assoc]
 have:=O9 (2^h) (show 2*K+6*cW≤2*(2*H+6*cW) by omega)
 omega
theorem bW_sX {h H:Nat}:bW h H≤sX h H:=by
 unfold bW sX
 have:=O9 (2^h) (show H+cW≤2*H+6*cW by omega)
 omega
theorem bM_sX {h s H:Nat}(e:s≤4*H+9*cW):bM h s≤sX (h+1) H:=by
 unfold bM sX;rw[O4,Nat.mul_assoc]
 have:=O9 (2^h) (show s+3*cW≤2*(2*H+6*cW) by omega)
 omega
theorem NmB.of {h:Nat}(E:Ev (h+1) t z w d){a:El}{H:Nat}(ha:a.length=2^(h+1))(hx:Ht (h+1) z w (val (h+1) t a) H):NmB (sX (h+1) H) h t a:=by
 have E':=E.le (Nat.le_succ h);obtain⟨h1,h2,_⟩:=E.parts ha hx;have p:=h2.mul E'.zt h2;rw[←val_mul E'.rd.rl (len_drop ha) (len_drop ha)]at p;exact⟨(MlB.of E' (len_take ha) (len_take ha) h1 h1 (O1 _)).mono (bM_sX (by omega)),(MlB.of E' (len_drop ha) (len_drop ha) h2 h2 (O1 _)).mono (bM_sX (by omega)),
  (MlB.of E' mulE_len (E.rd.rl h (by omega)).1 p (E.rb h (by omega)) (O1 _)).mono (bM_sX (by omega))⟩
def SgB (X:Nat):Nat→List El→El→Prop
 |0,_,a=>QB X a
 |h+1,t,a=>QB X a∧NmB X h t a∧SgB X h t (a.take (2^h))∧SgB X h t (a.drop (2^h))∧SgB X h t (normE h t a)
theorem SgB.mono {X Y:Nat}(hXY:X≤Y){h:Nat}:∀{t:List El} {a:El},SgB X h t a→SgB Y h t a:=by
 induction h with
 |zero=>intro t a H;exact QB.mono H hXY
 |succ h ih=>intro t a H;exact⟨H.1.mono hXY,H.2.1.mono hXY,ih H.2.2.1,ih H.2.2.2.1,ih H.2.2.2.2⟩
theorem SgB.qb {X h:Nat}{t:List El}{a:El}(H:SgB X h t a):QB X a:=by
 cases h with
 |zero=>exact H
 |succ h=>exact H.1
theorem SgB.of {h:Nat}:∀(_:Ev h t z w d) {a:El} {H:Nat},a.length=2^h→Ht h z w (val h t a) H→SgB (sX h H) h t a:=by
 induction h with
 |zero=>intro E a H ha hx;exact(E.qb ha hx).mono bW_sX
 |succ h ih=>
  intro E a H ha hx;obtain⟨h1,h2,h3⟩:=E.parts ha hx;have ih:=fun{a:El} {K:Nat} hl hx (hK:K≤2*H+3*cW)=>(ih (E.le (Nat.le_succ h)) (a:=a) (H:=K) hl hx).mono (sX_succ hK);exact⟨(E.qb ha hx).mono bW_sX,NmB.of E ha hx,ih (len_take ha) h1 (by omega),ih (len_drop ha) h2 (by omega),ih normE_len h3 (by omega)⟩
end
end Go.Tw
namespace Go.Tw
open Go Go.R Go.Eng
def Ra (B:Nat)(a:R):Prop:=∃x:Rat,a=q x∧x.num.natAbs≤2^B∧x.den≤2^B
section
variable {t z:List El}{w d:Nat→Nat}
end
end Go.Tw
namespace Go.Tw
open Go Go.R Go.Eng
section
variable {A:List R}
def Few (A:List R):Prop:=A.length≤3∨(A.length≤6∧∀a,a∈A→Ra 64 a)
theorem Ht.down {h:Nat}{z:List El}{w:Nat→Nat}{x:R}:∀{k H:Nat},Zt (h+k) z w→In h z x→Ht (h+k) z w x H→Ht h z w x (2^k*H)
 |0,H,_,_,hx=>by rw[Nat.pow_zero,Nat.one_mul];exact hx
 |k+1,H,Z,hi,hx=>by
  have h1:=(Ht.split (h:=h+k) Z (v:=q 0) (hi.le (Nat.le_add_right _ _)) (In.rat 0) (by rw[zero_mul,add_zero];exact hx)).1;have h2:=Ht.down (k:=k) (Z.le (Nat.le_succ _)) hi h1
  rwa [←Nat.mul_assoc,←O4]at h2
section
variable (S:Src 64 A)(hA:Few A)
include S hA
end
def tB:Nat:=2^18
end
end Go.Tw
set_option maxHeartbeats 2000000
namespace Go.Proofs.YtcdijplheindaaaGreat
open Go Go.Eng
open Go.Tw (El)
def fQ (l:List Rat)(i:Nat):Nat→C:=qC (l.getD i default)
def Qk (l:List Rat):Prop:=∀x∈l,qm x<2^38
theorem Qk.of {l:List Rat}{B:Nat}(h:Tw.QB B l)(hB:B<2^38):Qk l:=fun x hx=>Nat.lt_of_le_of_lt (h x hx) hB
theorem Qk.get {l:List Rat}(h:Qk l)(i:Nat):qm (l.getD i default)<2^38:=by
 rw[X7]
 cases e:l[i]? with
 |none=>exact Nat.lt_of_le_of_lt (show qm (default:Rat)≤1 by decide+kernel) (by decide)
 |some x=>exact h x (List.mem_of_getElem? e)
theorem iQValid_Q (q:Rat)(hq:qm q<2^40):Pr Tryz.prog 245 [QV q] (.one (.bool true)):=by
 have h:=iQValid_spec (zs q.num) (zs (q.den:Int)) (zm q.num) (zm (q.den:Int)) (zm_inr _) (zm_inr _) (by unfold qm at hq;rw[zm_length];omega) (by unfold qm at hq;rw[zm_length,zn_nat];omega);rw[okQ_Q]at h;exact h
theorem num1_spec (q:Rat)(hq:qm q<2^40):Pr Tryz.prog 293 [QV q] (.one (.bool false)):=by
 refine pw Tryz.func293 ⟨[0,1,2],[]⟩ ?_;simp only[Tryz.f293,Tryz.ntmps293,iz,seval];simp only[vx,T,seval,QV,QC];refine Cg (iQValid_Q q hq) ?_;simp only[vx,T,seval];exact Ve rfl
theorem sgn_zero' {z:Int}:sgn z=0↔z=0:=by unfold sgn;(repeat' split)<;>omega
theorem zero1_spec (q:Rat)(hq:qm q<2^40):Pr Tryz.prog 248 [QV q] (.one (.bool (decide (q≠0)))):=by
 refine pw Tryz.func248 ⟨[0,1,2],[]⟩ ?_;simp only[Tryz.f248,Tryz.ntmps248,iz,seval];simp only[vx,T,seval,QV,QC];refine Cg (iQSign_spec q hq) ?_;simp only[vx,T,seval];refine vb ?_
 have:sgn q.num≠0↔q≠0:=by rw[Ne,sgn_zero',Rat.num_eq_zero]
 exact decide_eq_decide.2 this
def ixQ (p:Rat→Bool)(xs:List Rat):Int:=if xs.findIdx p<xs.length then(xs.findIdx p:Int)else-1
theorem ixQ_any (p:Rat→Bool)(xs:List Rat):decide (0≤ixQ p xs)=xs.any p:=by
 unfold ixQ;rw[Bool.eq_iff_iff,decide_eq_true_eq,List.any_eq_true,←List.findIdx_lt_length]
 split<;>rename_i h
 ·exact⟨fun _=>h,fun _=>by omega⟩
 exact⟨fun k=>by omega,fun k=>absurd k h⟩
theorem getD_eqQ {xs:List Rat}{i:Nat}(h:i<xs.length):xs.getD i default=xs[i]:=by
 rw[X7,X8 h];rfl
theorem ixQ_spec (f:FuncId)(p:Rat→Bool)(xs:List Rat)(hl:xs.length<2^38)(hf:∀i,i<xs.length→Pr Tryz.prog f [QV (xs.getD i default)] (.one (.bool (p (xs.getD i default))))):
  Pr Tryz.prog 292 [eV xs,.one (.fn f 0 (fun _=>.any))] (.one (.int .i64 (ixQ p xs))):=by
 refine pw Tryz.func292 ⟨[0,1,4,5,7,8,9,16],[]⟩ ?_;simp only[Tryz.f292,Tryz.ntmps292,iz,seval];simp only[vx,T,seval,eV,QsC];refine Lk (fun y:{i:Nat//i≤xs.length∧∀k,k<i→p (xs.getD k default)=false}=>⟨[(0,eV xs),(1,.one (.fn f 0 (fun _=>.any))),(7,.one (.int .i64 xs.length)),(8,.one (.int .i64 y.1))],[],1,19⟩) (fun y=>xs.length-y.1) ⟨0,O2 _,fun k h=>absurd h (O5 _)⟩ ?_ (fun⟨i,hi,hz⟩=>?_)
 ·refine Sa ?_;simp only[ry,seval,rz,eV,QsC]
 have i1:=wI i (by omega);simp only[vx,T,seval,eV,QsC];refine⟨fun h1=>Lg ?_,fun h1=>Lg ?_⟩
 ·have hfi:=hf i (by omega);obtain⟨a,ha⟩:∃a,a=xs.getD i default:=⟨_,rfl⟩;rw[←ha]at hfi;simp only[vx,T,seval,eV,QsC,←ha,qC];refine⟨by omega,Cg hfi ?_⟩;simp only[vx,T,seval];refine⟨fun h2=>Lg ?_,fun h2=>Lg ?_⟩
  ·have e1:xs.findIdx p=i:=by
    rw[List.findIdx_eq (by omega)];refine⟨by rw[←getD_eqQ (by omega),←ha];simpa using h2,fun j hj=>?_⟩;rw[←getD_eqQ (by omega)];exact hz j hj
   have e2:ixQ p xs=i:=by unfold ixQ;rw[e1,if_pos (by omega)]
   simp only[vx,T,seval,e2];exact Ve rfl
  simp only[vx,T,seval];simp only[i1];refine Lq ⟨i+1,by omega,fun k hk=>?_⟩ ?_ ?_
  ·by_cases h3:k<i
   ·exact hz k h3
   rw[show k=i by omega,←ha];simpa using h2
  ·refine Sa ?_;simp only[ry,seval,rz,eV,QsC]
  simp only;omega
 have e1:xs.findIdx p=xs.length:=by
  rw[List.findIdx_eq_length];intro x hx;obtain⟨k,hk,rfl⟩:=List.mem_iff_getElem.1 hx;rw[←getD_eqQ hk];exact hz k (by omega)
 have e2:ixQ p xs= -1:=by unfold ixQ;rw[if_neg (by omega)]
 simp only[vx,T,seval,e2];exact Ve rfl
theorem conQ_spec (f:FuncId)(p:Rat→Bool)(xs:List Rat)(hl:xs.length<2^38)(hf:∀i,i<xs.length→Pr Tryz.prog f [QV (xs.getD i default)] (.one (.bool (p (xs.getD i default))))):
  Pr Tryz.prog 247 [eV xs,.one (.fn f 0 (fun _=>.any))] (.one (.bool (xs.any p))):=by
 refine pw Tryz.func247 ⟨[0,1,4],[]⟩ ?_;simp only[Tryz.f247,Tryz.ntmps247,iz,seval];simp only[vx,T,seval,eV,QsC];refine Cg (ixQ_spec f p xs hl hf) ?_;simp only[vx,T,seval];exact vb (ixQ_any p xs)
theorem numbers_spec (a:El)(n:Nat)(hl:a.length=n)(hn:n<2^38)(hq:Qk a):Pr Tryz.prog 249 [eV a,.one (.int .i64 n)] (.one (.bool true)):=by
 have hc:=conQ_spec 293 (fun _=>false) a (by omega) (fun i hi=>num1_spec _ (Nat.lt_trans (hq.get i) (by decide)));rw[show a.any (fun _=>false)=false from List.any_eq_false.2 (fun _ _=>by simp)]at hc;subst hl;refine pw Tryz.func249 ⟨[0,1,4],[]⟩ ?_;simp only[Tryz.f249,Tryz.ntmps249,iz,seval];simp only[vx,T,seval,eV,QsC];refine Cg hc ?_;simp only[vx,T,seval];exact Ve rfl
structure Tk (h:Nat) (t:List El):Prop where
 le8:h≤8
 len:∀i,i<h→(t.getD i []).length=2^i
 q:∀i,i<h→Qk (t.getD i [])
theorem Tk.le {h k:Nat}{t:List El}(T:Tk h t)(hk:k≤h):Tk k t:=⟨by have:=T.le8;omega,fun i hi=>T.len i (by omega),fun i hi=>T.q i (by omega)⟩
theorem shl_pow {h:Nat}(hh:h≤8):IntKind.i64.wrap (1*2^(if h≤64 then h else 64))=((2^h:Nat):Int):=by
 rw[if_pos (by omega),Int.one_mul,Q4]
 ·rw[Int.natCast_pow];rfl
 have:2^h≤2^8:=O3 (by decide) hh
 have e:((2:Int)^h)=((2^h:Nat):Int):=by rw[Int.natCast_pow];rfl
 rw[e];generalize 2^h=q at this⊢;constructor<;>omega
theorem pow_small {h:Nat}(hh:h≤8):2^h<2^38:=Nat.lt_of_le_of_lt (O3 (by decide) hh) (by decide)
theorem radicands_spec {h:Nat}{t:List El}(tk:Tk h t):Pr Tryz.prog 244 [tV h t] (.one (.bool true)):=by
 have hh:=tk.le8;refine pw Tryz.func244 ⟨[0,2,3,4,5,6,7,8,16],[]⟩ ?_;simp only[Tryz.f244,Tryz.ntmps244,iz,seval];simp only[vx,T,seval,tV,tC];refine Lk (fun y:{i:Nat//i≤h}=>⟨[(5,tV h t),(6,.one (.int .i64 h)),(7,.one (.int .i64 y.1))],[],1,18⟩) (fun y=>h-y.1) ⟨0,O2 _⟩ ?_ (fun⟨i,hi⟩=>?_)
 ·refine Sa ?_;simp only[ry,seval,rz,tV,tC]
 have i1:=wI i (by omega);simp only[vx,T,seval,tV,tC];refine⟨fun h1=>Lg ?_,fun h1=>Lg ?_⟩
 ·have hih:i<h:=by omega
  have hs:=shl_pow (h:=i) (by omega);have hp:=pow_small (h:=i) (by omega);simp only[vx,T,seval,tV,tC,QsC,hs];refine⟨by omega,by omega,Cg (numbers_spec (t.getD i []) (2^i) (tk.len i hih) hp (tk.q i hih)) ?_⟩;simp only[vx,T,seval];simp only[i1];refine Lq ⟨i+1,by omega⟩ ?_ ?_
  ·refine Sa ?_;simp only[ry,seval,rz,tV,tC]
  simp only;omega
 simp only[vx,T,seval];exact Ve rfl
end Go.Proofs.YtcdijplheindaaaGreat
set_option maxHeartbeats 2000000
namespace Go.Proofs.YtcdijplheindaaaGreat
open Go Go.Eng
open Go.Tw (El addE negE zE mulE zE_len negE_len addE_len mulE_len)
def wQ (l:List Rat)(i k j:Nat):C:=if k<i then fQ l k j else[C.bool false,C.nil,C.bool false,C.nil].getD j .any
theorem wQ_zero (l:List Rat)(k j:Nat):[C.bool false,C.nil,C.bool false,C.nil].getD j C.any=wQ l 0 k j:=by
 unfold wQ;rw[if_neg (O5 _)]
theorem wQ_all {l:List Rat}{n k:Nat}(h:k<n)(j:Nat):wQ l n k j=fQ l k j:=if_pos h
theorem fQ_cells (q:Rat){l:List Rat}{k:Nat}(e:l.getD k default=q)(j:Nat):[C.bool (zs q.num),C.ints .u32 (zm q.num),C.bool (zs (q.den:Int)),C.ints .u32 (zm (q.den:Int))].getD j C.any=fQ l k j:=by
 subst e
 match j with
 |0|1|2|3=>rfl
 |_+4=>rfl
theorem set_wQ (q:Rat){l:List Rat}{i:Nat}(e:l.getD i default=q)(k j:Nat)(hj:j<4):
  setElt (wQ l i) i 0 [C.bool (zs q.num),C.ints .u32 (zm q.num),C.bool (zs (q.den:Int)),C.ints .u32 (zm (q.den:Int))] k j=wQ l (i+1) k j:=by
 unfold setElt
 by_cases h:k=i
 ·subst h;rw[if_pos rfl,if_pos (O2 _),if_pos (by simpa using hj),Nat.sub_zero,fQ_cells q e,wQ_all (Nat.lt_succ_self _)]
 rw[if_neg h];unfold wQ
 by_cases h2:k<i
 ·rw[if_pos h2,if_pos (by omega)]
 rw[if_neg h2,if_neg (by omega)]
theorem ret_wQ {l:List Rat}{n:Nat}(h:l.length=n):Y5 [] 0 (Bk.rows 67 4 n (wQ l n)) (Bk.rows 67 4 l.length (fQ l)):=
 ⟨rfl,h.symm,fun _ j hi _=>wQ_all hi j⟩
theorem zeros_spec (n:Nat)(hn:n<2^38):Fr Tryz.prog 246 [.one (.int .i64 n)] (.rows 67 4 (zE n).length (fQ (zE n))):=by
 refine fw Tryz.func246 ⟨[0,2,3,4,8,9,10],[]⟩ ?_;simp only[Tryz.f246,Tryz.ntmps246,iz,seval];simp only[vx,T,seval];refine⟨by omega,Lk (fun y:{i:Nat//i≤n}=>⟨[(3,.one (.own 1 4 0 n)),(8,.one (.int .i64 n)),(9,.one (.int .i64 y.1))],[(1,⟨.rows 67 4 n (wQ (zE n) y.1),true⟩)],2,18⟩) (fun y=>n-y.1) ⟨0,O2 _⟩ ?_ (fun⟨i,hi⟩=>?_)⟩
 ·refine Sa ?_;simp only[ry,seval,rz];exact fun i j _ _=>wQ_zero _ i j
 have i1:=wI i (by omega);simp only[vx,T,seval];refine⟨fun h1=>Lg ?_,fun h1=>Lg ?_⟩
 ·have hil:i<n:=by omega
  simp only[vx,T,seval];refine Cg (iQFromInt_spec 0 (by decide) (by decide)) ?_;simp only[vx,T,seval,QV,QC];simp only[i1];refine⟨by omega,Lq ⟨i+1,by omega⟩ ?_ ?_⟩
  ·refine Sa ?_;simp only[ry,seval,rz];exact fun k j _ hj=>set_wQ _ (by simp[zE,X7,hil];rfl) k j hj
  simp only;omega
 have hil:i=n:=by omega
 subst hil;simp only[vx,T,seval];exact⟨zE_len.symm,ret_wQ zE_len⟩
theorem iQNeg_spec (q:Rat)(hq:qm q<2^40):Pr Tryz.prog 251 [QV q] (QV (-q)):=by
 refine pw Tryz.func251 ⟨[0,1,2],[]⟩ ?_;simp only[Tryz.f251,Tryz.ntmps251,iz,seval];simp only[vx,T,seval,QV,QC];refine Cg (iNeg_spec q.num (by unfold qm at hq;omega)) ?_;simp only[vx,T,seval,ZV];exact Ve rfl
theorem tneg_spec (a:El)(hl:a.length<2^38)(hq:Qk a):Fr Tryz.prog 203 [eV a] (.rows 67 4 (negE a).length (fQ (negE a))):=by
 refine fw Tryz.func203 ⟨[0,2,3,4,5,9,10,11,12],[]⟩ ?_;simp only[Tryz.f203,Tryz.ntmps203,iz,seval];simp only[vx,T,seval,eV,QsC];refine⟨by omega,Lk (fun y:{i:Nat//i≤a.length}=>⟨[(0,eV a),(3,.one (.own 1 4 0 a.length)),(9,eV a),(10,.one (.int .i64 a.length)),(11,.one (.int .i64 y.1))],[(1,⟨.rows 67 4 a.length (wQ (negE a) y.1),true⟩)],2,23⟩) (fun y=>a.length-y.1) ⟨0,O2 _⟩ ?_ (fun⟨i,hi⟩=>?_)⟩
 ·refine Sa ?_;simp only[ry,seval,rz,eV,QsC];exact fun i j _ _=>wQ_zero _ i j
 have i1:=wI i (by omega);simp only[vx,T,seval,eV,QsC];refine⟨fun h1=>Lg ?_,fun h1=>Lg ?_⟩
 ·have hil:i<a.length:=by omega
  have hxq:=hq.get i;have en:(negE a).getD i default= -(a.getD i default):=by
   unfold negE;rw[X7,List.getElem?_map,X8 hil,X7,X8 hil];rfl
  obtain⟨x,hx⟩:∃x,x=a.getD i default:=⟨_,rfl⟩;rw[←hx]at hxq en;simp only[vx,T,seval,eV,QsC,←hx,qC];refine⟨by omega,Cg (iQNeg_spec x (by omega)) ?_⟩;simp only[vx,T,seval,QV,QC];simp only[i1];refine⟨by omega,Lq ⟨i+1,by omega⟩ ?_ ?_⟩
  ·refine Sa ?_;simp only[ry,seval,rz,eV,QsC];exact fun k j _ hj=>set_wQ _ en k j hj
  simp only;omega
 have hil:i=a.length:=by omega
 subst hil;simp only[vx,T,seval];exact⟨negE_len.symm,ret_wQ negE_len⟩
theorem tadd_spec (a b:El)(hl:a.length<2^38)(hab:b.length=a.length)(hqa:Qk a)(hqb:Qk b):Fr Tryz.prog 202 [eV a,eV b] (.rows 67 4 (addE a b).length (fQ (addE a b))):=by
 refine fw Tryz.func202 ⟨[0,1,4,5,6,11,12,13],[]⟩ ?_;simp only[Tryz.f202,Tryz.ntmps202,iz,seval];simp only[vx,T,seval,eV,QsC];refine⟨by omega,Lk (fun y:{i:Nat//i≤a.length}=>⟨[(0,eV a),(1,eV b),(5,.one (.own 1 4 0 a.length)),(11,.one (.int .i64 a.length)),(12,.one (.int .i64 y.1))],[(1,⟨.rows 67 4 a.length (wQ (addE a b) y.1),true⟩)],2,29⟩) (fun y=>a.length-y.1) ⟨0,O2 _⟩ ?_ (fun⟨i,hi⟩=>?_)⟩
 ·refine Sa ?_;simp only[ry,seval,rz,eV,QsC];exact fun i j _ _=>wQ_zero _ i j
 have i1:=wI i (by omega);simp only[vx,T,seval,eV,QsC];refine⟨fun h1=>Lg ?_,fun h1=>Lg ?_⟩
 ·have hil:i<a.length:=by omega
  have hxq:=hqa.get i;have hyq:=hqb.get i;have en:(addE a b).getD i default=a.getD i default+b.getD i default:=by
   unfold addE;rw[X7,List.getElem?_zipWith,X8 hil,X7,X8 hil,X8 (by omega:i<b.length),X7,X8 (by omega:i<b.length)];rfl
  obtain⟨x,hx⟩:∃x,x=a.getD i default:=⟨_,rfl⟩;obtain⟨y,hy⟩:∃y,y=b.getD i default:=⟨_,rfl⟩;rw[←hx]at hxq en;rw[←hy]at hyq en;simp only[vx,T,seval,eV,QsC,←hx,←hy,qC];refine⟨by omega,by omega,Cg (iQAdd_spec x y hxq hyq) ?_⟩;simp only[vx,T,seval,QV,QC];simp only[i1];refine⟨by omega,Lq ⟨i+1,by omega⟩ ?_ ?_⟩
  ·refine Sa ?_;simp only[ry,seval,rz,eV,QsC];exact fun k j _ hj=>set_wQ _ en k j hj
  simp only;omega
 have hil:i=a.length:=by omega
 subst hil;simp only[vx,T,seval];exact⟨(addE_len rfl hab).symm,ret_wQ (addE_len rfl hab)⟩
end Go.Proofs.YtcdijplheindaaaGreat
set_option maxHeartbeats 2000000
namespace Go.Proofs.YtcdijplheindaaaGreat
open Go Go.Eng
open Go.Tw (El addE negE zE mulE zE_len negE_len addE_len mulE_len QB MlB len_take len_drop)
theorem tZero_spec (a:El)(hl:a.length<2^38)(hq:Qk a):Pr Tryz.prog 198 [eV a] (.one (.bool (decide (a=zE a.length)))):=by
 have hc:=conQ_spec 248 (fun q=>decide (q≠0)) a hl (fun i hi=>zero1_spec _ (Nat.lt_trans (hq.get i) (by decide)));refine pw Tryz.func198 ⟨[0,2],[]⟩ ?_;simp only[Tryz.f198,Tryz.ntmps198,iz,seval];simp only[vx,T,seval,eV,QsC];refine Cg hc ?_;simp only[vx,T,seval];refine vb ?_;rw[Bool.eq_iff_iff,Bool.not_eq_true',List.any_eq_false,decide_eq_true_eq]
 constructor
 ·intro h;refine List.eq_replicate_iff.2 ⟨rfl,fun b hb=>?_⟩
  have:=h b hb
  simpa using this
 intro h b hb;rw[h]at hb
 have:=List.eq_of_mem_replicate hb
 simp[this]
theorem tFormed_spec {h:Nat}{t:List El}(tk:Tk h t)(a:El)(ha:a.length=2^h)(hq:Qk a):Pr Tryz.prog 199 [tV h t,eV a] (.one (.bool true)):=by
 have hs:=shl_pow tk.le8;have hn:=numbers_spec a (2^h) ha (pow_small tk.le8) hq;have hr:=radicands_spec tk;refine pw Tryz.func199 ⟨[0,1,4],[]⟩ ?_;simp only[Tryz.f199,Tryz.ntmps199,iz,seval];simp only[vx,T,seval,tV,tC,eV,QsC];refine Cg hr ?_;simp only[vx,T,seval,hs];refine⟨Int.natCast_nonneg _,Cg hn ?_⟩;simp only[vx,T,seval];exact Ve rfl
theorem tformed_spec {h:Nat}{t:List El}(tk:Tk h t)(a b:El)(ha:a.length=2^h)(hb:b.length=2^h)(hq:Qk a)(hqb:Qk b):Pr Tryz.prog 201 [tV h t,eV a,eV b] (.one (.bool true)):=by
 have hs:=shl_pow tk.le8;have hn:=numbers_spec b (2^h) hb (pow_small tk.le8) hqb;have hr:=tFormed_spec tk a ha hq;refine pw Tryz.func201 ⟨[0,1,2,6],[]⟩ ?_;simp only[Tryz.f201,Tryz.ntmps201,iz,seval];simp only[vx,T,seval,tV,tC,eV,QsC];refine Cg hr ?_;simp only[vx,T,seval,hs];refine⟨Int.natCast_nonneg _,Cg hn ?_⟩;simp only[vx,T,seval];exact Ve rfl
theorem tsplit_spec {h:Nat}{t:List El}(hh:h<2^38):Pr Tryz.prog 271 [tV (h+1) t] (.tup [tV h t,eV (t.getD h [])]):=by
 have w1:IntKind.i64.wrap (((h+1:Nat):Int)-1)=(h:Int):=by rw[Q4 _ (by omega)];omega
 refine pw Tryz.func271 ⟨[0,2,3],[(1,.nil)]⟩ ?_;simp only[Tryz.f271,Tryz.ntmps271,iz,seval];simp only[vx,T,seval,tV,tC,QsC,w1];exact⟨by omega,by omega,Ve rfl⟩
theorem fQ_take {a:El}{n i:Nat}(h:i<n)(j:Nat):fQ a i j=fQ (a.take n) i j:=by
 unfold fQ;rw[X7,X7,List.getElem?_take_of_lt h]
theorem fQ_drop {a:El}{n:Nat}(i j:Nat):fQ a (n+i) j=fQ (a.drop n) i j:=by
 unfold fQ;rw[X7,X7,List.getElem?_drop]
theorem thalves_spec {h:Nat}(hh:h<38){a:El}(ha:a.length=2^(h+1)):Pr Tryz.prog 272 [eV a] (.tup [eV (a.take (2^h)),eV (a.drop (2^h))]):=by
 have hp:2^h<2^38:=Nat.pow_lt_pow_right (by decide) hh;obtain⟨n,hn⟩:∃n,n=2^h:=⟨_,rfl⟩;have ha2:a.length=2*n:=by rw[ha,O4,hn];omega
 rw[←hn]at hp⊢;have w1:IntKind.i64.wrap (((a.length:Nat):Int).tdiv 2)=(n:Int):=by
  rw[ha2,Int.tdiv_eq_ediv_of_nonneg (by omega),Q4 _ (by omega)];omega
 refine pw Tryz.func272 ⟨[0,2,3],[(1,.nil)]⟩ ?_;simp only[Tryz.f272,Tryz.ntmps272,iz,seval];simp only[vx,T,seval,eV,QsC,w1];refine⟨by omega,by omega,Va ⟨⟨rfl,by rw[X5];omega,fun i j hi _=>fQ_take hi j⟩,⟨rfl,by rw[List.length_drop];omega,fun i j hi _=>fQ_drop i j⟩,trivial⟩⟩
end Go.Proofs.YtcdijplheindaaaGreat
