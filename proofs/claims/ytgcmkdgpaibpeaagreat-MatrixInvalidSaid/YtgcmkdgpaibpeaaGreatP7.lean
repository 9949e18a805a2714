/-
  MatrixInvalid: for every input the law returns true, and each argument reads afterwards as it read before. No condition beyond the cells of the given rows.
  (Text 7 of 9; made by a program out of smaller texts.)
-/
import Derived.Test.YtgcmkdgpaibpeaaGreatP6
set_option linter.unusedSimpArgs false
set_option linter.unusedVariables false
set_option maxHeartbeats 16000000
set_option maxRecDepth 10000
open Nat renaming reduceAdd→J1,reduceMul→J2,reduceSub→J3,reduceEqDiff→J4,reduceLT→J5,reduceLeDiff→J6,reduceBEq→J7,reduceDiv→J8,reduceMod→J9,reducePow→J0
open Int renaming reduceToNat→K1,reduceLE→K2,reduceLT→K3,reduceEq→K4,reducePow→K5,reduceSub→K6,reduceNeg→K7,natCast_add→X2,natCast_one→X3,natCast_zero→X4
open List renaming getD_cons_zero→X0,getD_cons_succ→X1,length_take→X5,length_append→X6,getD_eq_getElem?_getD→X7,getElem?_eq_getElem→X8
namespace Go.Proofs.YtgcmkdgpaibpeaaGreat
open Go.Proofs.Tryz
open Go Go.Eng
open Go.Tw (El)
theorem M7 (p q:List Nb):∀(i j:Nat),i<p.length+q.length→j<2→(if i<p.length then fg p i j else fg q (i-p.length) j)=fg (p++q) i j:=by
 intro i j _ _;unfold fg
 by_cases h:i<p.length
 ·rw[if_pos h,X7,X7,List.getElem?_append_left h]
 rw[if_neg h,X7,X7,List.getElem?_append_right (by omega)]
theorem pj (ps:List (List Nb))(hl:ps.flatten.length<2^38)(hk:ps.length<2^38):Fr prog 67 [.one (.rows 1 ps.length (fun i _=>bR (ps.getD i default)))] (.rows 52 2 (ps.flatten).length (fg (ps.flatten))):=by
 refine fw func67 ⟨[0,2,3,5,6,8,9,10,11,12,20,25,26,27,28],[]⟩ ?_;simp only[Tryz.f67,ntmps67,iz,seval];simp only[vx,T,seval];refine Lk (fun y:{i:Nat//i≤ps.length}=>⟨[(0,.one (.rows 1 ps.length (fun i _=>bR (ps.getD i default)))),(3,.one (.int .i64 (ps.take y.1).flatten.length)),(9,.one (.rows 1 ps.length (fun i _=>bR (ps.getD i default)))),(10,.one (.int .i64 ps.length)),(11,.one (.int .i64 y.1))],[],1,36⟩) (fun y=>ps.length-y.1) ⟨0,Nat.zero_le _⟩ ?_ (fun⟨i,hi⟩=>?_)
 ·refine Sa ?_;simp only[ry,seval,rz]
 have h0:=jM ps i;have i1:=wI i (by omega);simp only[vx,T,seval];refine⟨fun h1=>Lg ?_,fun h1=>Lg ?_⟩
 ·have hs:=nJ (ps:=ps) (i:=i) (by omega);have h2:=jM ps (i+1);have hsl:(ps.take (i+1)).flatten.length=(ps.take i).flatten.length+(ps.getD i default).length:=by rw[hs,X6]
  obtain⟨a,ha⟩:∃a,a=ps.getD i default:=⟨_,rfl⟩;rw[←ha]at hsl;have w1:IntKind.i64.wrap (((ps.take i).flatten.length:Int)+a.length)=((ps.take (i+1)).flatten.length:Int):=by rw[IntWalk.i64_in _ (by omega)];omega
  simp only[vx,T,seval,bR,←ha];simp only[w1];refine⟨by omega,fun h=>absurd h (by omega),fun _=>Lg ?_⟩;simp only[vx,T,seval,bR,←ha];simp only[i1];refine Lq ⟨i+1,by omega⟩ ?_ ?_
  ·refine Sa ?_;simp only[ry,seval,rz]
  simp only;omega
 have hip:i=ps.length:=by omega
 subst hip;rw[List.take_length];simp only[vx,T,seval];refine cF.fresh (AV ps.flatten.length (by omega)) ?_;simp only[vx,T,seval];refine Lk (fun y:{i:Nat//i≤ps.length}=>⟨[(0,.one (.rows 1 ps.length (fun i _=>bR (ps.getD i default)))),(6,.one (.own 1 2 0 (ps.take y.1).flatten.length)),(25,.one (.rows 1 ps.length (fun i _=>bR (ps.getD i default)))),(26,.one (.int .i64 ps.length)),(27,.one (.int .i64 y.1))],[(1,⟨(.rows 52 2 ((ps.take y.1).flatten).length (fg ((ps.take y.1).flatten))),true⟩)],2,36⟩) (fun y=>ps.length-y.1) ⟨0,Nat.zero_le _⟩ ?_ (fun⟨i,hi⟩=>?_)
 ·refine Sa ?_;simp only[ry,seval,rz];exact fun i j h=>absurd h (by omega)
 have h0:=jM ps i;have i1:=wI i (by omega);simp only[vx,T,seval];refine⟨fun h1=>Lg ?_,fun h1=>Lg ?_⟩
 ·have hs:=nJ (ps:=ps) (i:=i) (by omega);have h2:=jM ps (i+1);have hsl:(ps.take (i+1)).flatten.length=(ps.take i).flatten.length+(ps.getD i default).length:=by rw[hs,X6]
  obtain⟨a,ha⟩:∃a,a=ps.getD i default:=⟨_,rfl⟩;rw[←ha]at hsl hs;simp only[vx,T,seval,bR,←ha];simp only[i1];refine⟨by omega,by rw[←X6,←hs];omega,Lq ⟨i+1,by omega⟩ ?_ ?_⟩
  ·refine Sa ?_;simp only[ry,seval,rz,hs];exact⟨by simp,by simp,M7 _ _⟩
  simp only;omega
 have hip:i=ps.length:=by omega
 subst hip;rw[List.take_length];simp only[vx,T,seval];exact⟨rfl,rfl,fun _ _ _ _=>rfl⟩
def xG (n:Nat)(a:Nat→Nb):List Nb:=(List.range n).map a
theorem gL {n:Nat}{a:Nat→Nb}:(xG n a).length=n:=by simp[xG]
theorem se {n:Nat}{a:Nat→Nb}{i:Nat}(hi:i<n):(xG n a).getD i default=a i:=by
 unfold xG;rw[X7,List.getElem?_map,List.getElem?_range hi];rfl
theorem Cq {n:Nat}{a:Nat→Nb}:dr (ak n a) (bR (xG n a)):=.rows gL.symm fun i j hi _=>.of_eq (by unfold fg;rw[se hi])
theorem uY {c:Nat}{M:Nat→Nat→Nb}:∀{r:Nat},((List.range r).map fun i=>xG c (M i)).flatten.length=r*c∧∀p,p<r*c→((List.range r).map fun i=>xG c (M i)).flatten.getD p default=M (p/c) (p%c)
 |0=>⟨by simp,fun p hp=>by omega⟩
 |r+1=>by
  obtain⟨h1,h2⟩:=uY (c:=c) (M:=M) (r:=r);have e:((List.range (r+1)).map fun i=>xG c (M i)).flatten=((List.range r).map fun i=>xG c (M i)).flatten++xG c (M r):=by
   rw[List.range_succ,List.map_append,List.flatten_append];simp
  refine⟨by rw[e,X6,h1,gL,Nat.add_mul,Nat.one_mul],fun p hp=>?_⟩;rw[e,X7]
  by_cases hpr:p<r*c
  ·rw[List.getElem?_append_left (by omega),←X7];exact h2 p hpr
  have hc:0<c:=Nat.pos_of_ne_zero fun e=>by subst e;omega
  rw[Nat.add_mul,Nat.one_mul]at hp;rw[List.getElem?_append_right (by omega),h1,←X7,se (by omega)];have e1:p=r*c+(p-r*c):=by omega
  have e2:p/c=r:=by
   rw[e1,Nat.mul_comm,Nat.mul_add_div hc,Nat.div_eq_of_lt (by rw[Nat.mul_comm];omega)];omega
  have e3:p%c=p-r*c:=by
   have:=Nat.div_add_mod p c
   rw[e2,Nat.mul_comm]at this;omega
  rw[e2,e3]
theorem Lp {r c:Nat}(M:Nat→Nat→Nb)(hn:r*c<2^38)(hr:r<2^38):Pr prog 67 [.one (aq r (fun _=>c) M)] (.one (ak (r*c) fun p=>M (p/c) (p%c))):=by
 obtain⟨h1,h2⟩:=uY (c:=c) (M:=M) (r:=r);have k:=(pj ((List.range r).map fun i=>xG c (M i)) (by rw[h1];exact hn) (by simpa using hr)).rows;have k2:Pr prog 67 [.one (aq r (fun _=>c) M)] _:=k.args ⟨.cell (.rows (by simp) fun i j hi hj=>?_),trivial⟩;refine k2.res (fP.cell (.rows h1 fun p j hp _=>.of_eq ?_))
 rotate_left
 ·have e:((List.range r).map fun i=>xG c (M i)).getD i default=xG c (M i):=by
   rw[X7,List.getElem?_map,List.getElem?_range hi];rfl
  rw[e];exact Cq
 rw[h1]at hp;unfold fg;rw[h2 p hp]
theorem yU {n m:Nat}(a b:Nat→Nb)(hn:n+m<2^38):Pr prog 67 [.one (.rows 1 2 (fun i j=>[ak n a,ak m b].getD (i*1+j) .any))] (.one (ak (n+m) fun i=>if i<n then a i else b (i-n))):=by
 have k:=(pj [xG n a,xG m b] (by simpa[gL]using hn) (by simp)).rows;have e:[xG n a,xG m b].flatten=xG n a++xG m b:=by simp
 rw[e]at k;have k2:Pr prog 67 [.one (.rows 1 2 (fun i j=>[ak n a,ak m b].getD (i*1+j) .any))] _:=k.args ⟨.cell (.rows rfl fun i j hi hj=>?_),trivial⟩;refine k2.res (fP.cell (.rows (by rw[X6,gL,gL]) fun p j hp _=>.of_eq ?_))
 rotate_left
 ·obtain rfl:j=0:=by omega
  match i,hi with
  |0,_=>exact Cq
  |1,_=>exact Cq
 rw[X6,gL,gL]at hp;unfold fg;rw[X7]
 by_cases h:p<n
 ·rw[List.getElem?_append_left (by rw[gL];exact h),←X7,se h];simp only[if_pos h]
 rw[List.getElem?_append_right (by rw[gL];omega),gL,←X7,se (by omega)];simp only[if_neg h]
end Go.Proofs.YtgcmkdgpaibpeaaGreat
/-
  A number's binary digits, set and cleared in its words; a root digit by digit.
-/
namespace Go.Eng
open Go
theorem GG {w j:Nat}(hj:j<32)(hw:w<4294967296)(hd:w%2^(j+1)=0):eW .or .u32 (w:Int) ((2^j:Nat):Int)=((w+2^j:Nat):Int)∧w+2^j<4294967296:=by
 have hp:2^j<2^(j+1):=Nat.pow_lt_pow_right (by decide) (by omega);have hp2:2^j<2^32:=Nat.pow_lt_pow_right (by decide) hj
 have e:w|||2^j=w+2^j:=by
  have h1:=Nat.two_pow_add_eq_or_of_lt (i:=j+1) (b:=2^j) hp (w/2^(j+1));have h2:2^(j+1)*(w/2^(j+1))=w:=by have:=Nat.div_add_mod w (2^(j+1));omega
  rw[h2]at h1;exact h1.symm
 have hlt:w|||2^j<2^32:=Nat.or_lt_two_pow hw hp2
 refine⟨?_,by rw[←e];exact hlt⟩;show IntKind.u32.wrap _=_
 have eb:(BitVec.ofInt 32 (w:Int)|||BitVec.ofInt 32 ((2^j:Nat):Int)).toNat=w+2^j:=by
  rw[BitVec.toNat_or,BitVec.ofInt_natCast,BitVec.ofInt_natCast,BitVec.toNat_ofNat,BitVec.toNat_ofNat,Nat.mod_eq_of_lt hw,Nat.mod_eq_of_lt hp2,e]
 have eb2:(BitVec.ofInt IntKind.u32.bits (w:Int)|||BitVec.ofInt IntKind.u32.bits ((2^j:Nat):Int)).toNat=w+2^j:=eb
 rw[eb2];exact IntWalk.u32_in _ (by omega)
theorem Jy {w j:Nat}(hj:j<32)(hw:w<4294967296)(hd:w%2^(j+1)=0):eW .andNot .u32 ((w+2^j:Nat):Int) ((2^j:Nat):Int)=(w:Int):=by
 obtain⟨h1,h2⟩:=GG hj hw hd;have hp2:2^j<2^32:=Nat.pow_lt_pow_right (by decide) hj;have hp:2^j<2^(j+1):=Nat.pow_lt_pow_right (by decide) (by omega)
 have e:w|||2^j=w+2^j:=by
  have h1:=Nat.two_pow_add_eq_or_of_lt (i:=j+1) (b:=2^j) hp (w/2^(j+1));have h2:2^(j+1)*(w/2^(j+1))=w:=by have:=Nat.div_add_mod w (2^(j+1));omega
  rw[h2]at h1;exact h1.symm
 have bj:w.testBit j=false:=by
  rw[Nat.testBit_eq_decide_div_mod_eq]
  have:w=2^j*(2*(w/2^(j+1))):=by
   have h4:=Nat.div_add_mod w (2^(j+1));have h5:2^(j+1)*(w/2^(j+1))=2^j*(2*(w/2^(j+1))):=by
    generalize w/2^(j+1)=m
    rw[Nat.pow_succ,Nat.mul_assoc]
   omega
  rw[this,Nat.mul_div_cancel_left _ (Nat.two_pow_pos j)]
  simp
 have eb:(BitVec.ofInt 32 ((w+2^j:Nat):Int)&&& ~~~(BitVec.ofInt 32 ((2^j:Nat):Int)))=BitVec.ofNat 32 w:=by
  rw[BitVec.ofInt_natCast,BitVec.ofInt_natCast]
  apply BitVec.eq_of_getLsbD_eq
  intro i hi;rw[BitVec.getLsbD_and,BitVec.getLsbD_not,BitVec.getLsbD_ofNat,BitVec.getLsbD_ofNat,BitVec.getLsbD_ofNat,←e,Nat.testBit_or,Nat.testBit_two_pow]
  by_cases hij:j=i
  ·subst hij;simp[bj]
  simp[hij,hi]
 show IntKind.u32.wrap ((BitVec.ofInt 32 ((w+2^j:Nat):Int)&&& ~~~(BitVec.ofInt 32 ((2^j:Nat):Int))).toNat:Int)=_;rw[eb,BitVec.toNat_ofNat,Nat.mod_eq_of_lt hw];exact IntWalk.u32_in _ (by omega)
theorem yo {k r:Nat}(hr:r<BB^k)(i:Nat):(hO k r).getD i 0=((r/BB^i%BB:Nat):Int):=by
 have h:=dg (fU k r) i;rw[j4,Nat.mod_eq_of_lt hr]at h;exact h
theorem JK {k r i:Nat}(hk:i/32<k)(hr:r+2^i<BB^k)(hd:r%2^(i+1)=0):∃w:Nat,w<4294967296∧w+2^(i%32)<4294967296∧(hO k r).getD (i/32) 0=(w:Int)∧
  eW .or .u32 (w:Int) ((2^(i%32):Nat):Int)=((w+2^(i%32):Nat):Int)∧(hO k r).set (i/32) ((w+2^(i%32):Nat):Int)=hO k (r+2^i)∧
  (hO k (r+2^i)).getD (i/32) 0=((w+2^(i%32):Nat):Int)∧eW .andNot .u32 ((w+2^(i%32):Nat):Int) ((2^(i%32):Nat):Int)=(w:Int)∧(hO k (r+2^i)).set (i/32) (w:Int)=hO k r:=by
 obtain⟨c,hc⟩:∃c,c=i/32:=⟨_,rfl⟩;obtain⟨j,hj⟩:∃j,j=i%32:=⟨_,rfl⟩;have hij:i=32*c+j:=by omega
 rw[←hc]at hk⊢;rw[←hj];have hj32:j<32:=by omega
 have hr0:r<BB^k:=by have:=Nat.two_pow_pos i;omega
 obtain⟨w,hw⟩:∃w,w=r/BB^c%BB:=⟨_,rfl⟩;have hwl:w<4294967296:=by rw[hw];exact Nat.mod_lt _ (by decide)
 have hwd:w%2^(j+1)=0:=by
  obtain⟨m,hm⟩:=Nat.dvd_of_mod_eq_zero hd;have e1:2^(i+1)=BB^c*2^(j+1):=by rw[qu,←Nat.pow_add];congr 1;omega
  have e2:r/BB^c=2^(j+1)*m:=by
   rw[hm,e1,Nat.mul_assoc,Nat.mul_div_cancel_left _ (Nat.pow_pos (by decide))]
  have e3:BB=2^(j+1)*2^(31-j):=by rw[←Nat.pow_add,show j+1+(31-j)=32 by omega];rfl
  rw[hw,e2]
  conv=>lhs;lhs;rhs;rw[e3]
  rw[Nat.mul_mod_mul_left,Nat.mul_mod_right]
 obtain⟨b1,b2⟩:=GG hj32 hwl hwd;have b3:=Jy hj32 hwl hwd;have hl:c<(hO k r).length:=by rw[aM];exact hk
 have g1:(hO k r).getD c 0=(w:Int):=by rw[yo hr0,hw]
 have s1:(hO k r).set c ((w+2^j:Nat):Int)=hO k (r+2^i):=by
  refine qo ((fU k r).set c ⟨by omega,by omega⟩) (by rw[List.length_set,aM]) ?_;have h:=dM (xs:=hO k r) (x:=((w+2^j:Nat):Int)) hl;rw[g1,j4,Nat.mod_eq_of_lt hr0,Int.toNat_natCast,Int.toNat_natCast,Nat.mul_add]at h;have e4:BB^c*2^j=2^i:=by rw[qu,←Nat.pow_add,←hij]
  omega
 refine⟨w,hwl,b2,g1,b1,s1,?_,b3,?_⟩
 ·rw[←s1,X7,List.getElem?_set,if_pos rfl,if_pos hl];rfl
 rw[←s1,List.set_set,←g1];refine List.ext_getElem (by simp) fun n h1 h2=>?_;rw[List.getElem_set]
 split
 ·rename_i e
  subst e;rw[X7,X8 h2];rfl
 rfl
structure HJ (a n i r:Nat):Prop where
 le:i≤n
 d:r%2^i=0
 lo:r*r≤a
 hi:a<(r+2^i)*(r+2^i)
 lt:r+2^i≤2^n
theorem HJ.init {a n:Nat}(h:a<2^n*2^n):HJ a n n 0:=⟨Nat.le_refl _,Nat.zero_mod _,Nat.zero_le _,by rw[Nat.zero_add];exact h,by omega⟩
theorem HJ.up {a n i r:Nat}(H:HJ a n (i+1) r)(h:(r+2^i)*(r+2^i)≤a):HJ a n i (r+2^i):=by
 have e:2^(i+1)=2^i+2^i:=by rw[Nat.pow_succ];omega
 obtain⟨h1,h2,h3,h4,h5⟩:=H;rw[e]at h4 h5;refine⟨by omega,?_,h,by rw[Nat.add_assoc];exact h4,by omega⟩;obtain⟨m,hm⟩:=Nat.dvd_of_mod_eq_zero h2;rw[hm,Nat.pow_succ,Nat.mul_assoc,Nat.add_mod_right,Nat.mul_mod_right]
theorem HJ.stay {a n i r:Nat}(H:HJ a n (i+1) r)(h:a<(r+2^i)*(r+2^i)):HJ a n i r:=by
 have e:2^(i+1)=2^i+2^i:=by rw[Nat.pow_succ];omega
 obtain⟨h1,h2,h3,h4,h5⟩:=H;rw[e]at h5;refine⟨by omega,?_,h3,h,by omega⟩;obtain⟨m,hm⟩:=Nat.dvd_of_mod_eq_zero h2;rw[hm,Nat.pow_succ,Nat.mul_assoc,Nat.mul_mod_right]
theorem HJ.done {a n r:Nat}(H:HJ a n 0 r):r=cK a:=(tO H.lo H.hi).symm
end Go.Eng
namespace Go.Proofs.YtgcmkdgpaibpeaaGreat
open Go.Proofs.Tryz
open Go Go.Eng
theorem wZ (K a:Nat)(hr:a<BB^K)(hl:nl a≤K)(hK:K<2^44):Mc prog 155 [.one (.own 0 1 0 (nl a)),.one (.own 0 1 0 (nl a))] (.ints 146 .u32 (hO K a)) (fun r B'=>r= .one (.ints .u32 (aj (a*a)))∧B'= .ints 146 .u32 (hO K a)):=by
 have dl:=aM K a;have dw:=fun i=>yo hr i;refine mw func155 ⟨[0,1,4,5,6,7,8,18,24],[]⟩ ?_;simp only[Tryz.f155,ntmps155,iz,seval];simp only[vx,T,seval,dl]
 simp(disch:=omega) only[lG,←X2,←Int.natCast_mul,Int.toNat_natCast,IntWalk.i64_in,IntWalk.u64_in,ay,aH,true_and,and_true,dw]
 refine⟨⟨by omega,by omega,by omega,by omega⟩,Lk (fun i:{i:Nat×List Int//gH a a i.1 i.2}=>⟨[(0,.one (.own 0 1 0 (nl a))),(1,.one (.own 0 1 0 (nl a))),(5,.one (.own 1 1 0 (nl a+nl a))),(6,.one (.int .i64 i.1.1))],[(0,⟨.ints 146 .u32 (hO K a),true⟩),(1,⟨.ints 146 .u32 i.1.2,true⟩)],3,67⟩) (fun i=>nl a-i.1.1) ⟨(0,List.replicate (nl a+nl a) 0),gH.init a a⟩ ?_ (fun⟨⟨i,os⟩,hi⟩=>?_)⟩
 ·refine Sa ?_;simp only[ry,seval,rz,dl]
 have h1:=hi.le;have h2:=hi.len;simp only at h1 h2;simp only[vx,T,seval,dl];refine⟨fun h=>Lg ?_,fun h=>Lg ?_⟩
 ·simp only[vx,T,seval,dl];have hx:=bd (a/BB^i);refine Lk (fun k:{k:Nat×List Int×Nat//oW a a i k.1 k.2.1 k.2.2}=>⟨[(0,.one (.own 0 1 0 (nl a))),(1,.one (.own 0 1 0 (nl a))),(5,.one (.own 1 1 0 (nl a+nl a))),(6,.one (.int .i64 i)),(7,.one (.int .u64 k.1.2.2)),(8,.one (.int .i64 k.1.1))],[(0,⟨.ints 146 .u32 (hO K a),true⟩),(1,⟨.ints 146 .u32 k.1.2.1,true⟩)],3,67⟩) (fun k=>nl a-k.1.1) ⟨(0,os,0),hi.start⟩ ?_ (fun⟨⟨k,os',c⟩,hk⟩=>?_)
  ·refine Sa ?_;simp only[ry,seval,rz,lG]
  have h3:=hk.le;have h4:=hk.len;have h5:=hk.c;have h5:c<4294967296:=h5;have hz:=hk.inr.getD (i+k);simp only at h3 h4 hz;obtain⟨o,ho⟩:=Int.eq_ofNat_of_zero_le hz.1;rw[ho]at hz;simp only[vx,T,seval,dl];refine⟨fun h'=>Lg ?_,fun h'=>Lg ?_⟩
  ·simp only[vx,T,seval,dl];have hy:=bd (a/BB^k);have hp:(a/BB^i%BB)*(a/BB^k%BB)≤4294967295*4294967295:=Nat.mul_le_mul (by omega) (by omega)
   simp(disch:=omega) only[lG,←X2,←Int.natCast_mul,Int.toNat_natCast,IntWalk.i64_in,IntWalk.u64_in,ay,aH,true_and,and_true,ho,dw]
   refine⟨by omega,by omega,by omega,by omega,Lq ⟨(k+1,_,_),hk.put (s:=c+o+(a/BB^i%BB)*(a/BB^k%BB)) (by omega) (by omega) ho (by simp only;omega)⟩ ?_ ?_⟩
   ·refine Sa ?_;simp only[ry,seval,rz,dl]
   simp only;omega
  simp only[vx,T,seval,dl];have hkb:k=nl a:=by omega
  subst hkb
  simp(disch:=omega) only[lG,←X2,←Int.natCast_mul,Int.toNat_natCast,IntWalk.i64_in,IntWalk.u64_in,ay,aH,true_and,and_true,dw]
  refine⟨by omega,Lq ⟨(i+1,_),hk.next (by omega)⟩ ?_ ?_⟩
  ·refine Sa ?_;simp only[ry,seval,rz,dl]
  simp only;omega
 simp only[vx,T,seval,dl];have hia:i=nl a:=by omega
 subst hia;have hr:=hi.inr;have hv:=hi.done;simp only at hr hv;rw[List.take_of_length_le (by omega)];refine Cg (bI _ hr (by omega)) ?_;rw[hv];simp only[vx,T,seval,dl]
theorem F5:Pr prog 160 [.one (.ints .u32 (aj 0))] (.one (.int .i64 0)):=by
 have hl:(aj 0).length=0:=by rw[bq];rfl
 refine pw func160 ⟨[0,2,3,4,7,15],[]⟩ ?_;simp only[Tryz.f160,ntmps160,iz,seval];simp only[vx,T,seval,bq];exact Ve rfl
theorem B7 (z:Int)(hz:zn z<2^42):Pr prog 212 [ZV z] (.one (.int .i64 (if z=0 then 0 else kI z.natAbs:Nat))):=by
 have t:=Bf z (by omega);have l:Pr prog 160 [.one (.ints .u32 (aj z.natAbs))] (.one (.int .i64 (if z=0 then 0 else kI z.natAbs:Nat))):=by
  by_cases h:z=0
  ·subst h;exact F5
  rw[if_neg h];exact oV _ (by omega) (by show nl z.natAbs<_;unfold zn at hz;omega)
 refine pw func212 ⟨[0,1,2],[]⟩ ?_;simp only[Tryz.f212,ntmps212,iz,seval];simp only[vx,T,seval,ZV];refine Cg t ?_;simp only[vx,T,seval,ZV];refine Cg l ?_;simp only[vx,T,seval,ZV];exact Ve rfl
theorem D5 (a b:Int)(ha:zn a<2^42)(hb:zn b<2^42):Pr prog 213 [ZV a,ZV b] (.one (.int .i64 (bJ (a-b)))):=by
 have s:=qZ a b (by omega) (by omega);have hs:zn (a-b)<2^59:=by
  have:=oy a (-b)
  have e:zn (-b)=zn b:=by unfold zn;rw[Int.natAbs_neg]
  rw[Int.sub_eq_add_neg];omega
 have g:=gA (a-b) hs;refine pw func213 ⟨[0,1,2,3,4],[]⟩ ?_;simp only[Tryz.f213,ntmps213,iz,seval];simp only[vx,T,seval,ZV];refine Cg s ?_;simp only[vx,T,seval,ZV];refine Cg g ?_;simp only[vx,T,seval,ZV];exact Ve rfl
theorem uB (z:Int)(h0:0≤z)(hz:zn z<2^38):Pr prog 186 [ZV z] (.aA [ZV (cK z.natAbs:Nat),.one (.int .i64 0)]):=by
 have c:=eX z (by omega);have b:=B7 z (by omega);obtain⟨a,ha⟩:∃a,a=z.natAbs:=⟨_,rfl⟩;obtain⟨q,hq⟩:∃q:Nat,q=if z=0 then 0 else kI z.natAbs:=⟨_,rfl⟩
 rw[←hq]at b;have hzs:zs z=false:=dC.2 h0;have hal:nl a<2^38:=by rw[ha];exact hz
 have hqa:a<2^q∧q≤32*nl a:=by
  rw[hq]
  by_cases h:z=0
  ·rw[if_pos h,ha,h];exact⟨by decide,Nat.zero_le _⟩
  rw[if_neg h,←ha];exact⟨DG (by omega),xn (by omega)⟩
 obtain⟨n,hn⟩:∃n,n=(q+1)/2:=⟨_,rfl⟩;have w1:IntKind.i64.wrap ((q:Int)+1)=((q+1:Nat):Int):=by rw[IntWalk.i64_in _ (by omega)];omega
 have w2:IntKind.i64.wrap (((q+1:Nat):Int).tdiv 2)=(n:Int):=by rw[Int.tdiv_eq_ediv_of_nonneg (by omega),IntWalk.i64_in _ (by omega)];omega
 have w3:IntKind.i64.wrap ((n:Int).tdiv 32)=((n/32:Nat):Int):=by rw[Int.tdiv_eq_ediv_of_nonneg (by omega),IntWalk.i64_in _ (by omega)];omega
 have w4:IntKind.i64.wrap (((n/32:Nat):Int)+1)=((n/32+1:Nat):Int):=by rw[IntWalk.i64_in _ (by omega)];omega
 have w5:IntKind.i64.wrap ((n:Int)-1)=(n:Int)-1:=by rw[IntWalk.i64_in _ (by omega)]
 have hini:a<2^n*2^n:=by
  rw[←Nat.pow_add];exact Nat.lt_of_lt_of_le hqa.1 (Nat.pow_le_pow_right (by decide) (by omega))
 have hK:2^n<BB^(n/32+1):=by rw[qu];exact Nat.pow_lt_pow_right (by decide) (by omega)
 obtain⟨K,hKe⟩:∃K,K=n/32+1:=⟨_,rfl⟩;rw[←hKe]at hK w4;have er:(List.replicate K (0:Int))=hO K 0:=qo (bK.replicate _) (by simp) (cN _);have b:Pr prog 212 [.agg [.bool false,.ints .u32 (zm z)]] (.one (.int .i64 q)):=by
  have b:=b;unfold ZV at b;rw[hzs]at b;exact b
 refine pw func186 ⟨[0,1,2,3,4,5,6,10,23,47],[(10,(.cons 1 [2,5,6] (.cons 3 [5,6] (.cons 4 [5,6] (.cons 7 [] (.cons 8 [] .nil .nil) .nil) .nil) .nil) .nil))]⟩ ?_;simp only[Tryz.f186,ntmps186,iz,seval];simp only[vx,T,seval,ZV];refine Cg c ?_;simp only[vx,T,seval,ZV,hzs];refine Cg b ?_;simp only[vx,T,seval,ZV,w1,w2,w3,w4,w5,Int.toNat_natCast];refine⟨⟨by omega,by omega,by omega,by omega⟩,Lk (fun y:{y:Nat×Nat//HJ a n y.1 y.2}=>⟨[(1,.one (.ptr 1 0)),(2,.one (.ptr 2 0)),(3,.one (.int .i64 0)),(5,.one (.own 3 1 0 K)),(6,.one (.int .i64 ((y.1.1:Int)-1)))],[(1,⟨.var [.bool false,.ints .u32 (zm z)],true⟩),(2,⟨.var [.bool false,.nil],true⟩),(3,⟨.ints 146 .u32 (hO K y.1.2),true⟩)],4,63⟩) (fun y=>y.1.1) ⟨(n,0),.init hini⟩ ?_ (fun⟨⟨i,r⟩,hI⟩=>?_)⟩
 ·refine Sa ?_;simp only[ry,seval,rz,ZV,er]
 simp only;have hle:=hI.le;simp only at hle;simp only[vx,T,seval,ZV];refine⟨fun g=>Lg ?_,fun g=>Lg ?_⟩
 ·obtain⟨k,rfl⟩:∃k,i=k+1:=⟨i-1,by omega⟩;have e6:(((k+1:Nat):Int)-1)=(k:Int):=by omega
  have hlt:=hI.lt;have hd:=hI.d;simp only at hlt hd;have hp2:2^(k+1)=2^k+2^k:=by rw[Nat.pow_succ];omega
  have hpk:=Nat.two_pow_pos k;obtain⟨w,k1,k2,k3,k4,k5,k6,k7,k8⟩:=JK (k:=K) (r:=r) (i:=k) (by omega) (by omega) hd;have v1:IntKind.i64.wrap ((k:Int).tdiv 32)=((k/32:Nat):Int):=by rw[Int.tdiv_eq_ediv_of_nonneg (by omega),IntWalk.i64_in _ (by omega)];omega
  have v2:(k:Int).tmod 32=((k%32:Nat):Int):=rfl;have v3:IntKind.u32.wrap (1*2^(if k%32≤32 then k%32 else 32))=((2^(k%32):Nat):Int):=by
   have e:(2:Int)^(k%32)=((2^(k%32):Nat):Int):=by rw[Int.natCast_pow];rfl
   have hw:2^(k%32)<2^32:=Nat.pow_lt_pow_right (by decide) (Nat.mod_lt _ (by decide));rw[if_pos (by omega),Int.one_mul,e]
   generalize 2^(k%32)=m at hw
   rw[IntWalk.u32_in _ (by omega)]
  have v4:IntKind.i64.wrap ((k:Int)-1)=(k:Int)-1:=by rw[IntWalk.i64_in _ (by omega)]
  have hr2:r+2^k<BB^K:=by omega
  have hdl:=aM K (r+2^k);have hdr:=aM K r;have hvd:val ((hO K (r+2^k)).take K)=r+2^k:=by rw[dG,j4,Nat.mod_eq_of_lt hr2]
  have hnl:nl (r+2^k)≤K:=aD hr2;have tm:=mN (hO K (r+2^k)) 0 K (fU _ _) (by rw[hdl];omega) (by rw[hdl];omega);rw[List.drop_zero,hvd]at tm;have xm:=wZ K (r+2^k) hr2 hnl (by omega);have hsq:nl ((r+2^k)*(r+2^k))<2^62:=by
   have:=iu (r+2^k) (r+2^k)
   omega
  have cp:=fy ((r+2^k)*(r+2^k)) a hsq (by omega);have ea:zm z=aj a:=by rw[ha];rfl
  rw[ea];simp only[vx,T,seval,ZV,e6,v1,v2,v3,v4,k3,k4,k5,hdr,Int.toNat_natCast];refine⟨⟨by omega,by omega⟩,by omega,⟨by omega,by omega⟩,Cm 3 (B:=.ints 146 .u32 (hO K (r+2^k))) rfl trivial tm ?_⟩;rintro _ _ ⟨rfl,rfl⟩ _;simp only[vx,T,seval,ZV,v1,v2,v3,v4,hdl,Int.toNat_natCast];refine Cm 3 (B:=.ints 146 .u32 (hO K (r+2^k))) rfl trivial tm ?_;rintro _ _ ⟨rfl,rfl⟩ _;simp only[vx,T,seval,ZV,v1,v2,v3,v4,hdl,Int.toNat_natCast];refine Cm 3 (B:=.ints 146 .u32 (hO K (r+2^k))) rfl trivial xm ?_;rintro _ _ ⟨rfl,rfl⟩ _;simp only[vx,T,seval,ZV,v1,v2,v3,v4,hdl,Int.toNat_natCast];refine Cg cp ?_;simp only[vx,T,seval,ZV,v1,v2,v3,v4,hdl,Int.toNat_natCast];refine⟨fun g2=>Lg ?_,fun g2=>Lg ?_⟩
  ·have hgt:a<(r+2^k)*(r+2^k):=by
    unfold eH at g2
    generalize(r+2^k)*(r+2^k)=m at g2⊢
    (repeat' split at g2)<;>omega
   simp only[vx,T,seval,ZV,v1,v2,v3,v4,k6,k7,k8,hdl,Int.toNat_natCast];refine⟨⟨by omega,by omega⟩,by omega,⟨by omega,by omega⟩,Lq ⟨(k,r),hI.stay hgt⟩ ?_ (by show k<k+1;omega)⟩;refine Sa ?_;simp only[ry,seval,rz,ZV,ea]
  have hle2:(r+2^k)*(r+2^k)≤a:=by
   unfold eH at g2
   generalize(r+2^k)*(r+2^k)=m at g2⊢
   (repeat' split at g2)<;>omega
  simp only[vx,T,seval,ZV,v1,v2,v3,v4,hdl,Int.toNat_natCast];refine Lq ⟨(k,r+2^k),hI.up hle2⟩ ?_ (by show k<k+1;omega);refine Sa ?_;simp only[ry,seval,rz,ZV,ea]
 have hi0:i=0:=by omega
 subst hi0;have hr:=hI.done;simp only at hr;have hdr:=aM K r;have hrK:r<BB^K:=by
  have:=hI.lt
  simp only at this;omega
 have sg:=pW false (hO K r) (fU _ _) (by rw[hdr];omega);rw[j4,Nat.mod_eq_of_lt hrK,Bool.false_and]at sg;have tk:=dG K r;have e7:zs ((cK z.natAbs:Nat):Int)=false:=dC.2 (by omega);have e8:zm ((cK z.natAbs:Nat):Int)=aj r:=by rw[hr,ha];rfl
 simp only[vx,T,seval,ZV,hdr,tk];refine Cg sg ?_;simp only[vx,T,seval,ZV,e7,e8];exact Ve rfl
open Go Go.Eng
theorem ne_false_iff {z w:Int}(h:zs z≠zs w∨zn z≠zn w):decide (z=w)=false:=by
 refine decide_eq_false ?_;rintro rfl
 rcases h with h|h<;>exact h rfl
theorem od (z w:Int)(hz:zn z<2^44)(hw:zn w<2^44):Pr prog 187 [ZV z,ZV w] (.one (.bool (decide (z=w)))):=by
 refine pw func187 ⟨[0,1,2,3,4,5,19,24,37],[]⟩ ?_;simp only[Tryz.f187,ntmps187,iz,seval];simp only[vx,T,seval,ZV];refine⟨fun h1=>Lg ?_,fun h1=>Lg ?_⟩
 ·have hb:=ne_false_iff (z:=z) (w:=w) (.inl (by simpa using h1));simp only[vx,T,seval,ZV];exact vb hb.symm
 have h1:zs z=zs w:=by simpa using h1
 simp only[vx,T,seval,ZV];refine⟨fun h2=>Lg ?_,fun h2=>Lg ?_⟩
 ·rw[aU,aU]at h2;have hb:=ne_false_iff (z:=z) (w:=w) (.inr (by omega));simp only[vx,T,seval,ZV];exact vb hb.symm
 rw[aU,aU]at h2;have h2':zn z=zn w:=by omega
 simp only[vx,T,seval,ZV];refine Lk (fun y:{i:Nat//i≤zn z∧z.natAbs%BB^i=w.natAbs%BB^i}=>⟨[(2,.one (.ptr 1 0)),(3,.one (.ptr 2 0)),(4,.one (.bool false)),(5,.one (.int .i64 y.1))],[(1,⟨.var [.bool (zs z),.ints .u32 (zm z)],true⟩),(2,⟨.var [.bool (zs w),.ints .u32 (zm w)],true⟩)],3,38⟩) (fun y=>zn z-y.1) ⟨0,by omega,by rw[Nat.pow_zero,Nat.mod_one,Nat.mod_one]⟩ ?_ (fun⟨i,hi,he⟩=>?_)
 ·refine Sa ?_;simp only[ry,seval,rz]
 simp only[vx,T,seval,aU];refine⟨fun h3=>Lg ?_,fun h3=>Lg ?_⟩
 ·have g1:(zm z).getD i 0=((z.natAbs/BB^i%BB:Nat):Int):=lG _ _;have g2:(zm w).getD i 0=((w.natAbs/BB^i%BB:Nat):Int):=lG _ _;have i1:=wI i (by omega);simp only[vx,T,seval,aU];simp only[Int.toNat_natCast,g1,g2];refine⟨by omega,by omega,?_⟩;refine⟨fun h4=>Lg ?_,fun h4=>Lg ?_⟩
  ·have hb:decide (z=w)=false:=decide_eq_false (by rintro rfl;exact h4 rfl);simp only[vx,T,seval,ZV];exact vb hb.symm
  simp only[vx,T,seval,ZV];simp only[i1];refine Lq ⟨i+1,by omega,?_⟩ ?_ ?_
  ·rw[kF,kF,he,show z.natAbs/BB^i%BB=w.natAbs/BB^i%BB by omega]
  ·refine Sa ?_;simp only[ry,seval,rz,ZV]
  simp only;omega
 simp only[vx,T,seval,ZV];have hi':i=zn z:=by omega
 refine vb (decide_eq_true ?_).symm;have e1:z.natAbs%BB^i=z.natAbs:=Nat.mod_eq_of_lt (by rw[hi'];exact cB _);have e2:w.natAbs%BB^i=w.natAbs:=Nat.mod_eq_of_lt (by rw[hi',h2'];exact cB _);rw[e1,e2]at he;rw[←bY z,←bY w,h1,he]
open Go Go.Eng
theorem Fp {x:Rat}(h0:0<x.num):(x⁻¹).num=(x.den:Int)∧((x⁻¹).den:Int)=x.num:=by
 obtain⟨d,hd⟩:∃d:Nat,x.num=d:=⟨x.num.toNat,by omega⟩;have hc:(x.den:Int).natAbs.Coprime d:=by
  have:=x.reduced
  rw[hd]at this;exact this.symm
 obtain⟨r0,hr0⟩:∃r0:Rat,r0=⟨(x.den:Int),d,by omega,hc⟩:=⟨_,rfl⟩;have e1:r0.num=(x.den:Int):=by rw[hr0]
 have e2:r0.den=d:=by rw[hr0]
 have e3:mkRat x.den d=r0:=by rw[←e1,←e2];exact Rat.mkRat_self r0
 rw[inv_pos hd,e3,e1,e2,hd];exact⟨rfl,rfl⟩
theorem G1 {x:Rat}(h0:x.num<0):(x⁻¹).num= -(x.den:Int)∧((x⁻¹).den:Int)= -x.num:=by
 obtain⟨d,hd⟩:∃d:Nat,x.num= -(d:Int):=⟨(-x.num).toNat,by omega⟩;have hc:(-(x.den:Int)).natAbs.Coprime d:=by
  have:=x.reduced
  rw[hd,Int.natAbs_neg]at this;rw[Int.natAbs_neg];exact this.symm
 obtain⟨r0,hr0⟩:∃r0:Rat,r0=⟨-(x.den:Int),d,by omega,hc⟩:=⟨_,rfl⟩;have e1:r0.num= -(x.den:Int):=by rw[hr0]
 have e2:r0.den=d:=by rw[hr0]
 have e3:mkRat (-(x.den:Int)) d=r0:=by rw[←e1,←e2];exact Rat.mkRat_self r0
 rw[inv_neg hd,e3,e1,e2,hd];exact⟨rfl,by omega⟩
theorem Ay (x:Rat)(hx:qm x<2^40)(h0:x≠0):Pr prog 124 [QV x] (QV x⁻¹):=by
 have hn:x.num≠0:=fun h=>h0 (Rat.num_eq_zero.1 h);unfold qm at hx;have n1:=nK (x.den:Int) (by rw[aE];omega);have n2:=nK x.num (by omega)
 by_cases hp:0<x.num
 ·have hz:zs x.num=false:=dC.2 (by omega);obtain⟨e1,e2⟩:=Fp hp;have e:=Fv e1 e2;unfold QV;rw[e];refine pw func124 ⟨[0,1,2,5],[]⟩ ?_;simp only[Tryz.f124,ntmps124,iz,seval];simp only[vx,T,seval,QC];refine⟨fun h=>(by rw[hz]at h;cases h),fun _=>Lg ?_⟩;simp only[vx,T,seval,QC];exact Ve rfl
 have hz:zs x.num=true:=lH.2 (by omega);obtain⟨e1,e2⟩:=G1 (by omega:x.num<0);have e:=Fv e1 e2;unfold QV;rw[e];refine pw func124 ⟨[0,1,2,5],[]⟩ ?_;simp only[Tryz.f124,ntmps124,iz,seval];simp only[vx,T,seval,QC];refine⟨fun _=>Lg ?_,fun h=>(by rw[hz]at h;cases h)⟩;simp only[vx,T,seval,QC];refine Cg n1 ?_;simp only[vx,T,seval,QC,ZV];refine Cg n2 ?_;simp only[vx,T,seval,QC,ZV];exact Ve rfl
theorem AU (n:Int)(d:Nat)(hn:zn n<2^40)(hd:nl d<2^40)(h0:0<d):Pr prog 45 [ZV n,ZV (d:Int)] (QV (mkRat n d)):=by
 have hg:(0:Int)<(Int.gcd n d:Nat):=by have:=wW (n:=n) h0;omega
 have hgn:zn (Int.gcd n d)≤nl d:=rC (b:=(d:Int)) (by
  have:=Nat.gcd_le_right n.natAbs (show 0<(d:Int).natAbs by omega)
  exact this)
 have c:=ey n (d:Int) (by omega) (by rw[aE];omega);have s:=gA (d:Int) (by rw[aE];omega);rw[show bJ (d:Int)=1 by unfold bJ;rw[if_neg (by omega),if_neg (by omega)]]at s;have q1:=bE n (Int.gcd n d) (by omega) (by omega) (by omega);have q2:=bE d (Int.gcd n d) (by rw[aE];omega) (by omega) (by omega);rw[xJ h0]at q1;rw[w9 h0]at q2;refine pw func45 ⟨[0,1,2,3,4,5,11],[]⟩ ?_;simp only[Tryz.f45,ntmps45,iz,seval];simp only[vx,T,seval,ZV];refine Cg c ?_;simp only[vx,T,seval,ZV];refine Cg s ?_;simp only[vx,T,seval,ZV];refine Cg q1 ?_;simp only[vx,T,seval,ZV];refine Cg q2 ?_;simp only[vx,T,seval,ZV];refine Va ?_;simp only[cV,aW,ry,seval,QV,QC]
theorem oz (n:Int)(d:Nat)(hn: -9223372036854775808≤n∧n≤9223372036854775807)(hd:d≤9223372036854775807)(h0:0<d)(k1:zn n<2^39)(k2:nl d<2^39):
  Pr prog 21 [.one (.int .i64 n),.one (.int .i64 d)] (QV (mkRat n d)):=by
 have c1:=fu n hn.1 hn.2;have c2:=fu (d:Int) (by omega) (by omega);have m:=AU n d (by omega) (by omega) h0;refine pw func21 ⟨[0,1,4,6],[]⟩ ?_;simp only[Tryz.f21,ntmps21,iz,seval];simp only[vx,T,seval,ZV];refine⟨fun h=>absurd h (by omega),fun _=>Lg ?_⟩;simp only[vx,T,seval,ZV];refine Cg c1 ?_;simp only[vx,T,seval,ZV];refine Cg c2 ?_;simp only[vx,T,seval,ZV];refine Cg m ?_;simp only[vx,T,seval,ZV,QV,QC];exact Ve rfl
def Nn (a b:Rat):Int:=bJ (a.num*b.den-b.num*a.den)
theorem uX {a b:Rat}:Nn a b=0↔a=b:=by
 unfold Nn
 have e:bJ (a.num*b.den-b.num*a.den)=0↔a.num*b.den-b.num*a.den=0:=by unfold bJ;(repeat' split)<;>omega
 rw[e]
 constructor
 ·intro h;have h2:a.num*b.den=b.num*a.den:=by omega
  rw[←Rat.mkRat_self a,←Rat.mkRat_self b];exact(Rat.mkRat_eq_iff a.den_nz b.den_nz).2 h2
 rintro rfl;omega
theorem Cr (a b:Rat)(ha:qm a<2^38)(hb:qm b<2^38):Pr prog 189 [QV a,QV b] (.one (.int .i64 (Nn a b))):=by
 have na:zn a.num<2^38∧nl a.den<2^38:=by unfold qm at ha;omega
 have nb:zn b.num<2^38∧nl b.den<2^38:=by unfold qm at hb;omega
 have ma:=bp a.num (b.den:Int) (by omega) (by rw[aE];omega);have mb:=bp b.num (a.den:Int) (by omega) (by rw[aE];omega);have e1:=cQ a.num (b.den:Int);have e2:=cQ b.num (a.den:Int);rw[aE]at e1 e2;have cc:=D5 (a.num*b.den) (b.num*a.den) (by omega) (by omega);refine pw func189 ⟨[0,1,2,3,4],[]⟩ ?_;simp only[Tryz.f189,ntmps189,iz,seval];simp only[vx,T,seval,QV,QC];refine Cg ma ?_;simp only[vx,T,seval,ZV];refine Cg mb ?_;simp only[vx,T,seval,ZV];refine Cg cc ?_;simp only[vx,T,seval,ZV];exact Ve rfl
theorem MO {x:Rat}(h:zZ x=none)(h0:0≤x.num):cK x.num.natAbs*cK x.num.natAbs≠x.num.natAbs∨cK x.den*cK x.den≠x.den:=by
 unfold zZ at h
 split at h
 ·cases h
 rename_i hc
 by_cases k1:cK x.num.natAbs*cK x.num.natAbs=x.num.natAbs
 ·by_cases k2:cK x.den*cK x.den=x.den
  ·exact absurd ⟨h0,k1,k2⟩ hc
  exact .inr k2
 exact .inl k1
theorem yl (x:Rat)(hx:qm x<2^38):Pr prog 150 [QV x] (match zZ x with
  |some r=>.aA [QV r,.one (.bool true)]
  |none=>.aA [.agg [.bool false,.nil,.bool false,.nil],.one (.bool false)]):=by
 have hx':=hx;unfold qm at hx'
 by_cases h0:0≤x.num
 ·have hz:zs x.num=false:=dC.2 h0;have s1:=uB x.num h0 (by omega);have s2:=uB (x.den:Int) (by omega) (by rw[aE];omega);rw[Int.natAbs_natCast]at s2;have l1:nl (cK x.num.natAbs)≤zn x.num:=bh (Aw _);have l2:nl (cK x.den)≤nl x.den:=bh (Aw _);have m1:=bp (cK x.num.natAbs:Nat) (cK x.num.natAbs:Nat) (by rw[aE];omega) (by rw[aE];omega);have m2:=bp (cK x.den:Nat) (cK x.den:Nat) (by rw[aE];omega) (by rw[aE];omega);have e1:=cQ (cK x.num.natAbs:Nat) (cK x.num.natAbs:Nat);have e2:=cQ (cK x.den:Nat) (cK x.den:Nat);rw[aE]at e1 e2;have t1:=od (((cK x.num.natAbs:Nat):Int)*(cK x.num.natAbs:Nat)) x.num (by omega) (by omega);have t2:=od (((cK x.den:Nat):Int)*(cK x.den:Nat)) (x.den:Int) (by omega) (by rw[aE];omega);have q1:(((cK x.num.natAbs:Nat):Int)*(cK x.num.natAbs:Nat)=x.num)↔cK x.num.natAbs*cK x.num.natAbs=x.num.natAbs:=by
   rw[←Int.natCast_mul]
   generalize cK x.num.natAbs*cK x.num.natAbs=m
   omega
  have q2:(((cK x.den:Nat):Int)*(cK x.den:Nat)=(x.den:Int))↔cK x.den*cK x.den=x.den:=by
   rw[←Int.natCast_mul]
   generalize cK x.den*cK x.den=m
   omega
  cases hq:zZ x with
  |some r=>
   obtain⟨_,_,k1,k2,k3,k4⟩:=pE hq;rw[decide_eq_true (q1.2 k1)]at t1;rw[decide_eq_true (q2.2 k2)]at t2;have er:=Fv k3 (show(r.den:Int)=(cK x.den:Nat) by rw[k4]);simp only;rw[show QV r= .agg _ from congrArg V.agg er];refine pw func150 ⟨[0,1,2,3,4,6,10,39],[]⟩ ?_;simp only[Tryz.f150,ntmps150,iz,seval];simp only[vx,T,seval,QV,QC];refine⟨fun h=>(by rw[hz]at h;cases h),fun _=>Lg ?_⟩;simp only[vx,T,seval,QV,QC];refine Cg s1 ?_;simp only[vx,T,seval,QV,QC,ZV];refine Cg s2 ?_;simp only[vx,T,seval,QV,QC,ZV];refine Cg m1 ?_;simp only[vx,T,seval,QV,QC,ZV];refine Cg t1 ?_;simp only[vx,T,seval,QV,QC,ZV];refine Cg m2 ?_;simp only[vx,T,seval,QV,QC,ZV];refine Cg t2 ?_;simp only[vx,T,seval,QV,ZV];exact Ve rfl
  |none=>
   simp only
   by_cases k1:cK x.num.natAbs*cK x.num.natAbs=x.num.natAbs
   ·have k2:=(MO hq h0).resolve_left fun h=>h k1;rw[decide_eq_true (q1.2 k1)]at t1;rw[decide_eq_false fun h=>k2 (q2.1 h)]at t2;refine pw func150 ⟨[0,1,2,3,4,6,10,39],[]⟩ ?_;simp only[Tryz.f150,ntmps150,iz,seval];simp only[vx,T,seval,QV,QC];refine⟨fun h=>(by rw[hz]at h;cases h),fun _=>Lg ?_⟩;simp only[vx,T,seval,QV,QC];refine Cg s1 ?_;simp only[vx,T,seval,QV,QC,ZV];refine Cg s2 ?_;simp only[vx,T,seval,QV,QC,ZV];refine Cg m1 ?_;simp only[vx,T,seval,QV,QC,ZV];refine Cg t1 ?_;simp only[vx,T,seval,QV,QC,ZV];refine Cg m2 ?_;simp only[vx,T,seval,QV,QC,ZV];refine Cg t2 ?_;simp only[vx,T,seval,QV,ZV];exact Ve rfl
   rw[decide_eq_false fun h=>k1 (q1.1 h)]at t1;refine pw func150 ⟨[0,1,2,3,4,6,10,39],[]⟩ ?_;simp only[Tryz.f150,ntmps150,iz,seval];simp only[vx,T,seval,QV,QC];refine⟨fun h=>(by rw[hz]at h;cases h),fun _=>Lg ?_⟩;simp only[vx,T,seval,QV,QC];refine Cg s1 ?_;simp only[vx,T,seval,QV,QC,ZV];refine Cg s2 ?_;simp only[vx,T,seval,QV,QC,ZV];refine Cg m1 ?_;simp only[vx,T,seval,QV,QC,ZV];refine Cg t1 ?_;simp only[vx,T,seval,QV,QC,ZV];exact Ve rfl
 have hz:zs x.num=true:=lH.2 (by omega);have hq:zZ x=none:=by unfold zZ;rw[if_neg fun h=>h0 h.1]
 rw[hq];refine pw func150 ⟨[0,1,2,3,4,6,10,39],[]⟩ ?_;simp only[Tryz.f150,ntmps150,iz,seval];simp only[vx,T,seval,QV,QC];refine⟨fun _=>Lg ?_,fun h=>(by rw[hz]at h;cases h)⟩;simp only[vx,T,seval,QV,QC];exact Ve rfl
open Go Go.Eng
open Go.Tw (El aC aJ zE ai au ar ao ae QB mS ah ag aO aI tB aX aG dK)
theorem Bu (q:Rat)(hq:qm q<2^40):Pr prog 127 [QV q] (QV (-q)):=by
 have c:=nK q.num (by unfold qm at hq;omega);refine pw func127 ⟨[0,1,2],[]⟩ ?_;simp only[Tryz.f127,ntmps127,iz,seval];simp only[vx,T,seval,QV,QC];refine Cg c ?_;simp only[vx,T,seval,ZV];exact Ve rfl
theorem Ds {ks:El}{k:Nat}(hk:ks.length=k)(q:Rat):∀(i j:Nat),i<k+1→j<4→
  (if i<k then fQ ks i j else[C.bool (zs q.num),C.ints .u32 (zm q.num),C.bool (zs (q.den:Int)),C.ints .u32 (zm (q.den:Int))].getD ((i-k)*4+j) C.any)=fQ (ks++[q]) i j:=by
 subst hk;intro i j hi hj
 by_cases h:i<ks.length
 ·rw[if_pos h];unfold fQ;rw[X7,X7,List.getElem?_append_left h]
 have:i=ks.length:=by omega
 subst this;rw[if_neg h,Nat.sub_self,Nat.zero_mul,Nat.zero_add];exact dA q (by rw[X7,List.getElem?_append_right (Nat.le_refl _),Nat.sub_self];rfl) j
theorem take_add {a b:El}{i:Nat}(h:i<a.length)(hab:b.length=a.length):(aC a b).take (i+1)=(aC a b).take i++[a.getD i default+b.getD i default]:=by
 rw[eK h,eK (by omega:i<b.length),List.take_add_one];show _++(List.zipWith (· + ·) a b)[i]?.toList=_;rw[List.getElem?_zipWith,X8 h,X8 (by omega:i<b.length)];rfl
theorem Hy {a:El}{i:Nat}(h:i<a.length):(aJ a).take (i+1)=(aJ a).take i++[-(a.getD i default)]:=by
 rw[eK h,List.take_add_one];show _++(List.map (- ·) a)[i]?.toList=_;rw[List.getElem?_map,X8 h];rfl
theorem sU {h:Nat}{t:List El}(a b:El)(hl:a.length<2^30)(hab:b.length=a.length)(hqa:Qk a)(hqb:Qk b):Fr prog 80 [tV h t,eV a,eV b] (.rows 62 4 (aC a b).length (fQ (aC a b))):=by
 have hlen:(aC a b).length=a.length:=by unfold aC;rw[List.length_zipWith];omega
 refine fw func80 ⟨[1,2,6,7,8,12],[]⟩ ?_;simp only[Tryz.f80,ntmps80,iz,seval];simp only[vx,T,seval,eV,aa];refine Lk (fun y:{i:Nat//i≤a.length}=>⟨[(1,eV a),(2,eV b),(6,.one .nil),(7,.one (.own 1 4 0 y.1)),(8,.one (.int .i64 y.1))],[(1,⟨.rows 62 4 y.1 (fQ ((aC a b).take y.1)),true⟩)],2,28⟩) (fun y=>a.length-y.1) ⟨0,Nat.zero_le _⟩ ?_ (fun⟨i,hi⟩=>?_)
 ·refine Sa ?_;simp only[ry,seval,rz,eV,aa]
 have i1:=wI i (by omega);simp only[vx,T,seval,eV,aa];refine⟨fun h1=>Lg ?_,fun h1=>Lg ?_⟩
 ·have hil:i<a.length:=by omega
  have hxq:=hqa.get i;have hyq:=hqb.get i;have hst:=take_add hil hab;obtain⟨x,hx⟩:∃x,x=a.getD i default:=⟨_,rfl⟩;obtain⟨y,hy⟩:∃y,y=b.getD i default:=⟨_,rfl⟩;rw[←hx]at hxq;rw[←hy]at hyq;rw[←hx,←hy]at hst;simp only[vx,T,seval,eV,aa,←hx,←hy,qC];refine⟨by omega,by omega,Cg (Bo x y hxq hyq) ?_⟩;simp only[vx,T,seval,QV,QC];simp only[i1];refine⟨⟨by omega,by omega⟩,Lq ⟨i+1,by omega⟩ ?_ ?_⟩
  ·refine Sa ?_;simp only[ry,seval,rz,eV,aa];rw[hst];exact Ds (by rw[X5];omega) (x+y)
  simp only;omega
 have hil:i=a.length:=by omega
 subst hil;have e:(aC a b).take a.length=aC a b:=by rw[←hlen,List.take_length]
 simp only[vx,T,seval,e];exact⟨hlen.symm,rfl,hlen.symm,fun _ _ _ _=>rfl⟩
theorem yY {h:Nat}{t:List El}(a:El)(hl:a.length<2^30)(hqa:Qk a):Fr prog 90 [tV h t,eV a] (.rows 62 4 (aJ a).length (fQ (aJ a))):=by
 have hlen:(aJ a).length=a.length:=by unfold Go.Tw.aJ;rw[List.length_map]
 refine fw func90 ⟨[1,4,5,6,10],[]⟩ ?_;simp only[Tryz.f90,ntmps90,iz,seval];simp only[vx,T,seval,eV,aa];refine Lk (fun y:{i:Nat//i≤a.length}=>⟨[(1,eV a),(4,.one .nil),(5,.one (.own 1 4 0 y.1)),(6,.one (.int .i64 y.1))],[(1,⟨.rows 62 4 y.1 (fQ ((aJ a).take y.1)),true⟩)],2,22⟩) (fun y=>a.length-y.1) ⟨0,Nat.zero_le _⟩ ?_ (fun⟨i,hi⟩=>?_)
 ·refine Sa ?_;simp only[ry,seval,rz,eV,aa]
 have i1:=wI i (by omega);simp only[vx,T,seval,eV,aa];refine⟨fun h1=>Lg ?_,fun h1=>Lg ?_⟩
 ·have hil:i<a.length:=by omega
  have hxq:=hqa.get i;have hst:=Hy hil;obtain⟨x,hx⟩:∃x,x=a.getD i default:=⟨_,rfl⟩;rw[←hx]at hxq;rw[←hx]at hst;simp only[vx,T,seval,eV,aa,←hx,qC];refine⟨by omega,Cg (Bu x (by omega)) ?_⟩;simp only[vx,T,seval,QV,QC];simp only[i1];refine⟨⟨by omega,by omega⟩,Lq ⟨i+1,by omega⟩ ?_ ?_⟩
  ·refine Sa ?_;simp only[ry,seval,rz,eV,aa];rw[hst];exact Ds (by rw[X5];omega) (-x)
  simp only;omega
 have hil:i=a.length:=by omega
 subst hil;have e:(aJ a).take a.length=aJ a:=by rw[←hlen,List.take_length]
 simp only[vx,T,seval,e];exact⟨hlen.symm,rfl,hlen.symm,fun _ _ _ _=>rfl⟩
theorem HV {h:Nat}{t:List El}(a b:El)(hl:a.length<2^30)(hab:b.length=a.length)(hqa:Qk a)(hqb:Qk b):Fr prog 152 [tV h t,eV a,eV b] (.rows 62 4 (aC a (aJ b)).length (fQ (aC a (aJ b)))):=by
 have hqn:Qk (aJ b):=fun x hx=>by
  obtain⟨y,hy,rfl⟩:=List.mem_map.1 hx;rw[Go.Tw.B6];exact hqb y hy
 have n:=(yY (h:=h) (t:=t) b (by omega) hqb).rows;have s:=sU (h:=h) (t:=t) a (aJ b) hl (by rw[ar];exact hab) hqa hqn;refine fw func152 ⟨[0,1,2,6],[]⟩ ?_;simp only[Tryz.f152,ntmps152,iz,seval];simp only[vx,T,seval,tV,tC,eV,aa];refine Cg n ?_;simp only[vx,T,seval,tV,tC,eV,aa];refine cF.fresh s ?_;simp only[vx,T,seval,tV,tC,eV,aa];exact⟨rfl,rfl,fun _ _ _ _=>rfl⟩
theorem Cl {x:Rat}:(0:Int)<((zm x.num).length:Nat)↔x≠0:=by
 rw[aU];have h:zn x.num=0↔x.num=0:=dU;have h2:x.num=0↔x=0:=Rat.num_eq_zero
 constructor
 ·intro k e
  have:=h.2 (h2.2 e)
  omega
 intro k
 have:¬zn x.num=0:=fun e=>k (h2.1 (h.1 e))
 omega
theorem CZ {a:El}:a=zE a.length↔∀i,i<a.length→a.getD i default=0:=by
 constructor
 ·intro h i hi;rw[h];unfold zE;rw[X7,List.getElem?_replicate]
  split<;>rfl
 intro h;refine List.ext_getElem (by rw[au]) fun i h1 h2=>?_
 have:=h i h1
 rw[eK h1]at this;rw[this];exact(List.eq_of_mem_replicate (List.getElem_mem h2)).symm
theorem jH (a:El)(hl:a.length<2^38):Pr prog 78 [eV a] (.one (.bool (decide (a=zE a.length)))):=by
 refine pw func78 ⟨[0,2,3,7,17],[]⟩ ?_;simp only[Tryz.f78,ntmps78,iz,seval];simp only[vx,T,seval,eV,aa];refine Lk (fun y:{i:Nat//i≤a.length∧∀j,j<i→a.getD j default=0}=>⟨[(0,eV a),(2,.one (.bool false)),(3,.one (.int .i64 y.1))],[],1,18⟩) (fun y=>a.length-y.1) ⟨0,Nat.zero_le _,fun j hj=>absurd hj (Nat.not_lt_zero _)⟩ ?_ (fun⟨i,hi,hz⟩=>?_)
 ·refine Sa ?_;simp only[ry,seval,rz,eV,aa]
 have i1:=wI i (by omega);simp only[vx,T,seval,eV,aa];refine⟨fun h1=>Lg ?_,fun h1=>Lg ?_⟩
 ·have hil:i<a.length:=by omega
  have key:a.getD i default≠0→(decide (a=zE a.length))=false:=fun h=>decide_eq_false fun e=>h (CZ.1 e i hil);have hnx:∀x,x=a.getD i default→x=0→∀j,j<i+1→a.getD j default=0:=fun x hx h0 j hj=>by
   by_cases hji:j<i
   ·exact hz j hji
   obtain rfl:j=i:=by omega
   rw[←hx,h0]
  obtain⟨x,hx⟩:∃x,x=a.getD i default:=⟨_,rfl⟩;rw[←hx]at key;simp only[vx,T,seval,eV,aa,←hx,qC];refine⟨by omega,fun g=>Lg ?_,fun g=>Lg ?_⟩
  ·rw[key (Cl.1 g)];simp only[vx,T,seval,eV,aa];exact Ve rfl
  have h0:x=0:=Classical.byContradiction fun h=>g (Cl.2 h);simp only[vx,T,seval,eV,aa,i1];refine Lq ⟨i+1,by omega,hnx x hx h0⟩ ?_ (by show a.length-(i+1)<a.length-i;omega);refine Sa ?_;simp only[ry,seval,rz,eV,aa]
 have hil:i=a.length:=by omega
 subst hil;rw[decide_eq_true (CZ.2 hz)];simp only[vx,T,seval,eV,aa];exact Ve rfl
end Go.Proofs.YtgcmkdgpaibpeaaGreat
/-
  Two numbers over one tower: what the images' coefficients need.
-/
namespace Go.Tw
open Go Go.R Go.Eng
section
variable {A:List R}
theorem In.pb {k:Nat}{t:List El}(D:Rd k t){u:List El}:∀{h:Nat} (_:∀j,j<h→In k t (R.sqrt (val j u (u.getD j [])))) {x:R},In h u x→In k t x
 |0,_,x,hx=>by
  obtain⟨a,ha,rfl⟩:=hx;obtain⟨y,rfl⟩:=bB ha;exact In.rat _
 |h+1,hr,x,hx=>by
  obtain⟨p,g,hp,hg,rfl⟩:=hx.split;exact(In.pb D (fun j hj=>hr j (by omega)) hp).add (In.mul D.rl (In.pb D (fun j hj=>hr j (by omega)) hg) (hr h (by omega)))
theorem Ext.NZ {u U rs:List El}(T:TG A u)(E:Ext A u u.length U rs):u.length≤U.length:=
 Nat.le_of_not_lt fun h=>HE h T.rd (fun _ hx=>In.tH E (Nat.le_refl _) hx)
theorem TG.Bb (hA:A.length≤3){t U:List El}(T:TG A t)(G:TG A U)(h2:t.length=2)(h3:U.length=3){a:R}(ha:a∈A)(hin:In t.length t (R.sqrt a)):∃j,j<t.length∧val j t (t.getD j [])=a:=by
 obtain⟨σ,hσ,hi⟩:=T.CL;obtain⟨m,hm,rfl⟩:=List.mem_iff_getElem.1 ha;have em:A.getD m (q 0)=A[m]:=by rw[X7,X8 hm];rfl
 have s0:=hσ 0 (by omega);have s1:=hσ 1 (by omega);have b01:=hi 0 1 (by omega) (by omega)
 by_cases k0:σ 0=m
 ·exact⟨0,by omega,by rw[s0.2,k0,em]⟩
 by_cases k1:σ 1=m
 ·exact⟨1,by omega,by rw[s1.2,k1,em]⟩
 exfalso
 have all:∀i,i<A.length→In t.length t (R.sqrt (A.getD i (q 0))):=by
  intro i hi
  have:i=σ 0∨i=σ 1∨i=m:=by omega
  rcases this with e|e|e
  ·rw[e,←s0.2];exact(In.root (h:=0) (t:=t)).le (by omega)
  ·rw[e,←s1.2];exact(In.root (h:=1) (t:=t)).le (by omega)
  rw[e,em];exact hin
 refine HE (m:=t.length) (n:=U.length) (u:=t) (by omega) G.rd fun x hx=>In.pb T.rd (fun j hj=>?_) hx;obtain⟨i,hi,e⟩:=List.mem_iff_getElem.1 (G.mem j hj)
 have:=all i hi
 rwa [X7,X8 hi,Option.getD_some,e]at this
def qI (h β μ:Nat):Nat:=2^h*(β+μ*2^18+cW)/32+1
theorem ax.Qz (S:Src 64 A)(hA:A.length≤3){t U:List El}{a:El}{x:R}{β μ:Nat}(h:ax A t a x β μ)(G:TG A U)(h2:t.length=2)(h3:U.length=3):QB (qI t.length β μ) a:=by
 obtain⟨z,w,d,E,_,_⟩:=h.tg.ev S hA;have hx:=(h.sz (2^18)).ht E.zt (fun y H ⟨⟨a,ha,e⟩,hi,hc⟩=>by
  rw[e]at hi⊢;obtain⟨j,hj,ej⟩:=h.tg.Bb hA G h2 h3 ha hi;rw[hc,←ej];exact(E.basis hj).mono (by decide))
 exact E.qb h.len (by rw[h.val];exact hx)
def jB (k H β μ:Nat):Nat:=if k=2∧H=3 then qI k β μ else qN k β μ
def jY (k H β μ:Nat):Nat:=qN H ((32*jB k H β μ+1)*2^(k-1)) (2^(k-1))
theorem ax.QW (S:Src 64 A)(hA:A.length≤3){t U:List El}{a:El}{x:R}{β μ:Nat}(h:ax A t a x β μ)(G:TG A U):QB (jB t.length U.length β μ) a:=by
 unfold jB
 split
 ·rename_i k;exact h.Qz S hA G k.1 k.2
 exact h.qb S hA
def jβ:Nat:=2^18
def jμ:Nat:=3072
theorem Ju {k H β μ:Nat}(h1:β≤jβ)(h2:μ≤jμ):jB k H β μ≤jB k H jβ jμ:=by
 unfold jB
 split
 ·unfold qI;have h3:μ*2^18≤jμ*2^18:=Nat.mul_le_mul_right _ h2;have h4:2^k*(β+μ*2^18+cW)≤2^k*(jβ+jμ*2^18+cW):=Nat.mul_le_mul_left _ (by omega);omega
 exact lI h1 h2
theorem OD:∀H,H≤3→∀k,k≤H→jB k H jβ jμ<2^38∧mS H (jY k H jβ jμ+qN H 0 1) tB<2^38∧qN H ((32*jB k H jβ jμ+1)*2^k) (2^k)<2^38:=by decide+kernel
structure QR (B Y H K:Nat) (U rs:List El):Prop where
 hB:B<2^38
 hY:1≤Y
 y:∀j,j<K→∀b,b.length=2^j→QB B b→QB Y (a8 H U rs j b)
 r:∀i,i<K→(∃m,m≤H∧(rs.getD i []).length=2^m)∧QB (qN H 0 1) (rs.getD i [])
 s:mS H (Y+qN H 0 1) tB<2^38
theorem ir {h β μ:Nat}:1≤qN h β μ:=by unfold qN;omega
theorem ax.P2 (S:Src 64 A)(hA:A.length≤3){t U rs:List El}{a:El}{x:R}{β μ:Nat}(h:ax A t a x β μ)(h1:β≤jβ)(h2:μ≤jμ)(E:Ext A t t.length U rs):
  QB (jB t.length U.length jβ jμ) a∧QR (jB t.length U.length jβ jμ) (jY t.length U.length jβ jμ) U.length t.length U rs:=by
 have h3:=E.tg.j6 S hA;have hk:=E.NZ h.tg;obtain⟨n1,n2,_⟩:=OD _ h3 _ hk;refine⟨(h.QW S hA E.tg).mono (Ju h1 h2),n1,ir,fun j hj b hb hq=>?_,fun i hi=>?_,n2⟩
 ·have hp:2^j≤2^(t.length-1):=Nat.pow_le_pow_right (by decide) (by omega);exact((E.num (fun i hi=>h.tg.mem i hi) (by omega) hb hq.bits).mono (Nat.mul_le_mul_left _ hp) hp).qb S hA
 obtain⟨m,k1,k2,_⟩:=E.root i hi;exact⟨⟨m,k1,k2⟩,QB.G4 ((E.zl (fun i hi=>h.tg.mem i hi) hi).qb S hA)⟩
end
end Go.Tw
/-
  Dropping a radicand that does not occur.
-/
namespace Go.Tw
open Go Go.R Go.Eng
def wo (i:Nat)(a:El):Nat→El
 |0=>[]
 |k+1=>if k/2^i%2=0 then wo i a k++[a.getD k 0]else wo i a k
def Oc (i:Nat)(a:El):Prop:=∃k,k<a.length∧k/2^i%2=1∧a.getD k 0≠0
theorem tv {a b:El}{k:Nat}(h:k<a.length):(a++b).getD k 0=a.getD k 0:=by
 rw[X7,List.getElem?_append_left h,←X7]
theorem ow {a b:El}{k:Nat}:(a++b).getD (a.length+k) 0=b.getD k 0:=by
 rw[X7,List.getElem?_append_right (by omega),←X7,Nat.add_sub_cancel_left]
theorem AL {i:Nat}{a:El}:∀{n:Nat},n≤a.length→∀c∈wo i a n,c∈a
 |0,_,c,h=>by cases h
 |n+1,hn,c,h=>by
  rw[wo]at h
  split at h
  ·rcases List.mem_append.1 h with h|h
   ·exact AL (by omega) c h
   rw[List.mem_singleton.1 h,X7,X8 (by omega)];exact List.getElem_mem _
  exact AL (by omega) c h
theorem Hr {i:Nat}{a:El}:∀{n:Nat},(wo i a n).length≤n
 |0=>Nat.le_refl _
 |n+1=>by
  have:=Hr (i:=i) (a:=a) (n:=n)
  rw[wo]
  split
  ·rw[X6];show _+1≤_;omega
  omega
theorem DC {i:Nat}{a b:El}:∀{n:Nat},n≤a.length→wo i (a++b) n=wo i a n
 |0,_=>rfl
 |n+1,hn=>by rw[wo,wo,DC (by omega),tv (by omega)]
theorem Di {i h n:Nat}(hi:i<h):(2^h+n)/2^i%2=n/2^i%2:=by
 have e:2^h=2^i*(2*2^(h-i-1)):=by
  rw[←Nat.mul_assoc,Nat.mul_comm (2^i) 2,←Nat.pow_succ',←Nat.pow_add]
  congr 1;omega
 rw[e,Nat.mul_add_div (Nat.two_pow_pos i)];omega
theorem ze {i h:Nat}{a b:El}(hi:i<h)(ha:a.length=2^h):∀{n:Nat},wo i (a++b) (2^h+n)=wo i a (2^h)++wo i b n
 |0=>by rw[Nat.add_zero,DC (by omega),wo,List.append_nil]
 |n+1=>by
  rw[←Nat.add_assoc,wo,wo,ze hi ha,Di hi];rw[show (a++b).getD (2^h+n) 0=b.getD n 0 by rw[←ha];exact ow]
  split
  ·rw[List.append_assoc]
  rfl
theorem Cn {i:Nat}{a:El}:∀{n:Nat},n≤2^i→n≤a.length→wo i a n=a.take n
 |0,_,_=>by rw[wo,List.take_zero]
 |n+1,h1,h2=>by
  rw[wo,Cn (by omega) (by omega),Nat.div_eq_of_lt (by omega),if_pos rfl,List.take_add_one,X7,X8 (by omega)];rfl
theorem Ct {i:Nat}{a:El}:∀{n:Nat},n≤2^i→wo i a (2^i+n)=wo i a (2^i)
 |0,_=>rfl
 |n+1,h=>by
  have e:(2^i+n)/2^i%2=1:=by
   have:=Nat.add_div_left n (Nat.two_pow_pos i)
   rw[this,Nat.div_eq_of_lt (by omega)]
  rw[←Nat.add_assoc,wo,if_neg (by omega),Ct (by omega)]
theorem Oc.left {i:Nat}{a b:El}(h:Oc i a):Oc i (a++b):=by
 obtain⟨k,h1,h2,h3⟩:=h;exact⟨k,by rw[X6];omega,h2,by rw[tv h1];exact h3⟩
theorem Oc.right {i h:Nat}{a b:El}(hi:i<h)(ha:a.length=2^h)(H:Oc i b):Oc i (a++b):=by
 obtain⟨k,h1,h2,h3⟩:=H;exact⟨2^h+k,by rw[X6,ha];omega,by rw[Di hi];exact h2,by rw[←ha,ow];exact h3⟩
theorem yh {h:Nat}{a b:El}(ha:a.length=2^h)(hb:b.length=2^h)(H:¬Oc h (a++b)):b=zE (2^h):=by
 refine List.ext_getElem (by rw[hb,au]) fun k h1 h2=>?_;have e:(2^h+k)/2^h%2=1:=by
  have:=Nat.add_div_left k (Nat.two_pow_pos h)
  rw[this,Nat.div_eq_of_lt (by omega)]
 have:b.getD k 0=0:=Classical.byContradiction fun h0=>H ⟨2^h+k,by rw[X6];omega,e,by rw[←ha,ow];exact h0⟩
 rw[X7,X8 h1]at this;rw[show b[k]=0 from this];exact(List.getElem_replicate _).symm
theorem Nq {t t':List El}{i n:Nat}(h1:∀k,k<i→t'.getD k []=t.getD k [])
  (h2:∀k,i≤k→k+1<n→t'.getD k []=wo i (t.getD (k+1) []) (2^(k+1))∧(t.getD (k+1) []).length=2^(k+1)∧¬Oc i (t.getD (k+1) [])):
  ∀(h:Nat),i≤h→h+1≤n→∀a:El,a.length=2^(h+1)→¬Oc i a→(wo i a (2^(h+1))).length=2^h∧val h t' (wo i a (2^(h+1)))=val (h+1) t a:=by
 intro h
 induction h with
 |zero=>
  intro hi _ a ha hn;obtain rfl:i=0:=by omega
  have e:a=a.take (2^0)++a.drop (2^0):=(List.take_append_drop _ a).symm;have z:=yh (ah ha) (ag ha) (e▸hn);have w:wo 0 a (2^(0+1))=a.take (2^0):=by
   rw[Nat.pow_succ,Nat.mul_two,Ct (Nat.le_refl _),Cn (Nat.le_refl _) (by rw[ha];decide)]
  rw[w];refine⟨ah ha,?_⟩;show val 0 t' _=val 0 t (a.take (2^0))+val 0 t (a.drop (2^0))*_;rw[z,val_zero,zero_mul,add_zero];rfl
 |succ h ih=>
  intro hi hn a ha no;have e:a=a.take (2^(h+1))++a.drop (2^(h+1)):=(List.take_append_drop _ a).symm;have p2:2^(h+1+1)=2^(h+1)+2^(h+1):=by rw[Nat.pow_succ,Nat.mul_two]
  by_cases k:i=h+1
  ·subst k;have z:=yh (ah ha) (ag ha) (e▸no);have w:wo (h+1) a (2^(h+1+1))=a.take (2^(h+1)):=by
    rw[p2,Ct (Nat.le_refl _),Cn (Nat.le_refl _) (by rw[ha,p2];omega)]
   rw[w];refine⟨ah ha,?_⟩;rw[val_congr (z:=t) h1,show val (h+1+1) t a=val (h+1) t (a.take (2^(h+1)))+val (h+1) t (a.drop (2^(h+1)))*sqrt (val (h+1) t (t.getD (h+1) []))from rfl,z,val_zero,zero_mul,add_zero]
  have hi':i≤h:=by omega
  have n1:¬Oc i (a.take (2^(h+1))):=fun H=>no (e▸H.left);have n2:¬Oc i (a.drop (2^(h+1))):=fun H=>no (e▸H.right (by omega) (ah ha));have w:wo i a (2^(h+1+1))=wo i (a.take (2^(h+1))) (2^(h+1))++wo i (a.drop (2^(h+1))) (2^(h+1)):=by
   conv=>lhs;rw[e,p2]
   exact ze (by omega) (ah ha)
  obtain⟨l1,v1⟩:=ih hi' (by omega) _ (ah ha) n1;obtain⟨l2,v2⟩:=ih hi' (by omega) _ (ag ha) n2;obtain⟨r1,r2,r3⟩:=h2 h hi' (by omega);obtain⟨_,v3⟩:=ih hi' (by omega) _ r2 r3;rw[w];refine⟨by rw[X6,l1,l2,←Nat.mul_two,←Nat.pow_succ],?_⟩;rw[gn l1,v1,v2,r1,v3];rfl
def fm (i:Nat)(t:List El):List El:=(List.range (t.length-1)).map fun k=>if k<i then t.getD k []else wo i (t.getD (k+1) []) (2^(k+1))
theorem kr {i:Nat}{t:List El}:(fm i t).length=t.length-1:=by unfold fm;simp
theorem jj {i k:Nat}{t:List El}(h:k<t.length-1):(fm i t).getD k []=if k<i then t.getD k []else wo i (t.getD (k+1) []) (2^(k+1)):=by
 unfold fm;rw[X7,List.getElem?_map,List.getElem?_range h];rfl
section
variable {A:List R}{t:List El}{i:Nat}
theorem TG.wo (T:TG A t)(hi:i<t.length)(no:∀k,i<k→k<t.length→¬Oc i (t.getD k [])){h:Nat}(h1:i≤h)(h2:h<t.length){a:El}(ha:a.length=2^(h+1))(na:¬Oc i a):
  (Tw.wo i a (2^(h+1))).length=2^h∧val h (fm i t) (Tw.wo i a (2^(h+1)))=val (h+1) t a:=
 Nq (n:=t.length) (fun k hk=>by rw[jj (by omega),if_pos hk]) (fun k hk hn=>⟨by rw[jj (by omega),if_neg (by omega)],(T.rd.rl (k+1) hn).1,no _ (by omega) hn⟩) h h1 h2 a ha na
theorem TG.drop (T:TG A t)(hi:i<t.length)(no:∀k,i<k→k<t.length→¬Oc i (t.getD k [])):TG A (fm i t):=by
 have low:∀k,k<i→(fm i t).getD k []=t.getD k []:=fun k hk=>by rw[jj (by omega),if_pos hk]
 have lowv:∀k,k≤i→∀a,val k (fm i t) a=val k t a:=fun k hk a=>val_congr (fun j hj=>low j (by omega)) a;have high:∀k,i≤k→k<t.length-1→((fm i t).getD k []).length=2^k∧val k (fm i t) ((fm i t).getD k [])=val (k+1) t (t.getD (k+1) []):=fun k hk hn=>by
  rw[jj hn,if_neg (by omega)];exact T.wo hi no hk (by omega) (T.rd.rl (k+1) (by omega)).1 (no _ (by omega) (by omega))
 have root:∀j,j<t.length-1→∀m,m<j→In (if j<i then j else j+1) t (R.sqrt (val m (fm i t) ((fm i t).getD m []))):=fun j hj m hm=>by
  by_cases k:m<i
  ·rw[low m k,lowv m (by omega)]
   exact(In.root (h:=m) (t:=t)).le (by split<;>omega)
  rw[(high m (by omega) (by omega)).2,if_neg (by omega)];exact(In.root (h:=m+1) (t:=t)).le (by omega)
 refine⟨⟨fun k hk=>?_,fun k hk x hx=>?_⟩,fun k hk=>?_⟩
 all_goals rw[kr]at hk
 ·by_cases g:k<i
  ·rw[low k g,lowv k (by omega)];exact T.rd.rl k (by omega)
  obtain⟨e1,e2⟩:=high k (by omega) hk;exact⟨e1,by rw[e2];exact(T.rd.rl (k+1) (by omega)).2⟩
 ·by_cases g:k<i
  ·rw[low k g,lowv k (by omega)];refine T.rd.ns k (by omega) x ?_;obtain⟨a,ha,e⟩:=hx;exact⟨a,ha,by rw[←e,lowv k (by omega)]⟩
  rw[(high k (by omega) hk).2];refine T.rd.ns (k+1) (by omega) x (In.pb (T.rd.le (by omega)) (fun m hm=>?_) hx)
  have:=root k hk m hm
  rwa [if_neg g]at this
 by_cases g:k<i
 ·rw[low k g,lowv k (by omega)];exact T.mem k (by omega)
 rw[(high k (by omega) hk).2];exact T.mem (k+1) (by omega)
end
structure b9 (A:List R) (B:Nat) (t:List El) (a:El) (x:R):Prop where
 tg:TG A t
 len:a.length=2^t.length
 val:val t.length t a=x
 bits:iC B a
 tb:∀j,j<t.length→iC B (t.getD j [])
theorem iC.wo {B i n:Nat}{a:El}(h:iC B a)(hn:n≤a.length):iC B (Tw.wo i a n):=fun c hc=>h c (AL hn c hc)
theorem b9.drop {A:List R}{B:Nat}{t:List El}{a:El}{x:R}(h:b9 A B t a x){i:Nat}(hi:i<t.length)(no:∀k,i<k→k<t.length→¬Oc i (t.getD k []))(na:¬Oc i a):
  b9 A B (fm i t) (Tw.wo i a a.length) x:=by
 obtain⟨n,hn⟩:∃n,t.length=n+1:=⟨t.length-1,by omega⟩;have hl:=h.len;rw[hn]at hl;have hv:=h.val;rw[hn]at hv;obtain⟨e1,e2⟩:=h.tg.wo hi no (h:=n) (by omega) (by omega) hl na;have hd:(fm i t).length=n:=by rw[kr];omega
 refine⟨h.tg.drop hi no,by rw[hd,hl];exact e1,by rw[hd,hl,e2,hv],h.bits.wo (Nat.le_refl _),fun j hj=>?_⟩;rw[hd]at hj;rw[jj (by omega)]
 split
 ·exact h.tb j (by omega)
 exact(h.tb (j+1) (by omega)).wo (by rw[(h.tg.rd.rl (j+1) (by omega)).1];exact Nat.le_refl _)
theorem b9.num {A:List R}{B:Nat}{t:List El}{a:El}{x:R}(h:b9 A B t a x):ax A t a x ((B+1)*2^t.length) (2^t.length):=by
 rw[←h.val];exact .short h.tg h.len h.bits
theorem b9.sub {A A':List R}{B:Nat}{t:List El}{a:El}{x:R}(hA:∀a,a∈A→a∈A')(h:b9 A B t a x):b9 A' B t a x:=⟨h.tg.sub hA,h.len,h.val,h.bits,h.tb⟩
end Go.Tw
namespace Go.Proofs.YtgcmkdgpaibpeaaGreat
open Go.Proofs.Tryz
open Go Go.Eng
open Go.Tw (El Oc wo)
theorem sF {k i:Nat}(hi:i≤8):(k:Int).fdiv (2^(if i≤64 then i else 64))=((k/2^i:Nat):Int):=by
 rw[if_pos (by omega),Int.fdiv_eq_ediv_of_nonneg _ (Int.pow_nonneg (by decide)),show ((2:Int)^i)=((2^i:Nat):Int) by rw[Int.natCast_pow];rfl];rfl
theorem G5 {x:Rat}(h:bJ x.num=0):x=0:=Rat.num_eq_zero.1 (vq.1 h)
theorem CC (m:Nat):(m:Int).tmod 2=((m%2:Nat):Int):=rfl
theorem yO (a:El)(i:Nat)(hi:i≤8)(hl:a.length<2^38)(ha:Qk a){b:Bool}(hb:b=true↔Oc i a):Pr prog 91 [eV a,.one (.int .i64 i)] (.one (.bool b)):=by
 refine pw func91 ⟨[0,1,4,5,9,24],[]⟩ ?_;simp only[Tryz.f91,ntmps91,iz,seval];simp only[vx,T,seval,eV,aa];refine Lk (fun y:{k:Nat//k≤a.length∧∀j,j<k→j/2^i%2=1→a.getD j default=0}=>⟨[(0,eV a),(1,.one (.int .i64 i)),(4,.one (.bool false)),(5,.one (.int .i64 y.1))],[],1,25⟩) (fun y=>a.length-y.1) ⟨0,Nat.zero_le _,fun j hj=>absurd hj (Nat.not_lt_zero _)⟩ ?_ (fun⟨k,hk,hz⟩=>?_)
 ·refine Sa ?_;simp only[ry,seval,rz,eV,aa]
 have i1:=wI k (by omega);simp only[vx,T,seval,eV,aa,sF hi,CC];refine⟨fun g=>Lg ?_,fun g=>Lg ?_⟩
 ·have hkl:k<a.length:=by omega
  have c:=rI (a.getD k default) (by have:=ha.get k;omega);have hit:k/2^i%2=1→a.getD k default≠0→b=true:=fun h1 h2=>hb.2 ⟨k,hkl,h1,h2⟩;have hnx:(k/2^i%2=1→a.getD k default=0)→∀j,j<k+1→j/2^i%2=1→a.getD j default=0:=fun h0 j hj h1=>by
   by_cases hjk:j<k
   ·exact hz j hjk h1
   obtain rfl:j=k:=by omega
   exact h0 h1
  obtain⟨x,hx⟩:∃x,x=a.getD k default:=⟨_,rfl⟩;rw[←hx]at c hit hnx;simp only[vx,T,seval,eV,aa,sF hi,CC];refine⟨by omega,fun g2=>Lg ?_,fun g2=>Lg ?_⟩
  ·simp only[vx,T,seval,eV,aa,←hx,qC];refine⟨by omega,Cg c ?_⟩;simp only[vx,T,seval,eV,aa];refine⟨fun h=>Lg ?_,fun h=>Lg ?_⟩
   ·rw[hit (by omega) (fun e=>h (by rw[e];rfl))];simp only[vx,T,seval,eV,aa];exact Ve rfl
   simp only[vx,T,seval,eV,aa,i1];refine Lq ⟨k+1,by omega,hnx fun _=>G5 (by omega)⟩ ?_ (by show a.length-(k+1)<a.length-k;omega);refine Sa ?_;simp only[ry,seval,rz,eV,aa]
  simp only[vx,T,seval,eV,aa,i1];refine Lq ⟨k+1,by omega,hnx fun e=>absurd e (by omega)⟩ ?_ (by show a.length-(k+1)<a.length-k;omega);refine Sa ?_;simp only[ry,seval,rz,eV,aa]
 have hkl:k=a.length:=by omega
 have e:b=false:=by
  cases b with
  |false=>rfl
  |true=>
   obtain⟨j,h1,h2,h3⟩:=hb.1 rfl;exact absurd (hz j (by omega) h2) h3
 rw[e];simp only[vx,T,seval,eV,aa];exact Ve rfl
theorem IX {i:Nat}{a:El}{k:Nat}(h:k/2^i%2=0):wo i a (k+1)=wo i a k++[a.getD k default]:=by rw[wo,if_pos h];rfl
theorem LD {i:Nat}{a:El}{k:Nat}(h:k/2^i%2≠0):wo i a (k+1)=wo i a k:=by rw[wo,if_neg h]
theorem vv (a:El)(i:Nat)(hi:i≤8)(hl:a.length<2^38):Fr prog 92 [eV a,.one (.int .i64 i)] (.rows 62 4 (wo i a a.length).length (fQ (wo i a a.length))):=by
 refine fw func92 ⟨[0,1,4,5,6,10,17],[]⟩ ?_;simp only[Tryz.f92,ntmps92,iz,seval];simp only[vx,T,seval,eV,aa];refine Lk (fun y:{k:Nat//k≤a.length}=>⟨[(0,eV a),(1,.one (.int .i64 i)),(4,.one .nil),(5,.one (.own 1 4 0 (wo i a y.1).length)),(6,.one (.int .i64 y.1))],[(1,⟨.rows 62 4 (wo i a y.1).length (fQ (wo i a y.1)),true⟩)],2,26⟩) (fun y=>a.length-y.1) ⟨0,Nat.zero_le _⟩ ?_ (fun⟨k,hk⟩=>?_)
 ·refine Sa ?_;simp only[ry,seval,rz,eV,aa];exact⟨rfl,rfl⟩
 have i1:=wI k (by omega);simp only;have wl:=Go.Tw.Hr (i:=i) (a:=a) (n:=k);simp only[vx,T,seval,eV,aa,sF hi,CC];refine⟨fun g=>Lg ?_,fun g=>Lg ?_⟩
 ·have hkl:k<a.length:=by omega
  simp only[vx,T,seval,eV,aa,sF hi,CC];refine⟨by omega,fun g2=>Lg ?_,fun g2=>Lg ?_⟩
  ·have hst:=IX (a:=a) (show k/2^i%2=0 by omega);have hl2:=congrArg List.length hst;rw[X6]at hl2;obtain⟨x,hx⟩:∃x,x=a.getD k default:=⟨_,rfl⟩;rw[←hx]at hst;simp only[vx,T,seval,eV,aa,←hx,qC];simp only[i1];refine⟨by omega,⟨by omega,by omega⟩,Lq ⟨k+1,by omega⟩ ?_ ?_⟩
   ·refine Sa ?_;simp only[ry,seval,rz,eV,aa];rw[hst];exact⟨by simp,by simp,Ds rfl x⟩
   simp only;omega
  have hst:=LD (a:=a) (show k/2^i%2≠0 by omega);simp only[vx,T,seval,eV,aa,i1];refine Lq ⟨k+1,by omega⟩ ?_ ?_
  ·refine Sa ?_;simp only[ry,seval,rz,eV,aa,hst]
  simp only;omega
 have hkl:k=a.length:=by omega
 subst hkl;simp only[vx,T,seval,eV,aa];exact⟨rfl,rfl,fun _ _ _ _=>rfl⟩
open Go Go.Eng
open Go.Tw (El)
def ny (n:Nat)(c:Rat):Prop:=n<zn c.num∨n<nl c.den
def OO (n:Nat)(x:List El×El):Prop:=(∃i,i<x.2.length∧ny n (x.2.getD i default))∨∃j,j<x.1.length∧∃i,i<(x.1.getD j []).length∧ny n ((x.1.getD j []).getD i default)
theorem uZ (x o:List El×El):Pr prog 51 [nX x,.one (.int .i64 0),nX o] (nX x):=by
 refine pw func51 ⟨[0,1,2,3,5,6,8],[]⟩ ?_;simp only[Tryz.f51,ntmps51,iz,seval];simp only[vx,T,seval,nX,nV,tC,aa];exact Ve rfl
theorem AW (o:List El×El):Pr prog 51 [.agg [.nil,.nil],.one (.int .i64 6),nX o] (nX o):=by
 refine pw func51 ⟨[0,1,2,3,5,6,8],[]⟩ ?_;simp only[Tryz.f51,ntmps51,iz,seval];simp only[vx,T,seval,nX,nV,tC,aa];exact Ve rfl
theorem Ng (x:List El×El)(hl:x.2.length<2^38)(hh:x.1.length<2^38)(ht:∀j,j<x.1.length→(x.1.getD j []).length<2^38){b:Bool}(hb:b=true↔OO 2 x):Pr prog 56 [nX x] (.one (.bool b)):=by
 obtain⟨t,a⟩:=x;simp only at hl hh ht;refine pw func56 ⟨[0,1,2,3,4,5,6,11,33,38,48,70],[]⟩ ?_;simp only[Tryz.f56,ntmps56,iz,seval];simp only[vx,T,seval,nX,nV,tC,aa];refine Lk (fun y:{i:Nat//i≤a.length∧∀j,j<i→¬ny 2 (a.getD j default)}=>⟨[(1,.one (.ptr 1 0)),(2,.one (.bool false)),(3,.one (.int .i64 y.1))],[(1,⟨.var [tC t.length t,aa a],true⟩)],2,71⟩) (fun y=>a.length-y.1) ⟨0,Nat.zero_le _,fun j hj=>absurd hj (Nat.not_lt_zero _)⟩ ?_ (fun⟨i,hi,hz⟩=>?_)
 ·refine Sa ?_;simp only[ry,seval,rz,tC,aa]
 have i1:=wI i (by omega);simp only[vx,T,seval,tC,aa];refine⟨fun g=>Lg ?_,fun g=>Lg ?_⟩
 ·have hil:i<a.length:=by omega
  have hit:ny 2 (a.getD i default)→b=true:=fun h=>hb.2 (.inl ⟨i,hil,h⟩);have hnx:¬ny 2 (a.getD i default)→∀j,j<i+1→¬ny 2 (a.getD j default):=fun h0 j hj=>by
   by_cases h:j<i
   ·exact hz j h
   obtain rfl:j=i:=by omega
   exact h0
  obtain⟨x,hx⟩:∃x,x=a.getD i default:=⟨_,rfl⟩;rw[←hx]at hit hnx;have ln:(zm x.num).length=zn x.num:=rfl;have ld:(zm (x.den:Int)).length=nl x.den:=rfl;simp only[vx,T,seval,tC,aa,←hx,qC];refine⟨by omega,fun h=>Lg ?_,fun h=>Lg ?_⟩
  ·rw[hit (.inl (by omega))];simp only[vx,T,seval,tC,aa];exact Ve rfl
  simp only[vx,T,seval,tC,aa,←hx,qC];refine⟨by omega,fun h'=>Lg ?_,fun h'=>Lg ?_⟩
  ·rw[hit (.inr (by omega))];simp only[vx,T,seval,tC,aa];exact Ve rfl
  simp only[vx,T,seval,tC,aa,i1];refine Lq ⟨i+1,by omega,hnx fun h2=>by unfold ny at h2;omega⟩ ?_ (by show a.length-(i+1)<a.length-i;omega);refine Sa ?_;simp only[ry,seval,rz,tC,aa]
 have ha:∀i,i<a.length→¬ny 2 (a.getD i default):=fun j hj=>hz j (by omega);clear hz i1 g;simp only[vx,T,seval,tC,aa];refine Lk (fun y:{j:Nat//j≤t.length∧∀k,k<j→∀i,i<(t.getD k []).length→¬ny 2 ((t.getD k []).getD i default)}=>⟨[(1,.one (.ptr 1 0)),(2,.one (.bool false)),(4,.one (.int .i64 y.1))],[(1,⟨.var [tC t.length t,aa a],true⟩)],2,71⟩) (fun y=>t.length-y.1) ⟨0,Nat.zero_le _,fun j hj=>absurd hj (Nat.not_lt_zero _)⟩ ?_ (fun⟨j,hj,hz⟩=>?_)
 ·refine Sa ?_;simp only[ry,seval,rz,tC,aa]
 have j1:IntKind.i64.wrap ((j:Int)+1)=((j+1:Nat):Int):=by rw[IntWalk.i64_in _ (by omega)];omega
 simp only[vx,T,seval,tC,aa];refine⟨fun g=>Lg ?_,fun g=>Lg ?_⟩
 ·have hjl:j<t.length:=by omega
  have hit:∀i,i<(t.getD j []).length→ny 2 ((t.getD j []).getD i default)→b=true:=fun i hi h=>hb.2 (.inr ⟨j,hjl,i,hi,h⟩);have hnx:(∀i,i<(t.getD j []).length→¬ny 2 ((t.getD j []).getD i default))→∀k,k<j+1→∀i,i<(t.getD k []).length→¬ny 2 ((t.getD k []).getD i default):=fun h0 k hk=>by
   by_cases h:k<j
   ·exact hz k h
   obtain rfl:k=j:=by omega
   exact h0
  have hel:=ht j hjl;obtain⟨e,he⟩:∃e,e=t.getD j []:=⟨_,rfl⟩;rw[←he]at hit hnx hel;simp only[vx,T,seval,tC,aa];refine Lk (fun y:{i:Nat//i≤e.length∧∀k,k<i→¬ny 2 (e.getD k default)}=>⟨[(1,.one (.ptr 1 0)),(2,.one (.bool false)),(4,.one (.int .i64 j)),(5,.one (.int .i64 y.1))],[(1,⟨.var [tC t.length t,aa a],true⟩)],2,71⟩) (fun y=>e.length-y.1) ⟨0,Nat.zero_le _,fun j hj=>absurd hj (Nat.not_lt_zero _)⟩ ?_ (fun⟨i,hi,hz⟩=>?_)
  ·refine Sa ?_;simp only[ry,seval,rz,tC,aa]
  have i1:=wI i (by omega);simp only[vx,T,seval,tC,aa,←he];refine⟨by omega,fun g=>Lg ?_,fun g=>Lg ?_⟩
  ·have hil:i<e.length:=by omega
   have hit:=hit i hil;have hnx:¬ny 2 (e.getD i default)→∀j,j<i+1→¬ny 2 (e.getD j default):=fun h0 j hj=>by
    by_cases h:j<i
    ·exact hz j h
    obtain rfl:j=i:=by omega
    exact h0
   obtain⟨x,hx⟩:∃x,x=e.getD i default:=⟨_,rfl⟩;rw[←hx]at hit hnx;have ln:(zm x.num).length=zn x.num:=rfl;have ld:(zm (x.den:Int)).length=nl x.den:=rfl;simp only[vx,T,seval,tC,aa,←he,←hx,qC];refine⟨by omega,by omega,fun h=>Lg ?_,fun h=>Lg ?_⟩
   ·rw[hit (.inl (by omega))];simp only[vx,T,seval,tC,aa];exact Ve rfl
   simp only[vx,T,seval,tC,aa,←he,←hx,qC];refine⟨fun h'=>Lg ?_,fun h'=>Lg ?_⟩
   ·rw[hit (.inr (by omega))];simp only[vx,T,seval,tC,aa];exact Ve rfl
   simp only[vx,T,seval,tC,aa,i1];refine Lq ⟨i+1,by omega,hnx fun h2=>by unfold ny at h2;omega⟩ ?_ (by show e.length-(i+1)<e.length-i;omega);refine Sa ?_;simp only[ry,seval,rz,tC,aa]
  simp only[vx,T,seval,tC,aa,j1];refine Lq ⟨j+1,by omega,hnx fun i hi=>hz i (by omega)⟩ ?_ (by show t.length-(j+1)<t.length-j;omega);refine Sa ?_;simp only[ry,seval,rz,tC,aa]
 rw[show b=false by
  cases hbb:b with
  |false=>rfl
  |true=>
   rcases hb.1 hbb with⟨i,h1,h2⟩|⟨k,h1,i,h2,h3⟩
   ·exact absurd h2 (ha i h1)
   exact absurd h3 (hz k (by have:k<t.length:=h1;omega) i h2)]
 simp only[vx,T,seval,tC,aa];exact Ve rfl
theorem Kq (x:List El×El)(hl:x.2.length<2^38)(hh:x.1.length<2^38)(ht:∀j,j<x.1.length→(x.1.getD j []).length<2^38){b:Bool}(hb:b=false↔OO 6 x):Pr prog 58 [nX x] (.one (.bool b)):=by
 obtain⟨t,a⟩:=x;simp only at hl hh ht;refine pw func58 ⟨[0,1,2,3,4,5,10,32,37,47,75],[]⟩ ?_;simp only[Tryz.f58,ntmps58,iz,seval];simp only[vx,T,seval,nX,nV,tC,aa];refine Lk (fun y:{i:Nat//i≤a.length∧∀j,j<i→¬ny 6 (a.getD j default)}=>⟨[(1,.one (.ptr 1 0)),(2,.one (.bool false)),(3,.one (.int .i64 y.1))],[(1,⟨.var [tC t.length t,aa a],true⟩)],2,76⟩) (fun y=>a.length-y.1) ⟨0,Nat.zero_le _,fun j hj=>absurd hj (Nat.not_lt_zero _)⟩ ?_ (fun⟨i,hi,hz⟩=>?_)
 ·refine Sa ?_;simp only[ry,seval,rz,tC,aa]
 have i1:=wI i (by omega);simp only[vx,T,seval,tC,aa];refine⟨fun g=>Lg ?_,fun g=>Lg ?_⟩
 ·have hil:i<a.length:=by omega
  have hit:ny 6 (a.getD i default)→b=false:=fun h=>hb.2 (.inl ⟨i,hil,h⟩);have hnx:¬ny 6 (a.getD i default)→∀j,j<i+1→¬ny 6 (a.getD j default):=fun h0 j hj=>by
   by_cases h:j<i
   ·exact hz j h
   obtain rfl:j=i:=by omega
   exact h0
  obtain⟨x,hx⟩:∃x,x=a.getD i default:=⟨_,rfl⟩;rw[←hx]at hit hnx;have ln:(zm x.num).length=zn x.num:=rfl;have ld:(zm (x.den:Int)).length=nl x.den:=rfl;simp only[vx,T,seval,tC,aa,←hx,qC];refine⟨by omega,fun h=>Lg ?_,fun h=>Lg ?_⟩
  ·rw[hit (.inl (by omega))];simp only[vx,T,seval,tC,aa];exact Ve rfl
  simp only[vx,T,seval,tC,aa,←hx,qC];refine⟨by omega,fun h'=>Lg ?_,fun h'=>Lg ?_⟩
  ·rw[hit (.inr (by omega))];simp only[vx,T,seval,tC,aa];exact Ve rfl
  simp only[vx,T,seval,tC,aa,i1];refine Lq ⟨i+1,by omega,hnx fun h2=>by unfold ny at h2;omega⟩ ?_ (by show a.length-(i+1)<a.length-i;omega);refine Sa ?_;simp only[ry,seval,rz,tC,aa]
 have ha:∀i,i<a.length→¬ny 6 (a.getD i default):=fun j hj=>hz j (by omega);clear hz i1 g;simp only[vx,T,seval,tC,aa];refine Lk (fun y:{j:Nat//j≤t.length∧∀k,k<j→∀i,i<(t.getD k []).length→¬ny 6 ((t.getD k []).getD i default)}=>⟨[(1,.one (.ptr 1 0)),(2,.one (.bool false)),(4,.one (.int .i64 y.1))],[(1,⟨.var [tC t.length t,aa a],true⟩)],2,76⟩) (fun y=>t.length-y.1) ⟨0,Nat.zero_le _,fun j hj=>absurd hj (Nat.not_lt_zero _)⟩ ?_ (fun⟨j,hj,hz⟩=>?_)
 ·refine Sa ?_;simp only[ry,seval,rz,tC,aa]
 have j1:IntKind.i64.wrap ((j:Int)+1)=((j+1:Nat):Int):=by rw[IntWalk.i64_in _ (by omega)];omega
 simp only[vx,T,seval,tC,aa];refine⟨fun g=>Lg ?_,fun g=>Lg ?_⟩
 ·have hjl:j<t.length:=by omega
  have hit:∀i,i<(t.getD j []).length→ny 6 ((t.getD j []).getD i default)→b=false:=fun i hi h=>hb.2 (.inr ⟨j,hjl,i,hi,h⟩);have hnx:(∀i,i<(t.getD j []).length→¬ny 6 ((t.getD j []).getD i default))→∀k,k<j+1→∀i,i<(t.getD k []).length→¬ny 6 ((t.getD k []).getD i default):=fun h0 k hk=>by
   by_cases h:k<j
   ·exact hz k h
   obtain rfl:k=j:=by omega
   exact h0
  have hel:=ht j hjl;obtain⟨e,he⟩:∃e,e=t.getD j []:=⟨_,rfl⟩;rw[←he]at hit hnx hel;simp only[vx,T,seval,tC,aa];refine Lk (fun y:{i:Nat//i≤e.length∧∀k,k<i→¬ny 6 (e.getD k default)}=>⟨[(1,.one (.ptr 1 0)),(2,.one (.bool false)),(4,.one (.int .i64 j)),(5,.one (.int .i64 y.1))],[(1,⟨.var [tC t.length t,aa a],true⟩)],2,76⟩) (fun y=>e.length-y.1) ⟨0,Nat.zero_le _,fun j hj=>absurd hj (Nat.not_lt_zero _)⟩ ?_ (fun⟨i,hi,hz⟩=>?_)
  ·refine Sa ?_;simp only[ry,seval,rz,tC,aa]
  have i1:=wI i (by omega);simp only[vx,T,seval,tC,aa,←he];refine⟨by omega,fun g=>Lg ?_,fun g=>Lg ?_⟩
  ·have hil:i<e.length:=by omega
   have hit:=hit i hil;have hnx:¬ny 6 (e.getD i default)→∀j,j<i+1→¬ny 6 (e.getD j default):=fun h0 j hj=>by
    by_cases h:j<i
    ·exact hz j h
    obtain rfl:j=i:=by omega
    exact h0
   obtain⟨x,hx⟩:∃x,x=e.getD i default:=⟨_,rfl⟩;rw[←hx]at hit hnx;have ln:(zm x.num).length=zn x.num:=rfl;have ld:(zm (x.den:Int)).length=nl x.den:=rfl;simp only[vx,T,seval,tC,aa,←he,←hx,qC];refine⟨by omega,by omega,fun h=>Lg ?_,fun h=>Lg ?_⟩
   ·rw[hit (.inl (by omega))];simp only[vx,T,seval,tC,aa];exact Ve rfl
   simp only[vx,T,seval,tC,aa,←he,←hx,qC];refine⟨by omega,by omega,fun h'=>Lg ?_,fun h'=>Lg ?_⟩
   ·rw[hit (.inr (by omega))];simp only[vx,T,seval,tC,aa];exact Ve rfl
   simp only[vx,T,seval,tC,aa,i1];refine Lq ⟨i+1,by omega,hnx fun h2=>by unfold ny at h2;omega⟩ ?_ (by show e.length-(i+1)<e.length-i;omega);refine Sa ?_;simp only[ry,seval,rz,tC,aa]
  simp only[vx,T,seval,tC,aa,j1];refine Lq ⟨j+1,by omega,hnx fun i hi=>hz i (by omega)⟩ ?_ (by show t.length-(j+1)<t.length-j;omega);refine Sa ?_;simp only[ry,seval,rz,tC,aa]
 rw[show b=true by
  cases hbb:b with
  |true=>rfl
  |false=>
   rcases hb.1 hbb with⟨i,h1,h2⟩|⟨k,h1,i,h2,h3⟩
   ·exact absurd h2 (ha i h1)
   exact absurd h3 (hz k (by have:k<t.length:=h1;omega) i h2)]
 simp only[vx,T,seval,tC,aa];exact Ve rfl
open Go Go.Eng
open Go.Tw (El Oc wo fm kr jj b9 TG iC)
def Nd (i:Nat)(x:List El×El)(k:Nat):Prop:=Oc i x.2∨∃m,i<m∧m<k∧Oc i (x.1.getD m [])
open Classical in
noncomputable def kH:Nat→List El×El→List El×El
 |0,x=>x
 |i+1,x=>if Nd i x x.1.length then kH i x else kH i (fm i x.1,wo i x.2 x.2.length)
theorem mB {A:List R}{B:Nat}{v:R}:∀(n:Nat) {x:List El×El},n≤x.1.length→b9 A B x.1 x.2 v→b9 A B (kH n x).1 (kH n x).2 v
 |0,_,_,h=>h
 |n+1,x,hn,h=>by
  rw[kH]
  split
  ·exact mB n (by omega) h
  rename_i no
  refine mB n (by show n≤(fm n x.1).length;rw[kr];omega) (h.drop (by omega) (fun k h1 h2 h3=>no (.inr ⟨k,h1,h2,h3⟩)) fun h3=>no (.inl h3))
theorem iC.qk {B:Nat}{a:El}(h:iC B a)(hB:B<2^38):Qk a:=fun c hc=>by
 have:=Go.Tw.pF (h c hc).1 (h c hc).2
 omega
theorem C9 (p:Prop):∃b:Bool,b=true↔p:=by
 by_cases h:p
 ·exact⟨true,fun _=>h,fun _=>rfl⟩
 exact⟨false,fun e=>(by cases e),fun k=>absurd k h⟩
def wR (t:List El)(i k m:Nat):El:=if i<m∧m<k then wo i (t.getD m []) (2^m)else t.getD m []
theorem Hv {t:List El}{i m:Nat}:wR t i (i+1) m=t.getD m []:=if_neg (by omega)
theorem I1 {t:List El}{i k:Nat}:wR t i k k=t.getD k []:=if_neg (by omega)
theorem MR {t:List El}{i k m j:Nat}{e:El}(hik:i<k)(he:e=wo i (t.getD k []) (2^k))(hj:j<1):bt (fun m _=>aa (wR t i k m)) k 0 [aa e] m j=aa (wR t i (k+1) m):=by
 obtain rfl:j=0:=by omega
 unfold bt wR
 by_cases h:m=k
 ·subst h;rw[if_pos rfl,if_pos (Nat.zero_le _),if_pos (by simp),if_pos ⟨hik,by omega⟩,he];rfl
 rw[if_neg h];simp only
 by_cases h2:i<m∧m<k
 ·rw[if_pos h2,if_pos ⟨h2.1,by omega⟩]
 rw[if_neg h2,if_neg (by omega)]
theorem JZ {t:List El}{i m:Nat}(hi:i<t.length)(hm:m<t.length-1):(if m<i then aa (wR t i t.length m)else aa (wR t i t.length (i+1+(m-i))))=aa ((fm i t).getD m []):=by
 rw[jj hm]
 split
 ·unfold wR;rw[if_neg (by omega)]
 unfold wR;rw[show i+1+(m-i)=m+1 by omega,if_pos ⟨by omega,by omega⟩]
section
variable {A:List R}(S:Go.Tw.Src 64 A)(hA:A.length≤3)
include S hA
theorem NG (x:List El×El){v:R}(hx:b9 A 64 x.1 x.2 v):Pr prog 57 [nX x] (nX (kH x.1.length x)):=by
 obtain⟨R,hR⟩:∃R,R=kH x.1.length x:=⟨_,rfl⟩;rw[←hR];have h3:=hx.tg.j6 S hA;have w1:IntKind.i64.wrap ((x.1.length:Int)-1)=(x.1.length:Int)-1:=IntWalk.i64_in _ (by omega);refine pw func57 ⟨[0,1,2,3,4,5,6,7,20,33,46,58],[(1,(.opt 7 3 (.cons 3 [4,5] (.cons 6 [] (.cons 8 [] .nil .nil) .nil) .nil) (.cons 3 [4,5] (.cons 6 [] (.cons 7 [] (.cons 8 [] .nil .nil) .nil) (.cons 7 [4,5] (.cons 6 [] (.cons 8 [] .nil .nil) .nil) .nil)) .nil)))]⟩ ?_;simp only[Tryz.f57,ntmps57,iz,seval];simp only[vx,T,seval,nX,nV,tC,aa,w1]
 repeat' (with_reducible refine And.intro ?_ ?_)
 all_goals first|omega|skip
 all_goals refine Lk (fun y:{y:Nat×(List El×El)//y.1≤y.2.1.length∧b9 A 64 y.2.1 y.2.2 v∧kH y.1 y.2=R}=>⟨[(2,.one (.ptr 1 0)),(3,.one (.ptr 2 0)),(4,.one (.int .i64 ((y.1.1:Int)-1)))],[(1,⟨.var [.nil,.nil],true⟩),(2,⟨.var [.own 3 1 0 y.1.2.1.length,aa y.1.2.2],true⟩),(3,⟨.rows 50 1 y.1.2.1.length (fun i _=>aa (y.1.2.1.getD i [])),true⟩)],4,85⟩) (fun y=>y.1.1) ⟨(x.1.length,x),Nat.le_refl _,hx,hR.symm⟩ ?_ (fun⟨⟨n,t,a⟩,hn,hs,hr⟩=>?_)
 all_goals first
  |(refine jU [(1,some 2),(2,some 10),(3,some 12)] ?_;simp only[ry,seval,tC,aa,Nat.not_lt_zero,Nat.sub_zero];done)
  |(refine jU [(1,some 2),(2,some 14),(3,some 12)] ?_;simp only[ry,seval,tC,aa,Nat.not_lt_zero,Nat.sub_zero];done)
  |(refine jU [(1,some 2),(2,some 13),(3,some 12)] ?_;simp only[ry,seval,tC,aa,Nat.not_lt_zero,Nat.sub_zero];done)
  |skip
 all_goals
  simp only at hn hs hr;have t3:=hs.tg.j6 S hA;have al:a.length≤2^3:=by rw[hs.len];exact Nat.pow_le_pow_right (by decide) t3
  have tl:∀m,m<t.length→(t.getD m []).length=2^m:=fun m hm=>(hs.tg.rd.rl m hm).1;simp only[vx,T,seval,tC,aa];refine⟨fun g=>Lg ?_,fun g=>Lg ?_⟩
  ·obtain⟨i,rfl⟩:∃i,n=i+1:=⟨n-1,by omega⟩;have e0:((i+1:Nat):Int)-1=(i:Int):=by omega
   have i1:=wI i (by omega);have i2:IntKind.i64.wrap ((i:Int)-1)=(i:Int)-1:=IntWalk.i64_in _ (by omega);obtain⟨b0,hb0⟩:∃b:Bool,b=true↔Oc i a:=C9 _;have c1:=yO a i (by omega) (by omega) (iC.qk hs.bits (by decide)) hb0;clear g;simp only[vx,T,seval,tC,aa,e0,i1];refine Cg c1 ?_;simp only[vx,T,seval,tC,aa,e0,i1];refine Lk (fun y:{p:Nat×Bool//i+1≤p.1∧p.1≤t.length∧(p.2=true↔Nd i (t,a) p.1)}=>⟨[(2,.one (.ptr 1 0)),(3,.one (.ptr 2 0)),(4,.one (.int .i64 i)),(5,.one (.bool y.1.2)),(6,.one (.int .i64 y.1.1))],[(1,⟨.var [.nil,.nil],true⟩),(2,⟨.var [.own 3 1 0 t.length,aa a],true⟩),(3,⟨.rows 50 1 t.length (fun i _=>aa (t.getD i [])),true⟩)],4,85⟩) (fun y=>t.length-y.1.1) ⟨(i+1,b0),Nat.le_refl _,hn,hb0.trans ⟨.inl,fun h=>h.elim id fun⟨m,h1,h2,_⟩=>absurd h1 (by simp only at h2;omega)⟩⟩ ?_ (fun⟨⟨k,b⟩,hk1,hk2,hb⟩=>?_)
   ·refine jU [(1,some 1),(2,some 2),(3,some 3)] ?_;simp only[ry,seval,tC,aa]
   simp only at hk1 hk2 hb;have k1:IntKind.i64.wrap ((k:Int)+1)=((k+1:Nat):Int):=by rw[IntWalk.i64_in _ (by omega)];omega
   simp only[vx,T,seval,tC,aa];refine⟨fun g=>Lg ?_,fun g=>Lg ?_⟩
   ·have hkl:k<t.length:=by omega
    have hel:=tl k hkl;have p8:2^k≤2^3:=Nat.pow_le_pow_right (by decide) (by omega);obtain⟨b1,hb1⟩:∃b:Bool,b=true↔Oc i (t.getD k []):=C9 _;have c2:=yO (t.getD k []) i (by omega) (by omega) (iC.qk (hs.tb k hkl) (by decide)) hb1;have nx:∀b':Bool,(b'=true↔b=true∨b1=true)→(b'=true↔Nd i (t,a) (k+1)):=fun b' h=>by
     rw[h,hb,hb1]
     constructor
     ·rintro((h|⟨m,h1,h2,h3⟩)|h)
      ·exact .inl h
      ·exact .inr ⟨m,h1,by omega,h3⟩
      exact .inr ⟨k,by omega,by omega,h⟩
     rintro(h|⟨m,h1,h2,h3⟩)
     ·exact .inl (.inl h)
     by_cases hm:m=k
     ·subst hm;exact .inr h3
     exact .inl (.inr ⟨m,h1,by omega,h3⟩)
    obtain⟨e,he⟩:∃e,e=t.getD k []:=⟨_,rfl⟩;rw[←he]at c2;simp only[vx,T,seval,tC,aa,k1];refine⟨fun h=>Lg ?_,fun h=>Lg ?_⟩
    ·simp only[vx,T,seval,tC,aa,k1];refine Lq ⟨(k+1,true),by simp only;omega,hkl,nx true ⟨fun _=>.inl h,fun _=>rfl⟩⟩ ?_ (by show t.length-(k+1)<t.length-k;omega);refine jU [(1,some 1),(2,some 2),(3,some 3)] ?_;simp only[ry,seval,tC,aa]
    simp only[vx,T,seval,tC,aa,k1,←he];refine⟨by omega,Cg c2 ?_⟩;simp only[vx,T,seval,tC,aa,k1];refine Lq ⟨(k+1,b1),by simp only;omega,hkl,nx b1 ⟨.inr,fun x=>x.elim (fun y=>absurd y (by rw[h];decide)) id⟩⟩ ?_ (by show t.length-(k+1)<t.length-k;omega);refine jU [(1,some 1),(2,some 2),(3,some 3)] ?_;simp only[ry,seval,tC,aa]
   have hkl:k=t.length:=by omega
   subst hkl;clear g
   cases b with
   |true=>
    have e1:kH i (t,a)=R:=by rw[←hr,kH,if_pos (hb.1 rfl)]
    simp only[vx,T,seval,tC,aa,i2];refine Lq ⟨(i,t,a),by simp only;omega,hs,e1⟩ ?_ (by show i<i+1;omega);refine jU [(1,some 1),(2,some 2),(3,some 3)] ?_;simp only[ry,seval,tC,aa]
   |false=>
    have no:¬Nd i (t,a) t.length:=fun h=>absurd (hb.2 h) (by decide);have na:¬Oc i a:=fun h=>no (.inl h);have nt:∀k,i<k→k<t.length→¬Oc i (t.getD k []):=fun k h1 h2 h3=>no (.inr ⟨k,h1,h2,h3⟩);have e1:kH i (fm i t,wo i a a.length)=R:=by rw[←hr,kH,if_neg no]
    have hs':=hs.drop (by omega) nt na;have c3:=(vv a i (by omega) (by omega)).rows;rw[←HR]at c3;obtain⟨a',ha'⟩:∃a',a'=wo i a a.length:=⟨_,rfl⟩;rw[←ha']at c3 e1 hs';clear k1 hb hb0 c1 hr hs no na x hx hR h3 w1;simp only[vx,T,seval,tC,aa,i1];refine Cg c3 ?_;simp only[vx,T,seval,tC,aa,i1];refine Lk (fun y:{k:Nat//i+1≤k∧k≤t.length}=>⟨[(2,.one (.ptr 1 0)),(3,.one (.ptr 2 0)),(4,.one (.int .i64 i)),(7,.one (.int .i64 y.1))],[(1,⟨.var [.nil,.nil],true⟩),(2,⟨.var [.own 3 1 0 t.length,aa a'],true⟩),(3,⟨.rows 50 1 t.length (fun m _=>aa (wR t i y.1 m)),true⟩)],4,85⟩) (fun y=>t.length-y.1) ⟨i+1,Nat.le_refl _,hn⟩ ?_ (fun⟨k,hk1,hk2⟩=>?_)
    ·refine jU [(1,some 1),(2,some 2),(3,some 3)] ?_;simp only[ry,seval,tC,aa];exact fun m j _ _=>congrArg aa Hv.symm
    simp only;have k1:IntKind.i64.wrap ((k:Int)+1)=((k+1:Nat):Int):=by rw[IntWalk.i64_in _ (by omega)];omega
    simp only[vx,T,seval,tC,aa];refine⟨fun g=>Lg ?_,fun g=>Lg ?_⟩
    ·have hkl:k<t.length:=by omega
     have hel:=tl k hkl;have p8:2^k≤2^3:=Nat.pow_le_pow_right (by decide) (by omega);have c4:=(vv (t.getD k []) i (by omega) (by omega)).rows;rw[←HR,hel]at c4;obtain⟨e,he⟩:∃e,e=wo i (t.getD k []) (2^k):=⟨_,rfl⟩;rw[←he,←I1 (i:=i)]at c4;obtain⟨u,hu⟩:∃u,u=wR t i k k:=⟨_,rfl⟩;rw[←hu]at c4;simp only[vx,T,seval,tC,aa,k1,←hu];refine⟨by omega,Cg c4 ?_⟩;simp only[vx,T,seval,tC,aa,k1];refine⟨by omega,Lq ⟨k+1,by omega,hkl⟩ ?_ (by show t.length-(k+1)<t.length-k;omega)⟩;refine jU [(1,some 1),(2,some 2),(3,some 3)] ?_;simp only[ry,seval,tC,aa];exact fun m j _ hj=>MR (by omega) he hj
    have hkl:k=t.length:=by omega
    subst hkl;have dl:(fm i t).length=t.length-1:=kr;have en:i+((t.length:Int)-((i+1:Nat):Int)).toNat=t.length-1:=by omega
    simp only[vx,T,seval,tC,aa,i1,i2,en];refine⟨by omega,by omega,by omega,Lq ⟨(i,fm i t,a'),by simp only[dl];omega,hs',e1⟩ ?_ (by show i<i+1;omega)⟩;refine jU [(1,some 1),(2,some 2),(3,some 22)] ?_;simp only[ry,seval,tC,aa,dl];exact fun m j hm _=>JZ (by omega) hm
  obtain rfl:n=0:=by omega
  obtain rfl:(t,a)=R:=hr;simp only[vx,T,seval,tC,aa];exact Ve rfl
end
open Go Go.Eng
open Go.Tw (El aC aJ zE ai au ar ao ae QB mS ah ag aO aI tB aX aG dK)
theorem dP {h:Nat}{t:List El}(hh:h≤8)(q:Rat):Fr prog 79 [tV h t,QV q] (.rows 62 4 (aX h q).length (fQ (aX h q))):=by
 have hp:=aN hh;have z:=bc 0 (by decide) (by decide);have hs:=dL (h:=h) hh;have hl:(aX h q).length=2^h:=aG;have h1:1≤2^h:=Nat.two_pow_pos h;have hst:∀k,k+1<2^h→(q::zE k)++[0]=q::zE (k+1):=fun k _=>by
  rw[List.cons_append,←Go.Tw.Ba];rfl
 have er:aX h q=q::zE (2^h-1):=rfl;rw[er]at hl⊢;obtain⟨N,hN⟩:∃N,N=2^h:=⟨_,rfl⟩;rw[←hN]at hs hl hp h1 hst⊢;refine fw func79 ⟨[0,1,3,4,5,13],[]⟩ ?_;simp only[Tryz.f79,ntmps79,iz,seval];simp only[vx,T,seval,tV,tC,eV,aa,QV,QC];refine Lk (fun y:{k:Nat//k+1≤N}=>⟨[(0,tV h t),(4,.one .nil),(5,.one (.own 2 4 0 (y.1+1)))],[(2,⟨.rows 62 4 (y.1+1) (fQ (q::zE y.1)),true⟩)],3,19⟩) (fun y=>N-(y.1+1)) ⟨0,by omega⟩ ?_ (fun⟨k,hk⟩=>?_)
 ·refine Sa ?_;simp only[ry,seval,rz,tV,tC,eV,aa];intro i j hi hj;obtain rfl:i=0:=by omega
  rw[Nat.zero_mul,Nat.zero_add];exact dA q rfl j
 simp only;simp only[vx,T,seval,tV,tC,eV,aa,hs];refine⟨by omega,?_⟩;refine⟨fun g=>Lg ?_,fun g=>Lg ?_⟩
 ·simp only[vx,T,seval,tV,tC,eV,aa,hs];refine Cg z ?_;simp only[vx,T,seval,tV,tC,eV,aa,hs,QV,QC];refine⟨⟨by omega,by omega⟩,Lq ⟨k+1,by omega⟩ ?_ (by show N-(k+1+1)<N-(k+1);omega)⟩;refine Sa ?_;simp only[ry,seval,rz,tV,tC,eV,aa,hs];rw[←hst k (by omega)];exact Ds (by rw[List.length_cons,au]) (Rat.ofInt 0)
 simp only[vx,T,seval,tV,tC,eV,aa,hs];have ek:k=N-1:=by omega
 subst ek;exact⟨au.symm,rfl,by rw[au],fun _ _ _ _=>rfl⟩
theorem MH {h:Nat}{U:List El}(h8:h+1≤8):Pr prog 112 [tV (h+1) U,.one (.int .i64 h)] (eV (dK h)):=by
 have hs':=dL (h:=h) (by omega);have hp:=aN h8;have o0:=bc 0 (by decide) (by decide);have o:=bc 1 (by decide) (by decide);have z:=dP (h:=h+1) (t:=U) h8 (Rat.ofInt 0);have e0:aX (h+1) (Rat.ofInt 0)=zE (2^(h+1)):=by
  have:=Nat.two_pow_pos (h+1)
  show(0:Rat)::List.replicate (2^(h+1)-1) 0=List.replicate (2^(h+1)) 0
  rw[←List.replicate_succ];congr 1;omega
 rw[e0]at z;have hlt:2^h<2^(h+1):=Nat.pow_lt_pow_right (by decide) (by omega);have hlen:(zE (2^(h+1))).length=2^(h+1):=au;obtain⟨N,hN⟩:∃N,N=2^(h+1):=⟨_,rfl⟩;obtain⟨M,hM⟩:∃M,M=2^h:=⟨_,rfl⟩;have st:=yy h;rw[←hN]at z hlt hlen hp st;rw[←hM]at hs' hlt st;refine pw func112 ⟨[0,1,4,5],[]⟩ ?_;simp only[Tryz.f112,ntmps112,iz,seval];simp only[vx,T,seval,tV,tC,aa];refine Cg o0 ?_;simp only[vx,T,seval,tV,tC,aa,QV,QC];refine cF.fresh z ?_;simp only[vx,T,seval,tV,tC,aa,hs',hlen];refine⟨by omega,Cg o ?_⟩;simp only[vx,T,seval,tV,tC,aa,QV,QC,hs',hlen];exact⟨⟨by omega,by omega⟩,fP.cell (dr.rows (by rw[Go.Tw.kv,hN]) fun i j _ hj=>.of_eq (st i j hj))⟩
theorem D3 (q:Rat)(hq:qm q<2^40):Pr prog 153 [QV q] (.one (.bool true)):=by
 have h:=xo (zs q.num) (zs (q.den:Int)) (zm q.num) (zm (q.den:Int)) (ql _) (ql _) (by unfold qm at hq;rw[aU];omega) (by unfold qm at hq;rw[aU,aE];omega);rw[LS]at h;exact h
theorem Dx (a:El)(n:Nat)(hl:a.length=n)(hn:n<2^38)(hq:Qk a):Pr prog 110 [eV a,.one (.int .i64 n)] (.one (.bool true)):=by
 subst hl;refine pw func110 ⟨[0,1,4,5,9,17],[]⟩ ?_;simp only[Tryz.f110,ntmps110,iz,seval];simp only[vx,T,seval,eV,aa];refine Lk (fun y:{i:Nat//i≤a.length}=>⟨[(0,eV a),(1,.one (.int .i64 a.length)),(4,.one (.bool false)),(5,.one (.int .i64 y.1))],[],2,22⟩) (fun y=>a.length-y.1) ⟨0,Nat.zero_le _⟩ ?_ (fun⟨i,hi⟩=>?_)
 ·refine Sa ?_;simp only[ry,seval,rz,eV,aa]
 have i1:=wI i (by omega);simp only[vx,T,seval,eV,aa];refine⟨fun h1=>Lg ?_,fun h1=>Lg ?_⟩
 ·have v:=D3 _ (Nat.lt_trans (hq.get i) (by decide));obtain⟨x,hx⟩:∃x,x=a.getD i default:=⟨_,rfl⟩;rw[←hx]at v;simp only[vx,T,seval,eV,aa,←hx,qC];refine⟨by omega,Cg v ?_⟩;simp only[vx,T,seval,eV,aa,i1];refine Lq ⟨i+1,by omega⟩ ?_ (by show a.length-(i+1)<a.length-i;omega);refine Sa ?_;simp only[ry,seval,rz,eV,aa]
 simp only[vx,T,seval,eV,aa];exact Ve rfl
theorem DL {h:Nat}{t:List El}(tk:Tk h t):Pr prog 109 [tV h t] (.one (.bool true)):=by
 have h8:=tk.le8;refine pw func109 ⟨[0,2,3,7,17],[]⟩ ?_;simp only[Tryz.f109,ntmps109,iz,seval];simp only[vx,T,seval,tV,tC];refine Lk (fun y:{i:Nat//i≤h}=>⟨[(0,tV h t),(2,.one (.bool false)),(3,.one (.int .i64 y.1))],[],1,18⟩) (fun y=>h-y.1) ⟨0,Nat.zero_le _⟩ ?_ (fun⟨i,hi⟩=>?_)
 ·refine Sa ?_;simp only[ry,seval,rz,tV,tC]
 have i1:=wI i (by omega);simp only[vx,T,seval,tV,tC];refine⟨fun g=>Lg ?_,fun g=>Lg ?_⟩
 ·have hih:i<h:=by omega
  have hs:=dL (h:=i) (by omega);have r:=Dx (t.getD i []) (2^i) (tk.len i hih) (aN (by omega)) (tk.q i hih);simp only[vx,T,seval,tV,tC,aa,hs];refine⟨by omega,by omega,Cg r ?_⟩;simp only[vx,T,seval,tV,tC,i1];refine Lq ⟨i+1,by omega⟩ ?_ (by show h-(i+1)<h-i;omega);refine Sa ?_;simp only[ry,seval,rz,tV,tC]
 simp only[vx,T,seval,tV,tC];exact Ve rfl
theorem ur {h:Nat}{t:List El}(tk:Tk h t)(a:El)(ha:a.length=2^h)(hq:Qk a):Pr prog 74 [tV h t,eV a] (.one (.bool true)):=by
 have hs:=dL (h:=h) tk.le8;have r:=Dx a (2^h) ha (aN tk.le8) hq;have tw:=DL tk;refine pw func74 ⟨[0,1,4],[]⟩ ?_;simp only[Tryz.f74,ntmps74,iz,seval];simp only[vx,T,seval,tV,tC,eV,aa,hs];refine Cg tw ?_;simp only[vx,T,seval,tV,tC,eV,aa,hs];refine⟨by omega,Cg r ?_⟩;simp only[vx,T,seval,tV,tC];exact Ve rfl
open Go Go.Eng
open Go.Tw (El aC aJ zE ai au ar ao ae QB mS ah ag aO aI tB aX aG)
theorem LJ:∀{a:El} {n:Nat},a.length=n→aC (zE n) a=a:=fun h=>by rw[Go.Tw.qB,Go.Tw.iY h]
theorem JV {h:Nat}{t:List El}{a b:El}(ha:a.drop (2^h)=zE (2^h))(hb:b.drop (2^h)=zE (2^h)):ai (h+1) t a b=ai h t (a.take (2^h)) (b.take (2^h))++zE (2^h):=by
 rw[ai,ha,hb,Go.Tw.bF,Go.Tw.bF,Go.Tw.iY ae,Go.Tw.fT,Go.Tw.bF,Go.Tw.iY au]
theorem JS {h:Nat}{t:List El}{a b:El}(ha:a.drop (2^h)=zE (2^h)):ai (h+1) t a b=ai h t (a.take (2^h)) (b.take (2^h))++ai h t (a.take (2^h)) (b.drop (2^h)):=by
 rw[ai,ha,Go.Tw.bF,Go.Tw.bF,Go.Tw.iY ae,Go.Tw.bF,Go.Tw.iY ae]
theorem KR {h:Nat}{t:List El}{a b:El}(hb:b.drop (2^h)=zE (2^h)):ai (h+1) t a b=ai h t (a.take (2^h)) (b.take (2^h))++ai h t (a.drop (2^h)) (b.take (2^h)):=by
 rw[ai,hb,Go.Tw.fT,Go.Tw.bF,Go.Tw.iY ae,Go.Tw.fT,LJ ae]
theorem N5 {a b:El}{t:List El}(ha:a.length=2^0)(hb:b.length=2^0)(qa:Qk a)(qb:Qk b):
  Fr prog 44 [tV 0 t,eV a,eV b] (.rows 62 4 (ai 0 t a b).length (fQ (ai 0 t a b))):=by
 have hxq:=qa.get 0;have hyq:=qb.get 0;have em:ai 0 t a b=[a.getD 0 default*b.getD 0 default]:=rfl;obtain⟨x,hx⟩:∃x,x=a.getD 0 default:=⟨_,rfl⟩;obtain⟨y,hy⟩:∃y,y=b.getD 0 default:=⟨_,rfl⟩;rw[←hx,←hy]at em;rw[←hx]at hxq;rw[←hy]at hyq;refine fw func44 ⟨[0,1,2,6,7,8,9,10,11,12,15,57,63,74],[(4,.nil)]⟩ ?_;simp only[Tryz.f44,ntmps44,iz,seval];simp only[vx,T,seval,tV,tC,eV,aa,←hx,←hy,qC];refine⟨by omega,by omega,Cg (BQ x y hxq hyq) ?_⟩;simp only[vx,T,seval,QV,QC];rw[em];refine⟨rfl,rfl,rfl,fun i j hi hj=>?_⟩;obtain rfl:i=0:=by omega
 show List.getD _ (0*4+j) _=_;rw[Nat.zero_mul,Nat.zero_add];exact dA (x*y) rfl j
def bf (a:El)(n:Nat):C:=.rows 4 n (fun i=>qC (a.getD i default))
def a9 (a:El)(n:Nat):C:=.rows 4 (a.length-n) (fun i=>qC (a.getD (n+i) default))
theorem MS {t:List El}{C:Nat}(hC:1≤C){h:Nat}(ih:∀{a b:El} {A B:Nat},1≤A→1≤B→a.length=2^h→b.length=2^h→QB A a→QB B b→mS h (A+B) C<2^38→
  Fr prog 44 [tV h t,eV a,eV b] (.rows 62 4 (ai h t a b).length (fQ (ai h t a b)))) {a b:El} {A B:Nat} (tk:Tk (h+1) t) (ht:∀i,i<h+1→QB C (t.getD i []))
  (h1:1≤A) (h2:1≤B) (ha:a.length=2^(h+1)) (hb:b.length=2^(h+1)) (qa:QB A a) (qb:QB B b) (hs:mS (h+1) (A+B) C<2^38):
  Fr prog 44 [tV (h+1) t,eV a,eV b] (.rows 62 4 (ai (h+1) t a b).length (fQ (ai (h+1) t a b))):=by
 have hh:=tk.le8;have hp:2^h≤2^8:=Nat.pow_le_pow_right (by decide) (by omega);have h30:2^h<2^30:=Nat.lt_of_le_of_lt hp (by decide);have h38:2^h<2^38:=Nat.lt_of_le_of_lt hp (by decide);have hge:=Go.Tw.gV (h:=h) (S:=A+B) (C:=C);have hge2:=Go.Tw.gV (h:=h) (S:=mS h (A+B) C+C) (C:=C);rw[mS]at hs;have la1:=ah ha;have la2:=ag ha;have lb1:=ah hb;have lb2:=ag hb;have ht':∀i,i<h→QB C (t.getD i []):=fun i hi=>ht i (by omega);have m1:=ih h1 h2 la1 lb1 (qa.take _) (qb.take _) (by omega);have m2:=ih h1 h2 la2 lb2 (qa.drop _) (qb.drop _) (by omega);have m3:=ih h1 h2 la1 lb2 (qa.take _) (qb.drop _) (by omega);have m4:=ih h1 h2 la2 lb1 (qa.drop _) (qb.take _) (by omega);have g1:=QB.mul hC ht' h1 h2 (qa.take (2^h)) (qb.take (2^h));have g2:=QB.mul hC ht' h1 h2 (qa.drop (2^h)) (qb.drop (2^h));have g3:=QB.mul hC ht' h1 h2 (qa.take (2^h)) (qb.drop (2^h));have g4:=QB.mul hC ht' h1 h2 (qa.drop (2^h)) (qb.take (2^h));have m5:=ih (by omega) hC ae (tk.len h (by omega)) g2 (ht h (by omega)) (by omega);have g5:=QB.mul hC ht' (by omega) hC g2 (ht h (by omega));have a1:=sU (h:=h) (t:=t) _ _ (by rw[ae];exact h30) (by rw[ae,ae]) (Qk.of g1 (by omega)) (Qk.of g5 (by omega));have a2:=sU (h:=h) (t:=t) _ _ (by rw[ae];exact h30) (by rw[ae,ae]) (Qk.of g3 (by omega)) (Qk.of g4 (by omega));have za:=jH (a.drop (2^h)) (by rw[la2];exact h38);have zb:=jH (b.drop (2^h)) (by rw[lb2];exact h38);have o0:=bc 0 (by decide) (by decide);have fz:=(dP (h:=h) (t:=t) (by omega) (Rat.ofInt 0)).rows;have ez:aX h (Rat.ofInt 0)=zE (2^h):=by
  have:=Nat.two_pow_pos h
  show(0:Rat)::List.replicate (2^h-1) 0=List.replicate (2^h) 0
  rw[←List.replicate_succ];congr 1;omega
 rw[ez]at fz;have hna:(2^h:Nat)≤a.length:=by rw[ha,Nat.pow_succ];omega
 have hnb:(2^h:Nat)≤b.length:=by rw[hb,Nat.pow_succ];omega
 have cTa:=fk hna;have cDa:=eQ (a:=a) (n:=2^h);have cTb:=fk hnb;have cDb:=eQ (a:=b) (n:=2^h);have m1:=fR (xs:=[tV h t,.one (bf a (2^h)),.one (bf b (2^h))]) m1 ⟨.refl _,.cell cTa,.cell cTb,trivial⟩;have m2:=(fR (xs:=[tV h t,.one (a9 a (2^h)),.one (a9 b (2^h))]) m2 ⟨.refl _,.cell cDa,.cell cDb,trivial⟩).rows;have m3:=(fR (xs:=[tV h t,.one (bf a (2^h)),.one (a9 b (2^h))]) m3 ⟨.refl _,.cell cTa,.cell cDb,trivial⟩).rows;have m4:=(fR (xs:=[tV h t,.one (a9 a (2^h)),.one (bf b (2^h))]) m4 ⟨.refl _,.cell cDa,.cell cTb,trivial⟩).rows;have m5:=m5.rows;have a2:=a2.rows;have za:=za.args (xs:=[.one (a9 a (2^h))]) ⟨.cell cDa,trivial⟩;have zb:=zb.args (xs:=[.one (a9 b (2^h))]) ⟨.cell cDb,trivial⟩;have em:=fun(x:a.drop (2^h)=zE (2^h)) (y:b.drop (2^h)=zE (2^h))=>JV (t:=t) x y;have en:=fun(x:a.drop (2^h)=zE (2^h))=>JS (t:=t) (b:=b) x;have eo:=fun(y:b.drop (2^h)=zE (2^h))=>KR (t:=t) (a:=a) y;have ep:ai (h+1) t a b=aC (ai h t (a.take (2^h)) (b.take (2^h))) (ai h t (ai h t (a.drop (2^h)) (b.drop (2^h))) (t.getD h []))++aC (ai h t (a.take (2^h)) (b.drop (2^h))) (ai h t (a.drop (2^h)) (b.take (2^h))):=rfl;have l1:(ai h t (a.take (2^h)) (b.take (2^h))).length=2^h:=ae;have l2:(ai h t (a.drop (2^h)) (b.drop (2^h))).length=2^h:=ae;have l3:(ai h t (a.take (2^h)) (b.drop (2^h))).length=2^h:=ae;have l4:(ai h t (a.drop (2^h)) (b.take (2^h))).length=2^h:=ae;have l5:(ai h t (ai h t (a.drop (2^h)) (b.drop (2^h))) (t.getD h [])).length=2^h:=ae;have lz:(zE (2^h)).length=2^h:=au;rw[la2]at za;rw[lb2]at zb;clear g1 g2 g3 g4 g5 ih cTa cDa cTb cDb;obtain⟨p,hP⟩:∃p,p=ai (h+1) t a b:=⟨_,rfl⟩;rw[←hP]at em en eo ep⊢;obtain⟨za',hza⟩:∃z,z=decide (a.drop (2^h)=zE (2^h)):=⟨_,rfl⟩;obtain⟨zb',hzb⟩:∃z,z=decide (b.drop (2^h)=zE (2^h)):=⟨_,rfl⟩;rw[←hza]at za;rw[←hzb]at zb;have em:za'=true→zb'=true→p=ai h t (a.take (2^h)) (b.take (2^h))++zE (2^h):=fun x y=>em (of_decide_eq_true (hza▸x)) (of_decide_eq_true (hzb▸y));have en:za'=true→p=ai h t (a.take (2^h)) (b.take (2^h))++ai h t (a.take (2^h)) (b.drop (2^h)):=fun x=>en (of_decide_eq_true (hza▸x));have eo:zb'=true→p=ai h t (a.take (2^h)) (b.take (2^h))++ai h t (a.drop (2^h)) (b.take (2^h)):=fun y=>eo (of_decide_eq_true (hzb▸y));clear hza hzb hP;obtain⟨p1,hp1⟩:∃p,p=ai h t (a.take (2^h)) (b.take (2^h)):=⟨_,rfl⟩;obtain⟨p2,hp2⟩:∃p,p=ai h t (a.drop (2^h)) (b.drop (2^h)):=⟨_,rfl⟩;obtain⟨p3,hp3⟩:∃p,p=ai h t (a.take (2^h)) (b.drop (2^h)):=⟨_,rfl⟩;obtain⟨p4,hp4⟩:∃p,p=ai h t (a.drop (2^h)) (b.take (2^h)):=⟨_,rfl⟩;obtain⟨r,hr⟩:∃r,r=t.getD h []:=⟨_,rfl⟩;rw[←hp2,←hr]at m5 l5;rw[←hp2,←hr,←hp1]at a1;rw[←hp2,←hr,←hp1,←hp3,←hp4]at ep;rw[←hp1]at m1 em en eo l1;rw[←hp2]at m2 l2;rw[←hp3]at m3 en l3;rw[←hp4]at m4 eo l4;rw[←hp3,←hp4]at a2;obtain⟨p5,hp5⟩:∃p,p=ai h t p2 r:=⟨_,rfl⟩;rw[←hp5]at m5 a1 ep l5;obtain⟨s1,hs1⟩:∃p,p=aC p1 p5:=⟨_,rfl⟩;obtain⟨s2,hs2⟩:∃p,p=aC p3 p4:=⟨_,rfl⟩;have ls1:s1.length=2^h:=by rw[hs1];exact ao l1 l5
 have ls2:s2.length=2^h:=by rw[hs2];exact ao l3 l4
 rw[←hs1]at a1 ep;rw[←hs2]at a2 ep;obtain⟨n,hnn⟩:∃n,n=2^h:=⟨_,rfl⟩;obtain⟨zn,hzn⟩:∃zn,zn=zE (2^h):=⟨_,rfl⟩;rw[←hzn]at fz em lz;have ha2:a.length=2*n:=by rw[ha,Nat.pow_succ,hnn];omega
 have hb2:b.length=2*n:=by rw[hb,Nat.pow_succ,hnn];omega
 rw[←hnn]at hp za zb m1 m2 m3 m4 l1 l2 l3 l4 l5 ls1 ls2 lz;clear h30 h38 hs hge hge2 la1 la2 lb1 lb2 hna hnb hp1 hp2 hp3 hp4 hp5 hs1 hs2 ez hzn ht ht' hC h1 h2 ha hb qa qb hnn tk;have w1:IntKind.i64.wrap (((h+1:Nat):Int)-1)=(h:Int):=by rw[IntWalk.i64_in _ (by omega)];omega
 have w2:IntKind.i64.wrap (((a.length:Nat):Int).tdiv 2)=(n:Int):=by
  rw[ha2,Int.tdiv_eq_ediv_of_nonneg (by omega),IntWalk.i64_in _ (by omega)];omega
 have w4:((a.length:Int)-(n:Int)).toNat=a.length-n:=by omega
 have w5:((b.length:Int)-(n:Int)).toNat=b.length-n:=by omega
 refine fw func44 ⟨[0,1,2,6,7,8,9,10,11,12,15,57,63,74],[(4,.nil)]⟩ ?_;simp only[Tryz.f44,ntmps44,iz,seval];simp only[vx,T,seval,tV,tC,eV,aa,bf,a9,QV,QC,w1,w2,w4,w5,←hr];refine⟨fun h=>absurd h (by omega),fun _=>Lg ?_⟩;simp only[vx,T,seval,tV,tC,eV,aa,bf,a9,QV,QC,w1,w2,w4,w5,←hr];refine⟨⟨by omega,by omega⟩,⟨by omega,by omega⟩,⟨by omega,by omega,by omega⟩,Cg za ?_⟩;simp only[vx,T,seval,tV,tC,eV,aa,bf,a9,QV,QC,w1,w2,w4,w5,←hr];refine⟨⟨by omega,by omega,by omega⟩,Cg zb ?_⟩;simp only[vx,T,seval,tV,tC,eV,aa,bf,a9,QV,QC,w1,w2,w4,w5,←hr];refine⟨⟨by omega,by omega⟩,⟨by omega,by omega⟩,cF.fresh m1 ?_⟩
 cases za' with
 |true=>
  cases zb' with
  |true=>
   rw[em rfl rfl];simp only[vx,T,seval,tV,tC,eV,aa,bf,a9,QV,QC,w1,w2,w4,w5,←hr];refine Cg o0 ?_;simp only[vx,T,seval,tV,tC,eV,aa,bf,a9,QV,QC,w1,w2,w4,w5,←hr];refine Cg fz ?_;simp only[vx,T,seval,tV,tC,eV,aa,bf,a9,QV,QC,w1,w2,w4,w5,←hr];exact⟨⟨by omega,by omega⟩,List.length_append.symm,rfl,List.length_append.symm,fun i j _ _=>kS p1 zn i j⟩
  |false=>
   rw[en rfl];simp only[vx,T,seval,tV,tC,eV,aa,bf,a9,QV,QC,w1,w2,w4,w5,←hr];refine⟨⟨by omega,by omega⟩,⟨by omega,by omega,by omega⟩,Cg m3 ?_⟩;simp only[vx,T,seval,tV,tC,eV,aa,bf,a9,QV,QC,w1,w2,w4,w5,←hr];exact⟨⟨by omega,by omega⟩,List.length_append.symm,rfl,List.length_append.symm,fun i j _ _=>kS p1 p3 i j⟩
 |false=>
  cases zb' with
  |true=>
   rw[eo rfl];simp only[vx,T,seval,tV,tC,eV,aa,bf,a9,QV,QC,w1,w2,w4,w5,←hr];refine⟨⟨by omega,by omega,by omega⟩,⟨by omega,by omega⟩,Cg m4 ?_⟩;simp only[vx,T,seval,tV,tC,eV,aa,bf,a9,QV,QC,w1,w2,w4,w5,←hr];exact⟨⟨by omega,by omega⟩,List.length_append.symm,rfl,List.length_append.symm,fun i j _ _=>kS p1 p4 i j⟩
  |false=>
   rw[ep];simp only[vx,T,seval,tV,tC,eV,aa,bf,a9,QV,QC,w1,w2,w4,w5,←hr];refine⟨⟨by omega,by omega,by omega⟩,⟨by omega,by omega,by omega⟩,Cg m2 ?_⟩;simp only[vx,T,seval,tV,tC,eV,aa,bf,a9,QV,QC,w1,w2,w4,w5,←hr];refine Cg m5 ?_;simp only[vx,T,seval,tV,tC,eV,aa,bf,a9,QV,QC,w1,w2,w4,w5,←hr];refine cF.fresh a1 ?_;simp only[vx,T,seval,tV,tC,eV,aa,bf,a9,QV,QC,w1,w2,w4,w5,←hr];refine⟨⟨by omega,by omega⟩,⟨by omega,by omega,by omega⟩,Cg m3 ?_⟩;simp only[vx,T,seval,tV,tC,eV,aa,bf,a9,QV,QC,w1,w2,w4,w5,←hr];refine⟨⟨by omega,by omega,by omega⟩,⟨by omega,by omega⟩,Cg m4 ?_⟩;simp only[vx,T,seval,tV,tC,eV,aa,bf,a9,QV,QC,w1,w2,w4,w5,←hr];refine Cg a2 ?_;simp only[vx,T,seval,tV,tC,eV,aa,bf,a9,QV,QC,w1,w2,w4,w5,←hr];exact⟨⟨by omega,by omega⟩,List.length_append.symm,rfl,List.length_append.symm,fun i j _ _=>kS s1 s2 i j⟩
theorem fN {t:List El}{C:Nat}(hC:1≤C):∀{h:Nat} {a b:El} {A B:Nat},Tk h t→(∀i,i<h→QB C (t.getD i []))→1≤A→1≤B→a.length=2^h→b.length=2^h→QB A a→QB B b→mS h (A+B) C<2^38→
  Fr prog 44 [tV h t,eV a,eV b] (.rows 62 4 (ai h t a b).length (fQ (ai h t a b)))
 |0,a,b,A,B,_,_,_,_,ha,hb,qa,qb,hs=>by
  have hs:A+B<2^38:=hs;exact N5 ha hb (.of qa (by omega)) (.of qb (by omega))
 |h+1,a,b,A,B,tk,ht,h1,h2,ha,hb,qa,qb,hs=>
  MS hC (fun g1 g2 la lb ga gb gs=>fN hC (tk.le (Nat.le_succ h)) (fun i hi=>ht i (by omega)) g1 g2 la lb ga gb gs) tk ht h1 h2 ha hb qa qb hs
open Go Go.Eng
open Go.Tw (El aC aJ zE ai au ar ao ae QB mS ah ag aO aI tB aX aG cA lS val Rd)
theorem Cj {h X:Nat}{t:List El}(W:TQ (h+1) t)(a:El)(ha:a.length=2^(h+1))(hX1:1≤X)(hX:X≤2^30)(hq:QB X a):Pr prog 125 [tV (h+1) t,eV a] (eV (aO h t a)):=by
 have W':=W.le (Nat.le_succ h);have h3:=W.h3;have la1:=ah ha;have la2:=ag ha;have hp:2^h≤8:=Nat.pow_le_pow_right (n:=2) (by decide) (show h≤3 by omega);have hr:=W.tk.len h (by omega);have hrq:=W.q h (by omega);have ht:=W'.q;have b1:=kb (h:=h) (S:=X+X) (by omega);have b2:=kb (h:=h) (S:=mS h (X+X) tB+tB) (by omega);have btB:tB=32769:=rfl;have m1:=fN fS W'.tk ht hX1 hX1 la1 la1 (hq.take _) (hq.take _) (by omega);have m2:=fN fS W'.tk ht hX1 hX1 la2 la2 (hq.drop _) (hq.drop _) (by omega);have g1:=QB.mul fS ht hX1 hX1 (hq.take (2^h)) (hq.take (2^h));have g2:=QB.mul fS ht hX1 hX1 (hq.drop (2^h)) (hq.drop (2^h));have hge:=Go.Tw.gV (h:=h) (S:=X+X) (C:=tB);have m3:=(fN fS W'.tk ht (by omega) fS ae hr g2 hrq (by omega)).rows;have g3:=QB.mul fS ht (by omega) fS g2 hrq;have sb:=(HV (h:=h) (t:=t) _ _ (by rw[ae];omega) (by rw[ae,ae]) (Qk.of g1 (by omega)) (Qk.of g3 (by omega))).rows;have hn:(2^h:Nat)≤a.length:=by rw[ha,Nat.pow_succ];omega
 have cT:=fk hn;have cD:=eQ (a:=a) (n:=2^h);have m1:=(fR (xs:=[tV h t,.one (bf a (2^h)),.one (bf a (2^h))]) m1 ⟨.refl _,.cell cT,.cell cT,trivial⟩).rows;have m2:=(fR (xs:=[tV h t,.one (a9 a (2^h)),.one (a9 a (2^h))]) m2 ⟨.refl _,.cell cD,.cell cD,trivial⟩).rows;have em:aO h t a=aC (ai h t (a.take (2^h)) (a.take (2^h))) (aJ (ai h t (ai h t (a.drop (2^h)) (a.drop (2^h))) (t.getD h []))):=rfl;rw[←em]at sb;clear em;obtain⟨e,he⟩:∃e,e=aO h t a:=⟨_,rfl⟩;rw[←he]at sb⊢;obtain⟨n,hnn⟩:∃n,n=2^h:=⟨_,rfl⟩;obtain⟨p1,hp1⟩:∃p,p=ai h t (a.take (2^h)) (a.take (2^h)):=⟨_,rfl⟩;obtain⟨p2,hp2⟩:∃p,p=ai h t (a.drop (2^h)) (a.drop (2^h)):=⟨_,rfl⟩;obtain⟨r,hrr⟩:∃r,r=t.getD h []:=⟨_,rfl⟩;rw[←hp1]at m1 sb;rw[←hp2]at m2 m3 sb;rw[←hrr]at m3 sb;obtain⟨p3,hp3⟩:∃p,p=ai h t p2 r:=⟨_,rfl⟩;rw[←hp3]at m3 sb;have ha2:a.length=2*n:=by rw[ha,Nat.pow_succ,hnn];omega
 have w1:IntKind.i64.wrap (((h+1:Nat):Int)-1)=(h:Int):=by rw[IntWalk.i64_in _ (by omega)];omega
 have w2:IntKind.i64.wrap (((a.length:Nat):Int).tdiv 2)=(n:Int):=by
  rw[ha2,Int.tdiv_eq_ediv_of_nonneg (by omega),IntWalk.i64_in _ (by omega)];omega
 have w4:((a.length:Int)-(n:Int)).toNat=a.length-n:=by omega
 rw[←hnn]at m1 m2;refine pw func125 ⟨[0,1,4,5,6,7],[(2,.nil)]⟩ ?_;simp only[Tryz.f125,ntmps125,iz,seval];simp only[vx,T,seval,tV,tC,eV,aa,bf,a9,QV,QC,w1,w2,w4,←hrr];refine⟨⟨by omega,by omega⟩,⟨by omega,by omega⟩,⟨by omega,by omega⟩,⟨by omega,by omega⟩,Cg m1 ?_⟩;simp only[vx,T,seval,tV,tC,eV,aa,bf,a9,QV,QC,w1,w2,w4,←hrr];refine⟨⟨by omega,by omega,by omega⟩,⟨by omega,by omega,by omega⟩,Cg m2 ?_⟩;simp only[vx,T,seval,tV,tC,eV,aa,bf,a9,QV,QC,w1,w2,w4,←hrr];refine Cg m3 ?_;simp only[vx,T,seval,tV,tC,eV,aa,bf,a9,QV,QC,w1,w2,w4,←hrr];refine Cg sb ?_;simp only[vx,T,seval,tV,tC,eV,aa,bf,a9,QV,QC,w1,w2,w4,←hrr];exact Ve rfl
theorem Fs {h:Nat}{t:List El}:∀{a b:El},a.length=2^h→ai h t (aJ a) b=aJ (ai h t a b):=by
 have nadd:∀(x y:El),aJ (aC x y)=aC (aJ x) (aJ y):=by
  intro x
  induction x with
  |nil=>intro y;rfl
  |cons u x ih=>
   intro y
   cases y with
   |nil=>rfl
   |cons v y=>
    show-(u+v)::aJ (aC x y)=(-u+ -v)::aC (aJ x) (aJ y)
    rw[ih,Rat.neg_add]
 induction h with
 |zero=>
  intro a b ha;obtain⟨x,rfl⟩:=Go.Tw.bB ha
  show[-x*_]=[-(x*_)]
  rw[Rat.neg_mul]
 |succ h ih=>
  intro a b ha;have e1:(aJ a).take (2^h)=aJ (a.take (2^h)):=List.map_take.symm;have e2:(aJ a).drop (2^h)=aJ (a.drop (2^h)):=List.map_drop.symm;have e3:∀x y:El,aJ (x++y)=aJ x++aJ y:=fun x y=>List.map_append;rw[Go.Tw.ai,Go.Tw.ai,e1,e2,ih (ah ha),ih (ag ha),ih (ah ha),ih (ag ha),ih ae,e3,nadd,nadd]
def Jw (h:Nat)(t:List El)(a:El)(f:FuncId):Prop:=
 (∀n,cA h t a=some n→dI prog f [tV h t,eV a] (.rows 62 4 n.length (fQ n)) (.int .i64 0))∧
 (cA h t a=none→Pr prog f [tV h t,eV a] (.aA [.one .nil,.one (.int .i64 6)]))
theorem ME {X:Nat}{t:List El}(hX:X≤2^30){a:El}(ha:a.length=2^0)(hq:QB X a):Jw 0 t a 88:=by
 obtain⟨x,rfl⟩:=Go.Tw.bB ha;have hx:qm x≤X:=hq x (by simp);have e:cA 0 t [x]=if x=0 then none else some [x⁻¹]:=rfl
 have hz:=@Cl x;unfold Jw;rw[e]
 by_cases h0:x=0
 ·rw[if_pos h0];have hl:(zm x.num).length=0:=by rw[aU];exact dU.2 (by rw[h0];rfl)
  refine⟨fun n h=>(by cases h),fun _=>?_⟩;refine pw func88 ⟨[0,1,4,5,6,7,8,9,10,11,14,21,38,48,64],[]⟩ ?_;simp only[Tryz.f88,ntmps88,iz,seval];simp only[vx,T,seval,tV,tC,eV,aa,qC,X0,hl];exact Ve rfl
 rw[if_neg h0];have hl:¬((zm x.num).length:Int)=0:=by have:=hz.2 h0;omega
 refine⟨fun n h=>?_,fun h=>(by cases h)⟩;obtain rfl:=Option.some.inj h;have d:=Ay x (by omega) h0;refine tw func88 ⟨[0,1,4,5,6,7,8,9,10,11,14,21,38,48,64],[]⟩ ?_;simp only[Tryz.f88,ntmps88,iz,seval];simp only[vx,T,seval,tV,tC,eV,aa,qC,X0];refine⟨fun h=>absurd h hl,fun _=>Lg ?_⟩;simp only[vx,T,seval,tV,tC,eV,aa,qC,X0];refine Cg d ?_;simp only[vx,T,seval,QV,QC];refine⟨rfl,rfl,fun i j hi hj=>?_⟩;obtain rfl:i=0:=by omega
 show List.getD _ (0*4+j) _=_;rw[Nat.zero_mul,Nat.zero_add];exact dA x⁻¹ rfl j
theorem N4 {X h:Nat}{t:List El}{a n:El}(hX:X≤2^30)(W:TQ (h+1) t)(ha:a.length=2^(h+1))(hv:a.drop (2^h)=zE (2^h))(ln:n.length=2^h)
  (c:dI prog 88 [tV h t,eV (a.take (2^h))] (.rows 62 4 n.length (fQ n)) (.int .i64 0)):
  dI prog 88 [tV (h+1) t,eV a] (.rows 62 4 (n++zE (2^h)).length (fQ (n++zE (2^h)))) (.int .i64 0):=by
 have h3:=W.h3;have hp:2^h≤8:=Nat.pow_le_pow_right (n:=2) (by decide) (show h≤3 by omega);have lz:(zE (2^h)).length=2^h:=au;have hna:(2^h:Nat)≤a.length:=by rw[ha,Nat.pow_succ];omega
 have cT:=fk hna;have cD:=eQ (a:=a) (n:=2^h);have z:=jH (a.drop (2^h)) (by rw[ag ha];omega);rw[decide_eq_true (by rw[ag ha];exact hv)]at z;have z:=z.args (xs:=[.one (a9 a (2^h))]) ⟨.cell cD,trivial⟩;have c:=c.args (xs:=[tV h t,.one (bf a (2^h))]) ⟨.refl _,.cell cT,trivial⟩;have o0:=bc 0 (by decide) (by decide);have fz:=(dP (h:=h) (t:=t) (by omega) (Rat.ofInt 0)).rows;have ez:aX h (Rat.ofInt 0)=zE (2^h):=by
  have:=Nat.two_pow_pos h
  show(0:Rat)::List.replicate (2^h-1) 0=List.replicate (2^h) 0
  rw[←List.replicate_succ];congr 1;omega
 rw[ez]at fz;obtain⟨zn,hzn⟩:∃zn,zn=zE (2^h):=⟨_,rfl⟩;rw[←hzn]at fz lz⊢;obtain⟨n',hnn⟩:∃n,n=2^h:=⟨_,rfl⟩;have ha2:a.length=2*n':=by rw[ha,Nat.pow_succ,hnn];omega
 have w1:IntKind.i64.wrap (((h+1:Nat):Int)-1)=(h:Int):=by rw[IntWalk.i64_in _ (by omega)];omega
 have hp8:n'≤8:=by omega
 have w2:IntKind.i64.wrap (((a.length:Nat):Int).tdiv 2)=(n':Int):=by
  rw[ha2,Int.tdiv_eq_ediv_of_nonneg (by omega),IntWalk.i64_in _ (by omega)];omega
 have w4:((a.length:Int)-(n':Int)).toNat=a.length-n':=by omega
 rw[←hnn]at z c hp ln lz;clear hv hzn ez cT cD hna ha;refine tw func88 ⟨[0,1,4,5,6,7,8,9,10,11,14,21,38,48,64],[]⟩ ?_;simp only[Tryz.f88,ntmps88,iz,seval];simp only[vx,T,seval,tV,tC,eV,aa,bf,a9,QV,QC,w1,w2,w4];refine⟨fun h=>absurd h (by omega),fun _=>Lg ?_⟩;simp only[vx,T,seval,tV,tC,eV,aa,bf,a9,QV,QC,w1,w2,w4];refine⟨⟨by omega,by omega⟩,⟨by omega,by omega,by omega⟩,Cg z ?_⟩;simp only[vx,T,seval,tV,tC,eV,aa,bf,a9,QV,QC,w1,w2,w4];refine⟨⟨by omega,by omega⟩,cF.Bt c ?_⟩;simp only[vx,T,seval,tV,tC,eV,aa,bf,a9,QV,QC,w1,w2,w4];refine Cg o0 ?_;simp only[vx,T,seval,tV,tC,eV,aa,bf,a9,QV,QC,w1,w2,w4];refine Cg fz ?_;simp only[vx,T,seval,tV,tC,eV,aa,bf,a9,QV,QC,w1,w2,w4];exact⟨⟨by omega,by omega⟩,List.length_append.symm,rfl,List.length_append.symm,fun i j _ _=>kS n zn i j⟩
theorem Jn {X h:Nat}{t:List El}{a:El}(hX:X≤2^30)(W:TQ (h+1) t)(ha:a.length=2^(h+1))(hv:a.drop (2^h)=zE (2^h))
  (c:Pr prog 88 [tV h t,eV (a.take (2^h))] (.aA [.one .nil,.one (.int .i64 6)])):
  Pr prog 88 [tV (h+1) t,eV a] (.aA [.one .nil,.one (.int .i64 6)]):=by
 have h3:=W.h3;have hp:2^h≤8:=Nat.pow_le_pow_right (n:=2) (by decide) (show h≤3 by omega);have hna:(2^h:Nat)≤a.length:=by rw[ha,Nat.pow_succ];omega
 have cT:=fk hna;have cD:=eQ (a:=a) (n:=2^h);have z:=jH (a.drop (2^h)) (by rw[ag ha];omega);rw[decide_eq_true (by rw[ag ha];exact hv)]at z;have z:=z.args (xs:=[.one (a9 a (2^h))]) ⟨.cell cD,trivial⟩;have c:=c.args (xs:=[tV h t,.one (bf a (2^h))]) ⟨.refl _,.cell cT,trivial⟩;obtain⟨n',hnn⟩:∃n,n=2^h:=⟨_,rfl⟩;have ha2:a.length=2*n':=by rw[ha,Nat.pow_succ,hnn];omega
 have w1:IntKind.i64.wrap (((h+1:Nat):Int)-1)=(h:Int):=by rw[IntWalk.i64_in _ (by omega)];omega
 have hp8:n'≤8:=by omega
 have w2:IntKind.i64.wrap (((a.length:Nat):Int).tdiv 2)=(n':Int):=by
  rw[ha2,Int.tdiv_eq_ediv_of_nonneg (by omega),IntWalk.i64_in _ (by omega)];omega
 have w4:((a.length:Int)-(n':Int)).toNat=a.length-n':=by omega
 rw[←hnn]at z c hp;clear hv cT cD hna ha;refine pw func88 ⟨[0,1,4,5,6,7,8,9,10,11,14,21,38,48,64],[]⟩ ?_;simp only[Tryz.f88,ntmps88,iz,seval];simp only[vx,T,seval,tV,tC,eV,aa,bf,a9,QV,QC,w1,w2,w4];refine⟨fun h=>absurd h (by omega),fun _=>Lg ?_⟩;simp only[vx,T,seval,tV,tC,eV,aa,bf,a9,QV,QC,w1,w2,w4];refine⟨⟨by omega,by omega⟩,⟨by omega,by omega,by omega⟩,Cg z ?_⟩;simp only[vx,T,seval,tV,tC,eV,aa,bf,a9,QV,QC,w1,w2,w4];refine⟨⟨by omega,by omega⟩,Cg c ?_⟩;simp only[vx,T,seval,tV,tC,eV,aa,bf,a9,QV,QC,w1,w2,w4];exact Ve rfl
theorem MM {X h:Nat}{t:List El}{a n:El}(hX1:1≤X)(hX:X≤2^30)(W:TQ (h+1) t)(ha:a.length=2^(h+1))(hq:QB X a)(qn:QB X n)(hv:a.drop (2^h)≠zE (2^h))(ln:n.length=2^h)
  (c:dI prog 88 [tV h t,eV (aO h t a)] (.rows 62 4 n.length (fQ n)) (.int .i64 0)):
  dI prog 88 [tV (h+1) t,eV a] (.rows 62 4 (ai h t (a.take (2^h)) n++aJ (ai h t (a.drop (2^h)) n)).length (fQ (ai h t (a.take (2^h)) n++aJ (ai h t (a.drop (2^h)) n)))) (.int .i64 0):=by
 have h3:=W.h3;have W':=W.le (Nat.le_succ h);have hp:2^h≤8:=Nat.pow_le_pow_right (n:=2) (by decide) (show h≤3 by omega);have hna:(2^h:Nat)≤a.length:=by rw[ha,Nat.pow_succ];omega
 have cT:=fk hna;have cD:=eQ (a:=a) (n:=2^h);have z:=jH (a.drop (2^h)) (by rw[ag ha];omega);rw[decide_eq_false (by rw[ag ha];exact hv)]at z;have z:=z.args (xs:=[.one (a9 a (2^h))]) ⟨.cell cD,trivial⟩;have cn:=Cj W a ha hX1 hX hq;have b1:=lv (h:=h) (S:=X+X) (by omega) (by omega);have m1:=fR (xs:=[tV h t,.one (bf a (2^h)),eV n]) (fN fS W'.tk W'.q hX1 hX1 (ah ha) ln (hq.take _) qn b1) ⟨.refl _,.cell cT,.refl _,trivial⟩;have ng:=(fR (xs:=[tV h t,.one (a9 a (2^h))]) (yY (h:=h) (t:=t) (a.drop (2^h)) (by rw[ag ha];omega) (.of (hq.drop _) (by omega))) ⟨.refl _,.cell cD,trivial⟩).rows;have lneg:(aJ (a.drop (2^h))).length=2^h:=by rw[ar,ag ha]
 have m2:=(fN fS W'.tk W'.q hX1 hX1 lneg ln (hq.drop _).neg qn b1).rows;rw[Fs (ag ha)]at m2;have l1:(ai h t (a.take (2^h)) n).length=2^h:=ae;have l2:(aJ (ai h t (a.drop (2^h)) n)).length=2^h:=by rw[ar,ae]
 obtain⟨e,he⟩:∃e,e=aO h t a:=⟨_,rfl⟩;obtain⟨s1,hs1⟩:∃s,s=ai h t (a.take (2^h)) n:=⟨_,rfl⟩;obtain⟨s2,hs2⟩:∃s,s=aJ (ai h t (a.drop (2^h)) n):=⟨_,rfl⟩;obtain⟨y,hy⟩:∃y,y=aJ (a.drop (2^h)):=⟨_,rfl⟩;rw[←he]at c cn;rw[←hs1]at m1 l1⊢;rw[←hy]at ng m2 lneg;rw[←hs2]at m2 l2⊢;obtain⟨n',hnn⟩:∃n,n=2^h:=⟨_,rfl⟩;have ha2:a.length=2*n':=by rw[ha,Nat.pow_succ,hnn];omega
 have w1:IntKind.i64.wrap (((h+1:Nat):Int)-1)=(h:Int):=by rw[IntWalk.i64_in _ (by omega)];omega
 have hp8:n'≤8:=by omega
 have w2:IntKind.i64.wrap (((a.length:Nat):Int).tdiv 2)=(n':Int):=by
  rw[ha2,Int.tdiv_eq_ediv_of_nonneg (by omega),IntWalk.i64_in _ (by omega)];omega
 have w4:((a.length:Int)-(n':Int)).toNat=a.length-n':=by omega
 rw[←hnn]at z m1 ng hp ln l1 l2 lneg;clear hv cT cD hna ha he hs1 hs2 hy hq qn b1 W';refine tw func88 ⟨[0,1,4,5,6,7,8,9,10,11,14,21,38,48,64],[]⟩ ?_;simp only[Tryz.f88,ntmps88,iz,seval];simp only[vx,T,seval,tV,tC,eV,aa,bf,a9,QV,QC,w1,w2,w4];refine⟨fun h=>absurd h (by omega),fun _=>Lg ?_⟩;simp only[vx,T,seval,tV,tC,eV,aa,bf,a9,QV,QC,w1,w2,w4];refine⟨⟨by omega,by omega⟩,⟨by omega,by omega,by omega⟩,Cg z ?_⟩;simp only[vx,T,seval,tV,tC,eV,aa,bf,a9,QV,QC,w1,w2,w4];refine Cg cn ?_;simp only[vx,T,seval,tV,tC,eV,aa,bf,a9,QV,QC,w1,w2,w4];refine cF.Bt c ?_;simp only[vx,T,seval,tV,tC,eV,aa,bf,a9,QV,QC,w1,w2,w4];refine⟨⟨by omega,by omega⟩,cF.fresh m1 ?_⟩;simp only[vx,T,seval,tV,tC,eV,aa,bf,a9,QV,QC,w1,w2,w4];refine⟨⟨by omega,by omega,by omega⟩,Cg ng ?_⟩;simp only[vx,T,seval,tV,tC,eV,aa,bf,a9,QV,QC,w1,w2,w4];refine Cg m2 ?_;simp only[vx,T,seval,tV,tC,eV,aa,bf,a9,QV,QC,w1,w2,w4];exact⟨⟨by omega,by omega⟩,List.length_append.symm,rfl,List.length_append.symm,fun i j _ _=>kS s1 s2 i j⟩
theorem Jb {X h:Nat}{t:List El}{a:El}(hX1:1≤X)(hX:X≤2^30)(W:TQ (h+1) t)(ha:a.length=2^(h+1))(hq:QB X a)(hv:a.drop (2^h)≠zE (2^h))
  (c:Pr prog 88 [tV h t,eV (aO h t a)] (.aA [.one .nil,.one (.int .i64 6)])):
  Pr prog 88 [tV (h+1) t,eV a] (.aA [.one .nil,.one (.int .i64 6)]):=by
 have h3:=W.h3;have hp:2^h≤8:=Nat.pow_le_pow_right (n:=2) (by decide) (show h≤3 by omega);have hna:(2^h:Nat)≤a.length:=by rw[ha,Nat.pow_succ];omega
 have cT:=fk hna;have cD:=eQ (a:=a) (n:=2^h);have z:=jH (a.drop (2^h)) (by rw[ag ha];omega);rw[decide_eq_false (by rw[ag ha];exact hv)]at z;have z:=z.args (xs:=[.one (a9 a (2^h))]) ⟨.cell cD,trivial⟩;have cn:=Cj W a ha hX1 hX hq;obtain⟨e,he⟩:∃e,e=aO h t a:=⟨_,rfl⟩;rw[←he]at c cn;obtain⟨n',hnn⟩:∃n,n=2^h:=⟨_,rfl⟩;have ha2:a.length=2*n':=by rw[ha,Nat.pow_succ,hnn];omega
 have w1:IntKind.i64.wrap (((h+1:Nat):Int)-1)=(h:Int):=by rw[IntWalk.i64_in _ (by omega)];omega
 have hp8:n'≤8:=by omega
 have w2:IntKind.i64.wrap (((a.length:Nat):Int).tdiv 2)=(n':Int):=by
  rw[ha2,Int.tdiv_eq_ediv_of_nonneg (by omega),IntWalk.i64_in _ (by omega)];omega
 have w4:((a.length:Int)-(n':Int)).toNat=a.length-n':=by omega
 rw[←hnn]at z hp;clear hv cT cD hna ha he hq;refine pw func88 ⟨[0,1,4,5,6,7,8,9,10,11,14,21,38,48,64],[]⟩ ?_;simp only[Tryz.f88,ntmps88,iz,seval];simp only[vx,T,seval,tV,tC,eV,aa,bf,a9,QV,QC,w1,w2,w4];refine⟨fun h=>absurd h (by omega),fun _=>Lg ?_⟩;simp only[vx,T,seval,tV,tC,eV,aa,bf,a9,QV,QC,w1,w2,w4];refine⟨⟨by omega,by omega⟩,⟨by omega,by omega,by omega⟩,Cg z ?_⟩;simp only[vx,T,seval,tV,tC,eV,aa,bf,a9,QV,QC,w1,w2,w4];refine Cg cn ?_;simp only[vx,T,seval,tV,tC,eV,aa,bf,a9,QV,QC,w1,w2,w4];refine Cg c ?_;simp only[vx,T,seval,tV,tC,eV,aa,bf,a9,QV,QC,w1,w2,w4];exact Ve rfl
theorem vH {X:Nat}(hX1:1≤X)(hX:X≤2^30){t:List El}:∀{h:Nat} {a:El},TQ h t→Rd h t→a.length=2^h→lS X h t a→Jw h t a 88
 |0,a,_,_,ha,hi=>ME hX ha hi
 |h+1,a,W,D,ha,hi=>by
  have W':=W.le (Nat.le_succ h);have D':=D.le (Nat.le_succ h);have hqa:=hi.qb;obtain⟨_,i2,i3,_,i5⟩:=hi;have ev:cA (h+1) t a=(cA h t (aO h t a)).map fun n=>ai h t (a.take (2^h)) n++aJ (ai h t (a.drop (2^h)) n):=rfl
  by_cases hv:a.drop (2^h)=zE (2^h)
  ·have ih:=vH hX1 hX W' D' (ah ha) i2;have vl:=Go.Tw.r9 (t:=t) hv;refine⟨fun n hn=>?_,fun hn=>?_⟩
   ·obtain⟨ln,en⟩:=Go.Tw.dc D.rl ha hn;rw[vl]at en;have h0:val h t (a.take (2^h))≠R.q 0:=fun e=>by rw[e,R.zero_mul]at en;exact R.gk en.symm
    obtain⟨m,hm,lm,em⟩:=Go.Tw.jy D' (ah ha) h0;have hn2:n=m++zE (2^h):=by
     refine Go.Tw.val_inj D ln (by rw[X6,lm,au,Nat.pow_succ];omega) ?_;rw[Go.Tw.kV lm];refine R.jl (z:=val h t (a.take (2^h))) ?_ h0;rw[R.mul_comm,en,R.mul_comm,em]
    rw[hn2];exact N4 hX W ha hv lm (ih.1 m hm)
   have e0:=Go.Tw.nv D ha hn;rw[vl]at e0;refine Jn hX W ha hv (ih.2 ?_)
   cases hk:cA h t (a.take (2^h))with
   |none=>rfl
   |some m=>
    have:=(Go.Tw.dc D'.rl (ah ha) hk).2
    rw[e0,R.zero_mul]at this;exact absurd this.symm R.gk
  have ih:=vH hX1 hX W' D' aI i3;unfold Jw;rw[ev]
  cases hn:cA h t (aO h t a)with
  |none=>exact⟨fun n h=>(by cases h),fun _=>Jb hX1 hX W ha hqa hv (ih.2 hn)⟩
  |some n=>
   refine⟨fun n' hh=>?_,fun hh=>(by cases hh)⟩;obtain rfl:=Option.some.inj hh;exact MM hX1 hX W ha hqa (i5 n hn) hv (Go.Proofs.YtgcmkdgpaibpeaaGreat.ji hn) (ih.1 n hn)
open Go Go.Eng
open Go.Tw (El aC aJ zE ai au ar ao ae QB mS ah ag aO aI tB aX aG bo gT dF r8)
theorem JP {t:List El}{a:El}(ha:a.length=2^0)(hq:Qk a):Pr prog 126 [tV 0 t,eV a] (.one (.int .i64 (bo 0 t a))):=by
 obtain⟨x,rfl⟩:=Go.Tw.bB ha;have hx:qm x<2^38:=hq x (by simp);have e:bo 0 t [x]=bJ x.num:=r8 x;have c:=rI x (by omega);rw[e];refine pw func126 ⟨[0,1,4,5,6,7,8,9,12,46,49],[(4,.nil)]⟩ ?_;simp only[Tryz.f126,ntmps126,iz,seval];simp only[vx,T,seval,tV,tC,eV,aa,qC,X0];refine Cg c ?_;simp only[vx,T,seval,aa];exact Ve rfl
theorem rj {X:Nat}(hX1:1≤X)(hX:X≤2^30){t:List El}:∀{h:Nat} {a:El},TQ h t→a.length=2^h→gT X h t a→Pr prog 126 [tV h t,eV a] (.one (.int .i64 (bo h t a)))
 |0,a,_,ha,hi=>JP ha (.of hi.qb (by omega))
 |h+1,a,W,ha,hi=>by
  have W':=W.le (Nat.le_succ h);obtain⟨hqa,i1,i2,i3⟩:=hi;have v1:=rj hX1 hX W' (ah ha) i1;have v2:=rj hX1 hX W' (ag ha) i2;have v3:=rj hX1 hX W' aI i3;have h3:=W.h3;have hp:2^h≤8:=Nat.pow_le_pow_right (n:=2) (by decide) (show h≤3 by omega);have cn:=Cj W a ha hX1 hX hqa;have hn:(2^h:Nat)≤a.length:=by rw[ha,Nat.pow_succ];omega
  have cT:=fk hn;have cD:=eQ (a:=a) (n:=2^h);have v1:=v1.args (xs:=[tV h t,.one (bf a (2^h))]) ⟨.refl _,.cell cT,trivial⟩;have v2:=v2.args (xs:=[tV h t,.one (a9 a (2^h))]) ⟨.refl _,.cell cD,trivial⟩;have e:bo (h+1) t a=if bo h t (a.drop (2^h))=0∨bo h t (a.take (2^h))=bo h t (a.drop (2^h))then bo h t (a.take (2^h))else if bo h t (a.take (2^h))=0 then bo h t (a.drop (2^h))else bo h t (a.take (2^h))*bo h t (aO h t a):=rfl
  have r1:=@dF h t (a.take (2^h));have r3:=@dF h t (aO h t a);obtain⟨n,hnn⟩:∃n,n=2^h:=⟨_,rfl⟩;have ha2:a.length=2*n:=by rw[ha,Nat.pow_succ,hnn];omega
  obtain⟨m,hm⟩:∃m,m=aO h t a:=⟨_,rfl⟩;obtain⟨s1,hs1⟩:∃s,s=bo h t (a.take (2^h)):=⟨_,rfl⟩;obtain⟨s2,hs2⟩:∃s,s=bo h t (a.drop (2^h)):=⟨_,rfl⟩;rw[←hm]at v3 e cn r3;obtain⟨s3,hs3⟩:∃s,s=bo h t m:=⟨_,rfl⟩;rw[←hs1,←hs2,←hs3]at e;rw[←hs1]at v1 r1;rw[←hs2]at v2;rw[←hs3]at v3 r3;rw[e];rw[←hnn]at v1 v2 hp;clear hqa i1 i2 i3 hs1 hs2 hs3 cT cD W hm hn ha;have w1:IntKind.i64.wrap (((h+1:Nat):Int)-1)=(h:Int):=by rw[IntWalk.i64_in _ (by omega)];omega
  have w2:IntKind.i64.wrap (((a.length:Nat):Int).tdiv 2)=(n:Int):=by
   rw[ha2,Int.tdiv_eq_ediv_of_nonneg (by omega),IntWalk.i64_in _ (by omega)];omega
  have w4:((a.length:Int)-(n:Int)).toNat=a.length-n:=by omega
  have w3:IntKind.i64.wrap (s1*s3)=s1*s3:=by
   rw[IntWalk.i64_in]
   have:s1= -1∨s1=0∨s1=1:=by omega
   rcases this with h|h|h<;>rw [h]<;>omega
  refine pw func126 ⟨[0,1,4,5,6,7,8,9,12,46,49],[(4,.nil)]⟩ ?_;simp only[Tryz.f126,ntmps126,iz,seval];simp only[vx,T,seval,tV,tC,eV,aa,bf,a9,w1,w2,w3,w4];refine⟨fun h=>absurd h (by omega),fun _=>Lg ?_⟩;simp only[vx,T,seval,tV,tC,eV,aa,bf,a9,w1,w2,w3,w4];refine⟨⟨by omega,by omega⟩,⟨by omega,by omega,by omega⟩,⟨by omega,by omega⟩,Cg v1 ?_⟩;simp only[vx,T,seval,tV,tC,eV,aa,bf,a9,w1,w2,w3,w4];refine⟨⟨by omega,by omega⟩,Cg v2 ?_⟩;simp only[vx,T,seval,tV,tC,eV,aa,bf,a9,w1,w2,w3,w4];refine⟨fun k2=>Lg ?_,fun k2=>Lg ?_⟩
  ·rw[if_pos (.inl k2)];simp only[vx,T,seval,tV,tC,eV,aa,bf,a9,w1,w2,w3,w4];exact Ve rfl
  simp only[vx,T,seval,tV,tC,eV,aa,bf,a9,w1,w2,w3,w4];refine⟨fun k3=>Lg ?_,fun k3=>Lg ?_⟩
  ·rw[if_pos (.inr k3)];simp only[vx,T,seval,tV,tC,eV,aa,bf,a9,w1,w2,w3,w4];exact Ve rfl
  rw[if_neg (not_or.2 ⟨k2,k3⟩)];simp only[vx,T,seval,tV,tC,eV,aa,bf,a9,w1,w2,w3,w4];refine⟨fun k1=>Lg ?_,fun k1=>Lg ?_⟩
  ·rw[if_pos k1];simp only[vx,T,seval,tV,tC,eV,aa,bf,a9,w1,w2,w3,w4];exact Ve rfl
  rw[if_neg k1];simp only[vx,T,seval,tV,tC,eV,aa,bf,a9,w1,w2,w3,w4];refine⟨⟨by omega,by omega⟩,Cg cn ?_⟩;simp only[vx,T,seval,tV,tC,eV,aa,bf,a9,w1,w2,w3,w4];refine Cg v3 ?_;simp only[vx,T,seval,tV,tC,eV,aa,bf,a9,w1,w2,w3,w4];exact Ve rfl
theorem M1 {X h:Nat}(hX1:1≤X)(hX:X≤2^30){t:List El}{a:El}(W:TQ h t)(ha:a.length=2^h)(hs:gT X h t a):Pr prog 89 [tV h t,eV a] (.one (.int .i64 (bo h t a))):=by
 have c:=rj hX1 hX W ha hs;refine pw func89 ⟨[0,1,4],[]⟩ ?_;simp only[Tryz.f89,ntmps89,iz,seval];simp only[vx,T,seval,tV,tC,eV,aa];refine Cg c ?_;simp only[vx,T,seval,aa];exact Ve rfl
theorem NY {X h:Nat}(hX1:1≤X)(hX:X≤2^30){t:List El}(W:x6 X h t):Pr prog 149 [tV h t] (.one (.bool true)):=by
 have h3:=W.tq.h3;have f:=DL W.tq.tk;have v:∀i,i<h→Pr prog 126 [tV i t,eV (t.getD i [])] (.one (.int .i64 1)):=fun i hi=>by
  have c:=rj hX1 hX (W.tq.le (show i≤h by omega)) (W.tq.tk.len i hi) (W.s i hi);have p:=W.p i hi;have q:=@dF i t (t.getD i [])
  rwa [show bo i t (t.getD i [])=1 by omega]at c
 refine pw func149 ⟨[0,2,3,6,10,21],[]⟩ ?_;simp only[Tryz.f149,ntmps149,iz,seval];simp only[vx,T,seval,tV,tC,aa];refine Cg f ?_;simp only[vx,T,seval,tV,tC,aa];refine Lk (fun y:{i:Nat//i≤h}=>⟨[(0,tV h t),(2,.one (.bool false)),(3,.one (.int .i64 y.1))],[],2,22⟩) (fun y=>h-y.1) ⟨0,Nat.zero_le _⟩ ?_ (fun⟨i,hi⟩=>?_)
 ·refine Sa ?_;simp only[ry,seval,rz,tV,tC,aa]
 simp only;have wi:IntKind.i64.wrap ((i:Int)+1)=((i+1:Nat):Int):=by rw[IntWalk.i64_in _ (by omega)];omega
 simp only[vx,T,seval,tV,tC,aa];refine⟨fun k=>Lg ?_,fun k=>Lg ?_⟩
 ·have vi:=v i (by omega);obtain⟨r,hr⟩:∃r,r=t.getD i []:=⟨_,rfl⟩;rw[←hr]at vi;simp only[vx,T,seval,tV,tC,aa,←hr];refine⟨⟨by omega,by omega⟩,⟨by omega,by omega⟩,Cg vi ?_⟩;simp only[vx,T,seval,tV,tC,aa,wi];refine Lq ⟨i+1,by omega⟩ ?_ (by show h-(i+1)<h-i;omega);refine Sa ?_;simp only[ry,seval,rz,tV,tC,aa]
 simp only[vx,T,seval,tV,tC,aa];exact Ve rfl
theorem lA {X h:Nat}(hX1:1≤X)(hX:X≤2^30){t:List El}{a:El}(W:x6 X h t)(ha:a.length=2^h)(hs:gT X h t a):Pr prog 107 [tV h t,eV a] (.one (.int .i64 (bo h t a))):=by
 have v:=rj hX1 hX W.tq ha hs;have f:=ur W.tq.tk a ha (.of hs.qb (by omega));have g:=NY hX1 hX W;refine pw func107 ⟨[0,1,4,13],[]⟩ ?_;simp only[Tryz.f107,ntmps107,iz,seval];simp only[vx,T,seval,tV,tC,eV,aa];refine Cg f ?_;simp only[vx,T,seval,tV,tC,eV,aa];refine Cg g ?_;simp only[vx,T,seval,tV,tC,eV,aa];refine Cg v ?_;simp only[vx,T,seval,tV,tC,eV,aa];exact Ve rfl
open Go Go.Eng
open Go.Tw (El aC aJ zE ai au ar ao ae QB mS ah ag aO aI tB aX aG cA lS kM gT val In Rd nW bo b6 dF)
theorem AX (a b:El)(hl:a.length+b.length<2^38):Pr prog 151 [eV a,eV b] (eV (a++b)):=by
 refine pw func151 ⟨[0,1,4],[]⟩ ?_;simp only[Tryz.f151,ntmps151,iz,seval];simp only[vx,T,seval,eV,aa];refine⟨⟨by omega,by omega⟩,⟨by omega,by omega⟩,fP.cell (dr.rows List.length_append.symm fun i j hi hj=>.of_eq ?_)⟩;have e:=kS a b i j;unfold fQ at e;rw[if_neg (Nat.not_lt_zero _),Nat.sub_zero];exact e
theorem Ed {t:List El}{a:El}(ha:a.length=2^0)(hq:Qk a):Kx 0 t a 108:=by
 obtain⟨x,rfl⟩:=Go.Tw.bB ha;have hx:qm x<2^38:=hq x (by simp);have c:=yl x hx
 cases h:zZ x with
 |some r=>
  rw[h]at c;refine .inl ⟨[r],rfl,?_,?_⟩
  ·show R.q r*R.q r=R.q x;rw[←R.dT,(pE h).1]
  refine pw func108 ⟨[0,1,4,5,6,7,8,9,10,11,12,13,14,15,16,17,19,20,21,22,23,24,25,26,27,28,32,46,70,77,96,120,125,140],[(7,.nil),(9,.nil)]⟩ ?_;simp only[Tryz.f108,ntmps108,iz,seval];simp only[vx,T,seval,QV,QC,tV,tC,eV,aa,qC,X0];refine Cg c ?_;simp only[vx,T,seval,QV,QC,tV,tC,eV,aa,qC,X0];refine fP.aA ⟨.cell (.rows rfl fun i j hi _=>.of_eq ?_),.refl _,trivial⟩;obtain rfl:i=0:=by omega
  rw[Nat.zero_mul,Nat.zero_add];exact dA r rfl j
 |none=>
  rw[h]at c;refine .inr ⟨?_,[fun j=>[C.bool false,.nil,.bool false,.nil].getD j .any],Nat.le_refl _,?_⟩
  ·rintro z ⟨b,hb,rfl⟩ e;obtain⟨y,rfl⟩:=Go.Tw.bB hb;have e:R.q y*R.q y=R.q x:=e;rw[←R.dT]at e;exact Ai h y (R.ku e)
  refine pw func108 ⟨[0,1,4,5,6,7,8,9,10,11,12,13,14,15,16,17,19,20,21,22,23,24,25,26,27,28,32,46,70,77,96,120,125,140],[(7,.nil),(9,.nil)]⟩ ?_;simp only[Tryz.f108,ntmps108,iz,seval];simp only[vx,T,seval,QV,QC,tV,tC,eV,aa,qC,X0];refine Cg c ?_;simp only[vx,T,seval,QV,QC,tV,tC,eV,aa,qC,X0];refine fP.aA ⟨.cell (.rows rfl fun i j hi _=>.of_eq ?_),.refl _,trivial⟩;obtain rfl:i=0:=by omega
  rw[Nat.zero_mul,Nat.zero_add];rfl
theorem On {X h:Nat}(hX1:1≤X)(hX:X≤2^30){t:List El}{a:El}(W:x6 X (h+1) t)(ha:a.length=2^(h+1))(hs:gT X (h+1) t a)(hsn:bo (h+1) t a<0):Pr prog 108 [tV (h+1) t,eV a] (.aA [.one .nil,.one (.bool false)]):=by
 have sg:=lA hX1 hX W ha hs;obtain⟨sgn',hsg⟩:∃s,s=bo (h+1) t a:=⟨_,rfl⟩;rw[←hsg]at sg hsn;refine pw func108 ⟨[0,1,4,5,6,7,8,9,10,11,12,13,14,15,16,17,19,20,21,22,23,24,25,26,27,28,32,46,70,77,96,120,125,140],[(7,.nil),(9,.nil)]⟩ ?_;simp only[Tryz.f108,ntmps108,iz,seval];simp only[vx,T,seval,tV,tC,eV,aa];refine⟨fun h=>absurd h (by omega),fun _=>Lg ?_⟩;simp only[vx,T,seval,tV,tC,eV,aa];refine Cg sg ?_;simp only[vx,T,seval,tV,tC,eV,aa];refine⟨fun _=>Lg ?_,fun h=>absurd hsn h⟩;simp only[vx,T,seval,tV,tC,eV,aa];exact Ve rfl
theorem N7 {X h:Nat}(hX1:1≤X)(hX:X≤2^30){t:List El}{a w:El}(W:x6 X (h+1) t)(ha:a.length=2^(h+1))(hs:gT X (h+1) t a)(hsn:¬bo (h+1) t a<0)(hv:a.drop (2^h)=zE (2^h))(hw:w.length=2^h)
  (c:Pr prog 108 [tV h t,eV (a.take (2^h))] (.aA [eV w,.one (.bool true)])):
  Pr prog 108 [tV (h+1) t,eV a] (.aA [eV (w++zE (2^h)),.one (.bool true)]):=by
 have W':=W.tq.le (Nat.le_succ h);have h3:=W.tq.h3;have hp:2^h≤8:=Nat.pow_le_pow_right (n:=2) (by decide) (show h≤3 by omega);have sg:=lA hX1 hX W ha hs;have z:=jH (a.drop (2^h)) (by rw[ag ha];omega);have o0:=bc 0 (by decide) (by decide);have fz:=(dP (h:=h) (t:=t) (by omega) (Rat.ofInt 0)).rows;rw[Bg]at fz;have lz:(zE (2^h)).length=2^h:=au;rw[decide_eq_true (by rw[ag ha];exact hv)]at z;have hn:(2^h:Nat)≤a.length:=by rw[ha,Nat.pow_succ];omega
 have cT:=fk hn;have cD:=eQ (a:=a) (n:=2^h);have z:=z.args (xs:=[.one (a9 a (2^h))]) ⟨.cell cD,trivial⟩;have k:=AX w (zE (2^h)) (by rw[hw,lz];omega);have c:=c.args (xs:=[tV h t,.one (bf a (2^h))]) ⟨.refl _,.cell cT,trivial⟩;obtain⟨n,hnn⟩:∃n,n=2^h:=⟨_,rfl⟩;have ha2:a.length=2*n:=by rw[ha,Nat.pow_succ,hnn];omega
 have w1:IntKind.i64.wrap (((h+1:Nat):Int)-1)=(h:Int):=by rw[IntWalk.i64_in _ (by omega)];omega
 have hn8:n≤8:=by omega
 have w2:IntKind.i64.wrap (((a.length:Nat):Int).tdiv 2)=(n:Int):=by
  rw[ha2,Int.tdiv_eq_ediv_of_nonneg (by omega),IntWalk.i64_in _ (by omega)];omega
 have w4:((a.length:Int)-(n:Int)).toNat=a.length-n:=by omega
 obtain⟨sgn',hsg⟩:∃s,s=bo (h+1) t a:=⟨_,rfl⟩;obtain⟨r,hrr⟩:∃r,r=t.getD h []:=⟨_,rfl⟩;obtain⟨zn,hzn⟩:∃z,z=zE (2^h):=⟨_,rfl⟩;rw[←hzn]at fz lz;rw[←hsg]at sg hsn;rw[←hzn]at k⊢;rw[←hnn]at z c hp lz hw;clear hv hnn hzn cT cD hn ha hs W W';refine pw func108 ⟨[0,1,4,5,6,7,8,9,10,11,12,13,14,15,16,17,19,20,21,22,23,24,25,26,27,28,32,46,70,77,96,120,125,140],[(7,.nil),(9,.nil)]⟩ ?_;simp only[Tryz.f108,ntmps108,iz,seval];simp only[vx,T,seval,tV,tC,eV,aa,bf,a9,QV,QC,GC,w1,w2,w4,←hrr];refine⟨fun h=>absurd h (by omega),fun _=>Lg ?_⟩;simp only[vx,T,seval,tV,tC,eV,aa,bf,a9,QV,QC,GC,w1,w2,w4,←hrr];refine Cg sg ?_;simp only[vx,T,seval,tV,tC,eV,aa,bf,a9,QV,QC,GC,w1,w2,w4,←hrr];refine⟨fun h=>absurd h (by omega),fun _=>Lg ?_⟩;simp only[vx,T,seval,tV,tC,eV,aa,bf,a9,QV,QC,GC,w1,w2,w4,←hrr];refine⟨⟨by omega,by omega⟩,⟨by omega,by omega⟩,⟨by omega,by omega⟩,⟨by omega,by omega,by omega⟩,Cg o0 ?_⟩;simp only[vx,T,seval,tV,tC,eV,aa,bf,a9,QV,QC,GC,w1,w2,w4,←hrr];refine Cg fz ?_;simp only[vx,T,seval,tV,tC,eV,aa,bf,a9,QV,QC,GC,w1,w2,w4,←hrr];refine Cg z ?_;simp only[vx,T,seval,tV,tC,eV,aa,bf,a9,QV,QC,GC,w1,w2,w4,←hrr];refine Cg c ?_;simp only[vx,T,seval,tV,tC,eV,aa,bf,a9,QV,QC,GC,w1,w2,w4,←hrr];refine Cg k ?_;simp only[vx,T,seval,tV,tC,eV,aa,bf,a9,QV,QC,GC,w1,w2,w4,←hrr];exact Ve rfl
theorem MW {X h:Nat}(hX1:1≤X)(hX:X≤2^30){t:List El}{a i w:El}(W:x6 X (h+1) t)(ha:a.length=2^(h+1))(hs:gT X (h+1) t a)(hsn:¬bo (h+1) t a<0)(hv:a.drop (2^h)=zE (2^h)){l:List (Nat→C)}(D':Rd h t)(hw:w.length=2^h)
  (c:Pr prog 108 [tV h t,eV (a.take (2^h))] (.aA [.one (GC l),.one (.bool false)])) (hr:lS X h t (t.getD h [])) (hi:cA h t (t.getD h [])=some i) (qi:QB X i)
  (c2:Pr prog 108 [tV h t,eV (ai h t (a.take (2^h)) i)] (.aA [eV w,.one (.bool true)])):
  Pr prog 108 [tV (h+1) t,eV a] (.aA [eV (zE (2^h)++w),.one (.bool true)]):=by
 have W':=W.tq.le (Nat.le_succ h);have h3:=W.tq.h3;have hp:2^h≤8:=Nat.pow_le_pow_right (n:=2) (by decide) (show h≤3 by omega);have sg:=lA hX1 hX W ha hs;have z:=jH (a.drop (2^h)) (by rw[ag ha];omega);have o0:=bc 0 (by decide) (by decide);have fz:=(dP (h:=h) (t:=t) (by omega) (Rat.ofInt 0)).rows;rw[Bg]at fz;have lz:(zE (2^h)).length=2^h:=au;rw[decide_eq_true (by rw[ag ha];exact hv)]at z;have hn:(2^h:Nat)≤a.length:=by rw[ha,Nat.pow_succ];omega
 have cT:=fk hn;have cD:=eQ (a:=a) (n:=2^h);have z:=z.args (xs:=[.one (a9 a (2^h))]) ⟨.cell cD,trivial⟩;have k:=AX (zE (2^h)) w (by rw[hw,lz];omega);have c:=c.args (xs:=[tV h t,.one (bf a (2^h))]) ⟨.refl _,.cell cT,trivial⟩;have lr:=W.tq.tk.len h (by omega);have li:=Go.Proofs.YtgcmkdgpaibpeaaGreat.ji hi;have iv:=((vH hX1 hX W' D' lr hr).1 i hi).rows;have m:=(fN fS W'.tk W'.q hX1 hX1 (ah ha) li (hs.qb.take _) qi (lv (h:=h) (S:=X+X) (by omega) (by omega))).rows;have m:=m.args (xs:=[tV h t,.one (bf a (2^h)),eV i]) ⟨.refl _,.cell cT,.refl _,trivial⟩;obtain⟨y,hy⟩:∃y,y=ai h t (a.take (2^h)) i:=⟨_,rfl⟩;rw[←hy]at m c2;obtain⟨n,hnn⟩:∃n,n=2^h:=⟨_,rfl⟩;have ha2:a.length=2*n:=by rw[ha,Nat.pow_succ,hnn];omega
 have w1:IntKind.i64.wrap (((h+1:Nat):Int)-1)=(h:Int):=by rw[IntWalk.i64_in _ (by omega)];omega
 have hn8:n≤8:=by omega
 have w2:IntKind.i64.wrap (((a.length:Nat):Int).tdiv 2)=(n:Int):=by
  rw[ha2,Int.tdiv_eq_ediv_of_nonneg (by omega),IntWalk.i64_in _ (by omega)];omega
 have w4:((a.length:Int)-(n:Int)).toNat=a.length-n:=by omega
 obtain⟨sgn',hsg⟩:∃s,s=bo (h+1) t a:=⟨_,rfl⟩;obtain⟨r,hrr⟩:∃r,r=t.getD h []:=⟨_,rfl⟩;obtain⟨zn,hzn⟩:∃z,z=zE (2^h):=⟨_,rfl⟩;rw[←hzn]at fz lz;rw[←hsg]at sg hsn;rw[←hzn]at k⊢;rw[←hrr]at iv;rw[←hnn]at z c m hp lz hw;clear hv hnn hzn cT cD hn ha hs W W' hr hi qi lr li hy;refine pw func108 ⟨[0,1,4,5,6,7,8,9,10,11,12,13,14,15,16,17,19,20,21,22,23,24,25,26,27,28,32,46,70,77,96,120,125,140],[(7,.nil),(9,.nil)]⟩ ?_;simp only[Tryz.f108,ntmps108,iz,seval];simp only[vx,T,seval,tV,tC,eV,aa,bf,a9,QV,QC,GC,w1,w2,w4,←hrr];refine⟨fun h=>absurd h (by omega),fun _=>Lg ?_⟩;simp only[vx,T,seval,tV,tC,eV,aa,bf,a9,QV,QC,GC,w1,w2,w4,←hrr];refine Cg sg ?_;simp only[vx,T,seval,tV,tC,eV,aa,bf,a9,QV,QC,GC,w1,w2,w4,←hrr];refine⟨fun h=>absurd h (by omega),fun _=>Lg ?_⟩;simp only[vx,T,seval,tV,tC,eV,aa,bf,a9,QV,QC,GC,w1,w2,w4,←hrr];refine⟨⟨by omega,by omega⟩,⟨by omega,by omega⟩,⟨by omega,by omega⟩,⟨by omega,by omega,by omega⟩,Cg o0 ?_⟩;simp only[vx,T,seval,tV,tC,eV,aa,bf,a9,QV,QC,GC,w1,w2,w4,←hrr];refine Cg fz ?_;simp only[vx,T,seval,tV,tC,eV,aa,bf,a9,QV,QC,GC,w1,w2,w4,←hrr];refine Cg z ?_;simp only[vx,T,seval,tV,tC,eV,aa,bf,a9,QV,QC,GC,w1,w2,w4,←hrr];refine Cg c ?_;simp only[vx,T,seval,tV,tC,eV,aa,bf,a9,QV,QC,GC,w1,w2,w4,←hrr];refine Cg iv ?_;simp only[vx,T,seval,tV,tC,eV,aa,bf,a9,QV,QC,GC,w1,w2,w4,←hrr];refine Cg m ?_;simp only[vx,T,seval,tV,tC,eV,aa,bf,a9,QV,QC,GC,w1,w2,w4,←hrr];refine Cg c2 ?_;simp only[vx,T,seval,tV,tC,eV,aa,bf,a9,QV,QC,GC,w1,w2,w4,←hrr];refine Cg k ?_;simp only[vx,T,seval,tV,tC,eV,aa,bf,a9,QV,QC,GC,w1,w2,w4,←hrr];exact Ve rfl
theorem Mn {X h:Nat}(hX1:1≤X)(hX:X≤2^30){t:List El}{a i:El}(W:x6 X (h+1) t)(ha:a.length=2^(h+1))(hs:gT X (h+1) t a)(hsn:¬bo (h+1) t a<0)(hv:a.drop (2^h)=zE (2^h)){l p:List (Nat→C)}(D':Rd h t)
  (c:Pr prog 108 [tV h t,eV (a.take (2^h))] (.aA [.one (GC l),.one (.bool false)])) (hr:lS X h t (t.getD h [])) (hi:cA h t (t.getD h [])=some i) (qi:QB X i)
  (c2:Pr prog 108 [tV h t,eV (ai h t (a.take (2^h)) i)] (.aA [.one (GC p),.one (.bool false)])):
  Pr prog 108 [tV (h+1) t,eV a] (.aA [.one .nil,.one (.bool false)]):=by
 have W':=W.tq.le (Nat.le_succ h);have h3:=W.tq.h3;have hp:2^h≤8:=Nat.pow_le_pow_right (n:=2) (by decide) (show h≤3 by omega);have sg:=lA hX1 hX W ha hs;have z:=jH (a.drop (2^h)) (by rw[ag ha];omega);have o0:=bc 0 (by decide) (by decide);have fz:=(dP (h:=h) (t:=t) (by omega) (Rat.ofInt 0)).rows;rw[Bg]at fz;have lz:(zE (2^h)).length=2^h:=au;rw[decide_eq_true (by rw[ag ha];exact hv)]at z;have hn:(2^h:Nat)≤a.length:=by rw[ha,Nat.pow_succ];omega
 have cT:=fk hn;have cD:=eQ (a:=a) (n:=2^h);have z:=z.args (xs:=[.one (a9 a (2^h))]) ⟨.cell cD,trivial⟩;have c:=c.args (xs:=[tV h t,.one (bf a (2^h))]) ⟨.refl _,.cell cT,trivial⟩;have lr:=W.tq.tk.len h (by omega);have li:=Go.Proofs.YtgcmkdgpaibpeaaGreat.ji hi;have iv:=((vH hX1 hX W' D' lr hr).1 i hi).rows;have m:=(fN fS W'.tk W'.q hX1 hX1 (ah ha) li (hs.qb.take _) qi (lv (h:=h) (S:=X+X) (by omega) (by omega))).rows;have m:=m.args (xs:=[tV h t,.one (bf a (2^h)),eV i]) ⟨.refl _,.cell cT,.refl _,trivial⟩;obtain⟨y,hy⟩:∃y,y=ai h t (a.take (2^h)) i:=⟨_,rfl⟩;rw[←hy]at m c2;obtain⟨n,hnn⟩:∃n,n=2^h:=⟨_,rfl⟩;have ha2:a.length=2*n:=by rw[ha,Nat.pow_succ,hnn];omega
 have w1:IntKind.i64.wrap (((h+1:Nat):Int)-1)=(h:Int):=by rw[IntWalk.i64_in _ (by omega)];omega
 have hn8:n≤8:=by omega
 have w2:IntKind.i64.wrap (((a.length:Nat):Int).tdiv 2)=(n:Int):=by
  rw[ha2,Int.tdiv_eq_ediv_of_nonneg (by omega),IntWalk.i64_in _ (by omega)];omega
 have w4:((a.length:Int)-(n:Int)).toNat=a.length-n:=by omega
 obtain⟨sgn',hsg⟩:∃s,s=bo (h+1) t a:=⟨_,rfl⟩;obtain⟨r,hrr⟩:∃r,r=t.getD h []:=⟨_,rfl⟩;obtain⟨zn,hzn⟩:∃z,z=zE (2^h):=⟨_,rfl⟩;rw[←hzn]at fz lz;rw[←hsg]at sg hsn;rw[←hrr]at iv;rw[←hnn]at z c m hp lz;clear hv hnn hzn cT cD hn ha hs W W' hr hi qi lr li hy;refine pw func108 ⟨[0,1,4,5,6,7,8,9,10,11,12,13,14,15,16,17,19,20,21,22,23,24,25,26,27,28,32,46,70,77,96,120,125,140],[(7,.nil),(9,.nil)]⟩ ?_;simp only[Tryz.f108,ntmps108,iz,seval];simp only[vx,T,seval,tV,tC,eV,aa,bf,a9,QV,QC,GC,w1,w2,w4,←hrr];refine⟨fun h=>absurd h (by omega),fun _=>Lg ?_⟩;simp only[vx,T,seval,tV,tC,eV,aa,bf,a9,QV,QC,GC,w1,w2,w4,←hrr];refine Cg sg ?_;simp only[vx,T,seval,tV,tC,eV,aa,bf,a9,QV,QC,GC,w1,w2,w4,←hrr];refine⟨fun h=>absurd h (by omega),fun _=>Lg ?_⟩;simp only[vx,T,seval,tV,tC,eV,aa,bf,a9,QV,QC,GC,w1,w2,w4,←hrr];refine⟨⟨by omega,by omega⟩,⟨by omega,by omega⟩,⟨by omega,by omega⟩,⟨by omega,by omega,by omega⟩,Cg o0 ?_⟩;simp only[vx,T,seval,tV,tC,eV,aa,bf,a9,QV,QC,GC,w1,w2,w4,←hrr];refine Cg fz ?_;simp only[vx,T,seval,tV,tC,eV,aa,bf,a9,QV,QC,GC,w1,w2,w4,←hrr];refine Cg z ?_;simp only[vx,T,seval,tV,tC,eV,aa,bf,a9,QV,QC,GC,w1,w2,w4,←hrr];refine Cg c ?_;simp only[vx,T,seval,tV,tC,eV,aa,bf,a9,QV,QC,GC,w1,w2,w4,←hrr];refine Cg iv ?_;simp only[vx,T,seval,tV,tC,eV,aa,bf,a9,QV,QC,GC,w1,w2,w4,←hrr];refine Cg m ?_;simp only[vx,T,seval,tV,tC,eV,aa,bf,a9,QV,QC,GC,w1,w2,w4,←hrr];refine Cg c2 ?_;simp only[vx,T,seval,tV,tC,eV,aa,bf,a9,QV,QC,GC,w1,w2,w4,←hrr];exact Ve rfl
theorem N9 {X h:Nat}(hX1:1≤X)(hX:X≤2^30){t:List El}{a:El}(W:x6 X (h+1) t)(ha:a.length=2^(h+1))(hs:gT X (h+1) t a)(hsn:¬bo (h+1) t a<0)(hv:a.drop (2^h)≠zE (2^h)){l:List (Nat→C)}
  (c:Pr prog 108 [tV h t,eV (aO h t a)] (.aA [.one (GC l),.one (.bool false)])):
  Pr prog 108 [tV (h+1) t,eV a] (.aA [.one .nil,.one (.bool false)]):=by
 have W':=W.tq.le (Nat.le_succ h);have h3:=W.tq.h3;have hp:2^h≤8:=Nat.pow_le_pow_right (n:=2) (by decide) (show h≤3 by omega);have sg:=lA hX1 hX W ha hs;have z:=jH (a.drop (2^h)) (by rw[ag ha];omega);have o0:=bc 0 (by decide) (by decide);have fz:=(dP (h:=h) (t:=t) (by omega) (Rat.ofInt 0)).rows;rw[Bg]at fz;have lz:(zE (2^h)).length=2^h:=au;rw[decide_eq_false (by rw[ag ha];exact hv)]at z;have hn:(2^h:Nat)≤a.length:=by rw[ha,Nat.pow_succ];omega
 have cT:=fk hn;have cD:=eQ (a:=a) (n:=2^h);have z:=z.args (xs:=[.one (a9 a (2^h))]) ⟨.cell cD,trivial⟩;have W'q:=W'.q;have hr0:=W.tq.tk.len h (by omega);have hrq:=W.tq.q h (by omega);have btB:tB=32769:=rfl;have la1:=ah ha;have la2:=ag ha;have b1:=kb (h:=h) (S:=X+X) (by omega);have b2:=kb (h:=h) (S:=tB+mS h (X+X) tB) (by omega);have hge:=Go.Tw.gV (h:=h) (S:=X+X) (C:=tB);have g1:=QB.mul fS W'q hX1 hX1 (hs.qb.take (2^h)) (hs.qb.take (2^h));have g2:=QB.mul fS W'q hX1 hX1 (hs.qb.drop (2^h)) (hs.qb.drop (2^h));have g3:=QB.mul fS W'q fS (by omega) hrq g2;have q1:mS h (X+X) tB<2^38:=by omega
 have q2:mS h (tB+mS h (X+X) tB) tB<2^38:=by omega
 have q3:1≤mS h (X+X) tB:=by omega
 have m1:=(fN fS W'.tk W'q hX1 hX1 la1 la1 (hs.qb.take _) (hs.qb.take _) q1).rows;have m2:=(fN fS W'.tk W'q hX1 hX1 la2 la2 (hs.qb.drop _) (hs.qb.drop _) q1).rows;have m3:=(fN fS W'.tk W'q fS q3 hr0 ae hrq g2 q2).rows;have sb:=(HV (h:=h) (t:=t) _ _ (by rw[ae];omega) (by rw[ae,ae]) (Qk.of g1 q1) (Qk.of g3 q2)).rows;rw[Go.Tw.nC]at sb;have m1:=m1.args (xs:=[tV h t,.one (bf a (2^h)),.one (bf a (2^h))]) ⟨.refl _,.cell cT,.cell cT,trivial⟩;have m2:=m2.args (xs:=[tV h t,.one (a9 a (2^h)),.one (a9 a (2^h))]) ⟨.refl _,.cell cD,.cell cD,trivial⟩;obtain⟨e,he⟩:∃e,e=aO h t a:=⟨_,rfl⟩;obtain⟨p1,hp1⟩:∃p,p=ai h t (a.take (2^h)) (a.take (2^h)):=⟨_,rfl⟩;obtain⟨p2,hp2⟩:∃p,p=ai h t (a.drop (2^h)) (a.drop (2^h)):=⟨_,rfl⟩;rw[←he]at sb c;rw[←hp1]at m1 sb;rw[←hp2]at m2 m3 sb;obtain⟨p3,hp3⟩:∃p,p=ai h t (t.getD h []) p2:=⟨_,rfl⟩;rw[←hp3]at m3 sb;obtain⟨n,hnn⟩:∃n,n=2^h:=⟨_,rfl⟩;have ha2:a.length=2*n:=by rw[ha,Nat.pow_succ,hnn];omega
 have w1:IntKind.i64.wrap (((h+1:Nat):Int)-1)=(h:Int):=by rw[IntWalk.i64_in _ (by omega)];omega
 have hn8:n≤8:=by omega
 have w2:IntKind.i64.wrap (((a.length:Nat):Int).tdiv 2)=(n:Int):=by
  rw[ha2,Int.tdiv_eq_ediv_of_nonneg (by omega),IntWalk.i64_in _ (by omega)];omega
 have w4:((a.length:Int)-(n:Int)).toNat=a.length-n:=by omega
 obtain⟨sgn',hsg⟩:∃s,s=bo (h+1) t a:=⟨_,rfl⟩;obtain⟨r,hrr⟩:∃r,r=t.getD h []:=⟨_,rfl⟩;obtain⟨zn,hzn⟩:∃z,z=zE (2^h):=⟨_,rfl⟩;rw[←hzn]at fz lz;rw[←hsg]at sg hsn;rw[←hrr]at m3;rw[←hnn]at z m1 m2 hp lz;clear hv hnn hzn cT cD hn ha hs W W' W'q hr0 hrq la1 la2 b1 b2 hge g1 g2 g3 q1 q2 q3 he hp1 hp2 hp3;refine pw func108 ⟨[0,1,4,5,6,7,8,9,10,11,12,13,14,15,16,17,19,20,21,22,23,24,25,26,27,28,32,46,70,77,96,120,125,140],[(7,.nil),(9,.nil)]⟩ ?_;simp only[Tryz.f108,ntmps108,iz,seval];simp only[vx,T,seval,tV,tC,eV,aa,bf,a9,QV,QC,GC,w1,w2,w4,←hrr];refine⟨fun h=>absurd h (by omega),fun _=>Lg ?_⟩;simp only[vx,T,seval,tV,tC,eV,aa,bf,a9,QV,QC,GC,w1,w2,w4,←hrr];refine Cg sg ?_;simp only[vx,T,seval,tV,tC,eV,aa,bf,a9,QV,QC,GC,w1,w2,w4,←hrr];refine⟨fun h=>absurd h (by omega),fun _=>Lg ?_⟩;simp only[vx,T,seval,tV,tC,eV,aa,bf,a9,QV,QC,GC,w1,w2,w4,←hrr];refine⟨⟨by omega,by omega⟩,⟨by omega,by omega⟩,⟨by omega,by omega⟩,⟨by omega,by omega,by omega⟩,Cg o0 ?_⟩;simp only[vx,T,seval,tV,tC,eV,aa,bf,a9,QV,QC,GC,w1,w2,w4,←hrr];refine Cg fz ?_;simp only[vx,T,seval,tV,tC,eV,aa,bf,a9,QV,QC,GC,w1,w2,w4,←hrr];refine Cg z ?_;simp only[vx,T,seval,tV,tC,eV,aa,bf,a9,QV,QC,GC,w1,w2,w4,←hrr];refine Cg m1 ?_;simp only[vx,T,seval,tV,tC,eV,aa,bf,a9,QV,QC,GC,w1,w2,w4,←hrr];refine Cg m2 ?_;simp only[vx,T,seval,tV,tC,eV,aa,bf,a9,QV,QC,GC,w1,w2,w4,←hrr];refine Cg m3 ?_;simp only[vx,T,seval,tV,tC,eV,aa,bf,a9,QV,QC,GC,w1,w2,w4,←hrr];refine Cg sb ?_;simp only[vx,T,seval,tV,tC,eV,aa,bf,a9,QV,QC,GC,w1,w2,w4,←hrr];refine Cg c ?_;simp only[vx,T,seval,tV,tC,eV,aa,bf,a9,QV,QC,GC,w1,w2,w4,←hrr];exact Ve rfl
def mE (m:El):Nat→El
 |0=>m
 |j+1=>aJ (mE m j)
theorem H2 {m:El}{n:Nat}(h:m.length=n):∀j,(mE m j).length=n
 |0=>h
 |j+1=>by rw[mE,ar];exact H2 h j
theorem L7 {X:Nat}{m:El}(h:QB X m):∀j,QB X (mE m j)
 |0=>h
 |j+1=>(L7 h j).neg
theorem A7 {X h:Nat}(hX1:1≤X)(hX:X≤2^30){t:List El}{a m w i:El}(W:x6 X (h+1) t)(ha:a.length=2^(h+1))(hs:gT X (h+1) t a)(hsn:¬bo (h+1) t a<0)(hv:a.drop (2^h)≠zE (2^h))(D':Rd h t){k:Nat}{r:V}(hk:k≤2)
  (c:Pr prog 108 [tV h t,eV (aO h t a)] (.aA [eV m,.one (.bool true)])) (lm:m.length=2^h) (qm:QB X m) (qx:∀j,j<2→QB X (aC (a.take (2^h)) (mE m j)))
  (no:∀j,j<k→∃l:List (Nat→C),Pr prog 108 [tV h t,eV (ai h t (aX h (mkRat 1 2)) (aC (a.take (2^h)) (mE m j)))] (.aA [.one (GC l),.one (.bool false)]))
  (yes:k<2→r= .aA [eV (w++ai h t (aX h (mkRat 1 2)) (ai h t (a.drop (2^h)) i)),.one (.bool true)]∧w.length=2^h∧lS X h t w∧cA h t w=some i∧QB X i∧QB X (ai h t (a.drop (2^h)) i)∧
   Pr prog 108 [tV h t,eV (ai h t (aX h (mkRat 1 2)) (aC (a.take (2^h)) (mE m k)))] (.aA [eV w,.one (.bool true)]))
  (fin:k=2→r= .aA [.one .nil,.one (.bool false)]):
  Pr prog 108 [tV (h+1) t,eV a] r:=by
 have W':=W.tq.le (Nat.le_succ h);have h3:=W.tq.h3;have hp:2^h≤8:=Nat.pow_le_pow_right (n:=2) (by decide) (show h≤3 by omega);have sg:=lA hX1 hX W ha hs;have z:=jH (a.drop (2^h)) (by rw[ag ha];omega);have o0:=bc 0 (by decide) (by decide);have fz:=(dP (h:=h) (t:=t) (by omega) (Rat.ofInt 0)).rows;rw[Bg]at fz;have lz:(zE (2^h)).length=2^h:=au;rw[decide_eq_false (by rw[ag ha];exact hv)]at z;have hn:(2^h:Nat)≤a.length:=by rw[ha,Nat.pow_succ];omega
 have cT:=fk hn;have cD:=eQ (a:=a) (n:=2^h);have z:=z.args (xs:=[.one (a9 a (2^h))]) ⟨.cell cD,trivial⟩;have W'q:=W'.q;have hr0:=W.tq.tk.len h (by omega);have hrq:=W.tq.q h (by omega);have btB:tB=32769:=rfl;have la1:=ah ha;have la2:=ag ha;have b1:=kb (h:=h) (S:=X+X) (by omega);have b2:=kb (h:=h) (S:=tB+mS h (X+X) tB) (by omega);have hge:=Go.Tw.gV (h:=h) (S:=X+X) (C:=tB);have g1:=QB.mul fS W'q hX1 hX1 (hs.qb.take (2^h)) (hs.qb.take (2^h));have g2:=QB.mul fS W'q hX1 hX1 (hs.qb.drop (2^h)) (hs.qb.drop (2^h));have g3:=QB.mul fS W'q fS (by omega) hrq g2;have q1:mS h (X+X) tB<2^38:=by omega
 have q2:mS h (tB+mS h (X+X) tB) tB<2^38:=by omega
 have q3:1≤mS h (X+X) tB:=by omega
 have m1:=(fN fS W'.tk W'q hX1 hX1 la1 la1 (hs.qb.take _) (hs.qb.take _) q1).rows;have m2:=(fN fS W'.tk W'q hX1 hX1 la2 la2 (hs.qb.drop _) (hs.qb.drop _) q1).rows;have m3:=(fN fS W'.tk W'q fS q3 hr0 ae hrq g2 q2).rows;have sb:=(HV (h:=h) (t:=t) _ _ (by rw[ae];omega) (by rw[ae,ae]) (Qk.of g1 q1) (Qk.of g3 q2)).rows;rw[Go.Tw.nC]at sb;have m1:=m1.args (xs:=[tV h t,.one (bf a (2^h)),.one (bf a (2^h))]) ⟨.refl _,.cell cT,.cell cT,trivial⟩;have m2:=m2.args (xs:=[tV h t,.one (a9 a (2^h)),.one (a9 a (2^h))]) ⟨.refl _,.cell cD,.cell cD,trivial⟩;obtain⟨e,he⟩:∃e,e=aO h t a:=⟨_,rfl⟩;obtain⟨p1,hp1⟩:∃p,p=ai h t (a.take (2^h)) (a.take (2^h)):=⟨_,rfl⟩;obtain⟨p2,hp2⟩:∃p,p=ai h t (a.drop (2^h)) (a.drop (2^h)):=⟨_,rfl⟩;rw[←he]at sb c;rw[←hp1]at m1 sb;rw[←hp2]at m2 m3 sb;obtain⟨p3,hp3⟩:∃p,p=ai h t (t.getD h []) p2:=⟨_,rfl⟩;rw[←hp3]at m3 sb;have fr:=oz 1 2 (by decide) (by decide) (by decide) (by decide+kernel) (by decide+kernel);have hf:=(dP (h:=h) (t:=t) (by omega) (mkRat 1 2)).rows;have qh:QB 8 (aX h (mkRat 1 2)):=It (by decide+kernel) (by decide+kernel);have lh:(aX h (mkRat 1 2)).length=2^h:=aG;have lmj:=H2 lm;have qmj:=L7 qm;have ad:∀j,Pr prog 80 [tV h t,.one (bf a (2^h)),eV (mE m j)] (eV (aC (a.take (2^h)) (mE m j))):=fun j=>
  (sU (h:=h) (t:=t) (a.take (2^h)) (mE m j) (by rw[la1];omega) (by rw[la1,lmj j]) (.of (hs.qb.take _) (by omega)) (.of (qmj j) (by omega))).rows.args ⟨.refl _,.cell cT,.refl _,trivial⟩
 have b8:=lv (h:=h) (S:=8+X) (by omega) (by omega);have mh:∀j,j<2→Pr prog 44 [tV h t,eV (aX h (mkRat 1 2)),eV (aC (a.take (2^h)) (mE m j))] (eV (ai h t (aX h (mkRat 1 2)) (aC (a.take (2^h)) (mE m j)))):=fun j hj=>
  (fN fS W'.tk W'q (by decide) hX1 lh (ao la1 (lmj j)) qh (qx j hj) b8).rows
 have ng:∀j,Pr prog 90 [tV h t,eV (mE m j)] (eV (mE m (j+1))):=fun j=>
  (yY (h:=h) (t:=t) (mE m j) (by rw[lmj j];omega) (.of (qmj j) (by omega))).rows
 have fn:k<2→∃g,g=ai h t (a.drop (2^h)) i∧Pr prog 88 [tV h t,eV w] (.aA [eV i,.one (.int .i64 0)])∧Pr prog 44 [tV h t,.one (a9 a (2^h)),eV i] (eV g)∧
   Pr prog 44 [tV h t,eV (aX h (mkRat 1 2)),eV g] (eV (ai h t (aX h (mkRat 1 2)) g))∧Pr prog 151 [eV w,eV (ai h t (aX h (mkRat 1 2)) g)] (eV (w++ai h t (aX h (mkRat 1 2)) g)):=fun hk2=>by
  obtain⟨_,lw,iw,hi,qi,qg,_⟩:=yes hk2;have li:=Go.Proofs.YtgcmkdgpaibpeaaGreat.ji hi;refine⟨_,rfl,((vH hX1 hX W' D' lw iw).1 i hi).rows,?_,(fN fS W'.tk W'q (by decide) hX1 lh ae qh qg b8).rows,AX _ _ (by rw[lw,ae];omega)⟩;exact(fN fS W'.tk W'q hX1 hX1 la2 li (hs.qb.drop _) qi (lv (h:=h) (S:=X+X) (by omega) (by omega))).rows.args ⟨.refl _,.cell cD,.refl _,trivial⟩
 have yes:k<2→∃g,r= .aA [eV (w++ai h t (aX h (mkRat 1 2)) g),.one (.bool true)]∧Pr prog 108 [tV h t,eV (ai h t (aX h (mkRat 1 2)) (aC (a.take (2^h)) (mE m k)))] (.aA [eV w,.one (.bool true)])∧
   Pr prog 88 [tV h t,eV w] (.aA [eV i,.one (.int .i64 0)])∧Pr prog 44 [tV h t,.one (a9 a (2^h)),eV i] (eV g)∧
   Pr prog 44 [tV h t,eV (aX h (mkRat 1 2)),eV g] (eV (ai h t (aX h (mkRat 1 2)) g))∧Pr prog 151 [eV w,eV (ai h t (aX h (mkRat 1 2)) g)] (eV (w++ai h t (aX h (mkRat 1 2)) g)):=fun hk2=>by
  obtain⟨g,hg,f1,f2,f3,f4⟩:=fn hk2;obtain⟨y1,_,_,_,_,_,y2⟩:=yes hk2;exact⟨g,by rw[hg];exact y1,y2,f1,f2,f3,f4⟩
 obtain⟨two,htwo⟩:∃x,x=aX h (mkRat 1 2):=⟨_,rfl⟩;obtain⟨u,hu⟩:∃u,u=a.take (2^h):=⟨_,rfl⟩;rw[←htwo]at hf mh no yes;rw[←hu]at ad mh no yes;obtain⟨n,hnn⟩:∃n,n=2^h:=⟨_,rfl⟩;have ha2:a.length=2*n:=by rw[ha,Nat.pow_succ,hnn];omega
 have w1:IntKind.i64.wrap (((h+1:Nat):Int)-1)=(h:Int):=by rw[IntWalk.i64_in _ (by omega)];omega
 have hn8:n≤8:=by omega
 have w2:IntKind.i64.wrap (((a.length:Nat):Int).tdiv 2)=(n:Int):=by
  rw[ha2,Int.tdiv_eq_ediv_of_nonneg (by omega),IntWalk.i64_in _ (by omega)];omega
 have w4:((a.length:Int)-(n:Int)).toNat=a.length-n:=by omega
 obtain⟨sgn',hsg⟩:∃s,s=bo (h+1) t a:=⟨_,rfl⟩;obtain⟨r0,hrr⟩:∃r,r=t.getD h []:=⟨_,rfl⟩;obtain⟨zn,hzn⟩:∃z,z=zE (2^h):=⟨_,rfl⟩;rw[←hzn]at fz lz;rw[←hsg]at sg hsn;rw[←hrr]at m3;rw[←hnn]at z m1 m2 hp lz ad yes;clear hv hnn hzn cT cD hn ha hs W W' W'q hr0 hrq la1 la2 b1 b2 hge g1 g2 g3 q1 q2 q3 he hp1 hp2 hp3 fn qh lh lmj qmj b8 D' lm qm qx htwo hu;refine pw func108 ⟨[0,1,4,5,6,7,8,9,10,11,12,13,14,15,16,17,19,20,21,22,23,24,25,26,27,28,32,46,70,77,96,120,125,140],[(7,.nil),(9,.nil)]⟩ ?_;simp only[Tryz.f108,ntmps108,iz,seval];simp only[vx,T,seval,tV,tC,eV,aa,bf,a9,QV,QC,GC,w1,w2,w4,←hrr];refine⟨fun h=>absurd h (by omega),fun _=>Lg ?_⟩;simp only[vx,T,seval,tV,tC,eV,aa,bf,a9,QV,QC,GC,w1,w2,w4,←hrr];refine Cg sg ?_;simp only[vx,T,seval,tV,tC,eV,aa,bf,a9,QV,QC,GC,w1,w2,w4,←hrr];refine⟨fun h=>absurd h (by omega),fun _=>Lg ?_⟩;simp only[vx,T,seval,tV,tC,eV,aa,bf,a9,QV,QC,GC,w1,w2,w4,←hrr];refine⟨⟨by omega,by omega⟩,⟨by omega,by omega⟩,⟨by omega,by omega⟩,⟨by omega,by omega,by omega⟩,Cg o0 ?_⟩;simp only[vx,T,seval,tV,tC,eV,aa,bf,a9,QV,QC,GC,w1,w2,w4,←hrr];refine Cg fz ?_;simp only[vx,T,seval,tV,tC,eV,aa,bf,a9,QV,QC,GC,w1,w2,w4,←hrr];refine Cg z ?_;simp only[vx,T,seval,tV,tC,eV,aa,bf,a9,QV,QC,GC,w1,w2,w4,←hrr];refine Cg m1 ?_;simp only[vx,T,seval,tV,tC,eV,aa,bf,a9,QV,QC,GC,w1,w2,w4,←hrr];refine Cg m2 ?_;simp only[vx,T,seval,tV,tC,eV,aa,bf,a9,QV,QC,GC,w1,w2,w4,←hrr];refine Cg m3 ?_;simp only[vx,T,seval,tV,tC,eV,aa,bf,a9,QV,QC,GC,w1,w2,w4,←hrr];refine Cg sb ?_;simp only[vx,T,seval,tV,tC,eV,aa,bf,a9,QV,QC,GC,w1,w2,w4,←hrr];refine Cg c ?_;simp only[vx,T,seval,tV,tC,eV,aa,bf,a9,QV,QC,GC,w1,w2,w4,←hrr];refine Cg fr ?_;simp only[vx,T,seval,tV,tC,eV,aa,bf,a9,QV,QC,GC,w1,w2,w4,←hrr];refine Cg hf ?_;simp only[vx,T,seval,tV,tC,eV,aa,bf,a9,QV,QC,GC,w1,w2,w4,←hrr];refine Lk (fun y:{j:Nat//j≤k}=>⟨[(4,.one .nil),(5,.one (.bool false)),(9,tV h t),(12,.one (bf a n)),(13,.one (a9 a n)),(22,eV (mE m y.1)),(24,eV two),(25,.one (.int .i64 y.1))],[],2,159⟩) (fun y=>k-y.1) ⟨0,Nat.zero_le _⟩ ?_ (fun⟨j,hj⟩=>?_)
 ·refine Sa ?_;simp only[ry,seval,rz,tV,tC,eV,aa,bf,a9,mE];exact fun _ _ _ _=>rfl
 simp only;have wi:IntKind.i64.wrap ((j:Int)+1)=((j+1:Nat):Int):=by rw[IntWalk.i64_in _ (by omega)];omega
 simp only[vx,T,seval,tV,tC,eV,aa,bf,a9,QV,QC,GC,w1,w2,w4,←hrr];refine⟨fun g=>Lg ?_,fun g=>Lg ?_⟩
 ·have Od:=ad j;have mhj:=mh j (by omega);have ngj:=ng j;have hnoj:=no j;obtain⟨mj,hmj⟩:∃x,x=mE m j:=⟨_,rfl⟩;obtain⟨mj',hmj'⟩:∃x,x=mE m (j+1):=⟨_,rfl⟩;rw[←hmj,←hmj']at ngj;rw[←hmj]at Od mhj hnoj⊢;obtain⟨x,hx⟩:∃x,x=aC u mj:=⟨_,rfl⟩;rw[←hx]at Od mhj hnoj;obtain⟨y,hy⟩:∃y,y=ai h t two x:=⟨_,rfl⟩;rw[←hy]at mhj hnoj
  by_cases hjk:j<k
  ·obtain⟨l,hl⟩:=hnoj hjk;simp only[vx,T,seval,tV,tC,eV,aa,bf,a9,QV,QC,GC,w1,w2,w4,wi];refine Cg Od ?_;simp only[vx,T,seval,tV,tC,eV,aa,bf,a9,QV,QC,GC,w1,w2,w4,wi];refine Cg mhj ?_;simp only[vx,T,seval,tV,tC,eV,aa,bf,a9,QV,QC,GC,w1,w2,w4,wi];refine Cg hl ?_;simp only[vx,T,seval,tV,tC,eV,aa,bf,a9,QV,QC,GC,w1,w2,w4,wi];refine Cg ngj ?_;simp only[vx,T,seval,tV,tC,eV,aa,bf,a9,QV,QC,GC,w1,w2,w4,wi];refine Lq ⟨j+1,by omega⟩ ?_ (by show k-(j+1)<k-j;omega);refine Sa ?_;simp only[ry,seval,rz,tV,tC,eV,aa,GC,bf,a9,←hmj']
  obtain rfl:j=k:=by omega
  obtain⟨g',hr,y1,y2,y3,y4,y5⟩:=yes (by omega);rw[←hmj,←hx,←hy]at y1;rw[hr];obtain⟨q,hq⟩:∃q,q=ai h t two g':=⟨_,rfl⟩;rw[←hq]at y4 y5⊢;simp only[vx,T,seval,tV,tC,eV,aa,bf,a9,QV,QC,GC,w1,w2,w4,wi];refine Cg Od ?_;simp only[vx,T,seval,tV,tC,eV,aa,bf,a9,QV,QC,GC,w1,w2,w4,wi];refine Cg mhj ?_;simp only[vx,T,seval,tV,tC,eV,aa,bf,a9,QV,QC,GC,w1,w2,w4,wi];refine Cg y1 ?_;simp only[vx,T,seval,tV,tC,eV,aa,bf,a9,QV,QC,GC,w1,w2,w4,wi];refine Cg y2 ?_;simp only[vx,T,seval,tV,tC,eV,aa,bf,a9,QV,QC,GC,w1,w2,w4,wi];refine Cg y3 ?_;simp only[vx,T,seval,tV,tC,eV,aa,bf,a9,QV,QC,GC,w1,w2,w4,wi];refine Cg y4 ?_;simp only[vx,T,seval,tV,tC,eV,aa,bf,a9,QV,QC,GC,w1,w2,w4,wi];refine Cg y5 ?_;simp only[vx,T,seval,tV,tC,eV,aa,bf,a9,QV,QC,GC,w1,w2,w4,wi];exact Ve rfl
 have hk2:k=2:=by omega
 rw[fin hk2];simp only[vx,T,seval,tV,tC,eV,aa,bf,a9,QV,QC,GC,w1,w2,w4,←hrr];exact Ve rfl
open Go Go.Eng
open Go.Tw (El aC aJ zE ai au ar ao ae QB mS ah ag aO aI tB aX aG cA lS kM gT val In Rd nW bo b6 dF Fk TG jK dK)
theorem lW {h:Nat}{t:List El}(x:El):ai h t (aX h (mkRat 1 2)) x=ai h t x (aX h (mkRat 1 2)):=Go.Tw.vU _ _
theorem HK {h:Nat}{t:List El}{a:El}(H:Go.Tw.Rl h t)(ha:a.length=2^h)(hs:bo h t a<0):nW h t (val h t a):=by
 intro z _ e;rw[b6 H ha]at hs;have h1:=R.L6 z;rw[e]at h1
 rcases R.df (val h t a)with⟨k,k2⟩|⟨k,k2⟩|⟨k,k2⟩
 ·omega
 ·omega
 exact h1 k
theorem uj {X:Nat}(hX1:1≤X)(hX:X≤2^30){t:List El}:∀{h:Nat} {a:El},x6 X h t→Rd h t→a.length=2^h→kM X h t a→Kx h t a 108
 |0,a,_,_,ha,hs=>Ed ha (.of hs.qb (by omega))
 |h+1,a,W,D,ha,hs=>by
  have W':=W.le (Nat.le_succ h);have D':=D.le (Nat.le_succ h);have ih:=fun{b:El} (hb:b.length=2^h) (k:kM X h t b)=>uj hX1 hX (a:=b) W' D' hb k;have lz:(zE (2^h)).length=2^h:=au;obtain⟨s1,s2,s3⟩:=hs
  by_cases hsn:bo (h+1) t a<0
  ·exact .inr ⟨HK D.rl ha hsn,[],Nat.zero_le _,EI (On hX1 hX W ha s1 hsn)⟩
  by_cases hv:a.drop (2^h)=zE (2^h)
  ·obtain⟨g1,g2,g3⟩:=s2 hv
   rcases ih (ah ha) g1 with⟨w,lw,ew,cw⟩|⟨n1,l,hl,c⟩
   ·obtain⟨k1,k2⟩:=Go.Tw.yR hv lw ew;exact .inl ⟨_,k1,k2,N7 hX1 hX W ha s1 hsn hv lw cw⟩
   obtain⟨i,hi,_,_⟩:=Go.Tw.jy D' (D.rl h (by omega)).1 (R.kY (D.rl h (by omega)).2);obtain⟨qi,sq⟩:=g3 i hi
   rcases ih ae sq with⟨w,lw,ew,cw⟩|⟨n2,p,hp,c2⟩
   ·obtain⟨k1,k2⟩:=Go.Tw.yZ D.rl ha hv hi lw ew;exact .inl ⟨_,k1,k2,MW hX1 hX W ha s1 hsn hv D' lw c g2 hi qi cw⟩
   exact .inr ⟨Go.Tw.yQ D ha hv hi n1 n2,[],Nat.zero_le _,EI (Mn hX1 hX W ha s1 hsn hv D' c g2 hi qi c2)⟩
  obtain⟨g1,g2⟩:=s3 hv
  rcases ih aI g1 with⟨n,ln,en,cn⟩|⟨n1,l,hl,c⟩
  ·have lm:(aJ n).length=2^h:=by rw[ar,ln]
   have em:val h t (aJ n)*val h t (aJ n)=val h t (aO h t a):=by rw[Go.Tw.val_neg ln,R.neg_mul,R.mul_neg,R.neg_neg,en]
   obtain⟨k1,k2,k3,k4⟩:=g2 n ln en;obtain⟨k1',k2',k3',k4'⟩:=g2 (aJ n) lm em;rw[yE]at k3 k4 k3' k4';have qx:∀j,j<2→QB X (aC (a.take (2^h)) (mE n j)):=fun j hj=>by
    match j,hj with
    |0,_=>exact k2
    |1,_=>exact k2'
   have fin:∀{m w:El},m.length=2^h→val h t m*val h t m=val h t (aO h t a)→w.length=2^h→val h t w*val h t w=val h t (ai h t (aC (a.take (2^h)) m) (aX h (mkRat 1 2)))→
     ∃i,cA h t w=some i∧(w++ai h t (aX h (mkRat 1 2)) (ai h t (a.drop (2^h)) i)).length=2^(h+1)∧
      val (h+1) t (w++ai h t (aX h (mkRat 1 2)) (ai h t (a.drop (2^h)) i))*val (h+1) t (w++ai h t (aX h (mkRat 1 2)) (ai h t (a.drop (2^h)) i))=val (h+1) t a:=by
    intro m w lm em lw ew;have h0:=Go.Tw.wL D ha hv lm em ew;obtain⟨i,hi,li,vi⟩:=Go.Tw.jy D' lw h0;refine⟨i,hi,Go.Tw.wg D ha hv lm em lw ew ae ?_⟩;rw[lW,Go.Tw.val_mul D'.rl ae aG,Go.Tw.cG,Go.Tw.val_mul D'.rl (ag ha) li,R.mul_comm (val h t w),R.mul_assoc,R.mul_comm (R.q _),←R.mul_assoc,R.mul_assoc (val h t (a.drop (2^h))),R.mul_comm (val h t i),vi,R.mul_one,R.nu]
   rcases ih ae k3 with⟨w,lw,ew,cw⟩|⟨n1,l1,_,c1⟩
   ·obtain⟨i,hi,f1,f2⟩:=fin ln en lw ew;obtain⟨_,m2,_,m4,_⟩:=k4 w lw ew;obtain⟨m5,m6⟩:=m4 i hi;exact .inl ⟨_,f1,f2,A7 hX1 hX W ha s1 hsn hv D' (k:=0) (by omega) cn ln k1 qx (fun j hj=>absurd hj (Nat.not_lt_zero _)) (fun _=>⟨rfl,lw,m2,hi,m5,m6,by rw[lW];exact cw⟩) (fun e=>absurd e (by decide))⟩
   have no1:∀j,j<1→∃l:List (Nat→C),Pr prog 108 [tV h t,eV (ai h t (aX h (mkRat 1 2)) (aC (a.take (2^h)) (mE n j)))] (.aA [.one (GC l),.one (.bool false)]):=fun j hj=>by
    obtain rfl:j=0:=by omega
    rw[lW];exact⟨l1,c1⟩
   rcases ih ae k3' with⟨w,lw,ew,cw⟩|⟨n2,l2,_,c2⟩
   ·obtain⟨i,hi,f1,f2⟩:=fin lm em lw ew;obtain⟨_,m2,_,m4,_⟩:=k4' w lw ew;obtain⟨m5,m6⟩:=m4 i hi;exact .inl ⟨_,f1,f2,A7 hX1 hX W ha s1 hsn hv D' (k:=1) (by omega) cn ln k1 qx no1 (fun _=>⟨rfl,lw,m2,hi,m5,m6,by rw[lW];exact cw⟩) (fun e=>absurd e (by decide))⟩
   refine .inr ⟨Go.Tw.vD D ha hv ln en n1 n2,[],Nat.zero_le _,EI (A7 (w:=[]) (i:=[]) hX1 hX W ha s1 hsn hv D' (k:=2) (by omega) cn ln k1 qx (fun j hj=>?_) (fun e=>absurd e (by decide)) (fun _=>rfl))⟩;rw[lW]
   match j,hj with
   |0,_=>exact⟨l1,c1⟩
   |1,_=>exact⟨l2,c2⟩
  exact .inr ⟨Go.Tw.wG D ha hv n1,[],Nat.zero_le _,EI (N9 hX1 hX W ha s1 hsn hv c)⟩
open Go Go.Eng
open Go.Tw (El aC aJ zE au ar QB kM gT val In Fk Rd nW TG jK bo dK b6 dF)
section
variable {X h:Nat}(hX1:1≤X)(hX:X≤2^30){t:List El}{a:El}
include hX1 hX
theorem yJ {w:El}(W:GQ X h t)(hw:w.length=2^h)(sw:gT X h t w)(c:Pr prog 108 [tV h t,eV a] (.aA [eV w,.one (.bool true)])):
  Pr prog 111 [tV h t,eV a] (.aA [eV (if bo h t w<0 then aJ w else w),.one (.bool true)]):=by
 have h3:=W.rq.tq.h3;have hp:2^h≤8:=Nat.pow_le_pow_right (n:=2) (by decide) (show h≤3 by omega);have s:=lA hX1 hX W.rq hw sw;have n:=(yY (h:=h) (t:=t) w (by omega) (.of sw.qb (by omega))).rows;refine pw func111 ⟨[0,1,4,5,6,7,15,19],[]⟩ ?_;simp only[Tryz.f111,ntmps111,iz,seval];simp only[vx,T,seval,tV,tC,eV,aa];refine Cg c ?_;simp only[vx,T,seval,tV,tC,eV,aa];refine Cg s ?_;simp only[vx,T,seval,tV,tC,eV,aa];refine⟨fun g=>Lg ?_,fun g=>Lg ?_⟩
 ·rw[if_pos g];simp only[vx,T,seval,tV,tC,eV,aa];refine Cg n ?_;simp only[vx,T,seval,tV,tC,eV,aa];exact Ve rfl
 rw[if_neg g];simp only[vx,T,seval,tV,tC,eV,aa];exact Ve rfl
omit hX1 hX in
theorem zj {l:List (Nat→C)}(c:Pr prog 108 [tV h t,eV a] (.aA [.one (GC l),.one (.bool false)])):
  Pr prog 111 [tV h t,eV a] (.aA [.one .nil,.one (.bool false)]):=by
 refine pw func111 ⟨[0,1,4,5,6,7,15,19],[]⟩ ?_;simp only[Tryz.f111,ntmps111,iz,seval];simp only[vx,T,seval,tV,tC,eV,aa];refine Cg c ?_;simp only[vx,T,seval,tV,tC,eV,aa,GC];exact Ve rfl
theorem Mr (W:GQ X h t)(ha:a.length=2^h)(hB:Fk X h t a):
  (∃w,w.length=2^h∧val h t w=R.sqrt (val h t a)∧Pr prog 111 [tV h t,eV a] (.aA [eV w,.one (.bool true)]))∨
  (nW h t (val h t a)∧Pr prog 111 [tV h t,eV a] (.aA [.one .nil,.one (.bool false)])):=by
 rcases uj hX1 hX W.rq W.rd ha hB.sq with⟨b,lb,eb,cb⟩|⟨no,l,_,c⟩
 ·refine .inl ⟨_,?_,?_,yJ hX1 hX W lb (hB.rt b lb eb) cb⟩
  ·split
   ·rw[ar,lb]
   exact lb
  have e:=b6 W.rd.rl lb;have nn:∀x,x=val h t b∨x= -val h t b→R.nn x→x=R.sqrt (val h t a):=by
   intro x hx hn;rw[←eb]
   rcases hx with rfl|rfl
   ·exact(R.pR hn).symm
   rw[show val h t b*val h t b= -val h t b* -val h t b by rw[R.neg_mul,R.mul_neg,R.neg_neg]];exact(R.pR hn).symm
  split
  ·rename_i g
   rw[Go.Tw.val_neg lb];refine nn _ (.inr rfl) ?_
   rcases R.df (val h t b)with⟨k,k2⟩|⟨k,k2⟩|⟨k,k2⟩
   ·rw[k,R.iB];exact R.bx.2 (.inl rfl)
   ·omega
   exact R.bx.2 (.inr k)
  rename_i g
  refine nn _ (.inl rfl) ?_
  rcases R.df (val h t b)with⟨k,k2⟩|⟨k,k2⟩|⟨k,k2⟩
  ·rw[k];exact R.bx.2 (.inl rfl)
  ·exact R.bx.2 (.inr k)
  omega
 exact .inr ⟨no,zj c⟩
theorem Fg (W:GQ X h t):Pr prog 73 [tV h t] (.one (.bool true)):=by
 have h3:=W.rq.tq.h3;have f:∀i,i<h→Pr prog 74 [tV i t,eV (t.getD i [])] (.one (.bool true)):=fun i hi=>ur (W.rq.tq.tk.le (by omega)) _ (W.rd.rl i hi).1 (W.rq.tq.tk.q i hi);have s:∀i,i<h→Pr prog 107 [tV i t,eV (t.getD i [])] (.one (.int .i64 1)):=fun i hi=>by
  have c:=lA hX1 hX (W.rq.le (show i≤h by omega)) (W.rd.rl i hi).1 (W.sq i hi).sg
  rwa [b6 (W.rd.rl.le (by omega)) (W.rd.rl i hi).1,R.gP (W.rd.rl i hi).2]at c
 have q:∀i,i<h→∃l,Pr prog 108 [tV i t,eV (t.getD i [])] (.aA [.one (GC l),.one (.bool false)]):=fun i hi=>by
  rcases uj hX1 hX (W.rq.le (show i≤h by omega)) (W.rd.le (by omega)) (W.rd.rl i hi).1 (W.sq i hi)with⟨b,lb,eb,_⟩|⟨_,l,_,c⟩
  ·exact absurd eb (W.rd.ns i hi _ (.of lb))
  exact⟨l,c⟩
 refine pw func73 ⟨[0,2,3,5,9,31,43],[(6,.nil)]⟩ ?_;simp only[Tryz.f73,ntmps73,iz,seval];simp only[vx,T,seval,tV,tC,aa];refine Lk (fun y:{i:Nat//i≤h}=>⟨[(0,tV h t),(2,.one (.bool false)),(3,.one (.int .i64 y.1))],[],1,44⟩) (fun y=>h-y.1) ⟨0,Nat.zero_le _⟩ ?_ (fun⟨i,hi⟩=>?_)
 ·refine Sa ?_;simp only[ry,seval,rz,tV,tC,aa]
 simp only;have wi:IntKind.i64.wrap ((i:Int)+1)=((i+1:Nat):Int):=by rw[IntWalk.i64_in _ (by omega)];omega
 simp only[vx,T,seval,tV,tC,aa];refine⟨fun k=>Lg ?_,fun k=>Lg ?_⟩
 ·have hlt:i<h:=by omega
  have fi:=f i hlt;have si:=s i hlt;obtain⟨l,qi⟩:=q i hlt;obtain⟨r,hr⟩:∃r,r=t.getD i []:=⟨_,rfl⟩;rw[←hr]at fi si qi;simp only[vx,T,seval,tV,tC,aa,←hr];refine⟨⟨by omega,by omega⟩,⟨by omega,by omega⟩,Cg fi ?_⟩;simp only[vx,T,seval,tV,tC,aa,←hr];refine⟨⟨by omega,by omega⟩,⟨by omega,by omega⟩,Cg si ?_⟩;simp only[vx,T,seval,tV,tC,aa,←hr];refine⟨⟨by omega,by omega⟩,⟨by omega,by omega⟩,Cg qi ?_⟩;simp only[vx,T,seval,tV,tC,aa,GC,wi];refine Lq ⟨i+1,by omega⟩ ?_ (by show h-(i+1)<h-i;omega);refine Sa ?_;simp only[ry,seval,rz,tV,tC,aa]
 simp only[vx,T,seval,tV,tC,aa];exact Ve rfl
end
section
variable {A:List R}(S:Go.Tw.Src 64 A)(hA:A.length≤3){t:List El}{a:El}
include S hA
theorem Iz (G:TG A t)(ha:a.length=2^t.length)(hn:R.nn (val t.length t a))(hB:Fk jK t.length t a):
  (∃w,w.length=2^t.length∧val t.length t w=R.sqrt (val t.length t a)∧Pr prog 75 [tV t.length t,eV a] (.aA [tV t.length t,eV w,.one (.int .i64 0)]))∨
  (nW t.length t (val t.length t a)∧Pr prog 75 [tV t.length t,eV a] (.aA [tV (t.length+1) (t++[a]),eV (dK t.length),.one (.int .i64 0)])):=by
 have W:=vZ S hA G (Nat.le_refl _);have hX1:1≤jK:=by decide
 have hX:jK≤2^30:=by decide
 have h3:=W.rq.tq.h3;have sg:=lA hX1 hX W.rq ha hB.sq.sg;have hs:¬bo t.length t a<0:=by
  rw[b6 W.rd.rl ha]
  rcases R.df (val t.length t a)with⟨k,k2⟩|⟨k,k2⟩|⟨k,k2⟩
  ·omega
  ·omega
  exact absurd k hn
 have ro:=MH (h:=t.length) (U:=t++[a]) (by omega);obtain⟨n,hnn⟩:∃n,n=t.length:=⟨_,rfl⟩
 rcases Mr hX1 hX W ha hB with⟨w,lw,ew,cw⟩|⟨no,c⟩
 ·refine .inl ⟨w,lw,ew,?_⟩;rw[←hnn]at sg cw hs⊢;refine pw func75 ⟨[0,1,4,5,6,7,8,9,13,20,25],[]⟩ ?_;simp only[Tryz.f75,ntmps75,iz,seval];simp only[vx,T,seval,tV,tC,eV,aa];refine Cg sg ?_;simp only[vx,T,seval,tV,tC,eV,aa];refine⟨fun h=>absurd h hs,fun _=>Lg ?_⟩;simp only[vx,T,seval,tV,tC,eV,aa];refine Cg cw ?_;simp only[vx,T,seval,tV,tC,eV,aa];exact Ve rfl
 refine .inr ⟨no,?_⟩;obtain⟨u,hu⟩:∃u,u=t++[a]:=⟨_,rfl⟩;have eu:∀i j,i<n+1→j<1→(if i<n then(if i<0 then([]:List C).getD (i*1+j) .any else aa (t.getD (i-0) []))else[aa a].getD ((i-n)*1+j) .any)=aa (u.getD i []):=fun i j hi hj=>by
  obtain rfl:j=0:=by omega
  rw[hnn,hu,if_neg (Nat.not_lt_zero i),Nat.sub_zero]
  by_cases h:i<t.length
  ·rw[if_pos h,Go.Tw.dy h]
  obtain rfl:i=t.length:=by omega
  rw[if_neg h,Go.Tw.gg,Nat.sub_self];rfl
 rw[←hu]at ro⊢;rw[←hnn]at sg c ro hs h3⊢;refine pw func75 ⟨[0,1,4,5,6,7,8,9,13,20,25],[]⟩ ?_;simp only[Tryz.f75,ntmps75,iz,seval];simp only[vx,T,seval,tV,tC,eV,aa];refine Cg sg ?_;simp only[vx,T,seval,tV,tC,eV,aa];refine⟨fun h=>absurd h hs,fun _=>Lg ?_⟩;simp only[vx,T,seval,tV,tC,eV,aa];refine Cg c ?_;simp only[vx,T,seval,tV,tC,eV,aa];refine⟨fun h=>absurd h (by omega),fun _=>Lg ?_⟩;simp only[vx,T,seval,tV,tC,eV,aa];refine⟨⟨by omega,by omega⟩,⟨by omega,by omega⟩,Cg (ro.args ⟨.cell (.rows rfl fun i j hi hj=>.of_eq (eu i j hi hj)),.refl _,trivial⟩) ?_⟩;simp only[vx,T,seval,tV,tC,eV,aa];exact fP.aA ⟨.cell (.rows rfl fun i j hi hj=>.of_eq (eu i j hi hj)),.refl _,.refl _,trivial⟩
theorem um (G:TG A t)(ha:a.length=2^t.length)(hn:R.nn (val t.length t a))(hB:Fk jK t.length t a):
  (∃w,w.length=2^t.length∧val t.length t w=R.sqrt (val t.length t a)∧Pr prog 41 [tV t.length t,eV a] (.aA [tV t.length t,eV w,.one (.int .i64 0)]))∨
  (nW t.length t (val t.length t a)∧Pr prog 41 [tV t.length t,eV a] (.aA [tV (t.length+1) (t++[a]),eV (dK t.length),.one (.int .i64 0)])):=by
 have W:=vZ S hA G (Nat.le_refl _);have hX1:1≤jK:=by decide
 have hX:jK≤2^30:=by decide
 have f:=ur W.rq.tq.tk a ha (.of hB.sq.qb (by omega));have rd:=Fg hX1 hX W;have key:∀{m:Nat} {U:List El} {w:El},Pr prog 75 [tV t.length t,eV a] (.aA [tV m U,eV w,.one (.int .i64 0)])→Pr prog 41 [tV t.length t,eV a] (.aA [tV m U,eV w,.one (.int .i64 0)]):=by
  intro m U w c;refine pw func41 ⟨[0,1,4,5,6,15],[]⟩ ?_;simp only[Tryz.f41,ntmps41,iz,seval];simp only[vx,T,seval,tV,tC,eV,aa];refine Cg rd ?_;simp only[vx,T,seval,tV,tC,eV,aa];refine Cg f ?_;simp only[vx,T,seval,tV,tC,eV,aa];refine Cg c ?_;simp only[vx,T,seval,tV,tC,eV,aa];exact Ve rfl
 rcases Iz S hA G ha hn hB with⟨w,lw,ew,cw⟩|⟨no,c⟩
 ·exact .inl ⟨w,lw,ew,key cw⟩
 exact .inr ⟨no,key c⟩
end
open Go Go.Eng
open Go.Tw (El aC aJ zE ai au QB mS tB val In Rd nW TG cE bC a8 a5)
theorem Na (a b:El)(hl:a.length<2^38)(ha:Qk a)(hb:Qk b):Pr prog 154 [eV a,eV b] (.one (.bool (decide (a=b)))):=by
 refine pw func154 ⟨[0,1,4,5,10,14,26],[]⟩ ?_;simp only[Tryz.f154,ntmps154,iz,seval];simp only[vx,T,seval,eV,aa];refine⟨fun h=>Lg ?_,fun h=>Lg ?_⟩
 ·rw[show decide (a=b)=false from decide_eq_false fun e=>h (by rw[e])];simp only[vx,T,seval,eV,aa];exact Ve rfl
 have hlen:a.length=b.length:=by omega
 simp only[vx,T,seval,eV,aa];refine Lk (fun y:{i:Nat//i≤a.length∧∀j,j<i→a.getD j default=b.getD j default}=>⟨[(0,eV a),(1,eV b),(4,.one (.bool false)),(5,.one (.int .i64 y.1))],[],2,27⟩) (fun y=>a.length-y.1) ⟨0,Nat.zero_le _,fun j hj=>absurd hj (Nat.not_lt_zero _)⟩ ?_ (fun⟨i,hi,hz⟩=>?_)
 ·refine Sa ?_;simp only[ry,seval,rz,eV,aa]
 have i1:=wI i (by omega);simp only[vx,T,seval,eV,aa];refine⟨fun g=>Lg ?_,fun g=>Lg ?_⟩
 ·have hil:i<a.length:=by omega
  have c:=Cr _ _ (ha.get i) (hb.get i);have key:a.getD i default≠b.getD i default→decide (a=b)=false:=fun h=>decide_eq_false fun e=>h (by rw[e]);have hnx:a.getD i default=b.getD i default→∀j,j<i+1→a.getD j default=b.getD j default:=fun h0 j hj=>by
   by_cases hji:j<i
   ·exact hz j hji
   obtain rfl:j=i:=by omega
   exact h0
  obtain⟨x,hx⟩:∃x,x=a.getD i default:=⟨_,rfl⟩;obtain⟨y,hy⟩:∃y,y=b.getD i default:=⟨_,rfl⟩;rw[←hx,←hy]at c key hnx;simp only[vx,T,seval,eV,aa,←hx,←hy,qC];refine⟨by omega,by omega,Cg c ?_⟩;simp only[vx,T,seval,eV,aa];refine⟨fun h=>Lg ?_,fun h=>Lg ?_⟩
  ·rw[key fun e=>h (uX.2 e)];simp only[vx,T,seval,eV,aa];exact Ve rfl
  have e:x=y:=uX.1 (by omega);simp only[vx,T,seval,eV,aa,i1];refine Lq ⟨i+1,by omega,hnx e⟩ ?_ (by show a.length-(i+1)<a.length-i;omega);refine Sa ?_;simp only[ry,seval,rz,eV,aa]
 have hil:i=a.length:=by omega
 subst hil;have e:a=b:=by
  refine List.ext_getElem hlen fun j h1 h2=>?_
  have:=hz j h1
  rwa [eK h1,eK h2]at this
 rw[decide_eq_true e];simp only[vx,T,seval,eV,aa];exact Ve rfl
theorem pG {h k:Nat}{t u:List El}(tk:Tk h t)(uk:Tk k u):Pr prog 113 [tV h t,tV k u] (.one (.bool (eY h k t u))):=by
 have h8:=tk.le8;have k8:=uk.le8;refine pw func113 ⟨[0,1,4,5,10,14,26],[]⟩ ?_;simp only[Tryz.f113,ntmps113,iz,seval];simp only[vx,T,seval,tV,tC];refine⟨fun g=>Lg ?_,fun g=>Lg ?_⟩
 ·rw[show eY h k t u=false by unfold eY;rw[decide_eq_false (by omega:¬k≤h)];rfl];simp only[vx,T,seval,tV,tC];exact Ve rfl
 have hkh:k≤h:=by omega
 simp only[vx,T,seval,tV,tC];refine Lk (fun y:{i:Nat//i≤k∧∀j,j<i→t.getD j []=u.getD j []}=>⟨[(0,tV h t),(1,tV k u),(4,.one (.bool false)),(5,.one (.int .i64 y.1))],[],2,27⟩) (fun y=>k-y.1) ⟨0,Nat.zero_le _,fun j hj=>absurd hj (Nat.not_lt_zero _)⟩ ?_ (fun⟨i,hi,hz⟩=>?_)
 ·refine Sa ?_;simp only[ry,seval,rz,tV,tC]
 have i1:=wI i (by omega);simp only[vx,T,seval,tV,tC];refine⟨fun g2=>Lg ?_,fun g2=>Lg ?_⟩
 ·have hik:i<k:=by omega
  have c:=Na (t.getD i []) (u.getD i []) (by rw[tk.len i (by omega)];exact aN (by omega)) (tk.q i (by omega)) (uk.q i hik);have key:t.getD i []≠u.getD i []→eY h k t u=false:=fun h0=>by
   unfold eY;rw[Bool.and_eq_false_iff]
   right
   rw[List.all_eq_false];exact⟨i,List.mem_range.2 hik,by simpa using h0⟩
  have hnx:t.getD i []=u.getD i []→∀j,j<i+1→t.getD j []=u.getD j []:=fun h0 j hj=>by
   by_cases hji:j<i
   ·exact hz j hji
   obtain rfl:j=i:=by omega
   exact h0
  obtain⟨x,hx⟩:∃x,x=t.getD i []:=⟨_,rfl⟩;obtain⟨y,hy⟩:∃y,y=u.getD i []:=⟨_,rfl⟩;rw[←hx,←hy]at c key hnx
  by_cases e:x=y
  ·rw[decide_eq_true e]at c;simp only[vx,T,seval,tV,tC,aa,←hx,←hy];refine⟨by omega,by omega,Cg c ?_⟩;simp only[vx,T,seval,tV,tC,i1];refine Lq ⟨i+1,by omega,hnx e⟩ ?_ (by show k-(i+1)<k-i;omega);refine Sa ?_;simp only[ry,seval,rz,tV,tC]
  rw[decide_eq_false e]at c;rw[key e];simp only[vx,T,seval,tV,tC,aa,←hx,←hy];refine⟨by omega,by omega,Cg c ?_⟩;simp only[vx,T,seval,tV,tC];exact Ve rfl
 have hik:i=k:=by omega
 subst hik;rw[show eY h i t u=true by
  unfold eY;rw[decide_eq_true hkh,Bool.true_and,List.all_eq_true];exact fun j hj=>decide_eq_true (hz j (List.mem_range.1 hj))]
 simp only[vx,T,seval,tV,tC];exact Ve rfl
theorem xa {h:Nat}{t:List El}{a:El}(hh:h≤8)(hl:a.length≤2^h):Pr prog 115 [tV h t,eV a] (eV (cE h a)):=by
 have hp:=aN hh;have z:=bc 0 (by decide) (by decide);have hs:=dL (h:=h) hh;have e:cE h a=a++zE (2^h-a.length):=rfl;rw[e];obtain⟨N,hN⟩:∃N,N=2^h:=⟨_,rfl⟩;rw[←hN]at hs hl hp⊢;refine pw func115 ⟨[0,1,4,5,14],[]⟩ ?_;simp only[Tryz.f115,ntmps115,iz,seval];simp only[vx,T,seval,tV,tC,eV,aa];refine⟨⟨by omega,by omega⟩,?_⟩;refine Lk (fun y:{k:Nat//a.length+k≤N}=>⟨[(0,tV h t),(4,.one .nil),(5,.one (.own 1 4 0 (a.length+y.1)))],[(1,⟨.rows 62 4 (a.length+y.1) (fQ (a++zE y.1)),true⟩)],2,20⟩) (fun y=>N-(a.length+y.1)) ⟨0,by omega⟩ ?_ (fun⟨k,hk⟩=>?_)
 ·refine Sa ?_;simp only[ry,seval,rz,tV,tC,eV,aa];exact fun i j _ _=>by rw[show a++zE 0=a from List.append_nil a,if_neg (Nat.not_lt_zero _),Nat.sub_zero];rfl
 simp only;simp only[vx,T,seval,tV,tC,eV,aa,hs];refine⟨by omega,?_⟩;refine⟨fun g=>Lg ?_,fun g=>Lg ?_⟩
 ·simp only[vx,T,seval,tV,tC,eV,aa,hs];refine Cg z ?_;simp only[vx,T,seval,tV,tC,eV,aa,hs,QV,QC];refine⟨⟨by omega,by omega⟩,Lq ⟨k+1,by omega⟩ ?_ (by show N-(a.length+(k+1))<N-(a.length+k);omega)⟩;refine Sa ?_;simp only[ry,seval,rz,tV,tC,eV,aa,hs];exact⟨by omega,by omega,by rw[CN];exact LL (by rw[X6,au])⟩
 simp only[vx,T,seval,tV,tC,eV,aa,hs];have ek:k=N-a.length:=by omega
 rw[←ek];exact fP.cell (dr.rows (by rw[X6,au]) fun i j _ _=>.refl _)
end Go.Proofs.YtgcmkdgpaibpeaaGreat
