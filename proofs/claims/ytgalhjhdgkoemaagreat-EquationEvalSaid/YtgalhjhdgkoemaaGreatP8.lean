/-
  EquationEval: for every input the law returns true, and each argument reads afterwards as it read before. No condition beyond the given row's own cells.
  (Text 8 of 10; made by a program out of smaller texts.)
-/
import Derived.Shelf.Sort.Plain
import Derived.Shelf.Slices.In.SortNone
import Derived.Test.YtgalhjhdgkoemaaGreatProg
import Derived.Test.YtgalhjhdgkoemaaGreatP7
set_option linter.unusedSimpArgs false
set_option linter.unusedVariables false
set_option maxHeartbeats 16000000
set_option maxRecDepth 10000
open Nat renaming reduceAdd→J1,reduceMul→J2,reduceSub→J3,reduceEqDiff→J4,reduceLT→J5,reduceLeDiff→J6,reduceBEq→J7,reduceDiv→J8,reduceMod→J9,reducePow→J0
open Int renaming reduceToNat→K1,reduceLE→K2,reduceLT→K3,reduceEq→K4,reducePow→K5,reduceSub→K6,reduceNeg→K7,natCast_add→X2,natCast_one→X3,natCast_zero→X4
open List renaming getD_cons_zero→X0,getD_cons_succ→X1,length_take→X5,length_append→X6,getD_eq_getElem?_getD→X7,getElem?_eq_getElem→X8
namespace Go.Proofs.YtgalhjhdgkoemaaGreat
open Go Go.Eng
def fR (os:List ao)(i:Nat):Nat→C:=mC (os.getD i default)
theorem sR (m:ao){j:Nat}(hj:j<5):[C.bool (zs m.1.num),C.ints .u32 (zm m.1.num),C.bool (zs (m.1.den:Int)),C.ints .u32 (zm (m.1.den:Int)),C.ints .i64 m.2].getD j C.any=mC m j:=by
 match j,hj with
 |0,_=>rfl
 |1,_=>rfl
 |2,_=>rfl
 |3,_=>rfl
 |4,_=>rfl
theorem nK (ks:List ao)(b:ao):∀(i j:Nat),i<ks.length+1→j<5→
  (if i<ks.length then fR ks i j
  else[C.bool (zs b.1.num),C.ints .u32 (zm b.1.num),C.bool (zs (b.1.den:Int)),C.ints .u32 (zm (b.1.den:Int)),C.ints .i64 b.2].getD ((i-ks.length)*5+j) C.any)=fR (ks++[b]) i j:=by
 intro i j hi hj;unfold fR
 by_cases h:i<ks.length
 ·rw[if_pos h,X7,X7,List.getElem?_append_left h]
 have:i=ks.length:=by omega
 subst this;rw[if_neg h,Nat.sub_self,Nat.zero_mul,Nat.zero_add,sR b hj,X7,List.getElem?_append_right (Nat.le_refl _),Nat.sub_self];rfl
theorem Gs {os:List ao}{c:Rat}{k:Nat}(hk:k<os.length)(i j:Nat)(hi:i<os.length)(hj:j<5):
  dE (fR os) k 0 [C.bool (zs c.num),C.ints .u32 (zm c.num),C.bool (zs (c.den:Int)),C.ints .u32 (zm (c.den:Int))] i j=fR (os.set k (c,(os.getD k default).2)) i j:=by
 unfold dE fR
 by_cases h:i=k
 ·subst h;rw[if_pos rfl,gN hk]
  match j,hj with
  |0,_=>rfl
  |1,_=>rfl
  |2,_=>rfl
  |3,_=>rfl
  |4,_=>rfl
 rw[if_neg h,eR (fun e=>h e.symm)]
end Go.Proofs.YtgalhjhdgkoemaaGreat
/-
  Linear functionals of sums of monomials; products and derivatives.
-/
namespace Go.Eng
def wY (g:List Int→Rat):List ao→Rat
 |[]=>0
 |m::r=>m.1*g m.2+wY g r
def ind (w v:List Int):Rat:=if v=w then 1 else 0
theorem Dm (l:List ao)(w:List Int):wY (ind w) l=co l w:=by
 induction l with
 |nil=>rfl
 |cons m r ih=>
  simp only[wY,co,ih,ind]
  split
  ·rw[Rat.mul_one]
  rw[Rat.mul_zero]
theorem Hi (g:List Int→Rat)(c:Rat)(v:List Int)(l:List ao):wY g (dO c v l)=wY g l+c*g v:=by
 induction l with
 |nil=>simp only[dO,wY];rw[Rat.add_comm]
 |cons m r ih=>
  simp only[dO]
  split
  ·simp only[wY,ih,Rat.add_assoc]
  split
  ·rename_i h
   simp only[wY,h,Rat.add_mul];rw[Rat.add_assoc,Rat.add_assoc,Rat.add_comm (c*g v)]
  simp only[wY];rw[Rat.add_comm]
theorem B7 (g:List Int→Rat)(l:List ao):wY g (l.filter fun m=>decide (m.1≠0))=wY g l:=by
 induction l with
 |nil=>rfl
 |cons m r ih=>
  simp only[List.filter_cons]
  split
  ·simp only[wY,ih]
  rename_i h
  have h:m.1=0:=by simpa using h
  simp only[wY,ih,h,Rat.zero_mul,Rat.zero_add]
def kU (l os:List ao):List ao:=l.foldl (fun os m=>dO m.1 m.2 os) os
def dq (l:List ao):List ao:=(kU l []).filter fun m=>decide (m.1≠0)
theorem zK (l:List ao){os:List ao}(h:xG os):xG (kU l os):=by
 induction l generalizing os with
 |nil=>exact h
 |cons m r ih=>exact ih (tS _ _ h)
theorem uP (l:List ao):Can (dq l):=tJ (zK l List.Pairwise.nil)
theorem HK (g:List Int→Rat)(l os:List ao):wY g (kU l os)=wY g os+wY g l:=by
 induction l generalizing os with
 |nil=>show _=_+0;rw[Rat.add_zero];rfl
 |cons m r ih=>
  have e:kU (m::r) os=kU r (dO m.1 m.2 os):=rfl;rw[e,ih,Hi];simp only[wY,Rat.add_assoc]
theorem HF (g:List Int→Rat)(l:List ao):wY g (dq l)=wY g l:=by
 unfold dq;rw[B7,HK];show 0+_=_;rw[Rat.zero_add]
theorem xB (l:List ao)(v:List Int):co (dq l) v=co l v:=by rw[←Dm,←Dm,HF]
theorem uB (l:List ao):dq (jI l)=vu l:=xW (uP _) (Gj l) fun v=>by rw[xB,Jo]
theorem E7 {a b:List ao}(h:a.Perm b):dq a=dq b:=xW (uP _) (uP _) fun v=>by rw[xB,xB,KN h]
def q8 (l:List ao):Prop:=∀m∈l,m.2.Pairwise (· ≤ ·)
theorem q8.append {a b:List ao}(ha:q8 a)(hb:q8 b):q8 (a++b):=fun m hm=>by
 rcases List.mem_append.1 hm with h|h
 ·exact ha m h
 exact hb m h
theorem q8.jI (l:List ao):q8 (jI l):=fun m hm=>by
 obtain⟨x,_,rfl⟩:=List.mem_map.1 hm;exact nD _
theorem AK {l os:List ao}{x:ao}(h:x∈kU l os):(∃m∈l,x.2=m.2)∨∃m∈os,x.2=m.2:=by
 induction l generalizing os with
 |nil=>exact .inr ⟨x,h,rfl⟩
 |cons m r ih=>
  rcases ih h with⟨y,hy,e⟩|⟨y,hy,e⟩
  ·exact .inl ⟨y,by simp[hy],e⟩
  rcases Ah hy with h1|h1
  ·exact .inl ⟨m,by simp,by rw[e,h1]⟩
  exact .inr ⟨y,h1,e⟩
theorem zG {l:List ao}{x:ao}(h:x∈dq l):∃m∈l,x.2=m.2:=by
 rcases AK (List.mem_filter.1 h).1 with h1|⟨m,hm,_⟩
 ·exact h1
 cases hm
theorem q8.dq {l:List ao}(h:q8 l):q8 (dq l):=fun m hm=>by
 obtain⟨x,hx,e⟩:=zG hm;rw[e];exact h x hx
theorem q8.vu (l:List ao):q8 (vu l):=by rw[←uB];exact(q8.jI l).dq
def mulL (p q:List ao):List ao:=p.flatMap fun a=>q.map fun b=>(a.1*b.1,a.2++b.2)
def mulR (a:ao)(q:List ao):List ao:=q.map fun b=>(a.1*b.1,a.2++b.2)
theorem zo (a b:List ao):jI (a++b)=jI a++jI b:=List.map_append
def mulM (p q:List ao):List ao:=vu (mulL p q)
theorem ss (p q:List ao):mulM p q=dq (jI (mulL p q)):=(uB _).symm
def vz (p:List ao)(v:Int):List ao:=p.flatMap fun m=>if m.2.count v=0 then[]else[(m.1*(m.2.count v:Nat),m.2.erase v)]
theorem xn {α:Type}(f:α→List ao)(l:List α):jI (l.flatMap f)=l.flatMap fun x=>jI (f x):=by
 induction l with
 |nil=>rfl
 |cons x r ih=>rw[List.flatMap_cons,zo,ih,List.flatMap_cons]
theorem uR {α β:Type}{f g:α→List β}{l:List α}(h:∀x∈l,f x=g x):l.flatMap f=l.flatMap g:=by
 induction l with
 |nil=>rfl
 |cons x r ih=>rw[List.flatMap_cons,List.flatMap_cons,h x (by simp),ih fun y hy=>h y (by simp[hy])]
def OL (p:List ao)(v:Int):List ao:=dq (vz p v)
end Go.Eng
/-
  Bounds of polynomials.
-/
namespace Go.Eng
structure PB (p:List ao) (n d B:Nat):Prop where
 n:p.length≤n
 m:∀m∈p,qm m.1≤B∧m.2.length≤d∧fS m.2
theorem PB.Px {p:List ao}{n d B:Nat}(h:PB p n d B)(hn:n<2^30)(hd:d<2^30)(hB:B<2^30):MS p:=
 ⟨Nat.lt_of_le_of_lt h.n hn,fun m hm=>⟨Nat.lt_of_le_of_lt (h.m m hm).1 hB,Nat.lt_of_le_of_lt (h.m m hm).2.1 hd,(h.m m hm).2.2⟩⟩
theorem PB.mono {p:List ao}{n d B n' d' B':Nat}(h:PB p n d B)(hn:n≤n')(hd:d≤d')(hB:B≤B'):PB p n' d' B':=
 ⟨Nat.le_trans h.n hn,fun m hm=>⟨Nat.le_trans (h.m m hm).1 hB,Nat.le_trans (h.m m hm).2.1 hd,(h.m m hm).2.2⟩⟩
theorem PB.append {p q:List ao}{n d B n' d' B':Nat}(h:PB p n d B)(h':PB q n' d' B'):PB (p++q) (n+n') (max d d') (max B B'):=
 ⟨by rw[X6];exact Nat.add_le_add h.n h'.n,fun m hm=>by
  rcases List.mem_append.1 hm with hm|hm
  ·have:=h.m m hm;exact⟨by omega,by omega,this.2.2⟩
  have:=h'.m m hm;exact⟨by omega,by omega,this.2.2⟩⟩
theorem fS.gz {l:List Int}(h:fS l):fS (gz l):=fun x hx=>h x ((gH l).mem_iff.1 hx)
theorem PB.yS {l:List ao}{d B:Nat}(h:∀m∈l,qm m.1≤B∧m.2.length≤d∧fS m.2):∀(i:Nat) (os:List ao),(os.length≤i∧∀m∈os,qm m.1≤i*(B+1)∧m.2.length≤d∧fS m.2)→
  (kU l os).length≤i+l.length∧∀m∈kU l os,qm m.1≤(i+l.length)*(B+1)∧m.2.length≤d∧fS m.2:=by
 induction l with
 |nil=>intro i os ho;exact ho
 |cons x r ih=>
  intro i os ho;have hx:=h x (by simp);have e:kU (x::r) os=kU r (dO x.1 x.2 os):=rfl;rw[e,List.length_cons,show i+(r.length+1)=(i+1)+r.length by omega];have e2:(i+1)*(B+1)=i*(B+1)+B+1:=by rw[Nat.add_mul];omega
  refine ih (fun m hm=>h m (by simp[hm])) (i+1) _ ⟨?_,fun m hm=>?_⟩
  ·have:(dO x.1 x.2 os).length≤os.length+1:=by
    clear ho
    induction os with
    |nil=>simp[dO]
    |cons m r ih=>
     simp only[dO]
     split
     ·simp only[List.length_cons];have:=ih rfl;omega
     split<;>simp
   have:=ho.1
   omega
  rw[e2]
  rcases Fb hm with hm|rfl|⟨n,hn,rfl⟩
  ·have:=ho.2 m hm
   exact⟨by omega,this.2⟩
  ·exact⟨by have:=hx.1;simp only;omega,hx.2⟩
  have h1:=ho.2 n hn;have h2:=IW n.1 x.1;exact⟨by have:=hx.1;simp only;omega,hx.2⟩
theorem PB.dq {l:List ao}{n d B:Nat}(h:PB l n d B):PB (dq l) n d (n*(B+1)):=by
 obtain⟨h1,h2⟩:=PB.yS h.m 0 [] ⟨by simp,fun m hm=>by cases hm⟩;rw[Nat.zero_add]at h1 h2;refine⟨Nat.le_trans (List.length_filter_le _ _) (Nat.le_trans h1 h.n),fun m hm=>?_⟩
 have:=h2 m (List.mem_filter.1 hm).1
 exact⟨Nat.le_trans this.1 (Nat.mul_le_mul_right _ h.n),this.2⟩
theorem PB.jI {l:List ao}{n d B:Nat}(h:PB l n d B):PB (jI l) n d B:=by
 refine⟨by unfold Eng.jI;rw[List.length_map];exact h.n,fun m hm=>?_⟩;obtain⟨x,hx,rfl⟩:=List.mem_map.1 hm
 have:=h.m x hx
 exact⟨this.1,by rw[mG];exact this.2.1,fS.gz this.2.2⟩
theorem PB.vu {l:List ao}{n d B:Nat}(h:PB l n d B):PB (vu l) n d (n*(B+1)):=by rw[←uB];exact h.jI.dq
theorem PB.nil (d B:Nat):PB [] 0 d B:=⟨Nat.le_refl _,fun m hm=>by cases hm⟩
theorem PB.cons {m:ao}{l:List ao}{n d B:Nat}(hm:qm m.1≤B∧m.2.length≤d∧fS m.2)(h:PB l n d B):PB (m::l) (n+1) d B:=
 ⟨by rw[List.length_cons];exact Nat.succ_le_succ h.n,fun x hx=>by
  rcases List.mem_cons.1 hx with rfl|hx
  ·exact hm
  exact h.m x hx⟩
theorem fS.append {a b:List Int}(ha:fS a)(hb:fS b):fS (a++b):=fun x hx=>by
 rcases List.mem_append.1 hx with h|h
 ·exact ha x h
 exact hb x h
theorem zB (p q:List ao):(mulL p q).length=p.length*q.length:=by
 induction p with
 |nil=>simp[mulL]
 |cons a p ih=>unfold mulL at*;rw[List.flatMap_cons,X6,ih,List.length_map,List.length_cons,Nat.add_mul];omega
theorem PB.mulL {p q:List ao}{n d B n' d' B':Nat}(h:PB p n d B)(h':PB q n' d' B'):PB (mulL p q) (n*n') (d+d') (B+B'):=by
 refine⟨by rw[zB];exact Nat.mul_le_mul h.n h'.n,fun m hm=>?_⟩;obtain⟨a,ha,hm⟩:=List.mem_flatMap.1 hm;obtain⟨b,hb,rfl⟩:=List.mem_map.1 hm;have h1:=h.m a ha;have h2:=h'.m b hb;have h3:=Bp a.1 b.1;exact⟨by simp only;omega,by simp only[X6];omega,fS.append h1.2.2 h2.2.2⟩
theorem PB.mulM {p q:List ao}{n d B n' d' B':Nat}(h:PB p n d B)(h':PB q n' d' B'):PB (mulM p q) (n*n') (d+d') (n*n'*(B+B'+1)):=(h.mulL h').vu
theorem u7 {α β:Type}[Inhabited α](g:α→β){l:List α}{i:Nat}(h:i<l.length):(l.take (i+1)).map g=(l.take i).map g++[g (l.getD i default)]:=by
 rw[List.take_add_one,List.map_append,X7,X8 h];rfl
theorem jS {α β:Type}[Inhabited α](g:α→List β){l:List α}{i:Nat}(h:i<l.length):(l.take (i+1)).flatMap g=(l.take i).flatMap g++g (l.getD i default):=by
 rw[List.take_add_one,List.flatMap_append,X7,X8 h];simp
theorem PB.get {p:List ao}{n d B:Nat}(h:PB p n d B){i:Nat}(hi:i<p.length):qm (p.getD i default).1≤B∧(p.getD i default).2.length≤d∧fS (p.getD i default).2:=by
 rw[X7,X8 hi];exact h.m _ (List.getElem_mem hi)
end Go.Eng
namespace Go.Proofs.YtgalhjhdgkoemaaGreat
open Go Go.Eng
theorem GD (p q:List ao):∀(i j:Nat),i<p.length+q.length→j<5→(if i<p.length then fR p i j else fR q (i-p.length) j)=fR (p++q) i j:=by
 intro i j hi hj;unfold fR;rw[X7 (l:=p++q)]
 by_cases h:i<p.length
 ·rw[if_pos h,List.getElem?_append_left h,X7]
 rw[if_neg h,List.getElem?_append_right (by omega),X7]
theorem N3 {ks:List ao}{k:Nat}(hk:ks.length=k)(b:ao):∀(i j:Nat),i<k+1→j<5→
  (if i<k then fR ks i j
  else[C.bool (zs b.1.num),C.ints .u32 (zm b.1.num),C.bool (zs (b.1.den:Int)),C.ints .u32 (zm (b.1.den:Int)),C.ints .i64 b.2].getD ((i-k)*5+j) C.any)=fR (ks++[b]) i j:=by
 subst hk;exact nK ks b
end Go.Proofs.YtgalhjhdgkoemaaGreat
/-
  The values of polynomials at real numbers: sums and products.
-/
namespace Go.Eng
open Go Go.R
def oh (x:Int→R):List Int→R
 |[]=>q 1
 |v::r=>x v*oh x r
def ja (x:Int→R):List ao→R
 |[]=>q 0
 |m::r=>q m.1*oh x m.2+ja x r
theorem uz (x:Int→R)(a b:List Int):oh x (a++b)=oh x a*oh x b:=by
 induction a with
 |nil=>rw[List.nil_append,oh,one_mul]
 |cons v a ih=>rw[List.cons_append,oh,oh,ih,R.mul_assoc]
theorem HT (x:Int→R){a b:List Int}(h:a.Perm b):oh x a=oh x b:=by
 induction h with
 |nil=>rfl
 |cons v _ ih=>rw[oh,oh,ih]
 |swap v w l=>rw[oh,oh,oh,oh,←R.mul_assoc,←R.mul_assoc,R.mul_comm (x w)]
 |trans _ _ h1 h2=>rw[h1,h2]
theorem oP (x:Int→R)(a b:List ao):ja x (a++b)=ja x a+ja x b:=by
 induction a with
 |nil=>rw[List.nil_append,ja,R.zero_add]
 |cons m a ih=>rw[List.cons_append,ja,ja,ih,R.add_assoc]
theorem G4 (x:Int→R)(c:Rat)(v:List Int)(l:List ao):ja x (dO c v l)=ja x l+q c*oh x v:=by
 induction l with
 |nil=>show q c*oh x v+q 0=q 0+q c*oh x v;rw[R.add_comm]
 |cons m r ih=>
  rw[dO]
  split
  ·rw[ja,ja,ih,R.add_assoc]
  split
  ·rename_i h
   rw[ja,ja,wh,R.add_mul,h,R.add_assoc,R.add_assoc,R.add_comm (q c*oh x v)]
  rw[ja,R.add_comm]
theorem BG (x:Int→R)(l:List ao):ja x (l.filter fun m=>decide (m.1≠0))=ja x l:=by
 induction l with
 |nil=>rfl
 |cons m r ih=>
  rw[List.filter_cons]
  split
  ·rw[ja,ja,ih]
  rename_i h
  have h:m.1=0:=by simpa using h
  rw[ja,ih,h,R.zero_mul,R.zero_add]
theorem IX (x:Int→R)(l os:List ao):ja x (kU l os)=ja x os+ja x l:=by
 induction l generalizing os with
 |nil=>show _=_+q 0;rw[R.add_zero];rfl
 |cons m r ih=>
  show ja x (kU r (dO m.1 m.2 os))=_;rw[ih,G4,ja,R.add_assoc]
theorem yA (x:Int→R)(l:List ao):ja x (dq l)=ja x l:=by
 unfold dq;rw[BG,IX,ja,R.zero_add]
theorem Iz (x:Int→R)(l:List ao):ja x (jI l)=ja x l:=by
 induction l with
 |nil=>rfl
 |cons m r ih=>
  show q m.1*oh x (gz m.2)+ja x (jI r)=_;rw[ih,ja,HT x (gH m.2)]
theorem GR (x:Int→R)(a:ao)(l:List ao):ja x (mulR a l)=q a.1*oh x a.2*ja x l:=by
 induction l with
 |nil=>show q 0=_*q 0;rw[R.mul_zero]
 |cons b l ih=>
  show q (a.1*b.1)*oh x (a.2++b.2)+ja x (mulR a l)=_;rw[ih,ja,eE,uz,R.mul_add]
  congr 1
  rw[R.mul_assoc (q a.1) (q b.1),R.mul_assoc (q a.1) (oh x a.2),←R.mul_assoc (q b.1),←R.mul_assoc (oh x a.2),R.mul_comm (q b.1) (oh x a.2)]
theorem FR (x:Int→R)(a b:List ao):ja x (mulL a b)=ja x a*ja x b:=by
 induction a with
 |nil=>show q 0=q 0*_;rw[R.zero_mul]
 |cons m a ih=>
  have e:mulL (m::a) b=mulR m b++mulL a b:=by unfold mulL mulR;rw[List.flatMap_cons]
  rw[e,oP,GR,ih,ja,R.add_mul]
theorem Gd (x:Int→R)(a b:List ao):ja x (mulM a b)=ja x a*ja x b:=by
 rw[ss,yA,Iz,FR]
end Go.Eng
/-
  The value of a polynomial at rational numbers.
-/
namespace Go.Eng
def N4 (c:Int→Rat):List Int→Rat
 |[]=>1
 |v::r=>c v*N4 c r
def ev (c:Int→Rat)(p:List ao):Rat:=wY (N4 c) p
def oV (N:Int)(p:List ao):Prop:=∀m∈p,∀v∈m.2,0≤v∧v<N
theorem oV.append {N:Int}{a b:List ao}(ha:oV N a)(hb:oV N b):oV N (a++b):=fun m hm=>by
 rcases List.mem_append.1 hm with h|h
 ·exact ha m h
 exact hb m h
theorem oV.dq {N:Int}{l:List ao}(h:oV N l):oV N (Eng.dq l):=fun m hm=>by
 obtain⟨x,hx,e⟩:=zG hm;rw[e];exact h x hx
theorem oV.mulM {N:Int}{p q:List ao}(hp:oV N p)(hq:oV N q):oV N (Eng.mulM p q):=by
 rw[ss];refine oV.dq fun m hm v hv=>?_;obtain⟨x,hx,rfl⟩:=List.mem_map.1 hm;have hv:=(gH _).mem_iff.1 hv;obtain⟨a,ha,hx⟩:=List.mem_flatMap.1 hx;obtain⟨b,hb,rfl⟩:=List.mem_map.1 hx
 rcases List.mem_append.1 hv with h|h
 ·exact hp a ha v h
 exact hq b hb v h
theorem oV.num {N:Int}(q:Rat):oV N [(q,[])]:=fun m hm v hv=>by
 obtain rfl:=List.mem_singleton.1 hm
 cases hv
theorem oV.var {N:Int}{q:Rat}{x:Int}(h:0≤x∧x<N):oV N [(q,[x])]:=fun m hm v hv=>by
 obtain rfl:=List.mem_singleton.1 hm;obtain rfl:=List.mem_singleton.1 hv;exact h
end Go.Eng
namespace Go.Proofs.YtgalhjhdgkoemaaGreat
open Go Go.Eng
open Go.Tw (El aC aG zE aj QB mS ax)
structure Ml (fr ml ad:FuncId) (p:List ao) (l:List (List El×El)) (X:Nat→Nat→List El×El) (E:Nat→List El×El):Prop where
 e0:E 0=([],[0])
 x0:∀i,i<p.length→Pr Tryz.prog fr [QV (p.getD i default).1] (nX (X i 0))
 m:∀i,i<p.length→∀k,k<(p.getD i default).2.length→Pr Tryz.prog ml [nX (X i k),nX (l.getD ((p.getD i default).2.getD k 0).toNat default)] (.aJ [nX (X i (k+1)),.one (.int .i64 0)])
 a:∀i,i<p.length→Pr Tryz.prog ad [nX (E i),nX (X i (p.getD i default).2.length)] (.aJ [nX (E (i+1)),.one (.int .i64 0)])
theorem eG {p:List ao}{i:Nat}(h:i<p.length):p.getD i default∈p:=by rw[X7,X8 h];exact List.getElem_mem _
theorem l6 {l:List Int}{k:Nat}(h:k<l.length):l.getD k 0∈l:=by rw[X7,X8 h];exact List.getElem_mem _
theorem Ec:Pr Tryz.prog 32 [.one (.int .i64 0)] (nX ([],[0])):=by
 have c:=bA 0 (by decide) (by decide);have d:=n7 (Rat.ofInt 0) (by decide+kernel) [];refine pw Tryz.func32 ⟨[0,2],[]⟩ ?_;simp only[Tryz.f32,Tryz.ntmps32,iz,seval];simp only[vx,T,seval];refine Cg c ?_;simp only[vx,T,seval,QV,QC];refine Cg d ?_;simp only[vx,T,seval,nX,nV,tC,ag];exact Ve rfl
theorem ub (p:List ao)(l:List (List El×El)){d:Nat}(hn:p.length<2^30)(hd:d<2^30)(hpd:∀m∈p,m.2.length≤d)(hl:l.length<2^30)(r:V)
  (hr:oV l.length p→∃X E,Ml 33 34 35 p l X E∧r= .aJ [nX (E p.length),.one (.int .i64 0)]) (hb:¬oV l.length p→r= .aJ [.agg [.nil,.nil],.one (.int .i64 1)]):
  Pr Tryz.prog 9 [PV p,.one (aZ l)] r:=by
 refine pw Tryz.func9 ⟨[0,1,4,5,7,9,10,12,13,14,16,17,18,19,20,24,25,26,27,37,42,43,44,45,52,53,54,55,68,79],[(20,(.cons 9 [8] (.cons 10 [] .nil .nil) .nil))]⟩ ?_;simp only[Tryz.f9,Tryz.ntmps9,iz,seval];simp only[vx,T,seval,PV,PC,aZ];refine Lk (fun y:{i:Nat//i≤p.length∧∀j,j<i→∀v∈(p.getD j default).2,0≤v∧v<(l.length:Int)}=>⟨[(0,PV p),(1,.one (aZ l)),(4,.one (.ptr 1 0)),(5,.one (.int .i64 0)),(17,PV p),(18,.one (.int .i64 p.length)),(19,.one (.int .i64 y.1))],[(1,⟨.var [.nil,.nil],true⟩)],6,84⟩) (fun y=>p.length-y.1) ⟨0,Nat.zero_le _,fun j hj=>absurd hj (Nat.not_lt_zero _)⟩ ?_ (fun⟨i,hi,hin⟩=>?_)
 ·refine Sa ?_;simp only[ry,seval,rz,PV,PC,aZ]
 have i1:=wI i (by omega);simp only[vx,T,seval,PV,PC,aZ];refine⟨fun g=>Lg ?_,fun g=>Lg ?_⟩
 ·have hil:i<p.length:=by omega
  have hdl:=hpd _ (eG hil);have hnot:∀v∈(p.getD i default).2,¬(0≤v∧v<(l.length:Int))→r= .aJ [.agg [.nil,.nil],.one (.int .i64 1)]:=fun v hv hx=>hb fun H=>hx (H _ (eG hil) v hv);obtain⟨a,ha⟩:∃a,a=p.getD i default:=⟨_,rfl⟩;rw[←ha]at hdl hnot;simp only[vx,T,seval,PV,PC,aZ,←ha,mC];refine⟨by omega,?_⟩;refine Lk (fun y:{k:Nat//k≤a.2.length∧∀j,j<k→0≤a.2.getD j 0∧a.2.getD j 0<(l.length:Int)}=>⟨[(0,PV p),(1,.one (aZ l)),(4,.one (.ptr 1 0)),(5,.one (.int .i64 0)),(17,PV p),(18,.one (.int .i64 p.length)),(19,.one (.int .i64 i)),(24,.one (.ints .i64 a.2)),(25,.one (.int .i64 a.2.length)),(26,.one (.int .i64 y.1))],[(1,⟨.var [.nil,.nil],true⟩)],27,84⟩) (fun y=>a.2.length-y.1) ⟨0,Nat.zero_le _,fun j hj=>absurd hj (Nat.not_lt_zero _)⟩ ?_ (fun⟨k,hk,hkn⟩=>?_)
  ·refine Sa ?_;simp only[ry,seval,rz,PV,PC,aZ]
  have k1:IntKind.i64.wrap ((k:Int)+1)=((k+1:Nat):Int):=by rw[IntWalk.i64_in _ (by omega)];omega
  simp only[vx,T,seval,PV,PC,aZ];refine⟨fun g2=>Lg ?_,fun g2=>Lg ?_⟩
  ·have hkl:k<a.2.length:=by omega
   have hbx:=hnot _ (l6 hkl);have hkn':∀x,a.2.getD k 0=x→0≤x∧x<(l.length:Int)→∀j,j<k+1→0≤a.2.getD j 0∧a.2.getD j 0<(l.length:Int):=fun x hx h j hj=>by
    by_cases hjk:j<k
    ·exact hkn j hjk
    obtain rfl:j=k:=by omega
    rw[hx];exact h
   obtain⟨x,hxe⟩:∃x,x=a.2.getD k 0:=⟨_,rfl⟩;rw[←hxe]at hbx;simp only[vx,T,seval,PV,PC,aZ,←hxe];refine⟨⟨by omega,by omega⟩,fun h=>Lg ?_,fun h=>Lg ?_⟩
   ·rw[hbx (by omega)];simp only[vx,T,seval,PV,PC,aZ];exact Ve rfl
   simp only[vx,T,seval,PV,PC,aZ];refine⟨fun h'=>Lg ?_,fun h'=>Lg ?_⟩
   ·rw[hbx (by omega)];simp only[vx,T,seval,PV,PC,aZ];exact Ve rfl
   simp only[vx,T,seval,PV,PC,aZ];simp only[k1];refine Lq ⟨k+1,by omega,hkn' x hxe.symm ⟨by omega,by omega⟩⟩ ?_ ?_
   ·refine Sa ?_;simp only[ry,seval,rz,PV,PC,aZ]
   simp only;omega
  have hkl:k=a.2.length:=by omega
  subst hkl;simp only[vx,T,seval,PV,PC,aZ];simp only[i1];refine Lq ⟨i+1,by omega,fun j hj v hv=>?_⟩ ?_ ?_
  ·by_cases hji:j<i
   ·exact hin j hji v hv
   obtain rfl:j=i:=by omega
   rw[←ha]at hv;obtain⟨k,hk,rfl⟩:=List.mem_iff_getElem.1 hv
   have:=hkn k hk
   rwa [X7,X8 hk]at this
  ·refine Sa ?_;simp only[ry,seval,rz,PV,PC,aZ]
  simp only;omega
 have hV:oV l.length p:=fun m hm v hv=>by
  obtain⟨j,hj,rfl⟩:=List.mem_iff_getElem.1 hm;refine hin j (by omega) v ?_
  rwa [X7,X8 hj]
 obtain⟨X,E,H,rfl⟩:=hr hV;clear g i1 hin hb hr;obtain⟨e0,x0,mm,aa⟩:=H;have e1:(E 0).1=[]:=by rw[e0]
 have e2:(E 0).2=[0]:=by rw[e0]
 have e3:(E 0).1.length=0:=by rw[e0];rfl
 simp only[vx,T,seval,PV,PC,aZ];refine Cg Ec ?_;simp only[vx,T,seval,nX,nV,PV,PC,aZ,tC,ag];refine Lk (fun y:{i:Nat//i≤p.length}=>⟨[(1,.one (aZ l)),(4,.one (.ptr 1 0)),(5,.one (.int .i64 0)),(10,.one (.ptr 8 0)),(42,PV p),(43,.one (.int .i64 p.length)),(44,.one (.int .i64 y.1))],[(1,⟨.var [.nil,.nil],true⟩),(8,⟨.var [tC (E y.1).1.length (E y.1).1,ag (E y.1).2],true⟩)],12,84⟩) (fun y=>p.length-y.1) ⟨0,Nat.zero_le _⟩ ?_ (fun⟨i,hi⟩=>?_)
 ·refine Sa ?_;simp only[ry,seval,rz,PV,PC,aZ,tC,ag,e1,e2,e3]
 have i1:=wI i (by omega);simp only[vx,T,seval,PV,PC,aZ,tC,ag];refine⟨fun g=>Lg ?_,fun g=>Lg ?_⟩
 ·have hil:i<p.length:=by omega
  have cf:=x0 i hil;have cm:=mm i hil;have ca:=aa i hil;have hdl:=hpd _ (eG hil);have hvi:=hV _ (eG hil);obtain⟨a,ha⟩:∃a,a=p.getD i default:=⟨_,rfl⟩;rw[←ha]at cf cm ca hdl hvi;simp only[vx,T,seval,PV,PC,aZ,tC,ag,←ha,mC];refine⟨by omega,Cg cf ?_⟩;simp only[vx,T,seval,PV,PC,aZ,nX,nV,tC,ag];refine Lk (fun y:{k:Nat//k≤a.2.length}=>⟨[(1,.one (aZ l)),(4,.one (.ptr 1 0)),(5,.one (.int .i64 0)),(10,.one (.ptr 8 0)),(13,.one (.ptr 19 0)),(14,.one (.int .i64 0)),(42,PV p),(43,.one (.int .i64 p.length)),(44,.one (.int .i64 i)),(52,.one (.ints .i64 a.2)),(53,.one (.int .i64 a.2.length)),(54,.one (.int .i64 y.1))],[(1,⟨.var [.nil,.nil],true⟩),(8,⟨.var [tC (E i).1.length (E i).1,ag (E i).2],true⟩),(19,⟨.var [tC (X i y.1).1.length (X i y.1).1,ag (X i y.1).2],true⟩)],25,84⟩) (fun y=>a.2.length-y.1) ⟨0,Nat.zero_le _⟩ ?_ (fun⟨k,hk⟩=>?_)
  ·refine Sa ?_;simp only[ry,seval,rz,PV,PC,aZ,tC,ag]
  have k1:IntKind.i64.wrap ((k:Int)+1)=((k+1:Nat):Int):=by rw[IntWalk.i64_in _ (by omega)];omega
  simp only[vx,T,seval,PV,PC,aZ,tC,ag];refine⟨fun g2=>Lg ?_,fun g2=>Lg ?_⟩
  ·have hkl:k<a.2.length:=by omega
   have hx:=hvi _ (l6 hkl);have cmk:=cm k hkl;obtain⟨x,hxe⟩:∃x,x=a.2.getD k 0:=⟨_,rfl⟩;rw[←hxe]at hx cmk;obtain⟨y,hy⟩:∃y,y=l.getD x.toNat default:=⟨_,rfl⟩;rw[←hy]at cmk;simp only[vx,T,seval,PV,PC,aZ,tC,ag,←hxe,fU,←hy,ir];refine⟨⟨by omega,by omega⟩,⟨by omega,by omega⟩,Cg cmk ?_⟩;simp only[vx,T,seval,PV,PC,aZ,nX,nV,tC,ag];simp only[k1];refine Lq ⟨k+1,by omega⟩ ?_ ?_
   ·refine Sa ?_;simp only[ry,seval,rz,PV,PC,aZ,tC,ag]
   simp only;omega
  have hkl:k=a.2.length:=by omega
  subst hkl;simp only[vx,T,seval,PV,PC,aZ,nX,nV,tC,ag];refine Cg ca ?_;simp only[vx,T,seval,PV,PC,aZ,nX,nV,tC,ag];simp only[i1];refine Lq ⟨i+1,by omega⟩ ?_ ?_
  ·refine Sa ?_;simp only[ry,seval,rz,PV,PC,aZ,tC,ag]
  simp only;omega
 have hil:i=p.length:=by omega
 subst hil;simp only[vx,T,seval,PV,PC,aZ,nX,nV,tC,ag];exact jJ.refl _
open Go Go.Eng
open Go.Tw (El ax bY TG)
theorem ON (l:List (List El×El))(hl:l.length<2^38)(h:∀i,i<l.length→Pr Tryz.prog 31 [nX (l.getD i default)] (.one (.bool true))):Pr Tryz.prog 8 [.one (aZ l)] (.one (.bool true)):=by
 refine pw Tryz.func8 ⟨[0,2,3,7,15],[]⟩ ?_;simp only[Tryz.f8,Tryz.ntmps8,iz,seval];simp only[vx,T,seval,aZ];refine Lk (fun y:{i:Nat//i≤l.length}=>⟨[(0,.one (aZ l)),(2,.one (.bool false)),(3,.one (.int .i64 y.1))],[],1,16⟩) (fun y=>l.length-y.1) ⟨0,Nat.zero_le _⟩ ?_ (fun⟨i,hi⟩=>?_)
 ·refine Sa ?_;simp only[ry,seval,rz,aZ]
 simp only;have wi:IntKind.i64.wrap ((i:Int)+1)=((i+1:Nat):Int):=by rw[IntWalk.i64_in _ (by omega)];omega
 simp only[vx,T,seval,aZ];refine⟨fun g=>Lg ?_,fun g=>Lg ?_⟩
 ·have c:=h i (by omega);obtain⟨x,hx⟩:∃x,x=l.getD i default:=⟨_,rfl⟩;rw[←hx]at c;simp only[vx,T,seval,aZ,fU,←hx,ir];refine⟨by omega,Cg c ?_⟩;simp only[vx,T,seval,aZ,wi];refine Lq ⟨i+1,by omega⟩ ?_ (by show l.length-(i+1)<l.length-i;omega);refine Sa ?_;simp only[ry,seval,rz,aZ]
 simp only[vx,T,seval,aZ];exact Ve rfl
theorem pE (p:List ao)(n:Nat){d:Nat}(hn:p.length<2^30)(hd:d<2^30)(hpd:∀m∈p,m.2.length≤d){b:Bool}(hb:b=true↔oV n p):Pr Tryz.prog 36 [PV p,.one (.int .i64 n)] (.one (.bool b)):=by
 refine pw Tryz.func36 ⟨[0,1,4,5,6,10,20,43],[]⟩ ?_;simp only[Tryz.f36,Tryz.ntmps36,iz,seval];simp only[vx,T,seval,PV,PC];refine Lk (fun y:{i:Nat//i≤p.length∧∀j,j<i→∀v∈(p.getD j default).2,0≤v∧v<(n:Int)}=>⟨[(0,PV p),(1,.one (.int .i64 n)),(4,.one (.bool false)),(5,.one (.int .i64 y.1))],[],1,44⟩) (fun y=>p.length-y.1) ⟨0,Nat.zero_le _,fun j hj=>absurd hj (Nat.not_lt_zero _)⟩ ?_ (fun⟨i,hi,hin⟩=>?_)
 ·refine Sa ?_;simp only[ry,seval,rz,PV,PC]
 have i1:=wI i (by omega);simp only[vx,T,seval,PV,PC];refine⟨fun g=>Lg ?_,fun g=>Lg ?_⟩
 ·have hil:i<p.length:=by omega
  have hdl:=hpd _ (eG hil);have hnot:∀v∈(p.getD i default).2,¬(0≤v∧v<(n:Int))→b=false:=fun v hv hx=>by
   cases b with
   |false=>rfl
   |true=>exact absurd (hb.1 rfl _ (eG hil) v hv) hx
  obtain⟨a,ha⟩:∃a,a=p.getD i default:=⟨_,rfl⟩;rw[←ha]at hdl hnot;simp only[vx,T,seval,PV,PC,←ha,mC];refine Lk (fun y:{k:Nat//k≤a.2.length∧∀j,j<k→0≤a.2.getD j 0∧a.2.getD j 0<(n:Int)}=>⟨[(0,PV p),(1,.one (.int .i64 n)),(4,.one (.bool false)),(5,.one (.int .i64 i)),(6,.one (.int .i64 y.1))],[],1,44⟩) (fun y=>a.2.length-y.1) ⟨0,Nat.zero_le _,fun j hj=>absurd hj (Nat.not_lt_zero _)⟩ ?_ (fun⟨k,hk,hkn⟩=>?_)
  ·refine Sa ?_;simp only[ry,seval,rz,PV,PC]
  have k1:IntKind.i64.wrap ((k:Int)+1)=((k+1:Nat):Int):=by rw[IntWalk.i64_in _ (by omega)];omega
  simp only[vx,T,seval,PV,PC,←ha,mC];refine⟨by omega,fun g2=>Lg ?_,fun g2=>Lg ?_⟩
  ·have hkl:k<a.2.length:=by omega
   have hbx:=hnot _ (l6 hkl);have hkn':∀x,a.2.getD k 0=x→0≤x∧x<(n:Int)→∀j,j<k+1→0≤a.2.getD j 0∧a.2.getD j 0<(n:Int):=fun x hx h j hj=>by
    by_cases hjk:j<k
    ·exact hkn j hjk
    obtain rfl:j=k:=by omega
    rw[hx];exact h
   obtain⟨x,hxe⟩:∃x,x=a.2.getD k 0:=⟨_,rfl⟩;rw[←hxe]at hbx;simp only[vx,T,seval,PV,PC,←ha,mC,←hxe];refine⟨by omega,by omega,fun h=>Lg ?_,fun h=>Lg ?_⟩
   ·rw[hbx (by omega)];simp only[vx,T,seval,PV,PC];exact Ve rfl
   simp only[vx,T,seval,PV,PC,←ha,mC,←hxe];refine⟨by omega,by omega,fun h'=>Lg ?_,fun h'=>Lg ?_⟩
   ·rw[hbx (by omega)];simp only[vx,T,seval,PV,PC];exact Ve rfl
   simp only[vx,T,seval,PV,PC,k1];refine Lq ⟨k+1,by omega,hkn' x hxe.symm ⟨by omega,by omega⟩⟩ ?_ (by show a.2.length-(k+1)<a.2.length-k;omega);refine Sa ?_;simp only[ry,seval,rz,PV,PC]
  have hkl:k=a.2.length:=by omega
  subst hkl;simp only[vx,T,seval,PV,PC,i1];refine Lq ⟨i+1,by omega,fun j hj v hv=>?_⟩ ?_ (by show p.length-(i+1)<p.length-i;omega)
  ·by_cases hji:j<i
   ·exact hin j hji v hv
   obtain rfl:j=i:=by omega
   rw[←ha]at hv;obtain⟨k,hk,rfl⟩:=List.mem_iff_getElem.1 hv
   have:=hkn k hk
   rwa [X7,X8 hk]at this
  refine Sa ?_;simp only[ry,seval,rz,PV,PC]
 rw[show b=true from hb.2 fun m hm v hv=>by
  obtain⟨j,hj,rfl⟩:=List.mem_iff_getElem.1 hm;refine hin j (by omega) v ?_
  rwa [X7,X8 hj]]
 simp only[vx,T,seval,PV,PC];exact Ve rfl
theorem tG (p:List ao)(l:List (List El×El)){d:Nat}(hn:p.length<2^30)(hd:d<2^30)(hpd:∀m∈p,m.2.length≤d)(hl:l.length<2^30)(r:V)
  (hr:oV l.length p→∃X E,Ml 38 15 14 p l X E∧r= .aJ [nX (E p.length),.one (.int .i64 0)]) (hb:¬oV l.length p→r= .aJ [.agg [.nil,.nil],.one (.int .i64 1)]):
  Pr Tryz.prog 10 [PV p,.one (aZ l)] r:=by
 have r0:Pr Tryz.prog 37 [.one (.int .i64 0)] (nX ([],[0])):=Fz 0 (by decide) (by decide)
 by_cases hV:oV l.length p
 ·have ci:=pE p l.length hn hd hpd (b:=true) ⟨fun _=>hV,fun _=>rfl⟩;obtain⟨X,E,H,rfl⟩:=hr hV;clear hb hr;obtain⟨e0,x0,mm,aa⟩:=H;have e1:(E 0).1=[]:=by rw[e0]
  have e2:(E 0).2=[0]:=by rw[e0]
  have e3:(E 0).1.length=0:=by rw[e0];rfl
  refine pw Tryz.func10 ⟨[0,1,4,5,6,7,8,9,10,15,21,37,57,67],[(12,(.cons 16 [15] (.cons 17 [] .nil .nil) .nil))]⟩ ?_;simp only[Tryz.f10,Tryz.ntmps10,iz,seval];simp only[vx,T,seval,PV,PC,aZ];refine Cg ci ?_;simp only[vx,T,seval,PV,PC,aZ];refine Cg r0 ?_;simp only[vx,T,seval,nX,nV,PV,PC,aZ,tC,ag];refine Lk (fun y:{i:Nat//i≤p.length}=>⟨[(0,PV p),(1,.one (aZ l)),(4,.one (.ptr 1 0)),(5,.one (.int .i64 0)),(6,.one (.ptr 2 0)),(7,.one (.int .i64 y.1))],[(1,⟨.var [.nil,.nil],true⟩),(2,⟨.var [tC (E y.1).1.length (E y.1).1,ag (E y.1).2],true⟩)],3,71⟩) (fun y=>p.length-y.1) ⟨0,Nat.zero_le _⟩ ?_ (fun⟨i,hi⟩=>?_)
  ·refine Sa ?_;simp only[ry,seval,rz,PV,PC,aZ,tC,ag,e1,e2,e3]
  simp only;have i1:=wI i (by omega);simp only[vx,T,seval,PV,PC,aZ,tC,ag];refine⟨fun g=>Lg ?_,fun g=>Lg ?_⟩
  ·have hil:i<p.length:=by omega
   have cf:=x0 i hil;have cm:=mm i hil;have ca:=aa i hil;have hdl:=hpd _ (eG hil);have hvi:=hV _ (eG hil);obtain⟨a,ha⟩:∃a,a=p.getD i default:=⟨_,rfl⟩;rw[←ha]at cf cm ca hdl hvi;simp only[vx,T,seval,PV,PC,aZ,tC,ag,←ha,mC];refine⟨by omega,Cg cf ?_⟩;simp only[vx,T,seval,PV,PC,aZ,nX,nV,tC,ag];refine Lk (fun y:{k:Nat//k≤a.2.length}=>⟨[(0,PV p),(1,.one (aZ l)),(4,.one (.ptr 1 0)),(5,.one (.int .i64 0)),(6,.one (.ptr 2 0)),(7,.one (.int .i64 i)),(8,.one (.ptr 3 0)),(9,.one (.int .i64 0)),(10,.one (.int .i64 y.1))],[(1,⟨.var [.nil,.nil],true⟩),(2,⟨.var [tC (E i).1.length (E i).1,ag (E i).2],true⟩),(3,⟨.var [tC (X i y.1).1.length (X i y.1).1,ag (X i y.1).2],true⟩)],4,71⟩) (fun y=>a.2.length-y.1) ⟨0,Nat.zero_le _⟩ ?_ (fun⟨k,hk⟩=>?_)
   ·refine Sa ?_;simp only[ry,seval,rz,PV,PC,aZ,tC,ag]
   simp only;have k1:IntKind.i64.wrap ((k:Int)+1)=((k+1:Nat):Int):=by rw[IntWalk.i64_in _ (by omega)];omega
   simp only[vx,T,seval,PV,PC,aZ,tC,ag,←ha,mC];refine⟨by omega,fun g2=>Lg ?_,fun g2=>Lg ?_⟩
   ·have hkl:k<a.2.length:=by omega
    have hx:=hvi _ (l6 hkl);have cmk:=cm k hkl;obtain⟨x,hxe⟩:∃x,x=a.2.getD k 0:=⟨_,rfl⟩;rw[←hxe]at hx cmk;obtain⟨y,hy⟩:∃y,y=l.getD x.toNat default:=⟨_,rfl⟩;rw[←hy]at cmk;simp only[vx,T,seval,PV,PC,aZ,tC,ag,←ha,mC,←hxe,fU,←hy,ir];refine⟨by omega,by omega,by omega,Cg cmk ?_⟩;simp only[vx,T,seval,PV,PC,aZ,nX,nV,tC,ag,k1];refine Lq ⟨k+1,by omega⟩ ?_ (by show a.2.length-(k+1)<a.2.length-k;omega);refine Sa ?_;simp only[ry,seval,rz,PV,PC,aZ,tC,ag]
   have hkl:k=a.2.length:=by omega
   subst hkl;simp only[vx,T,seval,PV,PC,aZ,nX,nV,tC,ag];refine Cg ca ?_;simp only[vx,T,seval,PV,PC,aZ,nX,nV,tC,ag,i1];refine Lq ⟨i+1,by omega⟩ ?_ (by show p.length-(i+1)<p.length-i;omega);refine Sa ?_;simp only[ry,seval,rz,PV,PC,aZ,tC,ag]
  have hil:i=p.length:=by omega
  subst hil;simp only[vx,T,seval,PV,PC,aZ,nX,nV,tC,ag];exact jJ.refl _
 have ci:=pE p l.length hn hd hpd (b:=false) ⟨fun e=>(by cases e),fun h=>absurd h hV⟩;rw[hb hV];refine pw Tryz.func10 ⟨[0,1,4,5,6,7,8,9,10,15,21,37,57,67],[(12,(.cons 16 [15] (.cons 17 [] .nil .nil) .nil))]⟩ ?_;simp only[Tryz.f10,Tryz.ntmps10,iz,seval];simp only[vx,T,seval,PV,PC,aZ];refine Cg ci ?_;simp only[vx,T,seval,PV,PC,aZ];exact Ve rfl
open Go Go.Eng
open Go.Tw (El ax bY TG qN mS tB jβ jμ lR)
noncomputable def xv (l:List (List El×El))(v:Int):R:=Go.Tw.val (l.getD v.toNat default).1.length (l.getD v.toNat default).1 (l.getD v.toNat default).2
structure GZ (A:List R) (fr ml ad:FuncId):Prop where
 fr:∀q,qm q<2^36→Pr Tryz.prog fr [QV q] (nX ([],[q]))
 ml:∀{x y:List El×El} {vx vy:R} {βx μx βy μy:Nat},ax A x.1 x.2 vx βx μx→ax A y.1 y.2 vy βy μy→Sm βx μx→Sm βy μy→βy≤jβ→μy≤jμ→(∀h,h≤3→mS h (qN h βx μx+qN h βy μy) tB<2^34)→
  ∃z:List El×El,ax A z.1 z.2 (vx*vy) (βx+βy) (μx+μy)∧Pr Tryz.prog ml [nX x,nX y] (.aJ [nX z,.one (.int .i64 0)])
 ad:∀{x y:List El×El} {vx vy:R} {βx μx βy μy:Nat},ax A x.1 x.2 vx βx μx→ax A y.1 y.2 vy βy μy→Sm βx μx→Sm βy μy→βy≤jβ→μy≤jμ→
  ∃z:List El×El,ax A z.1 z.2 (vx+vy) (βx+βy+1) (μx+μy)∧Pr Tryz.prog ad [nX x,nX y] (.aJ [nX z,.one (.int .i64 0)])
theorem O1 {A:List R}(S:Go.Tw.Src 64 A)(hA:A.length≤3):GZ A 33 34 35:=⟨fun q h=>n7 q h [],Ej S hA,E9 S hA⟩
theorem OU {A:List R}(S:Go.Tw.Src 64 A)(hA:A.length≤3):GZ A 38 15 14:=⟨fun q _=>qZ q [],kT S hA,lI S hA⟩
theorem Dd {A:List R}{c:Rat}{B:Nat}(h:qm c≤B):ax A [] [c] (R.q c) (32*B) 0:=by
 have hb:Go.Tw.iD (32*B) [c]:=Go.Tw.QB.bits fun x hx=>by rw[List.mem_singleton.1 hx];exact h
 obtain⟨h1,h2⟩:=hb c (by simp);exact⟨⟨⟨fun i hi=>absurd hi (Nat.not_lt_zero _),fun i hi=>absurd hi (Nat.not_lt_zero _)⟩,fun i hi=>absurd hi (Nat.not_lt_zero _)⟩,rfl,rfl,lR.rat h1 h2⟩
theorem Ng:∀h,h≤3→mS h (qN h 8000 48+qN h 520 8) tB<2^34:=by
 intro h hh
 match h,hh with
 |0,_=>decide+kernel
 |1,_=>decide+kernel
 |2,_=>decide+kernel
 |3,_=>decide+kernel
theorem Ii (x:Int→R){l:List Int}{k:Nat}(h:k<l.length):oh x (l.take (k+1))=oh x (l.take k)*x (l.getD k 0):=by
 rw[List.take_add_one,uz,X7,X8 h];show _*(x l[k]*R.q 1)=_;rw[R.mul_comm (x l[k]),R.one_mul];rfl
theorem II (x:Int→R){p:List ao}{i:Nat}(h:i<p.length):ja x (p.take (i+1))=ja x (p.take i)+R.q (p.getD i default).1*oh x (p.getD i default).2:=by
 rw[List.take_add_one,oP,X7,X8 h];show _+(R.q p[i].1*oh x p[i].2+R.q 0)=_;rw[R.add_zero];rfl
theorem L2 {A:List R}(hS:Go.Tw.Src 64 A)(hA:A.length≤3){fr ml ad:FuncId}(O:GZ A fr ml ad){p:List ao}{n d B:Nat}(hp:PB p n d B)(hn:n≤16)(hd:d≤6)(hB:B≤144){l:List (List El×El)}(hl:∀x∈l,∃v,bY A 64 x.1 x.2 v)(hV:oV l.length p):
  ∃X E,Ml fr ml ad p l X E∧ax A (E p.length).1 (E p.length).2 (ja (xv l) p) (n*(32*B+520*d+1)+32) (n*(8*d)):=by
 have hx:∀i,∃s:Nat→List El×El,i<p.length→s 0=([],[(p.getD i default).1])∧(∀k,k≤(p.getD i default).2.length→ax A (s k).1 (s k).2 (R.q (p.getD i default).1*oh (xv l) ((p.getD i default).2.take k)) (32*B+520*k) (8*k))∧
   ∀k,k<(p.getD i default).2.length→Pr Tryz.prog ml [nX (s k),nX (l.getD ((p.getD i default).2.getD k 0).toNat default)] (.aJ [nX (s (k+1)),.one (.int .i64 0)]):=by
  intro i
  by_cases hi:i<p.length
  ·obtain⟨g1,g2,_⟩:=hp.get hi;have hv:=hV _ (eG hi);obtain⟨a,ha⟩:∃a,a=p.getD i default:=⟨_,rfl⟩;rw[←ha]at g1 g2 hv⊢;obtain⟨s,e0,hI,hSt⟩:=Go.Tw.chain (α:=List El×El) (x0:=([],[a.1])) (n:=a.2.length)
    (I:=fun k y=>ax A y.1 y.2 (R.q a.1*oh (xv l) (a.2.take k)) (32*B+520*k) (8*k))
    (St:=fun k y y'=>Pr Tryz.prog ml [nX y,nX (l.getD (a.2.getD k 0).toNat default)] (.aJ [nX y',.one (.int .i64 0)]))
    (by
     show ax A [] [a.1] (R.q a.1*R.q 1) _ _;rw[R.mul_comm,R.one_mul];exact Dd g1)
    (fun k y hk hy=>by
     have hvk:=hv _ (l6 hk);obtain⟨w,hw⟩:=hl (l.getD (a.2.getD k 0).toNat default) (by rw[X7,X8 (by omega)];exact List.getElem_mem _);have nw:=nm hS hA hw;have ew:w=xv l (a.2.getD k 0):=hw.val.symm;have hm:∀h,h≤3→mS h (qN h (32*B+520*k) (8*k)+qN h 520 8) tB<2^34:=fun h hh=>Nat.lt_of_le_of_lt (Go.Tw.JK (Nat.add_le_add_right (Go.Tw.sQ (by omega) (by omega)) _)) (Ng h hh);obtain⟨z,nz,c⟩:=O.ml hy nw (.of (by omega) (by omega)) (.of (by decide) (by decide)) (by decide) (by decide) hm;refine⟨z,c,?_⟩;show ax A z.1 z.2 _ _ _;rw[Ii _ hk,←R.mul_assoc,←ew];exact nz)
   exact⟨s,fun _=>⟨e0,hI,hSt⟩⟩
  exact⟨fun _=>default,fun h=>absurd h hi⟩
 obtain⟨X,hX⟩:=Classical.axiomOfChoice hx;obtain⟨E,e0,hI,hSt⟩:=Go.Tw.chain (α:=List El×El) (x0:=([],[0])) (n:=p.length)
  (I:=fun i y=>ax A y.1 y.2 (ja (xv l) (p.take i)) (i*(32*B+520*d+1)+32) (i*(8*d)))
  (St:=fun i y y'=>Pr Tryz.prog ad [nX y,nX (X i (p.getD i default).2.length)] (.aJ [nX y',.one (.int .i64 0)]))
  (by
   show ax A [] [0] (R.q 0) _ _;rw[Nat.zero_mul,Nat.zero_mul];exact Dd (B:=1) (by decide+kernel))
  (fun i y hi hy=>by
   obtain⟨_,g2,_⟩:=hp.get hi;have nx:=(hX i hi).2.1 _ (Nat.le_refl _);rw[List.take_length]at nx;have hn':i<n:=Nat.lt_of_lt_of_le hi hp.n;have nx:=nx.mono (β':=32*B+520*d) (μ':=8*d) (by omega) (by omega);have m1:i*(32*B+520*d+1)≤16*(32*B+520*d+1):=Nat.mul_le_mul_right _ (by omega);have m2:i*(8*d)≤16*(8*d):=Nat.mul_le_mul_right _ (by omega);obtain⟨z,nz,c⟩:=O.ad hy nx (.of (by omega) (by omega)) (.of (by omega) (by omega)) (by show _≤2^18;omega) (by show _≤192;omega);refine⟨z,c,?_⟩;show ax A z.1 z.2 _ _ _;rw[II _ hi];exact nz.mono (by rw[Nat.add_mul];omega) (by rw[Nat.add_mul];omega))
 refine⟨X,E,⟨e0,fun i hi=>?_,fun i hi k hk=>(hX i hi).2.2 k hk,hSt⟩,?_⟩
 ·rw[(hX i hi).1];exact O.fr _ (by have:=(hp.get hi).1;omega)
 have h:=hI _ (Nat.le_refl _);rw[List.take_length]at h;exact h.mono (Nat.add_le_add_right (Nat.mul_le_mul_right _ hp.n) _) (Nat.mul_le_mul_right _ hp.n)
end Go.Proofs.YtgalhjhdgkoemaaGreat
/-
  slices.Sort of integers: the shelf's contract at this program, in plain words (written by the kit's lay-shelf.mjs and lay-plain.mjs).
-/
namespace Go.Proofs
open Go.Shelf
def Tryz.yF:Go.Shelf.Ren:=⟨fun|189=>43|125=>88|257=>87|128=>134|129=>135|294=>125|295=>126|296=>127|297=>128|298=>129|299=>130|216=>131|300=>132|301=>133|328=>179|329=>180|330=>181|331=>182|332=>183|215=>175|343=>215|n=>n,fun|28=>52|3=>3|46=>120|0=>0|51=>137|53=>133|4=>4|183=>145|182=>144|131=>150|5=>5|9=>9|218=>181|222=>185|228=>202|229=>203|n=>n,fun|n=>n⟩
theorem Tryz.C1:Go.Proofs.Lays.n189 Tryz.prog Tryz.yF:={
 mixed:=by kernel_rfl
 f125:=Tryz.func88.trans (congrArg some (by kernel_rfl))
 f128:=Tryz.func134.trans (congrArg some (by kernel_rfl))
 f129:=Tryz.func135.trans (congrArg some (by kernel_rfl))
 f189:=Tryz.func43.trans (congrArg some (by kernel_rfl))
 f215:=Tryz.func175.trans (congrArg some (by kernel_rfl))
 f216:=Tryz.func131.trans (congrArg some (by kernel_rfl))
 f257:=Tryz.func87.trans (congrArg some (by kernel_rfl))
 f294:=Tryz.func125.trans (congrArg some (by kernel_rfl))
 f295:=Tryz.func126.trans (congrArg some (by kernel_rfl))
 f296:=Tryz.func127.trans (congrArg some (by kernel_rfl))
 f297:=Tryz.func128.trans (congrArg some (by kernel_rfl))
 f298:=Tryz.func129.trans (congrArg some (by kernel_rfl))
 f299:=Tryz.func130.trans (congrArg some (by kernel_rfl))
 f300:=Tryz.func132.trans (congrArg some (by kernel_rfl))
 f301:=Tryz.func133.trans (congrArg some (by kernel_rfl))
 f328:=Tryz.func179.trans (congrArg some (by kernel_rfl))
 f329:=Tryz.func180.trans (congrArg some (by kernel_rfl))
 f330:=Tryz.func181.trans (congrArg some (by kernel_rfl))
 f331:=Tryz.func182.trans (congrArg some (by kernel_rfl))
 f332:=Tryz.func183.trans (congrArg some (by kernel_rfl))
 f343:=Tryz.func215.trans (congrArg some (by kernel_rfl))
 t0:=Tryz.underlying0
 a0:=Tryz.isAgg0
 z0:=Tryz.sizeOf0
 v0:=Tryz.zeroValue0
 t3:=Tryz.underlying3
 a3:=Tryz.isAgg3
 z3:=Tryz.sizeOf3
 v3:=Tryz.zeroValue3
 t4:=Tryz.underlying4
 a4:=Tryz.isAgg4
 z4:=Tryz.sizeOf4
 v4:=Tryz.zeroValue4
 t5:=Tryz.underlying5
 a5:=Tryz.isAgg5
 z5:=Tryz.sizeOf5
 v5:=Tryz.zeroValue5
 t9:=Tryz.underlying9
 a9:=Tryz.isAgg9
 z9:=Tryz.sizeOf9
 v9:=Tryz.zeroValue9
 t28:=Tryz.underlying52
 a28:=Tryz.isAgg52
 z28:=Tryz.sizeOf52
 v28:=Tryz.zeroValue52
 t46:=Tryz.underlying120
 a46:=Tryz.isAgg120
 z46:=Tryz.sizeOf120
 v46:=Tryz.zeroValue120
 t51:=Tryz.underlying137
 a51:=Tryz.isAgg137
 z51:=Tryz.sizeOf137
 v51:=Tryz.zeroValue137
 t53:=Tryz.underlying133
 a53:=Tryz.isAgg133
 z53:=Tryz.sizeOf133
 v53:=Tryz.zeroValue133
 t131:=Tryz.underlying150
 a131:=Tryz.isAgg150
 z131:=Tryz.sizeOf150
 v131:=Tryz.zeroValue150
 t182:=Tryz.underlying144
 a182:=Tryz.isAgg144
 z182:=Tryz.sizeOf144
 v182:=Tryz.zeroValue144
 t183:=Tryz.underlying145
 a183:=Tryz.isAgg145
 z183:=Tryz.sizeOf145
 v183:=Tryz.zeroValue145
 t218:=Tryz.underlying181
 a218:=Tryz.isAgg181
 z218:=Tryz.sizeOf181
 v218:=Tryz.zeroValue181
 t222:=Tryz.underlying185
 a222:=Tryz.isAgg185
 z222:=Tryz.sizeOf185
 v222:=Tryz.zeroValue185
 t228:=Tryz.underlying202
 a228:=Tryz.isAgg202
 z228:=Tryz.sizeOf202
 v228:=Tryz.zeroValue202
 t229:=Tryz.underlying203
 a229:=Tryz.isAgg203
 z229:=Tryz.sizeOf203
 v229:=Tryz.zeroValue203}
open Go.Sort Go.RowKit in
theorem Tryz.slices_Sort_int (oB off cap:Nat)(zs:List Int)(w:World)(hH:Holds (Value.int .i64) w oB off zs.toArray)(hblk:oB<w.heap.size)(hsz:zs.length<4611686018427387904):
  Calls Tryz.prog 43 #[.slice (some ⟨oB,off,none⟩) zs.length cap] w fun e w'=>
   e= .returned (.tuple #[])∧∃n os,w'=grow (putRow (Value.int .i64) (Sort.ahead w n) oB off (zs.mergeSort fun x y=>decide (x≤y)).toArray) os:=Any.slices_Sort_int Tryz.C1 oB off cap zs w hH hblk hsz
open Go.Sort Go.RowKit in
theorem Tryz.slices_Sort_int_none (p:Option Addr)(cap:Nat)(w:World):
  Calls Tryz.prog 43 #[.slice p 0 cap] w fun e w'=>e= .returned (.tuple #[])∧w'=w:=Any.slices_Sort_int_none Tryz.C1 p cap w
end Go.Proofs
/-
  Merging two sorted parts of a list in place (SymMerge).
-/
namespace Go.Eng
variable {α:Type}[Inhabited α]
def fB (xs:List α)(s m e k:Nat):α:=
 if k<s then xs.getD k default else if k<s+(e-m)then xs.getD (k+(m-s)) default else if k<e then xs.getD (k-(e-m)) default else xs.getD k default
def EX (xs:List α)(a b n k:Nat):α:=
 if a≤k∧k<a+n then xs.getD (k+(b-a)) default else if b≤k∧k<b+n then xs.getD (k-(b-a)) default else xs.getD k default
theorem Im (xs:List α)(a b k:Nat):EX xs a b 0 k=xs.getD k default:=by
 unfold EX;rw[if_neg (by omega),if_neg (by omega)]
theorem Ha {xs ys:List α}{a b i:Nat}(h:∀k,ys.getD k default=EX xs a b i k)(hab:a+i<b)(hb:b+i<ys.length)(k:Nat):
  (swp ys (a+i) (b+i)).getD k default=EX xs a b (i+1) k:=by
 rw[swp_get (by omega) (by omega),h,h,h];unfold EX
 (repeat' split)<;>first|(exfalso;omega)|rfl|(congr 1;omega)
theorem Gp {ys zs:List α}{i j m:Nat}(h:∀k,zs.getD k default=EX ys (m-i) m j k)(hij:j<i)(him:i≤m)(k:Nat):
  fB zs (m-(i-j)) m (m+j) k=fB ys (m-i) m (m+j) k:=by
 unfold fB;simp only[h];unfold EX
 (repeat' split)<;>first|(exfalso;omega)|rfl|(congr 1;omega)
theorem EN {ys zs:List α}{i j m:Nat}(h:∀k,zs.getD k default=EX ys (m-i) (m+j-i) i k)(hij:i<j)(him:i≤m)(k:Nat):
  fB zs (m-i) m (m+(j-i)) k=fB ys (m-i) m (m+j) k:=by
 unfold fB;simp only[h];unfold EX
 (repeat' split)<;>first|(exfalso;omega)|rfl|(congr 1;omega)
theorem Mv {ys zs:List α}{i m:Nat}(h:∀k,zs.getD k default=EX ys (m-i) m i k)(him:i≤m)(k:Nat):
  zs.getD k default=fB ys (m-i) m (m+i) k:=by
 rw[h];unfold EX fB
 (repeat' split)<;>first|(exfalso;omega)|rfl|(congr 1;omega)
theorem kF {xs:List α}{s m e:Nat}(h:s=m∨m=e)(hm:s≤m)(he:m≤e)(k:Nat):fB xs s m e k=xs.getD k default:=by
 unfold fB
 (repeat' split)<;>first|rfl|(congr 1;omega)
theorem MD {xs ys:List α}{a k:Nat}(h:∀j,ys.getD j default=fB xs a (a+1) (k+1) j)(hk:a≤k)(hl:k+1<ys.length)(j:Nat):
  (swp ys k (k+1)).getD j default=fB xs a (a+1) (k+2) j:=by
 rw[swp_get (by omega) (by omega),h,h,h];unfold fB
 (repeat' split)<;>first|(exfalso;omega)|rfl|(congr 1;omega)
theorem F2 {xs ys:List α}{m k:Nat}(h:∀j,ys.getD j default=fB xs k m (m+1) j)(hk:0<k)(hkm:k≤m)(hl:m<ys.length)(j:Nat):
  (swp ys k (k-1)).getD j default=fB xs (k-1) m (m+1) j:=by
 rw[swp_get (by omega) (by omega),h,h,h];unfold fB
 (repeat' split)<;>first|(exfalso;omega)|rfl|(congr 1;omega)
section
variable {le:α→α→Prop}(rf:∀x,le x x)(tr:∀{x y z},le x y→le y z→le x z)
include rf
theorem bu.IZ {xs:List α}{lo hi a b:Nat}(h:bu le xs lo hi)(h1:lo≤a)(h2:a≤b)(h3:b<hi):le (xs.getD a default) (xs.getD b default):=by
 by_cases e:a=b
 ·rw[e];exact rf _
 exact h a b h1 (by omega) h3
theorem OS {xs zs:List α}{a b i:Nat}(hs:bu le xs (a+1) b)(hi1:a+1≤i)(hi2:i≤b)(h1:∀h,a+1≤h→h<i→le (xs.getD h default) (xs.getD a default))(h2:∀h,i≤h→h<b→le (xs.getD a default) (xs.getD h default))
  (hz:∀k,zs.getD k default=fB xs a (a+1) i k):bu le zs a b:=by
 intro p q hp hpq hq;rw[hz,hz];have e1:∀k,a≤k→k<b→fB xs a (a+1) i k=if k<i-1 then xs.getD (k+1) default else if k=i-1 then xs.getD a default else xs.getD k default:=by
  intro k hk1 hk2;unfold fB
  (repeat' split)<;>first|(exfalso;omega)|rfl|(congr 1;omega)
 rw[e1 p hp (by omega),e1 q (by omega) hq]
 by_cases c1:p<i-1
 ·rw[if_pos c1]
  by_cases c2:q<i-1
  ·rw[if_pos c2];exact hs _ _ (by omega) (by omega) (by omega)
  rw[if_neg c2]
  by_cases c3:q=i-1
  ·rw[if_pos c3];exact h1 _ (by omega) (by omega)
  rw[if_neg c3];exact bu.IZ rf hs (by omega) (by omega) hq
 rw[if_neg c1,if_neg (show¬q<i-1 by omega),if_neg (show¬q=i-1 by omega)]
 by_cases c3:p=i-1
 ·rw[if_pos c3];exact h2 _ (by omega) hq
 rw[if_neg c3];exact hs _ _ (by omega) hpq hq
theorem Pj {xs zs:List α}{a m i:Nat}(hs:bu le xs a m)(hi1:a≤i)(hi2:i≤m)(h1:∀h,a≤h→h<i→le (xs.getD h default) (xs.getD m default))(h2:∀h,i≤h→h<m→le (xs.getD m default) (xs.getD h default))
  (hz:∀k,zs.getD k default=fB xs i m (m+1) k):bu le zs a (m+1):=by
 intro p q hp hpq hq;rw[hz,hz];have e1:∀k,k<m+1→fB xs i m (m+1) k=if k<i then xs.getD k default else if k=i then xs.getD m default else xs.getD (k-1) default:=by
  intro k hk2;unfold fB
  (repeat' split)<;>first|(exfalso;omega)|rfl|(congr 1;omega)
 rw[e1 p (by omega),e1 q hq]
 by_cases c1:q<i
 ·rw[if_pos c1,if_pos (show p<i by omega)];exact hs _ _ hp hpq (by omega)
 rw[if_neg c1]
 by_cases c2:p<i
 ·rw[if_pos c2]
  by_cases c3:q=i
  ·rw[if_pos c3];exact h1 _ hp c2
  rw[if_neg c3];exact bu.IZ rf hs hp (by omega) (by omega)
 rw[if_neg c2,if_neg (show¬q=i by omega)]
 by_cases c3:p=i
 ·rw[if_pos c3];exact h2 _ (by omega) (by omega)
 rw[if_neg c3];exact hs _ _ (by omega) (by omega) (by omega)
include tr
theorem Dn {xs zs:List α}{a m b bh s e:Nat}(hL:bu le xs a m)(hR:bu le xs m b)(h1:a≤s)(h2:s≤m)(h3:m≤e)(h4:e≤b)(hse:s+e=bh+m)(hsm:s≤bh)
  (c1:s=a∨e=b∨le (xs.getD (s-1) default) (xs.getD e default)) (c2:s=m∨e=m∨le (xs.getD (e-1) default) (xs.getD s default)) (hz:∀k,zs.getD k default=fB xs s m e k):
  bu le zs a s∧bu le zs s bh∧bu le zs bh e∧bu le zs e b∧∀i j,a≤i→i<bh→bh≤j→j<b→le (zs.getD i default) (zs.getD j default):=by
 have z1:∀k,k<s→zs.getD k default=xs.getD k default:=fun k hk=>by rw[hz];unfold fB;rw[if_pos hk]
 have z2:∀k,s≤k→k<bh→zs.getD k default=xs.getD (k+(m-s)) default:=fun k hk1 hk2=>by rw[hz];unfold fB;rw[if_neg (by omega),if_pos (by omega)]
 have z3:∀k,bh≤k→k<e→zs.getD k default=xs.getD (k-(e-m)) default:=fun k hk1 hk2=>by rw[hz];unfold fB;rw[if_neg (by omega),if_neg (by omega),if_pos (by omega)]
 have z4:∀k,e≤k→zs.getD k default=xs.getD k default:=fun k hk1=>by rw[hz];unfold fB;rw[if_neg (by omega),if_neg (by omega),if_neg (by omega)]
 refine⟨fun p q hp hpq hq=>?_,fun p q hp hpq hq=>?_,fun p q hp hpq hq=>?_,fun p q hp hpq hq=>?_,fun i j hi1 hi2 hj1 hj2=>?_⟩
 ·rw[z1 p (by omega),z1 q hq];exact hL _ _ hp hpq (by omega)
 ·rw[z2 p hp (by omega),z2 q (by omega) hq];exact hR _ _ (by omega) (by omega) (by omega)
 ·rw[z3 p hp (by omega),z3 q (by omega) hq];exact hL _ _ (by omega) (by omega) (by omega)
 ·rw[z4 p hp,z4 q (by omega)];exact hR _ _ (by omega) (by omega) (by omega)
 by_cases d1:i<s
 ·rw[z1 i d1]
  by_cases d2:j<e
  ·rw[z3 j hj1 d2];exact hL _ _ hi1 (by omega) (by omega)
  rw[z4 j (by omega)];have c1:le (xs.getD (s-1) default) (xs.getD e default):=by
   rcases c1 with c|c|c
   ·omega
   ·omega
   exact c
  exact tr (bu.IZ rf hL hi1 (show i≤s-1 by omega) (by omega)) (tr c1 (bu.IZ rf hR (by omega) (show e≤j by omega) hj2))
 rw[z2 i (by omega) hi2]
 by_cases d2:j<e
 ·rw[z3 j hj1 d2];have c2:le (xs.getD (e-1) default) (xs.getD s default):=by
   rcases c2 with c|c|c
   ·omega
   ·omega
   exact c
  exact tr (bu.IZ rf hR (by omega) (show i+(m-s)≤e-1 by omega) (by omega)) (tr c2 (bu.IZ rf hL (by omega) (show s≤j-(e-m) by omega) (by omega)))
 rw[z4 j (by omega)];exact hR _ _ (by omega) (by omega) (by omega)
end
omit [Inhabited α]in
theorem parts {xs:List α}{lo hi:Nat}(h1:lo≤hi):xs=xs.take lo++((xs.drop lo).take (hi-lo)++xs.drop hi):=by
 conv=>lhs;rw[←List.take_append_drop lo xs,←List.take_append_drop (hi-lo) (xs.drop lo),List.drop_drop]
 rw[show lo+(hi-lo)=hi by omega]
theorem j7 {xs ys:List α}(hl:xs.length=ys.length)(h:∀k,k<xs.length→xs.getD k default=ys.getD k default):xs=ys:=by
 refine List.ext_getElem hl fun i h1 h2=>?_
 have:=h i h1
 rwa [getD_eq h1,getD_eq h2]at this
theorem Out.bh {xs ys:List α}{lo hi:Nat}(h:Out xs ys lo hi)(h1:lo≤hi)(h2:hi≤xs.length):((ys.drop lo).take (hi-lo)).Perm ((xs.drop lo).take (hi-lo)):=by
 obtain⟨hl,hp,ho⟩:=h;have e1:ys.take lo=xs.take lo:=by
  refine j7 (by simp[hl]) fun k hk=>?_;have hk:k<lo:=by rw[X5]at hk;omega
  rw[X7,X7,List.getElem?_take_of_lt hk,List.getElem?_take_of_lt hk,←X7,←X7];exact ho k (.inl hk)
 have e2:ys.drop hi=xs.drop hi:=by
  refine j7 (by simp[hl]) fun k hk=>?_;rw[X7,X7,List.getElem?_drop,List.getElem?_drop,←X7,←X7];exact ho _ (.inr (by omega))
 rw[parts (xs:=xs) h1,parts (xs:=ys) h1,e1,e2]at hp
 exact List.perm_append_right_iff _|>.1 (List.perm_append_left_iff _|>.1 hp)
theorem Out.mem {xs ys:List α}{lo hi:Nat}(h:Out xs ys lo hi)(h2:hi≤xs.length){i:Nat}(hi1:lo≤i)(hi2:i<hi):∃j,lo≤j∧j<hi∧ys.getD i default=xs.getD j default:=by
 have hp:=h.bh (by omega) h2;have hl:=h.1;have hm:ys.getD i default∈(ys.drop lo).take (hi-lo):=by
  refine List.mem_iff_getElem?.2 ⟨i-lo,?_⟩;rw[List.getElem?_take_of_lt (by omega),List.getElem?_drop,show lo+(i-lo)=i by omega,getD_eq (by omega),X8]
 obtain⟨k,hk⟩:=List.mem_iff_getElem?.1 (hp.mem_iff.1 hm);have hk2:k<hi-lo:=by
  have:=(List.getElem?_eq_some_iff.1 hk).1
  rw[X5]at this;omega
 rw[List.getElem?_take_of_lt hk2,List.getElem?_drop]at hk;exact⟨lo+k,by omega,by omega,by rw[X7 (l:=xs),hk];rfl⟩
theorem bu.join {le:α→α→Prop}{xs:List α}{a m b:Nat}(h1:bu le xs a m)(h2:bu le xs m b)(hc:∀i j,a≤i→i<m→m≤j→j<b→le (xs.getD i default) (xs.getD j default)):bu le xs a b:=by
 intro p q hp hpq hq
 by_cases c1:q<m
 ·exact h1 p q hp hpq c1
 by_cases c2:m≤p
 ·exact h2 p q c2 hpq hq
 exact hc p q hp (by omega) (by omega) hq
theorem aI {le:α→α→Prop}{xs ys:List α}{a m b:Nat}(hc:∀i j,a≤i→i<m→m≤j→j<b→le (xs.getD i default) (xs.getD j default))(hl:b≤xs.length)(ham:a≤m)(hmb:m≤b)(ho:Out xs ys a m∨Out xs ys m b):
  ∀i j,a≤i→i<m→m≤j→j<b→le (ys.getD i default) (ys.getD j default):=by
 intro i j h1 h2 h3 h4
 rcases ho with ho|ho
 ·obtain⟨k,k1,k2,k3⟩:=ho.mem (by omega) h1 h2;rw[k3,ho.2.2 j (.inr h3)];exact hc k j k1 k2 h3 h4
 obtain⟨k,k1,k2,k3⟩:=ho.mem hl h3 h4;rw[k3,ho.2.2 i (.inl h2)];exact hc i k h1 h2 k1 k2
end Go.Eng
namespace Go.Proofs.YtgalhjhdgkoemaaGreat
open Go Go.Eng
theorem AV (ys:List ao)(k:Nat):fR ys k 0= .bool (zs (ys.getD k default).1.num):=rfl
theorem AT (ys:List ao)(k:Nat):fR ys k 1= .ints .u32 (zm (ys.getD k default).1.num):=rfl
theorem AW (ys:List ao)(k:Nat):fR ys k 2= .bool (zs ((ys.getD k default).1.den:Int)):=rfl
theorem AU (ys:List ao)(k:Nat):fR ys k 3= .ints .u32 (zm ((ys.getD k default).1.den:Int)):=rfl
theorem AP (ys:List ao)(k:Nat):fR ys k 4= .ints .i64 (ys.getD k default).2:=rfl
def mL (m:ao):List C:=[C.bool (zs m.1.num),C.ints .u32 (zm m.1.num),C.bool (zs (m.1.den:Int)),C.ints .u32 (zm (m.1.den:Int)),C.ints .i64 m.2]
theorem ux {ys:List ao}{k:Nat}(hk:k<ys.length)(m:ao)(i j:Nat)(hj:j<5):dE (fR ys) k 0 (mL m) i j=fR (ys.set k m) i j:=by
 unfold dE fR
 by_cases h:i=k
 ·subst h;rw[if_pos rfl,if_pos (Nat.zero_le _),if_pos (by simpa[mL]using hj),gN hk,Nat.sub_zero];exact sR m hj
 rw[if_neg h,eR (fun e=>h e.symm)]
theorem Ek {f:Nat→Nat→C}{ys:List ao}{k:Nat}(hk:k<ys.length)(m:ao)(hf:∀i j,i<ys.length→j<5→f i j=fR ys i j)(i j:Nat)(hi:i<ys.length)(hj:j<5):dE f k 0 (mL m) i j=fR (ys.set k m) i j:=by
 rw[←ux hk m i j hj];unfold dE;rw[hf i j hi hj]
theorem pj {ys:List ao}{a b:Nat}(ha:a<ys.length)(hb:b<ys.length):∀(i j:Nat),i<ys.length→j<5→
  dE (dE (fR ys) a 0 (mL (ys.getD b default))) b 0 (mL (ys.getD a default)) i j=fR (swp ys a b) i j:=by
 intro i j hi hj;unfold swp;refine Ek (by simpa using hb) _ (fun i j hi hj=>ux ha _ i j hj) i j (by simpa using hi) hj
theorem mq (a b:ao)(ha:a.2.length<2^40)(hb:b.2.length<2^40):Pr Tryz.prog 78 [MV a,MV b] (.one (.int .i64 (cI a.2 b.2))):=by
 refine pw Tryz.func78 ⟨[0,1,2,3,4],[]⟩ ?_;simp only[Tryz.f78,Tryz.ntmps78,iz,seval];simp only[vx,T,seval,MV,mC];refine Cg (nZ a.2 b.2 ha hb) ?_;simp only[vx,T,seval];exact Ve rfl
theorem zu (m:ao)(hm:qm m.1<2^36):Pr Tryz.prog 83 [MV m] (.one (.bool (decide (m.1=0)))):=by
 refine pw Tryz.func83 ⟨[0,1,2],[]⟩ ?_;simp only[Tryz.f83,Tryz.ntmps83,iz,seval];simp only[vx,T,seval,MV,mC];refine Cg (gY m.1 hm) ?_;simp only[vx,T,seval];refine vb ?_
 by_cases h:m.1=0
 ·rw[h];rfl
 rw[decide_eq_false h,decide_eq_false];exact fun e=>h (Rat.num_eq_zero.1 (dV.1 (by omega)))
def cF:C:=.fn 78 0 (fun _=>.any)
def Qf (xs:List ao)(N a b n:Nat)(r:V)(B':Bk):Prop:=∃ys,r= .aJ []∧B'= .rows 68 5 N (fR ys)∧Out xs ys a (b+n)∧∀k,ys.getD k default=EX xs a b n k
theorem oW (xs:List ao){N:Nat}(hN:xs.length=N)(a b n:Nat)(hab:a+n≤b)(hb:b+n≤N)(hl:N<2^40):Mc Tryz.prog 236 [.one (.own 0 5 0 N),.one (.int .i64 a),.one (.int .i64 b),.one (.int .i64 n),.one cF] (.rows 68 5 N (fR xs)) (Qf xs N a b n):=by
 refine mw Tryz.func236 ⟨[0,1,2,3,10,13],[(3,(.cons 21 [4,5,6,7,22] (.cons 23 [] .nil .nil) .nil))]⟩ ?_;simp only[Tryz.f236,Tryz.ntmps236,iz,seval];simp only[vx,T,seval,cF];refine Lk (fun y:{y:Nat×List ao//y.1≤n∧Out xs y.2 a (b+n)∧∀k,y.2.getD k default=EX xs a b y.1 k}=>⟨[(0,.one (.own 0 5 0 N)),(1,.one (.int .i64 a)),(2,.one (.int .i64 b)),(3,.one (.int .i64 n)),(10,.one (.int .i64 y.1.1))],[(0,⟨.rows 68 5 N (fR y.1.2),true⟩)],1,38⟩) (fun y=>n-y.1.1) ⟨(0,xs),by omega,.refl _ _ _,fun k=>(Im xs a b k).symm⟩ ?_ (fun⟨⟨i,ys⟩,hi,ho,hs⟩=>?_)
 ·refine Sa ?_;simp only[ry,seval,rz]
 simp only at hi ho hs;have hyl:=ho.1;simp only[vx,T,seval];refine⟨fun h1=>Lg ?_,fun h1=>Lg ?_⟩
 ·have hin:i<n:=by omega
  have i1:=wI i (by omega);have a1:IntKind.i64.wrap ((a:Int)+i)=((a+i:Nat):Int):=by rw[IntWalk.i64_in _ (by omega)];omega
  have b1:IntKind.i64.wrap ((b:Int)+i)=((b+i:Nat):Int):=by rw[IntWalk.i64_in _ (by omega)];omega
  simp only[vx,T,seval,AV,AT,AW,AU,AP,a1,b1];simp only[i1];refine⟨by omega,by omega,by omega,by omega,by omega,Lq ⟨(i+1,swp ys (a+i) (b+i)),by omega,ho.swp (by omega) (by omega) (by omega) (by omega) (by omega),Ha hs (by omega) (by omega)⟩ ?_ ?_⟩
  ·refine Sa ?_;simp only[ry,seval,rz];rw[←hN,←hyl];exact pj (by omega) (by omega)
  simp only;omega
 have hin:i=n:=by omega
 subst hin;simp only[vx,T,seval];exact⟨ys,rfl,rfl,ho,hs⟩
def O4 (xs:List ao)(N a m b:Nat)(r:V)(B':Bk):Prop:=∃ys,r= .aJ []∧B'= .rows 68 5 N (fR ys)∧Out xs ys a b∧∀k,ys.getD k default=fB xs a m b k
theorem y9 (xs:List ao){N:Nat}(hN:xs.length=N)(a m b:Nat)(ham:a<m)(hmb:m<b)(hb:b≤N)(hl:N<2^40):Mc Tryz.prog 213 [.one (.own 0 5 0 N),.one (.int .i64 a),.one (.int .i64 m),.one (.int .i64 b),.one cF] (.rows 68 5 N (fR xs)) (O4 xs N a m b):=by
 refine mw Tryz.func213 ⟨[0,1,2,3,4,10,11,20,23],[]⟩ ?_;simp only[Tryz.f213,Tryz.ntmps213,iz,seval];have w1:IntKind.i64.wrap ((m:Int)-a)=((m-a:Nat):Int):=by rw[IntWalk.i64_in _ (by omega)];omega
 have w2:IntKind.i64.wrap ((b:Int)-m)=((b-m:Nat):Int):=by rw[IntWalk.i64_in _ (by omega)];omega
 simp only[vx,T,seval,cF,w1,w2];refine Lk (fun y:{y:Nat×Nat×List ao//0<y.1∧0<y.2.1∧y.1≤m-a∧y.2.1≤b-m∧Out xs y.2.2 a b∧∀k,fB y.2.2 (m-y.1) m (m+y.2.1) k=fB xs a m b k}=>⟨[(0,.one (.own 0 5 0 N)),(1,.one (.int .i64 a)),(2,.one (.int .i64 m)),(3,.one (.int .i64 b)),(4,.one cF),(10,.one (.int .i64 y.1.1)),(11,.one (.int .i64 y.1.2.1))],[(0,⟨.rows 68 5 N (fR y.1.2.2),true⟩)],1,58⟩) (fun y=>y.1.1+y.1.2.1) ⟨(m-a,b-m,xs),by simp only;omega,by simp only;omega,by simp only;omega,by simp only;omega,.refl _ _ _,fun k=>by simp only;rw[show m-(m-a)=a by omega,show m+(b-m)=b by omega]⟩ ?_ (fun⟨⟨i,j,ys⟩,hi0,hj0,hi,hj,ho,hr⟩=>?_)
 ·refine Sa ?_;simp only[ry,seval,rz,cF]
 simp only at hi0 hj0 hi hj ho hr;have hyl:=ho.1;have w3:IntKind.i64.wrap ((m:Int)-i)=((m-i:Nat):Int):=by rw[IntWalk.i64_in _ (by omega)];omega
 have w4:IntKind.i64.wrap ((m:Int)+j)=((m+j:Nat):Int):=by rw[IntWalk.i64_in _ (by omega)];omega
 have w5:IntKind.i64.wrap (((m+j:Nat):Int)-i)=((m+j-i:Nat):Int):=by rw[IntWalk.i64_in _ (by omega)];omega
 simp only[vx,T,seval,cF];refine⟨fun h1=>Lg ?_,fun h1=>Lg ?_⟩
 ·simp only[vx,T,seval,cF];refine⟨fun h2=>Lg ?_,fun h2=>Lg ?_⟩
  ·have w6:IntKind.i64.wrap ((i:Int)-j)=((i-j:Nat):Int):=by rw[IntWalk.i64_in _ (by omega)];omega
   simp only[vx,T,seval,cF,w3];refine Cm 0 rfl trivial (oW ys (hyl.trans hN) (m-i) m j (by omega) (by omega) (by omega)) ?_;rintro _ _ ⟨zs,rfl,rfl,ho2,hz⟩ _;simp only[vx,T,seval,cF,w6];refine Lq ⟨(i-j,j,zs),by simp only;omega,hj0,by simp only;omega,hj,ho.trans (ho2.mono (by omega) (by omega)),fun k=>(Gp hz (by omega) (by omega) k).trans (hr k)⟩ ?_ ?_
   ·refine Sa ?_;simp only[ry,seval,rz,cF]
   simp only;omega
  have w6:IntKind.i64.wrap ((j:Int)-i)=((j-i:Nat):Int):=by rw[IntWalk.i64_in _ (by omega)];omega
  simp only[vx,T,seval,cF,w3,w4,w5];refine Cm 0 rfl trivial (oW ys (hyl.trans hN) (m-i) (m+j-i) i (by omega) (by omega) (by omega)) ?_;rintro _ _ ⟨zs,rfl,rfl,ho2,hz⟩ _;simp only[vx,T,seval,cF,w6];refine Lq ⟨(i,j-i,zs),hi0,by simp only;omega,hi,by simp only;omega,ho.trans (ho2.mono (by omega) (by omega)),fun k=>(EN hz (by omega) (by omega) k).trans (hr k)⟩ ?_ ?_
  ·refine Sa ?_;simp only[ry,seval,rz,cF]
  simp only;omega
 have hij:i=j:=by omega
 subst hij;simp only[vx,T,seval,cF,w3];refine Cm 0 rfl trivial (oW ys (hyl.trans hN) (m-i) m i (by omega) (by omega) (by omega)) ?_;rintro _ _ ⟨zs,rfl,rfl,ho2,hz⟩ _;simp only[vx,T,seval,cF];exact⟨zs,rfl,rfl,ho.trans (ho2.mono (by omega) (by omega)),fun k=>(Mv hz (by omega) k).trans (hr k)⟩
end Go.Proofs.YtgalhjhdgkoemaaGreat
