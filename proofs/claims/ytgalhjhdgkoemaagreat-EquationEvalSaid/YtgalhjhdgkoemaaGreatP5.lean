/-
  EquationEval: for every input the law returns true, and each argument reads afterwards as it read before. No condition beyond the given row's own cells.
  (Text 5 of 10; made by a program out of smaller texts.)
-/
import Derived.WalkKit
import Derived.Test.YtgalhjhdgkoemaaGreatP4
set_option linter.unusedSimpArgs false
set_option linter.unusedVariables false
set_option maxHeartbeats 16000000
set_option maxRecDepth 10000
open Nat renaming reduceAdd→J1,reduceMul→J2,reduceSub→J3,reduceEqDiff→J4,reduceLT→J5,reduceLeDiff→J6,reduceBEq→J7,reduceDiv→J8,reduceMod→J9,reducePow→J0
open Int renaming reduceToNat→K1,reduceLE→K2,reduceLT→K3,reduceEq→K4,reducePow→K5,reduceSub→K6,reduceNeg→K7,natCast_add→X2,natCast_one→X3,natCast_zero→X4
open List renaming getD_cons_zero→X0,getD_cons_succ→X1,length_take→X5,length_append→X6,getD_eq_getElem?_getD→X7,getElem?_eq_getElem→X8
/-
  TOWERS OF SQUARE ROOTS: elements as lists of coefficients, their values, products and signs.
-/
namespace Go.R
open Go.Re
theorem HE (x y u v s:R):(x+y*s)*(u+v*s)=(x*u+y*v*(s*s))+(x*v+y*u)*s:=by
 induction x using ind with|h x=>induction y using ind with|h y=>induction u using ind with|h u=>induction v using ind with|h v=>induction s using ind with|h s=>
 exact pt fun n=>by simp only[Sq.add,Sq.mul];grind
theorem pM (x y s:R):(x+y*s)*(x-y*s)=x*x+ -(y*y*(s*s)):=by
 induction x using ind with|h x=>induction y using ind with|h y=>induction s using ind with|h s=>
 exact pt fun n=>by simp only[Sq.add,Sq.mul,Sq.neg];grind
theorem FQ (x y u v s:R):(x+y*s)+(u+v*s)=(x+u)+(y+v)*s:=by
 induction x using ind with|h x=>induction y using ind with|h y=>induction u using ind with|h u=>induction v using ind with|h v=>induction s using ind with|h s=>
 exact pt fun n=>by simp only[Sq.add,Sq.mul];grind
theorem GM (x y s:R): -(x+y*s)= -x+ -y*s:=by
 induction x using ind with|h x=>induction y using ind with|h y=>induction s using ind with|h s=>
 exact pt fun n=>by simp only[Sq.add,Sq.mul,Sq.neg];grind
noncomputable def cJ (x:R):Int:=open Classical in if pos x then 1 else if pos (-x)then-1 else 0
theorem gQ {x:R}(h:pos x):cJ x=1:=by unfold cJ;rw[if_pos h]
theorem nH {x:R}(h:pos (-x)):cJ x= -1:=by unfold cJ;rw[if_neg (fun k=>Dv k h),if_pos h]
theorem dV:cJ (q 0)=0:=by
 unfold cJ;rw[if_neg kD,if_neg (by rw[kj];exact kD)]
theorem dv (x:R):x=q 0∧cJ x=0∨pos x∧cJ x=1∨pos (-x)∧cJ x= -1:=by
 rcases NS x with h|h|h
 ·exact .inl ⟨h,h▸dV⟩
 ·exact .inr (.inl ⟨h,gQ h⟩)
 exact .inr (.inr ⟨h,nH h⟩)
theorem lE (x y:R):cJ (x*y)=cJ x*cJ y:=by
 rcases dv x with⟨h,e⟩|⟨h,e⟩|⟨h,e⟩<;>rcases dv y with⟨k,f⟩|⟨k,f⟩|⟨k,f⟩<;>rw [e,f]
 ·rw[h,zero_mul,dV];rfl
 ·rw[h,zero_mul,dV];rfl
 ·rw[h,zero_mul,dV];rfl
 ·rw[k,mul_zero,dV];rfl
 ·exact gQ (dB h k)
 ·exact nH (by rw[←mul_neg];exact dB h k)
 ·rw[k,mul_zero,dV];rfl
 ·exact nH (by rw[←neg_mul];exact dB h k)
 have:=dB h k
 rw[neg_mul,mul_neg,neg_neg]at this;exact gQ this
theorem OM (x:Rat):cJ (q x)=if 0<x then 1 else if x<0 then-1 else 0:=by
 by_cases h:0<x
 ·rw[if_pos h,gQ (wM.2 h)]
 rw[if_neg h]
 by_cases k:x<0
 ·rw[if_pos k];exact nH (by rw[←C9];exact wM.2 (by grind))
 rw[if_neg k,show x=0 by grind,dV]
theorem G0 {x y s:R}(hs:pos s):cJ (x+y*s)=if cJ y=0∨cJ x=cJ y then cJ x else if cJ x=0 then cJ y else cJ x*cJ (x*x+ -(y*y*(s*s))):=by
 have hss:=gQ hs;have hys:cJ (y*s)=cJ y:=by rw[lE,hss,Int.mul_one]
 have hn:=congrArg cJ (pM x y s);rw[lE]at hn
 rcases dv x with⟨h,e⟩|⟨h,e⟩|⟨h,e⟩<;>rcases dv y with⟨k,f⟩|⟨k,f⟩|⟨k,f⟩<;>rw [e,f]
 ·rw[h,zero_add,hys,f];rfl
 ·rw[h,zero_add,hys,f];rfl
 ·rw[h,zero_add,hys,f];rfl
 ·rw[k,zero_mul,add_zero,e];rfl
 ·exact gQ (o5 h (dB k hs))
 ·have h1:pos (x-y*s):=by rw[sub_def,←neg_mul];exact o5 h (dB k hs)
  rw[gQ h1,Int.mul_one]at hn;rw[hn];rw[if_neg (by omega),if_neg (by omega),Int.one_mul]
 ·rw[k,zero_mul,add_zero,e];rfl
 ·have h1:pos (-(x-y*s)):=by rw[sub_def,rT,neg_neg];exact o5 h (dB k hs)
  rw[nH h1]at hn;rw[←hn];rw[if_neg (by omega),if_neg (by omega)];omega
 refine nH ?_;rw[rT,←neg_mul];exact o5 h (dB k hs)
theorem Ak {x:R}(h:pos x):pos (sqrt x):=by
 rcases bG.1 (C7 x)with k|k
 ·have:=dU (bG.2 (.inr h))
  rw[k,mul_zero]at this;exact absurd this.symm (mr h)
 exact k
theorem Mg (x:R):nn (x*x):=by
 rcases NS x with h|h|h
 ·rw[h,mul_zero];exact bG.2 (.inl rfl)
 ·exact bG.2 (.inr (dB h h))
 have:=dB h h
 rw[neg_mul,mul_neg,neg_neg]at this;exact bG.2 (.inr this)
theorem Dr {x y:R}(h:x*x=y*y):x=y∨x= -y:=by
 have e:(x-y)*(x- -y)=q 0:=by
  have:(x-y)*(x- -y)=x*x-y*y:=by
   induction x using ind with|h x=>induction y using ind with|h y=>
   exact pt fun n=>by simp only[Sq.add,Sq.mul,Sq.neg];grind
  rw[this,h,sub_self]
 rcases iU e with h|h
 ·exact .inl (jd h)
 exact .inr (jd h)
theorem FJ {x y:R}(hx:nn x)(hy:nn y)(h:x*x=y*y):x=y:=by
 rcases Dr h with e|e
 ·exact e
 rcases bG.1 hy with k|k
 ·rw[e,k,kj]
 exact absurd (by rw[e,neg_neg];exact k) hx
theorem pR {x:R}(h:nn x):sqrt (x*x)=x:=FJ (C7 _) h (dU (Mg x))
end Go.R
namespace Go.Tw
open Go Go.R
abbrev El:=List Rat
noncomputable def val:Nat→List El→El→R
 |0,_,a=>q (a.getD 0 0)
 |h+1,t,a=>val h t (a.take (2^h))+val h t (a.drop (2^h))*sqrt (val h t (t.getD h []))
def aC (a b:El):El:=List.zipWith (· + ·) a b
def aG (a:El):El:=a.map (- ·)
def zE (n:Nat):El:=List.replicate n 0
def aj:Nat→List El→El→El→El
 |0,_,a,b=>[a.getD 0 0*b.getD 0 0]
 |h+1,t,a,b=>aC (aj h t (a.take (2^h)) (b.take (2^h))) (aj h t (aj h t (a.drop (2^h)) (b.drop (2^h))) (t.getD h []))++
   aC (aj h t (a.take (2^h)) (b.drop (2^h))) (aj h t (a.drop (2^h)) (b.take (2^h)))
theorem ai {a:El}{h:Nat}(ha:a.length=2^(h+1)):(a.take (2^h)).length=2^h:=by
 rw[X5,ha,Nat.pow_succ];omega
theorem ah {a:El}{h:Nat}(ha:a.length=2^(h+1)):(a.drop (2^h)).length=2^h:=by
 rw[List.length_drop,ha,Nat.pow_succ];omega
theorem aq {a b:El}{n:Nat}(ha:a.length=n)(hb:b.length=n):(aC a b).length=n:=by
 unfold aC;rw[List.length_zipWith,ha,hb,Nat.min_self]
theorem ar {a:El}:(aG a).length=a.length:=List.length_map _
theorem au {n:Nat}:(zE n).length=n:=List.length_replicate
theorem ae {h:Nat}{t:List El}:∀{a b:El},(aj h t a b).length=2^h:=by
 induction h with
 |zero=>intro a b;rfl
 |succ h ih=>
  intro a b;rw[aj,X6,aq ih ih,aq ih ih,Nat.pow_succ];omega
theorem bD {a:El}(h:a.length=2^0):∃x,a=[x]:=by
 match a,h with
 |[x],_=>exact⟨x,rfl⟩
theorem fW {h:Nat}{t:List El}{a b:El}(ha:a.length=2^h):val (h+1) t (a++b)=val h t a+val h t b*sqrt (val h t (t.getD h [])):=by
 rw[val,List.take_append_of_le_length (by omega),List.take_of_length_le (by omega),List.drop_append_of_le_length (by omega),List.drop_of_length_le (by omega),List.nil_append]
theorem val_add {h:Nat}{t:List El}:∀{a b:El},a.length=2^h→b.length=2^h→val h t (aC a b)=val h t a+val h t b:=by
 induction h with
 |zero=>
  intro a b ha hb;obtain⟨x,rfl⟩:=bD ha;obtain⟨y,rfl⟩:=bD hb;exact wh x y
 |succ h ih=>
  intro a b ha hb;have e1:(aC a b).take (2^h)=aC (a.take (2^h)) (b.take (2^h)):=List.take_zipWith;have e2:(aC a b).drop (2^h)=aC (a.drop (2^h)) (b.drop (2^h)):=List.drop_zipWith;rw[val,e1,e2,ih (ai ha) (ai hb),ih (ah ha) (ah hb),val,val,FQ]
theorem val_neg {h:Nat}{t:List El}:∀{a:El},a.length=2^h→val h t (aG a)= -val h t a:=by
 induction h with
 |zero=>
  intro a ha;obtain⟨x,rfl⟩:=bD ha;exact C9 x
 |succ h ih=>
  intro a ha;have e1:(aG a).take (2^h)=aG (a.take (2^h)):=List.map_take.symm;have e2:(aG a).drop (2^h)=aG (a.drop (2^h)):=List.map_drop.symm;rw[val,e1,e2,ih (ai ha),ih (ah ha),val,GM]
theorem pc {h:Nat}:(zE (2^(h+1))).take (2^h)=zE (2^h):=by
 unfold zE;rw[List.take_replicate,Nat.pow_succ,Nat.min_eq_left (by omega)]
theorem ql {h:Nat}:(zE (2^(h+1))).drop (2^h)=zE (2^h):=by
 unfold zE;rw[List.drop_replicate,Nat.pow_succ];congr 1;omega
theorem BD {h:Nat}:zE (2^h)++zE (2^h)=zE (2^(h+1)):=by
 unfold zE;rw[List.replicate_append_replicate,Nat.pow_succ];congr 1;omega
theorem val_zero {h:Nat}{t:List El}:val h t (zE (2^h))=q 0:=by
 induction h with
 |zero=>rfl
 |succ h ih=>rw[val,pc,ql,ih,zero_mul,add_zero]
def Rl (h:Nat)(t:List El):Prop:=∀i,i<h→(t.getD i []).length=2^i∧pos (val i t (t.getD i []))
theorem Rl.le {h k:Nat}{t:List El}(H:Rl h t)(hk:k≤h):Rl k t:=fun i hi=>H i (by omega)
theorem Rl.root {h:Nat}{t:List El}(H:Rl (h+1) t):sqrt (val h t (t.getD h []))*sqrt (val h t (t.getD h []))=val h t (t.getD h []):=
 dU (bG.2 (.inr (H h (by omega)).2))
theorem val_mul {h:Nat}{t:List El}:∀(_:Rl h t) {a b:El},a.length=2^h→b.length=2^h→val h t (aj h t a b)=val h t a*val h t b:=by
 induction h with
 |zero=>intro _ a b _ _;exact eE _ _
 |succ h ih=>
  intro H a b ha hb;have H':=H.le (Nat.le_succ h);rw[aj,fW (aq ae ae),val_add ae ae,val_add ae ae,ih H' (ai ha) (ai hb),ih H' ae (H h (by omega)).1,
   ih H' (ah ha) (ah hb),ih H' (ai ha) (ah hb),ih H' (ah ha) (ai hb),val,val,HE,H.root]
def aL (h:Nat)(t:List El)(a:El):El:=aC (aj h t (a.take (2^h)) (a.take (2^h))) (aG (aj h t (aj h t (a.drop (2^h)) (a.drop (2^h))) (t.getD h [])))
theorem aF {h:Nat}{t:List El}{a:El}:(aL h t a).length=2^h:=aq ae (by rw[ar,ae])
theorem eZ {h:Nat}{t:List El}(H:Rl (h+1) t){a:El}(ha:a.length=2^(h+1)):
  val h t (aL h t a)=val h t (a.take (2^h))*val h t (a.take (2^h))+ -(val h t (a.drop (2^h))*val h t (a.drop (2^h))*(sqrt (val h t (t.getD h []))*sqrt (val h t (t.getD h [])))):=by
 have H':=H.le (Nat.le_succ h);unfold aL;rw[val_add ae (by rw[ar,ae]),val_neg ae,val_mul H' (ai ha) (ai ha),val_mul H' ae (H h (by omega)).1,val_mul H' (ah ha) (ah ha),H.root]
def bn:Nat→List El→El→Int
 |0,_,a=>if 0<a.getD 0 0 then 1 else if a.getD 0 0<0 then-1 else 0
 |h+1,t,a=>
  if bn h t (a.drop (2^h))=0∨bn h t (a.take (2^h))=bn h t (a.drop (2^h))then bn h t (a.take (2^h))
  else if bn h t (a.take (2^h))=0 then bn h t (a.drop (2^h))
  else bn h t (a.take (2^h))*bn h t (aL h t a)
theorem cP {h:Nat}{t:List El}:∀(_:Rl h t) {a:El},a.length=2^h→bn h t a=cJ (val h t a):=by
 induction h with
 |zero=>intro _ a _;exact(OM _).symm
 |succ h ih=>
  intro H a ha;have H':=H.le (Nat.le_succ h);rw[bn,ih H' (ai ha),ih H' (ah ha),ih H' aF,eZ H ha,val,G0 (Ak (H h (by omega)).2)]
end Go.Tw
/-
  TOWERS OF SQUARE ROOTS: reduced towers: an element is known by its value; inverses; square roots.
-/
namespace Go.R
open Go.Re
theorem D0 (p g s:R):(p+g*s)*(p+g*s)=(p*p+g*g*(s*s))+(p*g+p*g)*s:=by
 induction p using ind with|h p=>induction g using ind with|h g=>induction s using ind with|h s=>
 exact pt fun n=>by simp only[Sq.add,Sq.mul];grind
theorem Gz (p g r:R):(p*p+ -(g*g*r))*(p*p+ -(g*g*r))=(p*p+g*g*r)*(p*p+g*g*r)+ -((p*g+p*g)*(p*g+p*g)*r):=by
 induction p using ind with|h p=>induction g using ind with|h g=>induction r using ind with|h r=>
 exact pt fun n=>by simp only[Sq.add,Sq.mul,Sq.neg];grind
theorem NB (p g u r:R):(p*p+p*p+ -u)*(p*p+p*p+ -u)+ -(u*u+ -((p*g+p*g)*(p*g+p*g)*r))=(p*p)*(p*p+g*g*r+ -u)*q 4:=by
 induction p using ind with|h p=>induction g using ind with|h g=>induction u using ind with|h u=>induction r using ind with|h r=>
 exact pt fun n=>by simp only[Sq.add,Sq.mul,Sq.neg,Sq.const];grind
theorem nh {x y:R}(h:x+y=q 0):x= -y:=by
 refine jd ?_;rw[sub_def,neg_neg,h]
theorem CK {x y z:R}(h:x+z=y+z):x=y:=by
 have:=congrArg (· + -z) h
 simp only[add_assoc,add_neg,add_zero]at this;exact this
theorem HV:q 2≠q 0:=fun h=>absurd (qq h) (by decide)
theorem oI:q 1≠q 0:=fun h=>absurd (qq h) (by decide)
theorem DS (x:R):x+x=q 2*x:=by
 induction x using ind with|h x=>
 exact pt fun n=>by simp only[Sq.add,Sq.mul,Sq.const];grind
theorem HI {x:R}(h:x+x=q 0):x=q 0:=by
 rw[DS]at h;exact(iU h).resolve_left HV
theorem OP {x:R}(h:x*x=q 0):x=q 0:=by
 rcases iU h with h|h<;>exact h
end Go.R
namespace Go.Tw
open Go Go.R
def In (h:Nat)(t:List El)(x:R):Prop:=∃a:El,a.length=2^h∧val h t a=x
theorem In.of {h:Nat}{t:List El}{a:El}(ha:a.length=2^h):In h t (val h t a):=⟨a,ha,rfl⟩
theorem In.add {h:Nat}{t:List El}{x y:R}(hx:In h t x)(hy:In h t y):In h t (x+y):=by
 obtain⟨a,ha,rfl⟩:=hx;obtain⟨b,hb,rfl⟩:=hy;exact⟨aC a b,aq ha hb,val_add ha hb⟩
theorem In.neg {h:Nat}{t:List El}{x:R}(hx:In h t x):In h t (-x):=by
 obtain⟨a,ha,rfl⟩:=hx;exact⟨aG a,by rw[ar,ha],val_neg ha⟩
theorem In.mul {h:Nat}{t:List El}(H:Rl h t){x y:R}(hx:In h t x)(hy:In h t y):In h t (x*y):=by
 obtain⟨a,ha,rfl⟩:=hx;obtain⟨b,hb,rfl⟩:=hy;exact⟨aj h t a b,ae,val_mul H ha hb⟩
def aX (h:Nat)(x:Rat):El:=x::zE (2^h-1)
theorem aD {h:Nat}{x:Rat}:(aX h x).length=2^h:=by
 unfold aX;rw[List.length_cons,au];have:=Nat.two_pow_pos h;omega
theorem vV {h:Nat}{x:Rat}:aX (h+1) x=aX h x++zE (2^h):=by
 unfold aX zE;rw[List.cons_append,List.replicate_append_replicate,Nat.pow_succ]
 have:=Nat.two_pow_pos h
 congr 2;omega
theorem b9 {h:Nat}{t:List El}{x:Rat}:val h t (aX h x)=q x:=by
 induction h with
 |zero=>rfl
 |succ h ih=>rw[vV,fW aD,ih,val_zero,zero_mul,add_zero]
theorem In.rat {h:Nat}{t:List El}(x:Rat):In h t (q x):=⟨aX h x,aD,b9⟩
theorem lJ {h:Nat}{t:List El}{a:El}(ha:a.length=2^h):val (h+1) t (a++zE (2^h))=val h t a:=by
 rw[fW ha,val_zero,zero_mul,add_zero]
theorem In.up {h:Nat}{t:List El}{x:R}(hx:In h t x):In (h+1) t x:=by
 obtain⟨a,ha,rfl⟩:=hx;exact⟨a++zE (2^h),by rw[X6,ha,au,Nat.pow_succ];omega,lJ ha⟩
theorem In.split {h:Nat}{t:List El}{x:R}(hx:In (h+1) t x):∃u v,In h t u∧In h t v∧x=u+v*sqrt (val h t (t.getD h [])):=by
 obtain⟨a,ha,rfl⟩:=hx;exact⟨_,_,.of (ai ha),.of (ah ha),rfl⟩
theorem In.join {h:Nat}{t:List El}{u v:R}(hu:In h t u)(hv:In h t v):In (h+1) t (u+v*sqrt (val h t (t.getD h []))):=by
 obtain⟨a,ha,rfl⟩:=hu;obtain⟨b,hb,rfl⟩:=hv;exact⟨a++b,by rw[X6,ha,hb,Nat.pow_succ];omega,fW ha⟩
theorem In.root {h:Nat}{t:List El}:In (h+1) t (sqrt (val h t (t.getD h []))):=by
 have:=In.join (t:=t) (In.rat (h:=h) 0) (In.rat (h:=h) 1)
 rwa [one_mul,zero_add]at this
theorem In.le {h k:Nat}{t:List El}{x:R}(hx:In h t x)(hk:h≤k):In k t x:=by
 obtain⟨d,rfl⟩:=Nat.exists_eq_add_of_le hk;clear hk
 induction d with
 |zero=>exact hx
 |succ d ih=>exact ih.up
structure Rd (h:Nat) (t:List El):Prop where
 rl:Rl h t
 ns:∀i,i<h→∀x,In i t x→x*x≠val i t (t.getD i [])
theorem Rd.le {h k:Nat}{t:List El}(H:Rd h t)(hk:k≤h):Rd k t:=⟨H.rl.le hk,fun i hi=>H.ns i (by omega)⟩
theorem Rd.yy {h:Nat}{t:List El}(H:Rd (h+1) t):¬In h t (sqrt (val h t (t.getD h []))):=fun k=>H.ns h (by omega) _ k H.rl.root
def cg:Nat→List El→El→Option El
 |0,_,a=>if a.getD 0 0=0 then none else some [(a.getD 0 0)⁻¹]
 |h+1,t,a=>(cg h t (aL h t a)).map fun n=>aj h t (a.take (2^h)) n++aG (aj h t (a.drop (2^h)) n)
theorem du {h:Nat}{t:List El}:∀(_:Rl h t) {a b:El},a.length=2^h→cg h t a=some b→b.length=2^h∧val h t a*val h t b=q 1:=by
 induction h with
 |zero=>
  intro _ a b _ hb;rw[cg]at hb
  split at hb
  ·cases hb
  rename_i h0
  cases hb
  refine⟨rfl,?_⟩;show q _*q _=q 1;rw[←eE,X0,Rat.mul_inv_cancel _ h0]
 |succ h ih=>
  intro H a b ha hb;have H':=H.le (Nat.le_succ h);rw[cg,Option.map_eq_some_iff]at hb;obtain⟨n,hn,rfl⟩:=hb;obtain⟨hl,hv⟩:=ih H' aF hn;refine⟨by rw[X6,ar,ae,ae,Nat.pow_succ];omega,?_⟩;rw[eZ H ha]at hv;rw[fW ae,val_neg ae,val_mul H' (ai ha) hl,val_mul H' (ah ha) hl,val,←hv,←pM]
  generalize val h t (a.take (2^h))=x
  generalize val h t (a.drop (2^h))=y
  generalize val h t n=m
  rw[neg_mul,mul_assoc y m,mul_comm m,←mul_assoc y,←neg_mul,←add_mul,sub_def,mul_assoc]
theorem tF {h:Nat}{t:List El}(H:Rl h t)(hinv:∀x,In h t x→x≠q 0→∃y,In h t y∧x*y=q 1){x y s:R}(hx:In h t x)(hy:In h t y)(he:x+y*s=q 0)(hs:¬In h t s):y=q 0∧x=q 0:=by
 by_cases h0:y=q 0
 ·exact⟨h0,by rwa [h0,zero_mul,add_zero]at he⟩
 exfalso
 obtain⟨z,hz,hyz⟩:=hinv y hy h0
 apply hs
 have:s= -(x*z):=by
  have e:=nh (x:=y*s) (y:=x) (by rw[add_comm];exact he)
  have:=congrArg (z* ·) e
  simp only[←mul_assoc,mul_neg]at this;rw[mul_comm z y,hyz,one_mul,mul_comm z x]at this;exact this
 rw[this];exact(In.mul H hx hz).neg
theorem rp {h:Nat}{t:List El}:∀(_:Rd h t) {a:El},a.length=2^h→cg h t a=none→val h t a=q 0:=by
 induction h with
 |zero=>
  intro _ a _ hb;rw[cg]at hb
  split at hb
  ·rename_i h0
   show q _=q 0;rw[h0]
  cases hb
 |succ h ih=>
  intro H a ha hb;have H':=H.le (Nat.le_succ h);rw[cg,Option.map_eq_none_iff]at hb;have h0:=ih H' aF hb;have hinv:∀x,In h t x→x≠q 0→∃y,In h t y∧x*y=q 1:=by
   rintro x ⟨a,ha,rfl⟩ h0
   cases hi:cg h t a with
   |none=>exact absurd (ih H' ha hi) h0
   |some b=>
    obtain⟨hl,hv⟩:=du H'.rl ha hi;exact⟨_,.of hl,hv⟩
  rw[eZ H.rl ha,←pM]at h0
  rcases iU h0 with h0|h0
  ·exact h0
  rw[sub_def,←neg_mul,←val_neg (ah ha)]at h0
  have:=tF H'.rl hinv (.of (ai ha)) (.of (by rw[ar];exact ah ha)) h0 H.yy
  rw[val_neg (ah ha)]at this;rw[val,this.2,nh (y:=q 0) (x:=val h t (a.drop (2^h))) ?_,kj,zero_mul,add_zero];rw[add_zero]
  have:=congrArg (- ·) this.1
  simpa only[neg_neg,kj]using this
theorem In.inv {h:Nat}{t:List El}(H:Rd h t){x y:R}(hx:In h t x)(h1:x*y=q 1):In h t y:=by
 obtain⟨a,ha,rfl⟩:=hx
 cases hi:cg h t a with
 |none=>
  rw[rp H ha hi,zero_mul]at h1;exact absurd h1.symm oI
 |some b=>
  obtain⟨hl,hv⟩:=du H.rl ha hi
  have:y=val h t b:=by
   refine uT (z:=val h t a) ?_ ?_
   ·rw[mul_comm y,h1,mul_comm,hv]
   intro e;rw[e,zero_mul]at h1;exact oI h1.symm
  rw[this];exact .of hl
theorem In.Od {h:Nat}{t:List El}(H:Rd h t)(x:R)(hx:In h t x)(h0:x≠q 0):∃y,In h t y∧x*y=q 1:=by
 obtain⟨y,hy⟩:=R.inv h0;exact⟨y,hx.inv H hy,hy⟩
theorem oG {h:Nat}{t:List El}(H:Rd (h+1) t){x y:R}(hx:In h t x)(hy:In h t y)(he:x+y*sqrt (val h t (t.getD h []))=q 0):x=q 0∧y=q 0:=
 (tF (H.rl.le (Nat.le_succ h)) (In.Od (H.le (Nat.le_succ h))) hx hy he H.yy).symm
theorem kB {h:Nat}{t:List El}(H:Rd (h+1) t){x y u v:R}(hx:In h t x)(hy:In h t y)(hu:In h t u)(hv:In h t v)
  (he:x+y*sqrt (val h t (t.getD h []))=u+v*sqrt (val h t (t.getD h []))):x=u∧y=v:=by
 have:=oG H (hx.add hu.neg) (hy.add hv.neg) (by
  rw[←FQ,he,←GM,add_neg])
 exact⟨jd this.1,jd this.2⟩
theorem mo {h:Nat}{t:List El}:∀(_:Rd h t) {a:El},a.length=2^h→val h t a=q 0→a=zE (2^h):=by
 induction h with
 |zero=>
  intro _ a ha h0;obtain⟨x,rfl⟩:=bD ha;rw[show x=0 from qq h0];rfl
 |succ h ih=>
  intro H a ha h0;have H':=H.le (Nat.le_succ h);obtain⟨h1,h2⟩:=oG H (.of (ai ha)) (.of (ah ha)) h0;rw[←List.take_append_drop (2^h) a,ih H' (ai ha) h1,ih H' (ah ha) h2,BD]
theorem val_inj {h:Nat}{t:List El}:∀(_:Rd h t) {a b:El},a.length=2^h→b.length=2^h→val h t a=val h t b→a=b:=by
 induction h with
 |zero=>
  intro _ a b ha hb h0;obtain⟨x,rfl⟩:=bD ha;obtain⟨y,rfl⟩:=bD hb;rw[show x=y from qq h0]
 |succ h ih=>
  intro H a b ha hb h0;have H':=H.le (Nat.le_succ h);obtain⟨h1,h2⟩:=kB H (.of (ai ha)) (.of (ah ha)) (.of (ai hb)) (.of (ah hb)) h0;rw[←List.take_append_drop (2^h) a,←List.take_append_drop (2^h) b,ih H' (ai ha) (ai hb) h1,ih H' (ah ha) (ah hb) h2]
theorem js {h:Nat}{t:List El}(H:Rd h t){a:El}(ha:a.length=2^h)(h0:val h t a≠q 0):∃b,cg h t a=some b∧b.length=2^h∧val h t a*val h t b=q 1:=by
 cases hi:cg h t a with
 |none=>exact absurd (rp H ha hi) h0
 |some b=>exact⟨b,rfl,du H.rl ha hi⟩
theorem Nv {h:Nat}{t:List El}(H:Rd (h+1) t){x z:R}(hx:In h t x)(hz:In (h+1) t z)(he:z*z=x):
  In h t z∧z*z=x∨∃g,In h t g∧z=g*sqrt (val h t (t.getD h []))∧g*g*val h t (t.getD h [])=x:=by
 obtain⟨p,g,hp,hg,rfl⟩:=hz.split;have H':=(H.le (Nat.le_succ h));have hr:In h t (val h t (t.getD h [])):=.of (H.rl h (by omega)).1;have e2:=he;rw[D0,H.rl.root]at e2
 have:=kB H (u:=x) (v:=q 0) ((In.mul H'.rl hp hp).add (In.mul H'.rl (In.mul H'.rl hg hg) hr)) ((In.mul H'.rl hp hg).add (In.mul H'.rl hp hg)) hx (In.rat 0) (by rw[zero_mul,add_zero];exact e2)
 rcases iU (HI this.2)with h0|h0
 ·right
  refine⟨g,hg,by rw[h0,zero_add],?_⟩;rw[←this.1,h0,mul_zero,zero_add]
 left
 rw[h0,zero_mul,add_zero]at he⊢;exact⟨hp,he⟩
theorem C8 {h:Nat}{t:List El}(H:Rd (h+1) t){u v z:R}(hu:In h t u)(hv:In h t v)(h0:v≠q 0)(hz:In (h+1) t z)(he:z*z=u+v*sqrt (val h t (t.getD h []))):
  ∃p g,In h t p∧In h t g∧p≠q 0∧z=p+g*sqrt (val h t (t.getD h []))∧v=p*g+p*g∧p*p+g*g*val h t (t.getD h [])=u∧
   (p*p+ -(g*g*val h t (t.getD h [])))*(p*p+ -(g*g*val h t (t.getD h [])))=u*u+ -(v*v*val h t (t.getD h [])):=by
 obtain⟨p,g,hp,hg,rfl⟩:=hz.split;have H':=(H.le (Nat.le_succ h));have hr:In h t (val h t (t.getD h [])):=.of (H.rl h (by omega)).1;rw[D0,H.rl.root]at he;obtain⟨h1,h2⟩:=kB H ((In.mul H'.rl hp hp).add (In.mul H'.rl (In.mul H'.rl hg hg) hr)) ((In.mul H'.rl hp hg).add (In.mul H'.rl hp hg)) hu hv he;refine⟨p,g,hp,hg,?_,rfl,h2.symm,h1,?_⟩
 ·rintro rfl;rw[zero_mul,add_zero]at h2;exact h0 h2.symm
 rw[Gz,h1,h2]
theorem KP {u v r m p g s:R}(hs:s*s=r)(hm:m*m=u*u+ -(v*v*r))(hp:p*p+p*p=u+m)(h0:p≠q 0)(hg:p*g+p*g=v):(p+g*s)*(p+g*s)=u+v*s:=by
 have e:m=p*p+p*p+ -u:=by
  rw[hp,add_comm u,add_assoc,add_neg,add_zero]
 have k:=NB p g u r;rw[←e,hg,hm,add_neg]at k
 rcases iU k.symm with k|k
 ·rcases iU k with k|k
  ·exact absurd (OP k) h0
  have:p*p+g*g*r=u:=by
   have:=nh k
   rw[neg_neg]at this;exact this
  rw[D0,hs,this,hg]
 exact absurd (qq k) (by decide)
end Go.Tw
/-
  HEIGHTS: how long the coefficients of a number can be.
-/
namespace Go.R
open Go.Re
theorem Js (x y a b:R):(x+y)*(a*b)=(x*a)*b+(y*b)*a:=by
 induction x using ind with|h x=>induction y using ind with|h y=>induction a using ind with|h a=>induction b using ind with|h b=>
 exact pt fun n=>by simp only[Sq.add,Sq.mul];grind
theorem jM (x y a b:R):(x*y)*(a*b)=(x*a)*(y*b):=by
 induction x using ind with|h x=>induction y using ind with|h y=>induction a using ind with|h a=>induction b using ind with|h b=>
 exact pt fun n=>by simp only[Sq.mul];grind
theorem JV (u v a b s:R):(u+ -v*s)*(a+ -b*s)=(u*a+v*b*(s*s))+ -(u*b+v*a)*s:=by
 induction u using ind with|h u=>induction v using ind with|h v=>induction a using ind with|h a=>induction b using ind with|h b=>induction s using ind with|h s=>
 exact pt fun n=>by simp only[Sq.add,Sq.mul,Sq.neg];grind
end Go.R
namespace Go.Tw
open Go Go.R
theorem DW (x:Rat):x*(x.den:Rat)=(x.num:Rat):=by
 have h0:(x.den:Rat)≠0:=fun e=>x.den_nz (Rat.natCast_inj.1 e);have e:x=(x.num:Rat)/(x.den:Rat):=by rw[←Rat.mkRat_eq_div,Rat.mkRat_self]
 grind
theorem MP (x:Rat):(x*x).num=x.num*x.num∧(x*x).den=x.den*x.den:=by
 rw[Rat.mul_def,Rat.normalize_eq]
 have:Nat.gcd (x.num*x.num).natAbs (x.den*x.den)=1:=by
  rw[Int.natAbs_mul];exact Nat.Coprime.mul_left (Nat.Coprime.mul_right x.reduced x.reduced) (Nat.Coprime.mul_right x.reduced x.reduced)
 constructor
 ·show _/_=_;rw[this];simp
 show _/_=_;rw[this];simp
def ab (x:Rat):Rat:=if 0≤x then x else-x
theorem N1 (x:Rat):0≤ab x:=by unfold ab;split<;>grind
theorem Mk (x y:Rat):ab (x+y)≤ab x+ab y:=by unfold ab;split<;>split<;>split<;>grind
theorem Nc (x:Rat):ab (-x)=ab x:=by unfold ab;split<;>split<;>grind
theorem NN (x y:Rat):ab (x*y)=ab x*ab y:=by
 unfold ab
 by_cases hx:0≤x<;>by_cases hy:0≤y
 ·rw[if_pos hx,if_pos hy,if_pos (Rat.mul_nonneg hx hy)]
 ·rw[if_pos hx,if_neg hy]
  have:=Rat.mul_nonneg (a:=x) (b:= -y) hx (by grind)
  split<;>grind
 ·rw[if_neg hx,if_pos hy]
  have:=Rat.mul_nonneg (a:= -x) (b:=y) (by grind) hy
  split<;>grind
 rw[if_neg hx,if_neg hy]
 have:=Rat.mul_nonneg (a:= -x) (b:= -y) (by grind) (by grind)
 rw[if_pos (by grind)];grind
def dj:Nat→(Nat→Nat)→El→Rat
 |0,_,a=>ab (a.getD 0 0)
 |h+1,w,a=>dj h w (a.take (2^h))+dj h w (a.drop (2^h))*(w h:Rat)
theorem cU {h:Nat}{w:Nat→Nat}:∀{a:El},0≤dj h w a:=by
 induction h with
 |zero=>intro a;exact N1 _
 |succ h ih=>intro a;rw[dj];exact Rat.add_nonneg ih (Rat.mul_nonneg ih Rat.natCast_nonneg)
theorem nj {h:Nat}{w:Nat→Nat}{a b:El}(ha:a.length=2^h):dj (h+1) w (a++b)=dj h w a+dj h w b*(w h:Rat):=by
 rw[dj,List.take_append_of_le_length (by omega),List.take_of_length_le (by omega),List.drop_append_of_le_length (by omega),List.drop_of_length_le (by omega),List.nil_append]
theorem yc {h:Nat}{w:Nat→Nat}:∀{a:El},a.length=2^h→dj h w (aG a)=dj h w a:=by
 induction h with
 |zero=>
  intro a ha;obtain⟨x,rfl⟩:=bD ha;exact Nc x
 |succ h ih=>
  intro a ha;have e1:(aG a).take (2^h)=aG (a.take (2^h)):=List.map_take.symm;have e2:(aG a).drop (2^h)=aG (a.drop (2^h)):=List.map_drop.symm;rw[dj,e1,e2,ih (ai ha),ih (ah ha),dj]
theorem sr {h:Nat}{w:Nat→Nat}:∀{a b:El},a.length=2^h→b.length=2^h→dj h w (aC a b)≤dj h w a+dj h w b:=by
 induction h with
 |zero=>
  intro a b ha hb;obtain⟨x,rfl⟩:=bD ha;obtain⟨y,rfl⟩:=bD hb;exact Mk x y
 |succ h ih=>
  intro a b ha hb;have e1:(aC a b).take (2^h)=aC (a.take (2^h)) (b.take (2^h)):=List.take_zipWith;have e2:(aC a b).drop (2^h)=aC (a.drop (2^h)) (b.drop (2^h)):=List.drop_zipWith;have h1:=ih (ai ha) (ai hb);have h2:=ih (ah ha) (ah hb);rw[dj,e1,e2,dj,dj];have hw:(0:Rat)≤w h:=Rat.natCast_nonneg;have h3:=Rat.mul_le_mul_of_nonneg_right h2 hw;rw[Rat.add_mul]at h3
  grind
theorem pW {h:Nat}{w:Nat→Nat}:dj h w (zE (2^h))=0:=by
 induction h with
 |zero=>rfl
 |succ h ih=>rw[dj,pc,ql,ih];grind
theorem mV {h:Nat}{w:Nat→Nat}{x:Rat}:dj h w (aX h x)=ab x:=by
 induction h with
 |zero=>rfl
 |succ h ih=>rw[vV,nj aD,ih,pW];grind
def Wt (h:Nat)(z:List El)(w:Nat→Nat):Prop:=∀i,i<h→1≤w i∧dj i w (z.getD i [])≤(w i:Rat)*(w i:Rat)
theorem Wt.le {h k:Nat}{z:List El}{w:Nat→Nat}(H:Wt h z w)(hk:k≤h):Wt k z w:=fun i hi=>H i (by omega)
theorem B5 {a b c d:Rat}(ha:0≤a)(hd:0≤d)(h:a≤c)(k:b≤d):a*b≤c*d:=
 Rat.le_trans (Rat.mul_le_mul_of_nonneg_left k ha) (Rat.mul_le_mul_of_nonneg_right h hd)
theorem fC {h:Nat}{z:List El}{w:Nat→Nat}:∀(_:Wt h z w) (_:Rl h z) {a b:El},a.length=2^h→b.length=2^h→dj h w (aj h z a b)≤dj h w a*dj h w b:=by
 induction h with
 |zero=>
  intro _ _ a b ha hb;obtain⟨x,rfl⟩:=bD ha;obtain⟨y,rfl⟩:=bD hb;show ab (x*y)≤ab x*ab y;rw[NN];exact Rat.le_refl
 |succ h ih=>
  intro W L a b ha hb;have W':=W.le (Nat.le_succ h);have L':=L.le (Nat.le_succ h);obtain⟨hw1,hw2⟩:=W h (by omega);have hr:=(L h (by omega)).1;have g1:=ih W' L' (ai ha) (ai hb);have g2:=ih W' L' (ah ha) (ah hb);have g3:=ih W' L' (ai ha) (ah hb);have g4:=ih W' L' (ah ha) (ai hb);have g5:=ih W' L' (a:=aj h z (a.drop (2^h)) (b.drop (2^h))) ae hr;have k1:=sr (w:=w) (a:=aj h z (a.take (2^h)) (b.take (2^h))) (b:=aj h z (aj h z (a.drop (2^h)) (b.drop (2^h))) (z.getD h [])) ae ae;have k2:=sr (w:=w) (a:=aj h z (a.take (2^h)) (b.drop (2^h))) (b:=aj h z (a.drop (2^h)) (b.take (2^h))) ae ae;rw[aj,nj (aq ae ae),dj,dj];have n1:0≤dj h w (a.take (2^h)):=cU;have n2:0≤dj h w (a.drop (2^h)):=cU;have n3:0≤dj h w (b.take (2^h)):=cU;have n4:0≤dj h w (b.drop (2^h)):=cU;have n5:0≤dj h w (aj h z (a.drop (2^h)) (b.drop (2^h))):=cU;have n6:0≤dj h w (z.getD h []):=cU;have hw:(0:Rat)≤w h:=Rat.natCast_nonneg;have m5:=B5 n5 (Rat.mul_nonneg hw hw) g2 hw2;have m6:=Rat.mul_le_mul_of_nonneg_right k2 hw;have m7:=Rat.mul_le_mul_of_nonneg_right g3 hw;have m8:=Rat.mul_le_mul_of_nonneg_right g4 hw
  grind
def sW (x:Rat):Prop:=∃n:Int,x=(n:Rat)
theorem sW.add {x y:Rat}(h:sW x)(k:sW y):sW (x+y):=by
 obtain⟨m,rfl⟩:=h;obtain⟨n,rfl⟩:=k;exact⟨m+n,(Rat.intCast_add m n).symm⟩
theorem sW.mul {x y:Rat}(h:sW x)(k:sW y):sW (x*y):=by
 obtain⟨m,rfl⟩:=h;obtain⟨n,rfl⟩:=k;exact⟨m*n,(Rat.intCast_mul m n).symm⟩
theorem sW.neg {x:Rat}(h:sW x):sW (-x):=by
 obtain⟨m,rfl⟩:=h;exact⟨-m,(Rat.intCast_neg m).symm⟩
theorem sW.zero:sW 0:=⟨0,rfl⟩
def bE (a:El):Prop:=∀x∈a,sW x
theorem bE.take {a:El}(h:bE a)(n:Nat):bE (a.take n):=fun x hx=>h x (List.mem_of_mem_take hx)
theorem bE.drop {a:El}(h:bE a)(n:Nat):bE (a.drop n):=fun x hx=>h x (List.mem_of_mem_drop hx)
theorem bE.app {a b:El}(h:bE a)(k:bE b):bE (a++b):=fun x hx=>by
 rcases List.mem_append.1 hx with hx|hx
 ·exact h x hx
 exact k x hx
theorem bE.neg {a:El}(h:bE a):bE (aG a):=fun x hx=>by
 obtain⟨y,hy,rfl⟩:=List.mem_map.1 hx;exact(h y hy).neg
theorem bE.add:∀{a b:El},bE a→bE b→bE (aC a b)
 |[],b,_,_=>by intro x hx;cases b<;>cases hx
 |x::a,[],_,_=>by intro y hy;cases hy
 |x::a,y::b,h,k=>by
  intro u hu;have hu:u=x+y∨u∈aC a b:=List.mem_cons.1 hu
  rcases hu with rfl|hu
  ·exact(h x (by simp)).add (k y (by simp))
  exact bE.add (fun v hv=>h v (by simp[hv])) (fun v hv=>k v (by simp[hv])) u hu
theorem bE.get {a:El}(h:bE a)(i:Nat):sW (a.getD i 0):=by
 rw[X7]
 cases e:a[i]? with
 |none=>exact sW.zero
 |some x=>exact h x (List.mem_of_getElem? e)
def Fs (h:Nat)(z:List El):Prop:=∀i,i<h→bE (z.getD i [])
theorem Fs.le {h k:Nat}{z:List El}(H:Fs h z)(hk:k≤h):Fs k z:=fun i hi=>H i (by omega)
theorem bE.mul {h:Nat}{z:List El}:∀(_:Fs h z) {a b:El},bE a→bE b→bE (aj h z a b):=by
 induction h with
 |zero=>
  intro _ a b ha hb x hx;rw[aj,List.mem_singleton]at hx;subst hx;exact(ha.get 0).mul (hb.get 0)
 |succ h ih=>
  intro T a b ha hb;have T':=T.le (Nat.le_succ h);rw[aj];exact bE.app (bE.add (ih T' (ha.take _) (hb.take _)) (ih T' (ih T' (ha.drop _) (hb.drop _)) (T h (by omega))))
   (bE.add (ih T' (ha.take _) (hb.drop _)) (ih T' (ha.drop _) (hb.take _)))
theorem bE.zero {n:Nat}:bE (zE n):=fun x hx=>by
 rw[List.eq_of_mem_replicate hx];exact sW.zero
theorem bE.rat {h:Nat}{x:Rat}(hx:sW x):bE (aX h x):=fun y hy=>by
 rcases List.mem_cons.1 hy with rfl|hy
 ·exact hx
 exact bE.zero y hy
structure Zt (h:Nat) (z:List El) (w:Nat→Nat):Prop where
 rd:Rd h z
 int:Fs h z
 wt:Wt h z w
theorem Zt.le {h k:Nat}{z:List El}{w:Nat→Nat}(H:Zt h z w)(hk:k≤h):Zt k z w:=⟨H.rd.le hk,H.int.le hk,H.wt.le hk⟩
def p2 (H:Nat):Rat:=((2^H:Nat):Rat)
theorem xw (H K:Nat):p2 (H+K)=p2 H*p2 K:=by unfold p2;rw[Nat.pow_add,Rat.natCast_mul]
theorem L6 (H:Nat):0≤p2 H:=Rat.natCast_nonneg
theorem yg {H K:Nat}(h:H≤K):p2 H≤p2 K:=Rat.natCast_le_natCast.2 (Nat.pow_le_pow_right (by decide) h)
theorem Gh:p2 1=2:=rfl
theorem Jf:p2 0=1:=rfl
theorem Hb (H:Nat):1≤p2 H:=by rw[←Jf];exact yg (Nat.zero_le _)
theorem gF {a b:Rat}{H K:Nat}(ha:0≤a)(h:a≤p2 H)(k:b≤p2 K):a*b≤p2 (H+K):=by
 rw[xw];exact B5 ha (L6 _) h k
def Ht (h:Nat)(z:List El)(w:Nat→Nat)(x:R)(H:Nat):Prop:=
 ∃P Q:El,P.length=2^h∧Q.length=2^h∧bE P∧bE Q∧val h z Q≠q 0∧x*val h z Q=val h z P∧dj h w P≤p2 H∧dj h w Q≤p2 H
section
variable {h:Nat}{z:List El}{w:Nat→Nat}
theorem Ht.mono {x:R}{H K:Nat}(hx:Ht h z w x H)(hk:H≤K):Ht h z w x K:=by
 obtain⟨P,Q,hP,hQ,iP,iQ,h0,he,nP,nQ⟩:=hx;exact⟨P,Q,hP,hQ,iP,iQ,h0,he,Rat.le_trans nP (yg hk),Rat.le_trans nQ (yg hk)⟩
theorem Ht.add (Z:Zt h z w){x y:R}{H K:Nat}(hx:Ht h z w x H)(hy:Ht h z w y K):Ht h z w (x+y) (H+K+1):=by
 obtain⟨P,Q,hP,hQ,iP,iQ,h0,he,nP,nQ⟩:=hx;obtain⟨S,T,hS,hT,iS,iT,k0,ke,nS,nT⟩:=hy;have m1:=fC Z.wt Z.rd.rl hP hT;have m2:=fC Z.wt Z.rd.rl hS hQ;have m3:=fC Z.wt Z.rd.rl hQ hT;have m4:=sr (w:=w) (a:=aj h z P T) (b:=aj h z S Q) ae ae;have b1:=gF cU nP nT;have b2:=gF cU nS nQ;have b3:=gF cU nQ nT;rw[Nat.add_comm K H]at b2;refine⟨aC (aj h z P T) (aj h z S Q),aj h z Q T,aq ae ae,ae,bE.add (bE.mul Z.int iP iT) (bE.mul Z.int iS iQ),bE.mul Z.int iQ iT,?_,?_,?_,?_⟩
 ·rw[val_mul Z.rd.rl hQ hT];exact qA h0 k0
 ·rw[val_mul Z.rd.rl hQ hT,val_add ae ae,val_mul Z.rd.rl hP hT,val_mul Z.rd.rl hS hQ,Js,he,ke]
 ·rw[xw _ 1,Gh];grind
 rw[xw _ 1,Gh];have:=L6 (H+K);grind
theorem Ht.mul (Z:Zt h z w){x y:R}{H K:Nat}(hx:Ht h z w x H)(hy:Ht h z w y K):Ht h z w (x*y) (H+K):=by
 obtain⟨P,Q,hP,hQ,iP,iQ,h0,he,nP,nQ⟩:=hx;obtain⟨S,T,hS,hT,iS,iT,k0,ke,nS,nT⟩:=hy;have m1:=fC Z.wt Z.rd.rl hP hS;have m3:=fC Z.wt Z.rd.rl hQ hT;have b1:=gF cU nP nS;have b3:=gF cU nQ nT;refine⟨aj h z P S,aj h z Q T,ae,ae,bE.mul Z.int iP iS,bE.mul Z.int iQ iT,?_,?_,Rat.le_trans m1 b1,Rat.le_trans m3 b3⟩
 ·rw[val_mul Z.rd.rl hQ hT];exact qA h0 k0
 rw[val_mul Z.rd.rl hQ hT,val_mul Z.rd.rl hP hS,jM,he,ke]
theorem Ht.neg {x:R}{H:Nat}(hx:Ht h z w x H):Ht h z w (-x) H:=by
 obtain⟨P,Q,hP,hQ,iP,iQ,h0,he,nP,nQ⟩:=hx;exact⟨aG P,Q,by rw[ar,hP],hQ,iP.neg,iQ,h0,by rw[neg_mul,he,val_neg hP],by rw[yc hP];exact nP,nQ⟩
theorem Ht.inv {x y:R}{H:Nat}(hx:Ht h z w x H)(h1:x*y=q 1):Ht h z w y H:=by
 obtain⟨P,Q,hP,hQ,iP,iQ,h0,he,nP,nQ⟩:=hx;refine⟨Q,P,hQ,hP,iQ,iP,?_,?_,nQ,nP⟩
 ·rw[←he];refine qA ?_ h0;intro e;rw[e,zero_mul]at h1;exact oI h1.symm
 rw[←he,←mul_assoc,mul_comm y,h1,one_mul]
theorem Ht.rat {x:Rat}{H:Nat}(h1:x.num.natAbs≤2^H)(h2:x.den≤2^H):Ht h z w (q x) H:=by
 have hd:(x.den:Rat)≠0:=fun e=>x.den_nz (Rat.natCast_inj.1 e);refine⟨aX h (x.num:Rat),aX h (x.den:Rat),aD,aD,bE.rat ⟨_,rfl⟩,bE.rat ⟨(x.den:Int),(Rat.intCast_natCast _).symm⟩,?_,?_,?_,?_⟩
 ·rw[b9];exact fun e=>hd (qq e)
 ·rw[b9,b9,←eE,DW]
 ·rw[mV];unfold ab p2
  have:((x.num.natAbs:Nat):Rat)≤((2^H:Nat):Rat):=Rat.natCast_le_natCast.2 h1
  refine Rat.le_trans ?_ this;rw[←Rat.intCast_natCast]
  split
  ·exact Rat.intCast_le_intCast.2 (by omega)
  rw[←Rat.intCast_neg];exact Rat.intCast_le_intCast.2 (by omega)
 rw[mV];unfold ab p2;rw[if_pos Rat.natCast_nonneg];exact Rat.natCast_le_natCast.2 h2
theorem Ht.up {x:R}{H:Nat}(hx:Ht h z w x H):Ht (h+1) z w x H:=by
 obtain⟨P,Q,hP,hQ,iP,iQ,h0,he,nP,nQ⟩:=hx;have e:∀A:El,A.length=2^h→dj (h+1) w (A++zE (2^h))=dj h w A:=fun A hA=>by rw[nj hA,pW];grind
 refine⟨P++zE (2^h),Q++zE (2^h),?_,?_,iP.app bE.zero,iQ.app bE.zero,by rw[lJ hQ];exact h0,by rw[lJ hQ,lJ hP];exact he,by rw[e P hP];exact nP,by rw[e Q hQ];exact nQ⟩
 ·rw[X6,hP,au,Nat.pow_succ];omega
 rw[X6,hQ,au,Nat.pow_succ];omega
theorem Ht.le {k:Nat}{x:R}{H:Nat}(hx:Ht h z w x H)(hk:h≤k):Ht k z w x H:=by
 obtain⟨d,rfl⟩:=Nat.exists_eq_add_of_le hk;clear hk
 induction d with
 |zero=>exact hx
 |succ d ih=>exact ih.up
theorem Ht.root {H:Nat}(hw:w h≤2^H):Ht (h+1) z w (sqrt (val h z (z.getD h []))) H:=by
 refine⟨zE (2^h)++aX h 1,aX (h+1) 1,?_,aD,bE.zero.app (bE.rat ⟨1,rfl⟩),bE.rat ⟨1,rfl⟩,?_,?_,?_,?_⟩
 ·rw[X6,au,aD,Nat.pow_succ];omega
 ·rw[b9];exact oI
 ·rw[b9,mul_one,fW au,val_zero,b9,one_mul,zero_add]
 ·rw[nj au,pW,mV]
  have:(w h:Rat)≤p2 H:=Rat.natCast_le_natCast.2 hw
  have e:ab 1=1:=rfl;rw[e];grind
 rw[mV];exact Hb H
end
end Go.Tw
namespace Go.Tw
open Go Go.R
def qJ (h:Nat)(a:El):El:=a.take (2^h)++aG (a.drop (2^h))
theorem po {h:Nat}{a:El}(ha:a.length=2^(h+1)):(qJ h a).length=2^(h+1):=by
 unfold qJ;rw[X6,ar,ai ha,ah ha,Nat.pow_succ];omega
theorem zW {h:Nat}{a:El}(ha:bE a):bE (qJ h a):=(ha.take _).app (ha.drop _).neg
section
variable {h:Nat}{z:List El}{w:Nat→Nat}
theorem pS {a:El}(ha:a.length=2^(h+1)):val (h+1) z (qJ h a)=val h z (a.take (2^h))+ -val h z (a.drop (2^h))*sqrt (val h z (z.getD h [])):=by
 unfold qJ;rw[fW (ai ha),val_neg (ah ha)]
theorem zY {a:El}(ha:a.length=2^(h+1)):dj (h+1) w (qJ h a)=dj (h+1) w a:=by
 unfold qJ;rw[nj (ai ha),yc (ah ha),dj]
theorem rr (W:Wt (h+1) z w)(L:Rl (h+1) z){a:El}(ha:a.length=2^(h+1)):dj h w (aL h z a)≤dj (h+1) w a*dj (h+1) w a:=by
 have W':=W.le (Nat.le_succ h);have L':=L.le (Nat.le_succ h);obtain⟨hw1,hw2⟩:=W h (by omega);have hr:=(L h (by omega)).1;have g1:=fC W' L' (ai ha) (ai ha);have g2:=fC W' L' (ah ha) (ah ha);have g5:=fC W' L' (a:=aj h z (a.drop (2^h)) (a.drop (2^h))) ae hr;have k1:=sr (w:=w) (a:=aj h z (a.take (2^h)) (a.take (2^h))) (b:=aG (aj h z (aj h z (a.drop (2^h)) (a.drop (2^h))) (z.getD h []))) ae (by rw[ar,ae]);rw[yc ae]at k1;unfold aL;rw[dj];have n1:0≤dj h w (a.take (2^h)):=cU;have n2:0≤dj h w (a.drop (2^h)):=cU;have n5:0≤dj h w (aj h z (a.drop (2^h)) (a.drop (2^h))):=cU;have hw:(0:Rat)≤w h:=Rat.natCast_nonneg;have m5:=B5 n5 (Rat.mul_nonneg hw hw) g2 hw2;have m6:=Rat.mul_nonneg (Rat.mul_nonneg n1 n2) hw
 grind
theorem qQ (T:Fs (h+1) z){a:El}(ha:bE a):bE (aL h z a):=by
 have T':=T.le (Nat.le_succ h);unfold aL;exact bE.add (bE.mul T' (ha.take _) (ha.take _)) (bE.neg (bE.mul T' (bE.mul T' (ha.drop _) (ha.drop _)) (T h (by omega))))
theorem Km {a:El}:dj h w (a.take (2^h))≤dj (h+1) w a:=by
 rw[dj];have n2:0≤dj h w (a.drop (2^h)):=cU;have hw:(0:Rat)≤w h:=Rat.natCast_nonneg
 have:=Rat.mul_nonneg n2 hw
 grind
theorem Kv (W:Wt (h+1) z w){a:El}:dj h w (a.drop (2^h))≤dj (h+1) w a:=by
 rw[dj];have n1:0≤dj h w (a.take (2^h)):=cU;have n2:0≤dj h w (a.drop (2^h)):=cU;have hw:(1:Rat)≤w h:=Rat.natCast_le_natCast.2 (W h (by omega)).1
 have:=Rat.mul_le_mul_of_nonneg_left hw n2
 grind
theorem jC (L:Rl (h+1) z){a:El}(ha:a.length=2^(h+1)):val (h+1) z a*val (h+1) z (qJ h a)=val h z (aL h z a):=by
 rw[pS ha,eZ L ha,←pM,val,sub_def,neg_mul]
theorem zP (R:Rd (h+1) z){a:El}(ha:a.length=2^(h+1))(h0:val (h+1) z a≠q 0):val h z (aL h z a)≠q 0:=by
 rw[←jC R.rl ha];refine qA h0 fun e=>h0 ?_;rw[pS ha]at e
 have:=oG R (.of (ai ha)) (In.of (ah ha)).neg e
 have e2:=congrArg (- ·) this.2;simp only[neg_neg,kj]at e2;rw[val,this.1,e2,zero_mul,add_zero]
theorem Ht.split (Z:Zt (h+1) z w){u v:R}{H:Nat}(hu:In h z u)(hv:In h z v)(hx:Ht (h+1) z w (u+v*sqrt (val h z (z.getD h []))) H):
  Ht h z w u (2*H)∧Ht h z w v (2*H)∧Ht h z w (u*u+ -(v*v*val h z (z.getD h []))) (2*H):=by
 obtain⟨P,Q,hP,hQ,iP,iQ,h0,he,nP,nQ⟩:=hx;have L:=Z.rd.rl;have Z':=Z.le (Nat.le_succ h);have e2:2*H=H+H:=by omega
 have hN0:=zP Z.rd hQ h0;have hNn:dj h w (aL h z Q)≤p2 (2*H):=by
  rw[e2];exact Rat.le_trans (rr Z.wt L hQ) (gF cU nQ nQ)
 have hNi:=qQ Z.int iQ
 -- the numerator times the conjugate of the denominator
 have hM:(aj (h+1) z P (qJ h Q)).length=2^(h+1):=ae;have hMi:bE (aj (h+1) z P (qJ h Q)):=bE.mul Z.int iP (zW iQ);have hMn:dj (h+1) w (aj (h+1) z P (qJ h Q))≤p2 (2*H):=by
  rw[e2];refine Rat.le_trans (fC Z.wt L hP (po hQ)) (gF cU nP ?_);rw[zY hQ];exact nQ
 have hMv:val (h+1) z (aj (h+1) z P (qJ h Q))=(u+v*sqrt (val h z (z.getD h [])))*val h z (aL h z Q):=by
  rw[val_mul L hP (po hQ),←he,mul_assoc,jC L hQ]
 rw[add_mul,mul_assoc v,mul_comm (sqrt _),←mul_assoc v]at hMv;obtain⟨s1,s2⟩:=kB Z.rd (.of (ai hM)) (.of (ah hM)) (In.mul Z'.rd.rl hu (.of aF)) (In.mul Z'.rd.rl hv (.of aF)) hMv;refine⟨⟨_,_,ai hM,aF,hMi.take _,hNi,hN0,s1.symm,Rat.le_trans Km hMn,hNn⟩,
  ⟨_,_,ah hM,aF,hMi.drop _,hNi,hN0,s2.symm,Rat.le_trans (Kv Z.wt) hMn,hNn⟩,?_⟩
 refine⟨aL h z P,aL h z Q,aF,aF,qQ Z.int iP,hNi,hN0,?_,?_,hNn⟩
 ·-- conjugates of both sides
  have hr:=L.root;have hn:=pM u v (sqrt (val h z (z.getD h [])));rw[hr,sub_def,←neg_mul]at hn;rw[←jC L hP,←jC L hQ,pS hP,pS hQ,←he,←hn];have he2:(u+v*sqrt (val h z (z.getD h [])))*(val h z (Q.take (2^h))+val h z (Q.drop (2^h))*sqrt (val h z (z.getD h [])))=val h z (P.take (2^h))+val h z (P.drop (2^h))*sqrt (val h z (z.getD h [])):=he;rw[HE,hr]at he2;obtain⟨c1,c2⟩:=kB Z.rd ((In.mul Z'.rd.rl hu (.of (ai hQ))).add (In.mul Z'.rd.rl (In.mul Z'.rd.rl hv (.of (ah hQ))) (.of (L h (by omega)).1))) ((In.mul Z'.rd.rl hu (.of (ah hQ))).add (In.mul Z'.rd.rl hv (.of (ai hQ)))) (.of (ai hP)) (.of (ah hP)) he2;have hc:=JV u v (val h z (Q.take (2^h))) (val h z (Q.drop (2^h))) (sqrt (val h z (z.getD h [])));rw[hr,c1,c2]at hc;rw[jM,hc]
 rw[e2];exact Rat.le_trans (rr Z.wt L hP) (gF cU nP nP)
theorem sW.Bc {x:Rat}{n:Int}{H:Nat}(h:x=(n:Rat))(k:ab x≤p2 H):n.natAbs≤2^H:=by
 subst h;unfold ab p2 at k;rw[←Rat.intCast_natCast]at k
 split at k
 ·rename_i h0
  have h0:(0:Int)≤n:=Rat.intCast_le_intCast.1 h0
  have:=Rat.intCast_le_intCast.1 k
  omega
 rename_i h0
 have h0:¬(0:Int)≤n:=fun e=>h0 (Rat.intCast_le_intCast.2 e);rw[←Rat.intCast_neg]at k
 have:=Rat.intCast_le_intCast.1 k
 omega
theorem Ht.zero {x:Rat}{H:Nat}(hx:Ht 0 z w (q x) H):x.num.natAbs≤2^H∧x.den≤2^H:=by
 obtain⟨P,Q,hP,hQ,iP,iQ,h0,he,nP,nQ⟩:=hx;obtain⟨a,rfl⟩:=bD hP;obtain⟨b,rfl⟩:=bD hQ;obtain⟨m,hm⟩:=iP a (by simp);obtain⟨n,hn⟩:=iQ b (by simp);have k1:m.natAbs≤2^H:=sW.Bc hm nP;have k2:n.natAbs≤2^H:=sW.Bc hn nQ;have he:q x*q b=q a:=he;rw[←eE]at he;have he:=qq he;have hb:b≠0:=fun e=>h0 (by show q b=q 0;rw[e]);subst hm;subst hn;have e1:((x.num*n:Int):Rat)=((m*x.den:Int):Rat):=by
  have:=DW x
  rw[Rat.intCast_mul,Rat.intCast_mul,←he,←this,Rat.intCast_natCast];grind
 have e2:x.num*n=m*x.den:=Rat.intCast_inj.1 e1;have n0:n≠0:=fun e=>hb (by rw[e];rfl);have e3:x.num.natAbs*n.natAbs=m.natAbs*x.den:=by
  have:=congrArg Int.natAbs e2
  rwa [Int.natAbs_mul,Int.natAbs_mul,Int.natAbs_natCast]at this
 have d1:x.den∣n.natAbs:=Nat.Coprime.dvd_of_dvd_mul_left x.reduced.symm ⟨m.natAbs,by rw[e3,Nat.mul_comm]⟩;have hn0:0<n.natAbs:=Int.natAbs_pos.2 n0;have d2:=Nat.le_of_dvd hn0 d1;refine⟨?_,by omega⟩
 by_cases m0:m.natAbs=0
 ·have:x.num.natAbs*n.natAbs=0:=by rw[e3,m0,Nat.zero_mul]
  rcases Nat.mul_eq_zero.1 this with h|h
  ·omega
  omega
 have d3:x.num.natAbs∣m.natAbs:=Nat.Coprime.dvd_of_dvd_mul_right x.reduced ⟨n.natAbs,e3.symm⟩;exact Nat.le_trans (Nat.le_of_dvd (by omega) d3) k1
end
structure Lk (h:Nat) (t z:List El) (d:Nat→Nat):Prop where
 d0:∀i,i<h→0<d i
 v:∀i,i<h→val i z (z.getD i [])=q ((d i:Rat)*(d i:Rat))*val i t (t.getD i [])
theorem Lk.le {h k:Nat}{t z:List El}{d:Nat→Nat}(H:Lk h t z d)(hk:k≤h):Lk k t z d:=⟨fun i hi=>H.d0 i (by omega),fun i hi=>H.v i (by omega)⟩
theorem wk {n:Nat}(h:0<n):pos (q (n:Rat)):=wM.2 (Rat.natCast_pos.2 h)
theorem Lk.root {h:Nat}{t z:List El}{d:Nat→Nat}(H:Lk (h+1) t z d)(L:Rl (h+1) t):sqrt (val h z (z.getD h []))=q (d h:Rat)*sqrt (val h t (t.getD h [])):=by
 have hd:=wk (H.d0 h (by omega));have hs:=Ak (L h (by omega)).2;rw[H.v h (by omega),eE]
 have:q ↑(d h)*q ↑(d h)*val h t (t.getD h [])=(q (d h:Rat)*sqrt (val h t (t.getD h [])))*(q (d h:Rat)*sqrt (val h t (t.getD h []))):=by
  rw[jM,L.root]
 rw[this];exact pR (bG.2 (.inr (dB hd hs)))
theorem oo {n:Nat}(h:0<n):q (n:Rat)*q ((n:Rat)⁻¹)=q 1:=by
 rw[←eE,Rat.mul_inv_cancel]
 exact fun e=>by have:=Rat.natCast_inj (a:=n) (b:=0)|>.1 e;omega
theorem Lk.ju {t z:List El}{d:Nat→Nat}{h:Nat}:∀(_:Lk h t z d) (_:Rl h t) (x:R),In h t x↔In h z x:=by
 induction h with
 |zero=>intro _ _ x;exact Iff.rfl
 |succ h ih=>
  intro H L x;have ih:=ih (H.le (Nat.le_succ h)) (L.le (Nat.le_succ h));have hr:=H.root L;have hd:=oo (H.d0 h (by omega))
  constructor
  ·intro hx;obtain⟨u,v,hu,hv,rfl⟩:=hx.split
   have:u+v*sqrt (val h t (t.getD h []))=u+v*q ((d h:Rat)⁻¹)*sqrt (val h z (z.getD h [])):=by
    rw[hr,mul_assoc v,←mul_assoc (q _),mul_comm (q ((d h:Rat)⁻¹)),hd,one_mul]
   rw[this];obtain⟨a,ha,e⟩:=(ih _).1 hv;refine In.join ((ih _).1 hu) ?_;have hm:In h z (v*q ((d h:Rat)⁻¹)):=by
    rw[←e];refine⟨a.map (· *(d h:Rat)⁻¹),by rw[List.length_map,ha],?_⟩;have key:∀{k:Nat} {a:El} {c:Rat},a.length=2^k→val k z (a.map (· *c))=val k z a*q c:=by
     intro k
     induction k with
     |zero=>
      intro a c ha;obtain⟨x,rfl⟩:=bD ha;exact eE x c
     |succ k ihk=>
      intro a c ha;rw[val,←List.map_take,←List.map_drop,ihk (ai ha),ihk (ah ha),val,add_mul,mul_assoc,mul_assoc,mul_comm (q c)]
    exact key ha
   exact hm
  intro hx;obtain⟨u,v,hu,hv,rfl⟩:=hx.split;rw[hr,←mul_assoc];exact In.join ((ih _).2 hu) (In.mul (L.le (Nat.le_succ h)) ((ih _).2 hv) (In.rat _))
theorem oA {t z:List El}{d w:Nat→Nat}{E:Nat}{h:Nat}:∀(_:Lk h t z d) (_:Rl h t) (_:Zt h z w) (_:∀i,i<h→d i≤2^E) {a:El} {H:Nat},a.length=2^h→Ht h z w (val h t a) H→
  ∀c∈a,c.num.natAbs≤2^(2^h*(H+E))∧c.den≤2^(2^h*(H+E)):=by
 induction h with
 |zero=>
  intro _ _ _ _ a H ha hx c hc;obtain⟨x,rfl⟩:=bD ha;rw[List.mem_singleton]at hc;subst hc
  have:=hx.zero
  have e:2^H≤2^(2^0*(H+E)):=Nat.pow_le_pow_right (by decide) (by omega);exact⟨Nat.le_trans this.1 e,Nat.le_trans this.2 e⟩
 |succ h ih=>
  intro K L Z hE a H ha hx c hc;have K':=K.le (Nat.le_succ h);have L':=L.le (Nat.le_succ h);have Z':=Z.le (Nat.le_succ h);have hr:=K.root L;have hd:=oo (K.d0 h (by omega));have hu:In h t (val h t (a.take (2^h))):=.of (ai ha);have hv:In h t (val h t (a.drop (2^h))*q ((d h:Rat)⁻¹)):=In.mul L' (.of (ah ha)) (In.rat _);have e:val (h+1) t a=val h t (a.take (2^h))+val h t (a.drop (2^h))*q ((d h:Rat)⁻¹)*sqrt (val h z (z.getD h [])):=by
   rw[hr,mul_assoc (val h t _),←mul_assoc (q _),mul_comm (q ((d h:Rat)⁻¹)),hd,one_mul];rfl
  rw[e]at hx;obtain⟨k1,k2,_⟩:=Ht.split Z ((K'.ju L' _).1 hu) ((K'.ju L' _).1 hv) hx;have hdn:Ht h z w (q (d h:Rat)) E:=by
   refine Ht.rat ?_ ?_
   ·rw[Rat.num_natCast,Int.natAbs_natCast];exact hE h (by omega)
   rw[Rat.den_natCast];exact Nat.one_le_two_pow
  have k3:=k2.mul Z' hdn;rw[mul_assoc,mul_comm (q _),hd,mul_one]at k3;have hm:2^h*(2*H+E+E)=2^(h+1)*(H+E):=by
   rw[Nat.pow_succ,Nat.mul_assoc];congr 1;omega
  rw[←List.take_append_drop (2^h) a,List.mem_append]at hc
  rcases hc with hc|hc
  ·have:=ih K' L' Z' (fun i hi=>hE i (by omega)) (ai ha) (k1.mono (Nat.le_add_right _ E)) c hc
   rwa [hm]at this
  have:=ih K' L' Z' (fun i hi=>hE i (by omega)) (ah ha) k3 c hc
  rwa [hm]at this
end Go.Tw
/-
  HEIGHTS: further floors, square roots, and heights without a tower.
-/
namespace Go.Tw
open Go Go.R
theorem val_congr {t z:List El}{h:Nat}:∀(_:∀i,i<h→t.getD i []=z.getD i []) (a:El),val h t a=val h z a:=by
 induction h with
 |zero=>intro _ a;rfl
 |succ h ih=>
  intro H a;have ih:=ih (fun i hi=>H i (by omega));rw[val,val,ih,ih,H h (by omega),ih]
theorem Rd.congr {t z:List El}{h:Nat}(e:∀i,i<h→t.getD i []=z.getD i [])(H:Rd h t):Rd h z:=by
 have ev:∀i,i≤h→∀a,val i t a=val i z a:=fun i hi a=>val_congr (fun j hj=>e j (by omega)) a;refine⟨fun i hi=>?_,fun i hi x hx=>?_⟩
 ·rw[←e i hi,←ev i (by omega)];exact H.rl i hi
 obtain⟨a,ha,rfl⟩:=hx;rw[←e i hi,←ev i (by omega),←ev i (by omega)];exact H.ns i hi _ (.of ha)
theorem vO {w v:Nat→Nat}{h:Nat}:∀(_:∀i,i<h→w i=v i) (a:El),dj h w a=dj h v a:=by
 induction h with
 |zero=>intro _ a;rfl
 |succ h ih=>
  intro H a;have ih:=ih (fun i hi=>H i (by omega));rw[dj,dj,ih,ih,H h (by omega)]
section
variable {h:Nat}{z:List El}{w:Nat→Nat}
theorem Ht.in (Z:Zt h z w){x:R}{H:Nat}(hx:Ht h z w x H):In h z x:=by
 obtain⟨P,Q,hP,hQ,iP,iQ,h0,he,nP,nQ⟩:=hx;obtain⟨y,hy,hy2⟩:=In.Od Z.rd _ (.of hQ) h0
 have:x=val h z P*y:=by rw[←he,mul_assoc,hy2,mul_one]
 rw[this];exact In.mul Z.rd.rl (.of hP) hy
theorem NR:∀{h:Nat} (_:Zt h z w) {Q:El} {K:Nat},Q.length=2^h→bE Q→val h z Q≠q 0→dj h w Q≤p2 K→
  ∃(A:El) (N:Nat),A.length=2^h∧bE A∧0<N∧val h z Q*val h z A=q (N:Rat)∧dj h w A≤p2 ((2^h-1)*K)∧N≤2^(2^h*K):=by
 intro h
 induction h with
 |zero=>
  intro Z Q K hQ iQ h0 nQ;obtain⟨x,rfl⟩:=bD hQ;obtain⟨n,hn⟩:=iQ x (by simp);have k1:n.natAbs≤2^K:=sW.Bc hn nQ;have n0:n≠0:=fun e=>h0 (by show q x=q 0;rw[hn,e];rfl);have e0:p2 ((2^0-1)*K)=1:=by rw[show (2^0-1)*K=0 by simp];rfl
  have e1:(2:Nat)^(2^0*K)=2^K:=by rw[Nat.pow_zero,Nat.one_mul]
  rw[e0,e1]
  by_cases hp:0≤n
  ·refine⟨[1],n.natAbs,rfl,fun y hy=>⟨1,by rw[List.mem_singleton.1 hy];rfl⟩,by omega,?_,by show ab 1≤1;decide,k1⟩;show q x*q 1=_;rw[←eE,hn,←Rat.intCast_natCast,show ((n.natAbs:Nat):Int)=n by omega,Rat.mul_one]
  refine⟨[-1],n.natAbs,rfl,fun y hy=>⟨-1,by rw[List.mem_singleton.1 hy];rfl⟩,by omega,?_,by show ab (-1)≤1;decide,k1⟩;show q x*q (-1)=_;rw[←eE,hn,←Rat.intCast_natCast,show ((n.natAbs:Nat):Int)= -n by omega,Rat.intCast_neg]
  congr 1;grind
 |succ h ih=>
  intro Z Q K hQ iQ h0 nQ;have Z':=Z.le (Nat.le_succ h);have hNn:dj h w (aL h z Q)≤p2 (2*K):=by
   rw[show 2*K=K+K by omega];exact Rat.le_trans (rr Z.wt Z.rd.rl hQ) (gF cU nQ nQ)
  obtain⟨A,N,hA,iA,hN,he,nA,hl⟩:=ih Z' (aF (a:=Q)) (qQ Z.int iQ) (zP Z.rd hQ h0) hNn;have hA2:(A++zE (2^h)).length=2^(h+1):=by rw[X6,hA,au,Nat.pow_succ];omega
  refine⟨aj (h+1) z (qJ h Q) (A++zE (2^h)),N,ae,bE.mul Z.int (zW iQ) (iA.app bE.zero),hN,?_,?_,?_⟩
  ·rw[val_mul Z.rd.rl (po hQ) hA2,lJ hA,←mul_assoc,jC Z.rd.rl hQ,he]
  ·refine Rat.le_trans (fC Z.wt Z.rd.rl (po hQ) hA2) ?_;have e:(2^(h+1)-1)*K=K+(2^h-1)*(2*K):=by
    have:=Nat.two_pow_pos h
    rw[Nat.pow_succ,Nat.sub_mul,Nat.sub_mul,Nat.mul_assoc,Nat.one_mul,Nat.one_mul]
    have:2*K≤2^h*(2*K):=Nat.le_mul_of_pos_left _ this
    omega
   rw[e,zY hQ,nj hA,pW];refine gF cU nQ ?_
   grind
  rw[Nat.pow_succ,Nat.mul_assoc];exact hl
theorem Ht.whole (Z:Zt h z w){x:R}{K:Nat}(hx:Ht h z w x K):∃(M:El) (N:Nat),M.length=2^h∧bE M∧0<N∧x*q (N:Rat)=val h z M∧dj h w M≤p2 (2^h*K)∧N≤2^(2^h*K):=by
 obtain⟨P,Q,hP,hQ,iP,iQ,h0,he,nP,nQ⟩:=hx;obtain⟨A,N,hA,iA,hN,e,nA,hl⟩:=NR Z hQ iQ h0 nQ;refine⟨aj h z P A,N,ae,bE.mul Z.int iP iA,hN,?_,?_,hl⟩
 ·rw[←e,←mul_assoc,he,val_mul Z.rd.rl hP hA]
 refine Rat.le_trans (fC Z.wt Z.rd.rl hP hA) ?_;have e:2^h*K=K+(2^h-1)*K:=by
  have:=Nat.two_pow_pos h
  rw[Nat.sub_mul,Nat.one_mul]
  have:K≤2^h*K:=Nat.le_mul_of_pos_left _ this
  omega
 rw[e];exact gF cU nP nA
theorem grow (Z:Zt h z w){t:List El}{d:Nat→Nat}(K:Lk h t z d)(R:Rd (h+1) t){H:Nat}(hx:Ht h z w (val h t (t.getD h [])) H):
  ∃(z':List El) (w' d':Nat→Nat),(∀i,i<h→z'.getD i []=z.getD i []∧w' i=w i∧d' i=d i)∧Zt (h+1) z' w'∧Lk (h+1) t z' d'∧w' h≤2^(2^h*H)∧d' h≤2^(2^h*H):=by
 obtain⟨M,N,hM,iM,hN,e,nM,hl⟩:=Ht.whole Z hx;obtain⟨B,hB⟩:∃B,B=aj h z (aX h (N:Rat)) M:=⟨_,rfl⟩;have hBl:B.length=2^h:=by rw[hB,ae]
 have hN0:sW (N:Rat):=⟨(N:Int),(Rat.intCast_natCast _).symm⟩;have hBi:bE B:=by rw[hB];exact bE.mul Z.int (bE.rat hN0) iM
 have hBv:val h z B=q ((N:Rat)*(N:Rat))*val h t (t.getD h []):=by
  rw[hB,val_mul Z.rd.rl aD hM,b9,←e,eE,mul_comm (val h t _),←mul_assoc]
 have hBn:dj h w B≤p2 (2^h*H+2^h*H):=by
  rw[hB];refine Rat.le_trans (fC Z.wt Z.rd.rl aD hM) (gF cU ?_ nM);rw[mV];unfold ab p2;rw[if_pos Rat.natCast_nonneg];exact Rat.natCast_le_natCast.2 hl
 let z':List El:=(List.range h).map (fun i=>z.getD i [])++[B]
 have ez:∀i,i<h→z'.getD i []=z.getD i []:=fun i hi=>by
  show List.getD (_++_) i []=_;rw[X7,List.getElem?_append_left (by simpa using hi),List.getElem?_map,List.getElem?_range hi];rfl
 have eB:z'.getD h []=B:=by
  show List.getD (_++_) h []=_;rw[X7,List.getElem?_append_right (by simp)];simp
 let w':Nat→Nat:=fun i=>if i=h then 2^(2^h*H)else w i
 let d':Nat→Nat:=fun i=>if i=h then N else d i
 have ew:∀i,i<h→w' i=w i:=fun i hi=>if_neg (by omega);have ed:∀i,i<h→d' i=d i:=fun i hi=>if_neg (by omega);have ewh:w' h=2^(2^h*H):=if_pos rfl;have edh:d' h=N:=if_pos rfl;have ev:∀i,i≤h→∀a,val i z' a=val i z a:=fun i hi a=>val_congr (fun j hj=>ez j (by omega)) a;have en:∀i,i≤h→∀a,dj i w' a=dj i w a:=fun i hi a=>vO (fun j hj=>ew j (by omega)) a;have hpos:pos (val h z B):=by
  rw[hBv]
  have:=wk hN
  rw[eE];exact dB (dB this this) (R.rl h (by omega)).2
 have hns:∀x,In h z x→x*x≠val h z B:=by
  intro x hx he;have hi:=oo hN;have hx2:In h t (x*q ((N:Rat)⁻¹)):=In.mul (R.rl.le (Nat.le_succ h)) ((K.ju (R.rl.le (Nat.le_succ h)) _).2 hx) (In.rat _);refine R.ns h (by omega) _ hx2 ?_;rw[jM,he,hBv,eE]
  have:q (N:Rat)*q (N:Rat)*(q ((N:Rat)⁻¹)*q ((N:Rat)⁻¹))=q 1:=by rw[jM,hi,mul_one]
  rw[mul_comm (q _*q _),mul_assoc,this,mul_one]
 refine⟨z',w',d',fun i hi=>⟨ez i hi,ew i hi,ed i hi⟩,⟨⟨fun i hi=>?_,fun i hi x hx=>?_⟩,fun i hi=>?_,fun i hi=>?_⟩,⟨fun i hi=>?_,fun i hi=>?_⟩,Nat.le_of_eq ewh,by rw[edh];exact hl⟩
 ·by_cases h1:i=h
  ·subst h1;rw[eB,ev i (Nat.le_refl i)];exact⟨hBl,hpos⟩
  rw[ez i (by omega),ev i (by omega)];exact Z.rd.rl i (by omega)
 ·obtain⟨a,ha,rfl⟩:=hx
  by_cases h1:i=h
  ·subst h1;rw[eB,ev i (Nat.le_refl i),ev i (Nat.le_refl i)];exact hns _ (.of ha)
  rw[ez i (by omega),ev i (by omega),ev i (by omega)];exact Z.rd.ns i (by omega) _ (.of ha)
 ·by_cases h1:i=h
  ·subst h1;rw[eB];exact hBi
  rw[ez i (by omega)];exact Z.int i (by omega)
 ·by_cases h1:i=h
  ·subst h1;rw[eB,en i (Nat.le_refl i),ewh];refine⟨Nat.one_le_two_pow,Rat.le_trans hBn ?_⟩;rw[xw];exact Rat.le_refl
  rw[ez i (by omega),en i (by omega),ew i (by omega)];exact Z.wt i (by omega)
 ·by_cases h1:i=h
  ·subst h1;rw[edh];exact hN
  rw[ed i (by omega)];exact K.d0 i (by omega)
 by_cases h1:i=h
 ·subst h1;rw[eB,edh,ev i (Nat.le_refl i)];exact hBv
 rw[ez i (by omega),ed i (by omega),ev i (by omega)];exact K.v i (by omega)
def rS (W:Nat):Nat→Nat→Nat
 |0,H=>(H+1)/2
 |h+1,H=>2*rS W h (2*H+rS W h (2*H)+2+2*W)+2*H+W+2
theorem gS {W h:Nat}:∀{H K:Nat},H≤K→rS W h H≤rS W h K:=by
 induction h with
 |zero=>intro H K hk;unfold rS;omega
 |succ h ih=>
  intro H K hk;have h1:=ih (H:=2*H) (K:=2*K) (by omega);have h2:=ih (H:=2*H+rS W h (2*H)+2+2*W) (K:=2*K+rS W h (2*K)+2+2*W) (by omega);rw[rS,rS];omega
theorem Ht.p6 (Z:Zt (h+1) z w){W:Nat}(hW:w h≤2^W):Ht h z w (val h z (z.getD h [])) (2*W):=by
 refine⟨z.getD h [],aX h 1,(Z.rd.rl h (by omega)).1,aD,Z.int h (by omega),bE.rat ⟨1,rfl⟩,by rw[b9];exact oI,by rw[b9,mul_one],?_,?_⟩
 ·have hw:(w h:Rat)≤p2 W:=Rat.natCast_le_natCast.2 hW;rw[show 2*W=W+W by omega];exact Rat.le_trans (Z.wt h (by omega)).2 (gF Rat.natCast_nonneg hw hw)
 rw[mV];exact Hb _
theorem Gf {t:List El}{x:R}(h:In 0 t x):∃y,x=q y:=by
 obtain⟨a,_,rfl⟩:=h;exact⟨_,rfl⟩
theorem Ht.two:Ht h z w (q 2) 1:=Ht.rat (by decide) (by decide)
theorem Ht.sqrt {W:Nat}:∀{h:Nat} (_:Zt h z w) (_:∀i,i<h→w i≤2^W) {x y:R} {H:Nat},In h z y→y*y=x→Ht h z w x H→Ht h z w y (rS W h H):=by
 intro h
 induction h with
 |zero=>
  intro Z _ x y H hy he hx;obtain⟨r,rfl⟩:=Gf hy;rw[←eE]at he;subst he;obtain⟨h1,h2⟩:=Ht.zero hx;obtain⟨e1,e2⟩:=MP r;rw[e1,Int.natAbs_mul]at h1;rw[e2]at h2;have key:∀n:Nat,n*n≤2^H→n≤2^((H+1)/2):=by
   intro n hn;refine Nat.le_of_not_lt fun hl=>?_
   have:=Nat.mul_lt_mul'' hl hl
   rw[←Nat.pow_add]at this
   have:2^H≤2^((H+1)/2+(H+1)/2):=Nat.pow_le_pow_right (by decide) (by omega)
   omega
  exact Ht.rat (key _ h1) (key _ h2)
 |succ h ih=>
  intro Z hW x y H hy he hx;have Z':=Z.le (Nat.le_succ h);have hW':∀i,i<h→w i≤2^W:=fun i hi=>hW i (by omega);have L':=Z'.rd.rl;obtain⟨p,g,hp,hg,rfl⟩:=hy.split;have hs:Ht (h+1) z w (R.sqrt (val h z (z.getD h []))) W:=Ht.root (hW h (by omega));have hr:=Ht.p6 Z (hW h (by omega));have hrr:=Z.rd.rl.root;have hri:In h z (val h z (z.getD h [])):=.of (Z.rd.rl h (by omega)).1;have hr0:val h z (z.getD h [])≠q 0:=mr (Z.rd.rl h (by omega)).2;rw[D0,hrr]at he;subst he;obtain⟨hu,hv,hn⟩:=Ht.split Z ((In.mul L' hp hp).add (In.mul L' (In.mul L' hg hg) hri)) ((In.mul L' hp hg).add (In.mul L' hp hg)) hx;rw[←Gz]at hn;have m1:rS W h (2*H)≤rS W h (2*H+rS W h (2*H)+2+2*W):=gS (by omega)
  by_cases g0:g=q 0
  ·rw[g0,zero_mul,zero_mul,add_zero]at hu;rw[g0,zero_mul,add_zero];exact((ih Z' hW' hp rfl hu).up).mono (by rw[rS];omega)
  by_cases p0:p=q 0
  ·rw[p0,mul_zero,zero_add]at hu;obtain⟨ri,hri2⟩:=R.inv hr0;have h1:=hu.mul Z' (hr.inv hri2);rw[mul_assoc,hri2,mul_one]at h1;have h2:=(ih Z' hW' hg rfl h1).up.mul Z hs;rw[p0,zero_add];have m2:rS W h (2*H+2*W)≤rS W h (2*H+rS W h (2*H)+2+2*W):=gS (by omega);exact h2.mono (by rw[rS];omega)
  have h1:=ih Z' hW' ((In.mul L' hp hp).add (In.mul L' (In.mul L' hg hg) hri).neg) rfl hn;have h2:=hu.add Z' h1;have e2:p*p+g*g*val h z (z.getD h [])+(p*p+ -(g*g*val h z (z.getD h [])))=q 2*(p*p):=by
   rw[←DS]
   generalize g*g*val h z (z.getD h [])=c
   generalize p*p=b
   rw[add_comm b (-c),←add_assoc,add_assoc b c,add_neg,add_zero]
  rw[e2]at h2;have hh:q (2:Rat)*q ((2:Rat)⁻¹)=q 1:=by rw[←eE,Rat.mul_inv_cancel _ (by decide)]
  have h3:=h2.mul Z' (Ht.two.inv hh);rw[mul_comm (q 2),mul_assoc,hh,mul_one]at h3;have h4:=(ih Z' hW' hp rfl h3).mono (gS (K:=2*H+rS W h (2*H)+2+2*W) (by omega));have h5:=Ht.two.mul Z' h4;have h50:q 2*p≠q 0:=qA HV p0;obtain⟨i,hi⟩:=R.inv h50;have h6:=hv.mul Z' (h5.inv hi);have e6:(p*g+p*g)*i=g:=by
   rw[DS,←mul_assoc,mul_assoc,mul_comm g,←mul_assoc,hi,one_mul]
  rw[e6]at h6;have h7:=h4.up.add Z (h6.up.mul Z hs);refine h7.mono ?_;rw[rS];omega
end
inductive Sz (G:R→Nat→Prop):R→Nat→Prop
 |gen {x:R} {H:Nat}:G x H→Sz G x H
 |rat {x:Rat} {H:Nat}:x.num.natAbs≤2^H→x.den≤2^H→Sz G (q x) H
 |add {x y:R} {H K:Nat}:Sz G x H→Sz G y K→Sz G (x+y) (H+K+1)
 |mul {x y:R} {H K:Nat}:Sz G x H→Sz G y K→Sz G (x*y) (H+K)
 |neg {x:R} {H:Nat}:Sz G x H→Sz G (-x) H
 |inv {x y:R} {H:Nat}:Sz G x H→x*y=q 1→Sz G y H
 |mono {x:R} {H K:Nat}:Sz G x H→H≤K→Sz G x K
theorem Sz.ht {G:R→Nat→Prop}{h:Nat}{z:List El}{w:Nat→Nat}(Z:Zt h z w)(hG:∀x H,G x H→Ht h z w x H){x:R}{H:Nat}(hx:Sz G x H):Ht h z w x H:=by
 induction hx with
 |gen g=>exact hG _ _ g
 |rat h1 h2=>exact Ht.rat h1 h2
 |add _ _ h1 h2=>exact h1.add Z h2
 |mul _ _ h1 h2=>exact h1.mul Z h2
 |neg _ h1=>exact h1.neg
 |inv _ e h1=>exact h1.inv e
 |mono _ e h1=>exact h1.mono e
end Go.Tw
/-
  HEIGHTS: towers of at most three short radicands.
-/
namespace Go.Tw
open Go Go.R
def iD (n:Nat)(e:El):Prop:=∀c∈e,c.num.natAbs≤2^n∧c.den≤2^n
def Expr (B k:Nat)(As:List R)(x:R):Prop:=∃(m:Nat) (u:List El) (e:El),m≤k∧e.length=2^m∧iD B e∧(∀j,j<m→val j u (u.getD j [])∈As)∧x=val m u e
def fE (B c:Nat):Nat→Nat
 |0=>B
 |k+1=>2*fE B c k+c+1
theorem KW {B c m k:Nat}(h:m≤k):fE B c m≤fE B c k:=by
 induction k with
 |zero=>
      obtain rfl:m=0:=by omega
      exact Nat.le_refl _
 |succ k ih=>
  by_cases e:m=k+1
  ·rw[e];exact Nat.le_refl _
  have:=ih (by omega)
  rw[fE];omega
theorem Ht.expr {h:Nat}{z:List El}{w:Nat→Nat}(Z:Zt h z w){B c:Nat}{u:List El}:∀{m:Nat} {e:El},e.length=2^m→iD B e→(∀j,j<m→Ht h z w (R.sqrt (val j u (u.getD j []))) c)→Ht h z w (val m u e) (fE B c m):=by
 intro m
 induction m with
 |zero=>
  intro e he hb _;obtain⟨x,rfl⟩:=bD he;obtain⟨h1,h2⟩:=hb x (by simp);exact Ht.rat h1 h2
 |succ m ih=>
  intro e he hb hs;have h1:=ih (ai he) (fun c hc=>hb c (List.mem_of_mem_take hc)) (fun j hj=>hs j (by omega));have h2:=ih (ah he) (fun c hc=>hb c (List.mem_of_mem_drop hc)) (fun j hj=>hs j (by omega));exact(h1.add Z (h2.mul Z (hs m (by omega)))).mono (by rw[fE];omega)
structure Src (B:Nat) (A:List R):Prop where
 pos:∀k,k<A.length→R.pos (A.getD k (q 0))
 expr:∀k,k<A.length→Expr B k (A.take k) (A.getD k (q 0))
def Kr:List (Nat×Nat)→Nat→Option Nat
 |[],_=>none
 |p::s,k=>if p.1=k then some p.2 else Kr s k
def I1:List (Nat×Nat)→Nat
 |[]=>0
 |p::s=>max p.2 (I1 s)
def go (B k:Nat):Nat→List (Nat×Nat)→Nat→Nat→Nat
 |0,_,_,c=>fE B c k
 |n+1,s,kk,c=>match Kr s kk with
  |some W=>go B k n s (kk+1) (max c (2*W))
  |none=>max (go B k n s (kk+1) (max c (rS (I1 s) s.length (fE B c kk)))) (2*go B k n (s++[(kk,2^s.length*fE B c kk)]) (kk+1) (max c (2*(2^s.length*fE B c kk))))
theorem sT {s:List (Nat×Nat)}{k W:Nat}(h:Kr s k=some W):∃j,j<s.length∧s.getD j (0,0)=(k,W):=by
 induction s with
 |nil=>cases h
 |cons p s ih=>
  rw[Kr]at h
  split at h
  ·rename_i e
   refine⟨0,by simp,?_⟩;obtain⟨a,b⟩:=p;simp only[Option.some.injEq]at h e;subst h;subst e;rfl
  obtain⟨j,hj,e⟩:=ih h;exact⟨j+1,by simpa using hj,e⟩
theorem Cb {s:List (Nat×Nat)}{j:Nat}(h:j<s.length):(s.getD j (0,0)).2≤I1 s:=by
 induction s generalizing j with
 |nil=>exact absurd h (Nat.not_lt_zero _)
 |cons p s ih=>
  rw[I1]
  cases j with
  |zero=>exact Nat.le_max_left _ _
  |succ j=>
   have:=ih (j:=j) (by simpa using h)
   show(s.getD j (0,0)).2≤_
   omega
structure Env (A:List R) (h:Nat) (t z:List El) (w d:Nat→Nat) (s:List (Nat×Nat)):Prop where
 sl:s.length=h
 rd:Rd h t
 zt:Zt h z w
 lk:Lk h t z d
 at':∀j,j<h→val j t (t.getD j [])=A.getD (s.getD j (0,0)).1 (q 0)∧w j≤2^(s.getD j (0,0)).2∧d j≤2^(s.getD j (0,0)).2∧Ht j z w (val j t (t.getD j [])) (s.getD j (0,0)).2
theorem Ht.congr {h:Nat}{z z':List El}{w w':Nat→Nat}(ez:∀i,i<h→z'.getD i []=z.getD i [])(ew:∀i,i<h→w' i=w i){x:R}{H:Nat}(hx:Ht h z w x H):Ht h z' w' x H:=by
 obtain⟨P,Q,hP,hQ,iP,iQ,h0,he,nP,nQ⟩:=hx;have e1:∀a,val h z' a=val h z a:=fun a=>val_congr ez a;have e2:∀a,dj h w' a=dj h w a:=fun a=>vO ew a;exact⟨P,Q,hP,hQ,iP,iQ,by rw[e1];exact h0,by rw[e1,e1];exact he,by rw[e2];exact nP,by rw[e2];exact nQ⟩
theorem Ht.HW {h:Nat}{z:List El}{w:Nat→Nat}{n W:Nat}(h0:0<n)(hn:n≤2^W):Ht h z w (q ((n:Rat)⁻¹)) W:=by
 refine Ht.inv (x:=q (n:Rat)) ?_ (oo h0);refine Ht.rat ?_ ?_
 ·rw[Rat.num_natCast,Int.natAbs_natCast];exact hn
 rw[Rat.den_natCast];exact Nat.one_le_two_pow
theorem Ht.basis {A:List R}{h:Nat}{t z:List El}{w d:Nat→Nat}{s:List (Nat×Nat)}(E:Env A h t z w d s){j:Nat}(hj:j<h):Ht h z w (R.sqrt (val j t (t.getD j []))) (2*(s.getD j (0,0)).2):=by
 obtain⟨_,h2,h3,_⟩:=E.at' j hj;have h1:=(Ht.root (h:=j) (z:=z) (w:=w) h2).le (show j+1≤h by omega);have hr:=(E.lk.le (show j+1≤h by omega)).root (E.rd.rl.le (by omega));have hd:=oo (E.lk.d0 j hj);have h4:=h1.mul E.zt (Ht.HW (E.lk.d0 j hj) h3);rw[hr,mul_comm,←mul_assoc,mul_comm (q ((d j:Rat)⁻¹)),hd,one_mul]at h4;exact h4.mono (by omega)
theorem eG {A:List R}{x:R}{k:Nat}(h:x∈A.take k):∃i,i<k∧i<A.length∧x=A.getD i (q 0):=by
 obtain⟨i,hi,rfl⟩:=List.mem_iff_getElem.1 h;rw[X5]at hi;refine⟨i,by omega,by omega,?_⟩;rw[List.getElem_take,X7,X8 (by omega)];rfl
theorem Ht.src {A:List R}{B:Nat}(S:Src B A){h:Nat}{z:List El}{w:Nat→Nat}(Z:Zt h z w){k c:Nat}(hk:k<A.length)(hs:∀i,i<k→Ht h z w (R.sqrt (A.getD i (q 0))) c):Ht h z w (A.getD k (q 0)) (fE B c k):=by
 obtain⟨m,u,e,hm,he,hb,hu,hx⟩:=S.expr k hk;rw[hx]
 refine(Ht.expr Z he hb fun j hj=>?_).mono (KW hm)
 obtain⟨i,hi,_,e⟩:=eG (hu j hj);rw[e];exact hs i hi
theorem Env.grow {A:List R}{h:Nat}{t z:List El}{w d:Nat→Nat}{s:List (Nat×Nat)}(E:Env A h t z w d s){k H:Nat}(hp:pos (A.getD k (q 0)))(hx:Ht h z w (A.getD k (q 0)) H)(hn:¬In h t (R.sqrt (A.getD k (q 0)))):
  ∃(t' z':List El) (w' d':Nat→Nat),(∀i,i<h→t'.getD i []=t.getD i []∧z'.getD i []=z.getD i []∧w' i=w i)∧Env A (h+1) t' z' w' d' (s++[(k,2^h*H)]):=by
 obtain⟨a,ha,hv⟩:=(E.lk.ju E.rd.rl _).2 (hx.in E.zt)
 let t':List El:=(List.range h).map (fun i=>t.getD i [])++[a]
 have et:∀i,i<h→t'.getD i []=t.getD i []:=fun i hi=>by
  show List.getD (_++_) i []=_;rw[X7,List.getElem?_append_left (by simpa using hi),List.getElem?_map,List.getElem?_range hi];rfl
 have ea:t'.getD h []=a:=by
  show List.getD (_++_) h []=_;rw[X7,List.getElem?_append_right (by simp)];simp
 have ev:∀i,i≤h→∀b,val i t' b=val i t b:=fun i hi b=>val_congr (fun j hj=>et j (by omega)) b;have hp':pos (val h t a):=by rw[hv];exact hp
 have hns:∀x,In h t x→x*x≠val h t a:=by
  intro x hx he;rw[hv,←R.dU (bG.2 (.inr hp))]at he
  rcases Dr he with e|e
  ·exact hn (e▸hx)
  have:=hx.neg
  rw[e,neg_neg]at this;exact hn this
 have R':Rd (h+1) t':=by
  refine⟨fun i hi=>?_,fun i hi x hx=>?_⟩
  ·by_cases h1:i=h
   ·subst h1;rw[ea,ev i (Nat.le_refl i)];exact⟨ha,hp'⟩
   rw[et i (by omega),ev i (by omega)];exact E.rd.rl i (by omega)
  obtain⟨b,hb,rfl⟩:=hx
  by_cases h1:i=h
  ·subst h1;rw[ea,ev i (Nat.le_refl i),ev i (Nat.le_refl i)];exact hns _ (.of hb)
  rw[et i (by omega),ev i (by omega),ev i (by omega)];exact E.rd.ns i (by omega) _ (.of hb)
 have K':Lk h t' z d:=⟨E.lk.d0,fun i hi=>by rw[et i hi,ev i (by omega)];exact E.lk.v i hi⟩;obtain⟨z',w',d',hag,hZ,hL,hw,hd⟩:=Tw.grow E.zt K' R' (H:=H) (by rw[ea,ev h (Nat.le_refl h),hv];exact hx);refine⟨t',z',w',d',fun i hi=>⟨et i hi,(hag i hi).1,(hag i hi).2.1⟩,⟨by rw[X6,E.sl];rfl,R',hZ,hL,fun j hj=>?_⟩⟩
 by_cases h1:j=h
 ·have es:(s++[(k,2^h*H)]).getD j (0,0)=(k,2^h*H):=by
   rw[h1,X7,List.getElem?_append_right (by rw[E.sl];exact Nat.le_refl h),E.sl];simp
  rw[es,h1,ea,ev h (Nat.le_refl h),hv];exact⟨rfl,hw,hd,(hx.congr (fun i hi=>(hag i hi).1) (fun i hi=>(hag i hi).2.1)).mono (Nat.le_mul_of_pos_left _ (Nat.two_pow_pos h))⟩
 have hjh:j<h:=by omega
 have es:(s++[(k,2^h*H)]).getD j (0,0)=s.getD j (0,0):=by
  rw[X7,List.getElem?_append_left (by rw[E.sl];exact hjh),←X7]
 rw[es,et j hjh,ev j (by omega),(hag j hjh).2.1,(hag j hjh).2.2];obtain⟨a1,a2,a3,a4⟩:=E.at' j hjh;exact⟨a1,a2,a3,a4.congr (fun i hi=>(hag i (by omega)).1) (fun i hi=>(hag i (by omega)).2.1)⟩
theorem GA {A:List R}{B k:Nat}(S:Src B A)(hk:k<A.length):∀(n:Nat) {kk:Nat} (_:kk+n=k) {h:Nat} {t z:List El} {w d:Nat→Nat} {s:List (Nat×Nat)} {c:Nat} (_:Env A h t z w d s)
  (_:∀i,i<kk→Ht h z w (R.sqrt (A.getD i (q 0))) c) (_:In h t (A.getD k (q 0))),Ht h z w (A.getD k (q 0)) (go B k n s kk c):=by
 intro n
 induction n with
 |zero=>
  intro kk hkk h t z w d s c E hs _;exact Ht.src S E.zt hk (fun i hi=>hs i (by omega))
 |succ n ih=>
  intro kk hkk h t z w d s c E hs hin;have hkl:kk<A.length:=by omega
  have hp:=S.pos kk hkl;rw[go]
  cases hl:Kr s kk with
  |some W=>
   obtain⟨j,hj,ej⟩:=sT hl;refine ih (by omega) E (fun i hi=>?_) hin
   by_cases h1:i=kk
   ·have hb:=Ht.basis E (j:=j) (by rw[←E.sl];exact hj);rw[(E.at' j (by rw[←E.sl];exact hj)).1,ej]at hb;rw[h1];exact hb.mono (Nat.le_max_right _ _)
   exact(hs i (by omega)).mono (Nat.le_max_left _ _)
  |none=>
   have hH:=Ht.src S E.zt hkl hs
   by_cases h0:In h t (R.sqrt (A.getD kk (q 0)))
   ·have hr:=Ht.sqrt (W:=I1 s) E.zt (fun i hi=>Nat.le_trans (E.at' i hi).2.1 (Nat.pow_le_pow_right (by decide) (Cb (by rw[E.sl];exact hi)))) ((E.lk.ju E.rd.rl _).1 h0) (R.dU (bG.2 (.inr hp))) hH
    refine(ih (kk:=kk+1) (c:=max c (rS (I1 s) s.length (fE B c kk))) (by omega) E (fun i hi=>?_) hin).mono (Nat.le_max_left _ _)
    by_cases h1:i=kk
    ·rw[h1,E.sl];exact hr.mono (Nat.le_max_right _ _)
    exact(hs i (by omega)).mono (Nat.le_max_left _ _)
   obtain⟨t',z',w',d',hag,E'⟩:=E.grow hp hH h0;have ev:∀b,val h t' b=val h t b:=fun b=>val_congr (fun j hj=>(hag j hj).1) b;have hin0:In h t' (A.getD k (q 0)):=by
    obtain⟨b,hb,e⟩:=hin;exact⟨b,hb,by rw[ev];exact e⟩
   have hup:∀{x:R} {H:Nat},Ht h z w x H→Ht (h+1) z' w' x H:=fun hx=>(hx.congr (fun i hi=>(hag i hi).2.1) (fun i hi=>(hag i hi).2.2)).up;have h2:=ih (kk:=kk+1) (c:=max c (2*(2^s.length*fE B c kk))) (by omega) E' (fun i hi=>?_) hin0.up
   ·have hz:In h z' (A.getD k (q 0)):=((E'.lk.le (Nat.le_succ h)).ju (E'.rd.rl.le (Nat.le_succ h)) _).1 hin0;have h3:=(Ht.split E'.zt (v:=q 0) hz (In.rat 0) (by rw[zero_mul,add_zero];exact h2)).1;have h4:=h3.congr (z':=z) (w':=w) (fun i hi=>(hag i hi).2.1.symm) (fun i hi=>(hag i hi).2.2.symm);refine h4.mono ?_;rw[E.sl];exact Nat.le_max_right _ _
   by_cases h1:i=kk
   ·have hb:=Ht.basis E' (j:=h) (by omega);have es:(s++[(kk,2^h*fE B c kk)]).getD h (0,0)=(kk,2^h*fE B c kk):=by
     rw[X7,List.getElem?_append_right (by rw[E.sl];exact Nat.le_refl h),E.sl];simp
    rw[(E'.at' h (by omega)).1,es]at hb;rw[h1,E.sl];exact hb.mono (Nat.le_max_right _ _)
   exact(hup (hs i (by omega))).mono (Nat.le_max_left _ _)
def sN (B:Nat)(σ:Nat→Nat):Nat→List (Nat×Nat)
 |0=>[]
 |h+1=>sN B σ h++[(σ h,2^(sN B σ h).length*go B (σ h) (σ h) (sN B σ h) 0 0)]
theorem env {A:List R}{B:Nat}(S:Src B A){t:List El}{σ:Nat→Nat}:∀{h:Nat} (_:Rd h t) (_:∀j,j<h→σ j<A.length∧val j t (t.getD j [])=A.getD (σ j) (q 0)),
  ∃(z:List El) (w d:Nat→Nat),Env A h t z w d (sN B σ h):=by
 intro h
 induction h with
 |zero=>
  intro R _;exact⟨[],fun _=>1,fun _=>1,rfl,R,⟨⟨fun i hi=>absurd hi (Nat.not_lt_zero _),fun i hi=>absurd hi (Nat.not_lt_zero _)⟩,fun i hi=>absurd hi (Nat.not_lt_zero _),fun i hi=>absurd hi (Nat.not_lt_zero _)⟩,
   ⟨fun i hi=>absurd hi (Nat.not_lt_zero _),fun i hi=>absurd hi (Nat.not_lt_zero _)⟩,fun j hj=>absurd hj (Nat.not_lt_zero _)⟩
 |succ h ih=>
  intro R hσ;obtain⟨z,w,d,E⟩:=ih (R.le (Nat.le_succ h)) (fun j hj=>hσ j (by omega));obtain⟨h1,h2⟩:=hσ h (by omega);have hin:In h t (A.getD (σ h) (q 0)):=by rw[←h2];exact .of (R.rl h (by omega)).1
  have hH:=GA S h1 (σ h) (kk:=0) (by omega) (c:=0) E (fun i hi=>absurd hi (Nat.not_lt_zero _)) hin;rw[←h2]at hH;obtain⟨z',w',d',hag,hZ,hL,hw,hd⟩:=Tw.grow E.zt E.lk R hH;refine⟨z',w',d',by rw[sN,X6,E.sl];rfl,R,hZ,hL,fun j hj=>?_⟩
  by_cases e:j=h
  ·have es:(sN B σ (h+1)).getD j (0,0)=(σ h,2^h*go B (σ h) (σ h) (sN B σ h) 0 0):=by
    rw[sN,e,E.sl,X7,List.getElem?_append_right (by rw[E.sl];exact Nat.le_refl h),E.sl];simp
   rw[es,e];exact⟨h2,hw,hd,(hH.congr (fun i hi=>(hag i hi).1) (fun i hi=>(hag i hi).2.1)).mono (Nat.le_mul_of_pos_left _ (Nat.two_pow_pos h))⟩
  have hjh:j<h:=by omega
  have es:(sN B σ (h+1)).getD j (0,0)=(sN B σ h).getD j (0,0):=by
   rw[sN,X7,List.getElem?_append_left (by rw[E.sl];exact hjh),←X7]
  rw[es,(hag j hjh).2.1,(hag j hjh).2.2];obtain⟨a1,a2,a3,a4⟩:=E.at' j hjh;exact⟨a1,a2,a3,a4.congr (fun i hi=>(hag i (by omega)).1) (fun i hi=>(hag i (by omega)).2.1)⟩
def wj (B:Nat)(s:List (Nat×Nat))(k:Nat):Nat:=match Kr s k with
 |some W=>2*W
 |none=>rS (I1 s) s.length (go B k k s 0 0)
theorem LG {A:List R}{B:Nat}(S:Src B A){h:Nat}{t z:List El}{w d:Nat→Nat}{s:List (Nat×Nat)}(E:Env A h t z w d s){k:Nat}(hk:k<A.length)(hin:In h t (R.sqrt (A.getD k (q 0)))):
  Ht h z w (R.sqrt (A.getD k (q 0))) (wj B s k):=by
 have hp:=S.pos k hk;unfold wj
 cases hl:Kr s k with
 |some W=>
  obtain⟨j,hj,ej⟩:=sT hl;have hb:=Ht.basis E (j:=j) (by rw[←E.sl];exact hj);rw[(E.at' j (by rw[←E.sl];exact hj)).1,ej]at hb;exact hb
 |none=>
  have hin2:In h t (A.getD k (q 0)):=by
   rw[←R.dU (bG.2 (.inr hp))];exact In.mul E.rd.rl hin hin
  have hH:=GA S hk k (kk:=0) (by omega) (c:=0) E (fun i hi=>absurd hi (Nat.not_lt_zero _)) hin2;have hr:=Ht.sqrt (W:=I1 s) E.zt (fun i hi=>Nat.le_trans (E.at' i hi).2.1 (Nat.pow_le_pow_right (by decide) (Cb (by rw[E.sl];exact hi)))) ((E.lk.ju E.rd.rl _).1 hin) (R.dU (bG.2 (.inr hp))) hH;rw[E.sl];exact hr
end Go.Tw
namespace Go.Tw
open Go Go.R
def AO:Nat→Nat
 |0=>2^13
 |1=>2^18
 |2=>2^23
 |_=>2^18
def cW:Nat:=131072
def ze (s:List (Nat×Nat))(k:Nat):Nat:=match Kr s k with
 |some W=>W
 |none=>go 64 k k s 0 0
def OW (s:List (Nat×Nat))(h:Nat):Bool:=decide (ze s 0≤cW)&&decide (ze s 1≤cW)&&decide (ze s 2≤cW)&&decide (wj 64 s 0≤AO h)&&decide (wj 64 s 1≤AO h)&&decide (wj 64 s 2≤AO h)&&decide (I1 s≤cW)
theorem xJ {s:List (Nat×Nat)}{h k:Nat}(H:OW s h=true)(hk:k<3):wj 64 s k≤AO h∧I1 s≤cW∧ze s k≤cW:=by
 simp only[OW,Bool.and_eq_true,decide_eq_true_eq]at H;obtain⟨⟨⟨⟨⟨⟨g0,g1⟩,g2⟩,h0⟩,h1⟩,h2⟩,h3⟩:=H
 match k,hk with
 |0,_=>exact⟨h0,h3,g0⟩
 |1,_=>exact⟨h1,h3,g1⟩
 |2,_=>exact⟨h2,h3,g2⟩
def sL (l:List Nat):List (Nat×Nat):=l.foldl (fun s k=>s++[(k,2^s.length*go 64 k k s 0 0)]) []
theorem L9 (σ:Nat→Nat):∀h,sN 64 σ h=sL ((List.range h).map σ)
 |0=>rfl
 |h+1=>by
  rw[sN,L9 σ h];unfold sL;rw[List.range_succ,List.map_append,List.foldl_append];rfl
def E5:List (List Nat):=[[],[0],[1],[2],[0,1],[0,2],[1,0],[1,2],[2,0],[2,1],[0,1,2],[0,2,1],[1,0,2],[1,2,0],[2,0,1],[2,1,0]]
theorem Po:∀l∈E5,OW (sL l) l.length=true:=by decide+kernel
theorem Ls {h:Nat}{σ:Nat→Nat}(h3:∀j,j<h→σ j<3)(hi:∀i j,i<j→j<h→σ i≠σ j):h≤3∧(List.range h).map σ∈E5:=by
 have hle:h≤3:=by
  refine Nat.le_of_not_lt fun hl=>?_;have a0:=h3 0 (by omega);have a1:=h3 1 (by omega);have a2:=h3 2 (by omega);have a3:=h3 3 (by omega);have b01:=hi 0 1 (by omega) (by omega);have b02:=hi 0 2 (by omega) (by omega);have b03:=hi 0 3 (by omega) (by omega);have b12:=hi 1 2 (by omega) (by omega);have b13:=hi 1 3 (by omega) (by omega);have b23:=hi 2 3 (by omega) (by omega);omega
 refine⟨hle,?_⟩;have three:∀{n:Nat},n<3→n=0∨n=1∨n=2:=by intro n;omega
 match h,hle with
 |0,_=>show[]∈E5;decide
 |1,_=>
  show[σ 0]∈E5
  rcases three (h3 0 (by omega))with e|e|e<;>rw [e]<;>decide
 |2,_=>
  show[σ 0,σ 1]∈E5
  have b:=hi 0 1 (by omega) (by omega)
  rcases three (h3 0 (by omega))with e|e|e<;>rcases three (h3 1 (by omega))with f|f|f<;>rw [e,f]at b⊢<;>first|exact absurd rfl b|decide
 |3,_=>
  show[σ 0,σ 1,σ 2]∈E5
  have b:=hi 0 1 (by omega) (by omega);have c:=hi 0 2 (by omega) (by omega);have d:=hi 1 2 (by omega) (by omega)
  rcases three (h3 0 (by omega))with e|e|e<;>rcases three (h3 1 (by omega))with f|f|f<;>rcases three (h3 2 (by omega))with g|g|g<;>rw [e]at b c⊢<;>rw [f]at b d⊢<;>rw [g]at c d⊢<;>first|exact absurd rfl b|exact absurd rfl c|exact absurd rfl d|decide
structure TG (A:List R) (t:List El):Prop where
 rd:Rd t.length t
 mem:∀j,j<t.length→val j t (t.getD j [])∈A
theorem K9 {h:Nat}{t:List El}(D:Rd h t){i j:Nat}(hij:i<j)(hj:j<h):val i t (t.getD i [])≠val j t (t.getD j []):=by
 intro e;have h1:In j t (R.sqrt (val i t (t.getD i []))):=(In.root (h:=i) (t:=t)).le (by omega);refine D.ns j hj _ h1 ?_;rw[←e];exact R.dU (bG.2 (.inr (D.rl i (by omega)).2))
theorem TG.DH {A:List R}{t:List El}(T:TG A t):∃σ:Nat→Nat,(∀j,j<t.length→σ j<A.length∧val j t (t.getD j [])=A.getD (σ j) (q 0))∧∀i j,i<j→j<t.length→σ i≠σ j:=by
 obtain⟨σ,hσ⟩:=Classical.axiomOfChoice (r:=fun(j k:Nat)=>j<t.length→k<A.length∧val j t (t.getD j [])=A.getD k (q 0)) (fun j=>by
  by_cases hj:j<t.length
  ·obtain⟨k,hk,e⟩:=List.mem_iff_getElem.1 (T.mem j hj);exact⟨k,fun _=>⟨hk,by rw[←e,X7,X8 hk];rfl⟩⟩
  exact⟨0,fun h=>absurd h hj⟩)
 refine⟨σ,hσ,fun i j hij hj e=>K9 T.rd hij hj ?_⟩;rw[(hσ i (by omega)).2,(hσ j hj).2,e]
theorem TG.env {A:List R}(S:Src 64 A)(hA:A.length≤3){t:List El}(T:TG A t):
  t.length≤3∧∃(z:List El) (w d:Nat→Nat),Zt t.length z w∧Lk t.length t z d∧(∀i,i<t.length→w i≤2^cW∧d i≤2^cW∧Ht i z w (val i t (t.getD i [])) cW)∧
   (∀a∈A,In t.length t (R.sqrt a)→Ht t.length z w (R.sqrt a) (AO t.length))∧∀a∈A,In t.length t a→Ht t.length z w a cW:=by
 obtain⟨σ,hσ,hi⟩:=T.DH;obtain⟨h3,hm⟩:=Ls (fun j hj=>by have:=(hσ j hj).1;omega) hi;have ha:=Po _ hm;rw[List.length_map,List.length_range,←L9]at ha;obtain⟨z,w,d,E⟩:=Tw.env S T.rd hσ;refine⟨h3,z,w,d,E.zt,E.lk,fun i hi=>?_,fun a haA hin=>?_,fun a haA hin=>?_⟩
 ·obtain⟨_,h1,h2,h4⟩:=E.at' i hi
  have:=Cb (s:=sN 64 σ t.length) (j:=i) (by rw[E.sl];exact hi)
  have hm:=Nat.le_trans this (xJ ha (k:=0) (by decide)).2.1;have hl:2^((sN 64 σ t.length).getD i (0,0)).2≤2^cW:=Nat.pow_le_pow_right (by decide) hm;exact⟨Nat.le_trans h1 hl,Nat.le_trans h2 hl,h4.mono hm⟩
 ·obtain⟨k,hk,rfl⟩:=List.mem_iff_getElem.1 haA;have ek:A.getD k (q 0)=A[k]:=by rw[X7,X8 hk];rfl
  rw[←ek]at hin⊢;exact(LG S E hk hin).mono (xJ ha (by omega)).1
 obtain⟨k,hk,rfl⟩:=List.mem_iff_getElem.1 haA;have ek:A.getD k (q 0)=A[k]:=by rw[X7,X8 hk];rfl
 rw[←ek]at hin⊢;refine Ht.mono ?_ (xJ ha (show k<3 by omega)).2.2;unfold ze
 cases hl:Kr (sN 64 σ t.length) k with
 |some W=>
  obtain⟨j,hj,ej⟩:=sT hl;rw[E.sl]at hj;obtain⟨a1,_,_,a4⟩:=E.at' j hj;rw[ej]at a1 a4;rw[a1]at a4;exact a4.le (Nat.le_of_lt hj)
 |none=>exact GA S hk k (kk:=0) (by omega) (c:=0) E (fun i hi=>absurd hi (Nat.not_lt_zero _)) hin
end Go.Tw
/-
  NUMBERS: a tower, an element, its value, and how long its coefficients are.
-/
namespace Go.Tw
open Go Go.R Go.Eng
def QB (B:Nat)(a:El):Prop:=∀c∈a,qm c≤B
theorem QB.mono {B C:Nat}{a:El}(h:QB B a)(k:B≤C):QB C a:=fun c hc=>Nat.le_trans (h c hc) k
theorem QB.take {B:Nat}{a:El}(h:QB B a)(n:Nat):QB B (a.take n):=fun c hc=>h c (List.mem_of_mem_take hc)
theorem QB.drop {B:Nat}{a:El}(h:QB B a)(n:Nat):QB B (a.drop n):=fun c hc=>h c (List.mem_of_mem_drop hc)
theorem QB.app {B:Nat}{a b:El}(h:QB B a)(k:QB B b):QB B (a++b):=fun c hc=>by
 rcases List.mem_append.1 hc with hc|hc
 ·exact h c hc
 exact k c hc
theorem Da:qm 0≤1:=by decide+kernel
theorem QB.zero {n:Nat}:QB 1 (zE n):=fun c hc=>by rw[List.eq_of_mem_replicate hc];exact Da
theorem oX (x:Rat):qm (-x)=qm x:=by unfold qm;rw[Rat.neg_num,Rat.neg_den,FM]
theorem QB.neg {B:Nat}{a:El}(h:QB B a):QB B (aG a):=fun c hc=>by
 obtain⟨x,hx,rfl⟩:=List.mem_map.1 hc;rw[oX];exact h x hx
theorem QB.add:∀{a b:El} {B C:Nat},QB B a→QB C b→QB (B+C+1) (aC a b)
 |[],b,_,_,_,_=>by intro x hx;cases b<;>cases hx
 |x::a,[],_,_,_,_=>by intro y hy;cases hy
 |x::a,y::b,B,C,h,k=>by
  intro u hu;have hu:u=x+y∨u∈aC a b:=List.mem_cons.1 hu
  rcases hu with rfl|hu
  ·have:=IW x y
   have:=h x (by simp)
   have:=k y (by simp)
   omega
  exact QB.add (fun v hv=>h v (by simp[hv])) (fun v hv=>k v (by simp[hv])) u hu
theorem QB.getD {B:Nat}{a:El}(h:QB B a)(h1:1≤B)(i:Nat):qm (a.getD i 0)≤B:=by
 rw[X7]
 cases e:a[i]? with
 |none=>exact Nat.le_trans Da h1
 |some x=>exact h x (List.mem_of_getElem? e)
def mS:Nat→Nat→Nat→Nat
 |0,S,_=>S
 |h+1,S,C=>mS h S C+mS h (mS h S C+C) C+1
theorem il {h S C:Nat}:S≤mS h S C:=by
 induction h generalizing S with
 |zero=>exact Nat.le_refl _
 |succ h ih=>have:=ih (S:=S);rw[mS];omega
theorem JK {h S T C:Nat}(k:S≤T):mS h S C≤mS h T C:=by
 induction h generalizing S T with
 |zero=>exact k
 |succ h ih=>
  have h1:=ih k;have h2:=ih (S:=mS h S C+C) (T:=mS h T C+C) (by omega);rw[mS,mS];omega
theorem QB.mul {h:Nat}{t:List El}{C:Nat}(hC:1≤C):∀{a b:El} {A B:Nat} (_:∀i,i<h→QB C (t.getD i [])),1≤A→1≤B→QB A a→QB B b→QB (mS h (A+B) C) (aj h t a b):=by
 induction h with
 |zero=>
  intro a b A B _ h1 h2 ha hb c hc;rw[aj,List.mem_singleton]at hc;subst hc
  have:=Bp (a.getD 0 0) (b.getD 0 0)
  have:=ha.getD h1 0
  have:=hb.getD h2 0
  show _≤A+B;omega
 |succ h ih=>
  intro a b A B ht h1 h2 ha hb;have ih':=fun{a b:El} {A B:Nat}=>ih (a:=a) (b:=b) (A:=A) (B:=B) (fun i hi=>ht i (by omega));have g1:=ih' h1 h2 (ha.take (2^h)) (hb.take (2^h));have g2:=ih' h1 h2 (ha.drop (2^h)) (hb.drop (2^h));have g3:=ih' h1 h2 (ha.take (2^h)) (hb.drop (2^h));have g4:=ih' h1 h2 (ha.drop (2^h)) (hb.take (2^h));have hge:=il (h:=h) (S:=A+B) (C:=C);have g5:=ih' (by omega) hC g2 (ht h (by omega));have k5:=il (h:=h) (S:=mS h (A+B) C+C) (C:=C);rw[aj,mS];refine QB.app (g1.add g5) ((g3.add g4).mono ?_);omega
theorem bK {h:Nat}{t:List El}{b:El}:aj h t (zE (2^h)) b=zE (2^h):=by
 have zz:∀n,aC (zE n) (zE n)=zE n:=by
  intro n;unfold aC zE;rw[List.zipWith_replicate,Nat.min_self,Rat.add_zero]
 induction h generalizing b with
 |zero=>rw[aj];show[(0:Rat)*_]=_;rw[Rat.zero_mul];rfl
 |succ h ih=>rw[aj,pc,ql,ih,ih,ih,zz,BD]
theorem fY {h:Nat}{t:List El}{a:El}:aj h t a (zE (2^h))=zE (2^h):=by
 have zz:∀n,aC (zE n) (zE n)=zE n:=by
  intro n;unfold aC zE;rw[List.zipWith_replicate,Nat.min_self,Rat.add_zero]
 induction h generalizing a with
 |zero=>rw[aj];show[_*(0:Rat)]=_;rw[Rat.mul_zero];rfl
 |succ h ih=>rw[aj,pc,ql,ih,ih,bK,zz,BD]
end Go.Tw
namespace Go.Tw
open Go Go.R Go.Eng
theorem Sz.imp {G G':R→Nat→Prop}(h:∀x H,G x H→G' x H){x:R}{H:Nat}(hx:Sz G x H):Sz G' x H:=by
 induction hx with
 |gen g=>exact .gen (h _ _ g)
 |rat h1 h2=>exact .rat h1 h2
 |add _ _ h1 h2=>exact .add h1 h2
 |mul _ _ h1 h2=>exact .mul h1 h2
 |neg _ h1=>exact .neg h1
 |inv _ e h1=>exact .inv h1 e
 |mono _ e h1=>exact .mono h1 e
def lR (A:List R)(t:List El)(x:R)(β μ:Nat):Prop:=∀c,Sz (fun y H=>(∃a,a∈A∧y=R.sqrt a)∧In t.length t y∧H=c) x (β+μ*c)
section
variable {A:List R}{t:List El}
theorem lR.mono {x:R}{β μ β' μ':Nat}(h:lR A t x β μ)(h1:β≤β')(h2:μ≤μ'):lR A t x β' μ':=fun c=>(h c).mono (by
 have:=Nat.mul_le_mul_right c h2;omega)
theorem lR.add {x y:R}{β μ β' μ':Nat}(h:lR A t x β μ)(k:lR A t y β' μ'):lR A t (x+y) (β+β'+1) (μ+μ'):=fun c=>((h c).add (k c)).mono (by rw[Nat.add_mul];omega)
theorem lR.mul {x y:R}{β μ β' μ':Nat}(h:lR A t x β μ)(k:lR A t y β' μ'):lR A t (x*y) (β+β') (μ+μ'):=fun c=>((h c).mul (k c)).mono (by rw[Nat.add_mul];omega)
theorem lR.neg {x:R}{β μ:Nat}(h:lR A t x β μ):lR A t (-x) β μ:=fun c=>(h c).neg
theorem lR.inv {x y:R}{β μ:Nat}(h:lR A t x β μ)(e:x*y=q 1):lR A t y β μ:=fun c=>(h c).inv e
theorem lR.rat {x:Rat}{β:Nat}(h1:x.num.natAbs≤2^β)(h2:x.den≤2^β):lR A t (q x) β 0:=fun c=>(Sz.rat h1 h2).mono (by omega)
theorem lR.root {a:R}(h:a∈A)(k:In t.length t (R.sqrt a)):lR A t (R.sqrt a) 0 1:=fun c=>(Sz.gen ⟨⟨a,h,rfl⟩,k,rfl⟩).mono (by omega)
theorem lR.trans {A':List R}{T:List El}(hA:∀a,a∈A→a∈A')(hT:∀x,In t.length t x→In T.length T x){x:R}{β μ:Nat}(h:lR A t x β μ):lR A' T x β μ:=
 fun c=>(h c).imp fun _ _ ⟨⟨a,ha,e⟩,hi,hc⟩=>⟨⟨a,hA a ha,e⟩,hT _ hi,hc⟩
end
structure ax (A:List R) (t:List El) (a:El) (x:R) (β μ:Nat):Prop where
 tg:TG A t
 len:a.length=2^t.length
 val:val t.length t a=x
 sz:lR A t x β μ
theorem ax.mono {A:List R}{t:List El}{a:El}{x:R}{β μ β' μ':Nat}(h:ax A t a x β μ)(h1:β≤β')(h2:μ≤μ'):ax A t a x β' μ':=⟨h.tg,h.len,h.val,h.sz.mono h1 h2⟩
theorem TG.sub {A A':List R}{t:List El}(hA:∀a,a∈A→a∈A')(T:TG A t):TG A' t:=⟨T.rd,fun j hj=>hA _ (T.mem j hj)⟩
theorem ax.sub {A A':List R}{t:List El}{a:El}{x:R}{β μ:Nat}(hA:∀a,a∈A→a∈A')(h:ax A t a x β μ):ax A' t a x β μ:=⟨h.tg.sub hA,h.len,h.val,h.sz.trans hA fun _ h=>h⟩
theorem CW {n b:Nat}(h:n≤2^b):nl n≤b/32+1:=by
 refine aB (Nat.lt_of_le_of_lt h ?_);show 2^b<(2^32)^(b/32+1);rw[←Nat.pow_mul];exact Nat.pow_lt_pow_right (by decide) (by omega)
theorem pX {c:Rat}{b:Nat}(h1:c.num.natAbs≤2^b)(h2:c.den≤2^b):qm c≤b/32+1:=by
 have:=CW h1
 have:=CW h2
 unfold qm zn;omega
def qN (h β μ:Nat):Nat:=2^h*(β+μ*AO h+cW)/32+1
theorem ax.qb {A:List R}(S:Src 64 A)(hA:A.length≤3){t:List El}{a:El}{x:R}{β μ:Nat}(h:ax A t a x β μ):QB (qN t.length β μ) a:=by
 obtain⟨h3,z,w,d,Z,L,hwd,hG,_⟩:=h.tg.env S hA;have hx:=(h.sz (AO t.length)).ht Z (fun y H ⟨⟨a,ha,e⟩,hi,hc⟩=>by rw[e]at hi⊢;rw[hc];exact hG a ha hi);intro c hc
 have:=oA (E:=cW) L h.tg.rd.rl Z (fun i hi=>(hwd i hi).2.1) h.len (by rw[h.val];exact hx) c hc
 exact pX this.1 this.2
def tB:Nat:=32769
theorem TG.qb {A:List R}(S:Src 64 A)(hA:A.length≤3){t:List El}(T:TG A t){i:Nat}(hi:i<t.length):QB tB (t.getD i []):=by
 obtain⟨h3,z,w,d,Z,L,hwd,_,_⟩:=T.env S hA;have h4:=(hwd i hi).2.2;intro c hc
 have:=oA (E:=cW) (L.le (Nat.le_of_lt hi)) (T.rd.rl.le (Nat.le_of_lt hi)) (Z.le (Nat.le_of_lt hi)) (fun j hj=>(hwd j (by omega)).2.1) (T.rd.rl i hi).1 h4 c hc
 have hb:=pX this.1 this.2;refine Nat.le_trans hb ?_
 have:2^i≤2^2:=Nat.pow_le_pow_right (by decide) (by omega)
 have:2^i*(cW+cW)≤2^2*(cW+cW):=Nat.mul_le_mul_right _ this
 unfold cW at*
 unfold tB;omega
theorem Bf {B c:Nat}:∀k,fE B c k+c+1=(B+1)*2^k+2^k*c
 |0=>by rw[fE];omega
 |k+1=>by
  have:=Bf (B:=B) (c:=c) k
  rw[fE,Nat.pow_succ];have e1:(B+1)*(2^k*2)=2*((B+1)*2^k):=by rw[←Nat.mul_assoc,Nat.mul_comm]
  have e2:2^k*2*c=2*(2^k*c):=by rw[Nat.mul_right_comm,Nat.mul_comm]
  rw[e1,e2];omega
theorem Sz.expr {G:R→Nat→Prop}{B c:Nat}{u:List El}:∀{m:Nat} {e:El},e.length=2^m→iD B e→(∀j,j<m→Sz G (R.sqrt (Tw.val j u (u.getD j []))) c)→Sz G (Tw.val m u e) (fE B c m):=by
 intro m
 induction m with
 |zero=>
  intro e he hb _;obtain⟨x,rfl⟩:=bD he;obtain⟨h1,h2⟩:=hb x (by simp);exact Sz.rat h1 h2
 |succ m ih=>
  intro e he hb hs;have h1:=ih (ai he) (fun c hc=>hb c (List.mem_of_mem_take hc)) (fun j hj=>hs j (by omega));have h2:=ih (ah he) (fun c hc=>hb c (List.mem_of_mem_drop hc)) (fun j hj=>hs j (by omega));exact(h1.add (h2.mul (hs m (by omega)))).mono (by rw[fE];omega)
theorem ax.short {A:List R}{t:List El}{a:El}{B:Nat}(T:TG A t)(ha:a.length=2^t.length)(hb:iD B a):ax A t a (Tw.val t.length t a) ((B+1)*2^t.length) (2^t.length):=
 ⟨T,ha,rfl,fun c=>(Sz.expr (c:=c) ha hb (fun j hj=>.gen ⟨⟨_,T.mem j hj,rfl⟩,(In.root (h:=j) (t:=t)).le (by omega),rfl⟩)).mono (by have:=Bf (B:=B) (c:=c) t.length;omega)⟩
theorem TG.F3 {A:List R}{t:List El}(T:TG A t)(hA:A.length≤3):t.length≤A.length:=by
 obtain⟨σ,hσ,hi⟩:=T.DH;refine Nat.le_of_not_lt fun hl=>?_;have h:∀j,j<t.length→σ j<A.length:=fun j hj=>(hσ j hj).1;have k0:=fun hj=>h 0 hj;have k1:=fun hj=>h 1 hj;have k2:=fun hj=>h 2 hj;have k3:=fun hj=>h 3 hj;have b01:=fun hj=>hi 0 1 (by omega) hj;have b02:=fun hj=>hi 0 2 (by omega) hj;have b03:=fun hj=>hi 0 3 (by omega) hj;have b12:=fun hj=>hi 1 2 (by omega) hj;have b13:=fun hj=>hi 1 3 (by omega) hj;have b23:=fun hj=>hi 2 3 (by omega) hj;omega
theorem Src.snoc {A:List R}(S:Src 64 A)(hA:A.length≤3){t:List El}{a:El}(T:TG A t)(ha:a.length=2^t.length)(hb:iD 64 a)(hp:R.pos (Tw.val t.length t a)):Src 64 (A++[Tw.val t.length t a]):=by
 have e1:∀k,k<A.length→(A++[Tw.val t.length t a]).getD k (q 0)=A.getD k (q 0):=fun k hk=>by
  rw[X7,List.getElem?_append_left hk,←X7]
 have e2:(A++[Tw.val t.length t a]).getD A.length (q 0)=Tw.val t.length t a:=by
  rw[X7,List.getElem?_append_right (Nat.le_refl _)];simp
 refine⟨fun k hk=>?_,fun k hk=>?_⟩
 ·by_cases h:k<A.length
  ·rw[e1 k h];exact S.pos k h
  obtain rfl:k=A.length:=by simp at hk;omega
  rw[e2];exact hp
 by_cases h:k<A.length
 ·rw[e1 k h,List.take_append_of_le_length (Nat.le_of_lt h)];exact S.expr k h
 obtain rfl:k=A.length:=by simp at hk;omega
 rw[e2,List.take_append_of_le_length (Nat.le_refl _),List.take_length];exact⟨_,_,_,T.F3 hA,ha,hb,T.mem,rfl⟩
end Go.Tw
/-
  What signs, inverses and square roots need to be short.
-/
namespace Go.Tw
open Go Go.R Go.Eng
theorem qP:∀(a b:El),aC a b=aC b a
 |[],[]=>rfl
 |[],_::_=>rfl
 |_::_,[]=>rfl
 |x::a,y::b=>by
  show(x+y)::aC a b=(y+x)::aC b a
  rw[Rat.add_comm,qP]
theorem wz {h:Nat}{t:List El}:∀(a b:El),aj h t a b=aj h t b a:=by
 induction h with
 |zero=>intro a b;rw[aj,aj,Rat.mul_comm]
 |succ h ih=>
  intro a b;rw[aj,aj,ih (a.take _) (b.take _),ih (a.drop _) (b.drop _),ih (a.take _) (b.drop _),ih (a.drop _) (b.take _),qP (aj h t (b.drop _) (a.take _))]
structure Ev (h:Nat) (t z:List El) (w d:Nat→Nat):Prop where
 rd:Rd h t
 zt:Zt h z w
 lk:Lk h t z d
 wb:∀i,i<h→w i≤2^cW
 db:∀i,i<h→d i≤2^cW
 rb:∀i,i<h→Ht i z w (val i t (t.getD i [])) cW
theorem Ev.le {h k:Nat}{t z:List El}{w d:Nat→Nat}(E:Ev h t z w d)(hk:k≤h):Ev k t z w d:=⟨E.rd.le hk,E.zt.le hk,E.lk.le hk,fun i hi=>E.wb i (by omega),fun i hi=>E.db i (by omega),fun i hi=>E.rb i (by omega)⟩
def bW (h H:Nat):Nat:=2^h*(H+cW)/32+1
theorem n9 {h k H K:Nat}(e:2^h*(H+cW)≤2^k*(K+cW)):bW h H≤bW k K:=by unfold bW;omega
section
variable {t z:List El}{w d:Nat→Nat}
theorem Ev.qb {h:Nat}(E:Ev h t z w d){a:El}{H:Nat}(ha:a.length=2^h)(hx:Ht h z w (val h t a) H):QB (bW h H) a:=fun c hc=>by
 have:=oA (E:=cW) E.lk E.rd.rl E.zt E.db ha hx c hc
 exact pX this.1 this.2
theorem Ev.parts {h:Nat}(E:Ev (h+1) t z w d){a:El}{H:Nat}(ha:a.length=2^(h+1))(hx:Ht (h+1) z w (val (h+1) t a) H):
  Ht h z w (val h t (a.take (2^h))) (2*H)∧Ht h z w (val h t (a.drop (2^h))) (2*H+cW)∧Ht h z w (val h t (aL h t a)) (2*H):=by
 have E':=E.le (Nat.le_succ h);have hr:=E.lk.root E.rd.rl;have hd:=oo (E.lk.d0 h (by omega));have hu:In h t (val h t (a.take (2^h))):=.of (ai ha);have hv:In h t (val h t (a.drop (2^h))*q ((d h:Rat)⁻¹)):=In.mul E'.rd.rl (.of (ah ha)) (In.rat _);have e:val (h+1) t a=val h t (a.take (2^h))+val h t (a.drop (2^h))*q ((d h:Rat)⁻¹)*R.sqrt (val h z (z.getD h [])):=by
  rw[hr,mul_assoc (val h t _),←mul_assoc (q _),mul_comm (q ((d h:Rat)⁻¹)),hd,one_mul];rfl
 rw[e]at hx;obtain⟨k1,k2,k3⟩:=Ht.split E.zt ((E'.lk.ju E'.rd.rl _).1 hu) ((E'.lk.ju E'.rd.rl _).1 hv) hx;have hdn:Ht h z w (q (d h:Rat)) cW:=by
  refine Ht.rat ?_ ?_
  ·rw[Rat.num_natCast,Int.natAbs_natCast];exact E.db h (by omega)
  rw[Rat.den_natCast];exact Nat.one_le_two_pow
 have k4:=k2.mul E'.zt hdn;rw[mul_assoc,mul_comm (q _),hd,mul_one]at k4;refine⟨k1,k4,?_⟩;rw[eZ E.rd.rl ha,E.rd.rl.root];have e3:val h t (a.drop (2^h))*q ((d h:Rat)⁻¹)*(val h t (a.drop (2^h))*q ((d h:Rat)⁻¹))*val h z (z.getD h [])=val h t (a.drop (2^h))*val h t (a.drop (2^h))*val h t (t.getD h []):=by
  rw[jM,E.lk.v h (by omega),eE,mul_assoc (_*_) (_*_),←mul_assoc (q _*q _) (q _*q _),jM (q _) (q _),mul_comm (q (d h:Rat)⁻¹),hd,one_mul,one_mul]
 rw[e3]at k3;exact k3
def iH (X:Nat):Nat→List El→El→Prop
 |0,_,a=>QB X a
 |h+1,t,a=>QB X a∧iH X h t (a.take (2^h))∧iH X h t (a.drop (2^h))∧iH X h t (aL h t a)
theorem iH.mono {X Y:Nat}(hXY:X≤Y){h:Nat}:∀{t:List El} {a:El},iH X h t a→iH Y h t a:=by
 induction h with
 |zero=>intro t a H;exact QB.mono H hXY
 |succ h ih=>intro t a H;exact⟨H.1.mono hXY,ih H.2.1,ih H.2.2.1,ih H.2.2.2⟩
theorem iH.qb {X h:Nat}{t:List El}{a:El}(H:iH X h t a):QB X a:=by
 cases h with
 |zero=>exact H
 |succ h=>exact H.1
theorem mN {h H K:Nat}(e:H≤2*K):2^h*H≤2^(h+1)*K:=by
 rw[Nat.pow_succ,Nat.mul_assoc];exact Nat.mul_le_mul_left _ e
theorem iH.of {h:Nat}:∀(_:Ev h t z w d) {a:El} {H:Nat},a.length=2^h→Ht h z w (val h t a) H→iH (bW h H) h t a:=by
 induction h with
 |zero=>intro E a H ha hx;exact E.qb ha hx
 |succ h ih=>
  intro E a H ha hx;obtain⟨h1,h2,h3⟩:=E.parts ha hx;have ih:=fun{a:El} {H:Nat}=>ih (E.le (Nat.le_succ h)) (a:=a) (H:=H);exact⟨E.qb ha hx,(ih (ai ha) h1).mono (n9 (mN (by omega))),(ih (ah ha) h2).mono (n9 (mN (by omega))),(ih aF h3).mono (n9 (mN (by omega)))⟩
def lU (X:Nat):Nat→List El→El→Prop
 |0,_,a=>QB X a
 |h+1,t,a=>QB X a∧lU X h t (a.take (2^h))∧lU X h t (aL h t a)∧(∀n,cg h t (a.take (2^h))=some n→QB X n)∧(∀n,cg h t (aL h t a)=some n→QB X n)
theorem lU.mono {X Y:Nat}(hXY:X≤Y){h:Nat}:∀{t:List El} {a:El},lU X h t a→lU Y h t a:=by
 induction h with
 |zero=>intro t a H;exact QB.mono H hXY
 |succ h ih=>intro t a H;exact⟨H.1.mono hXY,ih H.2.1,ih H.2.2.1,fun n hn=>(H.2.2.2.1 n hn).mono hXY,fun n hn=>(H.2.2.2.2 n hn).mono hXY⟩
theorem lU.qb {X h:Nat}{t:List El}{a:El}(H:lU X h t a):QB X a:=by
 cases h with
 |zero=>exact H
 |succ h=>exact H.1
theorem Ev.DA {h:Nat}(E:Ev h t z w d){a n:El}{H:Nat}(ha:a.length=2^h)(hx:Ht h z w (val h t a) H)(hn:cg h t a=some n):QB (bW h H) n:=by
 obtain⟨hl,hv⟩:=du E.rd.rl ha hn;exact E.qb hl (hx.inv hv)
theorem lU.of {h:Nat}:∀(_:Ev h t z w d) {a:El} {H:Nat},a.length=2^h→Ht h z w (val h t a) H→lU (bW h H) h t a:=by
 induction h with
 |zero=>intro E a H ha hx;exact E.qb ha hx
 |succ h ih=>
  intro E a H ha hx;obtain⟨h1,h2,h3⟩:=E.parts ha hx;have E':=E.le (Nat.le_succ h);have ih:=fun{a:El} {H:Nat}=>ih E' (a:=a) (H:=H);have hb:bW h (2*H)≤bW (h+1) H:=n9 (mN (by omega));exact⟨E.qb ha hx,(ih (ai ha) h1).mono hb,(ih aF h3).mono hb,fun n hn=>(E'.DA (ai ha) h1 hn).mono hb,fun n hn=>(E'.DA aF h3 hn).mono hb⟩
def vM (h:Nat):El:=aX h ((2:Rat)⁻¹)
def kP (X:Nat):Nat→List El→El→Prop
 |0,_,a=>QB X a
 |h+1,t,a=>iH X (h+1) t a∧
  (a.drop (2^h)=zE (2^h)→kP X h t (a.take (2^h))∧lU X h t (t.getD h [])∧∀i,cg h t (t.getD h [])=some i→QB X i∧kP X h t (aj h t (a.take (2^h)) i))∧
  (a.drop (2^h)≠zE (2^h)→kP X h t (aL h t a)∧∀n,n.length=2^h→val h t n*val h t n=val h t (aL h t a)→
   QB X n∧QB X (aC (a.take (2^h)) n)∧kP X h t (aj h t (aC (a.take (2^h)) n) (vM h))∧
   ∀p,p.length=2^h→val h t p*val h t p=val h t (aj h t (aC (a.take (2^h)) n) (vM h))→
    QB X p∧lU X h t p∧lU X h t (aC p p)∧(∀i,cg h t p=some i→QB X i∧QB X (aj h t (a.drop (2^h)) i))∧(∀i,cg h t (aC p p)=some i→QB X i))
theorem kP.mono {X Y:Nat}(hXY:X≤Y){h:Nat}:∀{t:List El} {a:El},kP X h t a→kP Y h t a:=by
 induction h with
 |zero=>intro t a H;exact QB.mono H hXY
 |succ h ih=>
  intro t a H;obtain⟨h1,h2,h3⟩:=H;refine⟨h1.mono hXY,fun e=>?_,fun e=>?_⟩
  ·obtain⟨g1,g2,g3⟩:=h2 e;exact⟨ih g1,g2.mono hXY,fun i hi=>⟨(g3 i hi).1.mono hXY,ih (g3 i hi).2⟩⟩
  obtain⟨g1,g2⟩:=h3 e;refine⟨ih g1,fun n hn he=>?_⟩;obtain⟨k1,k2,k3,k4⟩:=g2 n hn he;refine⟨k1.mono hXY,k2.mono hXY,ih k3,fun p hp hpe=>?_⟩;obtain⟨m1,m2,m3,m4,m5⟩:=k4 p hp hpe;exact⟨m1.mono hXY,m2.mono hXY,m3.mono hXY,fun i hi=>⟨(m4 i hi).1.mono hXY,(m4 i hi).2.mono hXY⟩,fun i hi=>(m5 i hi).mono hXY⟩
theorem kP.qb {X h:Nat}{t:List El}{a:El}(H:kP X h t a):QB X a:=by
 cases h with
 |zero=>exact H
 |succ h=>exact H.1.qb
theorem Ht.half {h:Nat}{z:List El}{w:Nat→Nat}:Ht h z w (q ((2:Rat)⁻¹)) 1:=Ht.rat (by decide+kernel) (by decide+kernel)
theorem Ev.p6 {h:Nat}(E:Ev (h+1) t z w d):Ht h z w (val h t (t.getD h [])) cW:=E.rb h (by omega)
theorem Ib {W h H:Nat}:H≤2*rS W h H:=by
 cases h with
 |zero=>unfold rS;omega
 |succ h=>rw[rS];omega
theorem kP.low {h:Nat}(E:Ev (h+1) t z w d){X:Nat}{a:El}(ha:a.length=2^(h+1))(h0:a.drop (2^h)=zE (2^h))(hs:iH X (h+1) t a)
  (h1:kP X h t (a.take (2^h))) (h2:lU X h t (t.getD h [])) (h3:∀i,cg h t (t.getD h [])=some i→QB X i∧kP X h t (aj h t (a.take (2^h)) i)):kP X (h+1) t a:=
 ⟨hs,fun _=>⟨h1,h2,h3⟩,fun e=>absurd h0 e⟩
theorem kP.of {h:Nat}:∀(_:Ev h t z w d) {a:El} {H:Nat},a.length=2^h→Ht h z w (val h t a) H→kP (bW h (2*rS cW h H+4*cW+4)) h t a:=by
 induction h with
 |zero=>intro E a H ha hx;exact(E.qb ha hx).mono (n9 (Nat.mul_le_mul_left _ (by have:=Ib (W:=cW) (h:=0) (H:=H);omega)))
 |succ h ih=>
  intro E a H ha hx;have E':=E.le (Nat.le_succ h);have Z':=E'.zt;have L':=E'.rd.rl;obtain⟨h1,h2,h3⟩:=E.parts ha hx;have ih:=fun{a:El} {H:Nat}=>ih E' (a:=a) (H:=H);have hge:=Ib (W:=cW) (h:=h) (H:=2*H);have hm1:rS cW h (2*H)≤rS cW h (2*H+rS cW h (2*H)+2+2*cW):=gS (by omega);have hm2:rS cW h (2*H+2*cW)≤rS cW h (2*H+rS cW h (2*H)+2+2*cW):=gS (by omega);have hm3:rS cW h (2*H+rS cW h (2*H)+2)≤rS cW h (2*H+rS cW h (2*H)+2+2*cW):=gS (by omega);have hge2:=Ib (W:=cW) (h:=h) (H:=2*H+rS cW h (2*H)+2+2*cW);have hdef:rS cW (h+1) H=2*rS cW h (2*H+rS cW h (2*H)+2+2*cW)+2*H+cW+2:=by rw[rS]
  have key:∀{K:Nat},K+cW≤2*(2*rS cW (h+1) H+4*cW+4+cW)→bW h K≤bW (h+1) (2*rS cW (h+1) H+4*cW+4):=fun hK=>n9 (mN hK);refine⟨(iH.of E ha hx).mono (n9 (Nat.mul_le_mul_left _ (by omega))),fun e=>?_,fun e=>?_⟩
  ·have hr:=E.p6;have hrl:=(E.rd.rl h (by omega)).1;refine⟨(ih (ai ha) h1).mono (key (by omega)),(lU.of E' hrl hr).mono (key (by omega)),fun i hi=>?_⟩;obtain⟨hl,hv⟩:=du L' hrl hi;have hri:=hr.inv hv;refine⟨(E'.qb hl hri).mono (key (by omega)),?_⟩;have hx2:Ht h z w (val h t (aj h t (a.take (2^h)) i)) (2*H+cW):=by
    rw[val_mul L' (ai ha) hl];exact h1.mul Z' hri
   have hm4:rS cW h (2*H+cW)≤rS cW h (2*H+rS cW h (2*H)+2+2*cW):=gS (by omega);exact(ih (ae (a:=a.take (2^h)) (b:=i)) hx2).mono (key (by omega))
  refine⟨(ih aF h3).mono (key (by omega)),fun n hn he=>?_⟩;have k1:=Ht.sqrt Z' E'.wb ((E'.lk.ju L' _).1 (.of hn)) he h3;have k2:=h1.add Z' k1;rw[←val_add (ai ha) hn]at k2;have k3:=k2.mul Z' Ht.half;have hhl:(vM h).length=2^h:=aD;rw[show q ((2:Rat)⁻¹)=val h t (vM h)from b9.symm,←val_mul L' (aq (ai ha) hn) hhl]at k3;have k3:=k3.mono (K:=2*H+rS cW h (2*H)+2) (by omega);refine⟨(E'.qb hn k1).mono (key (by omega)),(E'.qb (aq (ai ha) hn) k2).mono (key (by omega)),(ih ae k3).mono (key (by omega)),fun p hp hpe=>?_⟩;have k4:=Ht.sqrt Z' E'.wb ((E'.lk.ju L' _).1 (.of hp)) hpe k3;have k5:=Ht.two.mul Z' k4;rw[←DS,←val_add hp hp]at k5;refine⟨(E'.qb hp k4).mono (key (by omega)),(lU.of E' hp k4).mono (key (by omega)),(lU.of E' (aq hp hp) k5).mono (key (by omega)),fun i hi=>?_,fun i hi=>(E'.DA (aq hp hp) k5 hi).mono (key (by omega))⟩;obtain⟨hl,hv⟩:=du L' hp hi;have k6:=k4.inv hv;have k7:=h2.mul Z' k6;rw[←val_mul L' (ah ha) hl]at k7;exact⟨(E'.qb hl k6).mono (key (by omega)),(E'.qb ae k7).mono (key (by omega))⟩
end
end Go.Tw
/-
  What the square roots of radicands and of short numbers need.
-/
namespace Go.Tw
open Go Go.R Go.Eng
section
variable {A:List R}
theorem TG.ev (S:Src 64 A)(hA:A.length≤3){t:List El}(T:TG A t):∃(z:List El) (w d:Nat→Nat),Ev t.length t z w d∧(∀a,a∈A→In t.length t (R.sqrt a)→Ht t.length z w (R.sqrt a) (AO t.length))∧∀a,a∈A→In t.length t a→Ht t.length z w a cW:=by
 obtain⟨h3,z,w,d,Z,L,hwd,h1,h2⟩:=T.env S hA;exact⟨z,w,d,⟨T.rd,Z,L,fun i hi=>(hwd i hi).1,fun i hi=>(hwd i hi).2.1,fun i hi=>(hwd i hi).2.2⟩,h1,h2⟩
theorem TG.lS (S:Src 64 A)(hA:A.length≤3){t:List El}(T:TG A t):t.length≤3:=(T.env S hA).1
theorem ax.ev (S:Src 64 A)(hA:A.length≤3){t:List El}{a:El}{x:R}{β μ:Nat}(h:ax A t a x β μ):∃(z:List El) (w d:Nat→Nat),Ev t.length t z w d∧Ht t.length z w (Tw.val t.length t a) (β+μ*AO t.length):=by
 obtain⟨z,w,d,E,h1,_⟩:=h.tg.ev S hA;refine⟨z,w,d,E,?_⟩;rw[h.val];exact(h.sz (AO t.length)).ht E.zt (fun y H ⟨⟨a,ha,e⟩,hi,hc⟩=>by rw[e]at hi⊢;rw[hc];exact h1 a ha hi)
theorem ax.OR (S:Src 64 A)(hA:A.length≤3){t:List El}{a:El}{x:R}{β μ:Nat}(h:ax A t a x β μ):iH (qN t.length β μ) t.length t a:=by
 obtain⟨z,w,d,E,hx⟩:=h.ev S hA;exact iH.of E h.len hx
theorem ax.PY (S:Src 64 A)(hA:A.length≤3){t:List El}{a:El}{x:R}{β μ:Nat}(h:ax A t a x β μ):lU (qN t.length β μ) t.length t a:=by
 obtain⟨z,w,d,E,hx⟩:=h.ev S hA;exact lU.of E h.len hx
theorem Ev.basis {h:Nat}{t z:List El}{w d:Nat→Nat}(E:Ev h t z w d){j:Nat}(hj:j<h):Ht h z w (R.sqrt (val j t (t.getD j []))) (2*cW):=by
 have h1:=(Ht.root (h:=j) (z:=z) (w:=w) (E.wb j hj)).le (show j+1≤h by omega);have hr:=(E.lk.le (show j+1≤h by omega)).root (E.rd.rl.le (by omega));have hd:=oo (E.lk.d0 j hj);have h4:=h1.mul E.zt (Ht.HW (E.lk.d0 j hj) (E.db j hj));rw[hr,mul_comm,←mul_assoc,mul_comm (q ((d j:Rat)⁻¹)),hd,one_mul]at h4;exact h4.mono (by omega)
theorem Ev.short {h:Nat}{t z:List El}{w d:Nat→Nat}(E:Ev h t z w d){a:El}{B:Nat}(ha:a.length=2^h)(hb:iD B a):Ht h z w (val h t a) (fE B (2*cW) h):=
 Ht.expr E.zt ha hb fun _ hj=>E.basis hj
def lP:Nat:=2^26
theorem pA:∀h,h≤2→bW h (2*rS cW h (2*cW)+4*cW+4)≤lP∧bW h (2*rS cW h (fE 64 (2*cW) h)+4*cW+4)≤lP:=by
 intro h hh
 match h,hh with
 |0,_=>decide+kernel
 |1,_=>decide+kernel
 |2,_=>decide+kernel
theorem xS:bW 3 cW≤lP∧bW 2 cW≤lP∧bW 2 (2*cW)≤lP:=by decide+kernel
theorem TG.full {t:List El}(T:TG A t)(hA:A.length≤3)(h3:t.length=3){a:R}(ha:a∈A):∃j,j<3∧val j t (t.getD j [])=a:=by
 obtain⟨σ,hσ,hi⟩:=T.DH;obtain⟨k,hk,rfl⟩:=List.mem_iff_getElem.1 ha;have ek:A.getD k (q 0)=A[k]:=by rw[X7,X8 hk];rfl
 have s0:=hσ 0 (by omega);have s1:=hσ 1 (by omega);have s2:=hσ 2 (by omega);have b01:=hi 0 1 (by omega) (by omega);have b02:=hi 0 2 (by omega) (by omega);have b12:=hi 1 2 (by omega) (by omega)
 have:σ 0=k∨σ 1=k∨σ 2=k:=by omega
 rcases this with e|e|e
 ·exact⟨0,by omega,by rw[s0.2,e,ek]⟩
 ·exact⟨1,by omega,by rw[s1.2,e,ek]⟩
 exact⟨2,by omega,by rw[s2.2,e,ek]⟩
theorem TG.Qg (S:Src 64 A)(hA:A.length≤3){t:List El}(T:TG A t){e:El}(he:e.length=2^t.length)(hv:val t.length t e∈A):kP lP t.length t e:=by
 obtain⟨z,w,d,E,_,h2⟩:=T.ev S hA;have hx:=h2 _ hv (.of he);have h3:=T.lS S hA
 by_cases h2':t.length≤2
 ·exact(kP.of E he hx).mono (Nat.le_trans (n9 (Nat.mul_le_mul_left _ (by have:=gS (W:=cW) (h:=t.length) (show cW≤2*cW by omega);omega))) (pA _ h2').1)
 have h3:t.length=3:=by omega
 obtain⟨j,hj,ej⟩:=T.full hA h3 hv;rw[h3]at E he hx ej⊢;have E2:=E.le (show 2≤3 by omega);have hin:In 2 t (val 3 t e):=by
  rw[←ej];exact(In.of (E.rd.rl j hj).1).le (by omega)
 obtain⟨p,hp,ep⟩:=hin;have e1:val 3 t (p++zE (2^2))=val 3 t e:=by rw[lJ (h:=2) hp,ep]
 have e2:e=p++zE (2^2):=(val_inj E.rd (by rw[X6,hp,au]) he e1).symm;have et:e.take (2^2)=p:=by rw[e2,List.take_append_of_le_length (by omega),List.take_of_length_le (by omega)]
 have ed:e.drop (2^2)=zE (2^2):=by rw[e2,List.drop_append_of_le_length (by omega),List.drop_of_length_le (by omega),List.nil_append]
 have hpx:Ht 2 z w (val 2 t p) cW:=by
  rw[ep,←ej];exact(E.rb j hj).le (by omega)
 have hr:Ht 2 z w (val 2 t (t.getD 2 [])) cW:=E.p6;have hrl:=(E.rd.rl 2 (by omega)).1;refine kP.low E he ed ((iH.of E he hx).mono xS.1) ?_ ((lU.of E2 hrl hr).mono xS.2.1) fun i hi=>?_
 ·rw[et];exact(kP.of E2 hp hpx).mono (Nat.le_trans (n9 (Nat.mul_le_mul_left _ (by have:=gS (W:=cW) (h:=2) (show cW≤2*cW by omega);omega))) (pA 2 (by omega)).1)
 obtain⟨hl,hvi⟩:=du E2.rd.rl hrl hi;refine⟨(E2.DA hrl hr hi).mono xS.2.1,?_⟩;rw[et];have hx2:Ht 2 z w (val 2 t (aj 2 t p i)) (2*cW):=by
  rw[val_mul E2.rd.rl hp hl];exact(hpx.mul E2.zt (hr.inv hvi)).mono (by omega)
 exact(kP.of E2 ae hx2).mono (pA 2 (by omega)).1
theorem TG.OT (S:Src 64 A)(hA:A.length≤3){t:List El}(T:TG A t)(h2:t.length≤2){e:El}(he:e.length=2^t.length)(hb:iD 64 e):kP lP t.length t e:=by
 obtain⟨z,w,d,E,_,_⟩:=T.ev S hA;exact(kP.of E he (E.short he hb)).mono (pA _ h2).2
theorem TG.OR (S:Src 64 A)(hA:A.length≤3){t:List El}(T:TG A t){i:Nat}(hi:i<t.length):kP lP i t (t.getD i []):=by
 obtain⟨z,w,d,E,_,h2⟩:=T.ev S hA;have h3:=T.lS S hA;have Ei:=E.le (Nat.le_of_lt hi);exact(kP.of Ei (E.rd.rl i hi).1 (E.rb i hi)).mono (Nat.le_trans (n9 (Nat.mul_le_mul_left _ (by have:=gS (W:=cW) (h:=i) (show cW≤2*cW by omega);omega))) (pA _ (by omega)).1)
end
end Go.Tw
namespace Go.Proofs.YtgalhjhdgkoemaaGreat
open Go Go.Eng
open Go.Tw (El)
def fQ (l:List Rat)(i:Nat):Nat→C:=qC (l.getD i default)
theorem Gk (l:List Rat):ag l= .rows 4 l.length (fQ l):=rfl
def Qk (l:List Rat):Prop:=∀x∈l,qm x<2^34
theorem Qk.of {l:List Rat}{B:Nat}(h:Tw.QB B l)(hB:B<2^34):Qk l:=fun x hx=>Nat.lt_of_le_of_lt (h x hx) hB
theorem Qk.get {l:List Rat}(h:Qk l)(i:Nat):qm (l.getD i default)<2^34:=by
 rw[X7]
 cases e:l[i]? with
 |none=>exact Nat.lt_of_le_of_lt (show qm (default:Rat)≤1 by decide+kernel) (by decide)
 |some x=>exact h x (List.mem_of_getElem? e)
theorem vK (q:Rat)(hq:qm q<2^36):Pr Tryz.prog 211 [QV q] (.one (.bool true)):=by
 have h:=xL (zs q.num) (zs (q.den:Int)) (zm q.num) (zm (q.den:Int)) (qy _) (qy _) (by unfold qm at hq;rw[aN];omega) (by unfold qm at hq;rw[aN,ay];omega);rw[L7]at h;exact h
theorem Fg (q:Rat)(hq:qm q<2^36):Pr Tryz.prog 210 [QV q] (.one (.bool false)):=by
 refine pw Tryz.func210 ⟨[0,1,2],[]⟩ ?_;simp only[Tryz.f210,Tryz.ntmps210,iz,seval];simp only[vx,T,seval,QV,QC];refine Cg (vK q hq) ?_;simp only[vx,T,seval];exact Ve rfl
theorem vH {z:Int}:cJ z=0↔z=0:=by unfold cJ;(repeat' split)<;>omega
theorem Cq (q:Rat)(hq:qm q<2^36):Pr Tryz.prog 212 [QV q] (.one (.bool (decide (q≠0)))):=by
 refine pw Tryz.func212 ⟨[0,1,2],[]⟩ ?_;simp only[Tryz.f212,Tryz.ntmps212,iz,seval];simp only[vx,T,seval,QV,QC];refine Cg (gY q hq) ?_;simp only[vx,T,seval];refine vb ?_
 have:cJ q.num≠0↔q≠0:=by rw[Ne,vH,Rat.num_eq_zero]
 exact decide_eq_decide.2 this
def Mp (p:Rat→Bool)(xs:List Rat):Int:=if xs.findIdx p<xs.length then(xs.findIdx p:Int)else-1
theorem KM (p:Rat→Bool)(xs:List Rat):decide (0≤Mp p xs)=xs.any p:=by
 unfold Mp;rw[Bool.eq_iff_iff,decide_eq_true_eq,List.any_eq_true,←List.findIdx_lt_length]
 split<;>rename_i h
 ·exact⟨fun _=>h,fun _=>by omega⟩
 exact⟨fun k=>by omega,fun k=>absurd k h⟩
theorem eT {xs:List Rat}{i:Nat}(h:i<xs.length):xs.getD i default=xs[i]:=by
 rw[X7,X8 h];rfl
theorem IG (f:FuncId)(p:Rat→Bool)(xs:List Rat)(hl:xs.length<2^38)(hf:∀i,i<xs.length→Pr Tryz.prog f [QV (xs.getD i default)] (.one (.bool (p (xs.getD i default))))):
  Pr Tryz.prog 234 [eV xs,.one (.fn f 0 (fun _=>.any))] (.one (.int .i64 (Mp p xs))):=by
 refine pw Tryz.func234 ⟨[0,1,4,5,7,8,9,16],[]⟩ ?_;simp only[Tryz.f234,Tryz.ntmps234,iz,seval];simp only[vx,T,seval,eV,ag];refine Lk (fun y:{i:Nat//i≤xs.length∧∀k,k<i→p (xs.getD k default)=false}=>⟨[(0,eV xs),(1,.one (.fn f 0 (fun _=>.any))),(7,.one (.int .i64 xs.length)),(8,.one (.int .i64 y.1))],[],1,19⟩) (fun y=>xs.length-y.1) ⟨0,Nat.zero_le _,fun k h=>absurd h (Nat.not_lt_zero _)⟩ ?_ (fun⟨i,hi,hz⟩=>?_)
 ·refine Sa ?_;simp only[ry,seval,rz,eV,ag]
 have i1:=wI i (by omega);simp only[vx,T,seval,eV,ag];refine⟨fun h1=>Lg ?_,fun h1=>Lg ?_⟩
 ·have hfi:=hf i (by omega);obtain⟨a,ha⟩:∃a,a=xs.getD i default:=⟨_,rfl⟩;rw[←ha]at hfi;simp only[vx,T,seval,eV,ag,←ha,qC];refine⟨by omega,Cg hfi ?_⟩;simp only[vx,T,seval];refine⟨fun h2=>Lg ?_,fun h2=>Lg ?_⟩
  ·have e1:xs.findIdx p=i:=by
    rw[List.findIdx_eq (by omega)];refine⟨by rw[←eT (by omega),←ha];simpa using h2,fun j hj=>?_⟩;rw[←eT (by omega)];exact hz j hj
   have e2:Mp p xs=i:=by unfold Mp;rw[e1,if_pos (by omega)]
   simp only[vx,T,seval,e2];exact Ve rfl
  simp only[vx,T,seval];simp only[i1];refine Lq ⟨i+1,by omega,fun k hk=>?_⟩ ?_ ?_
  ·by_cases h3:k<i
   ·exact hz k h3
   rw[show k=i by omega,←ha];simpa using h2
  ·refine Sa ?_;simp only[ry,seval,rz,eV,ag]
  simp only;omega
 have e1:xs.findIdx p=xs.length:=by
  rw[List.findIdx_eq_length];intro x hx;obtain⟨k,hk,rfl⟩:=List.mem_iff_getElem.1 hx;rw[←eT hk];exact hz k (by omega)
 have e2:Mp p xs= -1:=by unfold Mp;rw[if_neg (by omega)]
 simp only[vx,T,seval,e2];exact Ve rfl
theorem vS (f:FuncId)(p:Rat→Bool)(xs:List Rat)(hl:xs.length<2^38)(hf:∀i,i<xs.length→Pr Tryz.prog f [QV (xs.getD i default)] (.one (.bool (p (xs.getD i default))))):
  Pr Tryz.prog 209 [eV xs,.one (.fn f 0 (fun _=>.any))] (.one (.bool (xs.any p))):=by
 refine pw Tryz.func209 ⟨[0,1,4],[]⟩ ?_;simp only[Tryz.f209,Tryz.ntmps209,iz,seval];simp only[vx,T,seval,eV,ag];refine Cg (IG f p xs hl hf) ?_;simp only[vx,T,seval];exact vb (KM p xs)
theorem k9 (a:El)(n:Nat)(hl:a.length=n)(hn:n<2^38)(hq:Qk a):Pr Tryz.prog 168 [eV a,.one (.int .i64 n)] (.one (.bool true)):=by
 have hc:=vS 210 (fun _=>false) a (by omega) (fun i hi=>Fg _ (Nat.lt_trans (hq.get i) (by decide)));rw[show a.any (fun _=>false)=false from List.any_eq_false.2 (fun _ _=>by simp)]at hc;subst hl;refine pw Tryz.func168 ⟨[0,1,4],[]⟩ ?_;simp only[Tryz.f168,Tryz.ntmps168,iz,seval];simp only[vx,T,seval,eV,ag];refine Cg hc ?_;simp only[vx,T,seval];exact Ve rfl
structure Tk (h:Nat) (t:List El):Prop where
 le8:h≤8
 len:∀i,i<h→(t.getD i []).length=2^i
 q:∀i,i<h→Qk (t.getD i [])
theorem Tk.le {h k:Nat}{t:List El}(T:Tk h t)(hk:k≤h):Tk k t:=⟨by have:=T.le8;omega,fun i hi=>T.len i (by omega),fun i hi=>T.q i (by omega)⟩
theorem dJ {h:Nat}(hh:h≤8):IntKind.i64.wrap (1*2^(if h≤64 then h else 64))=((2^h:Nat):Int):=by
 rw[if_pos (by omega),Int.one_mul,IntWalk.i64_in]
 ·rw[Int.natCast_pow];rfl
 have:2^h≤2^8:=Nat.pow_le_pow_right (by decide) hh
 have e:((2:Int)^h)=((2^h:Nat):Int):=by rw[Int.natCast_pow];rfl
 rw[e];generalize 2^h=q at this⊢;constructor<;>omega
theorem aO {h:Nat}(hh:h≤8):2^h<2^38:=Nat.lt_of_le_of_lt (Nat.pow_le_pow_right (by decide) hh) (by decide)
theorem jG {h:Nat}{t:List El}(tk:Tk h t):Pr Tryz.prog 208 [tV h t] (.one (.bool true)):=by
 have hh:=tk.le8;refine pw Tryz.func208 ⟨[0,2,3,4,5,6,7,8,16],[]⟩ ?_;simp only[Tryz.f208,Tryz.ntmps208,iz,seval];simp only[vx,T,seval,tV,tC];refine Lk (fun y:{i:Nat//i≤h}=>⟨[(5,tV h t),(6,.one (.int .i64 h)),(7,.one (.int .i64 y.1))],[],1,18⟩) (fun y=>h-y.1) ⟨0,Nat.zero_le _⟩ ?_ (fun⟨i,hi⟩=>?_)
 ·refine Sa ?_;simp only[ry,seval,rz,tV,tC]
 have i1:=wI i (by omega);simp only[vx,T,seval,tV,tC];refine⟨fun h1=>Lg ?_,fun h1=>Lg ?_⟩
 ·have hih:i<h:=by omega
  have hs:=dJ (h:=i) (by omega);have hp:=aO (h:=i) (by omega);simp only[vx,T,seval,tV,tC,ag,hs];refine⟨by omega,by omega,Cg (k9 (t.getD i []) (2^i) (tk.len i hih) hp (tk.q i hih)) ?_⟩;simp only[vx,T,seval];simp only[i1];refine Lq ⟨i+1,by omega⟩ ?_ ?_
  ·refine Sa ?_;simp only[ry,seval,rz,tV,tC]
  simp only;omega
 simp only[vx,T,seval];exact Ve rfl
open Go Go.Eng
open Go.Tw (El aC aG zE aj au ar aq ae)
def wQ (l:List Rat)(i k j:Nat):C:=if k<i then fQ l k j else[C.bool false,C.nil,C.bool false,C.nil].getD j .any
theorem sF (l:List Rat)(k j:Nat):[C.bool false,C.nil,C.bool false,C.nil].getD j C.any=wQ l 0 k j:=by
 unfold wQ;rw[if_neg (Nat.not_lt_zero _)]
theorem Gi {l:List Rat}{n k:Nat}(h:k<n)(j:Nat):wQ l n k j=fQ l k j:=if_pos h
theorem dx (q:Rat){l:List Rat}{k:Nat}(e:l.getD k default=q)(j:Nat):[C.bool (zs q.num),C.ints .u32 (zm q.num),C.bool (zs (q.den:Int)),C.ints .u32 (zm (q.den:Int))].getD j C.any=fQ l k j:=by
 subst e
 match j with
 |0|1|2|3=>rfl
 |_+4=>rfl
theorem yd (q:Rat){l:List Rat}{i:Nat}(e:l.getD i default=q)(k j:Nat)(hj:j<4):
  dE (wQ l i) i 0 [C.bool (zs q.num),C.ints .u32 (zm q.num),C.bool (zs (q.den:Int)),C.ints .u32 (zm (q.den:Int))] k j=wQ l (i+1) k j:=by
 unfold dE
 by_cases h:k=i
 ·subst h;rw[if_pos rfl,if_pos (Nat.zero_le _),if_pos (by simpa using hj),Nat.sub_zero,dx q e,Gi (Nat.lt_succ_self _)]
 rw[if_neg h];unfold wQ
 by_cases h2:k<i
 ·rw[if_pos h2,if_pos (by omega)]
 rw[if_neg h2,if_neg (by omega)]
theorem x6 {l:List Rat}{n:Nat}(h:l.length=n):Y5 [] 0 (Bk.rows 57 4 n (wQ l n)) (Bk.rows 57 4 l.length (fQ l)):=
 ⟨rfl,h.symm,fun _ j hi _=>Gi hi j⟩
theorem oT (n:Nat)(hn:n<2^38):Fr Tryz.prog 170 [.one (.int .i64 n)] (.rows 57 4 (zE n).length (fQ (zE n))):=by
 refine fw Tryz.func170 ⟨[0,2,3,4,8,9,10],[]⟩ ?_;simp only[Tryz.f170,Tryz.ntmps170,iz,seval];simp only[vx,T,seval];refine⟨by omega,Lk (fun y:{i:Nat//i≤n}=>⟨[(3,.one (.own 1 4 0 n)),(8,.one (.int .i64 n)),(9,.one (.int .i64 y.1))],[(1,⟨.rows 57 4 n (wQ (zE n) y.1),true⟩)],2,18⟩) (fun y=>n-y.1) ⟨0,Nat.zero_le _⟩ ?_ (fun⟨i,hi⟩=>?_)⟩
 ·refine Sa ?_;simp only[ry,seval,rz];exact fun i j _ _=>sF _ i j
 have i1:=wI i (by omega);simp only[vx,T,seval];refine⟨fun h1=>Lg ?_,fun h1=>Lg ?_⟩
 ·have hil:i<n:=by omega
  simp only[vx,T,seval];refine Cg (bA 0 (by decide) (by decide)) ?_;simp only[vx,T,seval,QV,QC];simp only[i1];refine⟨by omega,Lq ⟨i+1,by omega⟩ ?_ ?_⟩
  ·refine Sa ?_;simp only[ry,seval,rz];exact fun k j _ hj=>yd _ (by simp[zE,X7,hil];rfl) k j hj
  simp only;omega
 have hil:i=n:=by omega
 subst hil;simp only[vx,T,seval];exact⟨au.symm,x6 au⟩
theorem BH (q:Rat)(hq:qm q<2^36):Pr Tryz.prog 259 [QV q] (QV (-q)):=by
 refine pw Tryz.func259 ⟨[0,1,2],[]⟩ ?_;simp only[Tryz.f259,Tryz.ntmps259,iz,seval];simp only[vx,T,seval,QV,QC];refine Cg (wc q.num (by unfold qm at hq;omega)) ?_;simp only[vx,T,seval,ZV];exact Ve rfl
theorem mX (a:El)(hl:a.length<2^38)(hq:Qk a):Fr Tryz.prog 253 [eV a] (.rows 57 4 (aG a).length (fQ (aG a))):=by
 refine fw Tryz.func253 ⟨[0,2,3,4,5,9,10,11,12],[]⟩ ?_;simp only[Tryz.f253,Tryz.ntmps253,iz,seval];simp only[vx,T,seval,eV,ag];refine⟨by omega,Lk (fun y:{i:Nat//i≤a.length}=>⟨[(0,eV a),(3,.one (.own 1 4 0 a.length)),(9,eV a),(10,.one (.int .i64 a.length)),(11,.one (.int .i64 y.1))],[(1,⟨.rows 57 4 a.length (wQ (aG a) y.1),true⟩)],2,23⟩) (fun y=>a.length-y.1) ⟨0,Nat.zero_le _⟩ ?_ (fun⟨i,hi⟩=>?_)⟩
 ·refine Sa ?_;simp only[ry,seval,rz,eV,ag];exact fun i j _ _=>sF _ i j
 have i1:=wI i (by omega);simp only[vx,T,seval,eV,ag];refine⟨fun h1=>Lg ?_,fun h1=>Lg ?_⟩
 ·have hil:i<a.length:=by omega
  have hxq:=hq.get i;have en:(aG a).getD i default= -(a.getD i default):=by
   unfold aG;rw[X7,List.getElem?_map,X8 hil,X7,X8 hil];rfl
  obtain⟨x,hx⟩:∃x,x=a.getD i default:=⟨_,rfl⟩;rw[←hx]at hxq en;simp only[vx,T,seval,eV,ag,←hx,qC];refine⟨by omega,Cg (BH x (by omega)) ?_⟩;simp only[vx,T,seval,QV,QC];simp only[i1];refine⟨by omega,Lq ⟨i+1,by omega⟩ ?_ ?_⟩
  ·refine Sa ?_;simp only[ry,seval,rz,eV,ag];exact fun k j _ hj=>yd _ en k j hj
  simp only;omega
 have hil:i=a.length:=by omega
 subst hil;simp only[vx,T,seval];exact⟨ar.symm,x6 ar⟩
theorem kC (a b:El)(hl:a.length<2^38)(hab:b.length=a.length)(hqa:Qk a)(hqb:Qk b):Fr Tryz.prog 118 [eV a,eV b] (.rows 57 4 (aC a b).length (fQ (aC a b))):=by
 refine fw Tryz.func118 ⟨[0,1,4,5,6,11,12,13],[]⟩ ?_;simp only[Tryz.f118,Tryz.ntmps118,iz,seval];simp only[vx,T,seval,eV,ag];refine⟨by omega,Lk (fun y:{i:Nat//i≤a.length}=>⟨[(0,eV a),(1,eV b),(5,.one (.own 1 4 0 a.length)),(11,.one (.int .i64 a.length)),(12,.one (.int .i64 y.1))],[(1,⟨.rows 57 4 a.length (wQ (aC a b) y.1),true⟩)],2,29⟩) (fun y=>a.length-y.1) ⟨0,Nat.zero_le _⟩ ?_ (fun⟨i,hi⟩=>?_)⟩
 ·refine Sa ?_;simp only[ry,seval,rz,eV,ag];exact fun i j _ _=>sF _ i j
 have i1:=wI i (by omega);simp only[vx,T,seval,eV,ag];refine⟨fun h1=>Lg ?_,fun h1=>Lg ?_⟩
 ·have hil:i<a.length:=by omega
  have hxq:=hqa.get i;have hyq:=hqb.get i;have en:(aC a b).getD i default=a.getD i default+b.getD i default:=by
   unfold aC;rw[X7,List.getElem?_zipWith,X8 hil,X7,X8 hil,X8 (by omega:i<b.length),X7,X8 (by omega:i<b.length)];rfl
  obtain⟨x,hx⟩:∃x,x=a.getD i default:=⟨_,rfl⟩;obtain⟨y,hy⟩:∃y,y=b.getD i default:=⟨_,rfl⟩;rw[←hx]at hxq en;rw[←hy]at hyq en;simp only[vx,T,seval,eV,ag,←hx,←hy,qC];refine⟨by omega,by omega,Cg (tX x y hxq hyq) ?_⟩;simp only[vx,T,seval,QV,QC];simp only[i1];refine⟨by omega,Lq ⟨i+1,by omega⟩ ?_ ?_⟩
  ·refine Sa ?_;simp only[ry,seval,rz,eV,ag];exact fun k j _ hj=>yd _ en k j hj
  simp only;omega
 have hil:i=a.length:=by omega
 subst hil;simp only[vx,T,seval];exact⟨(aq rfl hab).symm,x6 (aq rfl hab)⟩
end Go.Proofs.YtgalhjhdgkoemaaGreat
/-
  Quotients with a negative denominator; the inverse of a rational number.
-/
namespace Go.Eng
open Go
theorem pK (a b:Int):a.fdiv (-b)=(-a).fdiv b:=by
 have:=Int.neg_fdiv_neg (a:= -a) (b:=b)
 rwa [Int.neg_neg]at this
theorem uw (n d:Int):Int.gcd n (-d)=Int.gcd n d:=by unfold Int.gcd;rw[Int.natAbs_neg]
theorem oa (n d:Int):Int.gcd (-n) d=Int.gcd n d:=by unfold Int.gcd;rw[Int.natAbs_neg]
theorem Jw {n:Int}{d:Nat}(hd:0<d):n.fdiv (-(Int.gcd n d:Int))=(mkRat (-n) d).num:=by
 rw[pK,←xo hd,oa]
theorem JA {n:Int}{d:Nat}(hd:0<d):(-(d:Int)).fdiv (-(Int.gcd n d:Int))=((mkRat (-n) d).den:Int):=by
 rw[pK,Int.neg_neg,←xM hd,oa]
theorem inv_pos {x:Rat}{d:Nat}(h:x.num=(d:Int)):x⁻¹=mkRat x.den d:=by
 rw[Rat.inv_def,h];rfl
theorem inv_neg {x:Rat}{d:Nat}(h:x.num= -(d:Int)):x⁻¹=mkRat (-(x.den:Int)) d:=by
 rw[Rat.inv_def,h]
 cases d with
 |zero=>rfl
 |succ d=>rfl
end Go.Eng
namespace Go.Proofs.YtgalhjhdgkoemaaGreat
open Go Go.Eng
theorem HU {x:Rat}(h0:0<x.num):(x⁻¹).num=(x.den:Int)∧((x⁻¹).den:Int)=x.num:=by
 obtain⟨d,hd⟩:∃d:Nat,x.num=d:=⟨x.num.toNat,by omega⟩;have hc:(x.den:Int).natAbs.Coprime d:=by
  have:=x.reduced
  rw[hd]at this;exact this.symm
 obtain⟨r0,hr0⟩:∃r0:Rat,r0=⟨(x.den:Int),d,by omega,hc⟩:=⟨_,rfl⟩;have e1:r0.num=(x.den:Int):=by rw[hr0]
 have e2:r0.den=d:=by rw[hr0]
 have e3:mkRat x.den d=r0:=by rw[←e1,←e2];exact Rat.mkRat_self r0
 rw[inv_pos hd,e3,e1,e2,hd];exact⟨rfl,rfl⟩
theorem F5 {x:Rat}(h0:x.num<0):(x⁻¹).num= -(x.den:Int)∧((x⁻¹).den:Int)= -x.num:=by
 obtain⟨d,hd⟩:∃d:Nat,x.num= -(d:Int):=⟨(-x.num).toNat,by omega⟩;have hc:(-(x.den:Int)).natAbs.Coprime d:=by
  have:=x.reduced
  rw[hd,Int.natAbs_neg]at this;rw[Int.natAbs_neg];exact this.symm
 obtain⟨r0,hr0⟩:∃r0:Rat,r0=⟨-(x.den:Int),d,by omega,hc⟩:=⟨_,rfl⟩;have e1:r0.num= -(x.den:Int):=by rw[hr0]
 have e2:r0.den=d:=by rw[hr0]
 have e3:mkRat (-(x.den:Int)) d=r0:=by rw[←e1,←e2];exact Rat.mkRat_self r0
 rw[inv_neg hd,e3,e1,e2,hd];exact⟨rfl,by omega⟩
theorem Bq (x:Rat)(hx:qm x<2^36)(h0:x≠0):Pr Tryz.prog 99 [QV x] (QV x⁻¹):=by
 have hn:x.num≠0:=fun h=>h0 (Rat.num_eq_zero.1 h);unfold qm at hx;have n1:=np (x.den:Int) (by rw[ay];omega);have n2:=np x.num (by omega)
 by_cases hp:0<x.num
 ·have hz:zs x.num=false:=dD.2 (by omega);obtain⟨e1,e2⟩:=HU hp;have e:=F6 e1 e2;unfold QV;rw[e];refine pw Tryz.func99 ⟨[0,1,2,5],[]⟩ ?_;simp only[Tryz.f99,Tryz.ntmps99,iz,seval];simp only[vx,T,seval,QC];refine⟨fun h=>(by rw[hz]at h;cases h),fun _=>Lg ?_⟩;simp only[vx,T,seval,QC];exact Ve rfl
 have hz:zs x.num=true:=lv.2 (by omega);obtain⟨e1,e2⟩:=F5 (by omega:x.num<0);have e:=F6 e1 e2;unfold QV;rw[e];refine pw Tryz.func99 ⟨[0,1,2,5],[]⟩ ?_;simp only[Tryz.f99,Tryz.ntmps99,iz,seval];simp only[vx,T,seval,QC];refine⟨fun _=>Lg ?_,fun h=>(by rw[hz]at h;cases h)⟩;simp only[vx,T,seval,QC];refine Cg n1 ?_;simp only[vx,T,seval,QC,ZV];refine Cg n2 ?_;simp only[vx,T,seval,QC,ZV];exact Ve rfl
theorem BL (n:Int)(d:Nat)(hn:zn n<2^36)(hd:nl d<2^36)(h0:0<d):Pr Tryz.prog 98 [ZV n,ZV (d:Int)] (QV (mkRat n d)):=by
 have hg:(0:Int)<(Int.gcd n d:Nat):=by have:=xO (n:=n) h0;omega
 have hgn:zn (Int.gcd n d)≤nl d:=rI (b:=(d:Int)) (by
  have:=Nat.gcd_le_right n.natAbs (show 0<(d:Int).natAbs by omega)
  exact this)
 have c:=dX n (d:Int) (by omega) (by rw[ay];omega);have s:=gC (d:Int) (by rw[ay];omega);rw[show cJ (d:Int)=1 by unfold cJ;rw[if_neg (by omega),if_neg (by omega)]]at s;have q1:=bJ n (Int.gcd n d) (by omega) (by omega) (by omega);have q2:=bJ d (Int.gcd n d) (by rw[ay];omega) (by omega) (by omega);rw[xo h0]at q1;rw[xM h0]at q2;refine pw Tryz.func98 ⟨[0,1,2,3,4,5,11],[]⟩ ?_;simp only[Tryz.f98,Tryz.ntmps98,iz,seval];simp only[vx,T,seval,ZV];refine Cg c ?_;simp only[vx,T,seval,ZV];refine Cg s ?_;simp only[vx,T,seval,ZV];refine Cg q1 ?_;simp only[vx,T,seval,ZV];refine Cg q2 ?_;simp only[vx,T,seval,ZV];refine Va ?_;simp only[cO,aV,ry,seval,QV,QC]
theorem uy (n:Int)(d:Nat)(hn: -9223372036854775808≤n∧n≤9223372036854775807)(hd:d≤9223372036854775807)(h0:0<d)(k1:zn n<2^35)(k2:nl d<2^35):
  Pr Tryz.prog 48 [.one (.int .i64 n),.one (.int .i64 d)] (QV (mkRat n d)):=by
 have c1:=fx n hn.1 hn.2;have c2:=fx (d:Int) (by omega) (by omega);have m:=BL n d (by omega) (by omega) h0;refine pw Tryz.func48 ⟨[0,1,4,6],[]⟩ ?_;simp only[Tryz.f48,Tryz.ntmps48,iz,seval];simp only[vx,T,seval,ZV];refine⟨fun h=>absurd h (by omega),fun _=>Lg ?_⟩;simp only[vx,T,seval,ZV];refine Cg c1 ?_;simp only[vx,T,seval,ZV];refine Cg c2 ?_;simp only[vx,T,seval,ZV];refine Cg m ?_;simp only[vx,T,seval,ZV,QV,QC];exact Ve rfl
def MK (a b:Rat):Int:=cJ (a.num*b.den-b.num*a.den)
theorem w9 {a b:Rat}:MK a b=0↔a=b:=by
 unfold MK
 have e:cJ (a.num*b.den-b.num*a.den)=0↔a.num*b.den-b.num*a.den=0:=by unfold cJ;(repeat' split)<;>omega
 rw[e]
 constructor
 ·intro h;have h2:a.num*b.den=b.num*a.den:=by omega
  rw[←Rat.mkRat_self a,←Rat.mkRat_self b];exact(Rat.mkRat_eq_iff a.den_nz b.den_nz).2 h2
 rintro rfl;omega
theorem CM (a b:Rat)(ha:qm a<2^34)(hb:qm b<2^34):Pr Tryz.prog 223 [QV a,QV b] (.one (.int .i64 (MK a b))):=by
 have na:zn a.num<2^34∧nl a.den<2^34:=by unfold qm at ha;omega
 have nb:zn b.num<2^34∧nl b.den<2^34:=by unfold qm at hb;omega
 have ma:=bp a.num (b.den:Int) (by omega) (by rw[ay];omega);have mb:=bp b.num (a.den:Int) (by omega) (by rw[ay];omega);have e1:=cN a.num (b.den:Int);have e2:=cN b.num (a.den:Int);rw[ay]at e1 e2;have cc:=Ey (a.num*b.den) (b.num*a.den) (by omega) (by omega);refine pw Tryz.func223 ⟨[0,1,2,3,4],[]⟩ ?_;simp only[Tryz.f223,Tryz.ntmps223,iz,seval];simp only[vx,T,seval,QV,QC];refine Cg ma ?_;simp only[vx,T,seval,ZV];refine Cg mb ?_;simp only[vx,T,seval,ZV];refine Cg cc ?_;simp only[vx,T,seval,ZV];exact Ve rfl
theorem NG {x:Rat}(h:Ad x=none)(h0:0≤x.num):cq x.num.natAbs*cq x.num.natAbs≠x.num.natAbs∨cq x.den*cq x.den≠x.den:=by
 unfold Ad at h
 split at h
 ·cases h
 rename_i hc
 by_cases k1:cq x.num.natAbs*cq x.num.natAbs=x.num.natAbs
 ·by_cases k2:cq x.den*cq x.den=x.den
  ·exact absurd ⟨h0,k1,k2⟩ hc
  exact .inr k2
 exact .inl k1
theorem yR (x:Rat)(hx:qm x<2^34):Pr Tryz.prog 194 [QV x] (match Ad x with
  |some r=>.aJ [QV r,.one (.bool true)]
  |none=>.aJ [.agg [.bool false,.nil,.bool false,.nil],.one (.bool false)]):=by
 have hx':=hx;unfold qm at hx'
 by_cases h0:0≤x.num
 ·have hz:zs x.num=false:=dD.2 h0;have s1:=uW x.num h0 (by omega);have s2:=uW (x.den:Int) (by omega) (by rw[ay];omega);rw[Int.natAbs_natCast]at s2;have l1:nl (cq x.num.natAbs)≤zn x.num:=bg (CI _);have l2:nl (cq x.den)≤nl x.den:=bg (CI _);have m1:=bp (cq x.num.natAbs:Nat) (cq x.num.natAbs:Nat) (by rw[ay];omega) (by rw[ay];omega);have m2:=bp (cq x.den:Nat) (cq x.den:Nat) (by rw[ay];omega) (by rw[ay];omega);have e1:=cN (cq x.num.natAbs:Nat) (cq x.num.natAbs:Nat);have e2:=cN (cq x.den:Nat) (cq x.den:Nat);rw[ay]at e1 e2;have t1:=gP (((cq x.num.natAbs:Nat):Int)*(cq x.num.natAbs:Nat)) x.num (by omega) (by omega);have t2:=gP (((cq x.den:Nat):Int)*(cq x.den:Nat)) (x.den:Int) (by omega) (by rw[ay];omega);have q1:(((cq x.num.natAbs:Nat):Int)*(cq x.num.natAbs:Nat)=x.num)↔cq x.num.natAbs*cq x.num.natAbs=x.num.natAbs:=by
   rw[←Int.natCast_mul]
   generalize cq x.num.natAbs*cq x.num.natAbs=m
   omega
  have q2:(((cq x.den:Nat):Int)*(cq x.den:Nat)=(x.den:Int))↔cq x.den*cq x.den=x.den:=by
   rw[←Int.natCast_mul]
   generalize cq x.den*cq x.den=m
   omega
  cases hq:Ad x with
  |some r=>
   obtain⟨_,_,k1,k2,k3,k4⟩:=pF hq;rw[decide_eq_true (q1.2 k1)]at t1;rw[decide_eq_true (q2.2 k2)]at t2;have er:=F6 k3 (show(r.den:Int)=(cq x.den:Nat) by rw[k4]);simp only;rw[show QV r= .agg _ from congrArg V.agg er];refine pw Tryz.func194 ⟨[0,1,2,3,4,6,10,39],[]⟩ ?_;simp only[Tryz.f194,Tryz.ntmps194,iz,seval];simp only[vx,T,seval,QV,QC];refine⟨fun h=>(by rw[hz]at h;cases h),fun _=>Lg ?_⟩;simp only[vx,T,seval,QV,QC];refine Cg s1 ?_;simp only[vx,T,seval,QV,QC,ZV];refine Cg s2 ?_;simp only[vx,T,seval,QV,QC,ZV];refine Cg m1 ?_;simp only[vx,T,seval,QV,QC,ZV];refine Cg t1 ?_;simp only[vx,T,seval,QV,QC,ZV];refine Cg m2 ?_;simp only[vx,T,seval,QV,QC,ZV];refine Cg t2 ?_;simp only[vx,T,seval,QV,ZV];exact Ve rfl
  |none=>
   simp only
   by_cases k1:cq x.num.natAbs*cq x.num.natAbs=x.num.natAbs
   ·have k2:=(NG hq h0).resolve_left fun h=>h k1;rw[decide_eq_true (q1.2 k1)]at t1;rw[decide_eq_false fun h=>k2 (q2.1 h)]at t2;refine pw Tryz.func194 ⟨[0,1,2,3,4,6,10,39],[]⟩ ?_;simp only[Tryz.f194,Tryz.ntmps194,iz,seval];simp only[vx,T,seval,QV,QC];refine⟨fun h=>(by rw[hz]at h;cases h),fun _=>Lg ?_⟩;simp only[vx,T,seval,QV,QC];refine Cg s1 ?_;simp only[vx,T,seval,QV,QC,ZV];refine Cg s2 ?_;simp only[vx,T,seval,QV,QC,ZV];refine Cg m1 ?_;simp only[vx,T,seval,QV,QC,ZV];refine Cg t1 ?_;simp only[vx,T,seval,QV,QC,ZV];refine Cg m2 ?_;simp only[vx,T,seval,QV,QC,ZV];refine Cg t2 ?_;simp only[vx,T,seval,QV,ZV];exact Ve rfl
   rw[decide_eq_false fun h=>k1 (q1.1 h)]at t1;refine pw Tryz.func194 ⟨[0,1,2,3,4,6,10,39],[]⟩ ?_;simp only[Tryz.f194,Tryz.ntmps194,iz,seval];simp only[vx,T,seval,QV,QC];refine⟨fun h=>(by rw[hz]at h;cases h),fun _=>Lg ?_⟩;simp only[vx,T,seval,QV,QC];refine Cg s1 ?_;simp only[vx,T,seval,QV,QC,ZV];refine Cg s2 ?_;simp only[vx,T,seval,QV,QC,ZV];refine Cg m1 ?_;simp only[vx,T,seval,QV,QC,ZV];refine Cg t1 ?_;simp only[vx,T,seval,QV,QC,ZV];exact Ve rfl
 have hz:zs x.num=true:=lv.2 (by omega);have hq:Ad x=none:=by unfold Ad;rw[if_neg fun h=>h0 h.1]
 rw[hq];refine pw Tryz.func194 ⟨[0,1,2,3,4,6,10,39],[]⟩ ?_;simp only[Tryz.f194,Tryz.ntmps194,iz,seval];simp only[vx,T,seval,QV,QC];refine⟨fun _=>Lg ?_,fun h=>(by rw[hz]at h;cases h)⟩;simp only[vx,T,seval,QV,QC];exact Ve rfl
open Go Go.Eng
open Go.Tw (El aC aG zE aj au ar aq ae QB mS ai ah)
theorem dc (a:El)(hl:a.length<2^38)(hq:Qk a):Pr Tryz.prog 169 [eV a] (.one (.bool (decide (a=zE a.length)))):=by
 have hc:=vS 212 (fun q=>decide (q≠0)) a hl (fun i hi=>Cq _ (Nat.lt_trans (hq.get i) (by decide)));refine pw Tryz.func169 ⟨[0,2],[]⟩ ?_;simp only[Tryz.f169,Tryz.ntmps169,iz,seval];simp only[vx,T,seval,eV,ag];refine Cg hc ?_;simp only[vx,T,seval];refine vb ?_;rw[Bool.eq_iff_iff,Bool.not_eq_true',List.any_eq_false,decide_eq_true_eq]
 constructor
 ·intro h;refine List.eq_replicate_iff.2 ⟨rfl,fun b hb=>?_⟩
  have:=h b hb
  simpa using this
 intro h b hb;rw[h]at hb
 have:=List.eq_of_mem_replicate hb
 simp[this]
theorem dC {h:Nat}{t:List El}(tk:Tk h t)(a:El)(ha:a.length=2^h)(hq:Qk a):Pr Tryz.prog 167 [tV h t,eV a] (.one (.bool true)):=by
 have hs:=dJ tk.le8;have hn:=k9 a (2^h) ha (aO tk.le8) hq;have hr:=jG tk;refine pw Tryz.func167 ⟨[0,1,4],[]⟩ ?_;simp only[Tryz.f167,Tryz.ntmps167,iz,seval];simp only[vx,T,seval,tV,tC,eV,ag];refine Cg hr ?_;simp only[vx,T,seval,hs];refine⟨Int.natCast_nonneg _,Cg hn ?_⟩;simp only[vx,T,seval];exact Ve rfl
theorem lD {h:Nat}{t:List El}(tk:Tk h t)(a b:El)(ha:a.length=2^h)(hb:b.length=2^h)(hq:Qk a)(hqb:Qk b):Pr Tryz.prog 116 [tV h t,eV a,eV b] (.one (.bool true)):=by
 have hs:=dJ tk.le8;have hn:=k9 b (2^h) hb (aO tk.le8) hqb;have hr:=dC tk a ha hq;refine pw Tryz.func116 ⟨[0,1,2,6],[]⟩ ?_;simp only[Tryz.f116,Tryz.ntmps116,iz,seval];simp only[vx,T,seval,tV,tC,eV,ag];refine Cg hr ?_;simp only[vx,T,seval,hs];refine⟨Int.natCast_nonneg _,Cg hn ?_⟩;simp only[vx,T,seval];exact Ve rfl
theorem mi {h:Nat}{t:List El}(hh:h<2^38):Pr Tryz.prog 171 [tV (h+1) t] (.aJ [tV h t,eV (t.getD h [])]):=by
 have w1:IntKind.i64.wrap (((h+1:Nat):Int)-1)=(h:Int):=by rw[IntWalk.i64_in _ (by omega)];omega
 refine pw Tryz.func171 ⟨[0,2,3],[(1,.nil)]⟩ ?_;simp only[Tryz.f171,Tryz.ntmps171,iz,seval];simp only[vx,T,seval,tV,tC,ag,w1];exact⟨by omega,by omega,Ve rfl⟩
theorem DN {a:El}{n i:Nat}(h:i<n)(j:Nat):fQ a i j=fQ (a.take n) i j:=by
 unfold fQ;rw[X7,X7,List.getElem?_take_of_lt h]
theorem CZ {a:El}{n:Nat}(i j:Nat):fQ a (n+i) j=fQ (a.drop n) i j:=by
 unfold fQ;rw[X7,X7,List.getElem?_drop]
theorem iV {h:Nat}(hh:h<38){a:El}(ha:a.length=2^(h+1)):Pr Tryz.prog 172 [eV a] (.aJ [eV (a.take (2^h)),eV (a.drop (2^h))]):=by
 have hp:2^h<2^38:=Nat.pow_lt_pow_right (by decide) hh;obtain⟨n,hn⟩:∃n,n=2^h:=⟨_,rfl⟩;have ha2:a.length=2*n:=by rw[ha,Nat.pow_succ,hn];omega
 rw[←hn]at hp⊢;have w1:IntKind.i64.wrap (((a.length:Nat):Int).tdiv 2)=(n:Int):=by
  rw[ha2,Int.tdiv_eq_ediv_of_nonneg (by omega),IntWalk.i64_in _ (by omega)];omega
 refine pw Tryz.func172 ⟨[0,2,3],[(1,.nil)]⟩ ?_;simp only[Tryz.f172,Tryz.ntmps172,iz,seval];simp only[vx,T,seval,eV,ag,w1];refine⟨by omega,by omega,Va ⟨⟨rfl,by rw[X5];omega,fun i j hi _=>DN hi j⟩,⟨rfl,by rw[List.length_drop];omega,fun i j hi _=>CZ i j⟩,trivial⟩⟩
open Go Go.Eng
open Go.Tw (El aC aG zE aj au ar aq ae QB mS ai ah)
theorem kS (a b:El)(i j:Nat):(if i<a.length then fQ a i j else fQ b (i-a.length) j)=fQ (a++b) i j:=by
 unfold fQ
 by_cases h:i<a.length
 ·rw[if_pos h,X7,X7,List.getElem?_append_left h]
 rw[if_neg h,X7,X7,List.getElem?_append_right (by omega)]
theorem CU {a b:El}{t:List El}(ha:a.length=2^0)(hb:b.length=2^0)(qa:Qk a)(qb:Qk b):
  Fr Tryz.prog 117 [tV 0 t,eV a,eV b] (.rows 57 4 (aj 0 t a b).length (fQ (aj 0 t a b))):=by
 have hxq:=qa.get 0;have hyq:=qb.get 0;have em:aj 0 t a b=[a.getD 0 default*b.getD 0 default]:=rfl;obtain⟨x,hx⟩:∃x,x=a.getD 0 default:=⟨_,rfl⟩;obtain⟨y,hy⟩:∃y,y=b.getD 0 default:=⟨_,rfl⟩;rw[←hx,←hy]at em;rw[←hx]at hxq;rw[←hy]at hyq;refine fw Tryz.func117 ⟨[0,1,2,6,7,8,9,10,11,12,13,14,26],[]⟩ ?_;simp only[Tryz.f117,Tryz.ntmps117,iz,seval];simp only[vx,T,seval,tV,tC,eV,ag,←hx,←hy,qC];refine⟨by omega,by omega,Cg (ov x y hxq hyq) ?_⟩;simp only[vx,T,seval,QV,QC];rw[em];refine⟨rfl,rfl,rfl,fun i j hi hj=>?_⟩;obtain rfl:i=0:=by omega
 show List.getD _ (0*4+j) _=_;rw[Nat.zero_mul,Nat.zero_add];exact dx (x*y) rfl j
theorem tQ {a b:El}{h:Nat}{t:List El}(hh:h+1<38)(ha:a.length=2^(h+1))(hb:b.length=2^(h+1))(qa:Qk a)(qb:Qk b)(hz:a=zE (2^(h+1))∨b=zE (2^(h+1))):
  Fr Tryz.prog 117 [tV (h+1) t,eV a,eV b] (.rows 57 4 (aj (h+1) t a b).length (fQ (aj (h+1) t a b))):=by
 have hp:2^(h+1)<2^38:=Nat.pow_lt_pow_right (by decide) hh;have em:aj (h+1) t a b=zE a.length:=by
  rw[ha]
  rcases hz with rfl|rfl
  ·exact Go.Tw.bK
  exact Go.Tw.fY
 rw[em];have ca:=dc a (by omega) qa;have cb:=dc b (by omega) qb;have cz:=oT a.length (by omega);obtain⟨za,hza⟩:∃za,za=decide (a=zE a.length):=⟨_,rfl⟩;rw[←hza]at ca;refine fw Tryz.func117 ⟨[0,1,2,6,7,8,9,10,11,12,13,14,26],[]⟩ ?_;simp only[Tryz.f117,Tryz.ntmps117,iz,seval];simp only[vx,T,seval,tV,tC,eV,ag];refine⟨fun h=>absurd h (by omega),fun _=>Lg ?_⟩;simp only[vx,T,seval,tV,tC,eV,ag];refine Cg ca ?_
 cases za with
 |true=>
  simp only[vx,T,seval];refine cY.fresh cz ?_;simp only[vx,T,seval];exact⟨rfl,rfl,fun _ _ _ _=>rfl⟩
 |false=>
  have hzb:b=zE b.length:=by
   rcases hz with rfl|rfl
   ·exact absurd hza (by rw[au,decide_eq_true rfl];decide)
   rw[au]
  rw[decide_eq_true hzb]at cb;simp only[vx,T,seval];refine Cg cb ?_;simp only[vx,T,seval];refine cY.fresh cz ?_;simp only[vx,T,seval];exact⟨rfl,rfl,fun _ _ _ _=>rfl⟩
theorem BM {t:List El}{C:Nat}(hC:1≤C){h:Nat}(ih:∀{a b:El} {A B:Nat},1≤A→1≤B→a.length=2^h→b.length=2^h→QB A a→QB B b→mS h (A+B) C<2^34→
  Fr Tryz.prog 117 [tV h t,eV a,eV b] (.rows 57 4 (aj h t a b).length (fQ (aj h t a b)))) {a b:El} {A B:Nat} (tk:Tk (h+1) t) (ht:∀i,i<h+1→QB C (t.getD i [])) (h1:1≤A) (h2:1≤B) (ha:a.length=2^(h+1)) (hb:b.length=2^(h+1)) (qa:QB A a) (qb:QB B b) (hs:mS (h+1) (A+B) C<2^34) (nza:a≠zE (2^(h+1))) (nzb:b≠zE (2^(h+1))):
  Fr Tryz.prog 117 [tV (h+1) t,eV a,eV b] (.rows 57 4 (aj (h+1) t a b).length (fQ (aj (h+1) t a b))):=by
 have hh:=tk.le8;have hp:2^(h+1)<2^38:=Nat.pow_lt_pow_right (by decide) (by omega);have hge:=Go.Tw.il (h:=h) (S:=A+B) (C:=C);have hge2:=Go.Tw.il (h:=h) (S:=mS h (A+B) C+C) (C:=C);rw[mS]at hs;have qka:Qk a:=.of qa (by omega);have qkb:Qk b:=.of qb (by omega);have ca:=dc a (by omega) qka;have cb:=dc b (by omega) qkb;rw[ha,decide_eq_false nza]at ca;rw[hb,decide_eq_false nzb]at cb;have cs:=mi (h:=h) (t:=t) (by omega);have cx:=iV (h:=h) (by omega) ha;have cy:=iV (h:=h) (by omega) hb;have la1:=ai ha;have la2:=ah ha;have lb1:=ai hb;have lb2:=ah hb;have ht':∀i,i<h→QB C (t.getD i []):=fun i hi=>ht i (by omega);have m1:=ih h1 h2 la1 lb1 (qa.take _) (qb.take _) (by omega);have m2:=ih h1 h2 la2 lb2 (qa.drop _) (qb.drop _) (by omega);have g1:=QB.mul hC ht' h1 h2 (qa.take (2^h)) (qb.take (2^h));have g2:=QB.mul hC ht' h1 h2 (qa.drop (2^h)) (qb.drop (2^h));have g3:=QB.mul hC ht' h1 h2 (qa.take (2^h)) (qb.drop (2^h));have g4:=QB.mul hC ht' h1 h2 (qa.drop (2^h)) (qb.take (2^h));have m5:=ih (by omega) hC ae (tk.len h (by omega)) g2 (ht h (by omega)) (by omega);have g5:=QB.mul hC ht' (by omega) hC g2 (ht h (by omega));have m3:=ih h1 h2 la1 lb2 (qa.take _) (qb.drop _) (by omega);have m4:=ih h1 h2 la2 lb1 (qa.drop _) (qb.take _) (by omega);have hph:2^h<2^38:=Nat.pow_lt_pow_right (by decide) (by omega);have a1:=kC _ _ (by rw[ae];omega) (by rw[ae,ae]) (Qk.of g1 (by omega)) (Qk.of g5 (by omega));have a2:=kC _ _ (by rw[ae];omega) (by rw[ae,ae]) (Qk.of g3 (by omega)) (Qk.of g4 (by omega));clear g1 g2 g3 g4 g5 ih;obtain⟨x,hx⟩:∃x,x=a.take (2^h):=⟨_,rfl⟩;obtain⟨y,hy⟩:∃y,y=a.drop (2^h):=⟨_,rfl⟩;obtain⟨u,hu⟩:∃u,u=b.take (2^h):=⟨_,rfl⟩;obtain⟨v,hv⟩:∃v,v=b.drop (2^h):=⟨_,rfl⟩;obtain⟨r,hr⟩:∃r,r=t.getD h []:=⟨_,rfl⟩;rw[←hr]at cs m5 a1;rw[←hx,←hy]at cx;rw[←hu,←hv]at cy;rw[←hx,←hu]at m1;rw[←hy,←hv]at m2 m5;rw[←hx,←hv]at m3;rw[←hy,←hu]at m4;rw[←hx,←hu,←hy,←hv]at a1;rw[←hx,←hv,←hy,←hu]at a2;have em:aj (h+1) t a b=aC (aj h t x u) (aj h t (aj h t y v) r)++aC (aj h t x v) (aj h t y u):=by rw[hx,hy,hu,hv,hr,Go.Tw.aj]
 rw[em];obtain⟨p1,hp1⟩:∃p,p=aj h t x u:=⟨_,rfl⟩;obtain⟨p2,hp2⟩:∃p,p=aj h t y v:=⟨_,rfl⟩;rw[←hp2]at m2 m5 a1⊢;obtain⟨p5,hp5⟩:∃p,p=aj h t p2 r:=⟨_,rfl⟩;obtain⟨p3,hp3⟩:∃p,p=aj h t x v:=⟨_,rfl⟩;obtain⟨p4,hp4⟩:∃p,p=aj h t y u:=⟨_,rfl⟩;rw[←hp1]at m1 a1⊢;rw[←hp5]at m5 a1⊢;rw[←hp3]at m3 a2⊢;rw[←hp4]at m4 a2⊢;obtain⟨s1,hs1⟩:∃p,p=aC p1 p5:=⟨_,rfl⟩;obtain⟨s2,hs2⟩:∃p,p=aC p3 p4:=⟨_,rfl⟩;have l1:s1.length=2^h:=by rw[hs1];exact aq (by rw[hp1,ae]) (by rw[hp5,ae])
 have l2:s2.length=2^h:=by rw[hs2];exact aq (by rw[hp3,ae]) (by rw[hp4,ae])
 rw[←hs1]at a1⊢;rw[←hs2]at a2⊢;refine fw Tryz.func117 ⟨[0,1,2,6,7,8,9,10,11,12,13,14,26],[]⟩ ?_;simp only[Tryz.f117,Tryz.ntmps117,iz,seval];simp only[vx,T,seval,tV,tC,eV,ag];refine⟨fun h=>absurd h (by omega),fun _=>Lg ?_⟩;simp only[vx,T,seval,tV,tC,eV,ag];refine Cg ca ?_;simp only[vx,T,seval];refine Cg cb ?_;simp only[vx,T,seval];refine Cg cs ?_;simp only[vx,T,seval,tV,tC,eV,ag];refine Cg cx ?_;simp only[vx,T,seval,tV,tC,eV,ag];refine Cg cy ?_;simp only[vx,T,seval,tV,tC,eV,ag];refine Cg m1.rows ?_;simp only[vx,T,seval,tV,tC,eV,ag];refine Cg m2.rows ?_;simp only[vx,T,seval,tV,tC,eV,ag];refine Cg m5.rows ?_;simp only[vx,T,seval,tV,tC,eV,ag];refine cY.fresh a1 ?_;simp only[vx,T,seval,tV,tC,eV,ag];refine Cg m3.rows ?_;simp only[vx,T,seval,tV,tC,eV,ag];refine Cg m4.rows ?_;simp only[vx,T,seval,tV,tC,eV,ag];refine Cg a2.rows ?_;simp only[vx,T,seval,tV,tC,eV,ag];exact⟨⟨by omega,by omega⟩,List.length_append.symm,rfl,List.length_append.symm,fun i j _ _=>kS s1 s2 i j⟩
theorem ku {t:List El}{C:Nat}(hC:1≤C):∀{h:Nat} {a b:El} {A B:Nat},Tk h t→(∀i,i<h→QB C (t.getD i []))→1≤A→1≤B→a.length=2^h→b.length=2^h→QB A a→QB B b→mS h (A+B) C<2^34→
  Fr Tryz.prog 117 [tV h t,eV a,eV b] (.rows 57 4 (aj h t a b).length (fQ (aj h t a b))):=by
 intro h
 induction h with
 |zero=>
  intro a b A B _ _ h1 h2 ha hb qa qb hs
  have:A+B<2^34:=hs
  exact CU ha hb (.of qa (by omega)) (.of qb (by omega))
 |succ h ih=>
  intro a b A B tk ht h1 h2 ha hb qa qb hs;have hh:=tk.le8;have hge:=Go.Tw.il (h:=h+1) (S:=A+B) (C:=C)
  by_cases za:a=zE (2^(h+1))
  ·exact tQ (by omega) ha hb (.of qa (by omega)) (.of qb (by omega)) (.inl za)
  by_cases zb:b=zE (2^(h+1))
  ·exact tQ (by omega) ha hb (.of qa (by omega)) (.of qb (by omega)) (.inr zb)
  exact BM hC (fun{a b A B} g1 g2 g3 g4 g5 g6 g7=>ih (tk.le (Nat.le_succ h)) (fun i hi=>ht i (by omega)) g1 g2 g3 g4 g5 g6 g7) tk ht h1 h2 ha hb qa qb hs za zb
open Go Go.Eng
open Go.Tw (El aC aG zE aj au ar aq ae QB mS ai ah)
theorem jJ.cell {c c':C}(h:dg c c'):jJ (.one c) (.one c'):=fun ok w v hr=>aW.bw (h ok w v (aM.dI hr))
theorem jJ.Ow {a a' b b':C}(h1:dg a a')(h2:dg b b'):jJ (.agg [a,b]) (.agg [a',b']):=by
 intro ok w v hr;obtain⟨vs,e,hl⟩:=hr;refine⟨vs,e,?_⟩
 generalize vs.toList=l at hl⊢
 match l,hl with
 |[x,y],⟨k1,k2,_⟩=>exact⟨aW.bw (h1 ok w x (aM.dI k1)),aW.bw (h2 ok w y (aM.dI k2)),trivial⟩
theorem DQ {a b:Int}:ef a b=0↔a=b:=by unfold ef;split;omega;split<;>omega
theorem H6 {a b:Int}(h:¬cJ a=cJ b):ef (cJ a) (cJ b)=ef a b:=by
 unfold cJ ef at*;(repeat' split)<;>(repeat' split at h)<;>first|omega|rfl
theorem Mq {a b:Int}(h:cJ a=cJ b):IntKind.i64.wrap (cJ a*ef (a.natAbs:Int) (b.natAbs:Int))=ef a b:=by
 have e:cJ a*ef (a.natAbs:Int) (b.natAbs:Int)=ef a b:=by
  rcases Int.lt_trichotomy a 0 with h0|h0|h0
  ·have e1:cJ a= -1:=by unfold cJ;rw[if_neg (by omega),if_pos h0]
   have e2:b<0:=by rw[e1]at h;unfold cJ at h;(repeat' split at h)<;>omega
   rw[e1];unfold ef;(repeat' split)<;>omega
  ·have e1:cJ a=0:=by unfold cJ;rw[if_pos h0]
   have e2:b=0:=by rw[e1]at h;unfold cJ at h;(repeat' split at h)<;>omega
   rw[e1];unfold ef;(repeat' split)<;>omega
  have e1:cJ a=1:=by unfold cJ;rw[if_neg (by omega),if_neg (by omega)]
  have e2:0<b:=by rw[e1]at h;unfold cJ at h;(repeat' split at h)<;>omega
  rw[e1];unfold ef;(repeat' split)<;>omega
 rw[e];refine IntWalk.i64_in _ ?_
 unfold ef;(repeat' split)<;>omega
theorem rk (a b:Int)(ha:zn a<2^38)(hb:zn b<2^38):Pr Tryz.prog 241 [ZV a,ZV b] (.one (.int .i64 (ef a b))):=by
 have ca:=fL a ha;have cb:=fL b hb;have ta:=fK a (by omega);have tb:=fK b (by omega);refine pw Tryz.func241 ⟨[0,1,2,3,4,5,6,13],[]⟩ ?_;simp only[Tryz.f241,Tryz.ntmps241,iz,seval];simp only[vx,T,seval,ZV];refine Cg ca ?_;simp only[vx,T,seval,ZV];refine Cg cb ?_;simp only[vx,T,seval,ZV];refine⟨fun g=>Lg ?_,fun g=>Lg ?_⟩
 ·simp only[vx,T,seval,ZV];refine Cg (eY _ _) ?_;simp only[vx,T,seval,ZV];exact Ve (by rw[H6 g])
 simp only[vx,T,seval,ZV];refine Cg ta ?_;simp only[vx,T,seval,ZV];refine Cg tb ?_;simp only[vx,T,seval,ZV];refine Cg (gR a.natAbs b.natAbs (by unfold zn at ha;omega) (by unfold zn at hb;omega)) ?_;simp only[vx,T,seval,ZV];exact Ve (by rw[Mq g])
theorem o6 (q:Rat)(hq:qm q<2^36):Pr Tryz.prog 73 [QV q] (QV q):=by
 have c1:=jP (zm q.num) (by unfold qm at hq;rw[aN];omega);have c2:=jP (zm (q.den:Int)) (by unfold qm at hq;rw[aN,ay];omega);refine pw Tryz.func73 ⟨[0,1,2],[]⟩ ?_;simp only[Tryz.f73,Tryz.ntmps73,iz,seval];simp only[vx,T,seval,QV,QC];refine Cg c1 ?_;simp only[vx,T,seval];refine Cg c2 ?_;simp only[vx,T,seval];exact Ve rfl
theorem nY (a:El)(hl:a.length<2^38)(hq:Qk a):Fr Tryz.prog 207 [eV a] (.rows 57 4 a.length (fQ a)):=by
 refine fw Tryz.func207 ⟨[0,2,3,4,5,9,10,11,12],[]⟩ ?_;simp only[Tryz.f207,Tryz.ntmps207,iz,seval];simp only[vx,T,seval,eV,ag];refine⟨by omega,Lk (fun y:{i:Nat//i≤a.length}=>⟨[(0,eV a),(3,.one (.own 1 4 0 a.length)),(9,eV a),(10,.one (.int .i64 a.length)),(11,.one (.int .i64 y.1))],[(1,⟨.rows 57 4 a.length (wQ a y.1),true⟩)],2,23⟩) (fun y=>a.length-y.1) ⟨0,Nat.zero_le _⟩ ?_ (fun⟨i,hi⟩=>?_)⟩
 ·refine Sa ?_;simp only[ry,seval,rz,eV,ag];exact fun i j _ _=>sF _ i j
 have i1:=wI i (by omega);simp only[vx,T,seval,eV,ag];refine⟨fun h1=>Lg ?_,fun h1=>Lg ?_⟩
 ·have hil:i<a.length:=by omega
  have hxq:=hq.get i;obtain⟨x,hx⟩:∃x,x=a.getD i default:=⟨_,rfl⟩;rw[←hx]at hxq;simp only[vx,T,seval,eV,ag,←hx,qC];refine⟨by omega,Cg (o6 x (by omega)) ?_⟩;simp only[vx,T,seval,QV,QC];simp only[i1];refine⟨by omega,Lq ⟨i+1,by omega⟩ ?_ ?_⟩
  ·refine Sa ?_;simp only[ry,seval,rz,eV,ag];exact fun k j _ hj=>yd _ hx.symm k j hj
  simp only;omega
 have hil:i=a.length:=by omega
 subst hil;simp only[vx,T,seval];exact x6 rfl
theorem rN (a:El)(hl:a.length<2^38):Pr Tryz.prog 204 [eV a] (eV a):=by
 refine pw Tryz.func204 ⟨[0,2,4],[]⟩ ?_;simp only[Tryz.f204,Tryz.ntmps204,iz,seval];simp only[vx,T,seval,eV,ag];intro b hb;refine Lg ?_;simp only[vx,T,seval];refine⟨fun g=>Lg ?_,fun g=>Lg ?_⟩
 ·simp only[vx,T,seval];have h0:a=[]:=by
   cases a with
   |nil=>rfl
   |cons x xs=>have:=hb (by simp);rw[this]at g;cases g
  subst h0;exact jJ.cell (.pJ _ _)
 simp only[vx,T,seval];exact⟨⟨by omega,by omega⟩,jJ.refl _⟩
def nV (h:Nat)(t:List El)(a:El):V:=.agg [tC h t,ag a]
theorem n7 (q:Rat)(hq:qm q<2^36)(t:List El):Pr Tryz.prog 33 [QV q] (nV 0 t [q]):=by
 have c:=o6 q hq;refine pw Tryz.func33 ⟨[0,1,2],[]⟩ ?_;simp only[Tryz.f33,Tryz.ntmps33,iz,seval];simp only[vx,T,seval,QV,QC];refine Cg c ?_;simp only[vx,T,seval,QV,QC];refine jJ.Ow (.pJ _ _) (.rows rfl fun i j hi hj=>.of_eq ?_);obtain rfl:i=0:=by omega
 show List.getD _ (0*4+j) _=_;rw[Nat.zero_mul,Nat.zero_add];exact dx q rfl j
open Go Go.Eng
open Go.Tw (El aC aG zE aj au ar aq ae QB mS ai ah)
def LK (a b:Rat):Int:=ef (a.num*b.den) (b.num*a.den)
theorem lE {a:Int}{n:Nat}(h:0<n):cJ (a*n)=cJ a:=by
 rcases Int.lt_trichotomy a 0 with h0|h0|h0
 ·have:a*n<0:=Int.mul_neg_of_neg_of_pos h0 (by omega)
  unfold cJ;rw[if_neg (by omega),if_pos this,if_neg (by omega),if_pos h0]
 ·subst h0;rw[Int.zero_mul]
 have:0<a*n:=Int.mul_pos h0 (by omega)
 unfold cJ;rw[if_neg (by omega),if_neg (by omega),if_neg (by omega),if_neg (by omega)]
theorem Dt {a b:Rat}(h:¬cJ a.num=cJ b.num):ef (cJ a.num) (cJ b.num)=LK a b:=by
 unfold LK;rw[←lE (a:=a.num) b.den_pos,←lE (a:=b.num) a.den_pos];rw[←lE (a:=a.num) b.den_pos,←lE (a:=b.num) a.den_pos]at h;exact H6 h
theorem CR (a b:Rat)(ha:qm a<2^34)(hb:qm b<2^34):Pr Tryz.prog 228 [QV a,QV b] (.one (.int .i64 (LK a b))):=by
 have ca:=gY a (by omega);have cb:=gY b (by omega);have na:zn a.num<2^34∧nl a.den<2^34:=by unfold qm at ha;omega
 have nb:zn b.num<2^34∧nl b.den<2^34:=by unfold qm at hb;omega
 have ma:=bR a.num (b.den:Int) (by omega) (by rw[ay];omega);have mb:=bR b.num (a.den:Int) (by omega) (by rw[ay];omega);have e1:=cN a.num (b.den:Int);have e2:=cN b.num (a.den:Int);rw[ay]at e1 e2;have cc:=rk (a.num*b.den) (b.num*a.den) (by omega) (by omega);refine pw Tryz.func228 ⟨[0,1,2,3,4,5,6,13,16],[]⟩ ?_;simp only[Tryz.f228,Tryz.ntmps228,iz,seval];simp only[vx,T,seval,QV,QC];refine Cg ca ?_;simp only[vx,T,seval,QV,QC];refine Cg cb ?_;simp only[vx,T,seval,QV,QC];refine⟨fun g=>Lg ?_,fun g=>Lg ?_⟩
 ·simp only[vx,T,seval,QV,QC];refine⟨fun g2=>Lg ?_,fun g2=>Lg ?_⟩
  ·simp only[vx,T,seval,QV,QC];exact Ve (by rw[←Dt g,gO g2])
  simp only[vx,T,seval,QV,QC];exact Ve (by rw[←Dt g,iJ (by omega)])
 simp only[vx,T,seval,QV,QC];refine Cg ma ?_;simp only[vx,T,seval,ZV];refine Cg mb ?_;simp only[vx,T,seval,ZV];refine Cg cc ?_;simp only[vx,T,seval,ZV];exact Ve rfl
end Go.Proofs.YtgalhjhdgkoemaaGreat
/-
  The order of lists of variables.
-/
namespace Go.Eng
open Go
theorem nr {xs:List Int}{i:Nat}(h:i<xs.length):xs.drop i=xs.getD i 0::xs.drop (i+1):=by
 rw[List.drop_eq_getElem_cons h,X7,X8 h];rfl
def ox (x y:Int):Int:=if x<y then-1 else if y<x then 1 else 0
def gk:List Int→List Int→Int
 |[],[]=>0
 |[],_::_=> -1
 |_::_,[]=>1
 |x::xs,y::ys=>if ox x y=0 then gk xs ys else ox x y
def cI (a b:List Int):Int:=if ox a.length b.length=0 then gk a b else ox a.length b.length
def uc:List Int→List Int→Int
 |x::xs,y::ys=>if x=y then uc xs ys else IntKind.i64.wrap (x-y)
 |_,_=>0
def LZ (a b:List Int):Int:=if a.length=b.length then uc a b else(a.length:Int)-b.length
theorem jg {x y:Int}:ox x y=0↔x=y:=by unfold ox;(repeat' split)<;>omega
theorem yB {x y:Int}:ox x y<0↔x<y:=by unfold ox;(repeat' split)<;>omega
theorem xa (x y:Int):ox y x= -ox x y:=by unfold ox;(repeat' split)<;>omega
theorem wZ:∀{a b:List Int},gk a b=0↔a=b
 |[],[]=>by simp[gk]
 |[],_::_=>by simp[gk]
 |_::_,[]=>by simp[gk]
 |x::xs,y::ys=>by
  have ih:=wZ (a:=xs) (b:=ys);have hz:=jg (x:=x) (y:=y);simp only[gk,List.cons.injEq]
  split
  ·rename_i h;rw[ih];simp[hz.1 h]
  rename_i h
  refine⟨fun h2=>absurd h2 h,fun h2=>absurd (hz.2 h2.1) h⟩
theorem xb:∀(a b:List Int),gk b a= -gk a b
 |[],[]=>by simp[gk]
 |[],_::_=>by simp[gk]
 |_::_,[]=>by simp[gk]
 |x::xs,y::ys=>by
  have ih:=xb xs ys;have hz:=xa x y;simp only[gk]
  split<;>split<;>omega
theorem tI:∀{a b c:List Int},gk a b≤0→gk b c≤0→gk a c≤0
 |[],_,[],_,_=>by simp[gk]
 |[],_,_::_,_,_=>by simp[gk]
 |_::_,[],_,h,_=>by simp[gk]at h
 |_::_,_::_,[],_,h=>by simp[gk]at h
 |x::xs,y::ys,z::zs,h1,h2=>by
  have ih:=tI (a:=xs) (b:=ys) (c:=zs);simp only[gk]at*
  unfold ox at*
  (repeat' split at h1)<;>(repeat' split at h2)<;>(repeat' split)<;>first|omega|(exact ih h1 h2)|(subst_vars;omega)
theorem fO {a b:List Int}:cI a b=0↔a=b:=by
 unfold cI
 split
 ·exact wZ
 rename_i h
 refine⟨fun h2=>absurd h2 h,fun h2=>?_⟩;subst h2;exact absurd (jg.2 rfl) h
theorem nI (a b:List Int):cI b a= -cI a b:=by
 unfold cI;rw[xa (a.length:Int) b.length,xb a b]
 split<;>split<;>omega
theorem uv {a b c:List Int}(h1:cI a b≤0)(h2:cI b c≤0):cI a c≤0:=by
 have:=tI (a:=a) (b:=b) (c:=c)
 unfold cI ox at*
 (repeat' split at h1)<;>(repeat' split at h2)<;>(repeat' split)<;>first|omega|(exact this h1 h2)
def fS (a:List Int):Prop:=∀x∈a,0≤x∧x<9223372036854775808
theorem yv:∀{a b:List Int},fS a→fS b→a.length=b.length→(uc a b<0↔gk a b<0)∧(uc a b=0↔a=b)
 |[],[],_,_,_=>by simp[uc,gk]
 |x::xs,y::ys,ha,hb,hl=>by
  have ih:=yv (a:=xs) (b:=ys) (fun z hz=>ha z (by simp[hz])) (fun z hz=>hb z (by simp[hz])) (by simpa using hl);have h1:=ha x (by simp);have h2:=hb y (by simp);simp only[uc,gk,List.cons.injEq]
  by_cases h:x=y
  ·rw[if_pos h,if_pos (jg.2 h),ih.2];exact⟨ih.1,by simp[h]⟩
  have hw:IntKind.i64.wrap (x-y)=x-y:=IntWalk.i64_in _ (by omega);rw[if_neg h,if_neg (fun e=>h (jg.1 e)),hw,yB];refine⟨by omega,by omega⟩
theorem yr {a b:List Int}(ha:fS a)(hb:fS b):(LZ a b<0↔cI a b<0)∧(LZ a b=0↔a=b):=by
 unfold LZ cI
 split
 ·rename_i h
  rw[if_pos (jg.2 (by omega))];exact yv ha hb h
 rename_i h
 rw[if_neg (fun e=>h (by have:=jg.1 e;omega)),yB];refine⟨by omega,⟨fun e=>absurd e (by omega),fun e=>absurd (by rw[e]) h⟩⟩
end Go.Eng
/-
  Polynomials as lists of monomials.
-/
namespace Go.Eng
open Go
abbrev ao:=Rat×List Int
structure Og (m:ao):Prop where
 q:qm m.1<2^30
 len:m.2.length<2^30
 inr:fS m.2
def MS (p:List ao):Prop:=p.length<2^30∧∀m∈p,Og m
theorem gW {z:Int}(h:z.natAbs<18446744073709551616):qm (Rat.ofInt z)≤2:=by
 have h1:zn z≤2:=aB (by unfold BB;omega);have h2:nl 1≤1:=aB (by decide);unfold qm;rw[Rat.ofInt_num,Rat.ofInt_den];omega
theorem Og.zero:Og default:=⟨Nat.lt_of_le_of_lt (gW (z:=0) (by decide)) (by decide),by decide,fun x hx=>by cases hx⟩
theorem MS.get {p:List ao}(h:MS p)(i:Nat):Og (p.getD i default):=by
 rw[X7]
 cases hg:p[i]? with
 |none=>exact Og.zero
 |some m=>exact h.2 m (List.mem_of_getElem? hg)
theorem s6 {α:Type}[Inhabited α]{xs:List α}{i:Nat}(h:i<xs.length):xs.drop i=xs.getD i default::xs.drop (i+1):=by
 rw[List.drop_eq_getElem_cons h,X7,X8 h];rfl
end Go.Eng
/-
  Monomials of any words: what the two Valid accept.
-/
namespace Go.Eng
open Go
structure Raw where
 s:Bool
 xs:List Int
 t:Bool
 ys:List Int
 vs:List Int
deriving Inhabited
def N8 (a:List Int):Prop:=∀x∈a,-9223372036854775808≤x∧x<9223372036854775808
structure OG (m:Raw):Prop where
 x:bF m.xs
 y:bF m.ys
 xl:m.xs.length<2^30
 yl:m.ys.length<2^30
 v:N8 m.vs
 vl:m.vs.length<2^30
def La (p:List Raw):Prop:=p.length<2^30∧∀m∈p,OG m
theorem OG.zero:OG default:=⟨bF.nil,bF.nil,by decide,by decide,(fun x hx=>by cases hx),by decide⟩
theorem La.get {p:List Raw}(h:La p)(i:Nat):OG (p.getD i default):=by
 rw[X7]
 cases hg:p[i]? with
 |none=>exact OG.zero
 |some m=>exact h.2 m (List.mem_of_getElem? hg)
theorem cK {n:Nat}{f:Nat→Bool}:(List.range n).all f=true↔∀i,i<n→f i=true:=by
 simp[List.all_eq_true]
theorem bo {n:Nat}{f:Nat→Bool}{i:Nat}(h:i<n)(hf:f i=false):(List.range n).all f=false:=by
 cases hr:(List.range n).all f with
 |false=>rfl
 |true=>have:=cK.1 hr i h;rw[hf]at this;cases this
def vB (vs:List Int):Bool:=(List.range vs.length).all fun k=>decide (0≤vs.getD k 0)&&(decide (k=0)||decide (vs.getD (k-1) 0≤vs.getD k 0))
theorem nC {vs:List Int}(hi:N8 vs)(h:vB vs=true):fS vs:=by
 intro x hx;obtain⟨k,hk,rfl⟩:=List.mem_iff_getElem.1 hx;have h1:=cK.1 h k hk;rw[X7,X8 hk]at h1;simp only[Option.getD_some,Bool.and_eq_true,decide_eq_true_eq]at h1;exact⟨h1.1,(hi _ hx).2⟩
def gu (n d:Nat)(p:List Raw):Bool:=decide (p.length≤n)&&(List.range p.length).all fun i=>decide ((p.getD i default).vs.length≤d)&&(decide ((p.getD i default).xs.length≤4)&&decide ((p.getD i default).ys.length≤4))
end Go.Eng
namespace Go.Proofs.YtgalhjhdgkoemaaGreat
open Go Go.Eng
open Go.Tw (El aC aG zE aj au ar aq ae QB mS ai ah)
def Gg (n m:Nat)(p:Nat→Bool):Bool:=decide (n=m)&&(List.range n).all p
theorem Hv {n m:Nat}{p:Nat→Bool}(h:¬(n:Int)=m):Gg n m p=false:=by unfold Gg;rw[decide_eq_false (by omega),Bool.false_and]
theorem G5 (f:FuncId)(p:Nat→Bool)(xs ys:List Rat)(hl:xs.length<2^38)(hf:∀i,i<xs.length→Pr Tryz.prog f [QV (xs.getD i default),QV (ys.getD i default)] (.one (.bool (p i)))):
  Pr Tryz.prog 226 [eV xs,eV ys,.one (.fn f 0 (fun _=>.any))] (.one (.bool (Gg xs.length ys.length p))):=by
 refine pw Tryz.func226 ⟨[0,1,2,6,7,8,9,14,15,16,17,18,30],[]⟩ ?_;simp only[Tryz.f226,Tryz.ntmps226,iz,seval];simp only[vx,T,seval,eV,ag];refine⟨fun g=>Lg ?_,fun g=>Lg ?_⟩
 ·simp only[vx,T,seval];exact vb (Hv g).symm
 have hxy:xs.length=ys.length:=by omega
 simp only[vx,T,seval,eV,ag];refine Lk (fun y:{i:Nat//i≤xs.length∧∀k,k<i→p k=true}=>⟨[(1,eV ys),(2,.one (.fn f 0 (fun _=>.any))),(15,eV xs),(16,.one (.int .i64 xs.length)),(17,.one (.int .i64 y.1))],[],1,32⟩) (fun y=>xs.length-y.1) ⟨0,Nat.zero_le _,fun k h=>absurd h (Nat.not_lt_zero _)⟩ ?_ (fun⟨i,hi,hz⟩=>?_)
 ·refine Sa ?_;simp only[ry,seval,rz,eV,ag]
 have i1:=wI i (by omega);simp only[vx,T,seval,eV,ag];refine⟨fun h1=>Lg ?_,fun h1=>Lg ?_⟩
 ·have hfi:=hf i (by omega);obtain⟨a,ha⟩:∃a,a=xs.getD i default:=⟨_,rfl⟩;obtain⟨b,hb⟩:∃b,b=ys.getD i default:=⟨_,rfl⟩;rw[←ha,←hb]at hfi;simp only[vx,T,seval,eV,ag,←ha,←hb,qC];refine⟨by omega,by omega,Cg hfi ?_⟩;simp only[vx,T,seval];refine⟨fun h2=>Lg ?_,fun h2=>Lg ?_⟩
  ·simp only[vx,T,seval];have h2:p i=false:=by simpa using h2
   exact vb (by unfold Gg;rw[bo (by omega) h2,Bool.and_false])
  simp only[vx,T,seval];simp only[i1];refine Lq ⟨i+1,by omega,fun k hk=>?_⟩ ?_ ?_
  ·by_cases h3:k<i
   ·exact hz k h3
   rw[show k=i by omega];simpa using h2
  ·refine Sa ?_;simp only[ry,seval,rz,eV,ag]
  simp only;omega
 simp only[vx,T,seval];exact vb (by unfold Gg;rw[decide_eq_true hxy,Bool.true_and];exact(cK.2 fun k hk=>hz k (by omega)).symm)
theorem Hk (f:FuncId)(p:Nat→Bool)(t u:List El)(n m:Nat)(hl:n<2^38)(hf:∀i,i<n→i<m→Pr Tryz.prog f [eV (t.getD i []),eV (u.getD i [])] (.one (.bool (p i)))):
  Pr Tryz.prog 202 [tV n t,tV m u,.one (.fn f 0 (fun _=>.any))] (.one (.bool (Gg n m p))):=by
 refine pw Tryz.func202 ⟨[0,1,2,6,7,8,9,14,15,16,17,18,30],[]⟩ ?_;simp only[Tryz.f202,Tryz.ntmps202,iz,seval];simp only[vx,T,seval,tV,tC,eV,ag];refine⟨fun g=>Lg ?_,fun g=>Lg ?_⟩
 ·simp only[vx,T,seval];exact vb (Hv g).symm
 have hxy:n=m:=by omega
 simp only[vx,T,seval,tV,tC,eV,ag];refine Lk (fun y:{i:Nat//i≤n∧∀k,k<i→p k=true}=>⟨[(1,tV m u),(2,.one (.fn f 0 (fun _=>.any))),(15,tV n t),(16,.one (.int .i64 n)),(17,.one (.int .i64 y.1))],[],1,32⟩) (fun y=>n-y.1) ⟨0,Nat.zero_le _,fun k h=>absurd h (Nat.not_lt_zero _)⟩ ?_ (fun⟨i,hi,hz⟩=>?_)
 ·refine Sa ?_;simp only[ry,seval,rz,tV,tC,eV,ag]
 have i1:=wI i (by omega);simp only[vx,T,seval,tV,tC,eV,ag];refine⟨fun h1=>Lg ?_,fun h1=>Lg ?_⟩
 ·have hfi:=hf i (by omega) (by omega);simp only[vx,T,seval,tV,tC,eV,ag];refine⟨by omega,by omega,Cg hfi ?_⟩;simp only[vx,T,seval];refine⟨fun h2=>Lg ?_,fun h2=>Lg ?_⟩
  ·simp only[vx,T,seval];have h2:p i=false:=by simpa using h2
   exact vb (by unfold Gg;rw[bo (by omega) h2,Bool.and_false])
  simp only[vx,T,seval];simp only[i1];refine Lq ⟨i+1,by omega,fun k hk=>?_⟩ ?_ ?_
  ·by_cases h3:k<i
   ·exact hz k h3
   rw[show k=i by omega];simpa using h2
  ·refine Sa ?_;simp only[ry,seval,rz,tV,tC,eV,ag]
  simp only;omega
 simp only[vx,T,seval];exact vb (by unfold Gg;rw[decide_eq_true hxy,Bool.true_and];exact(cK.2 fun k hk=>hz k (by omega)).symm)
open Go Go.Eng
open Go.Tw (El aC aG zE aj au ar aq ae QB mS ai ah)
theorem kx {h:Nat}{t:List El}(tk:Tk h t)(a b:El)(ha:a.length=2^h)(hb:b.length=2^h)(hq:Qk a)(hqb:Qk b):Pr Tryz.prog 76 [tV h t,eV a,eV b] (eV (aC a b)):=by
 have hp:=aO tk.le8;have c:=lD tk a b ha hb hq hqb;have d:=(kC a b (by omega) (by omega) hq hqb).rows;refine pw Tryz.func76 ⟨[0,1,2,6,11],[]⟩ ?_;simp only[Tryz.f76,Tryz.ntmps76,iz,seval];simp only[vx,T,seval,tV,tC,eV,ag];refine Cg c ?_;simp only[vx,T,seval,tV,tC,eV,ag];refine Cg d ?_;simp only[vx,T,seval,tV,tC,eV,ag];exact Ve rfl
theorem EZ {h:Nat}{t:List El}(tk:Tk h t)(a:El)(ha:a.length=2^h)(hq:Qk a):Pr Tryz.prog 245 [tV h t,eV a] (eV (aG a)):=by
 have hp:=aO tk.le8;have c:=dC tk a ha hq;have d:=(mX a (by omega) hq).rows;refine pw Tryz.func245 ⟨[0,1,4,8],[]⟩ ?_;simp only[Tryz.f245,Tryz.ntmps245,iz,seval];simp only[vx,T,seval,tV,tC,eV,ag];refine Cg c ?_;simp only[vx,T,seval,tV,tC,eV,ag];refine Cg d ?_;simp only[vx,T,seval,tV,tC,eV,ag];exact Ve rfl
theorem gD {h:Nat}{t:List El}{C A B:Nat}(hC:1≤C)(tk:Tk h t)(ht:∀i,i<h→QB C (t.getD i []))(h1:1≤A)(h2:1≤B)(a b:El)(ha:a.length=2^h)(hb:b.length=2^h)(qa:QB A a)(qb:QB B b)(hs:mS h (A+B) C<2^34):Pr Tryz.prog 75 [tV h t,eV a,eV b] (eV (aj h t a b)):=by
 have hge:=Go.Tw.il (h:=h) (S:=A+B) (C:=C);have c:=lD tk a b ha hb (.of qa (by omega)) (.of qb (by omega));have d:=(ku hC tk ht h1 h2 ha hb qa qb hs).rows;refine pw Tryz.func75 ⟨[0,1,2,6,11],[]⟩ ?_;simp only[Tryz.f75,Tryz.ntmps75,iz,seval];simp only[vx,T,seval,tV,tC,eV,ag];refine Cg c ?_;simp only[vx,T,seval,tV,tC,eV,ag];refine Cg d ?_;simp only[vx,T,seval,tV,tC,eV,ag];exact Ve rfl
theorem AA (a b:Rat)(ha:qm a<2^34)(hb:qm b<2^34):Pr Tryz.prog 227 [QV a,QV b] (.one (.bool (decide (a=b)))):=by
 have c:=CR a b ha hb;refine pw Tryz.func227 ⟨[0,1,2,3,4],[]⟩ ?_;simp only[Tryz.f227,Tryz.ntmps227,iz,seval];simp only[vx,T,seval,QV,QC];refine Cg c ?_;simp only[vx,T,seval,QV,QC];refine vb (decide_eq_decide.2 ?_);unfold LK;rw[DQ]
 constructor
 ·intro h;rw[←Rat.mkRat_self a,←Rat.mkRat_self b];exact(Rat.mkRat_eq_iff a.den_nz b.den_nz).2 h
 rintro rfl;rfl
open Go Go.Eng
open Go.Tw (El aC aG zE aj au ar aq ae QB mS ai ah)
def HC (a b:El):Bool:=Gg a.length b.length fun i=>decide (a.getD i default=b.getD i default)
theorem E0 {a b:El}:HC a b=true↔a=b:=by
 unfold HC Gg;rw[Bool.and_eq_true,decide_eq_true_eq,cK]
 constructor
 ·rintro⟨h1,h2⟩;refine List.ext_getElem h1 fun i g1 g2=>?_
  have:=of_decide_eq_true (h2 i g1)
  rwa [eT g1,eT g2]at this
 rintro rfl;exact⟨rfl,fun i _=>decide_eq_true rfl⟩
theorem Em (a b:El)(hl:a.length<2^38)(ha:Qk a)(hb:Qk b):Pr Tryz.prog 203 [eV a,eV b] (.one (.bool (decide (a=b)))):=by
 have c:=G5 227 (fun i=>decide (a.getD i default=b.getD i default)) a b hl (fun i _=>AA _ _ (ha.get i) (hb.get i));have e:decide (a=b)=HC a b:=by rw[Bool.eq_iff_iff,decide_eq_true_eq,E0]
 rw[e];refine pw Tryz.func203 ⟨[0,1,4],[]⟩ ?_;simp only[Tryz.f203,Tryz.ntmps203,iz,seval];simp only[vx,T,seval,eV,ag];refine Cg c ?_;simp only[vx,T,seval];exact Ve rfl
def fk (h k:Nat)(t u:List El):Bool:=decide (k≤h)&&(List.range k).all fun i=>decide (t.getD i []=u.getD i [])
theorem lX {h k:Nat}{t u:List El}(tk:Tk h t)(uk:Tk k u):Pr Tryz.prog 162 [tV h t,tV k u] (.one (.bool (fk h k t u))):=by
 have h8:=tk.le8;have k8:=uk.le8;have c:=Hk 203 (fun i=>decide (t.getD i []=u.getD i [])) t u k k (by omega);refine pw Tryz.func162 ⟨[0,1,4],[]⟩ ?_;simp only[Tryz.f162,Tryz.ntmps162,iz,seval];simp only[vx,T,seval,tV,tC,eV,ag];refine⟨fun g=>Lg ?_,fun g=>Lg ?_⟩
 ·have hf:∀i,i<k→i<k→Pr Tryz.prog 203 [eV (t.getD i []),eV (u.getD i [])] (.one (.bool (decide (t.getD i []=u.getD i [])))):=fun i hi _=>
   Em _ _ (by rw[tk.len i (by omega)];exact aO (by omega)) (tk.q i (by omega)) (uk.q i hi)
  simp only[vx,T,seval,tV,tC,eV,ag];refine⟨by omega,Cg (c hf) ?_⟩;simp only[vx,T,seval];exact vb (by unfold fk Gg;rw[decide_eq_true rfl,decide_eq_true (by omega:k≤h)])
 simp only[vx,T,seval];exact vb (by unfold fk;rw[decide_eq_false (by omega:¬k≤h)];rfl)
end Go.Proofs.YtgalhjhdgkoemaaGreat
/-
  The sign of an element as the programs reckon it.
-/
namespace Go.Tw
open Go Go.Eng
theorem sI (x:Rat):(if 0<x then 1 else if x<0 then-1 else 0:Int)=Go.Eng.cJ x.num:=by
 have h1:0≤x.num↔0≤x:=Rat.num_nonneg;have h2:x.num=0↔x=0:=Rat.num_eq_zero;unfold Go.Eng.cJ
 by_cases h0:x=0
 ·rw[if_pos (h2.2 h0),h0,if_neg (Rat.lt_irrefl),if_neg (Rat.lt_irrefl)]
 rw[if_neg (fun h=>h0 (h2.1 h))]
 by_cases hp:0≤x
 ·rw[if_pos (Rat.lt_of_le_of_ne hp (Ne.symm h0)),if_neg (by have:=h1.2 hp;omega)]
 rw[if_neg (fun h=>hp (Rat.le_of_lt h)),if_pos (Rat.not_le.1 hp),if_pos (by have:=mt h1.1 hp;omega)]
theorem dA {h:Nat}{t:List El}:∀{a:El},-1≤bn h t a∧bn h t a≤1:=by
 induction h with
 |zero=>
  intro a;unfold bn
  split
  ·omega
  split<;>omega
 |succ h ih=>
  intro a;rw[bn]
  split
  ·exact ih
  split
  ·exact ih
  have h1:=@ih (a.take (2^h));have h2:=@ih (aL h t a);have e:∀x y:Int,-1≤x∧x≤1→ -1≤y∧y≤1→ -1≤x*y∧x*y≤1:=fun x y hx hy=>by
   have:x= -1∨x=0∨x=1:=by omega
   rcases this with rfl|rfl|rfl<;>omega
  exact e _ _ h1 h2
theorem nq {h:Nat}{t:List El}(a:El):aC (aj h t (a.take (2^h)) (a.take (2^h))) (aG (aj h t (t.getD h []) (aj h t (a.drop (2^h)) (a.drop (2^h)))))=aL h t a:=by
 unfold aL;rw[wz (t.getD h [])]
end Go.Tw
namespace Go.Proofs.YtgalhjhdgkoemaaGreat
open Go Go.Eng
open Go.Tw (El aC aG zE aj au ar aq ae QB mS ai ah aL aF tB aX aD)
theorem kX {h S:Nat}(hh:h≤3)(hS:S≤2^28):mS h S tB<2^34:=by
 unfold tB
 match h,hh with
 |0,_=>simp only[mS];omega
 |1,_=>simp only[mS];omega
 |2,_=>simp only[mS];omega
 |3,_=>simp only[mS];omega
theorem j5 {h S:Nat}(hh:h≤2):mS h S tB≤6*S+2^20:=by
 unfold tB
 match h,hh with
 |0,_=>simp only[mS];omega
 |1,_=>simp only[mS];omega
 |2,_=>simp only[mS];omega
structure TQ (h:Nat) (t:List El):Prop where
 tk:Tk h t
 h3:h≤3
 q:∀i,i<h→QB tB (t.getD i [])
theorem TQ.le {h k:Nat}{t:List El}(W:TQ h t)(hk:k≤h):TQ k t:=⟨W.tk.le hk,by have:=W.h3;omega,fun i hi=>W.q i (by omega)⟩
theorem fT:1≤tB:=by decide
theorem LP {h X Y:Nat}{t:List El}(W:TQ h t){a b:El}(ha:a.length=2^h)(hb:b.length=2^h)(h1:1≤X)(h2:1≤Y)(hs:X+Y≤2^28)(qa:QB X a)(qb:QB Y b):
  Fr Tryz.prog 117 [tV h t,eV a,eV b] (.rows 57 4 (aj h t a b).length (fQ (aj h t a b))):=ku fT W.tk W.q h1 h2 ha hb qa qb (kX W.h3 hs)
theorem Gb {h X Y:Nat}{t:List El}(W:TQ h t){a b:El}(ha:a.length=2^h)(hb:b.length=2^h)(h1:1≤X)(h2:1≤Y)(hs:X+Y≤2^28)(qa:QB X a)(qb:QB Y b):
  Pr Tryz.prog 75 [tV h t,eV a,eV b] (eV (aj h t a b)):=gD fT W.tk W.q h1 h2 a b ha hb qa qb (kX W.h3 hs)
theorem wv {h:Nat}{t:List El}(tk:Tk h t)(a b:El)(ha:a.length=2^h)(hb:b.length=2^h)(hq:Qk a)(hqb:Qk b):Pr Tryz.prog 250 [tV h t,eV a,eV b] (eV (aC a (aG b))):=by
 have hp:=aO tk.le8;have c:=lD tk a b ha hb hq hqb;have hqn:Qk (aG b):=fun x hx=>by
  obtain⟨y,hy,rfl⟩:=List.mem_map.1 hx;rw[Go.Tw.oX];exact hqb y hy
 have d:=(mX b (by omega) hqb).rows;have e:=(kC a (aG b) (by omega) (by rw[ar];omega) hq hqn).rows;refine pw Tryz.func250 ⟨[0,1,2,6,11],[]⟩ ?_;simp only[Tryz.f250,Tryz.ntmps250,iz,seval];simp only[vx,T,seval,tV,tC,eV,ag];refine Cg c ?_;simp only[vx,T,seval,tV,tC,eV,ag];refine Cg d ?_;simp only[vx,T,seval,tV,tC,eV,ag];refine Cg e ?_;simp only[vx,T,seval,tV,tC,eV,ag];exact Ve rfl
theorem sS {h X:Nat}{t:List El}(W:TQ (h+1) t)(a:El)(ha:a.length=2^(h+1))(hX1:1≤X)(hX:X≤2^26)(hq:QB X a):Fr Tryz.prog 257 [tV (h+1) t,eV a] (.rows 57 4 (aL h t a).length (fQ (aL h t a))):=by
 have W':=W.le (Nat.le_succ h);have h3:=W.h3;have cs:=mi (h:=h) (t:=t) (by omega);have ch:=iV (h:=h) (by omega) ha;have la1:=ai ha;have la2:=ah ha;have hp:=aO W'.tk.le8;have hr:=W.tk.len h (by omega);have hrq:=W.q h (by omega);have ht:=W'.q;have b1:=j5 (h:=h) (S:=X+X) (by omega);have b2:=j5 (h:=h) (S:=mS h (X+X) tB+tB) (by omega);have btB:tB=32769:=rfl;have m1:=ku fT W'.tk ht hX1 hX1 la1 la1 (hq.take _) (hq.take _) (by omega);have m2:=ku fT W'.tk ht hX1 hX1 la2 la2 (hq.drop _) (hq.drop _) (by omega);have g1:=QB.mul fT ht hX1 hX1 (hq.take (2^h)) (hq.take (2^h));have g2:=QB.mul fT ht hX1 hX1 (hq.drop (2^h)) (hq.drop (2^h));have hge:=Go.Tw.il (h:=h) (S:=X+X) (C:=tB);have m3:=ku fT W'.tk ht (by omega) fT ae hr g2 hrq (by omega);have g3:=QB.mul fT ht (by omega) fT g2 hrq;obtain⟨x,hx⟩:∃x,x=a.take (2^h):=⟨_,rfl⟩;obtain⟨y,hy⟩:∃y,y=a.drop (2^h):=⟨_,rfl⟩;obtain⟨r,hrr⟩:∃r,r=t.getD h []:=⟨_,rfl⟩;have em:aL h t a=aC (aj h t x x) (aG (aj h t (aj h t y y) r)):=by rw[hx,hy,hrr];rfl
 rw[←hx,←hy]at ch;rw[←hrr]at cs hr hrq m3 g3;rw[←hx]at m1 g1;rw[←hy]at m2 g2 m3 g3;have n1:=mX _ (by rw[ae];omega) (Qk.of g3 (by omega));have a1:=kC _ (aG (aj h t (aj h t y y) r)) (by rw[ae];omega) (by rw[ar,ae,ae]) (Qk.of g1 (by omega)) (Qk.of g3.neg (by omega));rw[←em]at a1;clear em hq ha;have m1:=m1.rows;have m2:=m2.rows;have m3:=m3.rows;have n1:=n1.rows;refine fw Tryz.func257 ⟨[0,1,4,5,6,7,8],[]⟩ ?_;simp only[Tryz.f257,Tryz.ntmps257,iz,seval];simp only[vx,T,seval,tV,tC,eV,ag];refine Cg cs ?_;simp only[vx,T,seval,tV,tC,eV,ag];refine Cg ch ?_;simp only[vx,T,seval,tV,tC,eV,ag];refine Cg m1 ?_;simp only[vx,T,seval,tV,tC,eV,ag];refine Cg m2 ?_;simp only[vx,T,seval,tV,tC,eV,ag];refine Cg m3 ?_;simp only[vx,T,seval,tV,tC,eV,ag];refine Cg n1 ?_;simp only[vx,T,seval,tV,tC,eV,ag];refine cY.fresh a1 ?_;simp only[vx,T,seval,tV,tC,eV,ag];exact⟨rfl,rfl,fun _ _ _ _=>rfl⟩
theorem uU {h X:Nat}{t:List El}(W:TQ (h+1) t)(a:El)(ha:a.length=2^(h+1))(hX1:1≤X)(hX:X≤2^26)(hq:QB X a):Pr Tryz.prog 249 [tV (h+1) t,eV a] (eV (aL h t a)):=by
 have c:=dC W.tk a ha (.of hq (by omega));have d:=(sS W a ha hX1 hX hq).rows;refine pw Tryz.func249 ⟨[0,1,4,13],[]⟩ ?_;simp only[Tryz.f249,Tryz.ntmps249,iz,seval];simp only[vx,T,seval,tV,tC,eV,ag];refine Cg c ?_;simp only[vx,T,seval,tV,tC,eV,ag];refine⟨fun h=>absurd h (by omega),fun _=>Lg ?_⟩;simp only[vx,T,seval,tV,tC,eV,ag];refine Cg d ?_;simp only[vx,T,seval,tV,tC,eV,ag];exact Ve rfl
theorem KU (h:Nat)(q:Rat)(k j:Nat)(hj:j<4):
  dE (fQ (zE (2^h))) 0 0 [C.bool (zs q.num),C.ints .u32 (zm q.num),C.bool (zs (q.den:Int)),C.ints .u32 (zm (q.den:Int))] k j=fQ (aX h q) k j:=by
 have hp:0<2^h:=Nat.pow_pos (by decide);unfold dE
 by_cases hk:k=0
 ·subst hk;rw[if_pos rfl,if_pos (Nat.zero_le _),if_pos (by simpa using hj),Nat.sub_zero];exact dx q rfl j
 rw[if_neg hk];unfold fQ aX
 congr 1
 rw[X7,X7,List.getElem?_cons,if_neg hk];unfold zE;rw[List.getElem?_replicate,List.getElem?_replicate]
 by_cases h2:k<2^h
 ·rw[if_pos h2,if_pos (by omega)]
 rw[if_neg h2,if_neg (by omega)]
theorem dW {h:Nat}{t:List El}(tk:Tk h t)(q:Rat)(hq:qm q<2^34):Pr Tryz.prog 206 [tV h t,QV q] (eV (aX h q)):=by
 have c:=jG tk;have d:=vK q (by omega);have hp:=aO tk.le8;have z:=oT (2^h) hp;have w:=dJ tk.le8;have hz:(zE (2^h)).length=2^h:=au;have hp0:0<2^h:=Nat.pow_pos (by decide);refine pw Tryz.func206 ⟨[0,1,3,4,5,13],[]⟩ ?_;simp only[Tryz.f206,Tryz.ntmps206,iz,seval];simp only[vx,T,seval,tV,tC,QV,QC];refine Cg c ?_;simp only[vx,T,seval,tV,tC];refine Cg d ?_;simp only[vx,T,seval,tV,tC,w];refine⟨Int.natCast_nonneg _,cY.fresh z ?_⟩;simp only[vx,T,seval,tV,tC,QV,QC];exact⟨by omega,jJ.cell (dg.rows (by rw[hz,Go.Tw.aD]) (fun i j _ hj=>dg.of_eq (KU h q i j hj)))⟩
open Go Go.Eng
open Go.Tw (El aC aG zE aj au ar aq ae QB mS ai ah aL aF tB aX aD bn iH dA sI nq)
theorem ff {a:El}{n:Nat}(h:n≤a.length):dg (.rows 4 n (fun i=>qC (a.getD i default))) (ag (a.take n)):=
 dg.rows (by rw[X5];omega) fun i j hi _=>dg.of_eq (DN hi j)
theorem eK {a:El}{n:Nat}:dg (.rows 4 (a.length-n) (fun i=>qC (a.getD (n+i) default))) (ag (a.drop n)):=
 dg.rows (by rw[List.length_drop]) fun i j _ _=>dg.of_eq (CZ i j)
theorem MX {t:List El}{a:El}(ha:a.length=2^0)(hq:Qk a):Pr Tryz.prog 244 [tV 0 t,eV a] (.one (.int .i64 (bn 0 t a))):=by
 obtain⟨x,rfl⟩:=Go.Tw.bD ha;have hx:qm x<2^34:=hq x (by simp);have e:bn 0 t [x]=cJ x.num:=sI x;have c:=gY x (by omega);rw[e];refine pw Tryz.func244 ⟨[0,1,4,5,6,7,8,9,10,11,12,15,41,50],[(4,.nil)]⟩ ?_;simp only[Tryz.f244,Tryz.ntmps244,iz,seval];simp only[vx,T,seval,tV,tC,eV,ag,qC,X0];refine Cg c ?_;simp only[vx,T,seval,ag];exact Ve rfl
theorem jj {X:Nat}(hX1:1≤X)(hX:X≤2^26){t:List El}:∀{h:Nat} {a:El},TQ h t→a.length=2^h→iH X h t a→Pr Tryz.prog 244 [tV h t,eV a] (.one (.int .i64 (bn h t a)))
 |0,a,_,ha,hi=>MX ha (.of hi.qb (by omega))
 |h+1,a,W,ha,hi=>by
  have W':=W.le (Nat.le_succ h);obtain⟨hqa,i1,i2,i3⟩:=hi;have la1:=ai ha;have la2:=ah ha;have v1:=jj hX1 hX W' la1 i1;have v2:=jj hX1 hX W' la2 i2;have v3:=jj hX1 hX W' aF i3;have h3:=W.h3;have hp:=aO W'.tk.le8;have q1:=i1.qb;have q2:=i2.qb;have hr:=W.tk.len h (by omega);have hrq:=W.q h (by omega);have btB:tB=32769:=rfl;have b1:=Go.Proofs.YtgalhjhdgkoemaaGreat.j5 (h:=h) (S:=X+X) (by omega);have b2:=Go.Proofs.YtgalhjhdgkoemaaGreat.j5 (h:=h) (S:=tB+mS h (X+X) tB) (by omega);have hge:=Go.Tw.il (h:=h) (S:=X+X) (C:=tB);have m1:=gD fT W'.tk W'.q hX1 hX1 _ _ la1 la1 q1 q1 (by omega);have m2:=gD fT W'.tk W'.q hX1 hX1 _ _ la2 la2 q2 q2 (by omega);have g1:=QB.mul fT W'.q hX1 hX1 q1 q1;have g2:=QB.mul fT W'.q hX1 hX1 q2 q2;have m3:=gD fT W'.tk W'.q fT (by omega) _ _ hr ae hrq g2 (by omega);have g3:=QB.mul fT W'.q fT (by omega) hrq g2;have su:=wv W'.tk _ _ ae ae (Qk.of g1 (by omega)) (Qk.of g3 (by omega));rw[nq]at su;have hn:(2^h:Nat)≤a.length:=by rw[ha,Nat.pow_succ];omega
  have hl2:a.length-2^h=(a.drop (2^h)).length:=by rw[List.length_drop]
  have cT:=ff hn;have cD:=eK (a:=a) (n:=2^h);have v1:=v1.args (xs:=[tV h t,.one (.rows 4 (2^h) (fun i=>qC (a.getD i default)))]) ⟨.refl _,.cell cT,trivial⟩;have v2:=v2.args (xs:=[tV h t,.one (.rows 4 (a.length-2^h) (fun i=>qC (a.getD (2^h+i) default)))]) ⟨.refl _,.cell cD,trivial⟩;have m1:=m1.args (xs:=[tV h t,.one (.rows 4 (2^h) (fun i=>qC (a.getD i default))),.one (.rows 4 (2^h) (fun i=>qC (a.getD i default)))]) ⟨.refl _,.cell cT,.cell cT,trivial⟩;have m2:=m2.args (xs:=[tV h t,.one (.rows 4 (a.length-2^h) (fun i=>qC (a.getD (2^h+i) default))),.one (.rows 4 (a.length-2^h) (fun i=>qC (a.getD (2^h+i) default)))]) ⟨.refl _,.cell cD,.cell cD,trivial⟩;obtain⟨n,hnn⟩:∃n,n=2^h:=⟨_,rfl⟩;have ha2:a.length=2*n:=by rw[ha,Nat.pow_succ,hnn];omega
  have e:bn (h+1) t a=if bn h t (a.drop (2^h))=0∨bn h t (a.take (2^h))=bn h t (a.drop (2^h))then bn h t (a.take (2^h))else if bn h t (a.take (2^h))=0 then bn h t (a.drop (2^h))else bn h t (a.take (2^h))*bn h t (aL h t a):=rfl
  have r1:=@dA h t (a.take (2^h));have r3:=@dA h t (aL h t a);obtain⟨s1,hs1⟩:∃s,s=bn h t (a.take (2^h)):=⟨_,rfl⟩;obtain⟨s2,hs2⟩:∃s,s=bn h t (a.drop (2^h)):=⟨_,rfl⟩;obtain⟨s3,hs3⟩:∃s,s=bn h t (aL h t a):=⟨_,rfl⟩;rw[←hs1,←hs2,←hs3]at e;rw[←hs1]at v1 r1;rw[←hs2]at v2;rw[←hs3]at v3 r3;rw[e];rw[←hnn]at v1 v2 m1 m2 su m3 hp;have w1:IntKind.i64.wrap (((h+1:Nat):Int)-1)=(h:Int):=by rw[IntWalk.i64_in _ (by omega)];omega
  have w2:IntKind.i64.wrap (((a.length:Nat):Int).tdiv 2)=(n:Int):=by
   rw[ha2,Int.tdiv_eq_ediv_of_nonneg (by omega),IntWalk.i64_in _ (by omega)];omega
  have w4:((a.length:Int)-(n:Int)).toNat=a.length-n:=by omega
  have w3:IntKind.i64.wrap (s1*s3)=s1*s3:=by
   rw[IntWalk.i64_in]
   have:s1= -1∨s1=0∨s1=1:=by omega
   rcases this with h|h|h<;>rw [h]<;>omega
  obtain⟨r,hrr⟩:∃r,r=t.getD h []:=⟨_,rfl⟩;rw[←hrr]at m3 su;clear hqa i1 i2 i3 la1 la2 q1 q2 g1 g2 g3 b1 b2 hge hr hrq hs1 hs2 hs3 cT cD W;refine pw Tryz.func244 ⟨[0,1,4,5,6,7,8,9,10,11,12,15,41,50],[(4,.nil)]⟩ ?_;simp only[Tryz.f244,Tryz.ntmps244,iz,seval];simp only[vx,T,seval,tV,tC,eV,ag,w1,w2];refine⟨fun h=>absurd h (by omega),fun _=>Lg ?_⟩;simp only[vx,T,seval,tV,tC,eV,ag,w1,w2];refine⟨⟨by omega,by omega⟩,⟨by omega,by omega⟩,⟨by omega,by omega,by omega⟩,Cg v1 ?_⟩;simp only[vx,T,seval,tV,tC,eV,ag,w1,w2,w4];refine Cg v2 ?_;simp only[vx,T,seval,tV,tC,eV,ag,w1,w2,w4];refine⟨fun k2=>Lg ?_,fun k2=>Lg ?_⟩
  ·rw[if_pos (.inl k2)];simp only[vx,T,seval,tV,tC,eV,ag,w1,w2,w4];exact Ve rfl
  simp only[vx,T,seval,tV,tC,eV,ag,w1,w2,w4];refine⟨fun k3=>Lg ?_,fun k3=>Lg ?_⟩
  ·rw[if_pos (.inr k3)];simp only[vx,T,seval,tV,tC,eV,ag,w1,w2,w4];exact Ve rfl
  rw[if_neg (not_or.2 ⟨k2,k3⟩)];simp only[vx,T,seval,tV,tC,eV,ag,w1,w2,w4];refine⟨fun k1=>Lg ?_,fun k1=>Lg ?_⟩
  ·rw[if_pos k1];simp only[vx,T,seval,tV,tC,eV,ag,w1,w2,w4];exact Ve rfl
  rw[if_neg k1];simp only[vx,T,seval,tV,tC,eV,ag,w1,w2,w4];refine Cg m1 ?_;simp only[vx,T,seval,tV,tC,eV,ag,w1,w2,w4,←hrr];refine⟨⟨by omega,by omega⟩,Cg m2 ?_⟩;simp only[vx,T,seval,tV,tC,eV,ag,w1,w2,w4,←hrr];refine Cg m3 ?_;simp only[vx,T,seval,tV,tC,eV,ag,w1,w2,w4,←hrr];refine Cg su ?_;simp only[vx,T,seval,tV,tC,eV,ag,w1,w2,w4,←hrr];refine Cg v3 ?_;simp only[vx,T,seval,tV,tC,eV,ag,w1,w2,w4,w3,←hrr];exact Ve rfl
open Go Go.Eng
open Go.Tw (El aC aG zE aj au ar aq ae QB mS ai ah aL aF tB aX aD bn iH dA Rl val)
structure AS (X h:Nat) (t:List El):Prop where
 tq:TQ h t
 s:∀i,i<h→iH X i t (t.getD i [])
 p:∀i,i<h→0<bn i t (t.getD i [])
theorem AS.le {X h k:Nat}{t:List El}(W:AS X h t)(hk:k≤h):AS X k t:=⟨W.tq.le hk,fun i hi=>W.s i (by omega),fun i hi=>W.p i (by omega)⟩
theorem EE {X h:Nat}(hX1:1≤X)(hX:X≤2^26){t:List El}(W:AS X h t):Pr Tryz.prog 252 [tV h t] (.one (.bool true)):=by
 have h3:=W.tq.h3;have z:=bA 0 (by decide) (by decide);have f:=dW W.tq.tk (Rat.ofInt 0) (by decide+kernel);have hqz:Qk (aX h (Rat.ofInt 0)):=fun x hx=>by
  unfold aX at hx
  rcases List.mem_cons.1 hx with rfl|hx
  ·decide+kernel
  rw[List.eq_of_mem_replicate hx];decide+kernel
 have g:=dC W.tq.tk (aX h (Rat.ofInt 0)) aD hqz;have v:∀i,i<h→Pr Tryz.prog 244 [tV i t,eV (t.getD i [])] (.one (.int .i64 (bn i t (t.getD i [])))):=fun i hi=>
  jj hX1 hX (W.tq.le (by omega)) (W.tq.tk.len i hi) (W.s i hi)
 refine pw Tryz.func252 ⟨[0,2,3,4,10,11,12,13,14,23],[]⟩ ?_;simp only[Tryz.f252,Tryz.ntmps252,iz,seval];simp only[vx,T,seval,tV,tC,ag];refine Cg z ?_;simp only[vx,T,seval,tV,tC,QV,QC];refine Cg f ?_;simp only[vx,T,seval,tV,tC,eV,ag];refine Cg g ?_;simp only[vx,T,seval,tV,tC,eV,ag];have h0:h<2^60:=by omega
 refine Lk (fun y:{i:Nat//i≤h}=>⟨[(0,tV h t),(2,.one (.bool false)),(11,tV h t),(12,.one (.int .i64 h)),(13,.one (.int .i64 y.1))],[],2,25⟩) (fun y=>h-y.1) ⟨0,Nat.zero_le _⟩ ?_ (fun⟨i,hi⟩=>?_)
 ·refine Sa ?_;simp only[ry,seval,rz,tV,tC,ag]
 simp only;have wi:IntKind.i64.wrap ((i:Int)+1)=((i+1:Nat):Int):=by rw[IntWalk.i64_in _ (by omega)];omega
 simp only[vx,T,seval,tV,tC,ag];refine⟨fun k=>Lg ?_,fun k=>Lg ?_⟩
 ·have hlt:i<h:=by omega
  have vi:=v i hlt;have pi:=W.p i hlt;simp only[vx,T,seval,tV,tC,ag];refine⟨⟨by omega,by omega⟩,⟨by omega,by omega⟩,Cg vi ?_⟩;simp only[vx,T,seval,tV,tC,ag];refine⟨fun hh=>absurd hh (by omega),fun _=>Lg ?_⟩;simp only[vx,T,seval,tV,tC,ag,wi];refine Lq ⟨i+1,by omega⟩ ?_ (by show h-(i+1)<h-i;omega);refine Sa ?_;simp only[ry,seval,rz,tV,tC,ag]
 simp only[vx,T,seval,tV,tC,ag];exact Ve rfl
theorem Ed {X h:Nat}(hX1:1≤X)(hX:X≤2^26){t l:List El}(W:AS X h t)(hl:l.length<2^60)(hf:∀i,i<l.length→(l.getD i []).length=2^h∧Qk (l.getD i [])):Pr Tryz.prog 243 [tV h t,tV l.length l] (.one (.bool true)):=by
 have r:=EE hX1 hX W;have v:∀i,i<l.length→Pr Tryz.prog 167 [tV h t,eV (l.getD i [])] (.one (.bool true)):=fun i hi=>dC W.tq.tk _ (hf i hi).1 (hf i hi).2;clear hf;refine pw Tryz.func243 ⟨[0,1,4,6,7,8,9,10,16],[]⟩ ?_;simp only[Tryz.f243,Tryz.ntmps243,iz,seval];simp only[vx,T,seval,tV,tC,ag];refine Lk (fun y:{i:Nat//i≤l.length}=>⟨[(0,tV h t),(1,tV l.length l),(4,.one (.bool false)),(7,tV l.length l),(8,.one (.int .i64 l.length)),(9,.one (.int .i64 y.1))],[],2,20⟩) (fun y=>l.length-y.1) ⟨0,Nat.zero_le _⟩ ?_ (fun⟨i,hi⟩=>?_)
 ·refine Sa ?_;simp only[ry,seval,rz,tV,tC,ag]
 simp only;have wi:IntKind.i64.wrap ((i:Int)+1)=((i+1:Nat):Int):=by rw[IntWalk.i64_in _ (by omega)];omega
 simp only[vx,T,seval,tV,tC,ag];refine⟨fun k=>Lg ?_,fun k=>Lg ?_⟩
 ·have hlt:i<l.length:=by omega
  have vi:=v i hlt;simp only[vx,T,seval,tV,tC,ag];refine⟨⟨by omega,by omega⟩,Cg vi ?_⟩;simp only[vx,T,seval,tV,tC,ag,wi];refine Lq ⟨i+1,by omega⟩ ?_ (by show l.length-(i+1)<l.length-i;omega);refine Sa ?_;simp only[ry,seval,rz,tV,tC,ag]
 simp only[vx,T,seval,tV,tC,ag];refine Cg r ?_;simp only[vx,T,seval,tV,tC,ag];exact Ve rfl
theorem qS {X h:Nat}(hX1:1≤X)(hX:X≤2^26){t:List El}{a:El}(W:AS X h t)(ha:a.length=2^h)(hs:iH X h t a):Pr Tryz.prog 230 [tV h t,eV a] (.one (.int .i64 (bn h t a))):=by
 have v:=jj hX1 hX W.tq ha hs;have g:=Ed hX1 hX (l:=[a]) W (by show(1:Nat)<2^60;decide) (fun i hi=>by
  obtain rfl:i=0:=by
               have:i<1:=hi
               omega
  exact⟨ha,.of hs.qb (by omega)⟩)
 refine pw Tryz.func230 ⟨[0,1,4,9],[]⟩ ?_;simp only[Tryz.f230,Tryz.ntmps230,iz,seval];simp only[vx,T,seval,tV,tC,eV,ag];refine Cg (g.args ⟨.refl _,.cell (.rows rfl fun i j hi hj=>.of_eq ?_),trivial⟩) ?_
 ·obtain rfl:i=0:=by omega
  obtain rfl:j=0:=by omega
  rfl
 simp only[vx,T,seval,tV,tC,eV,ag];refine Cg v ?_;simp only[vx,T,seval,tV,tC,eV,ag];exact Ve rfl
open Go Go.Proofs Go.Eng
theorem Ct (x:Nat)(hx:x<BB):Pr Tryz.prog 134 [.one (.int .u32 x)] (.one (.int .i64 (bl x:Nat))):=by
 refine⟨⟨_,Tryz.func134,by rfl,by rfl⟩,fun ok w vs hok hr=>?_⟩;obtain⟨vs⟩:=vs
 match vs,hr with
 |[v],hr=>
  obtain⟨hv,_⟩:=hr;have hv:v= .int .u32 x:=hv;subst hv
  refine(Tryz.sX x w (by omega) (by unfold BB at hx;omega)).mono ?_
  rintro e W' ⟨rfl,rfl⟩;refine⟨_,rfl,Go.RowKit.Below.refl _ _,?_⟩;show Value.int .i64 ((Lib.bitLen (x:Int).toNat:Nat):Int)= .int .i64 ((bl x:Nat):Int);rw[Int.toNat_natCast,vF x (by unfold BB at hx;omega)]
theorem Ce (z:Int)(h0:z≠0)(hz:zn z<2^38):Pr Tryz.prog 263 [ZV z] (.one (.int .i64 (kn z.natAbs:Nat))):=by
 have hp:0<z.natAbs:=by omega
 have c:=fK z (by omega);have ht:=gM hp;have d:=Ct (eX z.natAbs) ht.2;have htm:=ko hp;have hl:nl z.natAbs<2^38:=hz;have hl0:=dZ.2 hp;have hg:(ak z.natAbs).getD (nl z.natAbs-1) 0=((eX z.natAbs:Nat):Int):=by rw[lG,htm]
 have hb:=xC hp;have w1:IntKind.i64.wrap ((nl z.natAbs:Int)-1)=((nl z.natAbs-1:Nat):Int):=by rw[IntWalk.i64_in _ (by omega)];omega
 have w2:IntKind.i64.wrap (32*((nl z.natAbs-1:Nat):Int))=((32*(nl z.natAbs-1):Nat):Int):=by rw[IntWalk.i64_in _ (by omega)];omega
 have w3:IntKind.i64.wrap (((32*(nl z.natAbs-1):Nat):Int)+(bl (eX z.natAbs):Nat))=((kn z.natAbs:Nat):Int):=by
  unfold kn at hb⊢;rw[IntWalk.i64_in _ (by omega)];omega
 refine pw Tryz.func263 ⟨[0,1,2,3,9],[]⟩ ?_;simp only[Tryz.f263,Tryz.ntmps263,iz,seval];simp only[vx,T,seval,ZV];refine Cg c ?_;simp only[vx,T,seval,ZV];refine⟨fun h=>absurd h (by omega),fun _=>Lg ?_⟩;simp only[vx,T,seval,ZV,w1,w2,hg,Int.toNat_natCast];refine⟨⟨by omega,by omega⟩,Cg d ?_⟩;simp only[vx,T,seval,ZV,w3];exact Ve rfl
theorem x7 (n:Nat)(hn:n<2^50):Pr Tryz.prog 264 [.one (.int .i64 n)] (.one (.ints .u32 (ak (2^n)))):=by
 have hlp:=Eo n;have hw:2^(n%32)<2^32:=Nat.pow_lt_pow_right (by decide) (Nat.mod_lt _ (by decide));have w1:IntKind.i64.wrap ((n:Int).tdiv 32)=((n/32:Nat):Int):=by rw[Int.tdiv_eq_ediv_of_nonneg (by omega),IntWalk.i64_in _ (by omega)];omega
 have w2:IntKind.i64.wrap (((n/32:Nat):Int)+1)=((n/32+1:Nat):Int):=by rw[IntWalk.i64_in _ (by omega)];omega
 have w3:(n:Int).tmod 32=((n%32:Nat):Int):=rfl;have w4:IntKind.u32.wrap (1*2^(if n%32≤32 then n%32 else 32))=((2^(n%32):Nat):Int):=by
  have e:(2:Int)^(n%32)=((2^(n%32):Nat):Int):=by rw[Int.natCast_pow];rfl
  rw[if_pos (by omega),Int.one_mul,e]
  generalize 2^(n%32)=k at hw
  rw[IntWalk.u32_in _ (by omega)]
 refine pw Tryz.func264 ⟨[0,2,3],[]⟩ ?_;simp only[Tryz.f264,Tryz.ntmps264,iz,seval];simp only[vx,T,seval,w1,w2,w3,Int.toNat_natCast];refine⟨⟨by omega,by omega,by omega,by omega⟩,by omega,⟨by omega,by omega⟩,Ve ?_⟩;rw[w4,List.take_of_length_le (by simp),hlp]
theorem Fl (a:Nat)(ha:nl a<2^39):Pr Tryz.prog 265 [.one (.ints .u32 (ak a))] (.one (.ints .u32 (ak (a/2)))):=by
 have c:=(kE a 1 (by omega) (by decide)).ints;have hlt:a/2^1<BB^nl a:=Nat.lt_of_le_of_lt (Nat.div_le_self _ _) (b7 a);have d:=df (iq (nl a) (a/2^1)) (gj _ _) (by rw[aK];omega);rw[jX,Nat.mod_eq_of_lt hlt]at d;refine pw Tryz.func265 ⟨[0,2],[]⟩ ?_;simp only[Tryz.f265,Tryz.ntmps265,iz,seval];simp only[vx,T,seval];refine Cg c ?_;simp only[vx,T,seval];refine Cg d ?_;simp only[vx,T,seval];exact Ve rfl
theorem EF {a x:Nat}(h1:cq a≤x)(hx:0<x)(h:x≤(x+a/x)/2):x=cq a:=by
 have h2:=zy hx h;have h3:=(jq a).2;refine Nat.le_antisymm ?_ h1;refine Nat.le_of_lt_succ (Nat.lt_of_not_le fun h4=>?_)
 have:(cq a+1)*(cq a+1)≤x*x:=Nat.mul_le_mul h4 h4
 omega
theorem JG {a:Nat}(h:0<a):0<cq a:=by
 have h3:=(jq a).2
 rcases Nat.eq_zero_or_pos (cq a)with h0|h0
 ·rw[h0]at h3;omega
 exact h0
theorem Bh (z:Int)(h0:0<z)(hz:zn z<2^36):Pr Tryz.prog 260 [ZV z] (.aJ [ZV (cq z.natAbs:Nat),.one (.int .i64 0)]):=by
 have hs:cJ z=1:=by unfold cJ;rw[if_neg (by omega),if_neg (by omega)]
 have cs:=fL z (by omega);rw[hs]at cs;have cb:=Ce z (by omega) (by omega);have ct:=fK z (by omega);obtain⟨a,ha⟩:∃a,a=z.natAbs:=⟨_,rfl⟩;have hzs:zs z=false:=dD.2 (by omega);have ha0:0<a:=by omega
 have hal:nl a<2^36:=by rw[ha];exact hz
 rw[←ha]at cb ct⊢;have hb:=xC ha0;have hst:=Fm ha0;have hip:=JG ha0;have w1:IntKind.i64.wrap (((kn a:Nat):Int).tdiv 2)=((kn a/2:Nat):Int):=by rw[Int.tdiv_eq_ediv_of_nonneg (by omega),IntWalk.i64_in _ (by omega)];omega
 have w2:IntKind.i64.wrap (((kn a/2:Nat):Int)+1)=((kn a/2+1:Nat):Int):=by rw[IntWalk.i64_in _ (by omega)];omega
 have csh:=x7 (kn a/2+1) (by omega);have hpl:nl (2^(kn a/2+1))<2^38:=by
  have:2^(kn a/2+1)<BB^(nl a+1):=by
   rw[qY];exact Nat.pow_lt_pow_right (by decide) (by omega)
  have:=aB this
  omega
 refine pw Tryz.func260 ⟨[0,1,2,3,4,5,6,8,10,11,14,38],[]⟩ ?_;simp only[Tryz.f260,Tryz.ntmps260,iz,seval];simp only[vx,T,seval,ZV];refine Cg cs ?_;simp only[vx,T,seval,ZV];refine Cg cb ?_;simp only[vx,T,seval,ZV,w1,w2];refine Cg csh ?_;simp only[vx,T,seval,ZV];refine Lk (fun y:{x:Nat//cq a≤x∧0<x∧nl x<2^38}=>⟨[(0,ZV z),(1,.one (.ptr 1 0)),(2,.one (.ptr 2 0)),(3,.one (.int .i64 0)),(4,.one (.int .i64 (kn a/2+1:Nat))),(5,.one (.ints .u32 (ak y.1)))],[(1,⟨.var [.bool (zs z),.ints .u32 (zm z)],true⟩),(2,⟨.var [.bool false,.nil],true⟩)],3,42⟩) (fun y=>y.1) ⟨2^(kn a/2+1),Nat.le_of_lt hst,Nat.pow_pos (by decide),hpl⟩ ?_ (fun⟨x,hx1,hx0,hxl⟩=>?_)
 ·refine Sa ?_;simp only[ry,seval,rz,ZV]
 simp only;have hdl:nl (a/x)≤nl a:=bg (Nat.div_le_self _ _);simp only[vx,T,seval,ZV];refine Cg ct ?_;simp only[vx,T,seval,ZV];refine Cg (iK a x hx0 (by omega) (by omega)) ?_;simp only[vx,T,seval,ZV];have hsl:=uY x (a/x);have hhl:nl ((x+a/x)/2)≤nl (x+a/x):=bg (Nat.div_le_self _ _);refine Cg (oK x (a/x) (by omega) (by omega)) ?_;simp only[vx,T,seval,ZV];refine Cg (Fl (x+a/x) (by omega)) ?_;simp only[vx,T,seval,ZV];refine Cg (gR ((x+a/x)/2) x (by omega) (by omega)) ?_;simp only[vx,T,seval,ZV];have hcm:0≤ef ((x+a/x)/2:Nat) (x:Nat)↔x≤(x+a/x)/2:=by
  unfold ef
  constructor
  ·intro h
   by_cases h2:(((x+a/x)/2:Nat):Int)<(x:Int)
   ·rw[if_pos h2]at h;omega
   omega
  intro h;rw[if_neg (by omega)]
  split<;>omega
 refine⟨fun k1=>Lg ?_,fun k1=>Lg ?_⟩
 ·have hx:=EF hx1 hx0 (hcm.1 k1);simp only[vx,T,seval,ZV];refine Cg (bV false x (by omega)) ?_;have e2:fv false x=((cq a:Nat):Int):=by rw[←hx];rfl
  rw[e2];simp only[vx,T,seval,ZV];refine Va ?_;simp only[cO,aV,ry,seval,ZV]
 simp only[vx,T,seval,ZV];have hlt:(x+a/x)/2<x:=by
  refine Nat.lt_of_not_le fun h=>k1 (hcm.2 h)
 refine Lq ⟨(x+a/x)/2,wW hx0,Nat.lt_of_lt_of_le hip (wW hx0),Nat.lt_of_le_of_lt (bg (Nat.le_of_lt hlt)) hxl⟩ ?_ hlt;refine Sa ?_;simp only[ry,seval,rz,ZV]
end Go.Proofs.YtgalhjhdgkoemaaGreat
