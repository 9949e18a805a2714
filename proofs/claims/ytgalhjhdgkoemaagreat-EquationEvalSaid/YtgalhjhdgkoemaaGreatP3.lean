/-
  EquationEval: for every input the law returns true, and each argument reads afterwards as it read before. No condition beyond the given row's own cells.
  (Text 3 of 10; made by a program out of smaller texts.)
-/
import Derived.Test.YtgalhjhdgkoemaaGreatProg
import Derived.KernelRfl
import Derived.IntWalk
import Derived.Test.YtgalhjhdgkoemaaGreatP2
set_option linter.unusedSimpArgs false
set_option linter.unusedVariables false
set_option maxHeartbeats 16000000
set_option maxRecDepth 10000
open Nat renaming reduceAdd→J1,reduceMul→J2,reduceSub→J3,reduceEqDiff→J4,reduceLT→J5,reduceLeDiff→J6,reduceBEq→J7,reduceDiv→J8,reduceMod→J9,reducePow→J0
open Int renaming reduceToNat→K1,reduceLE→K2,reduceLT→K3,reduceEq→K4,reducePow→K5,reduceSub→K6,reduceNeg→K7,natCast_add→X2,natCast_one→X3,natCast_zero→X4
open List renaming getD_cons_zero→X0,getD_cons_succ→X1,length_take→X5,length_append→X6,getD_eq_getElem?_getD→X7,getElem?_eq_getElem→X8
/-
  THE ENGINE, PART V: one state for another: what a loop's head asks.
-/
namespace Go.Eng
open Go
def vk:List (Nat×Option Nat)→Nat→Option Nat
 |[],b=>some b
 |(b',x)::r,b=>if b=b' then x else vk r b
def Y2 (rn:List (Nat×Option Nat))(nx:Nat)(c:C)(c':C):Prop:=
 match c' with
 |.any=>True
 |.own b' w' o' l'=>b'<nx∧match c with
  |.own b w o l=>vk rn b'=some b∧w=w'∧o=o'∧l=l'
  |.nil=>vk rn b'=none∧o'=0∧l'=0
  |_=>False
 |.ptr b' o'=>b'<nx∧match c with
  |.ptr b o=>vk rn b'=some b∧o=o'
  |_=>False
 |.int k' n'=>match c with
  |.int k n=>k=k'∧n=n'
  |_=>False
 |.bool b'=>match c with
  |.bool b=>b=b'
  |_=>False
 |.str s'=>match c with
  |.str s=>s=s'
  |_=>False
 |.nil=>match c with
  |.nil=>True
  |_=>False
 |.ints k' xs'=>match c with
  |.ints k xs=>k=k'∧xs=xs'
  |.nil=>xs'=[]
  |_=>False
 |.rows w' n' f'=>match c with
  |.rows w n f=>w=w'∧n=n'∧∀i j,i<n→j<w→f i j=f' i j
  |.nil=>n'=0
  |_=>False
 |.fn f' n' _=>match c with
  |.fn f n _=>f=f'∧n=0∧n'=0
  |_=>False
 |_=>False
def Y3 (rn:List (Nat×Option Nat))(nx:Nat):List C→List C→Prop
 |[],[]=>True
 |c::cs,c'::cs'=>Y2 rn nx c c'∧Y3 rn nx cs cs'
 |_,_=>False
def Y1 (rn:List (Nat×Option Nat))(nx:Nat)(x x':V):Prop:=
 match x' with
 |.unk=>True
 |.one c'=>match x with
  |.one c=>Y2 rn nx c c'
  |_=>False
 |.agg cs'=>match x with
  |.agg cs=>Y3 rn nx cs cs'
  |_=>False
 |.aJ _=>False
def Y5 (rn:List (Nat×Option Nat))(nx:Nat)(B B':Bk):Prop:=
 match B' with
 |.var cs'=>match B with
  |.var cs=>Y3 rn nx cs cs'
  |_=>False
 |.ints _ k' xs'=>match B with
  |.ints _ k xs=>k=k'∧xs=xs'
  |_=>False
 |.rows _ w' n' f'=>match B with
  |.rows _ w n f=>w=w'∧n=n'∧∀i j,i<n→j<w→f i j=f' i j
  |_=>False
def Y7:Bk→Prop
 |.var _=>False
 |.ints _ _ xs=>xs=[]
 |.rows _ _ n _=>n=0
def Y0 (rn:List (Nat×Option Nat))(nx:Nat)(env:List (Nat×V)):List (Nat×V)→Prop
 |[]=>True
 |(t,x')::r=>Y1 rn nx (lk env t) x'∧Y0 rn nx env r
def Y4 (rn:List (Nat×Option Nat))(nx:Nat)(own:List (Nat×gI)):List (Nat×gI)→Prop
 |[]=>True
 |(b',B')::r=>(b'<nx∧match vk rn b' with
  |none=>Y7 B'.bk
  |some b=>match lo own b with
   |some B=>(B'.rw=true→B.rw=true)∧Y5 rn nx B.bk B'.bk
   |none=>False)∧Y4 rn nx own r
def Y6 (rn:List (Nat×Option Nat)):List (Nat×gI)→Prop
 |[]=>True
 |(b',_)::r=>(∀p∈r,p.1=b'∨vk rn p.1=none∨vk rn p.1≠vk rn b')∧Y6 rn r
section
variable {rn:List (Nat×Option Nat)}{nx:Nat}{ρ ρ':Nat→Loc}{dom ok ok':Nat→Prop}{w:World}
def cS (rn:List (Nat×Option Nat))(ρ:Nat→Loc)(b':Nat):Loc:=
 match vk rn b' with
 |some b=>ρ b
 |none=>⟨none,0⟩
theorem zO {wd n:Nat}{f f':Nat→Nat→C}{v:Value}(h:∀i j,i<n→j<wd→f i j=f' i j)(hr:aM ok w (.rows wd n f) v):aM ok w (.rows wd n f') v:=by
 obtain⟨a,cap,hv,hc,hr⟩:=hr;refine⟨a,cap,hv,hc,?_⟩
 rcases hr with hr|⟨g,o,ha,hg,hcs⟩
 ·exact .inl hr
 refine .inr ⟨g,o,ha,hg,fun i j hi hj=>?_⟩;rw[←h i j hi hj];exact hcs i j hi hj
theorem ot (hx:Ext ok ok' w w){c c':C}{v:Value}(h:Y2 rn nx c c')(hr:aW ρ dom ok w c v):aW (cS rn ρ) (fun b=>b<nx) ok' w c' v:=by
 cases c' with
 |any=>exact(aW.plain hr).1
 |own b' w' o' l'=>
  obtain⟨hb,h⟩:=h
  cases c with
  |own b wd o l=>
   obtain⟨h1,rfl,rfl,rfl⟩:=h;obtain⟨_,h2,cap,h3,h4⟩:=hr;have e:cS rn ρ b'=ρ b:=by unfold cS;rw[h1]
   exact⟨hb,by rw[e];exact h2,cap,h3,by rw[e];exact h4⟩
  |nil=>
   obtain⟨h1,rfl,rfl⟩:=h;have e:cS rn ρ b'=⟨none,0⟩:=by unfold cS;rw[h1]
   exact⟨hb,by rw[e];simp,0,Nat.le_refl _,.inr ⟨by rw[e],hr,rfl,rfl⟩⟩
  |_=>exact h.elim
 |ptr b' o'=>
  obtain⟨hb,h⟩:=h
  cases c with
  |ptr b o=>
   obtain⟨h1,rfl⟩:=h;obtain⟨_,g,o1,h2,h3⟩:=hr;have e:cS rn ρ b'=ρ b:=by unfold cS;rw[h1]
   exact⟨hb,g,o1,by rw[e];exact h2,h3⟩
  |_=>exact h.elim
 |int k' n'=>
  cases c with
  |int k n=>obtain⟨rfl,rfl⟩:=h;exact hr
  |_=>exact h.elim
 |bool b'=>
  cases c with
  |bool b=>cases h;exact hr
  |_=>exact h.elim
 |str s'=>
  cases c with
  |str s=>cases h;exact hr
  |_=>exact h.elim
 |nil=>
  cases c with
  |nil=>exact hr
  |_=>exact h.elim
 |ints k' xs'=>
  cases c with
  |ints k xs=>obtain⟨rfl,rfl⟩:=h;exact aM.ext hx (.ints k xs) v hr
  |nil=>cases h;exact⟨none,0,hr,Nat.le_refl _,.inl rfl⟩
  |_=>exact h.elim
 |rows w' n' f'=>
  cases c with
  |rows wd n f=>
   obtain⟨rfl,rfl,hf⟩:=h;exact aM.ext hx (.rows wd n f') v (zO hf hr)
  |nil=>cases h;exact⟨none,0,hr,Nat.le_refl _,.inl rfl⟩
  |_=>exact h.elim
 |fn f' n' caps'=>
  cases c with
  |fn f n caps=>
   obtain⟨rfl,rfl,rfl⟩:=h;obtain⟨cs,hv,hn,_⟩:=hr;exact⟨cs,hv,hn,fun i hi=>absurd hi (Nat.not_lt_zero _)⟩
  |_=>exact h.elim
 |elt s wd i off=>exact h.elim
 |eptr b wd i off=>exact h.elim
theorem ue (hx:Ext ok ok' w w):∀{cs cs':List C} {vs:List Value},Y3 rn nx cs cs'→b5 ρ dom ok w cs vs→b5 (cS rn ρ) (fun b=>b<nx) ok' w cs' vs
 |[],[],[],_,_=>trivial
 |c::cs,c'::cs',v::vs,h,hr=>⟨ot hx h.1 hr.1,ue hx h.2 hr.2⟩
 |[],_::_,_,h,_=>h.elim
 |_::_,[],_,h,_=>h.elim
 |[],[],_::_,_,hr=>hr.elim
 |_::_,_::_,[],_,hr=>hr.elim
theorem tO (hx:Ext ok ok' w w){x x':V}{v:Value}(h:Y1 rn nx x x')(hr:cd ρ dom ok w x v):cd (cS rn ρ) (fun b=>b<nx) ok' w x' v:=by
 cases x' with
 |unk=>trivial
 |one c'=>
  cases x with
  |one c=>exact ot hx h hr
  |_=>exact h.elim
 |agg cs'=>
  cases x with
  |agg cs=>obtain⟨vs,hv,hl⟩:=hr;exact⟨vs,hv,ue hx h hl⟩
  |_=>exact h.elim
 |aJ xs=>exact h.elim
theorem uA:∀{cs cs':List C},Y3 rn nx cs cs'→∀(j:Nat) c',cs'[j]? =some c'→∃c,cs[j]? =some c∧Y2 rn nx c c'
 |[],[],_,j,c',hj=>by simp at hj
 |c::cs,c0::cs',h,0,c',hj=>by simp at hj;subst hj;exact⟨c,rfl,h.1⟩
 |c::cs,c0::cs',h,j+1,c',hj=>by simpa using uA h.2 j c' (by simpa using hj)
 |[],_::_,h,_,_,_=>h.elim
 |_::_,[],h,_,_,_=>h.elim
theorem G3 {B B':Bk}(h:Y5 rn nx B B'):B'.len=B.len:=by
 cases B' with
 |var cs'=>cases B<;>first|rfl|exact h.elim
 |ints e' k' xs'=>
  cases B with
  |ints e k xs=>obtain⟨_,rfl⟩:=h;rfl
  |_=>exact h.elim
 |rows e' w' n' f'=>
  cases B with
  |rows e wd n f=>obtain⟨_,rfl,_⟩:=h;rfl
  |_=>exact h.elim
theorem BE (hx:Ext ok ok' w w){B B':Bk}{l:Loc}(h:Y5 rn nx B B')(hr:aT ρ dom ok w l B):aT (cS rn ρ) (fun b=>b<nx) ok' w l B':=by
 unfold aT at*
 cases ha:l.addr with
 |none=>
  rw[ha]at hr;simp only at hr⊢;intro j
  cases B' with
  |var cs'=>
   cases B with
   |var cs=>
    cases hj:(Bk.var cs').cell j with
    |none=>rfl
    |some c'=>
     obtain⟨c,hc,_⟩:=uA h j c' hj
     have:=hr j
     simp only[Bk.cell]at this;rw[hc]at this;cases this
   |_=>exact h.elim
  |ints e' k' xs'=>
   cases B with
   |ints e k xs=>obtain⟨rfl,rfl⟩:=h;exact hr j
   |_=>exact h.elim
  |rows e' w' n' f'=>
   cases B with
   |rows e wd n f=>
    obtain⟨rfl,rfl,_⟩:=h
    have:=hr j
    simp only[Bk.cell]at this⊢
    split
    ·rename_i hlt;rw[if_pos hlt]at this;cases this
    rfl
   |_=>exact h.elim
 |some p=>
  obtain⟨g,o⟩:=p;rw[ha]at hr;simp only at hr⊢;obtain⟨cur,e,hg,hc⟩:=hr;refine⟨cur,e,hg,fun j c' hj=>?_⟩
  cases B' with
  |var cs'=>
   cases B with
   |var cs=>
    obtain⟨c,hcj,hcr⟩:=uA h j c' hj;obtain⟨u,hu,hr⟩:=hc j c hcj;exact⟨u,hu,ot hx hcr hr⟩
   |_=>exact h.elim
  |ints e' k' xs'=>
   cases B with
   |ints e k xs=>
    obtain⟨rfl,rfl⟩:=h;obtain⟨u,hu,hr⟩:=hc j c' hj;exact⟨u,hu,aM.ext hx _ _ hr⟩
   |_=>exact h.elim
  |rows e' w' n' f'=>
   cases B with
   |rows e wd n f=>
    obtain⟨rfl,rfl,hf⟩:=h;simp only[Bk.cell]at hj
    split at hj
    ·rename_i hlt
     simp only[Option.some.injEq]at hj
     have hwd:0<wd:=by rcases Nat.eq_zero_or_pos wd with h0|h0;(subst h0;simp at hlt);exact h0
     have h1:j/wd<n:=by rw[Nat.div_lt_iff_lt_mul hwd];exact hlt
     obtain⟨u,hu,hr⟩:=hc j (f (j/wd) (j%wd)) (by simp only[Bk.cell,if_pos hlt]);rw[hf _ _ h1 (Nat.mod_lt _ hwd),hj]at hr;exact⟨u,hu,aM.ext hx _ _ hr⟩
    cases hj
   |_=>exact h.elim
theorem CH {env env':List (Nat×V)}(h:Y0 rn nx env env')(t:Nat):Y1 rn nx (lk env t) (lk env' t):=by
 induction env' with
 |nil=>trivial
 |cons p r ih=>
  obtain⟨t',x'⟩:=p;simp only[lk]
  split
  ·rename_i he;subst he;exact h.1
  exact ih h.2
theorem lH {own own':List (Nat×gI)}(h:Y4 rn nx own own'){b':Nat}{B':gI}(hl:lo own' b'=some B'):b'<nx∧((vk rn b'=none∧Y7 B'.bk)∨∃b B,vk rn b'=some b∧lo own b=some B∧(B'.rw=true→B.rw=true)∧Y5 rn nx B.bk B'.bk):=by
 induction own' with
 |nil=>cases hl
 |cons p r ih=>
  obtain⟨c,v⟩:=p;simp only[lo]at hl
  split at hl
  ·rename_i he
   subst he;obtain rfl:=Option.some.inj hl;obtain⟨h1,h2⟩:=h.1;refine⟨h1,?_⟩
   split at h2
   ·rename_i hr;exact .inl ⟨hr,h2⟩
   rename_i b hr
   split at h2
   ·rename_i B hB;exact .inr ⟨b,B,hr,hB,h2⟩
   exact h2.elim
  exact ih h.2 hl
theorem HJ {own:List (Nat×gI)}{b:Nat}{B:gI}(h:lo own b=some B):∃p∈own,p.1=b:=by
 induction own with
 |nil=>cases h
 |cons p r ih=>
  obtain⟨c,v⟩:=p;simp only[lo]at h
  split at h
  ·rename_i he;exact⟨(c,v),by simp,he.symm⟩
  obtain⟨q,hq,he⟩:=ih h;exact⟨q,by simp[hq],he⟩
theorem EB {own:List (Nat×gI)}(h:Y6 rn own){b1 b2:Nat}(h1:∃p∈own,p.1=b1)(h2:∃p∈own,p.1=b2)(hne:b1≠b2)(hr:vk rn b1=vk rn b2):vk rn b1=none:=by
 induction own with
 |nil=>obtain⟨p,hp,_⟩:=h1;simp at hp
 |cons q r ih=>
  obtain⟨p1,hp1,rfl⟩:=h1;obtain⟨p2,hp2,rfl⟩:=h2
  rcases List.mem_cons.1 hp1 with e1|hm1
  ·rcases List.mem_cons.1 hp2 with e2|hm2
   ·exact absurd (by rw[e1,e2]) hne
   rcases h.1 p2 hm2 with h3|h3|h3
   ·exact absurd (by rw[h3,e1]) hne
   ·rw[hr];exact h3
   exact absurd (by rw[←hr,e1]) h3
  rcases List.mem_cons.1 hp2 with e2|hm2
  ·rcases h.1 p1 hm1 with h3|h3|h3
   ·exact absurd (by rw[h3,e2]) hne
   ·exact h3
   exact absurd (by rw[hr,e2]) h3
  exact ih h.2 ⟨p1,hm1,rfl⟩ ⟨p2,hm2,rfl⟩
end
theorem Sub.of (rn:List (Nat×Option Nat)){s s':St}(hz:vk rn 0=some 0∧0<s'.nx)(hn:s.n=s'.n)(he:Y0 rn s'.nx s.env s'.env)(ho:Y4 rn s'.nx s.own s'.own)(ha:Y6 rn s'.own):Sub s s':=by
 rintro G a w ⟨ρ,h⟩;have hinj:∀b1 B1 b2 B2,lo s'.own b1=some B1→lo s'.own b2=some B2→b1≠b2→∀c,vk rn b1=some c→vk rn b2≠some c:=by
  intro b1 B1 b2 B2 h1 h2 hne c hc hc2
  have:=EB ha (HJ h1) (HJ h2) hne (hc.trans hc2.symm)
  rw[hc]at this;cases this
 have hok:∀g,aQ G s.own ρ w g→aQ G s'.own (cS rn ρ) w g:=fun g hg=>⟨hg.1,hg.2.1,fun b' B' hl hrw o hadr=>by
  obtain⟨_,hc⟩:=lH ho hl
  rcases hc with⟨hr,_⟩|⟨b,B,hr,hlo,hrw',_⟩
  ·unfold cS at hadr;rw[hr]at hadr;cases hadr
  unfold cS at hadr;rw[hr]at hadr;exact hg.2.2 b B hlo (hrw' hrw) o hadr⟩
 have hx:Ext (aQ G s.own ρ w) (aQ G s'.own (cS rn ρ) w) w w:=Ext.dG hok;refine⟨cS rn ρ,{hd:=h.hd,hn:=h.hn.trans hn,env:=fun t=>tO hx (CH he t) (h.env t),own:=fun b' B' hl=>?_,inj:=fun b1 B1 b2 B2 h1 h2 hne hrw g o o' hadr=>?_,os:=h.os,tape:=h.tape,output:=h.output,size:=h.size,keep:=h.keep,wf:=h.wf,home:=fun l hl=>⟨hz.2,by unfold cS;rw[hz.1];exact(h.home l hl).2⟩,room:=h.room}⟩
 ·obtain⟨hlt,hc⟩:=lH ho hl
  rcases hc with⟨hr,hem⟩|⟨b,B,hr,hlo,hrw',hbr⟩
  ·have e:cS rn ρ b'=⟨none,0⟩:=by unfold cS;rw[hr]
   rw[e];refine⟨hlt,?_,?_,fun g o hadr=>by cases hadr⟩
   ·cases hB:B'.bk with
    |var cs=>rw[hB]at hem;exact hem.elim
    |ints e k xs=>rw[hB]at hem;have hem:xs=[]:=hem;subst hem;rfl
    |rows e wd n f=>rw[hB]at hem;have hem:n=0:=hem;subst hem;rfl
   unfold aT;intro j
   cases hB:B'.bk with
   |var cs=>rw[hB]at hem;exact hem.elim
   |ints e k xs=>rw[hB]at hem;have hem:xs=[]:=hem;subst hem;simp[Bk.cell]
   |rows e wd n f=>rw[hB]at hem;have hem:n=0:=hem;subst hem;simp[Bk.cell]
  have e:cS rn ρ b'=ρ b:=by unfold cS;rw[hr]
  obtain⟨_,h2,h3,h4⟩:=h.own b B hlo;rw[e];exact⟨hlt,by rw[h2,G3 hbr],BE hx hbr h3,h4⟩
 obtain⟨_,hc1⟩:=lH ho h1;obtain⟨_,hc2⟩:=lH ho h2
 rcases hc1 with⟨hr1,_⟩|⟨c1,D1,hr1,hl1,hw1,_⟩
 ·unfold cS at hadr;rw[hr1]at hadr;cases hadr
 rcases hc2 with⟨hr2,_⟩|⟨c2,D2,hr2,hl2,_,_⟩
 ·unfold cS;rw[hr2];simp
 unfold cS at hadr⊢;rw[hr1]at hadr;rw[hr2];refine h.inj c1 D1 c2 D2 hl1 hl2 (fun e=>?_) (hw1 hrw) g o o' hadr;subst e;exact hinj b1 B1 b2 B2 h1 h2 hne c1 hr1 hr2
end Go.Eng
/-
  THE ENGINE, PART W: the rules by which a text's proposition is reckoned. Each fires at a state that is written out, and nowhere else.
-/
namespace Go.Eng
open Go
section
variable {T:fP}{P:Program}{kp:Kp}{e:List (Nat×V)}{o:List (Nat×gI)}{x n:Nat}{Q:Exit→St→Prop}{K:St→Prop}{KE:ey→Prop}
theorem I6:vc T P kp .skip ⟨e,o,x,n⟩ Q=Q .normal ⟨e,o,x,n⟩:=rfl
theorem EO {id:Nat}{ops:Array Oper}{d:Bool}:vc T P kp (.region id ops d) ⟨e,o,x,n⟩ Q=ik T P kp.ms id d ops.toList ⟨e,o,x,n⟩ (fun s'=>Q .normal (gc kp.ks s')):=rfl
def JM (T:fP)(P:Program)(kp:Kp)(b:Code)(Q:Exit→St→Prop):Exit→St→Prop:=fun e s'=>match e with
  |.normal=>vc T P kp b s' Q
  |e=>Q e s'
theorem My {a b:Code}:vc T P kp (.seq a b) ⟨e,o,x,n⟩ Q=vc T P kp a ⟨e,o,x,n⟩ (JM T P kp b Q):=rfl
theorem z7 {b:Code}:JM T P kp b Q .normal ⟨e,o,x,n⟩=vc T P kp b ⟨e,o,x,n⟩ Q:=rfl
theorem GO {b:Code}:JM T P kp b Q .ret ⟨e,o,x,n⟩=Q .ret ⟨e,o,x,n⟩:=rfl
theorem EP {b:Code}{id:Nat}:JM T P kp b Q (.exit id) ⟨e,o,x,n⟩=Q (.exit id) ⟨e,o,x,n⟩:=rfl
def LR (v:V)(A B:St→Prop)(s:St):Prop:=match v with
 |.one (.bool t)=>(t=true→eH A s)∧(t=false→eH B s)
 |_=>False
theorem BJ {t:Bool}{A B:St→Prop}{s:St}:LR (.one (.bool t)) A B s=((t=true→eH A s)∧(t=false→eH B s)):=rfl
theorem Je {α:Type}{A:α→Prop}{s:α}:(True→eH A s)=A s:=by simp only[true_imp_iff];rfl
theorem JT {α:Type}{A:α→Prop}{s:α}:(False→eH A s)=True:=by simp only[false_imp_iff]
theorem Ju {c:Operand}{a b:Code}:vc T P kp (.cond c a b) ⟨e,o,x,n⟩ Q=LR (St.ev ⟨e,o,x,n⟩ c) (fun s=>vc T P kp a s Q) (fun s=>vc T P kp b s Q) ⟨e,o,x,n⟩:=rfl
def yh (id:Nat)(Q:Exit→St→Prop):Exit→St→Prop:=fun e s'=>match e with
  |.exit id'=>if id'=id then Q .normal s' else Q (.exit id') s'
  |e=>Q e s'
theorem F8 {id:Nat}{c:Code}:vc T P kp (.block id c) ⟨e,o,x,n⟩ Q=vc T P kp c ⟨e,o,x,n⟩ (yh id Q):=rfl
theorem vC {id:Nat}:yh id Q .normal ⟨e,o,x,n⟩=Q .normal ⟨e,o,x,n⟩:=rfl
theorem Cj {id:Nat}:yh id Q .ret ⟨e,o,x,n⟩=Q .ret ⟨e,o,x,n⟩:=rfl
theorem zS {id id':Nat}:yh id Q (.exit id') ⟨e,o,x,n⟩=if id'=id then Q .normal ⟨e,o,x,n⟩else Q (.exit id') ⟨e,o,x,n⟩:=rfl
def AI {ι:Type}(I:ι→St)(m:ι→Nat)(k:Nat)(Q:Exit→St→Prop):Exit→St→Prop:=fun e s'=>match e with
  |.normal=>∃y,Sub s' (I y)∧m y<k
  |e=>Q e s'
def Me (T:fP)(P:Program)(kp:Kp)(c:Code)(Q:Exit→St→Prop)(s:St):Prop:=
 ∃(ι:Type) (I:ι→St) (m:ι→Nat) (x0:ι),Sub s (I x0)∧∀x,vc T P kp c (I x) (AI I m (m x) Q)
theorem Jg {c:Code}:vc T P kp (.loop c) ⟨e,o,x,n⟩ Q=Me T P kp c Q ⟨e,o,x,n⟩:=rfl
theorem Lk {c:Code}{s:St}{ι:Type}(I:ι→St)(m:ι→Nat)(x0:ι)(h0:Sub s (I x0))(h:∀x,vc T P kp c (I x) (AI I m (m x) Q)):Me T P kp c Q s:=⟨ι,I,m,x0,h0,h⟩
theorem EJ {ι:Type}{I:ι→St}{m:ι→Nat}{k:Nat}:AI I m k Q .ret ⟨e,o,x,n⟩=Q .ret ⟨e,o,x,n⟩:=rfl
theorem Cx {ι:Type}{I:ι→St}{m:ι→Nat}{k id:Nat}:AI I m k Q (.exit id) ⟨e,o,x,n⟩=Q (.exit id) ⟨e,o,x,n⟩:=rfl
theorem Lq {ι:Type}{I:ι→St}{m:ι→Nat}{k:Nat}{s:St}(y:ι)(h:Sub s (I y))(h1:m y<k):AI I m k Q .normal s:=⟨y,h,h1⟩
theorem Jm {id:Nat}:vc T P kp (.exit id) ⟨e,o,x,n⟩ Q=Q (.exit id) ⟨e,o,x,n⟩:=rfl
theorem MZ:vc T P kp .ret ⟨e,o,x,n⟩ Q=Q .ret ⟨e,o,x,n⟩:=rfl
theorem A2 {ms:List (Nat×WL)}{id:Nat}{os:List Oper}:ik T P ms id true os ⟨e,o,x,n⟩ K=oy T P (mf ms id) os ⟨e,o,x,n⟩ K:=by simp only[ik,if_true]
theorem yG {os:List Oper}:oy T P none os ⟨e,o,x,n⟩ K=vd T P x os.length 0 os [] ⟨e,o,x,n⟩ K:=rfl
theorem CV {os:List Oper}:oy T P (some .nil) os ⟨e,o,x,n⟩ K=gi T P x os.length .nil 0 os [] ⟨e,o,x,n⟩ (fun s'=>iW T P os .nil s' K):=rfl
theorem AD {i:Nat}{pd:List Nat}{r al:WL}{os:List Oper}:oy T P (some (.cons i pd r al)) os ⟨e,o,x,n⟩ K=gi T P x os.length (.cons i pd r al) 0 os [] ⟨e,o,x,n⟩ (fun s'=>iW T P os (.cons i pd r al) s' K):=rfl
theorem Bz {q d:Nat}{t1 t2:WL}{os:List Oper}:oy T P (some (.opt q d t1 t2)) os ⟨e,o,x,n⟩ K=gi T P x os.length t1 0 os [] ⟨e,o,x,n⟩ (fun s'=>iW T P os t1 s' K∧iW T P os t2 (N9 d (x+q) s') K):=rfl
theorem MJ {d id:Nat}:N9 d id ⟨e,o,x,n⟩=⟨I3 e d,del o id,x,n⟩:=rfl
theorem A3 {ms:List (Nat×WL)}{id:Nat}{os:List Oper}:ik T P ms id false os ⟨e,o,x,n⟩ K=qf T P 0 os [] ⟨e,o,x,n⟩ K:=by simp only[ik,Bool.false_eq_true,if_false]
def uI (T:fP)(P:Program)(i:Nat)(os:List Oper)(gd:List (Nat×Tmp))(dst:Option Tmp)(op:Op)(K:St→Prop)(s:St):Prop:=
 if r7 op then CB T op dst s (fun s'=>qf T P (i+1) os gd s' K)
 else if cV op then orM (eF T P op s s.nx s.nx (aP dst os) (fun e=>bU (uG i os) e fun e'=>qf T P (i+1) os (dT (uG i os) i dst gd) (after s dst e') K)) (oi P op dst s (fun s'=>qf T P (i+1) os gd s' K))
 else eF T P op s s.nx s.nx (aP dst os) (fun e=>bU (uG i os) e fun e'=>qf T P (i+1) os (dT (uG i os) i dst gd) (after s dst e') K)
def qH (v:Option V)(want:Bool)(A B:St→Prop)(s:St):Prop:=
 match v.bind gv with
 |some b=>if b=some want then A s else B s
 |none=>False
theorem Jd {i:Nat}{gd:List (Nat×Tmp)}:qf T P i [] gd ⟨e,o,x,n⟩ K=K ⟨e,o,x,n⟩:=rfl
theorem Il {i:Nat}{gd:List (Nat×Tmp)}{dst:Option Tmp}{op:Op}{ty:TypeId}{pos:String}{af:Array Edge}{os:List Oper}:
  qf T P i (⟨dst,op,ty,pos,af,none⟩::os) gd ⟨e,o,x,n⟩ K=(pB dst n∧uI T P i os gd dst op K ⟨e,o,x,n⟩):=rfl
theorem IK {i g:Nat}{want:Bool}{gd:List (Nat×Tmp)}{dst:Option Tmp}{op:Op}{ty:TypeId}{pos:String}{af:Array Edge}{os:List Oper}:
  qf T P i (⟨dst,op,ty,pos,af,some (g,want)⟩::os) gd ⟨e,o,x,n⟩ K=(pB dst n∧qH ((fZ gd g).map (lk e)) want (uI T P i os gd dst op K) (fun s=>qf T P (i+1) os (dT (uG i os) i dst gd) (s.put dst (.aJ [])) K) ⟨e,o,x,n⟩):=by
 simp only[qf,guarded,qH]
 cases fZ gd g with
 |none=>rfl
 |some t=>rfl
def vZ (T:fP)(P:Program)(nx0 len:Nat)(i:Nat)(os:List Oper)(gd:List (Nat×Tmp))(dst:Option Tmp)(op:Op)(K:St→Prop)(s:St):Prop:=
 if cV op then orM (eF T P op s nx0 (nx0+i) (aP dst os) (fun e=>u5 nx0 e.fz∧bU (uG i os) e fun e'=>vd T P nx0 len (i+1) os (dT (uG i os) i dst gd) (s.add dst (nx0+i) e') K)) False else eF T P op s nx0 (nx0+i) (aP dst os) (fun e=>u5 nx0 e.fz∧bU (uG i os) e fun e'=>vd T P nx0 len (i+1) os (dT (uG i os) i dst gd) (s.add dst (nx0+i) e') K)
theorem Jr {nx0 len i:Nat}{gd:List (Nat×Tmp)}:vd T P nx0 len i [] gd ⟨e,o,x,n⟩ K=K ⟨e,o,nx0+len,n⟩:=rfl
def pf (l:Bool)(A B:St→Prop)(s:St):Prop:=if l then A s else B s
theorem Jv {A B:St→Prop}{s:St}:pf true A B s=A s:=rfl
theorem JI {A B:St→Prop}{s:St}:pf false A B s=B s:=rfl
def HB (s:St)(m:Nat):St:={s with nx:=m}
theorem HR {m:Nat}:HB ⟨e,o,x,n⟩ m=⟨e,o,m,n⟩:=rfl
theorem Hs {nx0 len i:Nat}{gd:List (Nat×Tmp)}{dst:Option Tmp}{op:Op}{ty:TypeId}{pos:String}{af:Array Edge}{os:List Oper}:
  vd T P nx0 len i (⟨dst,op,ty,pos,af,none⟩::os) gd ⟨e,o,x,n⟩ K=pf (tz op) (fun s=>qf T P i (⟨dst,op,ty,pos,af,none⟩::os) gd (HB s (nx0+len)) K) (fun s=>pB dst n∧vZ T P nx0 len i os gd dst op K s) ⟨e,o,x,n⟩:=rfl
theorem FZ {nx0 len i g:Nat}{want:Bool}{gd:List (Nat×Tmp)}{dst:Option Tmp}{op:Op}{ty:TypeId}{pos:String}{af:Array Edge}{os:List Oper}:
  vd T P nx0 len i (⟨dst,op,ty,pos,af,some (g,want)⟩::os) gd ⟨e,o,x,n⟩ K=pf (tz op) (fun s=>qf T P i (⟨dst,op,ty,pos,af,some (g,want)⟩::os) gd (HB s (nx0+len)) K)
   (fun s=>pB dst n∧qH ((fZ gd g).map (lk s.env)) want (vZ T P nx0 len i os gd dst op K) (fun s=>vd T P nx0 len (i+1) os (dT (uG i os) i dst gd) (s.put dst (.aJ [])) K) s) ⟨e,o,x,n⟩:=by
 simp only[vd,guarded,qH,pf]
 cases fZ gd g with
 |none=>rfl
 |some t=>rfl
def stepG (T:fP)(P:Program)(nx0 len:Nat)(ws:WL)(i:Nat)(os:List Oper)(gd:List (Nat×Tmp))(dst:Option Tmp)(op:Op)(K:St→Prop)(s:St):Prop:=
 if cV op then orM (eF T P op s nx0 (nx0+i) (aP dst os) (fun e=>u5 nx0 e.fz∧bU (uG i os) e fun e'=>gi T P nx0 len ws (i+1) os (dT (uG i os) i dst gd) (s.add dst (nx0+i) e') K)) False else eF T P op s nx0 (nx0+i) (aP dst os) (fun e=>u5 nx0 e.fz∧bU (uG i os) e fun e'=>gi T P nx0 len ws (i+1) os (dT (uG i os) i dst gd) (s.add dst (nx0+i) e') K)
theorem FY {nx0 len i:Nat}{ws:WL}{gd:List (Nat×Tmp)}:gi T P nx0 len ws i [] gd ⟨e,o,x,n⟩ K=K ⟨e,o,nx0+len,n⟩:=rfl
theorem En {nx0 len i:Nat}{ws:WL}{gd:List (Nat×Tmp)}{dst:Option Tmp}{op:Op}{ty:TypeId}{pos:String}{af:Array Edge}{os:List Oper}:
  gi T P nx0 len ws i (⟨dst,op,ty,pos,af,none⟩::os) gd ⟨e,o,x,n⟩ K=pf (j6 ws i) (fun s=>gi T P nx0 len ws (i+1) os gd s K) (fun s=>pB dst n∧stepG T P nx0 len ws i os gd dst op K s) ⟨e,o,x,n⟩:=by
 simp only[gi,guarded,pf,stepG]
theorem E3 {nx0 len i g:Nat}{want:Bool}{ws:WL}{gd:List (Nat×Tmp)}{dst:Option Tmp}{op:Op}{ty:TypeId}{pos:String}{af:Array Edge}{os:List Oper}:
  gi T P nx0 len ws i (⟨dst,op,ty,pos,af,some (g,want)⟩::os) gd ⟨e,o,x,n⟩ K=pf (j6 ws i) (fun s=>gi T P nx0 len ws (i+1) os gd s K)
   (fun s=>pB dst n∧qH ((fZ gd g).map (lk s.env)) want (stepG T P nx0 len ws i os gd dst op K) (fun s=>gi T P nx0 len ws (i+1) os (dT (uG i os) i dst gd) (s.put dst (.aJ [])) K) s) ⟨e,o,x,n⟩:=by
 simp only[gi,pf]
 congr 1
 simp only[guarded,qH,stepG]
 cases fZ gd g with
 |none=>rfl
 |some t=>rfl
theorem LI {nx0 len i:Nat}{ws:WL}{os:List Oper}{gd:List (Nat×Tmp)}{dst:Option Tmp}{op:Op}(h1:cV op=true):stepG T P nx0 len ws i os gd dst op K ⟨e,o,x,n⟩=
 orM (eF T P op ⟨e,o,x,n⟩ nx0 (nx0+i) (aP dst os) (fun e'=>u5 nx0 e'.fz∧bU (uG i os) e' fun e''=>gi T P nx0 len ws (i+1) os (dT (uG i os) i dst gd) (St.add ⟨e,o,x,n⟩ dst (nx0+i) e'') K)) False:=by
 unfold stepG;rw[if_pos h1]
theorem Kx {nx0 len i:Nat}{ws:WL}{os:List Oper}{gd:List (Nat×Tmp)}{dst:Option Tmp}{op:Op}(h1:cV op=false):stepG T P nx0 len ws i os gd dst op K ⟨e,o,x,n⟩=
 eF T P op ⟨e,o,x,n⟩ nx0 (nx0+i) (aP dst os) (fun e'=>u5 nx0 e'.fz∧bU (uG i os) e' fun e''=>gi T P nx0 len ws (i+1) os (dT (uG i os) i dst gd) (St.add ⟨e,o,x,n⟩ dst (nx0+i) e'') K):=by
 unfold stepG;rw[if_neg (by rw[h1];simp)]
theorem HQ {os:List Oper}:iW T P os .nil ⟨e,o,x,n⟩ K=K ⟨e,o,x,n⟩:=by rw[iW]
theorem Hj {os:List Oper}{i:Nat}{pd:List Nat}{r:WL}:iW T P os (.cons i pd r .nil) ⟨e,o,x,n⟩ K=cE os[i]? (fun p=>pB p.dst n∧uJ T P p os ⟨e,o,x,n⟩ (fun s'=>prom T P os pd s'∧iW T P os r s' K)):=by
 rw[iW,D8]
 cases os[i]? <;>rfl
theorem EI {os:List Oper}{i j:Nat}{pd pd':List Nat}{r r' al:WL}:iW T P os (.cons i pd r (.cons j pd' r' al)) ⟨e,o,x,n⟩ K=(cE os[i]? (fun p=>pB p.dst n∧uJ T P p os ⟨e,o,x,n⟩ (fun s'=>prom T P os pd s'∧iW T P os r s' K))∧iW T P os (.cons j pd' r' al) ⟨e,o,x,n⟩ K):=by
 rw[iW,D8]
 cases os[i]? <;>rfl
theorem NA {os:List Oper}{dst:Option Tmp}{op:Op}{ty:TypeId}{pos:String}{af:Array Edge}{g:Option (Nat×Bool)}(h:r7 op=true):uJ T P ⟨dst,op,ty,pos,af,g⟩ os ⟨e,o,x,n⟩ K=CB T op dst ⟨e,o,x,n⟩ K:=by
 unfold uJ;exact if_pos h
theorem NO {os:List Oper}{dst:Option Tmp}{op:Op}{ty:TypeId}{pos:String}{af:Array Edge}{g:Option (Nat×Bool)}(h:r7 op=false)(h1:cV op=true):uJ T P ⟨dst,op,ty,pos,af,g⟩ os ⟨e,o,x,n⟩ K=
  orM (eF T P op ⟨e,o,x,n⟩ x x (aP dst os) (fun e'=>K (after ⟨e,o,x,n⟩ dst e'))) (oi P op dst ⟨e,o,x,n⟩ K):=by
 unfold uJ;simp only[h,h1,Bool.false_eq_true,if_false,if_true]
theorem M0 {os:List Oper}{dst:Option Tmp}{op:Op}{ty:TypeId}{pos:String}{af:Array Edge}{g:Option (Nat×Bool)}(h:r7 op=false)(h1:cV op=false):uJ T P ⟨dst,op,ty,pos,af,g⟩ os ⟨e,o,x,n⟩ K=
  eF T P op ⟨e,o,x,n⟩ x x (aP dst os) (fun e'=>K (after ⟨e,o,x,n⟩ dst e')):=by
 unfold uJ;simp only[h,h1,Bool.false_eq_true,if_false]
theorem H0 {os:List Oper}{s:St}:prom T P os [] s=True:=rfl
theorem Fc {os:List Oper}{j:Nat}{r:List Nat}:prom T P os (j::r) ⟨e,o,x,n⟩=(cE os[j]? (fun p=>cE p.dst fun d=>d<n∧wU T P os p d ⟨e,o,x,n⟩)∧prom T P os r ⟨e,o,x,n⟩):=by
 simp only[prom]
 cases os[j]? with
 |none=>rfl
 |some p=>cases h:p.dst<;>simp only[cE,h]
theorem Kl {os:List Oper}{d:Nat}{dst:Option Tmp}{op:Op}{ty:TypeId}{pos:String}{af:Array Edge}:wU T P os ⟨dst,op,ty,pos,af,none⟩ d ⟨e,o,x,n⟩=eF T P op ⟨e,o,x,n⟩ x x false (fun e'=>e'.val=lk e d):=rfl
theorem Ki {os:List Oper}{d g:Nat}{want:Bool}{dst:Option Tmp}{op:Op}{ty:TypeId}{pos:String}{af:Array Edge}:wU T P os ⟨dst,op,ty,pos,af,some (g,want)⟩ d ⟨e,o,x,n⟩=
  cE os[g]? (fun p=>cE p.dst fun t=>qH (some (lk e t)) want (fun _=>eF T P op ⟨e,o,x,n⟩ x x false (fun e'=>e'.val=lk e d)) (fun _=>lk e d= .aJ []) ⟨e,o,x,n⟩):=by
 unfold wU;simp only[qH,Option.bind_some]
 cases os[g]? with
 |none=>rfl
 |some p=>
  simp only[Option.bind_some,cE]
  cases p.dst with
  |none=>rfl
  |some t=>simp only[cE];cases gv (lk e t)<;>rfl
theorem Lw {A B:St→Prop}{s:St}:qH (some (.one (.bool true))) true A B s=A s:=rfl
theorem NH {o:List (Nat×gI)}:xH o []=o:=rfl
theorem Nq {A B:St→Prop}{s:St}{w:Bool}:qH (some (.aJ [])) w A B s=B s:=rfl
theorem Kn {A B:St→Prop}{s:St}:qH (some (.one (.bool true))) false A B s=B s:=rfl
theorem Kj {A B:St→Prop}{s:St}:qH (some (.one (.bool false))) true A B s=B s:=rfl
theorem Jq {A B:St→Prop}{s:St}:qH (some (.one (.bool false))) false A B s=A s:=rfl
theorem Jn {i:Nat}{os:List Oper}{gd:List (Nat×Tmp)}{dst:Option Tmp}{op:Op}(h:r7 op=true):uI T P i os gd dst op K ⟨e,o,x,n⟩=CB T op dst ⟨e,o,x,n⟩ (fun s'=>qf T P (i+1) os gd s' K):=if_pos h
theorem Jl {i:Nat}{os:List Oper}{gd:List (Nat×Tmp)}{dst:Option Tmp}{op:Op}(h:r7 op=false)(h1:cV op=true):uI T P i os gd dst op K ⟨e,o,x,n⟩=
 orM (eF T P op ⟨e,o,x,n⟩ x x (aP dst os) (fun e'=>bU (uG i os) e' fun e''=>qf T P (i+1) os (dT (uG i os) i dst gd) (after ⟨e,o,x,n⟩ dst e'') K)) (oi P op dst ⟨e,o,x,n⟩ (fun s'=>qf T P (i+1) os gd s' K)):=by
 unfold uI;rw[h,h1];rfl
theorem LB {i:Nat}{os:List Oper}{gd:List (Nat×Tmp)}{dst:Option Tmp}{op:Op}(h:r7 op=false)(h1:cV op=false):uI T P i os gd dst op K ⟨e,o,x,n⟩=
 eF T P op ⟨e,o,x,n⟩ x x (aP dst os) (fun e'=>bU (uG i os) e' fun e''=>qf T P (i+1) os (dT (uG i os) i dst gd) (after ⟨e,o,x,n⟩ dst e'') K):=by
 unfold uI;rw[h,h1];rfl
theorem Lo {nx0 len i:Nat}{os:List Oper}{gd:List (Nat×Tmp)}{dst:Option Tmp}{op:Op}(h1:cV op=true):vZ T P nx0 len i os gd dst op K ⟨e,o,x,n⟩=
 orM (eF T P op ⟨e,o,x,n⟩ nx0 (nx0+i) (aP dst os) (fun e'=>u5 nx0 e'.fz∧bU (uG i os) e' fun e''=>vd T P nx0 len (i+1) os (dT (uG i os) i dst gd) (St.add ⟨e,o,x,n⟩ dst (nx0+i) e'') K)) False:=by
 unfold vZ;rw[h1];rfl
theorem KX {nx0 len i:Nat}{os:List Oper}{gd:List (Nat×Tmp)}{dst:Option Tmp}{op:Op}(h1:cV op=false):vZ T P nx0 len i os gd dst op K ⟨e,o,x,n⟩=
 eF T P op ⟨e,o,x,n⟩ nx0 (nx0+i) (aP dst os) (fun e'=>u5 nx0 e'.fz∧bU (uG i os) e' fun e''=>vd T P nx0 len (i+1) os (dT (uG i os) i dst gd) (St.add ⟨e,o,x,n⟩ dst (nx0+i) e'') K):=by
 unfold vZ;rw[h1];rfl
theorem Ie {v:V}{b:Option Bk}{f:List Nat}:bU false ⟨v,b,f⟩ KE=KE ⟨v,b,f⟩:=rfl
theorem GB {t:Bool}{b:Option Bk}{f:List Nat}:bU true ⟨.one (.bool t),b,f⟩ KE=((t=true→eH KE ⟨.one (.bool true),b,f⟩)∧(t=false→eH KE ⟨.one (.bool false),b,f⟩)):=rfl
theorem Hc {d:Nat}{v:V}:St.put ⟨e,o,x,n⟩ (some d) v=⟨(d,v)::e,o,x,n⟩:=rfl
theorem HM {v:V}:St.put ⟨e,o,x,n⟩ none v=⟨e,o,x,n⟩:=rfl
theorem Cs {d:Nat}{v:V}:after ⟨e,o,x,n⟩ (some d) ⟨v,none,[]⟩=⟨(d,v)::e,o,x+1,n⟩:=rfl
theorem Cl {v:V}:after ⟨e,o,x,n⟩ none ⟨v,none,[]⟩=⟨e,o,x+1,n⟩:=rfl
theorem FO {d b:Nat}{v:V}{l:List Nat}:after ⟨e,o,x,n⟩ (some d) ⟨v,none,b::l⟩=⟨(d,v)::e,fh o (b::l),x+1,n⟩:=rfl
theorem FC {d:Nat}{v:V}{B:Bk}:after ⟨e,o,x,n⟩ (some d) ⟨v,some B,[]⟩=⟨(d,v)::e,iX o x ⟨B,true⟩,x+1,n⟩:=rfl
theorem Ia {d b:Nat}{v:V}{l:List Nat}{B:Bk}:after ⟨e,o,x,n⟩ (some d) ⟨v,some B,b::l⟩=⟨(d,v)::e,iX (fh o (b::l)) x ⟨B,true⟩,x+1,n⟩:=rfl
theorem MY {d b id:Nat}{v:V}{l:List Nat}{B:Bk}:St.add ⟨e,o,x,n⟩ (some d) id ⟨v,some B,b::l⟩=⟨(d,v)::e,iX (fh o (b::l)) id ⟨B,true⟩,x,n⟩:=rfl
theorem HY {d id:Nat}{v:V}:St.add ⟨e,o,x,n⟩ (some d) id ⟨v,none,[]⟩=⟨(d,v)::e,o,x,n⟩:=rfl
theorem F9 {id:Nat}{v:V}:St.add ⟨e,o,x,n⟩ none id ⟨v,none,[]⟩=⟨e,o,x,n⟩:=rfl
theorem MC {d b id:Nat}{v:V}{l:List Nat}:St.add ⟨e,o,x,n⟩ (some d) id ⟨v,none,b::l⟩=⟨(d,v)::e,fh o (b::l),x,n⟩:=rfl
theorem Lh {d id:Nat}{v:V}{B:Bk}:St.add ⟨e,o,x,n⟩ (some d) id ⟨v,some B,[]⟩=⟨(d,v)::e,iX o id ⟨B,true⟩,x,n⟩:=rfl
theorem OI {ks:List Nat}:gc ks ⟨e,o,x,n⟩=⟨ks.map (fun t=>(t,lk e t)),o,x,n⟩:=rfl
theorem Nj {t:Nat}:St.ev ⟨e,o,x,n⟩ (.tmp t)=lk e t:=rfl
theorem Hd {v:Value}:St.ev ⟨e,o,x,n⟩ (.const v)=cv v:=rfl
theorem JL {f:Nat}:St.ev ⟨e,o,x,n⟩ (.func f)= .one (.fn f 0 (fun _=>.any)):=rfl
theorem NJ {k:IntKind}{i:Int}:cv (.int k i)= .one (.int k i):=rfl
theorem KT {b:Bool}:cv (.bool b)= .one (.bool b):=rfl
theorem MN:cv (.slice none 0 0)= .one .nil:=rfl
theorem Nh {b:ByteArray}:cv (.string b)= .one (.str b):=rfl
theorem Hu {a:Operand}{nx id:Nat}{fz:Bool}:eF T P (.move a) ⟨e,o,x,n⟩ nx id fz KE=KE ⟨St.ev ⟨e,o,x,n⟩ a,none,[]⟩:=rfl
theorem Bi {a:Operand}{nx id:Nat}{fz:Bool}:eF T P (.assign a) ⟨e,o,x,n⟩ nx id fz KE=KE ⟨St.ev ⟨e,o,x,n⟩ a,none,[]⟩:=rfl
def GF (t a b:V):Option V:=match t with
 |.one (.bool t)=>some (if t then a else b)
 |_=>none
theorem Lj {a b:V}:GF (.one (.bool true)) a b=some a:=rfl
theorem LD {a b:V}:GF (.one (.bool false)) a b=some b:=rfl
theorem GJ {c a b:Operand}{nx id:Nat}{fz:Bool}:eF T P (.pick c a b) ⟨e,o,x,n⟩ nx id fz KE=cE (GF (St.ev ⟨e,o,x,n⟩ c) (St.ev ⟨e,o,x,n⟩ a) (St.ev ⟨e,o,x,n⟩ b)) (fun v=>KE ⟨v,none,[]⟩):=by
 simp only[eF]
 cases St.ev ⟨e,o,x,n⟩ c with
 |one c=>cases c<;>rfl
 |_=>rfl
theorem Es {t:Nat}{nx id:Nat}{fz:Bool}:eF T P (.alloc t) ⟨e,o,x,n⟩ nx id fz KE=cE (T t) (fun E=>KE ⟨.one (.ptr id 0),some (.var E.zero),[]⟩):=by
 simp only[eF];cases T t<;>rfl
theorem Lz {t:Nat}{a:Operand}{nx id:Nat}{fz:Bool}:eF T P (.box t a) ⟨e,o,x,n⟩ nx id fz KE=((St.ev ⟨e,o,x,n⟩ a).oe=true∧KE ⟨.one (.ptr id 0),some (.var (cellsOf (St.ev ⟨e,o,x,n⟩ a))),[]⟩):=rfl
def M5:EM→Option (List (Nat×Nat))
 |.st fs=>some fs
 |_=>none
theorem EK {t:Nat}{ps:Array (Nat×Operand)}{nx id:Nat}{fz:Bool}:eF T P (.build t ps) ⟨e,o,x,n⟩ nx id fz KE=cE (T t) (fun E=>cE (M5 E.k) fun fs=>cE (jU fs E.zero (ps.toList.map fun p=>(p.1,St.ev ⟨e,o,x,n⟩ p.2))) fun cs=>KE ⟨.agg cs,none,[]⟩):=by
 simp only[eF]
 cases T t with
 |none=>rfl
 |some E=>
  simp only[oN]
  cases E.k with
  |st fs=>simp only[M5,oN];cases jU fs E.zero (ps.toList.map fun p=>(p.1,St.ev ⟨e,o,x,n⟩ p.2))<;>rfl
  |_=>rfl
theorem uM {t l:Nat}{ps:Array (Nat×Operand)}{nx id:Nat}{fz:Bool}:eF T P (.buildSlice t l ps) ⟨e,o,x,n⟩ nx id fz KE=ic T ⟨e,o,x,n⟩ nx id fz t l ps KE:=rfl
theorem IP {t:Nat}{a:Operand}{nx id:Nat}{fz:Bool}:eF T P (.load t a) ⟨e,o,x,n⟩ nx id fz KE=zC T ⟨e,o,x,n⟩ nx t a KE:=rfl
theorem I8 {op:BinOp}{t t':Nat}{a b:Operand}{nx id:Nat}{fz:Bool}:eF T P (.binOp op t a b t') ⟨e,o,x,n⟩ nx id fz KE=Hy T ⟨e,o,x,n⟩ op t a b KE:=rfl
theorem ME {op:UnOp}{t:Nat}{a:Operand}{nx id:Nat}{fz:Bool}:eF T P (.unOp op t a) ⟨e,o,x,n⟩ nx id fz KE=OD ⟨e,o,x,n⟩ op a KE:=rfl
theorem F1 {t t':Nat}{a:Operand}{nx id:Nat}{fz:Bool}:eF T P (.convert t t' a) ⟨e,o,x,n⟩ nx id fz KE=mI T ⟨e,o,x,n⟩ t t' a KE:=rfl
theorem Hq {t:Nat}{a b:Operand}{nx id:Nat}{fz:Bool}:eF T P (.makeSlice t a b) ⟨e,o,x,n⟩ nx id fz KE=jF T ⟨e,o,x,n⟩ id t a b KE:=rfl
theorem Fj {t:Nat}{a:Operand}{lo hi mx:Option Operand}{nx id:Nat}{fz:Bool}:eF T P (.slice t a lo hi mx) ⟨e,o,x,n⟩ nx id fz KE=uH T ⟨e,o,x,n⟩ t a lo hi mx KE:=rfl
theorem Fa {t f:Nat}{a:Operand}{nx id:Nat}{fz:Bool}:eF T P (.fieldAddr t a f) ⟨e,o,x,n⟩ nx id fz KE=jv T ⟨e,o,x,n⟩ t a f KE:=rfl
theorem BT {t f:Nat}{a:Operand}{nx id:Nat}{fz:Bool}:eF T P (.field t a f) ⟨e,o,x,n⟩ nx id fz KE=tL T ⟨e,o,x,n⟩ t a f KE:=rfl
theorem xr {f:FuncId}{cs:Array Operand}{nx id:Nat}{fz:Bool}:eF T P (.makeFunc (.func f) #[] cs) ⟨e,o,x,n⟩ nx id fz KE=((cs.toList.all fun a=>rP (St.ev ⟨e,o,x,n⟩ a))=true∧KE ⟨.one (.fn f cs.toList.length (fun i=>C5 ((cs.toList.map (St.ev ⟨e,o,x,n⟩)).getD i .unk))),none,[]⟩):=rfl
theorem EU {t:Nat}{a b:Operand}{nx id:Nat}{fz:Bool}:eF T P (.indexAddr t a b) ⟨e,o,x,n⟩ nx id fz KE=jE T ⟨e,o,x,n⟩ t a b KE:=rfl
theorem BX {t:Nat}{a b:Operand}{nx id:Nat}{fz:Bool}:eF T P (.index t a b) ⟨e,o,x,n⟩ nx id fz KE=tf T ⟨e,o,x,n⟩ t a b KE:=rfl
def zv (v:V)(i:Nat):Option V:=match v with
 |.aJ vs=>vs[i]?
 |_=>none
theorem KF {v:V}{vs:List V}:zv (.aJ (v::vs)) 0=some v:=rfl
theorem Ky {v u:V}{vs:List V}:zv (.aJ (v::u::vs)) 1=some u:=rfl
theorem JQ {v u t:V}{vs:List V}:zv (.aJ (v::u::t::vs)) 2=some t:=rfl
theorem z6 {i:Nat}{a:Operand}{nx id:Nat}{fz:Bool}:eF T P (.extract a i) ⟨e,o,x,n⟩ nx id fz KE=cE (zv (St.ev ⟨e,o,x,n⟩ a) i) (fun v=>KE ⟨v,none,[]⟩):=by
 simp only[eF,zv]
 cases St.ev ⟨e,o,x,n⟩ a with
 |aJ vs=>simp only;cases vs[i]? <;>rfl
 |_=>rfl
theorem FB {g:Operand}{az:Array Operand}{ts:Array TypeId}{nx id:Nat}{fz:Bool}:eF T P (.call ⟨.value g,az,ts⟩) ⟨e,o,x,n⟩ nx id fz KE=wA P ⟨e,o,x,n⟩ nx id g az.toList KE:=rfl
theorem FD {b:Builtin}{az:Array Operand}{ts:Array TypeId}{nx id:Nat}{fz:Bool}:eF T P (.call ⟨.builtin b,az,ts⟩) ⟨e,o,x,n⟩ nx id fz KE=mA T ⟨e,o,x,n⟩ b az.toList ts.toList KE:=rfl
def MQ:V→Option FuncId
 |.one (.fn f 0 _)=>some f
 |_=>none
def cY (P:Program)(f:FuncId)(args:List V)(ids:List Nat)(id:Nat)(KE:ey→Prop):Prop:=(∃r,Pr P f args r∧eH KE ⟨r,none,if mY r then[]else ids⟩)∨(∃B,Fr P f args B∧eH KE ⟨.one (.own id B.wd 0 B.len),some B,ids⟩)∨(∃B c,fJ P f args B c∧eH KE ⟨.aJ [.one (.own id B.wd 0 B.len),.one c],some B,ids⟩)
theorem Cg {f:FuncId}{args:List V}{ids:List Nat}{id:Nat}{r:V}{M:Prop}(h:Pr P f args r)(hk:KE ⟨r,none,if mY r then[]else ids⟩):orM (cY P f args ids id KE) M:=.inl (.inl ⟨r,h,hk⟩)
theorem cY.fresh {f:FuncId}{args:List V}{ids:List Nat}{id:Nat}{B:Bk}{M:Prop}(h:Fr P f args B)(hk:KE ⟨.one (.own id B.wd 0 B.len),some B,ids⟩):orM (cY P f args ids id KE) M:=.inl (.inr (.inl ⟨B,h,hk⟩))
theorem cY.Gv {f:FuncId}{args:List V}{ids:List Nat}{id:Nat}{B:Bk}{c:C}{M:Prop}(h:fJ P f args B c)(hk:KE ⟨.aJ [.one (.own id B.wd 0 B.len),.one c],some B,ids⟩):orM (cY P f args ids id KE) M:=.inl (.inr (.inr ⟨B,c,h,hk⟩))
theorem Cm {f:FuncId}{raw:List V}{s:St}{dst:Option Tmp}{A:Prop}(b:Nat){B:Bk}{R:V→Bk→Prop}(hl:lo s.own b=some ⟨B,true⟩)(hp:B.plain)(h:Mc P f (raw.map (I5 b s.own s.nx)) B R)
  (hk:∀r B',R r B'→B'.len=B.len→K (NW s dst b raw r B')):orM A (CN P f raw s dst K):=.inr ⟨b,B,R,hl,hp,h,hk⟩
def we:V→Option (FuncId×List V)
 |.one (.fn f n cs)=>some (f,lV n cs)
 |_=>none
theorem KV {f:FuncId}{c:Nat→C}:we (.one (.fn f 0 c))=some (f,[]):=rfl
theorem JH {f:FuncId}{c:Nat→C}:we (.one (.fn f 1 c))=some (f,[.one (c 0)]):=rfl
theorem Le {f:FuncId}{c:Nat→C}:we (.one (.fn f 2 c))=some (f,[.one (c 0),.one (c 1)]):=rfl
theorem Kt {f:FuncId}{c:Nat→C}:we (.one (.fn f 3 c))=some (f,[.one (c 0),.one (c 1),.one (c 2)]):=rfl
theorem HD {g:Operand}{az:List Operand}{nx id:Nat}:wA P ⟨e,o,x,n⟩ nx id g az KE=cE (we (St.ev ⟨e,o,x,n⟩ g)) (fun f=>cY P f.1 ((az.map (St.ev ⟨e,o,x,n⟩)++f.2).map (yI o nx)) (((az.map (St.ev ⟨e,o,x,n⟩)++f.2).map ij).flatten.filter (fun b=>decide (b<nx))) id KE):=by
 unfold wA we
 cases St.ev ⟨e,o,x,n⟩ g with
 |one c=>cases c<;>rfl
 |agg cs=>rfl
 |aJ cs=>rfl
 |unk=>rfl
theorem Ge {g:Operand}{az:Array Operand}{ts:Array TypeId}{d:Option Tmp}:oi P (.call ⟨.value g,az,ts⟩) d ⟨e,o,x,n⟩ K=cE (MQ (St.ev ⟨e,o,x,n⟩ g)) (fun f=>CN P f (az.toList.map (St.ev ⟨e,o,x,n⟩)) ⟨e,o,x,n⟩ d K):=by
 unfold oi MQ
 cases h:St.ev ⟨e,o,x,n⟩ g with
 |one c=>cases c with
  |fn f m caps=>cases m with
   |zero=>simp only[h,true_and];rfl
   |succ m=>simp[cE,h]
  |_=>simp only[h];rfl
 |_=>simp only[h];rfl
theorem JE {f:FuncId}{c:Nat→C}:MQ (.one (.fn f 0 c))=some f:=rfl
theorem Ex {t:Nat}{a b:Operand}:CB T (.store t a b) none ⟨e,o,x,n⟩ K=uO T ⟨e,o,x,n⟩ t a b K:=by simp only[CB,true_and]
theorem CC {a b:Operand}{t t':Nat}{d:Option Tmp}:CB T (.call ⟨.builtin .append,#[a,b],#[t,t']⟩) d ⟨e,o,x,n⟩ K=(Oj T t'∧pq T ⟨e,o,x,n⟩ d t a b K):=by
 rfl
theorem Eh {a:Operand}{t:Nat}{d:Option Tmp}:CB T (.call ⟨.builtin .clear,#[a],#[t]⟩) d ⟨e,o,x,n⟩ K=uL T ⟨e,o,x,n⟩ d t a K:=rfl
theorem JO {t t':Nat}{a:Operand}{d:Option Tmp}{l c:Nat}:CB T (.binOp .eql t a (.const (.slice none l c)) t') d ⟨e,o,x,n⟩ K=Ig T ⟨e,o,x,n⟩ d t a K:=by simp only[CB,wg,qu,yf,true_and]
theorem Kk {a:Operand}{t:Nat}{d:Option Tmp}:CB T (.call ⟨.builtin .cap,#[a],#[t]⟩) d ⟨e,o,x,n⟩ K=GY T ⟨e,o,x,n⟩ d t a K:=rfl
theorem FW {rs:List ResultVar}{R:V→Prop}:Jh T rs R .ret ⟨e,o,x,n⟩=cE (te T ⟨e,o,x,n⟩ rs) fun vs=>R (BC vs):=rfl
theorem yN {rs:List ResultVar}{R:V→Prop}:Jh T rs R .normal ⟨e,o,x,n⟩=cE (te T ⟨e,o,x,n⟩ rs) fun vs=>R (BC vs):=rfl
end
set_option linter.defProp false in
/-- ALL THE RULES, UNDER ONE NAME. -/
def vcs:=And.intro @I6 (And.intro @EO (And.intro @My (And.intro @z7 (And.intro @GO (And.intro @EP (And.intro @BJ (And.intro @Ju (And.intro @F8 (And.intro @vC
 (And.intro @Cj (And.intro @zS (And.intro @Jg (And.intro @EJ (And.intro @Cx (And.intro @Jm (And.intro @MZ (And.intro @A2 (And.intro @A3 (And.intro @yG (And.intro @CV (And.intro @AD (And.intro @Bz (And.intro @MJ (And.intro @FY (And.intro @En (And.intro @E3 (And.intro @LI (And.intro @Kx (And.intro @HQ (And.intro @Hj (And.intro @EI (And.intro @Kl (And.intro @Ki (And.intro @NA (And.intro @NO (And.intro @M0 (And.intro @H0 (And.intro @Fc (And.intro @Jd
 (And.intro @Il (And.intro @IK (And.intro @Jr (And.intro @Jv (And.intro @JI (And.intro @HR (And.intro @Hs (And.intro @FZ (And.intro @Lw (And.intro @Kn
 (And.intro @NH (And.intro @Nq (And.intro @Kj (And.intro @Jq (And.intro @Jn (And.intro @Jl (And.intro @LB (And.intro @Lo (And.intro @KX (And.intro @Ge (And.intro @Ie (And.intro @GB (And.intro @Hc (And.intro @HM (And.intro @Cs (And.intro @Cl
 (And.intro @FO (And.intro @FC (And.intro @HY (And.intro @F9 (And.intro @MC (And.intro @Ia (And.intro @MY (And.intro @Lh (And.intro @OI (And.intro @Nj (And.intro @Hd (And.intro @JL
 (And.intro @NJ (And.intro @KT (And.intro @MN (And.intro @Nh (And.intro @Hu (And.intro @Bi (And.intro @Lj (And.intro @LD (And.intro @GJ (And.intro @Es
 (And.intro @Lz (And.intro @EK (And.intro @uM (And.intro @IP (And.intro @I8 (And.intro @ME (And.intro @F1 (And.intro @Hq (And.intro @Fj (And.intro @Fa
 (And.intro @BX (And.intro @EU (And.intro @KF (And.intro @Ky (And.intro @JQ (And.intro @z6 (And.intro @FB (And.intro @FD (And.intro @HD (And.intro @JE (And.intro @Ex
 (And.intro @CC (And.intro @JO (And.intro @Eh (And.intro @BT (And.intro @xr (And.intro @KV (And.intro @JH (And.intro @Le (And.intro @Kt (And.intro @Kk (And.intro @FW (And.intro @yN @oN))))))))))))))))))))))))))))))))))))))))))))))))))))))))))))))))))))))))))))))))))))))))))))))))))))))))))))))))))))))))
set_option linter.defProp false in
/-- What is unfolded where it stands. -/
def Qb:=And.intro @sO.eq_def (And.intro @tf.eq_def (And.intro @Mt.eq_def (And.intro @ic.eq_def (And.intro @zC.eq_def (And.intro @Hy.eq_def (And.intro @OD.eq_def (And.intro @mI.eq_def (And.intro @jF.eq_def (And.intro @uH.eq_def (And.intro @jv.eq_def
 (And.intro @jE.eq_def (And.intro @mA.eq_def (And.intro @uO.eq_def (And.intro @Oj.eq_def (And.intro @pq.eq_def (And.intro @GY.eq_def (And.intro @u6.eq_def (And.intro @D4.eq_def (And.intro @Ig.eq_def (And.intro @uL.eq_def (And.intro @tL.eq_def @ET.eq_def))))))))))))))))))))
)
set_option linter.defProp false in
/-- Small reckoning. -/
def PA:=And.intro @lk.eq_1 (And.intro @lk.eq_2 (And.intro @lo.eq_1 (And.intro @lo.eq_2 (And.intro @iX.eq_1 (And.intro @iX.eq_2 (And.intro @del.eq_1 (And.intro @del.eq_2 (And.intro @fh.eq_1 (And.intro @fh.eq_2
 (And.intro @fZ.eq_1 (And.intro @fZ.eq_2 (And.intro @u5.eq_1 (And.intro @u5.eq_2 (And.intro @bC.eq_1 (And.intro @bC.eq_2 (And.intro @gr.eq_1 (And.intro @gr.eq_2 (And.intro @iL.eq_1
 (And.intro @iL.eq_2 (And.intro @jU.eq_1 (And.intro @jU.eq_2 (And.intro @te.eq_1 (And.intro @te.eq_2 (And.intro @eO.eq_1 (And.intro @eO.eq_2 (And.intro @kZ.eq_1 (And.intro @kZ.eq_2
 (And.intro @iS.eq_1 (And.intro @pB.eq_def (And.intro @r7.eq_def (And.intro @j6.eq_1 (And.intro @j6.eq_2 (And.intro @mf.eq_1 (And.intro @mf.eq_2 (And.intro @I3.eq_1 (And.intro @I3.eq_2 (And.intro @yf.eq_def (And.intro @qu.eq_def (And.intro @wg.eq_def (And.intro @rP.eq_def (And.intro @C5.eq_def (And.intro @Pd.eq_def (And.intro @Pg.eq_def (And.intro @GU.eq_def (And.intro @tz.eq_def (And.intro @cV.eq_def (And.intro @NW.eq_1 (And.intro @I5.eq_def (And.intro @Mi.eq_def (And.intro @tR.eq_def (And.intro @CX.eq_def (And.intro @Ka.eq_1 (And.intro @Bk.wd.eq_def (And.intro @Bk.len.eq_def (And.intro @Bk.plain.eq_def (And.intro @Ai.eq_def (And.intro @aP.eq_def (And.intro @LU.eq_def (And.intro @uG.eq_def (And.intro @dT.eq_def (And.intro
 @jw.eq_def (And.intro @NX.eq_def (And.intro @cellsOf.eq_def (And.intro @V.oe.eq_def (And.intro @yI.eq_def (And.intro @oR.eq_def (And.intro @jL.eq_def (And.intro @ij.eq_def (And.intro @jK.eq_def (And.intro
 @mY.eq_def (And.intro @gn.eq_def (And.intro @ly.eq_def (And.intro @Gx.eq_def (And.intro @oc.eq_def (And.intro @Ly.eq_def (And.intro @IL.eq_1 (And.intro @EM.agg.eq_def (And.intro @ML.eq_def
 (And.intro @AB.eq_def (And.intro @iI.eq_def (And.intro @jW.eq_def (And.intro @lj.eq_1 (And.intro @IJ.eq_def (And.intro @BC.eq_def (And.intro @KZ.eq_def (And.intro @M5.eq_def (And.intro
 @Nat.zero_add (And.intro @Nat.add_zero (And.intro @decide_true (And.intro @decide_false (And.intro @true_and (And.intro @and_true (And.intro @Bool.or_false (And.intro @Bool.false_or (And.intro @Bool.or_true (And.intro
 @Bool.true_or (And.intro @Bool.and_true (And.intro @Bool.true_and (And.intro @Bool.false_and (And.intro @Bool.and_false (And.intro @Bool.not_true (And.intro @Bool.not_false (And.intro @or_false (And.intro @or_true
 (And.intro @false_or (@true_or))))))))))))))))))))))))))))))))))))))))))))))))))))))))))))))))))))))))))))))))))))))))))))))))))))))))))
end Go.Eng
/-
  THE ENGINE, PART X: which block is which, found out by itself.
-/
namespace Go.Eng
open Go
def Y9 (v' v:V)(r:List (Nat×Option Nat)):List (Nat×Option Nat):=
 match v' with
 |.one (.own b' _ _ _)=>match v with
  |.one (.own b _ _ _)=>(b',some b)::r
  |.one .nil=>(b',none)::r
  |_=>r
 |.one (.ptr b' _)=>match v with
  |.one (.ptr b _)=>(b',some b)::r
  |_=>r
 |_=>r
def Y8 (env:List (Nat×V)):List (Nat×V)→List (Nat×Option Nat)
 |[]=>[]
 |(t,v')::r=>Y9 v' (lk env t) (Y8 env r)
theorem Sa {e e':List (Nat×V)}{o o':List (Nat×gI)}{x x' n:Nat}(h:(vk (Y8 e e') 0=some 0∧0<x')∧Y0 (Y8 e e') x' e e'∧Y4 (Y8 e e') x' o o'∧Y6 (Y8 e e') o'):Sub ⟨e,o,x,n⟩ ⟨e',o',x',n⟩:=
 Sub.of (Y8 e e') h.1 rfl h.2.1 h.2.2.1 h.2.2.2
def aV:List V→List V→Prop
 |[],[]=>True
 |x::xs,y::ys=>Y1 [] 0 x y∧aV xs ys
 |_,_=>False
def cO (x y:V):Prop:=
 match y with
 |.aJ ys=>match x with
  |.aJ xs=>aV xs ys
  |_=>False
 |_=>Y1 [] 0 x y
theorem sE {x y:V}(h:Y1 [] 0 x y)(ok:Nat→Prop)(w:World)(v:Value)(hr:cd bz bH ok w x v):cd bz bH ok w y v:=by
 have h1:=tO (ok':=ok) (Ext.refl ok w) h hr;have e:(fun b=>b<0)=bH:=by funext b;simp[bH]
 have e2:cS [] bz=bz:=by funext b;rfl
 rw[e,e2]at h1;exact h1
theorem Va {
      x y:V} (h:cO x y):jJ x y:=by
 intro ok w v hr
 cases y with
 |aJ ys=>
  cases x with
  |aJ xs=>
   obtain⟨vs,hv,hl⟩:=hr;refine⟨vs,hv,?_⟩;have key:∀(xs ys:List V) (vs:List Value),aV xs ys→a8 bz bH ok w xs vs→a8 bz bH ok w ys vs:=by
    intro xs
    induction xs with
    |nil=>
     intro ys vs h hl
     cases ys with
     |nil=>exact hl
     |cons y ys=>exact h.elim
    |cons x xs ih=>
     intro ys vs h hl
     cases ys with
     |nil=>exact h.elim
     |cons y ys=>
      cases vs with
      |nil=>exact hl.elim
      |cons v vs=>
       refine⟨?_,ih ys vs h.2 hl.2⟩;have h1:=h.1;have hx:∀t,x≠ .aJ t:=by
        intro t ht
        have:=hl.1
        rw[ht]at this;exact this
       have hy:∀t,y≠ .aJ t:=by
        intro t ht;rw[ht]at h1;exact h1
       have h2:cd bz bH ok w x v:=by
        cases x with
        |aJ t=>exact absurd rfl (hx t)
        |_=>exact hl.1
       have h3:=sE h1 ok w v h2
       cases y with
       |aJ t=>exact absurd rfl (hy t)
       |_=>exact h3
   exact key xs ys vs.toList h hl
  |_=>exact h.elim
 |unk=>exact sE (by cases x<;>exact h) ok w v hr
 |one c=>exact sE (by cases x<;>exact h) ok w v hr
 |agg cs=>exact sE (by cases x<;>exact h) ok w v hr
end Go.Eng
/-
  THE ENGINE, PART Y: from a function's text to the contract of one that returns a new slice, and of one that turns a block.
-/
namespace Go.Eng
open Go
def lq (s:St)(B:Bk)(x:V):Prop:=
 match x with
 |.one (.own b wd off len)=>off=0∧wd=B.wd∧len=B.len∧cE (lo s.own b) fun B'=>B'.rw=true∧Y5 [] 0 B'.bk B
 |.one .nil=>Y7 B
 |_=>False
def Gc (rs:List ResultVar)(B:Bk):Exit→St→Prop
 |.ret,s=>match rs with
  |[.tmp t]=>lq s B (lk s.env t)
  |_=>False
 |.normal,s=>match rs with
  |[.tmp t]=>lq s B (lk s.env t)
  |_=>False
 |_,_=>False
def FK (B' B:Bk):Prop:=
 match B with
 |.ints _ k xs=>match B' with
  |.ints _ k' xs'=>k'=k∧xs'.take xs.length=xs
  |_=>False
 |.rows _ w n f=>match B' with
  |.rows _ w' n' f'=>w'=w∧n≤n'∧∀i j,i<n→j<w→f' i j=f i j
  |_=>False
 |.var _=>False
def IA (rs:List ResultVar)(B:Bk)(c:C):Exit→St→Prop
 |.ret,s=>match rs with
  |[.tmp t,.tmp u]=>lq s B (lk s.env t)∧lk s.env u= .one c
  |_=>False
 |.normal,s=>match rs with
  |[.tmp t,.tmp u]=>lq s B (lk s.env t)∧lk s.env u= .one c
  |_=>False
 |_,_=>False
theorem IH {rs:List ResultVar}{B:Bk}{c:C}{e:Exit}{s:St}(h:IA rs B c e s):(e= .normal∨e= .ret)∧∃t u,rs=[.tmp t,.tmp u]∧lq s B (lk s.env t)∧lk s.env u= .one c:=by
 unfold IA at h
 split at h
 ·split at h
  ·exact⟨.inr rfl,_,_,rfl,h⟩
  exact h.elim
 ·split at h
  ·exact⟨.inl rfl,_,_,rfl,h⟩
  exact h.elim
 exact h.elim
def mB (s:St)(B:Bk)(x:V):Prop:=
 match x with
 |.one (.own b wd off len)=>off=0∧wd=B.wd∧len=B.len∧cE (lo s.own b) fun B'=>B'.rw=true∧FK B'.bk B
 |.one .nil=>Y7 B
 |_=>False
theorem Iw {B' B:Bk}(hB:B.flat)(h:Y5 [] 0 B' B):FK B' B:=by
 cases B with
 |var cs=>exact hB.elim
 |ints e k xs=>
  cases B' with
  |ints e' k' xs'=>obtain⟨rfl,rfl⟩:=h;exact⟨rfl,List.take_length⟩
  |var cs=>exact h.elim
  |rows e' w' n' f'=>exact h.elim
 |rows e w n f=>
  cases B' with
  |rows e' w' n' f'=>obtain⟨rfl,rfl,h⟩:=h;exact⟨rfl,Nat.le_refl _,h⟩
  |var cs=>exact h.elim
  |ints e' k' xs'=>exact h.elim
theorem zI {s:St}{B:Bk}{x:V}(hB:B.flat)(h:lq s B x):mB s B x:=by
 unfold lq at h;unfold mB
 split at h
 ·obtain⟨h1,h2,h3,h4⟩:=h;refine⟨h1,h2,h3,?_⟩;unfold cE at h4⊢
  split at h4
  ·exact⟨h4.1,Iw hB h4.2⟩
  exact h4.elim
 ·exact h
 exact h.elim
theorem wD {B' B:Bk}(h:FK B' B)(j:Nat)(c:C)(hc:B.cell j=some c):B'.cell j=some c:=by
 cases B with
 |var cs=>exact h.elim
 |ints e k xs=>
  cases B' with
  |ints e' k' xs'=>
   obtain⟨rfl,h⟩:=h;simp only[Bk.cell]at hc⊢;rw[←h,List.getElem?_take]at hc
   split at hc
   ·exact hc
   cases hc
  |var cs=>exact h.elim
  |rows e' w' n' f'=>exact h.elim
 |rows e w n f=>
  cases B' with
  |rows e' w' n' f'=>
   obtain⟨rfl,hn,h⟩:=h;simp only[Bk.cell]at hc⊢
   split at hc
   ·rename_i hlt
    have hw:0<w':=Nat.pos_of_ne_zero fun h0=>by subst h0;simp at hlt
    have h1:j/w'<n:=by rw[Nat.div_lt_iff_lt_mul hw];exact hlt
    rw[if_pos (Nat.lt_of_lt_of_le hlt (Nat.mul_le_mul_right _ hn)),h _ _ h1 (Nat.mod_lt _ hw)];exact hc
   cases hc
  |var cs=>exact h.elim
  |ints e' k' xs'=>exact h.elim
theorem Fo {B' B:Bk}(h:FK B' B):B'.flat∧B.flat:=by
 cases B<;>cases B'<;>first|exact h.elim|exact ⟨trivial,trivial⟩
theorem Bk.oS {B:Bk}(h:B.flat):B.plain:=by cases B<;>first|exact h.elim|trivial
theorem results_tmp {P:Program}{fn:Func}{t:Tmp}(h:fn.results.toList=[.tmp t])(tmps:Array Value)(w:World):(results fn tmps).run P w= .ok (tmps.getD t undef) w:=by
 have:fn.results= #[.tmp t]:=Array.toList_inj.1 h
 unfold results;rw[this]
 simp[Sem.run_bind,Sem.run_pure]
def N5 (rs:List ResultVar)(B:Bk):Exit→St→Prop
 |.ret,s=>match rs with
  |[.tmp t]=>mB s B (lk s.env t)
  |_=>False
 |.normal,s=>match rs with
  |[.tmp t]=>mB s B (lk s.env t)
  |_=>False
 |_,_=>False
theorem IM {rs:List ResultVar}{B:Bk}{e:Exit}{s:St}(h:Gc rs B e s):(e= .normal∨e= .ret)∧∃t,rs=[.tmp t]∧lq s B (lk s.env t):=by
 unfold Gc at h
 split at h
 ·split at h
  ·exact⟨.inr rfl,_,rfl,h⟩
  exact h.elim
 ·split at h
  ·exact⟨.inl rfl,_,rfl,h⟩
  exact h.elim
 exact h.elim
theorem tK {w w':World}{ok:Nat→Prop}{ρ:Nat→Loc}{s':St}{a:Act}{t:Tmp}{B:Bk}(hB:B.flat)
  (hs:a7 {W0:=w,forb:=fun g=>g<w.heap.size∧¬ok g,mine:=fun _=>False} (fun b=>b<s'.nx) ρ s' a w') (hfv:mB s' B (lk s'.env t)):
  ∃l:Loc,l.len=B.len∧(∀g o,l.addr=some (g,o)→w.heap.size≤g∧g<w'.heap.size)∧
   aT bz bH (fun g=>ok g∨(w.heap.size≤g∧g<w'.heap.size∧∀o,l.addr≠some (g,o))) w' l B∧fy (fun _=>l) (fun _=>True) (fun _=>False) w' (.own 0 B.wd 0 B.len) (a.tmps.getD t undef):=by
 have hev:=hs.env t;unfold mB at hfv
 split at hfv
 ·rename_i b wd off len hx
  obtain⟨rfl,rfl,rfl,h4⟩:=hfv
  cases hlo:lo s'.own b with
  |none=>rw[hlo]at h4;exact h4.elim
  |some B'=>
   rw[hlo]at h4;obtain⟨h5,h6⟩:=h4;obtain⟨hd,hlB,hrB,hgB⟩:=hs.own b B' hlo;rw[hx]at hev;obtain⟨_,h7,h8⟩:=hev;refine⟨⟨(ρ b).addr,B.len⟩,rfl,fun g o ha=>?_,?_,trivial,(by simp),h8⟩
   ·obtain⟨h9,_,h10⟩:=hgB g o ha
    rcases h10 with h10|h10
    ·exact⟨h10,h9⟩
    exact h10.elim
   have h9:aT ρ (fun b=>b<s'.nx) (aQ {W0:=w,forb:=fun g=>g<w.heap.size∧¬ok g,mine:=fun _=>False} s'.own ρ w') w' ⟨(ρ b).addr,B.len⟩ B:=by
    unfold aT at hrB⊢;simp only
    cases ha:(ρ b).addr with
    |none=>
     rw[ha]at hrB;intro j
     cases hc:B.cell j with
     |none=>rfl
     |some c=>exact absurd (hrB j) (by simp[wD h6 j c hc])
    |some x=>
     obtain⟨g,o⟩:=x;rw[ha]at hrB;obtain⟨cur,e,hg,hc⟩:=hrB;refine⟨cur,e,hg,fun j c hj=>?_⟩;obtain⟨u,hu,hr⟩:=hc j c (wD h6 j c hj);refine⟨u,hu,?_⟩;obtain⟨hf1,hf2⟩:=Fo h6
     cases B with
     |var cs=>exact hf2.elim
     |ints e k xs=>
      cases hb':B'.bk with
      |var cs=>rw[hb']at hf1;exact hf1.elim
      |ints e' k' xs'=>rw[hb']at hr;exact hr
      |rows e' w'' n' f'=>rw[hb']at hr;exact hr
     |rows e w2 n f=>
      cases hb':B'.bk with
      |var cs=>rw[hb']at hf1;exact hf1.elim
      |ints e' k' xs'=>rw[hb']at hr;exact hr
      |rows e' w'' n' f'=>rw[hb']at hr;exact hr
   refine h9.gE (Bk.oS hB) fun g hg=>?_
   by_cases hgs:g<w.heap.size
   ·by_cases hok':ok g
    ·exact .inl hok'
    exact absurd ⟨hgs,hok'⟩ hg.2.1
   exact .inr ⟨by omega,hg.1,fun o ha=>hg.2.2 b B' hlo h5 o ha⟩
 ·rename_i hx
  rw[hx]at hev;have hev:a.tmps.getD t undef= .slice none 0 0:=hev;have hB0:B.len=0:=by
   cases B with
   |var cs=>exact hfv.elim
   |ints e k xs=>have:xs=[]:=hfv;subst this;rfl
   |rows e wd n f=>have:n=0:=hfv;subst this;rfl
  have hBc:∀j,B.cell j=none:=by
   intro j
   cases B with
   |var cs=>exact hfv.elim
   |ints e k xs=>have:xs=[]:=hfv;subst this;simp[Bk.cell]
   |rows e wd n f=>have:n=0:=hfv;subst this;simp[Bk.cell]
  have hval:fy (fun _=>(⟨none,0⟩:Loc)) (fun _=>True) (fun _=>False) w' (.own 0 B.wd 0 B.len) (a.tmps.getD t undef):=by
   rw[hB0];exact⟨trivial,Nat.le_refl _,0,Nat.le_refl _,.inr ⟨rfl,hev,rfl,rfl⟩⟩
  exact⟨⟨none,0⟩,hB0.symm,fun g o ha=>absurd ha (by simp),hBc,hval⟩
 exact hfv.elim
theorem xf {P:Program}{T:fP}(hT:fg P T)(hm:P.follows .mixedOrders=true){f:FuncId}{fn:Func}{c:Code}(hf:P.funcs[f]? =some fn)(hb:fn.body=some c)(hn:(fn.name== "runtime.NumGoroutine")=false)
  (args:List V) (hargs:args.length≤fn.ntmps) (keep:Kp) (hck:codeOk keep c=true) (B:Bk) (hB:B.flat)
  (RET:Exit→St→Prop) (hret:∀e s,RET e s→(e= .normal∨e= .ret)∧∃t,fn.results.toList=[.tmp t]∧mB s B (lk s.env t))
  (h:vc T P keep c (iS args fn.ntmps) RET):Fr P f args B:=by
 refine⟨⟨fn,hf,by rw[hb];rfl,hn⟩,hB,fun ok w vs hok hvs=>?_⟩;have hlen:=a8.length hvs;simp only[Array.length_toList]at hlen
 let G:Ctx:={W0:=w,forb:=fun g=>g<w.heap.size∧¬ok g,mine:=fun _=>False}
 let a0:Act:={tmps:=vs++Array.replicate (fn.ntmps-vs.size) undef,defers:=[]}
 have hokG:∀g,ok g→aQ G [] bz w g:=fun g hg=>⟨hok g hg,fun hf=>hf.2 hg,fun b B hl=>by cases hl⟩;have hsim:qc G (iS args fn.ntmps) a0 w:=by
  refine⟨bz,{hd:=rfl,hn:=?_,env:=fun t=>?_,own:=fun b B hl=>(by cases hl),inj:=fun b B b' B' hl=>(by cases hl),os:=rfl,tape:=rfl,output:=rfl,size:=Nat.le_refl _,keep:=fun _ _ _=>rfl,wf:=fun k hk=>hk.1,home:=fun l hl=>(by cases hl),room:=fun _=>Nat.le_refl _}⟩
  ·simp[a0,iS];omega
  simp only[iS,kG]
  split
  ·rename_i ht
   simp only[Nat.sub_zero,Nat.zero_add]at ht⊢;have hx:args[t]? =some (args.getD t .unk):=by
    rw[X7,X8 ht.2];rfl
   obtain⟨v,hv,hr⟩:=a8.get hvs t _ hx;have hv':a0.tmps.getD t undef=v:=by
    rw[Array.getElem?_toList]at hv;have hlt:=(Array.getElem?_eq_some_iff.1 hv).1;simp only[a0,Array.getD_eq_getD_getElem?];rw[Array.getElem?_append_left hlt,hv];rfl
   rw[hv'];exact cd.uf (dM.ext (Ext.dG hokG) ⟨fun b hb=>hb.elim,fun b hb=>hb.elim⟩ _ _ hr)
  trivial
 refine calls_of_wp hf hb (wp_mono (pP hT hm keep c hck _ _ h G a0 w hsim) ?_);rintro e a w' ⟨s',hq,ρ,hs⟩;obtain⟨he,t,hrs,hfv⟩:=hret _ _ hq;have hres:=results_tmp (P:=P) hrs a.tmps w';have hbelow:Go.RowKit.Below w.heap.size w w':=⟨hs.os,hs.tape,hs.output,hs.size,fun k hk=>hs.keep k hk (fun hf=>hf)⟩;obtain⟨l,h1,h2,h3,h4⟩:=tK hB hs hfv;have fin:a.defers=[]∧∃v,(results fn a.tmps).run P w'= .ok v w'∧∃u l,Ending.returned v= .returned u∧Go.RowKit.Below w.heap.size w w'∧l.len=B.len∧(∀g o,l.addr=some (g,o)→w.heap.size≤g∧g<w'.heap.size)∧
   aT bz bH (fun g=>ok g∨(w.heap.size≤g∧g<w'.heap.size∧∀o,l.addr≠some (g,o))) w' l B∧fy (fun _=>l) (fun _=>True) (fun _=>False) w' (.own 0 B.wd 0 B.len) u:=
  ⟨hs.hd,_,hres,_,l,rfl,hbelow,h1,h2,h3,h4⟩
 rcases he with rfl|rfl
 ·exact fin
 exact fin
theorem xF {P:Program}{T:fP}(hT:fg P T)(hm:P.follows .mixedOrders=true){f:FuncId}{fn:Func}{c:Code}(hf:P.funcs[f]? =some fn)(hb:fn.body=some c)(hn:(fn.name== "runtime.NumGoroutine")=false)
  (args:List V) (hargs:args.length≤fn.ntmps) (keep:Kp) (hck:codeOk keep c=true) (B:Bk) (c0:C) (hB:B.flat) (hc0:ua c0)
  (h:vc T P keep c (iS args fn.ntmps) (IA fn.results.toList B c0)):fJ P f args B c0:=by
 refine⟨hc0,⟨fn,hf,by rw[hb];rfl,hn⟩,hB,fun ok w vs hok hvs=>?_⟩;have hlen:=a8.length hvs;simp only[Array.length_toList]at hlen
 let G:Ctx:={W0:=w,forb:=fun g=>g<w.heap.size∧¬ok g,mine:=fun _=>False}
 let a0:Act:={tmps:=vs++Array.replicate (fn.ntmps-vs.size) undef,defers:=[]}
 have hokG:∀g,ok g→aQ G [] bz w g:=fun g hg=>⟨hok g hg,fun hf=>hf.2 hg,fun b B hl=>by cases hl⟩;have hsim:qc G (iS args fn.ntmps) a0 w:=by
  refine⟨bz,{hd:=rfl,hn:=?_,env:=fun t=>?_,own:=fun b B hl=>(by cases hl),inj:=fun b B b' B' hl=>(by cases hl),os:=rfl,tape:=rfl,output:=rfl,size:=Nat.le_refl _,keep:=fun _ _ _=>rfl,wf:=fun k hk=>hk.1,home:=fun l hl=>(by cases hl),room:=fun _=>Nat.le_refl _}⟩
  ·simp[a0,iS];omega
  simp only[iS,kG]
  split
  ·rename_i ht
   simp only[Nat.sub_zero,Nat.zero_add]at ht⊢;have hx:args[t]? =some (args.getD t .unk):=by
    rw[X7,X8 ht.2];rfl
   obtain⟨v,hv,hr⟩:=a8.get hvs t _ hx;have hv':a0.tmps.getD t undef=v:=by
    rw[Array.getElem?_toList]at hv;have hlt:=(Array.getElem?_eq_some_iff.1 hv).1;simp only[a0,Array.getD_eq_getD_getElem?];rw[Array.getElem?_append_left hlt,hv];rfl
   rw[hv'];exact cd.uf (dM.ext (Ext.dG hokG) ⟨fun b hb=>hb.elim,fun b hb=>hb.elim⟩ _ _ hr)
  trivial
 refine calls_of_wp hf hb (wp_mono (pP hT hm keep c hck _ _ h G a0 w hsim) ?_);rintro e a w' ⟨s',hq,ρ,hs⟩;obtain⟨he,t,u,hrs,hfv,hu⟩:=IH hq;have hbelow:Go.RowKit.Below w.heap.size w w':=⟨hs.os,hs.tape,hs.output,hs.size,fun k hk=>hs.keep k hk (fun hf=>hf)⟩;obtain⟨l,h1,h2,h3,h4⟩:=tK hB hs (zI hB hfv);have hres:(results fn a.tmps).run P w'= .ok (.tuple #[a.tmps.getD t undef,a.tmps.getD u undef]) w':=by
  have:fn.results= #[.tmp t,.tmp u]:=Array.toList_inj.1 hrs
  unfold results;rw[this]
  simp[Sem.run_bind,Sem.run_pure]
 have hcu:aW bz bH (fun _=>False) w' c0 (a.tmps.getD u undef):=by
  have:=hs.env u
  rw[hu]at this
  cases c0<;>first|exact hc0.elim|exact this
 have fin:a.defers=[]∧∃v,(results fn a.tmps).run P w'= .ok v w'∧∃x y l,Ending.returned v= .returned (.tuple #[x,y])∧Go.RowKit.Below w.heap.size w w'∧l.len=B.len∧(∀g o,l.addr=some (g,o)→w.heap.size≤g∧g<w'.heap.size)∧
   aT bz bH (fun g=>ok g∨(w.heap.size≤g∧g<w'.heap.size∧∀o,l.addr≠some (g,o))) w' l B∧fy (fun _=>l) (fun _=>True) (fun _=>False) w' (.own 0 B.wd 0 B.len) x∧aW bz bH (fun _=>False) w' c0 y:=
  ⟨hs.hd,_,hres,_,_,l,rfl,hbelow,h1,h2,h3,h4,hcu⟩
 rcases he with rfl|rfl
 ·exact fin
 exact fin
theorem yH {P:Program}{T:fP}(hT:fg P T)(hm:P.follows .mixedOrders=true){f:FuncId}{fn:Func}{c:Code}(hf:P.funcs[f]? =some fn)(hb:fn.body=some c)(hn:(fn.name== "runtime.NumGoroutine")=false)
  (args:List V) (hargs:args.length≤fn.ntmps) (keep:Kp) (hck:codeOk keep c=true) (B:Bk) (hB:B.flat)
  (h:vc T P keep c (iS args fn.ntmps) (Gc fn.results.toList B)):Fr P f args B:=
 xf hT hm hf hb hn args hargs keep hck B hB _ (fun _ _ hr=>by obtain⟨h1,t,h2,h3⟩:=IM hr;exact⟨h1,t,h2,zI hB h3⟩) h
def Bo (s:St):List ResultVar→Option V
 |[]=>some (.aJ [])
 |[.tmp t]=>some (I5 0 s.own s.nx (lk s.env t))
 |[.tmp t,.tmp u]=>some (.aJ [I5 0 s.own s.nx (lk s.env t),I5 0 s.own s.nx (lk s.env u)])
 |_=>none
def HS (rs:List ResultVar)(R:V→Bk→Prop):Exit→St→Prop
 |.ret,s=>cE (lo s.own 0) fun B'=>B'.rw=true∧B'.bk.plain∧cE (Bo s rs) fun r=>R r B'.bk
 |.normal,s=>cE (lo s.own 0) fun B'=>B'.rw=true∧B'.bk.plain∧cE (Bo s rs) fun r=>R r B'.bk
 |_,_=>False
def iM (args:List V)(B:Bk)(n:Nat):St:={env:=eO 0 args,own:=[(0,⟨B,true⟩)],nx:=1,n:=n}
theorem I7 {rs:List ResultVar}{R:V→Bk→Prop}{e:Exit}{s:St}(h:HS rs R e s):(e= .normal∨e= .ret)∧∃B' r,lo s.own 0=some B'∧B'.rw=true∧B'.bk.plain∧Bo s rs=some r∧R r B'.bk:=by
 have key:(cE (lo s.own 0) fun B'=>B'.rw=true∧B'.bk.plain∧cE (Bo s rs) fun r=>R r B'.bk)→∃B' r,lo s.own 0=some B'∧B'.rw=true∧B'.bk.plain∧Bo s rs=some r∧R r B'.bk:=by
  intro h;unfold cE at h
  split at h
  ·rename_i B' hB
   obtain⟨h1,h2,h3⟩:=h
   split at h3
   ·rename_i r hr;exact⟨B',r,hB,h1,h2,hr,h3⟩
   exact h3.elim
  exact h.elim
 unfold HS at h
 split at h
 ·exact⟨.inr rfl,key h⟩
 ·exact⟨.inl rfl,key h⟩
 exact h.elim
theorem FA {P:Program}{T:fP}(hT:fg P T)(hm:P.follows .mixedOrders=true){f:FuncId}{fn:Func}{c:Code}(hf:P.funcs[f]? =some fn)(hb:fn.body=some c)(hn:(fn.name== "runtime.NumGoroutine")=false)
  (args:List V) (hargs:args.length≤fn.ntmps) (keep:Kp) (hck:codeOk keep c=true) (B:Bk) (hBp:B.plain) (R:V→Bk→Prop)
  (h:vc T P keep c (iM args B fn.ntmps) (HS fn.results.toList R)):Mc P f args B R:=by
 refine⟨⟨fn,hf,by rw[hb];rfl,hn⟩,fun ok w vs l hok hlB hnot hrB hvs=>?_⟩;have hlen:=a8.length hvs;simp only[Array.length_toList]at hlen
 let G:Ctx:={W0:=w,forb:=fun g=>g<w.heap.size∧¬ok g∧∀o,l.addr≠some (g,o),mine:=fun g=>∃o,l.addr=some (g,o),home:=some l}
 let a0:Act:={tmps:=vs++Array.replicate (fn.ntmps-vs.size) undef,defers:=[]}
 have hokG:∀g,ok g→aQ G [(0,⟨B,true⟩)] (fun _=>l) w g:=fun g hg=>⟨hok g hg,fun hf=>hf.2.1 hg,fun b B2 hl hrw o ha=>(hnot g o ha).2 hg⟩;have hsim:qc G (iM args B fn.ntmps) a0 w:=by
  refine⟨fun _=>l,{hd:=rfl,hn:=?_,env:=fun t=>?_,own:=fun b B2 hl=>?_,inj:=fun b B1 b' B' hl hl' hne=>?_,os:=rfl,tape:=rfl,output:=rfl,size:=Nat.le_refl _,keep:=fun _ _ _=>rfl,wf:=fun k hk=>hk.1,home:=fun l' hl=>?_,room:=fun _=>Nat.le_refl _}⟩
  ·simp[a0,iM];omega
  ·simp only[iM,kG]
   split
   ·rename_i ht
    simp only[Nat.sub_zero,Nat.zero_add]at ht⊢;have hx:args[t]? =some (args.getD t .unk):=by
     rw[X7,X8 ht.2];rfl
    obtain⟨v,hv,hr⟩:=a8.get hvs t _ hx;have hv':a0.tmps.getD t undef=v:=by
     rw[Array.getElem?_toList]at hv;have hlt:=(Array.getElem?_eq_some_iff.1 hv).1;simp only[a0,Array.getD_eq_getD_getElem?];rw[Array.getElem?_append_left hlt,hv];rfl
    rw[hv'];exact cd.uf (dM.ext (Ext.dG hokG) ⟨fun b hb=>by omega,fun b hb=>rfl⟩ _ _ hr)
   trivial
  ·simp only[iM,lo]at hl
   split at hl
   ·rename_i hb0
    subst hb0;obtain rfl:=Option.some.inj hl;refine⟨by simp[iM],hlB,hrB.gE hBp hokG,fun g o ha=>⟨(hnot g o ha).1,fun hf=>hf.2.2 o ha,.inr ⟨o,ha⟩⟩⟩
   cases hl
  ·simp only[iM,lo]at hl hl'
   split at hl
   ·split at hl'
    ·rename_i h1 h2;exact absurd (h1.trans h2.symm) hne
    cases hl'
   cases hl
  exact⟨by simp[iM],(Option.some.inj hl)⟩
 refine calls_of_wp hf hb (wp_mono (pP hT hm keep c hck _ _ h G a0 w hsim) ?_);rintro e a w' ⟨s',hq,ρ,hs⟩;obtain⟨he,B',r,hlo,hrw,hpl,hres,hR⟩:=I7 hq;obtain⟨hd0,hρ0⟩:=hs.home l rfl;obtain⟨_,hlB',hrB',hgB'⟩:=hs.own 0 B' hlo;have hmb:xD l w w':=⟨hs.os,hs.tape,hs.output,hs.size,fun k hk hno=>hs.keep k hk (fun hf=>by obtain⟨o,ho⟩:=hf;exact hno o ho),hs.room⟩;have hone:∀g,g<w'.heap.size→¬G.forb g→(∀o,l.addr≠some (g,o))→so ok w w' g:=fun g h1 h2 h3=>by
  by_cases hgs:g<w.heap.size
  ·by_cases hok':ok g
   ·exact .inl hok'
   exact absurd ⟨hgs,hok',h3⟩ h2
  exact .inr ⟨by omega,h1⟩
 have hokE:∀ids,0∉ids→∀g,dQ G s'.own ρ w' ids g→so ok w w' g:=by
  rintro ids hids g (h1|⟨b1,hb1,B1,o',hl1,ha'⟩)
  ·exact hone g h1.1 h1.2.1 fun o ha=>h1.2.2 0 B' hlo hrw o (by rw[hρ0];exact ha)
  obtain⟨_,_,_,h4⟩:=hs.own b1 B1 hl1;obtain⟨h5,h6,_⟩:=h4 g o' ha';exact hone g h5 h6 fun o ha=>hs.inj 0 B' b1 B1 hlo hl1 (fun e=>hids (e▸hb1)) hrw g o o' (by rw[hρ0];exact ha) ha'
 have hend:∃v,(results fn a.tmps).run P w'= .ok v w'∧cd (fun _=>l) (fun b=>b=0) (so ok w w') w' r v:=by
  have hmu:∀t,dM (fun _=>l) (fun b=>b=0) (so ok w w') w' (I5 0 s'.own s'.nx (lk s'.env t)) (a.tmps.getD t undef):=by
   intro t;have h1:=vJ hs 0 ((ij (lk s'.env t)).filter (fun b=>b !=0)) (lk s'.env t) _ (fun b hb hne=>List.mem_filter.2 ⟨hb,by simpa using hne⟩) (hs.env t);rw[hρ0]at h1;exact dM.ext (Ext.dG (hokE _ (by simp))) ⟨fun _ h=>h,fun _ _=>rfl⟩ _ _ h1
  unfold Bo at hres
  split at hres
  ·rename_i hrs
   obtain rfl:=Option.some.inj hres
   have:fn.results= #[]:=Array.toList_inj.1 hrs
   refine⟨.tuple #[],?_,#[],rfl,trivial⟩;unfold results;rw[this]
   simp[Sem.run_bind,Sem.run_pure]
  ·rename_i t hrs
   obtain rfl:=Option.some.inj hres;exact⟨_,results_tmp hrs a.tmps w',cd.uf (hmu t)⟩
  ·rename_i t u hrs
   obtain rfl:=Option.some.inj hres
   have:fn.results= #[.tmp t,.tmp u]:=Array.toList_inj.1 hrs
   refine⟨.tuple #[a.tmps.getD t undef,a.tmps.getD u undef],?_,_,rfl,hmu t,hmu u,trivial⟩;unfold results;rw[this]
   simp[Sem.run_bind,Sem.run_pure]
  cases hres
 obtain⟨v,hrun,hval⟩:=hend;have hfinal:aT bz bH (so ok w w') w' l B'.bk:=by
  rw[hρ0]at hrB';exact hrB'.gE hpl fun g hg=>hokE [] (by simp) g (.inl hg)
 have hB'len:B'.bk.len=B.len:=by rw[←hlB',hρ0,hlB]
 have fin:a.defers=[]∧∃v,(results fn a.tmps).run P w'= .ok v w'∧∃u r B2,Ending.returned v= .returned u∧R r B2∧B2.plain∧B2.len=B.len∧xD l w w'∧aT bz bH (so ok w w') w' l B2∧cd (fun _=>l) (fun b=>b=0) (so ok w w') w' r u:=
  ⟨hs.hd,v,hrun,v,r,B'.bk,rfl,hR,hpl,hB'len,hmb,hfinal,hval⟩
 rcases he with rfl|rfl
 ·exact fin
 exact fin
set_option linter.defProp false in
def Py:=And.intro @List.contains_cons.{0} (And.intro @List.contains_nil.{0} (And.intro @beq_self_eq_true.{0} (And.intro @bne_self_eq_false.{0} (And.intro @bne_iff_ne.{0} (And.intro @List.take_length.{0} (And.intro @List.toList_toArray.{0} (And.intro @List.map_nil.{0,0} (And.intro @List.map_cons.{0,0} (And.intro @List.flatten_nil.{0} (And.intro @List.flatten_cons.{0} (And.intro @List.filter_nil.{0} (And.intro @List.filter_cons.{0} (And.intro @List.nil_append.{0} (And.intro @List.cons_append.{0} (And.intro @List.append_nil.{0} (And.intro @List.any_nil.{0} (And.intro @List.any_cons.{0} (And.intro @List.all_nil.{0} (And.intro @List.all_cons.{0} (And.intro @List.take_zero.{0} (And.intro @List.take_succ_cons.{0} (And.intro @List.take_nil.{0} (And.intro @List.drop_zero.{0} (And.intro @List.drop_succ_cons.{0} (And.intro @List.drop_nil.{0} (And.intro @List.getElem?_cons_zero.{0} (And.intro @List.getElem?_cons_succ.{0} (And.intro @List.getD_cons_zero.{0} (And.intro @List.getD_cons_succ.{0} (And.intro @List.length_cons.{0} (And.intro @List.length_nil.{0} (And.intro @List.flatMap_cons.{0,0} (And.intro @List.flatMap_nil.{0,0} (And.intro @Option.map_some.{0,0} (And.intro @Option.map_none.{0,0} (And.intro @eq_self.{1} (And.intro @Bool.false_eq_true (And.intro @Int.toNat_natCast (And.intro @decide_eq_true_eq (And.intro @decide_eq_false_iff_not (And.intro @ne_eq.{1} (And.intro @not_true_eq_false (And.intro @not_false_eq_true (And.intro @Classical.not_not (And.intro @Je (And.intro @JT (And.intro @Bool.true_eq_false (And.intro @Int.sub_zero (And.intro @Int.zero_add (@Int.add_zero))))))))))))))))))))))))))))))))))))))))))))))))))
set_option linter.defProp false in
def PG:=And.intro @IA.eq_def (And.intro @Gc.eq_def (And.intro @lq.eq_def (And.intro @N5.eq_def (And.intro @mB.eq_def (And.intro @FK.eq_def (And.intro @HS.eq_def (@Bo.eq_def)))))))
set_option linter.defProp false in
def PU:=And.intro @Option.some.injEq.{0} (And.intro @List.not_mem_nil.{0} (And.intro @false_imp_iff (And.intro @List.forall_mem_cons.{0} (And.intro @implies_true.{1} (@implies_true.{0})))))
end Go.Eng
/-
  THE TABLE OF THE TYPES that the functions of this seat speak of, by program (tys.py); and that it is the loaded program's own.
-/
namespace Go.Proofs.YtgalhjhdgkoemaaGreat
open Go Go.Eng
def T:Nat→Option Ty
 |2=>some ⟨.int .i64,1,8,[.int .i64 0],[]⟩
 |3=>some ⟨.int .i64,1,8,[.int .i64 0],[]⟩
 |4=>some ⟨.bool,1,1,[.bool false],[]⟩
 |5=>some ⟨.int .u8,1,1,[.int .u8 0],[]⟩
 |9=>some ⟨.str,1,16,[.str ⟨#[]⟩],[]⟩
 |22=>some ⟨.sl 68,1,24,[.nil],[]⟩
 |23=>some ⟨.sl 68,1,24,[.nil],[]⟩
 |24=>some ⟨.sl 45,1,24,[.nil],[]⟩
 |25=>some ⟨.sl 45,1,24,[.nil],[]⟩
 |26=>some ⟨.sl 35,1,24,[.nil],[]⟩
 |32=>some ⟨.sl 33,1,24,[.nil],[]⟩
 |33=>some ⟨.sl 57,1,24,[.nil],[]⟩
 |34=>some ⟨.st [(0,1),(1,1)],2,48,[.nil,.nil],[true,true]⟩
 |35=>some ⟨.st [(0,1),(1,1)],2,48,[.nil,.nil],[true,true]⟩
 |36=>some ⟨.int .i64,1,8,[.int .i64 0],[]⟩
 |43=>some ⟨.int .i8,1,1,[.int .i8 0],[]⟩
 |44=>some ⟨.st [(0,1),(1,1),(2,1),(3,1),(4,1)],5,5,[.int .u8 0,.int .u8 0,.int .u8 0,.int .i8 0,.int .u8 0],[true,true,true,true,true]⟩
 |45=>some ⟨.st [(0,1),(1,1),(2,1),(3,1),(4,1)],5,5,[.int .u8 0,.int .u8 0,.int .u8 0,.int .i8 0,.int .u8 0],[true,true,true,true,true]⟩
 |52=>some ⟨.sl 3,1,24,[.nil],[]⟩
 |53=>some ⟨.sl 137,1,24,[.nil],[]⟩
 |54=>some ⟨.st [(0,1),(1,1)],2,32,[.bool false,.nil],[true,true]⟩
 |55=>some ⟨.st [(0,1),(1,1)],2,32,[.bool false,.nil],[true,true]⟩
 |56=>some ⟨.st [(0,2),(2,2)],4,64,[.bool false,.nil,.bool false,.nil],[false,false]⟩
 |57=>some ⟨.st [(0,2),(2,2)],4,64,[.bool false,.nil,.bool false,.nil],[false,false]⟩
 |59=>some ⟨.sl 61,1,24,[.nil],[]⟩
 |60=>some ⟨.st [(0,1),(1,4),(5,1),(6,1)],7,112,[.int .i64 0,.bool false,.nil,.bool false,.nil,.str ⟨#[]⟩,.nil],[true,false,true,true]⟩
 |61=>some ⟨.st [(0,1),(1,4),(5,1),(6,1)],7,112,[.int .i64 0,.bool false,.nil,.bool false,.nil,.str ⟨#[]⟩,.nil],[true,false,true,true]⟩
 |62=>some ⟨.st [(0,1),(1,1),(2,1),(3,1),(4,1)],5,88,[.int .i64 0,.nil,.nil,.nil,.int .i64 0],[true,true,true,true,true]⟩
 |63=>some ⟨.st [(0,1),(1,1),(2,1),(3,1),(4,1)],5,88,[.int .i64 0,.nil,.nil,.nil,.int .i64 0],[true,true,true,true,true]⟩
 |64=>some ⟨.sl 23,1,24,[.nil],[]⟩
 |67=>some ⟨.st [(0,4),(4,1)],5,88,[.bool false,.nil,.bool false,.nil,.nil],[false,true]⟩
 |68=>some ⟨.st [(0,4),(4,1)],5,88,[.bool false,.nil,.bool false,.nil,.nil],[false,true]⟩
 |98=>some ⟨.st [(0,1),(1,1)],2,48,[.nil,.nil],[true,true]⟩
 |99=>some ⟨.st [(0,1),(1,1)],2,48,[.nil,.nil],[true,true]⟩
 |116=>some ⟨.sl 52,1,24,[.nil],[]⟩
 |120=>some ⟨.int .u64,1,8,[.int .u64 0],[]⟩
 |133=>some ⟨.int .u64,1,8,[.int .u64 0],[]⟩
 |137=>some ⟨.int .u32,1,4,[.int .u32 0],[]⟩
 |144=>some ⟨.int .i64,1,8,[.int .i64 0],[]⟩
 |167=>some ⟨.st [(0,1),(1,1)],2,48,[.nil,.nil],[true,true]⟩
 |168=>some ⟨.st [(0,1),(1,1)],2,48,[.nil,.nil],[true,true]⟩
 |181=>some ⟨.int .u64,1,8,[.int .u64 0],[]⟩
 |_=>none
theorem T2:dh Tryz.prog 2=some ⟨.int .i64,1,8,[.int .i64 0],[]⟩:=by kernel_rfl
theorem T3:dh Tryz.prog 3=some ⟨.int .i64,1,8,[.int .i64 0],[]⟩:=by kernel_rfl
theorem T4:dh Tryz.prog 4=some ⟨.bool,1,1,[.bool false],[]⟩:=by kernel_rfl
theorem T5:dh Tryz.prog 5=some ⟨.int .u8,1,1,[.int .u8 0],[]⟩:=by kernel_rfl
theorem T9:dh Tryz.prog 9=some ⟨.str,1,16,[.str ⟨#[]⟩],[]⟩:=by kernel_rfl
theorem PO:dh Tryz.prog 22=some ⟨.sl 68,1,24,[.nil],[]⟩:=by kernel_rfl
theorem P4:dh Tryz.prog 23=some ⟨.sl 68,1,24,[.nil],[]⟩:=by kernel_rfl
theorem Qj:dh Tryz.prog 24=some ⟨.sl 45,1,24,[.nil],[]⟩:=by kernel_rfl
theorem P3:dh Tryz.prog 25=some ⟨.sl 45,1,24,[.nil],[]⟩:=by kernel_rfl
theorem PE:dh Tryz.prog 26=some ⟨.sl 35,1,24,[.nil],[]⟩:=by kernel_rfl
theorem PJ:dh Tryz.prog 32=some ⟨.sl 33,1,24,[.nil],[]⟩:=by kernel_rfl
theorem PN:dh Tryz.prog 33=some ⟨.sl 57,1,24,[.nil],[]⟩:=by kernel_rfl
theorem PM:dh Tryz.prog 34=some ⟨.st [(0,1),(1,1)],2,48,[.nil,.nil],[true,true]⟩:=by kernel_rfl
theorem Qi:dh Tryz.prog 35=some ⟨.st [(0,1),(1,1)],2,48,[.nil,.nil],[true,true]⟩:=by kernel_rfl
theorem P8:dh Tryz.prog 36=some ⟨.int .i64,1,8,[.int .i64 0],[]⟩:=by kernel_rfl
theorem P7:dh Tryz.prog 43=some ⟨.int .i8,1,1,[.int .i8 0],[]⟩:=by kernel_rfl
theorem Qd:dh Tryz.prog 44=some ⟨.st [(0,1),(1,1),(2,1),(3,1),(4,1)],5,5,[.int .u8 0,.int .u8 0,.int .u8 0,.int .i8 0,.int .u8 0],[true,true,true,true,true]⟩:=by kernel_rfl
theorem P9:dh Tryz.prog 45=some ⟨.st [(0,1),(1,1),(2,1),(3,1),(4,1)],5,5,[.int .u8 0,.int .u8 0,.int .u8 0,.int .i8 0,.int .u8 0],[true,true,true,true,true]⟩:=by kernel_rfl
theorem PX:dh Tryz.prog 52=some ⟨.sl 3,1,24,[.nil],[]⟩:=by kernel_rfl
theorem Qe:dh Tryz.prog 53=some ⟨.sl 137,1,24,[.nil],[]⟩:=by kernel_rfl
theorem PQ:dh Tryz.prog 54=some ⟨.st [(0,1),(1,1)],2,32,[.bool false,.nil],[true,true]⟩:=by kernel_rfl
theorem Qc:dh Tryz.prog 55=some ⟨.st [(0,1),(1,1)],2,32,[.bool false,.nil],[true,true]⟩:=by kernel_rfl
theorem PI:dh Tryz.prog 56=some ⟨.st [(0,2),(2,2)],4,64,[.bool false,.nil,.bool false,.nil],[false,false]⟩:=by kernel_rfl
theorem PF:dh Tryz.prog 57=some ⟨.st [(0,2),(2,2)],4,64,[.bool false,.nil,.bool false,.nil],[false,false]⟩:=by kernel_rfl
theorem PL:dh Tryz.prog 59=some ⟨.sl 61,1,24,[.nil],[]⟩:=by kernel_rfl
theorem P2:dh Tryz.prog 60=some ⟨.st [(0,1),(1,4),(5,1),(6,1)],7,112,[.int .i64 0,.bool false,.nil,.bool false,.nil,.str ⟨#[]⟩,.nil],[true,false,true,true]⟩:=by kernel_rfl
theorem PK:dh Tryz.prog 61=some ⟨.st [(0,1),(1,4),(5,1),(6,1)],7,112,[.int .i64 0,.bool false,.nil,.bool false,.nil,.str ⟨#[]⟩,.nil],[true,false,true,true]⟩:=by kernel_rfl
theorem P6:dh Tryz.prog 62=some ⟨.st [(0,1),(1,1),(2,1),(3,1),(4,1)],5,88,[.int .i64 0,.nil,.nil,.nil,.int .i64 0],[true,true,true,true,true]⟩:=by kernel_rfl
theorem PH:dh Tryz.prog 63=some ⟨.st [(0,1),(1,1),(2,1),(3,1),(4,1)],5,88,[.int .i64 0,.nil,.nil,.nil,.int .i64 0],[true,true,true,true,true]⟩:=by kernel_rfl
theorem PD:dh Tryz.prog 64=some ⟨.sl 23,1,24,[.nil],[]⟩:=by kernel_rfl
theorem Qh:dh Tryz.prog 67=some ⟨.st [(0,4),(4,1)],5,88,[.bool false,.nil,.bool false,.nil,.nil],[false,true]⟩:=by kernel_rfl
theorem PR:dh Tryz.prog 68=some ⟨.st [(0,4),(4,1)],5,88,[.bool false,.nil,.bool false,.nil,.nil],[false,true]⟩:=by kernel_rfl
theorem Ql:dh Tryz.prog 98=some ⟨.st [(0,1),(1,1)],2,48,[.nil,.nil],[true,true]⟩:=by kernel_rfl
theorem Qa:dh Tryz.prog 99=some ⟨.st [(0,1),(1,1)],2,48,[.nil,.nil],[true,true]⟩:=by kernel_rfl
theorem Pf:dh Tryz.prog 116=some ⟨.sl 52,1,24,[.nil],[]⟩:=by kernel_rfl
theorem Ps:dh Tryz.prog 120=some ⟨.int .u64,1,8,[.int .u64 0],[]⟩:=by kernel_rfl
theorem Pt:dh Tryz.prog 133=some ⟨.int .u64,1,8,[.int .u64 0],[]⟩:=by kernel_rfl
theorem Pc:dh Tryz.prog 137=some ⟨.int .u32,1,4,[.int .u32 0],[]⟩:=by kernel_rfl
theorem Pp:dh Tryz.prog 144=some ⟨.int .i64,1,8,[.int .i64 0],[]⟩:=by kernel_rfl
theorem Pk:dh Tryz.prog 167=some ⟨.st [(0,1),(1,1)],2,48,[.nil,.nil],[true,true]⟩:=by kernel_rfl
theorem OY:dh Tryz.prog 168=some ⟨.st [(0,1),(1,1)],2,48,[.nil,.nil],[true,true]⟩:=by kernel_rfl
theorem Pn:dh Tryz.prog 181=some ⟨.int .u64,1,8,[.int .u64 0],[]⟩:=by kernel_rfl
theorem y6:fg Tryz.prog T:=by
 intro t X h;unfold T at h
 split at h
 ·cases h;exact T2
 ·cases h;exact T3
 ·cases h;exact T4
 ·cases h;exact T5
 ·cases h;exact T9
 ·cases h;exact PO
 ·cases h;exact P4
 ·cases h;exact Qj
 ·cases h;exact P3
 ·cases h;exact PE
 ·cases h;exact PJ
 ·cases h;exact PN
 ·cases h;exact PM
 ·cases h;exact Qi
 ·cases h;exact P8
 ·cases h;exact P7
 ·cases h;exact Qd
 ·cases h;exact P9
 ·cases h;exact PX
 ·cases h;exact Qe
 ·cases h;exact PQ
 ·cases h;exact Qc
 ·cases h;exact PI
 ·cases h;exact PF
 ·cases h;exact PL
 ·cases h;exact P2
 ·cases h;exact PK
 ·cases h;exact P6
 ·cases h;exact PH
 ·cases h;exact PD
 ·cases h;exact Qh
 ·cases h;exact PR
 ·cases h;exact Ql
 ·cases h;exact Qa
 ·cases h;exact Pf
 ·cases h;exact Ps
 ·cases h;exact Pt
 ·cases h;exact Pc
 ·cases h;exact Pp
 ·cases h;exact Pk
 ·cases h;exact OY
 ·cases h;exact Pn
 cases h
theorem mixed:Tryz.prog.follows .mixedOrders=true:=by kernel_rfl
theorem pw {f:FuncId}{fn:Func}(hf:Tryz.prog.funcs[f]? =some fn)(k:Kp){args:List V}{r:V}(h:vc T Tryz.prog k (Option.get! fn.body) (iS args fn.ntmps) (Jh T fn.results.toList (fun x=>jJ x r)))(hb:fn.body=some (Option.get! fn.body):=by rfl)(hn:(fn.name== "runtime.NumGoroutine")=false:=by decide)(ha:args.length≤fn.ntmps:=by exact Nat.le_of_ble_eq_true rfl)(hk:codeOk k (Option.get! fn.body)=true:=by kernel_rfl):Pr Tryz.prog f args r:=pv y6 mixed hf hb hn args ha k hk r h
theorem fw {f:FuncId}{fn:Func}(hf:Tryz.prog.funcs[f]? =some fn)(k:Kp){args:List V}{B:Bk}(h:vc T Tryz.prog k (Option.get! fn.body) (iS args fn.ntmps) (Gc fn.results.toList B))(hb:fn.body=some (Option.get! fn.body):=by rfl)(hn:(fn.name== "runtime.NumGoroutine")=false:=by decide)(ha:args.length≤fn.ntmps:=by exact Nat.le_of_ble_eq_true rfl)(hk:codeOk k (Option.get! fn.body)=true:=by kernel_rfl)(hB:B.flat:=by exact trivial):Fr Tryz.prog f args B:=yH y6 mixed hf hb hn args ha k hk B hB h
theorem tw {f:FuncId}{fn:Func}(hf:Tryz.prog.funcs[f]? =some fn)(k:Kp){args:List V}{B:Bk}{c:C}(h:vc T Tryz.prog k (Option.get! fn.body) (iS args fn.ntmps) (IA fn.results.toList B c))(hb:fn.body=some (Option.get! fn.body):=by rfl)(hn:(fn.name== "runtime.NumGoroutine")=false:=by decide)(ha:args.length≤fn.ntmps:=by exact Nat.le_of_ble_eq_true rfl)(hk:codeOk k (Option.get! fn.body)=true:=by kernel_rfl)(hB:B.flat:=by exact trivial)(hc:ua c:=by exact trivial):fJ Tryz.prog f args B c:=xF y6 mixed hf hb hn args ha k hk B c hB hc h
theorem mw {f:FuncId}{fn:Func}(hf:Tryz.prog.funcs[f]? =some fn)(k:Kp){args:List V}{B:Bk}{R:V→Bk→Prop}(h:vc T Tryz.prog k (Option.get! fn.body) (iM args B fn.ntmps) (HS fn.results.toList R))(hb:fn.body=some (Option.get! fn.body):=by rfl)(hn:(fn.name== "runtime.NumGoroutine")=false:=by decide)(ha:args.length≤fn.ntmps:=by exact Nat.le_of_ble_eq_true rfl)(hk:codeOk k (Option.get! fn.body)=true:=by kernel_rfl)(hB:B.plain:=by exact trivial):Mc Tryz.prog f args B R:=FA y6 mixed hf hb hn args ha k hk B hB R h
end Go.Proofs.YtgalhjhdgkoemaaGreat
/-
  Natural numbers as lists of 32-bit words, least first.
-/
namespace Go.Eng
def BB:Nat:=4294967296
def val:List Int→Nat
 |[]=>0
 |x::xs=>x.toNat+BB*val xs
def bF (xs:List Int):Prop:=∀x∈xs,0≤x∧x<4294967296
def ak (n:Nat):List Int:=if h:n=0 then[]else((n%BB:Nat):Int)::ak (n/BB)
termination_by n
decreasing_by exact Nat.div_lt_self (by omega) (by decide)
theorem bq:ak 0=[]:=by unfold ak;simp
theorem je {n:Nat}(h:0<n):ak n=((n%BB:Nat):Int)::ak (n/BB):=by
 rw[ak];rw[dif_neg (by omega)]
theorem bF.nil:bF []:=fun _ h=>by simp at h
theorem bF.cons {x:Int}{xs:List Int}(hx:0≤x∧x<4294967296)(h:bF xs):bF (x::xs):=fun y hy=>by
 rcases List.mem_cons.1 hy with rfl|hy
 ·exact hx
 exact h y hy
theorem bF.tail {x:Int}{xs:List Int}(h:bF (x::xs)):bF xs:=fun y hy=>h y (by simp[hy])
theorem bF.head {x:Int}{xs:List Int}(h:bF (x::xs)):0≤x∧x<4294967296:=h x (by simp)
theorem bF.append {xs ys:List Int}(h:bF xs)(h':bF ys):bF (xs++ys):=fun y hy=>by
 rcases List.mem_append.1 hy with hy|hy
 ·exact h y hy
 exact h' y hy
theorem bF.take {xs:List Int}(h:bF xs)(i:Nat):bF (xs.take i):=fun y hy=>h y (List.mem_of_mem_take hy)
theorem bF.drop {xs:List Int}(h:bF xs)(i:Nat):bF (xs.drop i):=fun y hy=>h y (List.mem_of_mem_drop hy)
theorem bF.getD {xs:List Int}(h:bF xs)(i:Nat):0≤xs.getD i 0∧xs.getD i 0<4294967296:=by
 rw[X7]
 cases hi:xs[i]? with
 |none=>simp
 |some x=>exact h x (List.mem_of_getElem? hi)
theorem bF.set {xs:List Int}(h:bF xs)(i:Nat){x:Int}(hx:0≤x∧x<4294967296):bF (xs.set i x):=fun y hy=>by
 rcases List.mem_or_eq_of_mem_set hy with hy|rfl
 ·exact h y hy
 exact hx
theorem bF.replicate (n:Nat):bF (List.replicate n 0):=fun y hy=>by
 rw[(List.mem_replicate.1 hy).2];decide
theorem bF.one {x:Int}(h:0≤x∧x<4294967296):bF [x]:=bF.cons h bF.nil
theorem bF.ak:∀(n:Nat),bF (ak n):=by
 intro n
 induction n using Nat.strongRecOn with
 |_ n ih=>
  by_cases h:n=0
  ·subst h;rw[bq];exact bF.nil
  rw[je (by omega)]
  have:n%BB<4294967296:=Nat.mod_lt n (show BB>0 by decide)
  exact bF.cons ⟨by omega,by omega⟩ (ih _ (Nat.div_lt_self (by omega) (by decide)))
theorem gp:∀(n:Nat),val (ak n)=n:=by
 intro n
 induction n using Nat.strongRecOn with
 |_ n ih=>
  by_cases h:n=0
  ·subst h;rw[bq];rfl
  rw[je (by omega)];simp only[val];rw[ih _ (Nat.div_lt_self (by omega) (by decide))]
  have:=Nat.mod_add_div n BB
  omega
theorem eL:∀(xs ys:List Int),val (xs++ys)=val xs+BB^xs.length*val ys
 |[],ys=>by simp[val]
 |x::xs,ys=>by
  simp only[List.cons_append,val,eL xs ys,List.length_cons,Nat.pow_succ];rw[Nat.mul_add,Nat.mul_comm (BB^xs.length) BB,Nat.mul_assoc];omega
theorem kf:∀{xs:List Int},bF xs→val xs<BB^xs.length
 |[],_=>by simp[val]
 |x::xs,h=>by
  have h1:=kf h.tail;have h2:=h.head;simp only[val,List.length_cons,Nat.pow_succ]
  have:BB*(val xs+1)≤BB*BB^xs.length:=Nat.mul_le_mul_left _ h1
  rw[Nat.mul_comm (BB^xs.length) BB];have h3:x.toNat<BB:=by unfold BB;omega
  rw[Nat.mul_add]at this;omega
theorem cA:∀(n:Nat),val (List.replicate n 0)=0
 |0=>rfl
 |n+1=>by simp[List.replicate_succ,val,cA n]
theorem da:∀{xs:List Int},bF xs→∀i,xs.getD i 0=((val xs/BB^i%BB:Nat):Int)
 |[],_,i=>by simp[val]
 |x::xs,h,0=>by
  have h2:=h.head;have h3:x.toNat<BB:=by unfold BB;omega
  simp only[X0,val,Nat.pow_zero,Nat.div_one,Nat.add_mul_mod_self_left,Nat.mod_eq_of_lt h3];omega
 |x::xs,h,i+1=>by
  have h2:=h.head;have h3:x.toNat<BB:=by unfold BB;omega
  simp only[X1,val];rw[da h.tail i,Nat.pow_succ,Nat.mul_comm (BB^i) BB,←Nat.div_div_eq_div_mul,Nat.add_mul_div_left _ _ (by decide:0<BB),Nat.div_eq_of_lt h3,Nat.zero_add]
theorem uC {xs:List Int}(h:bF xs)(i:Nat):val (xs.take i)=val xs%BB^i:=by
 by_cases hi:i≤xs.length
 ·have e:=eL (xs.take i) (xs.drop i);rw[List.take_append_drop,X5,Nat.min_eq_left hi]at e;have hl:=kf (h.take i);rw[X5,Nat.min_eq_left hi]at hl;rw[e,Nat.add_mul_mod_self_left,Nat.mod_eq_of_lt hl]
 rw[List.take_of_length_le (by omega),Nat.mod_eq_of_lt];exact Nat.lt_of_lt_of_le (kf h) (Nat.pow_le_pow_right (by decide) (by omega))
theorem ie {xs:List Int}(h:bF xs)(i:Nat):val (xs.drop i)=val xs/BB^i:=by
 by_cases hi:i≤xs.length
 ·have e:=eL (xs.take i) (xs.drop i);rw[List.take_append_drop,X5,Nat.min_eq_left hi]at e;have hl:=kf (h.take i);rw[X5,Nat.min_eq_left hi]at hl;rw[e,Nat.add_mul_div_left _ _ (Nat.pow_pos (by decide)),Nat.div_eq_of_lt hl,Nat.zero_add]
 rw[List.drop_of_length_le (by omega),Nat.div_eq_of_lt];rfl;exact Nat.lt_of_lt_of_le (kf h) (Nat.pow_le_pow_right (by decide) (by omega))
theorem dK:∀{xs:List Int} {i:Nat} {x:Int},i<xs.length→val (xs.set i x)+BB^i*(xs.getD i 0).toNat=val xs+BB^i*x.toNat
 |[],i,x,h=>by simp at h
 |y::ys,0,x,_=>by simp[val];omega
 |y::ys,i+1,x,h=>by
  have:=dK (xs:=ys) (i:=i) (x:=x) (by simpa using h)
  simp only[List.set_cons_succ,val,X1,Nat.pow_succ];rw[Nat.mul_comm (BB^i) BB,Nat.mul_assoc,Nat.mul_assoc];have h2:BB*(val (ys.set i x)+BB^i*(ys.getD i 0).toNat)=BB*(val ys+BB^i*x.toNat):=by rw[this]
  rw[Nat.mul_add,Nat.mul_add]at h2;omega
theorem bX:∀{xs:List Int},bF xs→(xs=[]∨xs.getD (xs.length-1) 0≠0)→ak (val xs)=xs
 |[],_,_=>bq
 |[x],h,hl=>by
  have h2:=h.head;have hx:x≠0:=by simpa using hl
  have h3:x.toNat<BB:=by unfold BB;omega
  simp only[val,Nat.mul_zero,Nat.add_zero];rw[je (by omega),Nat.mod_eq_of_lt h3,Nat.div_eq_of_lt h3,bq]
  congr 1;omega
 |x::y::ys,h,hl=>by
  have h2:=h.head;have h3:x.toNat<BB:=by unfold BB;omega
  have ih:=bX h.tail (.inr (by
   rcases hl with hl|hl
   ·cases hl
   simpa using hl))
  have hpos:0<val (y::ys):=by
   rcases Nat.eq_zero_or_pos (val (y::ys))with h0|h0
   ·rw[h0,bq]at ih;cases ih
   exact h0
  have e:val (x::y::ys)=x.toNat+BB*val (y::ys):=rfl;have hp:0<val (x::y::ys):=by
   rw[e]
   have:0<BB*val (y::ys):=Nat.mul_pos (by decide) hpos
   omega
  rw[je hp,e,Nat.add_mul_mod_self_left,Nat.mod_eq_of_lt h3,Nat.add_mul_div_left _ _ (by decide:0<BB),Nat.div_eq_of_lt h3,Nat.zero_add,ih]
  congr 1;omega
theorem o9 {xs:List Int}(h:bF xs)(hl:xs.length=0∨BB^(xs.length-1)≤val xs):ak (val xs)=xs:=by
 refine bX h ?_
 rcases hl with hl|hl
 ·exact .inl (List.length_eq_zero_iff.1 hl)
 by_cases hn:xs=[]
 ·exact .inl hn
 refine .inr fun h0=>?_;have hp:0<xs.length:=List.length_pos_iff.2 hn;rw[da h]at h0;have hv:=kf h;have h1:val xs/BB^(xs.length-1)<BB:=by
  rw[Nat.div_lt_iff_lt_mul (Nat.pow_pos (by decide)),Nat.mul_comm,←Nat.pow_succ,show (xs.length-1).succ=xs.length by omega];exact hv
 rw[Nat.mod_eq_of_lt h1]at h0;have h2:1≤val xs/BB^(xs.length-1):=by
  rw[Nat.le_div_iff_mul_le (Nat.pow_pos (by decide))];omega
 omega
def nl (n:Nat):Nat:=(ak n).length
theorem dR (n:Nat):(ak n).length=nl n:=rfl
theorem tx (n:Nat):(ak n).take (nl n)=ak n:=List.take_length
theorem iO:nl 0=0:=by unfold nl;rw[bq];rfl
theorem aB:∀{k n:Nat},n<BB^k→nl n≤k
 |0,n,h=>by
  have:n=0:=by simpa using h
  subst this;rw[iO];omega
 |k+1,n,h=>by
  by_cases h0:n=0
  ·subst h0;rw[iO];omega
  unfold nl;rw[je (by omega)]
  have:nl (n/BB)≤k:=aB (by rw[Nat.div_lt_iff_lt_mul (by decide),←Nat.pow_succ];exact h)
  unfold nl at this;simp only[List.length_cons];omega
theorem b7 (n:Nat):n<BB^nl n:=by
 have:=kf (bF.ak n)
 rw[gp]at this;exact this
theorem cj {k n:Nat}:nl n≤k↔n<BB^k:=
 ⟨fun h=>Nat.lt_of_lt_of_le (b7 n) (Nat.pow_le_pow_right (by decide) h),aB⟩
theorem bg {m n:Nat}(h:m≤n):nl m≤nl n:=aB (Nat.lt_of_le_of_lt h (b7 n))
theorem dZ {n:Nat}:0<nl n↔0<n:=by
 constructor
 ·intro h
  rcases Nat.eq_zero_or_pos n with h0|h0
  ·subst h0;rw[iO]at h;omega
  exact h0
 intro h
 rcases Nat.eq_zero_or_pos (nl n)with h0|h0
 ·have:=b7 n
  rw[h0]at this;simp at this;omega
 exact h0
theorem fI {n:Nat}:nl n=0↔n=0:=by
 have:=dZ (n:=n);omega
theorem uV {n:Nat}(h:0<n):BB^(nl n-1)≤n:=by
 rcases Nat.lt_or_ge n (BB^(nl n-1))with h1|h1
 ·have:=aB h1
  have:=dZ.2 h
  omega
 exact h1
theorem iE (m n:Nat):nl (m*n)≤nl m+nl n:=by
 apply aB
 rw[Nat.pow_add];exact Nat.mul_lt_mul'' (b7 m) (b7 n)
theorem uY (m n:Nat):nl (m+n)≤max (nl m) (nl n)+1:=by
 apply aB
 rw[Nat.pow_succ];have h1:m<BB^max (nl m) (nl n):=cj.1 (Nat.le_max_left _ _);have h2:n<BB^max (nl m) (nl n):=cj.1 (Nat.le_max_right _ _);have h3:BB^max (nl m) (nl n)*2≤BB^max (nl m) (nl n)*BB:=Nat.mul_le_mul_left _ (by decide);omega
open Go
theorem wI (i:Nat)(h:i+1<9223372036854775808):IntKind.i64.wrap ((i:Int)+1)=((i+1:Nat):Int):=by rw[Go.IntWalk.i64_in _ (by omega)];omega
set_option linter.defProp false in
def vx:=And.intro vcs (And.intro Qb (And.intro PA (And.intro Py (And.intro PG (And.intro @dR (And.intro @tx (And.intro @Nat.min_def (And.intro @IntKind.bits.eq_1 (And.intro @IntKind.bits.eq_2 (And.intro @IntKind.bits.eq_3 (And.intro @IntKind.bits.eq_4 (And.intro @IntKind.bits.eq_5 (And.intro @IntKind.bits.eq_6 (And.intro @IntKind.bits.eq_7 (@IntKind.bits.eq_8)))))))))))))))
set_option linter.defProp false in
def rx:=And.intro PA (And.intro Py (And.intro PU (And.intro @dR (@tx))))
set_option linter.defProp false in
def ry:=And.intro rx (And.intro @Y0.eq_1 (And.intro @Y0.eq_2 (And.intro @Y1.eq_1 (And.intro @Y1.eq_2 (And.intro @Y1.eq_3 (And.intro @Y1.eq_4 (And.intro @Y1.eq_5 (And.intro @Y1.eq_6 (And.intro @Y2.eq_1 (And.intro @Y2.eq_2 (And.intro @Y2.eq_3 (And.intro @Y2.eq_4 (And.intro @Y2.eq_5 (And.intro @Y2.eq_6 (And.intro @Y2.eq_7 (And.intro @Y2.eq_8 (And.intro @Y2.eq_9 (And.intro @Y2.eq_10 (And.intro @Y2.eq_11 (And.intro @Y2.eq_12 (And.intro @Y2.eq_13 (And.intro @Y2.eq_14 (And.intro @Y2.eq_15 (And.intro @Y2.eq_16 (And.intro @Y2.eq_17 (And.intro @Y2.eq_18 (And.intro @Y2.eq_19 (And.intro @Y2.eq_20 (And.intro @Y2.eq_21 (And.intro @Y2.eq_22 (And.intro @Y2.eq_23 (And.intro @Y3.eq_1 (And.intro @Y3.eq_2 (And.intro @Y3.eq_3 (And.intro @Y4.eq_1 (And.intro @Y4.eq_2 (And.intro @Y5.eq_1 (And.intro @Y5.eq_2 (And.intro @Y5.eq_3 (And.intro @Y5.eq_4 (And.intro @Y5.eq_5 (And.intro @Y5.eq_6 (And.intro @Y6.eq_1 (And.intro @Y6.eq_2 (And.intro @Y7.eq_1 (And.intro @Y7.eq_2 (And.intro @Y7.eq_3 (And.intro @vk.eq_1 (@vk.eq_2)))))))))))))))))))))))))))))))))))))))))))))))))
set_option linter.defProp false in
def rz:=And.intro @Y8.eq_1 (And.intro @Y8.eq_2 (And.intro @Y9.eq_1 (And.intro @Y9.eq_2 (And.intro @Y9.eq_3 (And.intro @Y9.eq_4 (And.intro @Y9.eq_5 (And.intro @Y9.eq_6 (And.intro @X2 (And.intro @X3 (@X4))))))))))
set_option linter.defProp false in
def iz:=And.intro @iS.eq_1 (And.intro @iM.eq_def (And.intro @eO.eq_1 (And.intro @eO.eq_2 (@Option.get!.eq_1.{0}))))
end Go.Eng
namespace Go.Proofs.YtgalhjhdgkoemaaGreat
open Go Go.Eng
theorem uh {ys:List Int}(h:bF ys)(h0:0<ys.length)(hl:ys.getD (ys.length-1) 0=0):val (ys.take (ys.length-1))=val ys:=by
 have e:=eL (ys.take (ys.length-1)) (ys.drop (ys.length-1));rw[List.take_append_drop]at e;have h1:ys.drop (ys.length-1)=[0]:=by
  rw[X7,X8 (by omega)]at hl;rw[List.drop_eq_getElem_cons (by omega),List.drop_of_length_le (by omega)]
  simpa using hl
 rw[h1]at e
 simp[val]at e
 exact e.symm
theorem df (xs:List Int)(hr:bF xs)(hx:xs.length<2^62):Pr Tryz.prog 138 [.one (.ints .u32 xs)] (.one (.ints .u32 (ak (val xs)))):=by
 refine pw Tryz.func138 ⟨[0,2,14],[]⟩ ?_;simp only[Tryz.f138,Tryz.ntmps138,iz,seval];simp only[vx,T,seval];refine Lk (fun ys:{l:List Int//l.length<2^62∧bF l∧val l=val xs}=>⟨[(0,.one (.ints .u32 ys))],[],3,21⟩) (fun ys=>ys.1.length) ⟨xs,hx,hr,rfl⟩ ?_ (fun⟨ys,hy,hyr,hyv⟩=>?_)
 ·refine Sa ?_;simp only[ry,seval,rz]
 simp only[vx,T,seval];refine⟨fun h=>Lg ?_,fun h=>Lg ?_⟩
 ·simp only[vx,T,seval];rw[IntWalk.i64_in _ (by omega)];refine⟨by omega,?_⟩;refine⟨fun h=>Lg ?_,fun h=>Lg ?_⟩
  ·simp only[vx,T,seval];rw[IntWalk.i64_in _ (by omega)];refine⟨by omega,Lq ⟨ys.take (ys.length-1),by simp;omega,hyr.take _,?_⟩ ?_ ?_⟩
   ·rw[uh hyr (by omega) (by rw[show ys.length-1=((ys.length:Int)-1).toNat by omega];exact h),hyv]
   ·refine Sa ?_;simp only[ry,seval,rz];rw[show ((ys.length:Int)-1).toNat=ys.length-1 by omega]
   simp;omega
  simp only[vx,T,seval];refine Ve ?_;rw[←hyv,bX hyr (.inr (by rw[show ys.length-1=((ys.length:Int)-1).toNat by omega];exact h))]
 simp only[vx,T,seval];refine Ve ?_;rw[←hyv,bX hyr (.inl (List.length_eq_zero_iff.1 (by omega)))]
theorem bO (xs:List Int)(hr:bF xs)(hx:xs.length<2^62):Pr Tryz.prog 157 [.one (.ints .u32 xs)] (.one (.ints .u32 (ak (val xs)))):=by
 refine pw Tryz.func157 ⟨[0,2,14],[]⟩ ?_;simp only[Tryz.f157,Tryz.ntmps157,iz,seval];simp only[vx,T,seval];refine Lk (fun ys:{l:List Int//l.length<2^62∧bF l∧val l=val xs}=>⟨[(0,.one (.ints .u32 ys))],[],3,21⟩) (fun ys=>ys.1.length) ⟨xs,hx,hr,rfl⟩ ?_ (fun⟨ys,hy,hyr,hyv⟩=>?_)
 ·refine Sa ?_;simp only[ry,seval,rz]
 simp only[vx,T,seval];refine⟨fun h=>Lg ?_,fun h=>Lg ?_⟩
 ·simp only[vx,T,seval];rw[IntWalk.i64_in _ (by omega)];refine⟨by omega,?_⟩;refine⟨fun h=>Lg ?_,fun h=>Lg ?_⟩
  ·simp only[vx,T,seval];rw[IntWalk.i64_in _ (by omega)];refine⟨by omega,Lq ⟨ys.take (ys.length-1),by simp;omega,hyr.take _,?_⟩ ?_ ?_⟩
   ·rw[uh hyr (by omega) (by rw[show ys.length-1=((ys.length:Int)-1).toNat by omega];exact h),hyv]
   ·refine Sa ?_;simp only[ry,seval,rz];rw[show ((ys.length:Int)-1).toNat=ys.length-1 by omega]
   simp;omega
  simp only[vx,T,seval];refine Ve ?_;rw[←hyv,bX hyr (.inr (by rw[show ys.length-1=((ys.length:Int)-1).toNat by omega];exact h))]
 simp only[vx,T,seval];refine Ve ?_;rw[←hyv,bX hyr (.inl (List.length_eq_zero_iff.1 (by omega)))]
theorem wH (n:Nat):bF [IntKind.u32.wrap n,IntKind.u32.wrap ((n:Int).fdiv 4294967296)]:=by
 refine bF.cons ?_ (bF.one ?_)<;>(rw[IntKind.wrap_u32];omega)
theorem vU {n:Nat}(hn:n<2^64):val [IntKind.u32.wrap n,IntKind.u32.wrap ((n:Int).fdiv 4294967296)]=n:=by
 simp only[val,IntKind.wrap_u32,BB];rw[Int.fdiv_eq_ediv_of_nonneg _ (by decide)];have h1:((n:Int)%4294967296).toNat=n%4294967296:=by omega
 have h2:((n:Int)/4294967296%4294967296).toNat=n/4294967296:=by omega
 rw[h1,h2];omega
theorem cZ (n:Nat)(hn:n<2^64):Pr Tryz.prog 158 [.one (.int .u64 n)] (.one (.ints .u32 (ak n))):=by
 refine pw Tryz.func158 ⟨[0,2],[]⟩ ?_;simp only[Tryz.f158,Tryz.ntmps158,iz,seval];simp only[vx,T,seval];refine Cg (df _ (wH n) (by simp)) ?_;rw[vU hn];simp only[vx,T,seval];refine Va ?_;simp only[cO,aV,ry,seval]
theorem ig (n:Nat)(hn:n<2^64):Pr Tryz.prog 107 [.one (.int .u64 n)] (.one (.ints .u32 (ak n))):=by
 refine pw Tryz.func107 ⟨[0,2],[]⟩ ?_;simp only[Tryz.f107,Tryz.ntmps107,iz,seval];simp only[vx,T,seval];refine Cg (bO _ (wH n) (by simp)) ?_;rw[vU hn];simp only[vx,T,seval];refine Va ?_;simp only[cO,aV,ry,seval]
theorem jx {n:Nat}(h:(nl n:Int)=0):n=0:=fI.1 (by omega)
theorem vm {n:Nat}(h:¬(nl n:Int)=0):0<n:=dZ.1 (by omega)
theorem xg (b:Bool)(xs:List Int)(hr:bF xs)(hx:xs.length<2^62):Pr Tryz.prog 136 [.one (.bool b),.one (.ints .u32 xs)] (.agg [.bool (b&&decide (0<val xs)),.ints .u32 (ak (val xs))]):=by
 refine pw Tryz.func136 ⟨[0,1,4,9],[]⟩ ?_;simp only[Tryz.f136,Tryz.ntmps136,iz,seval];simp only[vx,T,seval];refine Cg (df xs hr hx) ?_;simp only[vx,T,seval];refine⟨fun h=>Lg ?_,fun h=>Lg ?_⟩
 ·simp only[vx,T,seval];have h0:=jx h;refine Va ?_;simp only[cO,aV,ry,seval,h0,bq,Nat.lt_irrefl]
 simp only[vx,T,seval];have h0:=vm h;refine Va ?_;simp only[cO,aV,ry,seval,h0]
theorem pk (b:Bool)(xs:List Int)(hr:bF xs)(hx:xs.length<2^62):Pr Tryz.prog 106 [.one (.bool b),.one (.ints .u32 xs)] (.agg [.bool (b&&decide (0<val xs)),.ints .u32 (ak (val xs))]):=by
 refine pw Tryz.func106 ⟨[0,1,4],[]⟩ ?_;simp only[Tryz.f106,Tryz.ntmps106,iz,seval];simp only[vx,T,seval];refine Cg (bO xs hr hx) ?_;simp only[vx,T,seval];refine⟨fun h0=>Lg ?_,fun h0=>Lg ?_⟩
 ·subst h0;simp only[vx,T,seval]
  by_cases h:0<val xs
  ·have h1:=dZ.2 h;refine Va ?_;simp only[cO,aV,ry,seval,h,decide_true,Bool.true_and,Int.natCast_pos,h1]
  have h1:val xs=0:=by omega
  refine Va ?_;simp only[cO,aV,ry,seval,h1,bq,iO,Nat.lt_irrefl,X4,Int.lt_irrefl]
 subst h0;simp only[vx,T,seval];refine Va ?_;simp only[cO,aV,ry,seval]
open Go Go.Eng
def ef (x y:Int):Int:=if x<y then-1 else if y<x then 1 else 0
theorem gO {x y:Int}(h:x<y):ef x y= -1:=if_pos h
theorem iJ {x y:Int}(h:y<x):ef x y=1:=by unfold ef;rw[if_neg (by omega),if_pos h]
theorem pe {x y:Int}(h:x=y):ef x y=0:=by unfold ef;rw[if_neg (by omega),if_neg (by omega)]
theorem lG (n i:Nat):(ak n).getD i 0=((n/BB^i%BB:Nat):Int):=by
 rw[da (bF.ak n),gp]
theorem pN {m n i:Nat}(h:m/BB^(i+1)=n/BB^(i+1))(hd:m/BB^i%BB<n/BB^i%BB):m<n:=by
 have e:∀x:Nat,x/BB^(i+1)=x/BB^i/BB:=fun x=>by rw[Nat.pow_succ,Nat.div_div_eq_div_mul]
 rw[e,e]at h;have h1:=Nat.div_add_mod (m/BB^i) BB;have h2:=Nat.div_add_mod (n/BB^i) BB;rw[h]at h1
 rcases Nat.lt_or_ge m n with h3|h3
 ·exact h3
 have:=Nat.div_le_div_right (c:=BB^i) h3
 omega
theorem zD {m n i:Nat}(h:m/BB^(i+1)=n/BB^(i+1))(hd:m/BB^i%BB=n/BB^i%BB):m/BB^i=n/BB^i:=by
 have e:∀x:Nat,x/BB^(i+1)=x/BB^i/BB:=fun x=>by rw[Nat.pow_succ,Nat.div_div_eq_div_mul]
 rw[e,e]at h;have h1:=Nat.div_add_mod (m/BB^i) BB;have h2:=Nat.div_add_mod (n/BB^i) BB;rw[h,hd]at h1;omega
theorem lf {m k:Nat}(h:nl m≤k):m/BB^k=0:=Nat.div_eq_of_lt (cj.1 h)
theorem mz (x:Int):Pr Tryz.prog 175 [.one (.int .i64 x)] (.one (.bool false)):=by
 refine pw Tryz.func175 ⟨[0,2],[]⟩ ?_;simp only[Tryz.f175,Tryz.ntmps175,iz,seval];simp only[vx,T,seval];refine Va ?_;simp only[cO,aV,ry,seval,not_true_eq_false,decide_false]
theorem eY (x y:Int):Pr Tryz.prog 120 [.one (.int .i64 x),.one (.int .i64 y)] (.one (.int .i64 (ef x y))):=by
 refine pw Tryz.func120 ⟨[0,1,4,5,6,11,12,13,16,19],[]⟩ ?_;simp only[Tryz.f120,Tryz.ntmps120,iz,seval];simp only[vx,T,seval];refine Cg (mz _) ?_;simp only[vx,T,seval];refine Cg (mz _) ?_;simp only[vx,T,seval];refine⟨fun h=>Lg ?_,fun h=>Lg ?_⟩
 ·simp only[vx,T,seval];refine Va ?_;simp only[cO,aV,ry,seval,gO h]
 simp only[vx,T,seval];refine⟨fun h'=>Lg ?_,fun h'=>Lg ?_⟩
 ·simp only[vx,T,seval];refine Va ?_;simp only[cO,aV,ry,seval,iJ h']
 simp only[vx,T,seval];refine Va ?_;simp only[cO,aV,ry,seval,pe (show x=y by omega)]
theorem mH (x:Int):Pr Tryz.prog 237 [.one (.int .u32 x)] (.one (.bool false)):=by
 refine pw Tryz.func237 ⟨[0,2],[]⟩ ?_;simp only[Tryz.f237,Tryz.ntmps237,iz,seval];simp only[vx,T,seval];refine Va ?_;simp only[cO,aV,ry,seval,not_true_eq_false,decide_false]
theorem qM (x y:Int):Pr Tryz.prog 214 [.one (.int .u32 x),.one (.int .u32 y)] (.one (.int .i64 (ef x y))):=by
 refine pw Tryz.func214 ⟨[0,1,4,5,6,11,12,13,16,19],[]⟩ ?_;simp only[Tryz.f214,Tryz.ntmps214,iz,seval];simp only[vx,T,seval];refine Cg (mH _) ?_;simp only[vx,T,seval];refine Cg (mH _) ?_;simp only[vx,T,seval];refine⟨fun h=>Lg ?_,fun h=>Lg ?_⟩
 ·simp only[vx,T,seval];refine Va ?_;simp only[cO,aV,ry,seval,gO h]
 simp only[vx,T,seval];refine⟨fun h'=>Lg ?_,fun h'=>Lg ?_⟩
 ·simp only[vx,T,seval];refine Va ?_;simp only[cO,aV,ry,seval,iJ h']
 simp only[vx,T,seval];refine Va ?_;simp only[cO,aV,ry,seval,pe (show x=y by omega)]
theorem C3 {m n:Nat}(h:¬(nl m:Int)=nl n):ef (nl m) (nl n)=ef m n:=by
 rcases Nat.lt_trichotomy m n with h1|h1|h1
 ·have:=bg (Nat.le_of_lt h1)
  rw[gO (by omega),gO (by omega)]
 ·subst h1;exact absurd rfl h
 have:=bg (Nat.le_of_lt h1)
 rw[iJ (by omega),iJ (by omega)]
theorem gR (m n:Nat)(hm:nl m<2^62)(hn:nl n<2^62):Pr Tryz.prog 177 [.one (.ints .u32 (ak m)),.one (.ints .u32 (ak n))] (.one (.int .i64 (ef m n))):=by
 refine pw Tryz.func177 ⟨[0,1,4,5,10,20,31],[]⟩ ?_;simp only[Tryz.f177,Tryz.ntmps177,iz,seval];simp only[vx,T,seval];refine⟨fun h=>Lg ?_,fun h=>Lg ?_⟩
 ·simp only[vx,T,seval];refine Cg (eY _ _) ?_;simp only[vx,T,seval];refine Va ?_;simp only[cO,aV,ry,seval,C3 h]
 simp only[vx,T,seval];rw[IntWalk.i64_in _ (by omega)];refine Lk (fun i:{i:Nat//i≤nl m∧m/BB^i=n/BB^i}=>⟨[(0,.one (.ints .u32 (ak m))),(1,.one (.ints .u32 (ak n))),(5,.one (.int .i64 ((i.1:Int)-1)))],[],3,41⟩) (fun i=>i.1) ⟨nl m,Nat.le_refl _,by rw[lf (Nat.le_refl _),lf (by omega)]⟩ ?_ (fun⟨i,hi,hd⟩=>?_)
 ·refine Sa ?_;simp only[ry,seval,rz]
 simp only[vx,T,seval];refine⟨fun hi0=>Lg ?_,fun hi0=>Lg ?_⟩
 ·obtain⟨j,rfl⟩:∃j,i=j+1:=⟨i-1,by omega⟩;simp only[show ((j+1:Nat):Int)-1=(j:Int) by omega,Int.toNat_natCast]at hi0⊢;simp only[vx,T,seval];refine⟨by omega,by omega,?_⟩;refine⟨fun hdig=>Lg ?_,fun hdig=>Lg ?_⟩
  ·simp only[vx,T,seval];refine⟨by omega,by omega,Cg (qM _ _) ?_⟩;simp only[vx,T,seval];simp only[lG]at hdig⊢;refine Ve ?_
   rcases Nat.lt_or_ge (m/BB^j%BB) (n/BB^j%BB)with h1|h1
   ·rw[gO (by omega),gO (by have:=pN hd h1;omega)]
   rw[iJ (by omega),iJ (by have:=pN (m:=n) (n:=m) hd.symm (by omega);omega)]
  simp only[vx,T,seval];simp only[lG]at hdig;rw[IntWalk.i64_in _ (by omega)];refine Lq ⟨j,by omega,zD hd (by omega)⟩ ?_ ?_
  ·refine Sa ?_;simp only[ry,seval,rz]
  simp
 have h0:i=0:=by omega
 subst h0;simp only[vx,T,seval];have h0:m=n:=by simpa using hd
 refine Va ?_;simp only[cO,aV,ry,seval,pe (show(m:Int)=n by omega)]
theorem fu (m n:Nat)(hm:nl m<2^62)(hn:nl n<2^62):Pr Tryz.prog 189 [.one (.ints .u32 (ak m)),.one (.ints .u32 (ak n))] (.one (.int .i64 (ef m n))):=by
 refine pw Tryz.func189 ⟨[0,1,4,5,10,15,20,31,40],[]⟩ ?_;simp only[Tryz.f189,Tryz.ntmps189,iz,seval];simp only[vx,T,seval];refine⟨fun h=>Lg ?_,fun h=>Lg ?_⟩
 ·simp only[vx,T,seval];rw[←C3 h];refine⟨fun h1=>Lg ?_,fun h1=>Lg ?_⟩
  ·simp only[vx,T,seval];refine Va ?_;simp only[cO,aV,ry,seval,gO h1]
  simp only[vx,T,seval];refine Va ?_;simp only[cO,aV,ry,seval,iJ (show(nl n:Int)<nl m by omega)]
 simp only[vx,T,seval];rw[IntWalk.i64_in _ (by omega)];refine Lk (fun i:{i:Nat//i≤nl m∧m/BB^i=n/BB^i}=>⟨[(0,.one (.ints .u32 (ak m))),(1,.one (.ints .u32 (ak n))),(5,.one (.int .i64 ((i.1:Int)-1)))],[],3,41⟩) (fun i=>i.1) ⟨nl m,Nat.le_refl _,by rw[lf (Nat.le_refl _),lf (by omega)]⟩ ?_ (fun⟨i,hi,hd⟩=>?_)
 ·refine Sa ?_;simp only[ry,seval,rz]
 simp only[vx,T,seval];refine⟨fun hi0=>Lg ?_,fun hi0=>Lg ?_⟩
 ·obtain⟨j,rfl⟩:∃j,i=j+1:=⟨i-1,by omega⟩;simp only[show ((j+1:Nat):Int)-1=(j:Int) by omega,Int.toNat_natCast]at hi0⊢;simp only[vx,T,seval];refine⟨by omega,by omega,?_⟩;refine⟨fun hdig=>Lg ?_,fun hdig=>Lg ?_⟩
  ·simp only[vx,T,seval];simp only[lG]at hdig;have hlt:(m:Int)<n:=by have:=pN hd (show m/BB^j%BB<n/BB^j%BB by omega);omega
   refine Va ?_;simp only[cO,aV,ry,seval,gO hlt]
  simp only[vx,T,seval];refine⟨by omega,by omega,?_⟩;refine⟨fun hdig2=>Lg ?_,fun hdig2=>Lg ?_⟩
  ·simp only[vx,T,seval];simp only[lG]at hdig2;have hlt:(n:Int)<m:=by have:=pN (m:=n) (n:=m) hd.symm (show n/BB^j%BB<m/BB^j%BB by omega);omega
   refine Va ?_;simp only[cO,aV,ry,seval,iJ hlt]
  simp only[vx,T,seval];simp only[lG]at hdig hdig2;rw[IntWalk.i64_in _ (by omega)];refine Lq ⟨j,by omega,zD hd (by omega)⟩ ?_ ?_
  ·refine Sa ?_;simp only[ry,seval,rz]
  simp
 have h0:i=0:=by omega
 subst h0;simp only[vx,T,seval];have h0:m=n:=by simpa using hd
 refine Va ?_;simp only[cO,aV,ry,seval,pe (show(m:Int)=n by omega)]
open Go Go.Eng
theorem CF {P v c A B' s x y:Nat}(h:v+P*c=A+B')(hs:s=c+x+y):(v+P*(s%BB))+(P*BB)*(s/BB)=(A+P*x)+(B'+P*y):=by
 have h1:P*s=P*(BB*(s/BB))+P*(s%BB):=by rw[←Nat.mul_add,Nat.div_add_mod]
 have h2:(P*BB)*(s/BB)=P*(BB*(s/BB)):=Nat.mul_assoc _ _ _;have h3:P*s=P*c+P*x+P*y:=by rw[hs,Nat.mul_add,Nat.mul_add]
 omega
theorem eJ (x i:Nat):x%BB^(i+1)=x%BB^i+BB^i*(x/BB^i%BB):=Nat.mod_pow_succ
theorem gT {x k:Nat}(h:nl x≤k):x%BB^k=x:=Nat.mod_eq_of_lt (cj.1 h)
theorem iY {x k:Nat}(h:nl x≤k):x/BB^k%BB=0:=by rw[lf h];rfl
theorem aA (s:Nat):IntKind.u32.wrap (s:Int)=((s%BB:Nat):Int):=by
 rw[IntKind.wrap_u32,Int.natCast_emod];rfl
theorem aE (s:Nat):(s:Int).fdiv 4294967296=((s/BB:Nat):Int):=by
 rw[Int.fdiv_eq_ediv_of_nonneg _ (by decide),Int.natCast_ediv];rfl
theorem bd (s:Nat):s%BB<4294967296:=Nat.mod_lt _ (by decide)
theorem bF.digit (s:Nat):bF [((s%BB:Nat):Int)]:=bF.one ⟨by omega,by have:=bd s;omega⟩
theorem val_one (x:Nat):val [(x:Int)]=x:=by simp[val]
structure cR (a b i:Nat) (os:List Int) (c:Nat):Prop where
 le:i≤nl a
 inr:bF (os.take i)
 len:i≤os.length
 eq:val (os.take i)+BB^i*c=a%BB^i+b%BB^i
 c:c≤1
theorem cR.step {a b i:Nat}{os:List Int}{c s:Nat}(h:cR a b i os c)(hi:i<nl a)(hs:s=c+a/BB^i%BB+b/BB^i%BB):cR a b (i+1) (os.take i++[((s%BB:Nat):Int)]) (s/BB):=by
 have hlen:(os.take i).length=i:=by have:=h.len;simp;omega
 have ht:(os.take i++[((s%BB:Nat):Int)]).take (i+1)=os.take i++[((s%BB:Nat):Int)]:=List.take_of_length_le (by rw[X6,hlen];simp);refine⟨hi,?_,?_,?_,?_⟩
 ·rw[ht];exact h.inr.append (bF.digit s)
 ·rw[X6,hlen];simp
 ·rw[ht,eL,hlen,val_one,eJ a,eJ b,Nat.pow_succ];exact CF h.eq hs
 have h1:=bd (a/BB^i);have h2:=bd (b/BB^i);have h3:=h.c
 have:s/BB<2:=by rw[Nat.div_lt_iff_lt_mul (by decide)];unfold BB at*;omega
 omega
theorem cR.sum {a b:Nat}{os:List Int}{c:Nat}(hb:nl b≤nl a)(h:cR a b (nl a) os c):val (os.take (nl a))+BB^nl a*c=a+b:=by
 have:=h.eq
 rw[gT (Nat.le_refl _),gT hb]at this;exact this
theorem cR.OB {a b:Nat}{os:List Int}(hb:nl b≤nl a)(h:cR a b (nl a) os 0):os.take (nl a)=ak (a+b):=by
 have hs:=h.sum hb;have hlen:(os.take (nl a)).length=nl a:=by have:=h.len;simp;omega
 simp only[Nat.mul_zero,Nat.add_zero]at hs;rw[←hs]
 refine(o9 h.inr ?_).symm
 rw[hlen,hs]
 rcases Nat.eq_zero_or_pos a with h0|h0
 ·left;subst h0;exact iO
 right;have:=uV h0;omega
theorem cR.OE {a b:Nat}{os:List Int}{c:Nat}(hb:nl b≤nl a)(h:cR a b (nl a) os c)(hc:0<c):os.take (nl a)++[((c%BB:Nat):Int)]=ak (a+b):=by
 have hs:=h.sum hb;have hlen:(os.take (nl a)).length=nl a:=by have:=h.len;simp;omega
 have h1:c=1:=by have:=h.c;omega
 subst h1;have e:val (os.take (nl a)++[((1%BB:Nat):Int)])=a+b:=by rw[eL,val_one,hlen];exact hs
 rw[←e]
 refine(o9 (h.inr.append (bF.digit 1)) (.inr ?_)).symm
 rw[e,X6,hlen,←hs]
 simp
theorem wm (swap:Bool)(a b:Nat)(hab:nl b≤nl a)(hsw:swap=true→nl b<nl a)(ha:nl a<2^40):Pr Tryz.prog 176 [.one (.ints .u32 (ak (if swap then b else a))),.one (.ints .u32 (ak (if swap then a else b)))] (.one (.ints .u32 (ak (a+b)))):=by
 refine pw Tryz.func176 ⟨[0,1,4,5,6,7,8,13,20,21,22,23,34,51],[]⟩ ?_;simp only[Tryz.f176,Tryz.ntmps176,iz,seval]
 cases swap
 case' false=>have hlt:((nl a:Int)<nl b)=False:=by simp;omega
 case' true=>have hlt:((nl b:Int)<nl a)=True:=by have:=hsw rfl;simp;omega
 all_goals
  simp only[vx,T,seval,hlt];rw[IntWalk.i64_in _ (by omega)];refine⟨⟨by omega,by omega,by omega⟩,Lk (fun i:{i:Nat×List Int×Nat//cR a b i.1 i.2.1 i.2.2}=>⟨[(0,.one (.ints .u32 (ak a))),(1,.one (.ints .u32 (ak b))),(5,.one (.own 1 1 0 i.1.1)),(6,.one (.int .u64 i.1.2.2)),(20,.one (.ints .u32 (ak a))),(21,.one (.int .i64 (nl a))),(22,.one (.int .i64 i.1.1))],[(1,⟨.ints 137 .u32 i.1.2.1,true⟩)],3,58⟩) (fun i=>nl a-i.1.1) ⟨(0,List.replicate ((nl a:Int)+1).toNat 0,0),Nat.zero_le _,bF.nil,Nat.zero_le _,by simp[val,Nat.mod_one],Nat.zero_le _⟩ ?_ (fun⟨⟨i,os,c⟩,hi⟩=>?_)⟩
  ·refine Sa ?_;simp only[ry,seval,rz]
  have h1:=hi.le;have h2:=hi.len;have h3:=hi.c;simp only at h1 h2 h3;simp only[vx,T,seval];refine⟨fun h=>Lg ?_,fun h=>Lg ?_⟩
  ·simp only[vx,T,seval];refine⟨⟨by omega,by omega⟩,?_⟩;have hlen:(os.take i).length=i:=by simp;omega
   have hx:=bd (a/BB^i);have hy:=bd (b/BB^i)
   simp(disch:=omega) only[lG,←X2,←Int.natCast_mul,Int.toNat_natCast,IntWalk.i64_in,IntWalk.u64_in,aA,aE,true_and,and_true]
   refine⟨fun h'=>Lg ?_,fun h'=>Lg ?_⟩
   ·simp only[vx,T,seval];refine⟨⟨by omega,by omega⟩,?_⟩
    simp(disch:=omega) only[lG,←X2,←Int.natCast_mul,Int.toNat_natCast,IntWalk.i64_in,IntWalk.u64_in,aA,aE,true_and,and_true,hlen,X6]
    refine⟨by omega,Lq ⟨(i+1,_,_),hi.step (by omega) rfl⟩ ?_ ?_⟩
    ·refine Sa ?_;simp only[ry,seval,rz,hlen,X6]
    simp only;omega
   simp only[vx,T,seval];have hy0:=iY (x:=b) (k:=i) (by omega)
   simp(disch:=omega) only[lG,←X2,←Int.natCast_mul,Int.toNat_natCast,IntWalk.i64_in,IntWalk.u64_in,aA,aE,true_and,and_true,hlen,X6]
   refine⟨by omega,Lq ⟨(i+1,_,_),hi.step (s:=c+a/BB^i%BB) (by omega) (by rw[hy0];rfl)⟩ ?_ ?_⟩
   ·refine Sa ?_;simp only[ry,seval,rz,hlen,X6]
   simp only;omega
  simp only[vx,T,seval];have hia:i=nl a:=by omega
  subst hia;refine⟨fun h'=>Lg ?_,fun h'=>Lg ?_⟩
  ·simp only[vx,T,seval];simp only[aA];refine⟨by simp;omega,?_⟩;have hd1:=hi.OE hab (by simp only;omega);refine Va ?_;simp only[cO,aV,ry,seval,hd1]
  simp only[vx,T,seval];have hc0:c=0:=by omega
  subst hc0;have hd0:=hi.OB hab;refine Va ?_;simp only[cO,aV,ry,seval,hd0]
open Go Go.Eng
theorem oK (m n:Nat)(hm:nl m<2^40)(hn:nl n<2^40):Pr Tryz.prog 176 [.one (.ints .u32 (ak m)),.one (.ints .u32 (ak n))] (.one (.ints .u32 (ak (m+n)))):=by
 rcases Nat.lt_or_ge (nl m) (nl n)with h|h
 ·have:=wm true n m (by omega) (fun _=>h) hn
  rw[Nat.add_comm];exact this
 exact wm false m n h (fun h=>by cases h) hm
theorem gV {os:List Int}{i:Nat}{d:Int}(h:i<os.length):(os.set i d).take (i+1)=os.take i++[d]:=by
 rw[List.take_set,List.take_succ_eq_append_getElem h,List.set_append_right _ _ (by simp;omega)]
 have:i-(os.take i).length=0:=by simp;omega
 rw[this];rfl
theorem cR.I9 {a b i:Nat}{os os':List Int}{c:Nat}(h:cR a b i os c)(he:os'.take i=os.take i)(hl:i≤os'.length):cR a b i os' c:=
 ⟨h.le,by rw[he];exact h.inr,hl,by rw[he];exact h.eq,h.c⟩
theorem cR.put {a b i:Nat}{os:List Int}{c s:Nat}(h:cR a b i os c)(hi:i<nl a)(hl:i<os.length)(hs:s=c+a/BB^i%BB+b/BB^i%BB):cR a b (i+1) (os.set i ((s%BB:Nat):Int)) (s/BB):=
 (h.step hi hs).I9 (by rw[gV hl,List.take_of_length_le (l:=os.take i++_) (by simp;omega)]) (by simp;omega)
theorem cR.last {a b:Nat}{os:List Int}{c:Nat}(hb:nl b≤nl a)(h:cR a b (nl a) os c)(hl:os.length=nl a+1):val (os.set (nl a) ((c%BB:Nat):Int))=a+b∧bF (os.set (nl a) ((c%BB:Nat):Int)):=by
 have e:os.set (nl a) ((c%BB:Nat):Int)=os.take (nl a)++[((c%BB:Nat):Int)]:=by
  rw[←gV (by omega),List.take_of_length_le (by simp;omega)]
 have h1:c%BB=c:=Nat.mod_eq_of_lt (by have:=h.c;unfold BB;omega);have hlen:(os.take (nl a)).length=nl a:=by simp;omega
 refine⟨?_,by rw[e];exact h.inr.append (bF.digit c)⟩;rw[e,eL,val_one,h1,hlen];exact h.sum hb
theorem wx (swap:Bool)(a b:Nat)(hab:nl b≤nl a)(hsw:swap=true→nl b<nl a)(ha:nl a<2^40):Pr Tryz.prog 188 [.one (.ints .u32 (ak (if swap then b else a))),.one (.ints .u32 (ak (if swap then a else b)))] (.one (.ints .u32 (ak (a+b)))):=by
 refine pw Tryz.func188 ⟨[0,1,4,5,6,7,12,22,35],[]⟩ ?_;simp only[Tryz.f188,Tryz.ntmps188,iz,seval]
 cases swap
 case' false=>have hlt:((nl a:Int)<nl b)=False:=by simp;omega
 case' true=>have hlt:((nl b:Int)<nl a)=True:=by have:=hsw rfl;simp;omega
 all_goals
  simp only[vx,T,seval,hlt];rw[IntWalk.i64_in _ (by omega)];refine⟨⟨by omega,by omega,by omega⟩,Lk (fun i:{i:Nat×List Int×Nat//cR a b i.1 i.2.1 i.2.2∧i.2.1.length=nl a+1}=>⟨[(0,.one (.ints .u32 (ak a))),(1,.one (.ints .u32 (ak b))),(5,.one (.own 1 1 0 (nl a+1))),(6,.one (.int .u64 i.1.2.2)),(7,.one (.int .i64 i.1.1))],[(1,⟨.ints 137 .u32 i.1.2.1,true⟩)],3,58⟩) (fun i=>nl a-i.1.1) ⟨(0,List.replicate (nl a+1) 0,0),⟨Nat.zero_le _,bF.nil,Nat.zero_le _,by simp[val,Nat.mod_one],Nat.zero_le _⟩,by simp⟩ ?_ (fun⟨⟨i,os,c⟩,hi,hl⟩=>?_)⟩
  ·have e:((nl a:Int)+1).toNat=nl a+1:=by omega
   refine Sa ?_;simp only[ry,seval,rz,e]
  have h1:=hi.le;have h2:=hi.len;have h3:=hi.c;simp only at h1 h2 h3 hl;simp only[vx,T,seval];refine⟨fun h=>Lg ?_,fun h=>Lg ?_⟩
  ·simp only[vx,T,seval];refine⟨⟨by omega,by omega⟩,?_⟩;have hx:=bd (a/BB^i);have hy:=bd (b/BB^i)
   simp(disch:=omega) only[lG,←X2,←Int.natCast_mul,Int.toNat_natCast,IntWalk.i64_in,IntWalk.u64_in,aA,aE,true_and,and_true]
   refine⟨fun h'=>Lg ?_,fun h'=>Lg ?_⟩
   ·simp only[vx,T,seval];refine⟨⟨by omega,by omega⟩,?_⟩
    simp(disch:=omega) only[lG,←X2,←Int.natCast_mul,Int.toNat_natCast,IntWalk.i64_in,IntWalk.u64_in,aA,aE,true_and,and_true]
    refine⟨by omega,Lq ⟨(i+1,_,_),hi.put (by omega) (by simp only;omega) rfl,by simp only[List.length_set];exact hl⟩ ?_ ?_⟩
    ·refine Sa ?_;simp only[ry,seval,rz]
    simp only;omega
   simp only[vx,T,seval];have hy0:=iY (x:=b) (k:=i) (by omega)
   simp(disch:=omega) only[lG,←X2,←Int.natCast_mul,Int.toNat_natCast,IntWalk.i64_in,IntWalk.u64_in,aA,aE,true_and,and_true]
   refine⟨by omega,Lq ⟨(i+1,_,_),hi.put (s:=c+a/BB^i%BB) (by omega) (by simp only;omega) (by rw[hy0];rfl),by simp only[List.length_set];exact hl⟩ ?_ ?_⟩
   ·refine Sa ?_;simp only[ry,seval,rz]
   simp only;omega
  simp only[vx,T,seval];have hia:i=nl a:=by omega
  subst hia;refine⟨⟨by omega,by omega⟩,?_⟩;obtain⟨hv,hr⟩:=hi.last hab hl;simp only at hv hr
  simp(disch:=omega) only[lG,←X2,←Int.natCast_mul,Int.toNat_natCast,IntWalk.i64_in,IntWalk.u64_in,aA,aE,true_and,and_true]
  rw[List.take_of_length_le (by simp;omega)];refine Cg (bO _ hr (by simp;omega)) ?_;rw[hv];simp only[vx,T,seval];refine Va ?_;simp only[cO,aV,ry,seval]
theorem Ci (m n:Nat)(hm:nl m<2^40)(hn:nl n<2^40):Pr Tryz.prog 188 [.one (.ints .u32 (ak m)),.one (.ints .u32 (ak n))] (.one (.ints .u32 (ak (m+n)))):=by
 rcases Nat.lt_or_ge (nl m) (nl n)with h|h
 ·have:=wx true n m (by omega) (fun _=>h) hn
  rw[Nat.add_comm];exact this
 exact wx false m n h (fun h=>by cases h) hm
structure hJ (a b i:Nat) (os:List Int) (c:Nat):Prop where
 le:i≤nl a
 inr:bF (os.take i)
 len:os.length=nl a
 eq:val (os.take i)+b%BB^i=a%BB^i+BB^i*c
 c:c≤1
@[irreducible] def eA (x y c:Nat):Nat:=if x<y+c then 1 else 0
@[irreducible] def iB (x y c:Nat):Nat:=x+BB*eA x y c-(y+c)
theorem yo {x y c:Nat}(hx:x<BB)(hy:y<BB)(hc:c≤1):iB x y c+(y+c)=x+BB*eA x y c∧iB x y c<BB∧eA x y c≤1:=by
 unfold iB eA;unfold BB at*
 split<;>omega
theorem GV {P v c A B' x y d c':Nat}(h:v+B'=A+P*c)(hd:d+(y+c)=x+BB*c'):(v+P*d)+(B'+P*y)=(A+P*x)+(P*BB)*c':=by
 have h1:P*d+P*y+P*c=P*x+P*(BB*c'):=by rw[←Nat.mul_add,←Nat.mul_add,←Nat.mul_add,←hd,Nat.add_assoc]
 rw[Nat.mul_assoc];omega
theorem hJ.put {a b i:Nat}{os:List Int}{c:Nat}(h:hJ a b i os c)(hi:i<nl a):hJ a b (i+1) (os.set i ((iB (a/BB^i%BB) (b/BB^i%BB) c:Nat):Int)) (eA (a/BB^i%BB) (b/BB^i%BB) c):=by
 have hl:i<os.length:=by rw[h.len];exact hi
 obtain⟨h1,h2,h3⟩:=yo (bd (a/BB^i)) (bd (b/BB^i)) h.c;have hlen:(os.take i).length=i:=by simp;omega
 refine⟨hi,?_,by rw[List.length_set];exact h.len,?_,h3⟩
 ·rw[gV hl];have h4:iB (a/BB^i%BB) (b/BB^i%BB) c<4294967296:=h2;exact h.inr.append (bF.one ⟨by omega,by omega⟩)
 rw[gV hl,eL,hlen,val_one,eJ a,eJ b,Nat.pow_succ];exact GV h.eq h1
theorem hJ.last {a b:Nat}{os:List Int}{c:Nat}(hb:b≤a)(h:hJ a b (nl a) os c):val os=a-b∧bF os:=by
 have e:os.take (nl a)=os:=List.take_of_length_le (by rw[h.len];exact Nat.le_refl _);have h1:=h.eq;have h2:=h.inr;rw[e]at h1 h2;rw[gT (Nat.le_refl _),gT (bg hb)]at h1;have h3:=kf h2;rw[h.len]at h3;refine⟨?_,h2⟩;have h4:=h.c
 rcases Nat.lt_or_ge c 1 with h5|h5
 ·have:c=0:=by omega
  subst this;omega
 have:c=1:=by omega
 subst this;omega
theorem aR (n:Int):IntKind.u64.wrap n=n%18446744073709551616:=by
 simp[IntKind.wrap,IntKind.bits,IntKind.signed]
theorem GN {x y c:Nat}(hx:x<BB)(hy:y<BB)(hc:c≤1):IntKind.u32.wrap (IntKind.u64.wrap (IntKind.u64.wrap ((x:Int)-c)-y))=(iB x y c:Nat):=by
 unfold iB eA;unfold BB at*
 rw[IntKind.wrap_u32,aR,aR]
 split<;>omega
theorem G2 {x y c:Nat}(hx:x<BB)(hy:y<BB)(hc:c≤1):(IntKind.u64.wrap (IntKind.u64.wrap ((x:Int)-c)-y)).fdiv 9223372036854775808=(eA x y c:Nat):=by
 unfold eA;unfold BB at*
 rw[aR,aR,Int.fdiv_eq_ediv_of_nonneg _ (by decide)]
 split<;>omega
theorem Er {x c:Nat}(hx:x<BB)(hc:c≤1):IntKind.u32.wrap (IntKind.u64.wrap ((x:Int)-c))=(iB x 0 c:Nat):=by
 unfold iB eA;unfold BB at*
 rw[IntKind.wrap_u32,aR]
 split<;>omega
theorem EL {x c:Nat}(hx:x<BB)(hc:c≤1):(IntKind.u64.wrap ((x:Int)-c)).fdiv 9223372036854775808=(eA x 0 c:Nat):=by
 unfold eA;unfold BB at*
 rw[aR,Int.fdiv_eq_ediv_of_nonneg _ (by decide)]
 split<;>omega
theorem zQ {x y c:Nat}(hx:x<BB)(hy:y<BB)(hc:c≤1):IntKind.u32.wrap (IntKind.u64.wrap (IntKind.u64.wrap (IntKind.u64.wrap ((x:Int)+4294967296)-y)-c))=(iB x y c:Nat):=by
 unfold iB eA;unfold BB at*
 rw[IntKind.wrap_u32,aR,aR,aR]
 split<;>omega
theorem Ab {x y c:Nat}(hx:x<BB)(hy:y<BB)(hc:c≤1):IntKind.u64.wrap (1-(IntKind.u64.wrap (IntKind.u64.wrap (IntKind.u64.wrap ((x:Int)+4294967296)-y)-c)).fdiv 4294967296)=(eA x y c:Nat):=by
 unfold eA;unfold BB at*
 rw[aR,aR,aR,aR,Int.fdiv_eq_ediv_of_nonneg _ (by decide)]
 split<;>omega
theorem vQ {x c:Nat}(hx:x<BB)(hc:c≤1):IntKind.u32.wrap (IntKind.u64.wrap (IntKind.u64.wrap (IntKind.u64.wrap ((x:Int)+4294967296))-c))=(iB x 0 c:Nat):=by
 unfold iB eA;unfold BB at*
 rw[IntKind.wrap_u32,aR,aR,aR]
 split<;>omega
theorem wC {x c:Nat}(hx:x<BB)(hc:c≤1):IntKind.u64.wrap (1-(IntKind.u64.wrap (IntKind.u64.wrap (IntKind.u64.wrap ((x:Int)+4294967296))-c)).fdiv 4294967296)=(eA x 0 c:Nat):=by
 unfold eA;unfold BB at*
 rw[aR,aR,aR,aR,Int.fdiv_eq_ediv_of_nonneg _ (by decide)]
 split<;>omega
theorem l7 (a b:Nat)(hab:b≤a)(ha:nl a<2^40):Pr Tryz.prog 178 [.one (.ints .u32 (ak a)),.one (.ints .u32 (ak b))] (.one (.ints .u32 (ak (a-b)))):=by
 have hba:=bg hab;refine pw Tryz.func178 ⟨[0,1,4,5,6,7,8,9,13,14,15,16,27],[]⟩ ?_;simp only[Tryz.f178,Tryz.ntmps178,iz,seval];simp only[vx,T,seval];refine⟨⟨by omega,by omega,by omega,by omega⟩,Lk (fun i:{i:Nat×List Int×Nat//hJ a b i.1 i.2.1 i.2.2}=>⟨[(0,.one (.ints .u32 (ak a))),(1,.one (.ints .u32 (ak b))),(5,.one (.own 1 1 0 (nl a))),(6,.one (.int .u64 i.1.2.2)),(13,.one (.ints .u32 (ak a))),(14,.one (.int .i64 (nl a))),(15,.one (.int .i64 i.1.1))],[(1,⟨.ints 137 .u32 i.1.2.1,true⟩)],3,45⟩) (fun i=>nl a-i.1.1) ⟨(0,List.replicate (nl a) 0,0),Nat.zero_le _,bF.nil,by simp,by simp[val,Nat.mod_one],Nat.zero_le _⟩ ?_ (fun⟨⟨i,os,c⟩,hi⟩=>?_)⟩
 ·refine Sa ?_;simp only[ry,seval,rz]
 have h1:=hi.le;have h2:=hi.len;have h3:=hi.c;simp only at h1 h2 h3;simp only[vx,T,seval];refine⟨fun h=>Lg ?_,fun h=>Lg ?_⟩
 ·simp only[vx,T,seval];refine⟨⟨by omega,by omega⟩,?_⟩;have hx:=bd (a/BB^i);have hy:=bd (b/BB^i);have e1:=IntWalk.u64_in (a/BB^i%BB:Nat) (by omega);have e2:=IntWalk.u64_in (b/BB^i%BB:Nat) (by omega);refine⟨fun h'=>Lg ?_,fun h'=>Lg ?_⟩
  ·simp only[vx,T,seval];have hp:=hi.put (by omega);simp only[lG,e1,e2,GN hx hy h3,G2 hx hy h3,IntWalk.i64_in _ (show-9223372036854775808≤(i:Int)+1∧(i:Int)+1≤9223372036854775807 by omega)];refine⟨⟨by omega,by omega⟩,⟨by omega,by omega⟩,Lq ⟨(i+1,_,_),hp⟩ ?_ ?_⟩
   ·refine Sa ?_;simp only[ry,seval,rz]
   simp only;omega
  simp only[vx,T,seval];have hy0:=iY (x:=b) (k:=i) (by omega);have hp:=hi.put (by omega);rw[hy0]at hp;simp only[lG,e1,e2,Er hx h3,EL hx h3,IntWalk.i64_in _ (show-9223372036854775808≤(i:Int)+1∧(i:Int)+1≤9223372036854775807 by omega)];refine⟨⟨by omega,by omega⟩,Lq ⟨(i+1,_,_),hp⟩ ?_ ?_⟩
  ·refine Sa ?_;simp only[ry,seval,rz]
  simp only;omega
 simp only[vx,T,seval];have hia:i=nl a:=by omega
 subst hia;obtain⟨hv,hr⟩:=hi.last hab;simp only at hv hr;rw[List.take_of_length_le (by omega)];refine Cg (df _ hr (by omega)) ?_;rw[hv];simp only[vx,T,seval];refine Va ?_;simp only[cO,aV,ry,seval]
theorem jN (a b:Nat)(hab:b≤a)(ha:nl a<2^40):Pr Tryz.prog 190 [.one (.ints .u32 (ak a)),.one (.ints .u32 (ak b))] (.one (.ints .u32 (ak (a-b)))):=by
 have hba:=bg hab;refine pw Tryz.func190 ⟨[0,1,4,5,6,7,8,9,16,22],[]⟩ ?_;simp only[Tryz.f190,Tryz.ntmps190,iz,seval];simp only[vx,T,seval];refine⟨⟨by omega,by omega,by omega,by omega⟩,Lk (fun i:{i:Nat×List Int×Nat//hJ a b i.1 i.2.1 i.2.2}=>⟨[(0,.one (.ints .u32 (ak a))),(1,.one (.ints .u32 (ak b))),(5,.one (.own 1 1 0 (nl a))),(6,.one (.int .u64 i.1.2.2)),(7,.one (.int .i64 i.1.1))],[(1,⟨.ints 137 .u32 i.1.2.1,true⟩)],3,48⟩) (fun i=>nl a-i.1.1) ⟨(0,List.replicate (nl a) 0,0),Nat.zero_le _,bF.nil,by simp,by simp[val,Nat.mod_one],Nat.zero_le _⟩ ?_ (fun⟨⟨i,os,c⟩,hi⟩=>?_)⟩
 ·refine Sa ?_;simp only[ry,seval,rz]
 have h1:=hi.le;have h2:=hi.len;have h3:=hi.c;simp only at h1 h2 h3;simp only[vx,T,seval];refine⟨fun h=>Lg ?_,fun h=>Lg ?_⟩
 ·simp only[vx,T,seval];have hx:=bd (a/BB^i);have hy:=bd (b/BB^i);have e1:=IntWalk.u64_in (a/BB^i%BB:Nat) (by omega);have e2:=IntWalk.u64_in (b/BB^i%BB:Nat) (by omega);refine⟨fun h'=>Lg ?_,fun h'=>Lg ?_⟩
  ·simp only[vx,T,seval];have hp:=hi.put (by omega);simp only[lG,e1,e2,zQ hx hy h3,Ab hx hy h3,IntWalk.i64_in _ (show-9223372036854775808≤(i:Int)+1∧(i:Int)+1≤9223372036854775807 by omega)];refine⟨⟨by omega,by omega⟩,⟨by omega,by omega⟩,⟨by omega,by omega⟩,Lq ⟨(i+1,_,_),hp⟩ ?_ ?_⟩
   ·refine Sa ?_;simp only[ry,seval,rz]
   simp only;omega
  simp only[vx,T,seval];have hy0:=iY (x:=b) (k:=i) (by omega);have hp:=hi.put (by omega);rw[hy0]at hp;simp only[lG,e1,e2,vQ hx h3,wC hx h3,IntWalk.i64_in _ (show-9223372036854775808≤(i:Int)+1∧(i:Int)+1≤9223372036854775807 by omega)];refine⟨⟨by omega,by omega⟩,⟨by omega,by omega⟩,Lq ⟨(i+1,_,_),hp⟩ ?_ ?_⟩
  ·refine Sa ?_;simp only[ry,seval,rz]
  simp only;omega
 simp only[vx,T,seval];have hia:i=nl a:=by omega
 subst hia;obtain⟨hv,hr⟩:=hi.last hab;simp only at hv hr;rw[List.take_of_length_le (by omega)];refine Cg (bO _ hr (by omega)) ?_;rw[hv];simp only[vx,T,seval];refine Va ?_;simp only[cO,aV,ry,seval]
open Go Go.Eng
structure gJ (a b i:Nat) (os:List Int):Prop where
 le:i≤nl a
 len:os.length=nl a+nl b
 inr:bF os
 zero:∀j,i+nl b≤j→os.getD j 0=0
 eq:val os=(a%BB^i)*b
structure pC (a b i k:Nat) (os:List Int) (c:Nat):Prop where
 le:k≤nl b
 len:os.length=nl a+nl b
 inr:bF os
 zero:∀j,i+nl b≤j→os.getD j 0=0
 eq:val os+BB^(i+k)*c=(a%BB^i)*b+BB^i*((a/BB^i%BB)*(b%BB^k))
 c:c<BB
theorem gJ.init (a b:Nat):gJ a b 0 (List.replicate (nl a+nl b) 0):=
 ⟨Nat.zero_le _,by simp,bF.replicate _,fun j _=>by simp[X7,List.getElem?_replicate];split<;>rfl,by rw[cA];simp[Nat.mod_one]⟩
theorem gJ.start {a b i:Nat}{os:List Int}(h:gJ a b i os):pC a b i 0 os 0:=
 ⟨Nat.zero_le _,h.len,h.inr,h.zero,by rw[h.eq];simp[Nat.mod_one],by decide⟩
theorem getD_set_ne {os:List Int}{i j:Nat}{d:Int}(h:i≠j):(os.set i d).getD j 0=os.getD j 0:=by
 rw[X7,X7,List.getElem?_set_ne h]
theorem pC.put {a b i k:Nat}{os:List Int}{c o s:Nat}(h:pC a b i k os c)(hi:i<nl a)(hk:k<nl b)(ho:os.getD (i+k) 0=(o:Int))(hs:s=(a/BB^i%BB)*(b/BB^k%BB)+o+c):
  pC a b i (k+1) (os.set (i+k) ((s%BB:Nat):Int)) (s/BB):=by
 have hl:i+k<os.length:=by rw[h.len];omega
 have hx:=bd (a/BB^i);have hy:=bd (b/BB^k);have ho2:o<BB:=by have:=h.inr.getD (i+k);rw[ho]at this;unfold BB;omega
 refine⟨hk,by rw[List.length_set];exact h.len,h.inr.set _ ⟨by omega,by have:=bd s;omega⟩,fun j hj=>?_,?_,?_⟩
 ·rw[getD_set_ne (by omega)];exact h.zero j hj
 ·have e:=dK (xs:=os) (x:=((s%BB:Nat):Int)) hl;rw[ho]at e;simp only[Int.toNat_natCast]at e;have h1:=h.eq;have e2:BB^(i+(k+1))*(s/BB)+BB^(i+k)*(s%BB)=BB^(i+k)*s:=by
   rw[←Nat.add_assoc,Nat.pow_succ,Nat.mul_assoc,←Nat.mul_add,Nat.div_add_mod]
  have e3:BB^(i+k)*s=BB^i*((a/BB^i%BB)*(BB^k*(b/BB^k%BB)))+BB^(i+k)*o+BB^(i+k)*c:=by
   rw[hs,Nat.mul_add,Nat.mul_add,Nat.pow_add]
   congr 2
   simp only[Nat.mul_comm,Nat.mul_left_comm]
  rw[eJ b k,Nat.mul_add,Nat.mul_add];omega
 have hp:(a/BB^i%BB)*(b/BB^k%BB)≤4294967295*4294967295:=Nat.mul_le_mul (by omega) (by omega);have h3:=h.c;rw[Nat.div_lt_iff_lt_mul (by decide)];unfold BB at*
 omega
theorem pC.next {a b i:Nat}{os:List Int}{c:Nat}(h:pC a b i (nl b) os c)(hi:i<nl a):gJ a b (i+1) (os.set (i+nl b) ((c%BB:Nat):Int)):=by
 have hl:i+nl b<os.length:=by rw[h.len];omega
 have hc:c%BB=c:=Nat.mod_eq_of_lt h.c;refine⟨hi,by rw[List.length_set];exact h.len,h.inr.set _ ⟨by omega,by have:=bd c;omega⟩,fun j hj=>?_,?_⟩
 ·rw[getD_set_ne (by omega)];exact h.zero j (by omega)
 have e:=dK (xs:=os) (x:=((c%BB:Nat):Int)) hl;rw[h.zero _ (Nat.le_refl _),hc]at e;simp only[Int.toNat_natCast,Int.toNat_zero,Nat.mul_zero,Nat.add_zero]at e;rw[hc,e,h.eq,gT (Nat.le_refl _),eJ a,Nat.add_mul,Nat.mul_assoc]
theorem gJ.done {a b:Nat}{os:List Int}(h:gJ a b (nl a) os):val os=a*b:=by
 rw[h.eq,gT (Nat.le_refl _)]
theorem zj (a b:Nat)(ha:nl a<2^40)(hb:nl b<2^40):Pr Tryz.prog 137 [.one (.ints .u32 (ak a)),.one (.ints .u32 (ak b))] (.one (.ints .u32 (ak (a*b)))):=by
 refine pw Tryz.func137 ⟨[0,1,4,5,6,7,8,9,10,18,25,26,27,28,32,33,34,35],[]⟩ ?_;simp only[Tryz.f137,Tryz.ntmps137,iz,seval];simp only[vx,T,seval];refine⟨fun h0=>Lg ?_,fun h0=>Lg ?_⟩
 ·simp only[vx,T,seval];have h1:=jx h0;refine Va ?_;simp only[cO,aV,ry,seval,h1,Nat.zero_mul,bq]
 simp only[vx,T,seval];refine⟨fun h0=>Lg ?_,fun h0=>Lg ?_⟩
 ·simp only[vx,T,seval];have h1:=jx h0;refine Va ?_;simp only[cO,aV,ry,seval,h1,Nat.mul_zero,bq]
 simp only[vx,T,seval]
 simp(disch:=omega) only[lG,←X2,←Int.natCast_mul,Int.toNat_natCast,IntWalk.i64_in,IntWalk.u64_in,aA,aE,true_and,and_true]
 refine⟨⟨by omega,by omega,by omega,by omega⟩,Lk (fun i:{i:Nat×List Int//gJ a b i.1 i.2}=>⟨[(0,.one (.ints .u32 (ak a))),(1,.one (.ints .u32 (ak b))),(5,.one (.own 1 1 0 (nl a+nl b))),(25,.one (.ints .u32 (ak a))),(26,.one (.int .i64 (nl a))),(27,.one (.int .i64 i.1.1))],[(1,⟨.ints 137 .u32 i.1.2,true⟩)],3,75⟩) (fun i=>nl a-i.1.1) ⟨(0,List.replicate (nl a+nl b) 0),gJ.init a b⟩ ?_ (fun⟨⟨i,os⟩,hi⟩=>?_)⟩
 ·refine Sa ?_;simp only[ry,seval,rz]
 have h1:=hi.le;have h2:=hi.len;simp only at h1 h2;simp only[vx,T,seval];refine⟨fun h=>Lg ?_,fun h=>Lg ?_⟩
 ·simp only[vx,T,seval];have hx:=bd (a/BB^i);refine⟨⟨by omega,by omega⟩,Lk (fun k:{k:Nat×List Int×Nat//pC a b i k.1 k.2.1 k.2.2}=>⟨[(0,.one (.ints .u32 (ak a))),(1,.one (.ints .u32 (ak b))),(5,.one (.own 1 1 0 (nl a+nl b))),(25,.one (.ints .u32 (ak a))),(26,.one (.int .i64 (nl a))),(27,.one (.int .i64 i)),(6,.one (.int .i64 i)),(7,.one (.int .u32 (a/BB^i%BB:Nat))),(8,.one (.int .u64 k.1.2.2)),(32,.one (.ints .u32 (ak b))),(33,.one (.int .i64 (nl b))),(34,.one (.int .i64 k.1.1))],[(1,⟨.ints 137 .u32 k.1.2.1,true⟩)],3,75⟩) (fun k=>nl b-k.1.1) ⟨(0,os,0),hi.start⟩ ?_ (fun⟨⟨k,os',c⟩,hk⟩=>?_)⟩
  ·refine Sa ?_;simp only[ry,seval,rz,lG]
  have h3:=hk.le;have h4:=hk.len;have h5:=hk.c;have h5:c<4294967296:=h5;have hz:=hk.inr.getD (i+k);simp only at h3 h4 hz;obtain⟨o,ho⟩:=Int.eq_ofNat_of_zero_le hz.1;rw[ho]at hz;simp only[vx,T,seval];refine⟨fun h'=>Lg ?_,fun h'=>Lg ?_⟩
  ·simp only[vx,T,seval];have hy:=bd (b/BB^k);have hp:(a/BB^i%BB)*(b/BB^k%BB)≤4294967295*4294967295:=Nat.mul_le_mul (by omega) (by omega)
   simp(disch:=omega) only[lG,←X2,←Int.natCast_mul,Int.toNat_natCast,IntWalk.i64_in,IntWalk.u64_in,aA,aE,true_and,and_true,ho]
   refine⟨by omega,by omega,by omega,Lq ⟨(k+1,_,_),hk.put (s:=c+((a/BB^i%BB)*(b/BB^k%BB)+o)) (by omega) (by omega) ho (by simp only;omega)⟩ ?_ ?_⟩
   ·refine Sa ?_;simp only[ry,seval,rz]
   simp only;omega
  simp only[vx,T,seval];have hkb:k=nl b:=by omega
  subst hkb
  simp(disch:=omega) only[lG,←X2,←Int.natCast_mul,Int.toNat_natCast,IntWalk.i64_in,IntWalk.u64_in,aA,aE,true_and,and_true]
  refine⟨by omega,Lq ⟨(i+1,_),hk.next (by omega)⟩ ?_ ?_⟩
  ·refine Sa ?_;simp only[ry,seval,rz]
  simp only;omega
 simp only[vx,T,seval];have hia:i=nl a:=by omega
 subst hia;have hr:=hi.inr;have hv:=hi.done;simp only at hr hv;rw[List.take_of_length_le (by omega)];refine Cg (df _ hr (by omega)) ?_;rw[hv];simp only[vx,T,seval];refine Va ?_;simp only[cO,aV,ry,seval]
theorem yw (a b:Nat)(ha:nl a<2^40)(hb:nl b<2^40):Pr Tryz.prog 191 [.one (.ints .u32 (ak a)),.one (.ints .u32 (ak b))] (.one (.ints .u32 (ak (a*b)))):=by
 refine pw Tryz.func191 ⟨[0,1,4,5,6,7,8,18,24],[]⟩ ?_;simp only[Tryz.f191,Tryz.ntmps191,iz,seval];simp only[vx,T,seval]
 simp(disch:=omega) only[lG,←X2,←Int.natCast_mul,Int.toNat_natCast,IntWalk.i64_in,IntWalk.u64_in,aA,aE,true_and,and_true]
 refine⟨⟨by omega,by omega,by omega,by omega⟩,Lk (fun i:{i:Nat×List Int//gJ a b i.1 i.2}=>⟨[(0,.one (.ints .u32 (ak a))),(1,.one (.ints .u32 (ak b))),(5,.one (.own 1 1 0 (nl a+nl b))),(6,.one (.int .i64 i.1.1))],[(1,⟨.ints 137 .u32 i.1.2,true⟩)],3,67⟩) (fun i=>nl a-i.1.1) ⟨(0,List.replicate (nl a+nl b) 0),gJ.init a b⟩ ?_ (fun⟨⟨i,os⟩,hi⟩=>?_)⟩
 ·refine Sa ?_;simp only[ry,seval,rz]
 have h1:=hi.le;have h2:=hi.len;simp only at h1 h2;simp only[vx,T,seval];refine⟨fun h=>Lg ?_,fun h=>Lg ?_⟩
 ·simp only[vx,T,seval];have hx:=bd (a/BB^i);refine Lk (fun k:{k:Nat×List Int×Nat//pC a b i k.1 k.2.1 k.2.2}=>⟨[(0,.one (.ints .u32 (ak a))),(1,.one (.ints .u32 (ak b))),(5,.one (.own 1 1 0 (nl a+nl b))),(6,.one (.int .i64 i)),(7,.one (.int .u64 k.1.2.2)),(8,.one (.int .i64 k.1.1))],[(1,⟨.ints 137 .u32 k.1.2.1,true⟩)],3,67⟩) (fun k=>nl b-k.1.1) ⟨(0,os,0),hi.start⟩ ?_ (fun⟨⟨k,os',c⟩,hk⟩=>?_)
  ·refine Sa ?_;simp only[ry,seval,rz,lG]
  have h3:=hk.le;have h4:=hk.len;have h5:=hk.c;have h5:c<4294967296:=h5;have hz:=hk.inr.getD (i+k);simp only at h3 h4 hz;obtain⟨o,ho⟩:=Int.eq_ofNat_of_zero_le hz.1;rw[ho]at hz;simp only[vx,T,seval];refine⟨fun h'=>Lg ?_,fun h'=>Lg ?_⟩
  ·simp only[vx,T,seval];have hy:=bd (b/BB^k);have hp:(a/BB^i%BB)*(b/BB^k%BB)≤4294967295*4294967295:=Nat.mul_le_mul (by omega) (by omega)
   simp(disch:=omega) only[lG,←X2,←Int.natCast_mul,Int.toNat_natCast,IntWalk.i64_in,IntWalk.u64_in,aA,aE,true_and,and_true,ho]
   refine⟨by omega,by omega,by omega,by omega,Lq ⟨(k+1,_,_),hk.put (s:=c+o+(a/BB^i%BB)*(b/BB^k%BB)) (by omega) (by omega) ho (by simp only;omega)⟩ ?_ ?_⟩
   ·refine Sa ?_;simp only[ry,seval,rz]
   simp only;omega
  simp only[vx,T,seval];have hkb:k=nl b:=by omega
  subst hkb
  simp(disch:=omega) only[lG,←X2,←Int.natCast_mul,Int.toNat_natCast,IntWalk.i64_in,IntWalk.u64_in,aA,aE,true_and,and_true]
  refine⟨by omega,Lq ⟨(i+1,_),hk.next (by omega)⟩ ?_ ?_⟩
  ·refine Sa ?_;simp only[ry,seval,rz]
  simp only;omega
 simp only[vx,T,seval];have hia:i=nl a:=by omega
 subst hia;have hr:=hi.inr;have hv:=hi.done;simp only at hr hv;rw[List.take_of_length_le (by omega)];refine Cg (bO _ hr (by omega)) ?_;rw[hv];simp only[vx,T,seval];refine Va ?_;simp only[cO,aV,ry,seval]
open Go Go.Eng
theorem Ll {a b:Nat}(ha:a<2^64)(hb:b<2^64):fX .or .u64 (a:Int) (b:Int)=((a|||b:Nat):Int):=by
 have hab:a|||b<2^64:=Nat.or_lt_two_pow ha hb
 show IntKind.u64.wrap ((BitVec.ofInt 64 (a:Int)|||BitVec.ofInt 64 (b:Int)).toNat:Int)=_
 simp only[BitVec.ofInt_natCast,BitVec.toNat_or,BitVec.toNat_ofNat];rw[Nat.mod_eq_of_lt ha,Nat.mod_eq_of_lt hb,aR];omega
theorem N6 {r d:Nat}(hr:r<BB)(hd:d<BB):fX .or .u64 (IntKind.u64.wrap ((r:Int)*4294967296)) (d:Int)=((BB*r+d:Nat):Int):=by
 have h1:((r:Int)*4294967296)=((BB*r:Nat):Int):=by unfold BB;omega
 rw[h1,IntWalk.u64_in _ (by unfold BB at*;omega),Ll (by unfold BB at*;omega) (by unfold BB at*;omega)]
 have:=Nat.two_pow_add_eq_or_of_lt (i:=32) (b:=d) (by unfold BB at hd;omega) r
 have h2:BB=2^32:=rfl;rw[h2,this]
theorem G7 (x i:Nat):x/BB^i=BB*(x/BB^(i+1))+x/BB^i%BB:=by
 rw[Nat.pow_succ,←Nat.div_div_eq_div_mul,Nat.div_add_mod]
theorem Ir {h d b:Nat}(hb:0<b):(BB*h+d)/b=BB*(h/b)+(BB*(h%b)+d)/b∧(BB*h+d)%b=(BB*(h%b)+d)%b:=by
 have e:BB*h+d=BB*(h%b)+d+b*(BB*(h/b)):=by
  have h1:=Nat.div_add_mod h b;have h2:BB*h=BB*(b*(h/b))+BB*(h%b):=by rw[←Nat.mul_add,h1]
  rw[Nat.mul_left_comm b BB];omega
 rw[e,Nat.add_mul_div_left _ _ hb,Nat.add_mul_mod_self_left];exact⟨Nat.add_comm _ _,rfl⟩
theorem Bj {r d b:Nat}(hr:r<b)(hd:d<BB):(BB*r+d)/b<BB:=by
 rw[Nat.div_lt_iff_lt_mul (by omega)]
 have:BB*(r+1)≤BB*b:=Nat.mul_le_mul_left _ hr
 rw[Nat.mul_add]at this;omega
theorem vf {os:List Int}{i:Nat}{d:Int}(h:i<os.length):(os.set i d).drop i=d::os.drop (i+1):=by
 rw[List.drop_eq_getElem_cons (by simp;omega)]
 simp[List.drop_set]
structure lK (a b j:Nat) (os:List Int) (r:Nat):Prop where
 le:j≤nl a
 len:os.length=nl a
 inr:bF os
 eq:val (os.drop j)=a/BB^j/b
 r:r=a/BB^j%b
theorem lK.init (a b:Nat)(hb:0<b):lK a b (nl a) (List.replicate (nl a) 0) 0:=
 ⟨Nat.le_refl _,by simp,bF.replicate _,by rw[List.drop_of_length_le (by simp),lf (Nat.le_refl _)];simp[val],by rw[lf (Nat.le_refl _)];simp⟩
theorem lK.put {a b i:Nat}{os:List Int}{r:Nat}(hb:0<b)(h:lK a b (i+1) os r):
  lK a b i (os.set i (((BB*r+a/BB^i%BB)/b%BB:Nat):Int)) ((BB*r+a/BB^i%BB)%b):=by
 have hl:i<os.length:=by rw[h.len];exact h.le
 have hr:r<b:=by rw[h.r];exact Nat.mod_lt _ hb
 obtain⟨h1,h2⟩:=Ir (h:=a/BB^(i+1)) (d:=a/BB^i%BB) hb;rw[←G7]at h1 h2;have hq:=Bj (d:=a/BB^i%BB) hr (Nat.mod_lt _ (by decide));refine⟨Nat.le_of_lt h.le,by rw[List.length_set];exact h.len,h.inr.set _ ⟨by omega,by have:=bd ((BB*r+a/BB^i%BB)/b);omega⟩,?_,?_⟩
 ·rw[vf hl];simp only[val,Int.toNat_natCast];rw[h.eq,h1,Nat.mod_eq_of_lt hq,←h.r];omega
 rw[h2,←h.r]
theorem rm (a b:Nat)(ha:nl a<2^40)(hb:0<b)(hb2:b<BB):Pr Tryz.prog 216 [.one (.ints .u32 (ak a)),.one (.int .u32 b)] (.aJ [.one (.ints .u32 (ak (a/b))),.one (.ints .u32 (ak (a%b)))]):=by
 have hb3:b<4294967296:=hb2;refine pw Tryz.func216 ⟨[0,1,4,5,6,7,8,16],[]⟩ ?_;simp only[Tryz.f216,Tryz.ntmps216,iz,seval];simp only[vx,T,seval]
 simp(disch:=omega) only[lG,←X2,←Int.natCast_mul,Int.toNat_natCast,IntWalk.i64_in,IntWalk.u64_in,aA,aE,true_and,and_true]
 refine⟨⟨by omega,by omega,by omega,by omega⟩,Lk (fun j:{j:Nat×List Int×Nat//lK a b j.1 j.2.1 j.2.2}=>⟨[(0,.one (.ints .u32 (ak a))),(1,.one (.int .u32 b)),(6,.one (.own 1 1 0 (nl a))),(7,.one (.int .u64 j.1.2.2)),(8,.one (.int .i64 ((j.1.1:Int)-1)))],[(1,⟨.ints 137 .u32 j.1.2.1,true⟩)],3,43⟩) (fun j=>j.1.1) ⟨(nl a,List.replicate (nl a) 0,0),lK.init a b hb⟩ ?_ (fun⟨⟨j,os,r⟩,hj⟩=>?_)⟩
 ·refine Sa ?_;simp only[ry,seval,rz]
 have h1:=hj.le;have h2:=hj.len;have h3:r<b:=by have:=hj.r;simp only at this;rw[this];exact Nat.mod_lt _ hb
 simp only at h1 h2;simp only[vx,T,seval];refine⟨fun h=>Lg ?_,fun h=>Lg ?_⟩
 ·obtain⟨i,rfl⟩:∃i,j=i+1:=⟨j-1,by omega⟩;simp only[show ((i+1:Nat):Int)-1=(i:Int) by omega,Int.toNat_natCast]at h⊢;simp only[vx,T,seval];have hx:=bd (a/BB^i);have e1:=IntWalk.u64_in (a/BB^i%BB:Nat) (by omega);have e2:=IntWalk.u64_in (b:Int) (by omega);have e3:(((BB*r+a/BB^i%BB:Nat):Int).tdiv b)=(((BB*r+a/BB^i%BB)/b:Nat):Int):=rfl;have e4:(((BB*r+a/BB^i%BB:Nat):Int).tmod b)=(((BB*r+a/BB^i%BB)%b:Nat):Int):=rfl;have hq:=Bj (d:=a/BB^i%BB) h3 hx;have hq2:(BB*r+a/BB^i%BB)/b<4294967296:=hq;have e5:IntKind.u64.wrap (((BB*r+a/BB^i%BB)/b:Nat):Int)=(((BB*r+a/BB^i%BB)/b:Nat):Int):=by
   generalize(BB*r+a/BB^i%BB)/b=q at hq2
   exact IntWalk.u64_in _ (by omega)
  simp only[lG,e1,e2,N6 (show r<BB by unfold BB;omega) hx,e3,e4,e5]
  simp(disch:=omega) only[lG,←X2,←Int.natCast_mul,Int.toNat_natCast,IntWalk.i64_in,IntWalk.u64_in,aA,aE,true_and,and_true]
  refine⟨⟨by omega,by omega⟩,by omega,⟨by omega,by omega⟩,by omega,Lq ⟨(i,_,_),hj.put hb⟩ ?_ ?_⟩
  ·refine Sa ?_;simp only[ry,seval,rz]
  simp only;omega
 simp only[vx,T,seval];have hj0:j=0:=by omega
 subst hj0;have hr:=hj.inr;have hv:=hj.eq;have hrr:=hj.r;simp only[Nat.pow_zero,Nat.div_one,List.drop_zero]at hr hv hrr;rw[List.take_of_length_le (by omega)];refine Cg (df _ hr (by omega)) ?_;rw[hv];simp only[vx,T,seval];refine Cg (cZ r (by omega)) ?_;rw[hrr];simp only[vx,T,seval];refine Va ?_;simp only[cO,aV,ry,seval]
theorem HL (a b:Nat)(ha:nl a<2^40)(hb:0<b)(hb2:b<BB):Pr Tryz.prog 197 [.one (.ints .u32 (ak a)),.one (.int .u32 b)] (.aJ [.one (.ints .u32 (ak (a/b))),.one (.int .u32 (a%b:Nat))]):=by
 have hb3:b<4294967296:=hb2;refine pw Tryz.func197 ⟨[0,1,4,5,6,7,8,16],[]⟩ ?_;simp only[Tryz.f197,Tryz.ntmps197,iz,seval];simp only[vx,T,seval]
 simp(disch:=omega) only[lG,←X2,←Int.natCast_mul,Int.toNat_natCast,IntWalk.i64_in,IntWalk.u64_in,aA,aE,true_and,and_true]
 refine⟨⟨by omega,by omega,by omega,by omega⟩,Lk (fun j:{j:Nat×List Int×Nat//lK a b j.1 j.2.1 j.2.2}=>⟨[(0,.one (.ints .u32 (ak a))),(1,.one (.int .u32 b)),(6,.one (.own 1 1 0 (nl a))),(7,.one (.int .u64 j.1.2.2)),(8,.one (.int .i64 ((j.1.1:Int)-1)))],[(1,⟨.ints 137 .u32 j.1.2.1,true⟩)],3,43⟩) (fun j=>j.1.1) ⟨(nl a,List.replicate (nl a) 0,0),lK.init a b hb⟩ ?_ (fun⟨⟨j,os,r⟩,hj⟩=>?_)⟩
 ·refine Sa ?_;simp only[ry,seval,rz]
 have h1:=hj.le;have h2:=hj.len;have h3:r<b:=by have:=hj.r;simp only at this;rw[this];exact Nat.mod_lt _ hb
 simp only at h1 h2;simp only[vx,T,seval];refine⟨fun h=>Lg ?_,fun h=>Lg ?_⟩
 ·obtain⟨i,rfl⟩:∃i,j=i+1:=⟨j-1,by omega⟩;simp only[show ((i+1:Nat):Int)-1=(i:Int) by omega,Int.toNat_natCast]at h⊢;simp only[vx,T,seval];have hx:=bd (a/BB^i);have e1:=IntWalk.u64_in (a/BB^i%BB:Nat) (by omega);have e2:=IntWalk.u64_in (b:Int) (by omega);have e3:(((BB*r+a/BB^i%BB:Nat):Int).tdiv b)=(((BB*r+a/BB^i%BB)/b:Nat):Int):=rfl;have e4:(((BB*r+a/BB^i%BB:Nat):Int).tmod b)=(((BB*r+a/BB^i%BB)%b:Nat):Int):=rfl;have hq:=Bj (d:=a/BB^i%BB) h3 hx;have hq2:(BB*r+a/BB^i%BB)/b<4294967296:=hq;have e5:IntKind.u64.wrap (((BB*r+a/BB^i%BB)/b:Nat):Int)=(((BB*r+a/BB^i%BB)/b:Nat):Int):=by
   generalize(BB*r+a/BB^i%BB)/b=q at hq2
   exact IntWalk.u64_in _ (by omega)
  simp only[lG,e1,e2,N6 (show r<BB by unfold BB;omega) hx,e3,e4,e5]
  simp(disch:=omega) only[lG,←X2,←Int.natCast_mul,Int.toNat_natCast,IntWalk.i64_in,IntWalk.u64_in,aA,aE,true_and,and_true]
  refine⟨⟨by omega,by omega⟩,by omega,⟨by omega,by omega⟩,by omega,Lq ⟨(i,_,_),hj.put hb⟩ ?_ ?_⟩
  ·refine Sa ?_;simp only[ry,seval,rz]
  simp only;omega
 simp only[vx,T,seval];have hj0:j=0:=by omega
 subst hj0;have hr:=hj.inr;have hv:=hj.eq;have hrr:=hj.r;simp only[Nat.pow_zero,Nat.div_one,List.drop_zero]at hr hv hrr;rw[List.take_of_length_le (by omega)];refine Cg (bO _ hr (by omega)) ?_;rw[hv];simp only[vx,T,seval];have e6:IntKind.u32.wrap (r:Int)=r:=IntWalk.u32_in _ (by omega);rw[e6,hrr];refine Va ?_;simp only[cO,aV,ry,seval]
open Go Go.Eng
structure qL (xs:List Int) (off y i:Nat) (zs:List Int) (c:Nat):Prop where
 le:i≤nl y
 len:zs.length=xs.length
 inr:bF zs
 up:zs.drop (off+nl y+1)=xs.drop (off+nl y+1)
 eq:val zs+BB^(off+i)*c=val xs+BB^off*(y%BB^i)
 c:c≤1
theorem set_drop {zs:List Int}{i j:Nat}{d:Int}(h:i<j):(zs.set i d).drop j=zs.drop j:=List.drop_set_of_lt h
theorem qL.put {xs:List Int}{off y i:Nat}{zs:List Int}{c o s:Nat}(h:qL xs off y i zs c)(hi:i<nl y)(hl:off+nl y<xs.length)(ho:zs.getD (off+i) 0=(o:Int))(hs:s=o+y/BB^i%BB+c):
  qL xs off y (i+1) (zs.set (off+i) ((s%BB:Nat):Int)) (s/BB):=by
 have hl2:off+i<zs.length:=by rw[h.len];omega
 have hy:=bd (y/BB^i);have ho2:o<4294967296:=by have:=h.inr.getD (off+i);rw[ho]at this;omega
 refine⟨hi,by rw[List.length_set];exact h.len,h.inr.set _ ⟨by omega,by have:=bd s;omega⟩,by rw[set_drop (by omega)];exact h.up,?_,?_⟩
 ·have e:=dK (xs:=zs) (x:=((s%BB:Nat):Int)) hl2;rw[ho]at e;simp only[Int.toNat_natCast]at e;have h1:=h.eq;have e2:BB^(off+(i+1))*(s/BB)+BB^(off+i)*(s%BB)=BB^(off+i)*s:=by
   rw[←Nat.add_assoc,Nat.pow_succ,Nat.mul_assoc,←Nat.mul_add,Nat.div_add_mod]
  have e3:BB^(off+i)*s=BB^(off+i)*o+BB^off*(BB^i*(y/BB^i%BB))+BB^(off+i)*c:=by
   rw[hs,Nat.mul_add,Nat.mul_add,←Nat.mul_assoc (BB^off),←Nat.pow_add]
  rw[eJ y i,Nat.mul_add];omega
 have h3:=h.c
 have:s/BB<2:=by rw[Nat.div_lt_iff_lt_mul (by decide)];unfold BB at*;omega
 omega
def N0 (xs:List Int)(off y:Nat)(r:V)(B':Bk):Prop:=
 r= .aJ []∧∃zs k,B'= .ints 137 .u32 zs∧zs.length=xs.length∧bF zs∧zs.drop (off+nl y+1)=xs.drop (off+nl y+1)∧val zs+BB^(off+nl y+1)*k=val xs+BB^off*y
theorem qL.done {xs:List Int}{off y:Nat}{zs:List Int}{c o:Nat}(h:qL xs off y (nl y) zs c)(hl:off+nl y<xs.length)(ho:zs.getD (off+nl y) 0=(o:Int)):
  N0 xs off y (.aJ []) (.ints 137 .u32 (zs.set (off+nl y) (((o+c%BB)%BB:Nat):Int))):=by
 have hl2:off+nl y<zs.length:=by rw[h.len];omega
 have hc:c%BB=c:=Nat.mod_eq_of_lt (by have:=h.c;unfold BB;omega);refine⟨rfl,_,(o+c)/BB,rfl,by rw[List.length_set];exact h.len,h.inr.set _ ⟨by omega,by have:=bd (o+c%BB);omega⟩,by rw[set_drop (by omega)];exact h.up,?_⟩;have e:=dK (xs:=zs) (x:=(((o+c)%BB:Nat):Int)) hl2;rw[ho]at e;simp only[Int.toNat_natCast]at e;have h1:=h.eq;rw[gT (Nat.le_refl _)]at h1;have e2:BB^(off+nl y+1)*((o+c)/BB)+BB^(off+nl y)*((o+c)%BB)=BB^(off+nl y)*(o+c):=by
  rw[Nat.pow_succ,Nat.mul_assoc,←Nat.mul_add,Nat.div_add_mod]
 rw[Nat.mul_add]at e2;rw[hc];omega
theorem kg (xs:List Int)(off y:Nat)(hx:bF xs)(hl:off+nl y<xs.length)(hlen:xs.length<2^40):Mc Tryz.prog 220 [.one (.own 0 1 off (nl y+1)),.one (.ints .u32 (ak y))] (.ints 137 .u32 xs) (N0 xs off y):=by
 refine mw Tryz.func220 ⟨[0,1,4,5,6,7,8,9,10],[]⟩ ?_;simp only[Tryz.f220,Tryz.ntmps220,iz,seval];simp only[vx,T,seval];refine Lk (fun i:{i:Nat×List Int×Nat//qL xs off y i.1 i.2.1 i.2.2}=>⟨[(0,.one (.own 0 1 off (nl y+1))),(1,.one (.ints .u32 (ak y))),(4,.one (.int .u64 i.1.2.2)),(7,.one (.ints .u32 (ak y))),(8,.one (.int .i64 (nl y))),(9,.one (.int .i64 i.1.1))],[(0,⟨.ints 137 .u32 i.1.2.1,true⟩)],3,41⟩) (fun i=>nl y-i.1.1) ⟨(0,xs,0),Nat.zero_le _,rfl,hx,rfl,by simp[Nat.mod_one],Nat.zero_le _⟩ ?_ (fun⟨⟨i,zs,c⟩,hi⟩=>?_)
 ·refine Sa ?_;simp only[ry,seval,rz]
 have h1:=hi.le;have h2:=hi.len;have h3:=hi.c;have hz:=hi.inr.getD (off+i);simp only at h1 h2 h3 hz;obtain⟨o,ho⟩:=Int.eq_ofNat_of_zero_le hz.1;rw[ho]at hz;simp only[vx,T,seval];refine⟨fun h=>Lg ?_,fun h=>Lg ?_⟩
 ·simp only[vx,T,seval];have hy:=bd (y/BB^i)
  simp(disch:=omega) only[lG,←X2,←Int.natCast_mul,Int.toNat_natCast,IntWalk.i64_in,IntWalk.u64_in,aA,aE,true_and,and_true,ho]
  refine⟨by omega,by omega,by omega,Lq ⟨(i+1,_,_),hi.put (s:=c+(o+y/BB^i%BB)) (by simp only;omega) hl ho (by simp only;omega)⟩ ?_ ?_⟩
  ·refine Sa ?_;simp only[ry,seval,rz]
  simp only;omega
 simp only[vx,T,seval];have hiy:i=nl y:=by omega
 subst hiy
 simp(disch:=omega) only[lG,←X2,←Int.natCast_mul,Int.toNat_natCast,IntWalk.i64_in,IntWalk.u64_in,aA,aE,true_and,and_true,ho]
 exact⟨by omega,by omega,hi.done hl ho⟩
open Go Go.Eng
theorem AL {x c:Nat}(hx:x<BB)(hc:c<BB):IntKind.u32.wrap (IntKind.u64.wrap ((x:Int)-c))=(iB x c 0:Nat):=by
 unfold iB eA;unfold BB at*
 rw[IntKind.wrap_u32,aR]
 split<;>omega
theorem yW {x c:Nat}(hx:x<BB)(hc:c<BB):(IntKind.u64.wrap ((x:Int)-c)).fdiv 9223372036854775808=(eA x c 0:Nat):=by
 unfold eA;unfold BB at*
 rw[aR,Int.fdiv_eq_ediv_of_nonneg _ (by decide)]
 split<;>omega
structure re (xs:List Int) (off y D i:Nat) (zs:List Int) (c:Nat):Prop where
 le:i≤nl y
 len:zs.length=xs.length
 inr:bF zs
 up:zs.drop (off+nl y+1)=xs.drop (off+nl y+1)
 eq:val zs+BB^off*(D*(y%BB^i))=val xs+BB^(off+i)*c
 c:c<BB
theorem wX {x D c o:Nat}(hx:x<BB)(hD:D<BB)(hc:c<BB)(ho:o<BB):iB o ((x*D+c)%BB) 0+(x*D+c)=o+BB*((x*D+c)/BB+eA o ((x*D+c)%BB) 0)∧iB o ((x*D+c)%BB) 0<BB∧(x*D+c)/BB+eA o ((x*D+c)%BB) 0<BB:=by
 obtain⟨h1,h2,h3⟩:=yo ho (Nat.mod_lt (x*D+c) (show BB>0 by decide)) (Nat.zero_le 1);have h4:=Nat.div_add_mod (x*D+c) BB;have h5:x*D≤4294967295*4294967295:=Nat.mul_le_mul (by unfold BB at hx;omega) (by unfold BB at hD;omega);refine⟨by rw[Nat.mul_add];omega,h2,?_⟩;have h6:eA o ((x*D+c)%BB) 0=1→0<(x*D+c)%BB:=by
  intro h;unfold eA at h
  split at h
  ·omega
  cases h
 generalize eA o ((x*D+c)%BB) 0=bor at*
 generalize(x*D+c)%BB=low at*
 generalize(x*D+c)/BB=q at*
 unfold BB at*
 rcases Nat.lt_or_ge bor 1 with h7|h7
 ·omega
 have:=h6 (by omega)
 omega
theorem re.put {xs:List Int}{off y D i:Nat}{zs:List Int}{c o:Nat}(h:re xs off y D i zs c)(hD:D<BB)(hi:i<nl y)(hl:off+nl y<xs.length)(ho:zs.getD (off+i) 0=(o:Int)):
  re xs off y D (i+1) (zs.set (off+i) ((iB o ((y/BB^i%BB*D+c)%BB) 0:Nat):Int)) ((y/BB^i%BB*D+c)/BB+eA o ((y/BB^i%BB*D+c)%BB) 0):=by
 have hl2:off+i<zs.length:=by rw[h.len];omega
 have ho2:o<BB:=by have:=h.inr.getD (off+i);rw[ho]at this;unfold BB;omega
 obtain⟨h1,h2,h3⟩:=wX (bd (y/BB^i)) hD h.c ho2;refine⟨hi,by rw[List.length_set];exact h.len,h.inr.set _ ⟨by omega,by have:iB o ((y/BB^i%BB*D+c)%BB) 0<4294967296:=h2;omega⟩,by rw[set_drop (by omega)];exact h.up,?_,h3⟩;have e:=dK (xs:=zs) (x:=((iB o ((y/BB^i%BB*D+c)%BB) 0:Nat):Int)) hl2;rw[ho]at e;simp only[Int.toNat_natCast]at e;have h4:=h.eq
 generalize iB o ((y/BB^i%BB*D+c)%BB) 0=dd at*
 generalize(y/BB^i%BB*D+c)/BB+eA o ((y/BB^i%BB*D+c)%BB) 0=cc at*
 have e2:BB^(off+(i+1))*cc=BB^(off+i)*(BB*cc):=by rw[←Nat.add_assoc,Nat.pow_succ,Nat.mul_assoc]
 have e3:BB^(off+i)*dd+BB^(off+i)*(y/BB^i%BB*D)+BB^(off+i)*c=BB^(off+i)*o+BB^(off+i)*(BB*cc):=by
  rw[←Nat.mul_add,←Nat.mul_add,←Nat.mul_add,←h1,Nat.add_assoc]
 have e4:BB^off*(D*(y%BB^(i+1)))=BB^off*(D*(y%BB^i))+BB^(off+i)*(y/BB^i%BB*D):=by
  rw[eJ y i,Nat.mul_add,Nat.mul_add,Nat.pow_add,Nat.mul_assoc,Nat.mul_left_comm D,Nat.mul_comm D (y/BB^i%BB)]
 rw[e2,e4];omega
def Oe (xs:List Int)(off y D:Nat)(r:V)(B':Bk):Prop:=
 ∃t zs,r= .one (.bool t)∧B'= .ints 137 .u32 zs∧zs.length=xs.length∧bF zs∧zs.drop (off+nl y+1)=xs.drop (off+nl y+1)∧val zs+BB^off*(D*y)=val xs+BB^(off+nl y+1)*(if t then 1 else 0)
theorem re.done {xs:List Int}{off y D:Nat}{zs:List Int}{c o:Nat}(h:re xs off y D (nl y) zs c)(hl:off+nl y<xs.length)(ho:zs.getD (off+nl y) 0=(o:Int)):
  Oe xs off y D (.one (.bool (decide (((eA o c 0:Nat):Int)=1)))) (.ints 137 .u32 (zs.set (off+nl y) ((iB o c 0:Nat):Int))):=by
 have hl2:off+nl y<zs.length:=by rw[h.len];omega
 have ho2:o<BB:=by have:=h.inr.getD (off+nl y);rw[ho]at this;unfold BB;omega
 obtain⟨h1,h2,h3⟩:=yo ho2 h.c (Nat.zero_le 1);refine⟨_,_,rfl,rfl,by rw[List.length_set];exact h.len,h.inr.set _ ⟨by omega,by have:iB o c 0<4294967296:=h2;omega⟩,by rw[set_drop (by omega)];exact h.up,?_⟩;have e:=dK (xs:=zs) (x:=((iB o c 0:Nat):Int)) hl2;rw[ho]at e;simp only[Int.toNat_natCast]at e;have h4:=h.eq;rw[gT (Nat.le_refl _)]at h4;have hb:(if decide (((eA o c 0:Nat):Int)=1)=true then 1 else 0)=eA o c 0:=by
  by_cases h5:eA o c 0=1
  ·rw[h5];rfl
  rw[if_neg (by simp;omega)];omega
 rw[hb]
 generalize iB o c 0=dd at*
 generalize eA o c 0=bb at*
 have e3:BB^(off+nl y)*dd+BB^(off+nl y)*c=BB^(off+nl y)*o+BB^(off+nl y+1)*bb:=by
  rw[Nat.pow_succ,Nat.mul_assoc,←Nat.mul_add,←Nat.mul_add]
  congr 1
 omega
theorem jt (xs:List Int)(off y D:Nat)(hx:bF xs)(hl:off+nl y<xs.length)(hlen:xs.length<2^40)(hD:D<BB):Mc Tryz.prog 219 [.one (.own 0 1 off (nl y+1)),.one (.ints .u32 (ak y)),.one (.int .u64 D)] (.ints 137 .u32 xs) (Oe xs off y D):=by
 have hD2:D<4294967296:=hD;refine mw Tryz.func219 ⟨[0,1,2,6,7,8,9,10,11,12,13,14,15,16],[]⟩ ?_;simp only[Tryz.f219,Tryz.ntmps219,iz,seval];simp only[vx,T,seval];refine Lk (fun i:{i:Nat×List Int×Nat//re xs off y D i.1 i.2.1 i.2.2}=>⟨[(0,.one (.own 0 1 off (nl y+1))),(1,.one (.ints .u32 (ak y))),(2,.one (.int .u64 D)),(7,.one (.int .u64 i.1.2.2)),(13,.one (.ints .u32 (ak y))),(14,.one (.int .i64 (nl y))),(15,.one (.int .i64 i.1.1))],[(0,⟨.ints 137 .u32 i.1.2.1,true⟩)],3,63⟩) (fun i=>nl y-i.1.1) ⟨(0,xs,0),Nat.zero_le _,rfl,hx,rfl,by simp[Nat.mod_one],by simp only;decide⟩ ?_ (fun⟨⟨i,zs,c⟩,hi⟩=>?_)
 ·refine Sa ?_;simp only[ry,seval,rz]
 have h1:=hi.le;have h2:=hi.len;have h3:=hi.c;have h3':c<4294967296:=h3;have hz:=hi.inr.getD (off+i);simp only at h1 h2 h3 hz;obtain⟨o,ho⟩:=Int.eq_ofNat_of_zero_le hz.1;rw[ho]at hz;have ho2:o<BB:=by unfold BB;omega
 simp only[vx,T,seval];refine⟨fun h=>Lg ?_,fun h=>Lg ?_⟩
 ·simp only[vx,T,seval];have hy:=bd (y/BB^i);have hp:y/BB^i%BB*D≤4294967295*4294967295:=Nat.mul_le_mul (by omega) (by omega)
  simp(disch:=omega) only[lG,←X2,←Int.natCast_mul,Int.toNat_natCast,IntWalk.i64_in,IntWalk.u64_in,aA,aE,true_and,and_true,ho]
  have hm:=bd (y/BB^i%BB*D+c);obtain⟨_,_,hcc⟩:=wX hy hD h3 ho2;have e1:IntKind.u64.wrap (((y/BB^i%BB*D+c)%BB:Nat):Int)=(((y/BB^i%BB*D+c)%BB:Nat):Int):=IntWalk.u64_in _ (by omega);have e2:IntKind.u64.wrap (((y/BB^i%BB*D+c)/BB+eA o ((y/BB^i%BB*D+c)%BB) 0:Nat):Int)=(((y/BB^i%BB*D+c)/BB+eA o ((y/BB^i%BB*D+c)%BB) 0:Nat):Int):=by
   generalize(y/BB^i%BB*D+c)/BB+eA o ((y/BB^i%BB*D+c)%BB) 0=q at hcc
   exact IntWalk.u64_in _ (by unfold BB at hcc;omega)
  simp only[e1,AL ho2 hm,yW ho2 hm,←X2,e2];refine⟨by omega,by omega,by omega,Lq ⟨(i+1,_,_),hi.put hD (by simp only;omega) hl ho⟩ ?_ ?_⟩
  ·refine Sa ?_;simp only[ry,seval,rz]
  simp only;omega
 simp only[vx,T,seval];have hiy:i=nl y:=by omega
 subst hiy
 simp(disch:=omega) only[lG,←X2,←Int.natCast_mul,Int.toNat_natCast,IntWalk.i64_in,IntWalk.u64_in,aA,aE,true_and,and_true,ho]
 simp only[AL ho2 h3,yW ho2 h3];exact⟨by omega,by omega,hi.done hl ho⟩
end Go.Proofs.YtgalhjhdgkoemaaGreat
/-
  Natural numbers as lists of a given number of words; the law of the long division's digit.
-/
namespace Go.Eng
def iq:Nat→Nat→List Int
 |0,_=>[]
 |k+1,n=>((n%BB:Nat):Int)::iq k (n/BB)
theorem aK:∀k n,(iq k n).length=k
 |0,_=>rfl
 |k+1,n=>by simp[iq,aK k]
theorem gj:∀k n,bF (iq k n)
 |0,_=>bF.nil
 |k+1,n=>bF.cons ⟨by omega,by have:=Nat.mod_lt n (show BB>0 by decide);unfold BB at*;omega⟩ (gj k _)
theorem jX:∀k n,val (iq k n)=n%BB^k
 |0,n=>by simp[iq,val,Nat.mod_one]
 |k+1,n=>by
  simp only[iq,val,jX k,Int.toNat_natCast];rw[Nat.pow_succ,Nat.mul_comm (BB^k),Nat.mod_mul]
theorem xt:∀{xs:List Int},bF xs→iq xs.length (val xs)=xs
 |[],_=>rfl
 |x::xs,h=>by
  have h2:=h.head;have h3:x.toNat<BB:=by unfold BB;omega
  simp only[List.length_cons,iq,val];rw[Nat.add_mul_mod_self_left,Nat.mod_eq_of_lt h3,Nat.add_mul_div_left _ _ (by decide:0<BB),Nat.div_eq_of_lt h3,Nat.zero_add,xt h.tail]
  congr 1;omega
theorem rF {xs:List Int}{k n:Nat}(h:bF xs)(hl:xs.length=k)(hv:val xs=n):xs=iq k n:=by
 rw[←hl,←hv,xt h]
theorem KR {U V P high next Vr top u2 Ur:Nat}(hU:U=(top*BB+u2)*P+Ur)(hV:V=(high*BB+next)*P+Vr)(hUr:Ur<P)(hu2:u2<BB)(hh:0<high):U/V≤top/high:=by
 rw[Nat.le_div_iff_mul_le hh];have h1:=Nat.div_mul_le_self U V
 generalize U/V=q at h1⊢
 rcases Nat.lt_or_ge top (q*high)with h2|h2
 ·exfalso
  have h3:(top+1)*(BB*P)≤q*high*(BB*P):=Nat.mul_le_mul_right _ h2;have h4:q*high*(BB*P)≤q*V:=by
   rw[hV,Nat.mul_assoc];refine Nat.mul_le_mul_left _ ?_;rw[Nat.add_mul,Nat.mul_assoc];omega
  have h5:(u2+1)*P≤BB*P:=Nat.mul_le_mul_right _ hu2;rw[Nat.add_mul,Nat.mul_assoc top]at hU;rw[Nat.add_mul]at h3 h5;omega
 exact h2
theorem JW {U V P V2 Vr T3 Ur D:Nat}(hU:U=T3*P+Ur)(hV:V=V2*P+Vr)(hUr:Ur<P)(hD:T3<D*V2):U/V<D:=by
 have h1:=Nat.div_mul_le_self U V
 generalize U/V=q at h1⊢
 rcases Nat.lt_or_ge q D with h2|h2
 ·exact h2
 exfalso
 have h3:D*V2≤q*V2:=Nat.mul_le_mul_right _ h2;have h4:(T3+1)*P≤q*V2*P:=Nat.mul_le_mul_right _ (by omega);have h5:q*V2*P≤q*V:=by rw[hV,Nat.mul_assoc];exact Nat.mul_le_mul_left _ (by omega)
 rw[Nat.add_mul]at h4;omega
theorem Mu {U V P V2 Vr T3 Ur D:Nat}(hU:U=T3*P+Ur)(hV:V=V2*P+Vr)(hVr:Vr<P)(hD:D*V2≤T3)(hl:D≤V2)(hV0:0<V):D≤U/V+1:=by
 rcases Nat.lt_or_ge (U/V+1) D with h|h
 ·exfalso
  have h1:U<(U/V+1)*V:=by
   have e:=Nat.div_add_mod U V;have l:=Nat.mod_lt U hV0;rw[Nat.add_mul,Nat.mul_comm (U/V)];omega
  generalize U/V=q at h h1
  have h2:(q+1)*V≤(q+1)*((V2+1)*P):=Nat.mul_le_mul_left _ (by rw[hV,Nat.add_mul];omega);have h3:D*V2*P≤T3*P:=Nat.mul_le_mul_right _ hD;have h4:D*V2*P<(q+1)*(V2+1)*P:=by rw[Nat.mul_assoc (q+1)];omega
  have h5:D*V2<(q+1)*(V2+1):=Nat.lt_of_mul_lt_mul_right h4;have h6:(q+2)*V2≤D*V2:=Nat.mul_le_mul_right _ h;have e1:(q+2)*V2=q*V2+2*V2:=Nat.add_mul _ _ _;have e2:(q+1)*(V2+1)=q*V2+V2+q+1:=by rw[Nat.add_mul,Nat.mul_add];omega
  omega
 exact h
end Go.Eng
namespace Go.Proofs.YtgalhjhdgkoemaaGreat
open Go Go.Eng
theorem wu {a b:Nat}(ha:a<2^32)(hb:b<2^32):fX .or .u32 (a:Int) (b:Int)=((a|||b:Nat):Int):=by
 have hab:a|||b<2^32:=Nat.or_lt_two_pow ha hb
 show IntKind.u32.wrap ((BitVec.ofInt 32 (a:Int)|||BitVec.ofInt 32 (b:Int)).toNat:Int)=_
 simp only[BitVec.ofInt_natCast,BitVec.toNat_or,BitVec.toNat_ofNat];rw[Nat.mod_eq_of_lt ha,Nat.mod_eq_of_lt hb,IntKind.wrap_u32];omega
theorem Dy {w n:Nat}(hn:n≤32):(w*2^n)%BB=2^n*(w%2^(32-n)):=by
 have:BB=2^n*2^(32-n):=by rw[←Nat.pow_add,show n+(32-n)=32 by omega];rfl
 rw[this,Nat.mul_comm w,Nat.mul_mod_mul_left]
theorem BY {w n o:Nat}(hn:n<32)(ho:o<2^n):fX .or .u32 (o:Int) (((w*2^n)%BB:Nat):Int)=((o+(w*2^n)%BB:Nat):Int)∧o+(w*2^n)%BB<BB:=by
 have h1:2^n≤2^31:=Nat.pow_le_pow_right (by decide) (by omega);have hm:=bd (w*2^n);have e:=Nat.two_pow_add_eq_or_of_lt ho (w%2^(32-n));rw[←Dy (by omega)]at e
 have e3:o|||(w*2^n)%BB=o+(w*2^n)%BB:=by rw[Nat.or_comm,←e,Nat.add_comm]
 have h2:o|||(w*2^n)%BB<2^32:=Nat.or_lt_two_pow (by omega) (by omega)
 rw[e3]at h2;refine⟨by rw[wu (by omega) (by omega),e3],h2⟩
structure kM (a n i:Nat) (zs:List Int):Prop where
 le:i≤nl a
 len:zs.length=nl a+1
 inr:bF zs
 eq:val zs=(a%BB^i)*2^n
theorem kM.init (a n:Nat):kM a n 0 (List.replicate (nl a+1) 0):=⟨Nat.zero_le _,by simp,bF.replicate _,by rw[cA];simp[Nat.mod_one]⟩
def L5 (a n i:Nat):Nat:=(a%BB^i)*2^n/BB^i
theorem kM.get {a n i:Nat}{zs:List Int}(h:kM a n i zs)(hn:n<32):zs.getD i 0=(L5 a n i:Nat)∧L5 a n i<2^n∧zs.getD (i+1) 0=0:=by
 have hp:0<BB^i:=Nat.pow_pos (by decide);have h1:L5 a n i<2^n:=by
  unfold L5;rw[Nat.div_lt_iff_lt_mul hp,Nat.mul_comm];exact Nat.mul_lt_mul_of_pos_left (Nat.mod_lt _ hp) (Nat.pow_pos (by decide))
 have h2:2^n≤2^31:=Nat.pow_le_pow_right (by decide) (by omega);have h3:L5 a n i<BB:=by unfold BB;omega
 refine⟨?_,h1,?_⟩
 ·rw[da h.inr,h.eq]
  show((L5 a n i%BB:Nat):Int)=_
  rw[Nat.mod_eq_of_lt h3]
 rw[da h.inr,h.eq,Nat.pow_succ,←Nat.div_div_eq_div_mul]
 show((L5 a n i/BB%BB:Nat):Int)=0
 rw[Nat.div_eq_of_lt h3];rfl
theorem N7 {P o v1 v2 A Z W:Nat}(e1:A+P*o=Z+P*v1)(e2:W=A+P*(BB*v2)):W+P*o=Z+P*v1+P*(BB*v2):=by omega
theorem O8 {zs:List Int}{i o v1 v2:Nat}(hr:bF zs)(hl:i+1<zs.length)(ho:zs.getD i 0=(o:Int))(hz:zs.getD (i+1) 0=0)(h1:v1<4294967296)(h2:v2<4294967296):
  bF ((zs.set i (v1:Int)).set (i+1) (v2:Int))∧val ((zs.set i (v1:Int)).set (i+1) (v2:Int))+BB^i*o=val zs+BB^i*v1+BB^i*(BB*v2):=by
 refine⟨(hr.set _ ⟨by omega,by omega⟩).set _ ⟨by omega,by omega⟩,?_⟩;have e1:val (zs.set i (v1:Int))+BB^i*o=val zs+BB^i*v1:=by
  have e:=dK (xs:=zs) (i:=i) (x:=(v1:Int)) (by omega);rw[ho]at e;exact e
 have e2:val ((zs.set i (v1:Int)).set (i+1) (v2:Int))=val (zs.set i (v1:Int))+BB^i*(BB*v2):=by
  have e:=dK (xs:=zs.set i (v1:Int)) (i:=i+1) (x:=(v2:Int)) (by rw[List.length_set];exact hl);rw[getD_set_ne (by omega),hz,Nat.pow_succ,Nat.mul_assoc,Nat.mul_assoc]at e;exact e
 exact N7 e1 e2
theorem kM.put {a n i:Nat}{zs:List Int}(h:kM a n i zs)(hn:n<32)(hi:i<nl a):
  kM a n (i+1) ((zs.set i ((L5 a n i+(a/BB^i%BB*2^n)%BB:Nat):Int)).set (i+1) (((a/BB^i%BB*2^n)/BB%BB:Nat):Int)):=by
 obtain⟨g1,g2,g3⟩:=h.get hn;obtain⟨_,g4⟩:=BY (w:=a/BB^i%BB) hn g2;have h2:2^n≤2^31:=Nat.pow_le_pow_right (by decide) (by omega);have h4:a/BB^i%BB*2^n/BB<BB:=by
  rw[Nat.div_lt_iff_lt_mul (by decide)];exact Nat.lt_of_le_of_lt (Nat.mul_le_mul_left _ (Nat.le_trans h2 (by decide:2^31≤BB))) (Nat.mul_lt_mul_of_pos_right (bd _) (by decide))
 rw[Nat.mod_eq_of_lt h4];obtain⟨k1,k2⟩:=O8 h.inr (by rw[h.len];omega) g1 g3 g4 h4;refine⟨hi,by simp only[List.length_set];exact h.len,k1,?_⟩;have e4:(a%BB^(i+1))*2^n=(a%BB^i)*2^n+BB^i*(a/BB^i%BB*2^n):=by
  rw[eJ a i,Nat.add_mul,Nat.mul_assoc]
 rw[e4,←h.eq]
 generalize a/BB^i%BB*2^n=X at k2⊢
 have e5:=Nat.div_add_mod X BB;have e6:BB^i*X=BB^i*(BB*(X/BB))+BB^i*(X%BB):=by rw[←Nat.mul_add,e5]
 rw[Nat.mul_add]at k2;omega
theorem pU (n:Nat):(2:Int)^n=((2^n:Nat):Int):=by simp
theorem LX {w n:Nat}(hw:w<BB)(hn:n<32):w*2^n<9223372036854775808:=by
 have h2:2^n≤2^31:=Nat.pow_le_pow_right (by decide) (by omega);exact Nat.lt_of_le_of_lt (Nat.mul_le_mul_left _ h2) (Nat.mul_lt_mul_of_pos_right hw (by decide))
theorem kM.done {a n:Nat}{zs:List Int}(h:kM a n (nl a) zs):zs=iq (nl a+1) (a*2^n):=
 rF h.inr h.len (by rw[h.eq,gT (Nat.le_refl _)])
theorem lQ (a n:Nat)(ha:nl a<2^40)(hn:n<32):Fr Tryz.prog 218 [.one (.ints .u32 (ak a)),.one (.int .i64 n)] (.ints 137 .u32 (iq (nl a+1) (a*2^n))):=by
 have hn':n≤64:=by omega
 refine fw Tryz.func218 ⟨[0,1,4,5,6,7,8,13,14,15,16],[]⟩ ?_;simp only[Tryz.f218,Tryz.ntmps218,iz,seval];simp only[vx,T,seval]
 simp(disch:=omega) only[lG,←X2,←Int.natCast_mul,Int.toNat_natCast,IntWalk.i64_in,IntWalk.u64_in,aA,aE,true_and,and_true]
 refine⟨⟨by omega,by omega,by omega,by omega⟩,Lk (fun i:{i:Nat×List Int//kM a n i.1 i.2}=>⟨[(0,.one (.ints .u32 (ak a))),(1,.one (.int .i64 n)),(5,.one (.own 1 1 0 (nl a+1))),(13,.one (.ints .u32 (ak a))),(14,.one (.int .i64 (nl a))),(15,.one (.int .i64 i.1.1))],[(1,⟨.ints 137 .u32 i.1.2,true⟩)],2,41⟩) (fun i=>nl a-i.1.1) ⟨(0,_),kM.init a n⟩ ?_ (fun⟨⟨i,zs⟩,hi⟩=>?_)⟩
 ·refine Sa ?_;simp only[ry,seval,rz];rw[show ((nl a:Int)+1).toNat=nl a+1 by omega];exact⟨rfl,rfl⟩
 have h1:=hi.le;have h2:=hi.len;obtain⟨g1,g2,g3⟩:=hi.get hn;simp only at h1 h2 g1 g2 g3;simp only[vx,T,seval,hn'];refine⟨fun h=>Lg ?_,fun h=>Lg ?_⟩
 ·simp only[vx,T,seval,hn'];have hy:=bd (a/BB^i);have g4:=LX hy hn;have g5:=(BY (w:=a/BB^i%BB) hn g2).1
  simp(disch:=omega) only[lG,←X2,←Int.natCast_mul,Int.toNat_natCast,IntWalk.i64_in,IntWalk.u64_in,aA,aE,true_and,and_true,pU,g1,g5]
  refine⟨by omega,by omega,by omega,by omega,by omega,Lq ⟨(i+1,_),hi.put hn (by simp only;omega)⟩ ?_ ?_⟩
  ·refine Sa ?_;simp only[ry,seval,rz];rw[show ((i:Int)+1).toNat=i+1 by omega]
  simp only;omega
 simp only[vx,T,seval];have hia:i=nl a:=by omega
 subst hia;exact⟨(aK _ _).symm,rfl,hi.done⟩
theorem ob (a n:Nat)(ha:nl a<2^40)(hn:n<32):Fr Tryz.prog 199 [.one (.ints .u32 (ak a)),.one (.int .i64 n)] (.ints 137 .u32 (iq (nl a+1) (a*2^n))):=by
 have hn':n≤64:=by omega
 refine fw Tryz.func199 ⟨[0,1,4,5,6,7,15],[]⟩ ?_;simp only[Tryz.f199,Tryz.ntmps199,iz,seval];simp only[vx,T,seval]
 simp(disch:=omega) only[lG,←X2,←Int.natCast_mul,Int.toNat_natCast,IntWalk.i64_in,IntWalk.u64_in,aA,aE,true_and,and_true]
 refine⟨⟨by omega,by omega,by omega,by omega⟩,Lk (fun i:{i:Nat×List Int//kM a n i.1 i.2}=>⟨[(0,.one (.ints .u32 (ak a))),(1,.one (.int .i64 n)),(5,.one (.own 1 1 0 (nl a+1))),(6,.one (.int .i64 i.1.1))],[(1,⟨.ints 137 .u32 i.1.2,true⟩)],2,43⟩) (fun i=>nl a-i.1.1) ⟨(0,_),kM.init a n⟩ ?_ (fun⟨⟨i,zs⟩,hi⟩=>?_)⟩
 ·refine Sa ?_;simp only[ry,seval,rz];rw[show ((nl a:Int)+1).toNat=nl a+1 by omega];exact⟨rfl,rfl⟩
 have h1:=hi.le;have h2:=hi.len;obtain⟨g1,g2,g3⟩:=hi.get hn;simp only at h1 h2 g1 g2 g3;simp only[vx,T,seval,hn'];refine⟨fun h=>Lg ?_,fun h=>Lg ?_⟩
 ·simp only[vx,T,seval,hn'];have hy:=bd (a/BB^i);have g4:=LX hy hn;have g5:=(BY (w:=a/BB^i%BB) hn g2).1
  simp(disch:=omega) only[lG,←X2,←Int.natCast_mul,Int.toNat_natCast,IntWalk.i64_in,IntWalk.u64_in,aA,aE,true_and,and_true,pU,g1,g5]
  refine⟨by omega,by omega,by omega,by omega,by omega,Lq ⟨(i+1,_),hi.put hn (by simp only;omega)⟩ ?_ ?_⟩
  ·refine Sa ?_;simp only[ry,seval,rz];rw[show ((i:Int)+1).toNat=i+1 by omega]
  simp only;omega
 simp only[vx,T,seval];have hia:i=nl a:=by omega
 subst hia;exact⟨(aK _ _).symm,rfl,hi.done⟩
end Go.Proofs.YtgalhjhdgkoemaaGreat
/-
  Words shifted to the right.
-/
namespace Go.Eng
theorem pQ {n:Nat}(hn:n≤32):BB=2^n*2^(32-n):=by
 rw[←Nat.pow_add,show n+(32-n)=32 by omega];rfl
theorem nJ {n:Nat}(hn:n≤32):BB=2^(32-n)*2^n:=by rw[pQ hn,Nat.mul_comm]
theorem Kc (w Y n:Nat)(hn:n≤32):(w+BB*Y)/2^n=w/2^n+2^(32-n)*Y:=by
 rw[pQ hn,Nat.mul_assoc,Nat.add_mul_div_left _ _ (Nat.pow_pos (by decide))]
theorem D3 (w n:Nat)(hn:n≤32)(hw:w<BB):w/2^n<2^(32-n):=by
 rw[Nat.div_lt_iff_lt_mul (Nat.pow_pos (by decide)),←nJ hn];exact hw
theorem yn (w Y n:Nat)(hn:n≤32)(hw:w<BB):(w+BB*Y)/2^n%BB=w/2^n+2^(32-n)*(Y%2^n):=by
 rw[Kc w Y n hn]
 generalize hr:w/2^n=r
 have h:=D3 w n hn hw;rw[hr]at h;rw[nJ hn,Nat.mod_mul,Nat.add_mul_mod_self_left,Nat.mod_eq_of_lt h,Nat.add_mul_div_left _ _ (Nat.pow_pos (by decide)),Nat.div_eq_of_lt h,Nat.zero_add]
theorem Ko (X n:Nat)(hn:n≤32):X/2^n%BB=X%BB/2^n+(X/BB%BB*2^(32-n))%BB:=by
 have hw:X%BB<BB:=Nat.mod_lt _ (by decide);have e:X/2^n%BB=(X%BB+BB*(X/BB))/2^n%BB:=by rw[Nat.mod_add_div]
 rw[e,yn _ _ n hn hw,Nat.mul_comm (X/BB%BB)]
 congr 1
 rw[nJ hn,Nat.mul_mod_mul_left,←nJ hn,pQ hn,Nat.mod_mul_right_mod]
theorem Is (X n:Nat)(hn:n≤32):(X%BB+X/BB%BB*BB)/2^n%BB=X/2^n%BB:=by
 have hw:X%BB<BB:=Nat.mod_lt _ (by decide);rw[Nat.mul_comm (X/BB%BB),yn _ _ n hn hw];have e:X/2^n%BB=(X%BB+BB*(X/BB))/2^n%BB:=by rw[Nat.mod_add_div]
 rw[e,yn _ _ n hn hw]
 congr 2
 rw[pQ hn,Nat.mod_mul_right_mod]
structure gL (a n l i:Nat) (zs:List Int):Prop where
 le:i≤l
 len:zs.length=l
 inr:bF zs
 eq:val zs=(a/2^n)%BB^i
theorem gL.init (a n l:Nat):gL a n l 0 (List.replicate l 0):=⟨Nat.zero_le _,by simp,bF.replicate _,by rw[cA];simp[Nat.mod_one]⟩
theorem kN (y i:Nat):y%BB^(i+1)=y%BB^i+BB^i*(y/BB^i%BB):=by
 rw[Nat.pow_succ,Nat.mod_mul]
theorem gL.get {a n l i:Nat}{zs:List Int}(h:gL a n l i zs):zs.getD i 0=0:=by
 rw[da h.inr,h.eq,Nat.div_eq_of_lt (Nat.mod_lt _ (Nat.pow_pos (by decide)))];rfl
theorem gL.put {a n l i:Nat}{zs:List Int}(h:gL a n l i zs)(hi:i<l){d:Nat}(hd:a/BB^i/2^n%BB=d):gL a n l (i+1) (zs.set i (d:Int)):=by
 have hl:i<zs.length:=by rw[h.len];exact hi
 have hd2:d<BB:=by rw[←hd];exact Nat.mod_lt _ (by decide)
 have e:=dK (xs:=zs) (i:=i) (x:=(d:Int)) hl;rw[h.get]at e;simp only[Int.toNat_zero,Nat.mul_zero,Nat.add_zero,Int.toNat_natCast]at e;refine⟨hi,by rw[List.length_set];exact h.len,h.inr.set _ ⟨by omega,by unfold BB at hd2;omega⟩,?_⟩;rw[e,h.eq,kN]
 congr 2
 rw[←hd,Nat.div_div_eq_div_mul,Nat.div_div_eq_div_mul,Nat.mul_comm]
theorem gL.done {a n l:Nat}{zs:List Int}(h:gL a n l l zs)(hl:a<BB^l):zs=iq l (a/2^n):=
 rF h.inr h.len (by rw[h.eq,Nat.mod_eq_of_lt (Nat.lt_of_le_of_lt (Nat.div_le_self _ _) hl)])
theorem jn {l n:Nat}(h:n<BB^l):val (iq l n)=n:=by rw[jX,Nat.mod_eq_of_lt h]
end Go.Eng
namespace Go.Proofs.YtgalhjhdgkoemaaGreat
open Go Go.Eng
theorem LJ {w n o:Nat}(hn:n≤32)(ho:o<2^n):fX .or .u32 (o:Int) (((w*2^n)%BB:Nat):Int)=((o+(w*2^n)%BB:Nat):Int):=by
 have h1:2^n≤2^32:=Nat.pow_le_pow_right (by decide) hn;have hm:=bd (w*2^n);have e:=Nat.two_pow_add_eq_or_of_lt ho (w%2^(32-n));rw[←Dy (by omega)]at e
 have e3:o|||(w*2^n)%BB=o+(w*2^n)%BB:=by rw[Nat.or_comm,←e,Nat.add_comm]
 rw[wu (by omega) (by omega),e3]
theorem sC (s m:Nat):(s:Int).fdiv (m:Int)=((s/m:Nat):Int):=by
 rw[Int.fdiv_eq_ediv_of_nonneg _ (by omega)];rfl
theorem qB {a b:Nat}(ha:a<2^64)(hb:b<2^64):fX .or .u64 (a:Int) (b:Int)=((a|||b:Nat):Int):=by
 have hab:a|||b<2^64:=Nat.or_lt_two_pow ha hb
 show IntKind.u64.wrap ((BitVec.ofInt 64 (a:Int)|||BitVec.ofInt 64 (b:Int)).toNat:Int)=_
 simp only[BitVec.ofInt_natCast,BitVec.toNat_or,BitVec.toNat_ofNat];rw[Nat.mod_eq_of_lt ha,Nat.mod_eq_of_lt hb,aR];omega
theorem Kh {w u:Nat}(hw:w<BB)(hu:u<BB):fX .or .u64 (w:Int) ((u:Int)*4294967296)=((w+u*BB:Nat):Int):=by
 rw[show ((u:Int)*4294967296)=((u*4294967296:Nat):Int) by omega];unfold BB at*
 have e:=Nat.two_pow_add_eq_or_of_lt (i:=32) (b:=w) (by omega) u;rw[qB (by omega) (by omega)];have e2:u*4294967296=2^32*u:=Nat.mul_comm _ _;rw[e2,Nat.or_comm,←e,Nat.add_comm]
theorem zA {zs:List Int}{i:Nat}{x:Int}(h:i<zs.length):(zs.set i x).getD i 0=x:=by
 rw[X7,List.getElem?_set_self h];rfl
theorem Jj {w k:Nat}(hw:w<BB)(hk:k≤32):w*2^k<18446744073709551616:=by
 have h1:w*2^k≤4294967295*4294967296:=Nat.mul_le_mul (by unfold BB at hw;omega) (Nat.pow_le_pow_right (by decide) hk);omega
theorem xQ (i:Nat):((i:Int)+1).toNat=i+1:=by omega
theorem nd (a i:Nat):a/BB^(i+1)%BB=a/BB^i/BB%BB:=by
 rw[Nat.pow_succ,Nat.div_div_eq_div_mul]
theorem um {a i:Nat}(h:nl a≤i):a/BB^i=0:=Nat.div_eq_of_lt (cj.1 h)
theorem qK (n:Nat):(2:Int)^n=((2^n:Nat):Int):=by simp
theorem kE (a n:Nat)(ha:nl a<2^40)(hn:n<32):Fr Tryz.prog 221 [.one (.ints .u32 (ak a)),.one (.int .i64 n)] (.ints 137 .u32 (iq (nl a) (a/2^n))):=by
 have hn':n≤32:=by omega
 have hn2:IntKind.i64.wrap (32-(n:Int))=32-(n:Int):=IntWalk.i64_in _ (by omega);have hn3:(32-(n:Int)).toNat=32-n:=by omega
 have hn4:32-n≤64:=by omega
 refine fw Tryz.func221 ⟨[0,1,4,5,6,7,11,12,13,14,28],[]⟩ ?_;simp only[Tryz.f221,Tryz.ntmps221,iz,seval];simp only[vx,T,seval];refine⟨⟨by omega,by omega,by omega,by omega⟩,Lk (fun i:{i:Nat×List Int//gL a n (nl a) i.1 i.2}=>⟨[(0,.one (.ints .u32 (ak a))),(1,.one (.int .i64 n)),(5,.one (.own 1 1 0 (nl a))),(11,.one (.ints .u32 (ak a))),(12,.one (.int .i64 (nl a))),(13,.one (.int .i64 i.1.1))],[(1,⟨.ints 137 .u32 i.1.2,true⟩)],2,47⟩) (fun i=>nl a-i.1.1) ⟨(0,_),gL.init a n (nl a)⟩ ?_ (fun⟨⟨i,zs⟩,hi⟩=>?_)⟩
 ·refine Sa ?_;simp only[ry,seval,rz]
 have h1:=hi.le;have h2:=hi.len;have g1:=hi.get;simp only at h1 h2 g1;simp only[vx,T,seval,hn',hn2,hn3,hn4];refine⟨fun h=>Lg ?_,fun h=>Lg ?_⟩
 ·simp only[vx,T,seval,hn',hn2,hn3,hn4];have hy:=bd (a/BB^i);have hd:=Ko (a/BB^i) n hn';have hl:=D3 _ n hn' hy;have hq:=Nat.div_le_self (a/BB^i%BB) (2^n)
  simp(disch:=omega) only[lG,←X2,←Int.natCast_mul,Int.toNat_natCast,IntWalk.i64_in,IntWalk.u64_in,aA,aE,true_and,and_true,pU,sC]
  refine⟨by omega,by omega,by omega,?_⟩;refine⟨fun h3=>Lg ?_,fun h3=>Lg ?_⟩
  ·simp only[vx,T,seval,hn',hn2,hn3,hn4];have h4:=zA (zs:=zs) (i:=i) (x:=((a/BB^i%BB/2^n:Nat):Int)) (by omega);have h5:=bd (a/BB^(i+1));have h6:=Jj (k:=32-n) h5 (Nat.sub_le 32 n);have h7:=LJ (w:=a/BB^(i+1)%BB) (n:=32-n) (by omega) hl;rw[←nd]at hd
   simp(disch:=omega) only[lG,←X2,←Int.natCast_mul,Int.toNat_natCast,IntWalk.i64_in,IntWalk.u64_in,aA,aE,true_and,and_true,xQ,h4,qK]
   rw[h7];refine⟨by omega,by omega,by omega,by omega,Lq ⟨(i+1,_),hi.put (by simp only;omega) hd⟩ ?_ ?_⟩
   ·refine Sa ?_;simp only[ry,seval,rz];rw[List.set_set]
   simp only;omega
  simp only[vx,T,seval,hn',hn2,hn3,hn4];rw[←nd,um (a:=a) (i:=i+1) (by omega)]at hd;simp only[Nat.zero_mod,Nat.zero_mul,Nat.add_zero]at hd
  simp(disch:=omega) only[lG,←X2,←Int.natCast_mul,Int.toNat_natCast,IntWalk.i64_in,IntWalk.u64_in,aA,aE,true_and,and_true,xQ]
  refine Lq ⟨(i+1,_),hi.put (by simp only;omega) hd⟩ ?_ ?_
  ·refine Sa ?_;simp only[ry,seval,rz]
  simp only;omega
 simp only[vx,T,seval];have hia:i=nl a:=by omega
 subst hia;exact⟨(aK _ _).symm,rfl,hi.done (b7 a)⟩
theorem Bt (a n:Nat)(ha:nl a<2^40)(hn:n<32):Pr Tryz.prog 201 [.one (.ints .u32 (ak a)),.one (.int .i64 n)] (.one (.ints .u32 (ak (a/2^n)))):=by
 have hn':n≤64:=by omega
 refine pw Tryz.func201 ⟨[0,1,4,5,6,7,14,26],[]⟩ ?_;simp only[Tryz.f201,Tryz.ntmps201,iz,seval];simp only[vx,T,seval];refine⟨⟨by omega,by omega,by omega,by omega⟩,Lk (fun i:{i:Nat×List Int//gL a n (nl a) i.1 i.2}=>⟨[(0,.one (.ints .u32 (ak a))),(1,.one (.int .i64 n)),(5,.one (.own 1 1 0 (nl a))),(6,.one (.int .i64 i.1.1))],[(1,⟨.ints 137 .u32 i.1.2,true⟩)],2,45⟩) (fun i=>nl a-i.1.1) ⟨(0,_),gL.init a n (nl a)⟩ ?_ (fun⟨⟨i,zs⟩,hi⟩=>?_)⟩
 ·refine Sa ?_;simp only[ry,seval,rz]
 have h1:=hi.le;have h2:=hi.len;have g1:=hi.get;simp only at h1 h2 g1;simp only[vx,T,seval,hn'];refine⟨fun h=>Lg ?_,fun h=>Lg ?_⟩
 ·simp only[vx,T,seval,hn'];have hy:=bd (a/BB^i);have hd:=Is (a/BB^i) n (by omega)
  simp(disch:=omega) only[lG,←X2,←Int.natCast_mul,Int.toNat_natCast,IntWalk.i64_in,IntWalk.u64_in,aA,aE,true_and,and_true,pU,sC]
  refine⟨by omega,?_⟩;refine⟨fun h3=>Lg ?_,fun h3=>Lg ?_⟩
  ·simp only[vx,T,seval,hn'];have h5:=bd (a/BB^(i+1));have h7:=Kh hy h5;rw[←nd]at hd
   simp(disch:=omega) only[lG,←X2,←Int.natCast_mul,Int.toNat_natCast,IntWalk.i64_in,IntWalk.u64_in,aA,aE,true_and,and_true,xQ]
   simp only[h7,qK,sC,aA,hd];refine⟨by omega,by omega,by omega,Lq ⟨(i+1,_),hi.put (by simp only;omega) rfl⟩ ?_ ?_⟩
   ·refine Sa ?_;simp only[ry,seval,rz]
   simp only;omega
  simp only[vx,T,seval,hn'];rw[←nd,um (a:=a) (i:=i+1) (by omega)]at hd;simp only[Nat.zero_mod,Nat.zero_mul,Nat.add_zero]at hd
  simp(disch:=omega) only[lG,←X2,←Int.natCast_mul,Int.toNat_natCast,IntWalk.i64_in,IntWalk.u64_in,aA,aE,true_and,and_true,xQ]
  simp only[qK,sC,aA,hd];refine⟨by omega,by omega,Lq ⟨(i+1,_),hi.put (by simp only;omega) rfl⟩ ?_ ?_⟩
  ·refine Sa ?_;simp only[ry,seval,rz]
  simp only;omega
 simp only[vx,T,seval];have hia:i=nl a:=by omega
 subst hia;have hr:=hi.inr;have hv:=hi.done (b7 a);simp only at hr hv;have hv2:val zs=a/2^n:=by rw[hv,jn (Nat.lt_of_le_of_lt (Nat.div_le_self _ _) (b7 a))]
 rw[List.take_of_length_le (by omega)];refine Cg (bO _ hr (by omega)) ?_;rw[hv2];simp only[vx,T,seval];refine Va ?_;simp only[cO,aV,ry,seval]
end Go.Proofs.YtgalhjhdgkoemaaGreat
/-
  The law of the long division.
-/
namespace Go.Eng
def bl (x:Nat):Nat:=if h:x=0 then 0 else 1+bl (x/2)
termination_by x
decreasing_by omega
theorem sA:bl 0=0:=by rw[bl];rfl
theorem A1 {x:Nat}(h:0<x):bl x=1+bl (x/2):=by rw[bl,dif_neg (by omega)]
theorem yp (x:Nat)(h:0<x):2^(bl x-1)≤x∧x<2^bl x∧0<bl x:=by
 induction x using Nat.strongRecOn with
 |_ x ih=>
  rw[A1 h]
  by_cases h2:x/2=0
  ·rw[h2,sA]
   have:x=1:=by omega
   subst this;decide
  obtain⟨h3,h4,h5⟩:=ih (x/2) (by omega) (by omega);have e:1+bl (x/2)-1=(bl (x/2)-1)+1:=by omega
  rw[e,Nat.pow_succ,Nat.add_comm 1,Nat.pow_succ];omega
theorem AN {x k:Nat}(h:x<2^k):bl x≤k:=by
 rcases Nat.eq_zero_or_pos x with h0|h0
 ·subst h0;rw[sA];omega
 obtain⟨h3,_,h5⟩:=yp x h0
 rcases Nat.lt_or_ge k (bl x)with h1|h1
 ·have:2^k≤2^(bl x-1):=Nat.pow_le_pow_right (by decide) (by omega)
  omega
 exact h1
def eX (b:Nat):Nat:=b/BB^(nl b-1)
def j3 (b:Nat):Nat:=32-bl (eX b)
theorem gM {b:Nat}(h:0<b):0<eX b∧eX b<BB:=by
 have h1:=dZ.2 h;have hp:0<BB^(nl b-1):=Nat.pow_pos (by decide);refine⟨Nat.div_pos (uV h) hp,?_⟩;unfold eX;rw[Nat.div_lt_iff_lt_mul hp,Nat.mul_comm,←Nat.pow_succ,show (nl b-1).succ=nl b by omega];exact b7 b
theorem ko {b:Nat}(h:0<b):b/BB^(nl b-1)%BB=eX b:=Nat.mod_eq_of_lt (gM h).2
theorem uu {b:Nat}(h:0<b):j3 b<32∧b*2^j3 b<BB^nl b∧BB^nl b≤2*(b*2^j3 b):=by
 obtain⟨t1,t2⟩:=gM h;obtain⟨b1,b2,b3⟩:=yp _ t1;have b4:bl (eX b)≤32:=AN (by unfold BB at t2;omega);have h1:=dZ.2 h;have hp:0<BB^(nl b-1):=Nat.pow_pos (by decide);have e1:=Nat.div_add_mod b (BB^(nl b-1));have e2:=Nat.mod_lt b hp;have eB:BB^nl b=BB^(nl b-1)*(2^bl (eX b)*2^j3 b):=by
  have e3:2^bl (eX b)*2^j3 b=BB:=by rw[←Nat.pow_add];unfold j3;rw[show bl (eX b)+(32-bl (eX b))=32 by omega];rfl
  rw[e3,←Nat.pow_succ,show (nl b-1).succ=nl b by omega]
 refine⟨by unfold j3;omega,?_,?_⟩
 ·rw[eB,←Nat.mul_assoc];refine Nat.mul_lt_mul_of_pos_right ?_ (Nat.pow_pos (by decide))
  have:BB^(nl b-1)*(eX b+1)≤BB^(nl b-1)*2^bl (eX b):=Nat.mul_le_mul_left _ b2
  rw[Nat.mul_add]at this;unfold eX at*
  omega
 rw[eB,←Nat.mul_assoc,←Nat.mul_assoc];refine Nat.mul_le_mul_right _ ?_;have e5:2^bl (eX b)=2*2^(bl (eX b)-1):=by
  rw[Nat.mul_comm,←Nat.pow_succ];congr 1;omega
 rw[e5]
 have:BB^(nl b-1)*2^(bl (eX b)-1)≤BB^(nl b-1)*eX b:=Nat.mul_le_mul_left _ b1
 rw[Nat.mul_left_comm];have e6:BB^(nl b-1)*eX b≤b:=Nat.mul_div_le _ _;omega
theorem IY {b:Nat}(h:0<b):nl (b*2^j3 b)=nl b:=by
 obtain⟨_,h2,h3⟩:=uu h;have h1:=dZ.2 h;have h4:=aB h2
 rcases Nat.lt_or_ge (nl (b*2^j3 b)) (nl b)with h5|h5
 ·have h6:b*2^j3 b<BB^(nl b-1):=cj.1 (by omega);have e:BB^nl b=BB^(nl b-1)*BB:=by rw[←Nat.pow_succ];congr 1;omega
  have h7:BB^(nl b-1)*2≤BB^(nl b-1)*BB:=Nat.mul_le_mul_left _ (by decide);omega
 omega
structure GX (V n:Nat):Prop where
 nle:nl V=n
 two:2≤n
 big:BB^n≤2*V
theorem GX.pos {V n:Nat}(h:GX V n):0<V:=dZ.1 (by rw[h.nle];have:=h.two;omega)
theorem GX.lt {V n:Nat}(h:GX V n):V<BB^n:=by have:=b7 V;rw[h.nle]at this;exact this
theorem CS {n:Nat}(h:2≤n):BB^(n-1)=BB^(n-2)*BB:=by rw[←Nat.pow_succ];congr 1;omega
theorem ui {n:Nat}(h:1≤n):BB^n=BB^(n-1)*BB:=by rw[←Nat.pow_succ];congr 1;omega
theorem GX.high {V n:Nat}(h:GX V n):BB≤2*(V/BB^(n-1))∧V/BB^(n-1)<BB∧V/BB^(n-2)=V/BB^(n-1)*BB+V/BB^(n-2)%BB:=by
 have hp:0<BB^(n-1):=Nat.pow_pos (by decide);have h2:=h.two;refine⟨?_,?_,?_⟩
 ·have h3:=h.big;rw[ui (by omega)]at h3;have h4:BB/2≤V/BB^(n-1):=by
   rw[Nat.le_div_iff_mul_le hp]
   have:(BB/2)*BB^(n-1)*2=BB^(n-1)*BB:=by
    rw[Nat.mul_comm,←Nat.mul_assoc,show 2*(BB/2)=BB from rfl,Nat.mul_comm]
   omega
  have:BB=2*(BB/2):=rfl
  omega
 ·rw[Nat.div_lt_iff_lt_mul hp,Nat.mul_comm,←ui (by omega)];exact h.lt
 rw[CS h2,←Nat.div_div_eq_div_mul,Nat.mul_comm,Nat.div_add_mod]
structure At (V n i R:Nat):Prop where
 dj:GX V n
 lt:R<V*BB^(i+1)
def q3 (n i R:Nat):Nat:=R/BB^(i+n-2)
theorem At.words {V n i R:Nat}(h:At V n i R):R/BB^(i+n-2)%BB=q3 n i R%BB∧R/BB^(i+n-1)%BB=q3 n i R/BB%BB∧R/BB^(i+n)%BB=q3 n i R/BB/BB∧q3 n i R/BB<BB*BB:=by
 have h2:=h.dj.two;have e1:R/BB^(i+n-1)=q3 n i R/BB:=by
  unfold q3;rw[Nat.div_div_eq_div_mul,←Nat.pow_succ];congr 2;omega
 have e2:R/BB^(i+n)=q3 n i R/BB/BB:=by
  rw[←e1,Nat.div_div_eq_div_mul,←Nat.pow_succ];congr 2;omega
 have hR:R<BB^(i+n+1):=by
  refine Nat.lt_of_lt_of_le h.lt ?_
  have:=Nat.mul_le_mul_right (BB^(i+1)) (Nat.le_of_lt h.dj.lt)
  rw[←Nat.pow_add,show n+(i+1)=i+n+1 by omega]at this;exact this
 have h3:R/BB^(i+n)<BB:=by
  rw[Nat.div_lt_iff_lt_mul (Nat.pow_pos (by decide)),Nat.mul_comm,←Nat.pow_succ];exact hR
 refine⟨rfl,by rw[e1],by rw[Nat.mod_eq_of_lt h3,e2],?_⟩;rw[e2]at h3;exact(Nat.div_lt_iff_lt_mul (by decide)).1 h3
theorem At.U {V n i R:Nat}(h:At V n i R):R/BB^i<V*BB∧R/BB^i=q3 n i R*BB^(n-2)+R/BB^i%BB^(n-2):=by
 have h2:=h.dj.two;refine⟨?_,?_⟩
 ·rw[Nat.div_lt_iff_lt_mul (Nat.pow_pos (by decide)),Nat.mul_assoc,Nat.mul_comm BB,←Nat.pow_succ];exact h.lt
 have e:q3 n i R=R/BB^i/BB^(n-2):=by
  unfold q3;rw[Nat.div_div_eq_div_mul,←Nat.pow_add];congr 2;omega
 rw[e,Nat.mul_comm,Nat.div_add_mod]
structure Dg (V n i R D rest:Nat):Prop where
 top:q3 n i R/BB=D*(V/BB^(n-1))+rest
 ge:R/BB^i/V≤D
 rest:rest<BB
 lt:D<2*BB
theorem Dg.init {V n i R:Nat}(h:At V n i R):Dg V n i R (q3 n i R/BB/(V/BB^(n-1))) (q3 n i R/BB% (V/BB^(n-1))):=by
 obtain⟨h1,h2,h3⟩:=h.dj.high;obtain⟨_,hU⟩:=h.U;obtain⟨_,_,_,h4⟩:=h.words;have hp:0<V/BB^(n-1):=by unfold BB at*;omega
 have hP:0<BB^(n-2):=Nat.pow_pos (by decide);refine⟨by rw[Nat.mul_comm,Nat.div_add_mod],?_,Nat.lt_trans (Nat.mod_lt _ hp) h2,?_⟩
 ·refine KR (P:=BB^(n-2)) (next:=V/BB^(n-2)%BB) (Vr:=V%BB^(n-2)) (u2:=q3 n i R%BB) (Ur:=R/BB^i%BB^(n-2)) ?_ ?_ (Nat.mod_lt _ hP) (Nat.mod_lt _ (by decide)) hp
  ·rw[Nat.mul_comm (q3 n i R/BB),Nat.div_add_mod];exact hU
  rw[←h3,Nat.mul_comm,Nat.div_add_mod]
 rw[Nat.div_lt_iff_lt_mul hp]
 have:BB*BB≤2*BB*(V/BB^(n-1)):=by
  rw[Nat.mul_comm 2,Nat.mul_assoc];exact Nat.mul_le_mul_left _ h1
 omega
theorem Dg.next {V n i R D rest:Nat}(hA:At V n i R)(h:Dg V n i R D rest)(hc:BB≤D∨rest*BB+q3 n i R%BB<D*(V/BB^(n-2)%BB)):
  0<D∧q3 n i R/BB=(D-1)*(V/BB^(n-1))+(rest+V/BB^(n-1))∧R/BB^i/V≤D-1:=by
 obtain⟨h1,h2,h3⟩:=hA.dj.high;obtain⟨hU1,hU⟩:=hA.U;have hV:0<V:=hA.dj.pos;have hP:0<BB^(n-2):=Nat.pow_pos (by decide);have hD:R/BB^i/V<D:=by
  rcases hc with hc|hc
  ·refine Nat.lt_of_lt_of_le ?_ hc;rw[Nat.div_lt_iff_lt_mul hV,Nat.mul_comm];exact hU1
  refine JW (P:=BB^(n-2)) (V2:=V/BB^(n-2)) (Vr:=V%BB^(n-2)) (Ur:=R/BB^i%BB^(n-2)) hU (by rw[Nat.mul_comm,Nat.div_add_mod]) (Nat.mod_lt _ hP) ?_;have e:=Nat.div_add_mod (q3 n i R) BB;rw[h.top]at e;rw[h3,Nat.mul_add,←Nat.mul_assoc];rw[Nat.mul_add,Nat.mul_comm BB,Nat.mul_comm BB rest]at e;omega
 refine⟨Nat.lt_of_le_of_lt (Nat.zero_le _) hD,?_,Nat.le_sub_one_of_lt hD⟩;have hD0:0<D:=Nat.lt_of_le_of_lt (Nat.zero_le _) hD;have e:D*(V/BB^(n-1))=(D-1)*(V/BB^(n-1))+V/BB^(n-1):=by
  rw[←Nat.succ_mul];congr 1;omega
 rw[h.top,e];omega
theorem Dg.fin {V n i R D rest:Nat}(hA:At V n i R)(htop:q3 n i R/BB=D*(V/BB^(n-1))+rest)(hge:R/BB^i/V≤D)(hc:(D<BB∧D*(V/BB^(n-2)%BB)≤rest*BB+q3 n i R%BB)∨BB≤rest):
  D<BB∧R/BB^i/V≤D∧D≤R/BB^i/V+1:=by
 obtain⟨h1,h2,h3⟩:=hA.dj.high;obtain⟨hU1,hU⟩:=hA.U;obtain⟨_,_,w3,h4⟩:=hA.words;have hV:0<V:=hA.dj.pos;have hP:0<BB^(n-2):=Nat.pow_pos (by decide);have e:=Nat.div_add_mod (q3 n i R) BB;have hnext:V/BB^(n-2)%BB<BB:=Nat.mod_lt _ (by decide)
 -- the highest word is not above the divisor's
 have hD:D<BB:=by
  rcases hc with hc|hc
  ·exact hc.1
  rcases Nat.lt_or_ge D BB with hD|hD
  ·exact hD
  exfalso
  have h5:BB*(V/BB^(n-1))≤D*(V/BB^(n-1)):=Nat.mul_le_mul_right _ hD;have h6:q3 n i R/BB<(V/BB^(n-1)+1)*BB:=by
   have h7:R/BB^i/BB^(n-1)=q3 n i R/BB:=by
    unfold q3;have h2':=hA.dj.two;rw[Nat.div_div_eq_div_mul,Nat.div_div_eq_div_mul,←Nat.pow_add,←Nat.pow_succ];congr 2;omega
   rw[←h7,Nat.div_lt_iff_lt_mul (Nat.pow_pos (by decide))];refine Nat.lt_of_lt_of_le hU1 ?_;rw[Nat.mul_right_comm];refine Nat.mul_le_mul_right _ ?_;have e8:=Nat.div_add_mod V (BB^(n-1));have l8:=Nat.mod_lt V (Nat.pow_pos (n:=n-1) (show 0<BB by decide));rw[Nat.add_mul,Nat.mul_comm (V/_)];omega
  rw[Nat.add_mul,Nat.mul_comm (V/_)]at h6;omega
 have hq:D*(V/BB^(n-2))≤q3 n i R:=by
  rw[htop]at e;rw[h3,Nat.mul_add,←Nat.mul_assoc];rw[Nat.mul_add,Nat.mul_comm BB,Nat.mul_comm BB rest]at e
  rcases hc with hc|hc
  ·omega
  have h5:D*(V/BB^(n-2)%BB)≤BB*BB:=Nat.mul_le_mul (Nat.le_of_lt hD) (Nat.le_of_lt hnext);have h6:BB*BB≤rest*BB:=Nat.mul_le_mul_right _ hc;omega
 refine⟨hD,hge,Mu (P:=BB^(n-2)) (V2:=V/BB^(n-2)) (Vr:=V%BB^(n-2)) (Ur:=R/BB^i%BB^(n-2)) hU (by rw[Nat.mul_comm,Nat.div_add_mod]) (Nat.mod_lt _ hP) hq ?_ hV⟩;rw[h3]
 have:BB≤V/BB^(n-1)*BB:=Nat.le_mul_of_pos_left _ (by unfold BB at*;omega)
 omega
theorem At.step {V n i R:Nat}(h:At V n i R):R-BB^i*(R/BB^i/V*V)<V*BB^i∧BB^i*(R/BB^i/V*V)≤R:=by
 have hp:0<BB^i:=Nat.pow_pos (by decide);have e1:=Nat.div_add_mod R (BB^i);have l1:=Nat.mod_lt R hp;have e2:=Nat.div_add_mod (R/BB^i) V;have l2:=Nat.mod_lt (R/BB^i) h.dj.pos;have e3:BB^i*(R/BB^i)=BB^i*(R/BB^i/V*V)+BB^i*(R/BB^i%V):=by
  rw[←Nat.mul_add,Nat.mul_comm (R/BB^i/V),e2]
 have h3:BB^i*(R/BB^i%V+1)≤BB^i*V:=Nat.mul_le_mul_left _ l2;rw[Nat.mul_add]at h3;rw[Nat.mul_comm V]
 generalize R/BB^i=U at*
 generalize R%BB^i=r at*
 generalize U%V=m at*
 generalize U/V*V=x at*
 omega
theorem At.Cy {V n i R D Z:Nat}(h:At V n i R)(hge:R/BB^i/V≤D)(hz:Z+BB^i*(D*V)=R):D=R/BB^i/V∧Z=R-BB^i*(R/BB^i/V*V):=by
 have hD:D≤R/BB^i/V:=by
  rw[Nat.le_div_iff_mul_le h.dj.pos,Nat.le_div_iff_mul_le (Nat.pow_pos (by decide)),Nat.mul_comm];omega
 have:D=R/BB^i/V:=by omega
 subst this;exact⟨rfl,by omega⟩
theorem At.xe {V n i R D Z Z2 k:Nat}(h:At V n i R)(hle:D≤R/BB^i/V+1)(hge:R/BB^i/V≤D)(hZ:Z<BB^(i+n+1))(hZ2:Z2<BB^(i+n+1))(hz:Z+BB^i*(D*V)=R+BB^(i+n+1))(hz2:Z2+BB^(i+n+1)*k=Z+BB^i*V):
  D=R/BB^i/V+1∧Z2=R-BB^i*(R/BB^i/V*V):=by
 obtain⟨s1,s2⟩:=h.step;have hD:D=R/BB^i/V+1:=by
  rcases Nat.lt_or_ge (R/BB^i/V) D with h1|h1
  ·omega
  have:D=R/BB^i/V:=by omega
  subst this;omega
 refine⟨hD,?_⟩;subst hD;rw[Nat.add_mul,Nat.one_mul,Nat.mul_add]at hz;have hV:V*BB^i<BB^(i+n+1):=by
  have h2:V*BB^i<BB^n*BB^i:=Nat.mul_lt_mul_of_pos_right h.dj.lt (Nat.pow_pos (by decide));have h3:BB^(i+n+1)=BB^n*BB^i*BB:=by rw[Nat.pow_succ,Nat.pow_add,Nat.mul_comm (BB^i)]
  have h4:BB^n*BB^i*1≤BB^n*BB^i*BB:=Nat.mul_le_mul_left _ (by decide);omega
 rcases Nat.lt_or_ge k 1 with hk|hk
 ·have:k=0:=by omega
  subst this;rw[Nat.mul_zero]at hz2;omega
 rcases Nat.lt_or_ge k 2 with hk2|hk2
 ·have:k=1:=by omega
  subst this;rw[Nat.mul_one]at hz2;omega
 have:BB^(i+n+1)*2≤BB^(i+n+1)*k:=Nat.mul_le_mul_left _ hk2
 omega
end Go.Eng
namespace Go.Proofs.YtgalhjhdgkoemaaGreat
open Go Go.Eng
theorem Av (n:Nat):iq (nl n) n=ak n:=by
 have h:=xt (bF.ak n);rw[gp]at h;exact h
theorem jP (xs:List Int)(hx:xs.length<2^40):Pr Tryz.prog 114 [.one (.ints .u32 xs)] (.one (.ints .u32 xs)):=by
 refine pw Tryz.func114 ⟨[0,2,4],[]⟩ ?_;simp only[Tryz.f114,Tryz.ntmps114,iz,seval];simp only[vx,T,seval];intro b hb;refine Lg ?_;simp only[vx,T,seval];refine⟨fun h=>Lg ?_,fun h=>Lg ?_⟩
 ·simp only[vx,T,seval];have h0:xs=[]:=by
   cases xs with
   |nil=>rfl
   |cons x xs=>simp at hb;rw[hb]at h;cases h
  refine Va ?_;simp only[cO,aV,ry,seval,h0]
 simp only[vx,T,seval];exact⟨⟨by omega,by omega⟩,jJ.refl _⟩
theorem ph {s x:Nat}(hs:s<BB)(hx:x<BB):fX .or .u64 ((s:Int)*4294967296) (x:Int)=((s*BB+x:Nat):Int):=by
 rw[show ((s:Int)*4294967296)=((s*4294967296:Nat):Int) by omega];unfold BB at*
 have e:=Nat.two_pow_add_eq_or_of_lt (i:=32) (b:=x) (by omega) s;rw[qB (by omega) (by omega)];have e2:s*4294967296=2^32*s:=Nat.mul_comm _ _;rw[e2,←e]
theorem wP (n k:Nat):n/BB^(k+1)*BB+n/BB^k%BB=n/BB^k:=by
 rw[Nat.pow_succ,←Nat.div_div_eq_div_mul,Nat.mul_comm,Nat.div_add_mod]
theorem rQ (n:Nat)(hn:n<2^64):Pr Tryz.prog 196 [.one (.ints .u32 (ak n))] (.one (.int .u64 n)):=by
 have h2:nl n≤2:=aB (by unfold BB;omega);refine pw Tryz.func196 ⟨[0,2,3,4,9],[]⟩ ?_;simp only[Tryz.f196,Tryz.ntmps196,iz,seval];simp only[vx,T,seval]
 simp(disch:=omega) only[lG,←X2,←Int.natCast_mul,Int.toNat_natCast,IntWalk.i64_in,IntWalk.u64_in,aA,aE,true_and,and_true]
 refine Lk (fun i:{i:Nat//i≤nl n}=>⟨[(0,.one (.ints .u32 (ak n))),(3,.one (.int .u64 (n/BB^i.1:Nat))),(4,.one (.int .i64 ((i.1:Int)-1)))],[],2,21⟩) (fun i=>i.1) ⟨nl n,Nat.le_refl _⟩ ?_ (fun⟨i,hi⟩=>?_)
 ·refine Sa ?_;simp only[ry,seval,rz];rw[um (Nat.le_refl _)];rfl
 simp only[vx,T,seval];refine⟨fun h=>Lg ?_,fun h=>Lg ?_⟩
 ·simp only[vx,T,seval];obtain⟨k,rfl⟩:∃k,i=k+1:=⟨i-1,by omega⟩;have e1:((k+1:Nat):Int)-1=k:=by omega
  have h3:=bd (n/BB^k);have h4:n/BB^(k+1)<4294967296:=by
   rw[Nat.div_lt_iff_lt_mul (Nat.pow_pos (by decide)),Nat.pow_succ]
   have:BB^1≤BB^k*BB:=by rw[←Nat.pow_succ];exact Nat.pow_le_pow_right (by decide) (by omega)
   have h5:4294967296*BB^1≤4294967296*(BB^k*BB):=Nat.mul_le_mul_left _ this;unfold BB at h5⊢;omega
  have h5:=ph h4 h3;rw[wP]at h5;have e6:IntKind.u64.wrap (((n/BB^(k+1):Nat):Int)*4294967296)=((n/BB^(k+1):Nat):Int)*4294967296:=by
   generalize n/BB^(k+1)=q at h4⊢
   exact IntWalk.u64_in _ (by omega)
  simp(disch:=omega) only[lG,←X2,←Int.natCast_mul,Int.toNat_natCast,IntWalk.i64_in,IntWalk.u64_in,aA,aE,true_and,and_true,e1,e6,h5]
  refine⟨by omega,Lq ⟨k,by omega⟩ ?_ ?_⟩
  ·refine Sa ?_;simp only[ry,seval,rz]
  simp only;omega
 simp only[vx,T,seval];have hi0:i=0:=by omega
 subst hi0;refine Va ?_;simp only[cO,aV,ry,seval,Nat.pow_zero,Nat.div_one]
theorem o7 (b:Nat)(h0:0<b)(hb:nl b<2^40):Pr Tryz.prog 198 [.one (.ints .u32 (ak b))] (.one (.int .i64 (32*(nl b-1)+bl (eX b):Nat))):=by
 have hn:=dZ.2 h0;have ht:=ko h0;obtain⟨t1,t2⟩:=gM h0;have hbl:bl (eX b)≤32:=AN (by unfold BB at t2;omega);refine pw Tryz.func198 ⟨[0,2,3,4,7,15],[]⟩ ?_;simp only[Tryz.f198,Tryz.ntmps198,iz,seval];simp only[vx,T,seval];refine⟨fun h1=>absurd h1 (by omega),fun h1=>Lg ?_⟩;simp only[vx,T,seval];have e1:IntKind.i64.wrap ((nl b:Int)-1)=((nl b-1:Nat):Int):=by rw[IntWalk.i64_in _ (by omega)];omega
 simp(disch:=omega) only[lG,←X2,←Int.natCast_mul,Int.toNat_natCast,IntWalk.i64_in,IntWalk.u64_in,aA,aE,true_and,and_true,e1,ht]
 refine⟨by omega,Lk (fun x:{x:Nat×Nat//x.1+bl x.2=bl (eX b)∧x.2<BB}=>⟨[(0,.one (.ints .u32 (ak b))),(3,.one (.int .i64 x.1.1)),(4,.one (.int .u32 x.1.2))],[],2,26⟩) (fun x=>x.1.2) ⟨(0,eX b),by simp,t2⟩ ?_ (fun⟨⟨c,x⟩,hx1,hx2⟩=>?_)⟩
 ·refine Sa ?_;simp only[ry,seval,rz]
 simp only at hx1 hx2;have hx3:x<4294967296:=hx2;simp only[vx,T,seval];refine⟨fun h=>Lg ?_,fun h=>Lg ?_⟩
 ·simp only[vx,T,seval];have h4:=A1 (x:=x) (by omega);have e2:IntKind.u32.wrap ((x:Int).tdiv 2)=((x/2:Nat):Int):=by
   have e3:(x:Int).tdiv 2=((x/2:Nat):Int):=rfl;rw[e3,IntWalk.u32_in _ (by omega)]
  simp(disch:=omega) only[lG,←X2,←Int.natCast_mul,Int.toNat_natCast,IntWalk.i64_in,IntWalk.u64_in,aA,aE,true_and,and_true,e2]
  refine Lq ⟨(c+1,x/2),by simp only;omega,by simp only;omega⟩ ?_ ?_
  ·refine Sa ?_;simp only[ry,seval,rz]
  simp only;omega
 simp only[vx,T,seval];have hx0:x=0:=by omega
 subst hx0;rw[sA]at hx1
 simp(disch:=omega) only[lG,←X2,←Int.natCast_mul,Int.toNat_natCast,IntWalk.i64_in,IntWalk.u64_in,aA,aE,true_and,and_true,e1]
 refine Ve ?_
 congr 2
 omega
end Go.Proofs.YtgalhjhdgkoemaaGreat
