/-
  EquationEval: for every input the law returns true, and each argument reads afterwards as it read before. No condition beyond the given row's own cells.
  (Text 1 of 10; made by a program out of smaller texts.)
-/
import Derived.WalkKit
import Derived.Deep.LoopGhost
import Derived.Laws.BytesArg
set_option linter.unusedSimpArgs false
set_option linter.unusedVariables false
set_option maxHeartbeats 16000000
set_option maxRecDepth 10000
open Nat renaming reduceAdd→J1,reduceMul→J2,reduceSub→J3,reduceEqDiff→J4,reduceLT→J5,reduceLeDiff→J6,reduceBEq→J7,reduceDiv→J8,reduceMod→J9,reducePow→J0
open Int renaming reduceToNat→K1,reduceLE→K2,reduceLT→K3,reduceEq→K4,reducePow→K5,reduceSub→K6,reduceNeg→K7,natCast_add→X2,natCast_one→X3,natCast_zero→X4
open List renaming getD_cons_zero→X0,getD_cons_succ→X1,length_take→X5,length_append→X6,getD_eq_getElem?_getD→X7,getElem?_eq_getElem→X8
/-
  THE ENGINE, PART A: values by content ('C', 'V'), blocks that a frame owns ('Bk'), what it is for a frame and a world to stand for such a state ('Sim').
-/
namespace Go.Eng
open Go
inductive C where
 |any
 |bool (b:Bool)
 |int (k:IntKind) (n:Int)
 |str (s:ByteArray)
 |nil
 |ints (k:IntKind) (xs:List Int)
 |rows (w n:Nat) (f:Nat→Nat→C)
 |own (b w off len:Nat)
 |ptr (b off:Nat)
 |elt (s:C) (w i off:Nat)
 |eptr (b w i off:Nat)
 |fn (f:FuncId) (n:Nat) (caps:Nat→C)
instance:Inhabited C:=⟨.any⟩
inductive V where
 |unk
 |one (c:C)
 |agg (cs:List C)
 |aJ (vs:List V)
instance:Inhabited V:=⟨.unk⟩
inductive Bk where
 |var (cs:List C)
 |ints (e:TypeId) (k:IntKind) (xs:List Int)
 |rows (e:TypeId) (w n:Nat) (f:Nat→Nat→C)
def Bk.len:Bk→Nat
 |.var _=>1
 |.ints _ _ xs=>xs.length
 |.rows _ _ n _=>n
def Bk.cell:Bk→Nat→Option C
 |.var cs,j=>cs[j]?
 |.ints _ k xs,j=>(xs[j]?).map (.int k)
 |.rows _ w n f,j=>if j<n*w then some (f (j/w) (j%w))else none
structure gI where
 bk:Bk
 rw:Bool
structure St where
 env:List (Nat×V)
 own:List (Nat×gI)
 nx:Nat
 n:Nat
def lk:List (Nat×V)→Nat→V
 |[],_=>.unk
 |(t',v)::r,t=>if t=t' then v else lk r t
def lo:List (Nat×gI)→Nat→Option gI
 |[],_=>none
 |(b',v)::r,b=>if b=b' then some v else lo r b
def iX:List (Nat×gI)→Nat→gI→List (Nat×gI)
 |[],b,B=>[(b,B)]
 |(b',v)::r,b,B=>if b=b' then(b',B)::r else(b',v)::iX r b B
def del:List (Nat×gI)→Nat→List (Nat×gI)
 |[],_=>[]
 |(b',v)::r,b=>if b=b' then del r b else(b',v)::del r b
def fh:List (Nat×gI)→List Nat→List (Nat×gI)
 |[],_=>[]
 |(b',v)::r,l=>(b',if l.contains b' then⟨v.bk,false⟩else v)::fh r l
theorem dk (l:List (Nat×gI))(b b':Nat)(B:gI):lo (iX l b B) b'=if b'=b then some B else lo l b':=by
 induction l with
 |nil=>simp only[iX,lo]
 |cons x r ih=>
  obtain⟨c,v⟩:=x;simp only[iX]
  split
  ·rename_i h;subst h;simp only[lo];split<;>rfl
  rename_i h
  simp only[lo,ih]
  by_cases h1:b'=c
  ·subst h1;rw[if_pos rfl,if_neg (fun e=>h e.symm),if_pos rfl]
  rw[if_neg h1,if_neg h1]
theorem ka (l:List (Nat×gI))(b b':Nat):lo (del l b) b'=if b'=b then none else lo l b':=by
 induction l with
 |nil=>simp only[del,lo];split<;>rfl
 |cons x r ih=>
  obtain⟨c,v⟩:=x;simp only[del]
  split
  ·rename_i h;subst h;rw[ih];simp only[lo];split<;>rfl
  rename_i h
  simp only[lo,ih]
  by_cases h1:b'=c
  ·subst h1;rw[if_pos rfl,if_neg (fun e=>h e.symm),if_pos rfl]
  rw[if_neg h1,if_neg h1]
theorem iC (l:List (Nat×gI))(fs:List Nat)(b:Nat):lo (fh l fs) b=(lo l b).map fun v=>if fs.contains b then⟨v.bk,false⟩else v:=by
 induction l with
 |nil=>rfl
 |cons x r ih=>
  obtain⟨c,v⟩:=x;simp only[fh,lo]
  split
  ·rename_i h;subst h;rfl
  exact ih
def b6 (w:World)(g:Nat):Nat:=
 match w.heap[g]? with
 |some (.cells c _ _)=>c.size
 |_=>0
def aM (ok:Nat→Prop)(w:World):C→Value→Prop
 |.any,v=>v.oneCell'=true
 |.bool b,v=>v= .bool b
 |.int k n,v=>v= .int k n
 |.str s,v=>v= .string s
 |.nil,v=>v= .slice none 0 0
 |.ints k xs,v=>∃a cap,v= .slice a xs.length cap∧xs.length≤cap∧(xs.length=0∨∃g o,a=some ⟨g,o,none⟩∧ok g∧∀i,i<xs.length→w.cell? ⟨g,o+i,none⟩=some (.int k (xs.getD i 0)))
 |.rows wd n f,v=>∃a cap,v= .slice a n cap∧n≤cap∧(n=0∨∃g o,a=some ⟨g,o,none⟩∧ok g∧∀i j,i<n→j<wd→∃u,w.cell? ⟨g,o+(i*wd+j),none⟩=some u∧aM ok w (f i j) u)
 |.elt s wd i off,v=>∃g o n cap,aM ok w s (.slice (some ⟨g,o,none⟩) n cap)∧i<n∧v= .pointer (some ⟨g,o+(i*wd+off),none⟩)
 |.fn f n caps,v=>∃cs:Array Value,v= .func (.func f) #[] cs∧cs.size=n∧∀i,i<n→aM ok w (caps i) (cs.getD i undef)
 |.own ..,_=>False
 |.ptr ..,_=>False
 |.eptr ..,_=>False
structure Loc where
 addr:Option (Nat×Nat)
 len:Nat
def fy (ρ:Nat→Loc)(dom ok:Nat→Prop)(w:World)(c:C)(v:Value):Prop:=
 match c with
 |.own b wd off len=>dom b∧off+len≤(ρ b).len∧∃cap,len≤cap∧
   (
    (∃g o o',(ρ b).addr=some (g,o)∧v= .slice (some ⟨g,o',none⟩) len cap∧(cap=0∨o'=o+off*wd)∧o+(off+cap)*wd≤b6 w g)∨
    ((ρ b).addr=none∧v= .slice none 0 0∧len=0∧cap=0))
 |.ptr b off=>dom b∧∃g o,(ρ b).addr=some (g,o)∧v= .pointer (some ⟨g,o+off,none⟩)
 |.eptr b wd i off=>dom b∧i<(ρ b).len∧∃g o,(ρ b).addr=some (g,o)∧v= .pointer (some ⟨g,o+(i*wd+off),none⟩)
 |c=>aM ok w c v
def aW (ρ:Nat→Loc)(dom ok:Nat→Prop)(w:World)(c:C)(v:Value):Prop:=
 match c with
 |.fn f n caps=>∃cs:Array Value,v= .func (.func f) #[] cs∧cs.size=n∧∀i,i<n→fy ρ dom ok w (caps i) (cs.getD i undef)
 |c=>fy ρ dom ok w c v
def b5 (ρ:Nat→Loc)(dom ok:Nat→Prop)(w:World):List C→List Value→Prop
 |[],[]=>True
 |c::cs,v::vs=>aW ρ dom ok w c v∧b5 ρ dom ok w cs vs
 |_,_=>False
def dM (ρ:Nat→Loc)(dom ok:Nat→Prop)(w:World):V→Value→Prop
 |.unk,_=>True
 |.one c,v=>aW ρ dom ok w c v
 |.agg cs,v=>∃vs:Array Value,v= .agg vs∧b5 ρ dom ok w cs vs.toList
 |.aJ _,_=>False
def a8 (ρ:Nat→Loc)(dom ok:Nat→Prop)(w:World):List V→List Value→Prop
 |[],[]=>True
 |c::cs,v::vs=>dM ρ dom ok w c v∧a8 ρ dom ok w cs vs
 |_,_=>False
def cd (ρ:Nat→Loc)(dom ok:Nat→Prop)(w:World):V→Value→Prop
 |.aJ xs,v=>∃vs:Array Value,v= .tuple vs∧a8 ρ dom ok w xs vs.toList
 |x,v=>dM ρ dom ok w x v
def aT (ρ:Nat→Loc)(dom ok:Nat→Prop)(w:World)(l:Loc)(B:Bk):Prop:=
 match l.addr with
 |some (g,o)=>∃cur e,w.heap[g]? =some (.cells cur e (0,0))∧∀j c,B.cell j=some c→∃u,cur[o+j]? =some u∧
   (match B with|.var _=>aW ρ dom ok w c u|_=>aM ok w c u)
 |none=>∀j,B.cell j=none
structure Ctx where
 W0:World
 forb:Nat→Prop
 mine:Nat→Prop
 home:Option Loc:=none
def aQ (G:Ctx)(own:List (Nat×gI))(ρ:Nat→Loc)(w:World)(g:Nat):Prop:=
 g<w.heap.size∧¬G.forb g∧∀b B,lo own b=some B→B.rw=true→∀o,(ρ b).addr≠some (g,o)
structure a7 (G:Ctx) (dom:Nat→Prop) (ρ:Nat→Loc) (s:St) (a:Act) (w:World):Prop where
 hd:a.defers=[]
 hn:a.tmps.size=s.n
 env:∀t,cd ρ dom (aQ G s.own ρ w) w (lk s.env t) (a.tmps.getD t undef)
 own:∀b B,lo s.own b=some B→dom b∧(ρ b).len=B.bk.len∧aT ρ dom (aQ G s.own ρ w) w (ρ b) B.bk∧
  ∀g o,(ρ b).addr=some (g,o)→g<w.heap.size∧¬G.forb g∧(G.W0.heap.size≤g∨G.mine g)
 inj:∀b B b' B',lo s.own b=some B→lo s.own b'=some B'→b≠b'→B.rw=true→∀g o o',(ρ b).addr=some (g,o)→(ρ b').addr≠some (g,o')
 os:w.os=G.W0.os
 tape:w.tape=G.W0.tape
 output:w.output=G.W0.output
 size:G.W0.heap.size≤w.heap.size
 keep:∀k,k<G.W0.heap.size→¬G.mine k→w.heap[k]? =G.W0.heap[k]?
 wf:∀k,G.forb k→k<G.W0.heap.size
 home:∀l,G.home=some l→dom 0∧ρ 0=l
 room:∀g,b6 G.W0 g≤b6 w g
def vA (G:Ctx)(dom:Nat→Prop)(s:St)(a:Act)(w:World):Prop:=∃ρ,a7 G dom ρ s a w
def qc (G:Ctx)(s:St)(a:Act)(w:World):Prop:=vA G (fun b=>b<s.nx) s a w
structure Ext (ok ok':Nat→Prop) (w w':World):Prop where
 block:∀g,ok g→ok' g∧w'.heap[g]? =w.heap[g]?
 room:∀g,b6 w g≤b6 w' g
theorem Ext.refl (ok:Nat→Prop)(w:World):Ext ok ok w w:=⟨fun _ h=>⟨h,rfl⟩,fun _=>Nat.le_refl _⟩
theorem aM.ext {ok ok':Nat→Prop}{w w':World}(h:Ext ok ok' w w'):∀(c:C) (v:Value),aM ok w c v→aM ok' w' c v:=by
 have hc:∀g o u,ok g→w.cell? ⟨g,o,none⟩=some u→w'.cell? ⟨g,o,none⟩=some u:=fun g o u hg hu=>by
  rw[World.cell?_of_block (w:=w) (h.block g hg).2];exact hu
 intro c
 induction c with
 |any=>intro v hv;exact hv
 |bool b=>intro v hv;exact hv
 |int k n=>intro v hv;exact hv
 |str s=>intro v hv;exact hv
 |nil=>intro v hv;exact hv
 |ints k xs=>
  rintro v ⟨a,cap,hv,hle,hr⟩;refine⟨a,cap,hv,hle,?_⟩
  rcases hr with hr|⟨g,o,ha,hg,hcs⟩
  ·exact .inl hr
  exact .inr ⟨g,o,ha,(h.block g hg).1,fun i hi=>hc _ _ _ hg (hcs i hi)⟩
 |rows wd n f ih=>
  rintro v ⟨a,cap,hv,hle,hr⟩;refine⟨a,cap,hv,hle,?_⟩
  rcases hr with hr|⟨g,o,ha,hg,hcs⟩
  ·exact .inl hr
  refine .inr ⟨g,o,ha,(h.block g hg).1,fun i j hi hj=>?_⟩;obtain⟨u,hu,hr⟩:=hcs i j hi hj;exact⟨u,hc _ _ _ hg hu,ih i j u hr⟩
 |own b wd off len=>intro v hv;exact hv.elim
 |ptr b off=>intro v hv;exact hv.elim
 |elt s wd i off ih=>
  rintro v ⟨g,o,n,cap,hs,hi,hv⟩;exact⟨g,o,n,cap,ih _ hs,hi,hv⟩
 |eptr b wd i off=>intro v hv;exact hv.elim
 |fn f n caps ih=>
  rintro v ⟨cs,hv,hn,hcs⟩;exact⟨cs,hv,hn,fun i hi=>ih i _ (hcs i hi)⟩
structure jH (dm dm':Nat→Prop) (ρ ρ':Nat→Loc):Prop where
 dom:∀b,dm b→dm' b
 loc:∀b,dm b→ρ' b=ρ b
theorem fy.ext {ok ok' dom dom':Nat→Prop}{ρ ρ':Nat→Loc}{w w':World}(h:Ext ok ok' w w')(hs:jH dom dom' ρ ρ')(c:C)(v:Value)(hr:fy ρ dom ok w c v):fy ρ' dom' ok' w' c v:=by
 cases c with
 |own b wd off len=>
  obtain⟨hd,hl,cap,hc,hr⟩:=hr;refine⟨hs.dom _ hd,by rw[hs.loc _ hd];exact hl,cap,hc,?_⟩;rw[hs.loc _ hd]
  rcases hr with⟨g,o,o',ha,hv,ho,hz⟩|hr
  ·exact .inl ⟨g,o,o',ha,hv,ho,Nat.le_trans hz (h.room g)⟩
  exact .inr hr
 |ptr b off=>
  obtain⟨hd,hr⟩:=hr;exact⟨hs.dom _ hd,by rw[hs.loc _ hd];exact hr⟩
 |eptr b wd i off=>
  obtain⟨hd,hi,hr⟩:=hr;exact⟨hs.dom _ hd,by rw[hs.loc _ hd];exact hi,by rw[hs.loc _ hd];exact hr⟩
 |_=>exact aM.ext h _ v hr
theorem aW.ext {ok ok' dom dom':Nat→Prop}{ρ ρ':Nat→Loc}{w w':World}(h:Ext ok ok' w w')(hs:jH dom dom' ρ ρ')(c:C)(v:Value)(hr:aW ρ dom ok w c v):aW ρ' dom' ok' w' c v:=by
 cases c with
 |fn f n caps=>
  obtain⟨cs,hv,hn,hcs⟩:=hr;exact⟨cs,hv,hn,fun i hi=>fy.ext h hs _ _ (hcs i hi)⟩
 |any=>exact fy.ext h hs .any v hr
 |bool b=>exact fy.ext h hs (.bool b) v hr
 |int k n=>exact fy.ext h hs (.int k n) v hr
 |str s=>exact fy.ext h hs (.str s) v hr
 |nil=>exact fy.ext h hs .nil v hr
 |ints k xs=>exact fy.ext h hs (.ints k xs) v hr
 |rows wd n f=>exact fy.ext h hs (.rows wd n f) v hr
 |own b wd off len=>exact fy.ext h hs (.own b wd off len) v hr
 |ptr b off=>exact fy.ext h hs (.ptr b off) v hr
 |elt s wd i off=>exact fy.ext h hs (.elt s wd i off) v hr
 |eptr b wd i off=>exact fy.ext h hs (.eptr b wd i off) v hr
theorem b5.ext {ok ok' dom dom':Nat→Prop}{ρ ρ':Nat→Loc}{w w':World}(h:Ext ok ok' w w')(hs:jH dom dom' ρ ρ'):∀(cs:List C) (vs:List Value),b5 ρ dom ok w cs vs→b5 ρ' dom' ok' w' cs vs
 |[],[],_=>trivial
 |_::cs,_::vs,hr=>⟨aW.ext h hs _ _ hr.1,b5.ext h hs cs vs hr.2⟩
 |[],_::_,hr=>hr.elim
 |_::_,[],hr=>hr.elim
theorem dM.ext {ok ok' dom dom':Nat→Prop}{ρ ρ':Nat→Loc}{w w':World}(h:Ext ok ok' w w')(hs:jH dom dom' ρ ρ')(x:V)(v:Value)(hr:dM ρ dom ok w x v):dM ρ' dom' ok' w' x v:=by
 cases x with
 |unk=>trivial
 |one c=>exact aW.ext h hs _ _ hr
 |agg cs=>obtain⟨vs,hv,hl⟩:=hr;exact⟨vs,hv,b5.ext h hs _ _ hl⟩
 |aJ xs=>exact hr.elim
theorem a8.ext {ok ok' dom dom':Nat→Prop}{ρ ρ':Nat→Loc}{w w':World}(h:Ext ok ok' w w')(hs:jH dom dom' ρ ρ'):∀(cs:List V) (vs:List Value),a8 ρ dom ok w cs vs→a8 ρ' dom' ok' w' cs vs
 |[],[],_=>trivial
 |_::cs,_::vs,hr=>⟨dM.ext h hs _ _ hr.1,a8.ext h hs cs vs hr.2⟩
 |[],_::_,hr=>hr.elim
 |_::_,[],hr=>hr.elim
theorem cd.ext {ok ok' dom dom':Nat→Prop}{ρ ρ':Nat→Loc}{w w':World}(h:Ext ok ok' w w')(hs:jH dom dom' ρ ρ')(x:V)(v:Value)(hr:cd ρ dom ok w x v):cd ρ' dom' ok' w' x v:=by
 cases x with
 |unk=>trivial
 |one c=>exact dM.ext h hs (.one c) _ hr
 |agg cs=>exact dM.ext h hs (.agg cs) _ hr
 |aJ xs=>obtain⟨vs,hv,hl⟩:=hr;exact⟨vs,hv,a8.ext h hs _ _ hl⟩
theorem aT.ext {ok ok' dom dom':Nat→Prop}{ρ ρ':Nat→Loc}{w w':World}(h:Ext ok ok' w w')(hs:jH dom dom' ρ ρ')(l:Loc)(B:Bk)
  (hb:∀g o,l.addr=some (g,o)→w'.heap[g]? =w.heap[g]?) (hr:aT ρ dom ok w l B):aT ρ' dom' ok' w' l B:=by
 unfold aT at*
 cases ha:l.addr with
 |none=>rw[ha]at hr;exact hr
 |some x=>
  obtain⟨g,o⟩:=x;rw[ha]at hr;obtain⟨cur,e,hg,hc⟩:=hr;refine⟨cur,e,by rw[hb g o ha];exact hg,fun j c hj=>?_⟩;obtain⟨u,hu,hr⟩:=hc j c hj;refine⟨u,hu,?_⟩
  cases B with
  |var cs=>exact aW.ext h hs _ _ hr
  |ints e k xs=>exact aM.ext h _ _ hr
  |rows e wd n f=>exact aM.ext h _ _ hr
end Go.Eng
/-
  THE ENGINE, PART B: how the state turns: a slot is written, a block is made, a block is frozen, a call has been.
-/
namespace Go.Eng
open Go
theorem Dc (r:List (Nat×V))(t':Nat)(v:V)(t:Nat):lk ((t',v)::r) t=if t=t' then v else lk r t:=rfl
def St.put (s:St)(dst:Option Tmp)(v:V):St:=
 match dst with
 |some d=>{s with env:=(d,v)::s.env}
 |none=>s
theorem a7.put {G:Ctx}{dom:Nat→Prop}{ρ:Nat→Loc}{s:St}{a:Act}{w:World}(h:a7 G dom ρ s a w){dst:Option Tmp}{x:V}{v:Value}
  (hd:∀d,dst=some d→d<s.n) (hv:cd ρ dom (aQ G s.own ρ w) w x v):a7 G dom ρ (s.put dst x) (a.put dst v) w:=by
 cases dst with
 |none=>exact h
 |some d=>
  have hlt:=hd d rfl
  refine{hd:=h.hd,hn:=by simpa[Act.put,St.put]using h.hn,env:=fun t=>?_,own:=h.own,inj:=h.inj,os:=h.os,tape:=h.tape,output:=h.output,size:=h.size,keep:=h.keep,wf:=h.wf,home:=h.home,room:=h.room}
  show cd ρ dom _ w (lk ((d,x)::s.env) t) ((a.tmps.setIfInBounds d v).getD t undef);rw[Dc]
  by_cases ht:t=d
  ·subst ht;rw[if_pos rfl]
   have:(a.tmps.setIfInBounds t v).getD t undef=v:=by
    have hs:t<a.tmps.size:=by rw[h.hn];exact hlt
    simp[Array.getD,hs]
   rw[this];exact hv
  rw[if_neg ht]
  have:(a.tmps.setIfInBounds d v).getD t undef=a.tmps.getD t undef:=by
   simp only[Array.getD_eq_getD_getElem?];rw[Array.getElem?_setIfInBounds_ne (fun e=>ht e.symm)]
  rw[this];exact h.env t
theorem a7.vg {G:Ctx}{dom dom':Nat→Prop}{ρ ρ':Nat→Loc}{s:St}{a:Act}{w w':World}{own':List (Nat×gI)}(h:a7 G dom ρ s a w)
  (hx:Ext (aQ G s.own ρ w) (aQ G own' ρ' w') w w') (hs:jH dom dom' ρ ρ')
  (hown:∀b B,lo own' b=some B→dom' b∧(ρ' b).len=B.bk.len∧aT ρ' dom' (aQ G own' ρ' w') w' (ρ' b) B.bk∧
   ∀g o,(ρ' b).addr=some (g,o)→g<w'.heap.size∧¬G.forb g∧(G.W0.heap.size≤g∨G.mine g))
  (hinj:∀b B b' B',lo own' b=some B→lo own' b'=some B'→b≠b'→B.rw=true→∀g o o',(ρ' b).addr=some (g,o)→(ρ' b').addr≠some (g,o'))
  (hos:w'.os=w.os) (htape:w'.tape=w.tape) (hout:w'.output=w.output) (hsize:w.heap.size≤w'.heap.size)
  (hkeep:∀k,k<G.W0.heap.size→¬G.mine k→w'.heap[k]? =w.heap[k]?):a7 G dom' ρ' {s with own:=own'} a w':=
 {
  hd:=h.hd,hn:=h.hn,env:=fun t=>cd.ext hx hs _ _ (h.env t),own:=hown,inj:=hinj,os:=hos.trans h.os,tape:=htape.trans h.tape,output:=hout.trans h.output,
  size:=Nat.le_trans h.size hsize,keep:=fun k hk hm=>(hkeep k hk hm).trans (h.keep k hk hm),wf:=h.wf,
  home:=fun l hl=>⟨hs.dom _ (h.home l hl).1,(hs.loc _ (h.home l hl).1).trans (h.home l hl).2⟩,room:=fun g=>Nat.le_trans (h.room g) (hx.room g)}
theorem lW {G:Ctx}{own:List (Nat×gI)}{ρ:Nat→Loc}{w:World}{fs:List Nat}{g:Nat}(h:aQ G own ρ w g):aQ G (fh own fs) ρ w g:=by
 refine⟨h.1,h.2.1,fun b B hb hrw=>?_⟩;rw[iC]at hb
 cases hl:lo own b with
 |none=>rw[hl]at hb;simp at hb
 |some B0=>
  rw[hl]at hb;simp only[Option.map_some,Option.some.injEq]at hb;refine h.2.2 b B0 hl ?_
  split at hb
  ·subst hb;simp at hrw
  subst hb;exact hrw
theorem a7.fh {G:Ctx}{dom:Nat→Prop}{ρ:Nat→Loc}{s:St}{a:Act}{w:World}(h:a7 G dom ρ s a w)(fs:List Nat):
  a7 G dom ρ {s with own:=Eng.fh s.own fs} a w:=by
 have hext:Ext (aQ G s.own ρ w) (aQ G (Eng.fh s.own fs) ρ w) w w:=⟨fun g hg=>⟨lW hg,rfl⟩,fun _=>Nat.le_refl _⟩;have hs:jH dom dom ρ ρ:=⟨fun _ h=>h,fun _ _=>rfl⟩;refine h.vg hext hs ?_ ?_ rfl rfl rfl (Nat.le_refl _) (fun _ _ _=>rfl)
 ·intro b B hb;rw[iC]at hb
  cases hl:lo s.own b with
  |none=>rw[hl]at hb;simp at hb
  |some B0=>
   rw[hl]at hb;simp only[Option.map_some,Option.some.injEq]at hb
   have hbk:B.bk=B0.bk:=by split at hb<;>(subst hb;rfl)
   obtain⟨h1,h2,h3,h4⟩:=h.own b B0 hl;rw[hbk];exact⟨h1,h2,aT.ext hext hs _ _ (fun _ _ _=>rfl) h3,h4⟩
 intro b B b' B' hb hb' hne hrw g o o' hg;rw[iC]at hb hb'
 cases hl:lo s.own b with
 |none=>rw[hl]at hb;simp at hb
 |some B0=>
  cases hl':lo s.own b' with
  |none=>rw[hl']at hb';simp at hb'
  |some B1=>
   rw[hl]at hb;simp only[Option.map_some,Option.some.injEq]at hb;refine h.inj b B0 b' B1 hl hl' hne ?_ g o o' hg
   split at hb
   ·subst hb;simp at hrw
   subst hb;exact hrw
theorem bT {w w':World}{g:Nat}(h:w'.heap[g]? =w.heap[g]?):b6 w' g=b6 w g:=by simp[b6,h]
theorem gy {w:World}{g:Nat}(h:¬g<w.heap.size):b6 w g=0:=by simp[b6,Array.getElem?_eq_none (Nat.le_of_not_lt h)]
theorem aT.lt {ρ:Nat→Loc}{dom ok:Nat→Prop}{w:World}{l:Loc}{B:Bk}(h:aT ρ dom ok w l B){g o:Nat}(ha:l.addr=some (g,o)):g<w.heap.size:=by
 unfold aT at h;rw[ha]at h;obtain⟨cur,e,hg,_⟩:=h;exact(Array.getElem?_eq_some_iff.1 hg).1
theorem a7.grown {G:Ctx}{dom:Nat→Prop}{ρ:Nat→Loc}{s:St}{a:Act}{w w':World}(h:a7 G dom ρ s a w)(hb:Go.RowKit.Below w.heap.size w w'):a7 G dom ρ s a w':=by
 have hext:Ext (aQ G s.own ρ w) (aQ G s.own ρ w') w w':=
  ⟨fun g hg=>⟨⟨Nat.lt_of_lt_of_le hg.1 hb.size,hg.2⟩,hb.block g hg.1⟩,fun g=>by
   by_cases hg:g<w.heap.size
   ·rw[bT (hb.block g hg)];exact Nat.le_refl _
   rw[gy hg];exact Nat.zero_le _⟩
 have hs:jH dom dom ρ ρ:=⟨fun _ h=>h,fun _ _=>rfl⟩;refine h.vg (own':=s.own) hext hs ?_ h.inj hb.os hb.tape hb.output hb.size (fun k hk _=>hb.block k (Nat.lt_of_lt_of_le hk h.size));intro b B hl;obtain⟨h1,h2,h3,h4⟩:=h.own b B hl;exact⟨h1,h2,aT.ext hext hs _ _ (fun g o ha=>hb.block g (h4 g o ha).1) h3,fun g o ha=>⟨Nat.lt_of_lt_of_le (h4 g o ha).1 hb.size,(h4 g o ha).2⟩⟩
def cM (ρ:Nat→Loc)(id:Nat)(l:Loc):Nat→Loc:=fun b=>if b=id then l else ρ b
theorem oE (ρ:Nat→Loc)(id:Nat)(l:Loc):cM ρ id l id=l:=if_pos rfl
theorem bt (ρ:Nat→Loc){id b:Nat}(l:Loc)(h:b≠id):cM ρ id l b=ρ b:=if_neg h
theorem eD (w:World)(o:Obj):Go.RowKit.Below w.heap.size w (w.alloc o):=(Go.RowKit.Below.refl _ _).alloc (Nat.le_refl _) _
theorem jH.cM {dom:Nat→Prop}(ρ:Nat→Loc){id:Nat}(l:Loc)(hid:¬dom id):jH dom (fun b=>dom b∨b=id) ρ (cM ρ id l):=
 ⟨fun _ h=>.inl h,fun b hb=>bt ρ l (fun e=>hid (e▸hb))⟩
theorem a7.B6 {G:Ctx}{dom:Nat→Prop}{ρ:Nat→Loc}{s:St}{a:Act}{w:World}(h:a7 G dom ρ s a w){id:Nat}(hid:¬dom id)(B:Bk)(cells:Array Value)(e:TypeId)
  (hrep:∀j c,B.cell j=some c→∃u,cells[j]? =some u∧(match B with|.var _=>aW ρ dom (aQ G s.own ρ w) w c u|_=>aM (aQ G s.own ρ w) w c u)):
  a7 G (fun b=>dom b∨b=id) (cM ρ id ⟨some (w.heap.size,0),B.len⟩) {s with own:=iX s.own id ⟨B,true⟩} a (w.alloc (.cells cells e)):=by
 have hb:=eD w (.cells cells e);have hs:=jH.cM ρ ⟨some (w.heap.size,0),B.len⟩ hid;have hne:∀b B',lo s.own b=some B'→b≠id:=fun b B' hl e=>hid (e▸(h.own b B' hl).1);have hext:Ext (aQ G s.own ρ w) (aQ G (iX s.own id ⟨B,true⟩) (Eng.cM ρ id ⟨some (w.heap.size,0),B.len⟩) (w.alloc (.cells cells e))) w (w.alloc (.cells cells e)):=by
  refine⟨fun g hg=>⟨⟨Nat.lt_of_lt_of_le hg.1 hb.size,hg.2.1,fun b B' hl hrw o=>?_⟩,hb.block g hg.1⟩,fun g=>?_⟩
  ·rw[dk]at hl
   by_cases hbi:b=id
   ·subst hbi;rw[oE];intro he
    have:w.heap.size=g:=by simpa using congrArg (Option.map Prod.fst) he
    exact absurd hg.1 (by omega)
   rw[if_neg hbi]at hl;rw[bt _ _ hbi];exact hg.2.2 b B' hl hrw o
  by_cases hg:g<w.heap.size
  ·rw[bT (hb.block g hg)];exact Nat.le_refl _
  rw[gy hg];exact Nat.zero_le _
 refine h.vg hext hs ?_ ?_ hb.os hb.tape hb.output hb.size (fun k hk _=>hb.block k (Nat.lt_of_lt_of_le hk h.size))
 ·intro b B' hl;rw[dk]at hl
  by_cases hbi:b=id
  ·subst hbi;rw[if_pos rfl]at hl;obtain rfl:=Option.some.inj hl;rw[oE];refine⟨.inr rfl,rfl,?_,fun g o ha=>?_⟩
   ·unfold aT;refine⟨cells,e,heap_alloc_new w _,fun j c hj=>?_⟩;obtain⟨u,hu,hr⟩:=hrep j c hj;refine⟨u,by simpa using hu,?_⟩
    cases B with
    |var cs=>exact aW.ext hext hs _ _ hr
    |ints e k xs=>exact aM.ext hext _ _ hr
    |rows e wd n f=>exact aM.ext hext _ _ hr
   have:w.heap.size=g:=by simpa using congrArg (Option.map Prod.fst) ha
   subst this;exact⟨by simp,fun hf=>absurd (h.wf _ hf) (by have:=h.size;omega),.inl h.size⟩
  rw[if_neg hbi]at hl;rw[bt _ _ hbi];obtain⟨h1,h2,h3,h4⟩:=h.own b B' hl;exact⟨.inl h1,h2,aT.ext hext hs _ _ (fun g o ha=>hb.block g (h4 g o ha).1) h3,fun g o ha=>⟨Nat.lt_of_lt_of_le (h4 g o ha).1 hb.size,(h4 g o ha).2⟩⟩
 intro b B1 b' B2 hl hl' hne' hrw g o o' ha;rw[dk]at hl hl'
 by_cases hbi:b=id
 ·subst hbi;rw[if_neg (fun e=>hne' e.symm)]at hl';rw[oE]at ha;rw[bt _ _ (fun e=>hne' e.symm)];have hg:w.heap.size=g:=by simpa using congrArg (Option.map Prod.fst) ha
  intro ha'
  have:=((h.own b' B2 hl').2.2.2 g o' ha').1
  omega
 rw[if_neg hbi]at hl;rw[bt _ _ hbi]at ha
 by_cases hbi':b'=id
 ·subst hbi';rw[oE];intro ha';have hg:w.heap.size=g:=by simpa using congrArg (Option.map Prod.fst) ha'
  have:=((h.own b B1 hl).2.2.2 g o ha).1
  omega
 rw[if_neg hbi']at hl';rw[bt _ _ hbi'];exact h.inj b B1 b' B2 hl hl' hne' hrw g o o' ha
theorem a7.K0 {G:Ctx}{dom:Nat→Prop}{ρ:Nat→Loc}{s:St}{a:Act}{w w':World}(h:a7 G dom ρ s a w)(hb:Go.RowKit.Below w.heap.size w w'){id:Nat}(hid:¬dom id)(B:Bk)(l:Loc)(hlen:l.len=B.len)
  (hnew:∀g o,l.addr=some (g,o)→w.heap.size≤g∧g<w'.heap.size)
  (hrep:aT (cM ρ id l) (fun b=>dom b∨b=id) (aQ G (iX s.own id ⟨B,true⟩) (cM ρ id l) w') w' l B):
  a7 G (fun b=>dom b∨b=id) (cM ρ id l) {s with own:=iX s.own id ⟨B,true⟩} a w':=by
 have hs:=jH.cM ρ l hid;have hne:∀b B',lo s.own b=some B'→b≠id:=fun b B' hl e=>hid (e▸(h.own b B' hl).1);have hext:Ext (aQ G s.own ρ w) (aQ G (iX s.own id ⟨B,true⟩) (Eng.cM ρ id l) w') w w':=by
  refine⟨fun g hg=>⟨⟨Nat.lt_of_lt_of_le hg.1 hb.size,hg.2.1,fun b B' hl hrw o=>?_⟩,hb.block g hg.1⟩,fun g=>?_⟩
  ·rw[dk]at hl
   by_cases hbi:b=id
   ·subst hbi;rw[oE];intro he
    have:=(hnew g o he).1
    exact absurd hg.1 (by omega)
   rw[if_neg hbi]at hl;rw[bt _ _ hbi];exact hg.2.2 b B' hl hrw o
  by_cases hg:g<w.heap.size
  ·rw[bT (hb.block g hg)];exact Nat.le_refl _
  rw[gy hg];exact Nat.zero_le _
 refine h.vg hext hs ?_ ?_ hb.os hb.tape hb.output hb.size (fun k hk _=>hb.block k (Nat.lt_of_lt_of_le hk h.size))
 ·intro b B' hl;rw[dk]at hl
  by_cases hbi:b=id
  ·subst hbi;rw[if_pos rfl]at hl;obtain rfl:=Option.some.inj hl;rw[oE];refine⟨.inr rfl,hlen,hrep,fun g o ha=>?_⟩
   have:=hnew g o ha
   exact⟨this.2,fun hf=>absurd (h.wf _ hf) (by have:=h.size;omega),.inl (Nat.le_trans h.size this.1)⟩
  rw[if_neg hbi]at hl;rw[bt _ _ hbi];obtain⟨h1,h2,h3,h4⟩:=h.own b B' hl;exact⟨.inl h1,h2,aT.ext hext hs _ _ (fun g o ha=>hb.block g (h4 g o ha).1) h3,fun g o ha=>⟨Nat.lt_of_lt_of_le (h4 g o ha).1 hb.size,(h4 g o ha).2⟩⟩
 intro b B1 b' B2 hl hl' hne' hrw g o o' ha;rw[dk]at hl hl'
 by_cases hbi:b=id
 ·subst hbi;rw[if_neg (fun e=>hne' e.symm)]at hl';rw[oE]at ha;rw[bt _ _ (fun e=>hne' e.symm)];have hg:=(hnew g o ha).1;intro ha'
  have:=((h.own b' B2 hl').2.2.2 g o' ha').1
  omega
 rw[if_neg hbi]at hl;rw[bt _ _ hbi]at ha
 by_cases hbi':b'=id
 ·subst hbi';rw[oE];intro ha';have hg:=(hnew g o' ha').1
  have:=((h.own b B1 hl).2.2.2 g o ha).1
  omega
 rw[if_neg hbi']at hl';rw[bt _ _ hbi'];exact h.inj b B1 b' B2 hl hl' hne' hrw g o o' ha
theorem a7.LW {G:Ctx}{dom:Nat→Prop}{ρ:Nat→Loc}{s:St}{a:Act}{w:World}(h:a7 G dom ρ s a w){o:Obj}:aQ G s.own ρ (w.alloc o) w.heap.size:=
 ⟨by simp,fun hf=>absurd (h.wf _ hf) (by have:=h.size;omega),fun b B hl _ o ha=>absurd ((h.own b B hl).2.2.2 _ _ ha).1 (by omega)⟩
theorem Cn {G:Ctx}{own:List (Nat×gI)}{ρ:Nat→Loc}{w:World}{o:Obj}{g:Nat}(h:aQ G own ρ w g):aQ G own ρ (w.alloc o) g:=
 ⟨Nat.lt_of_lt_of_le h.1 (eD w o).size,h.2⟩
end Go.Eng
/-
  THE ENGINE, PART C: types as the engine sees them, operands, and the operations that only look.
-/
namespace Go.Eng
open Go
inductive EM where
 |int (k:IntKind)
 |bool
 |str
 |sl (e:TypeId)
 |st (fs:List (Nat×Nat))
 |arr (n:Nat) (e:TypeId)
 |fn
 |other
structure Ty where
 k:EM
 size:Nat
 bytes:Nat
 zero:List C
 fl:List Bool:=[]
def Db:Value→C
 |.int k n=>.int k n
 |.bool b=>.bool b
 |.string s=>.str s
 |.slice a n c=>match a,n,c with
  |none,0,0=>.nil
  |_,_,_=>.any
 |.func fn first captured=>match fn,first.size,captured.size with
  |.func f,0,0=>.fn f 0 (fun _=>.any)
  |_,_,_=>.any
 |_=>.any
def cv:Value→V
 |.agg cs=>if cs.toList.all Value.oneCell' then .agg (cs.toList.map Db)else .unk
 |.tuple _=>.unk
 |v=>.one (Db v)
def ck (P:Program):TypeDesc→EM
 |.int k=>.int k
 |.bool=>.bool
 |.string=>.str
 |.slice e=>.sl e
 |.struct fs=>match fs.toList.mapM (fun f=>(P.info? f.type).map fun i=>(f.offset,i.size))with
  |some pl=>.st pl
  |none=>.other
 |.func _ _ _=>.fn
 |.array n e=>.arr n e
 |_=>.other
theorem qU {P:Program}{d:TypeDesc}{pl:List (Nat×Nat)}(h:ck P d= .st pl):∃fs,d= .struct fs∧fs.toList.mapM (fun f=>(P.info? f.type).map fun i=>(f.offset,i.size))=some pl:=by
 cases d<;>simp only[ck]at h
 case struct fs=>
  refine⟨fs,rfl,?_⟩
  split at h
  ·rename_i pl' hp;cases h;exact hp
  cases h
 all_goals cases h
theorem u4 {P:Program}:∀(fs:List Field) (pl:List (Nat×Nat)),fs.mapM (fun f=>(P.info? f.type).map fun i=>(f.offset,i.size))=some pl→
  ∀(j:Nat) p,pl[j]? =some p→∃f i,fs[j]? =some f∧P.info? f.type=some i∧p=(f.offset,i.size)
 |[],pl,h,j,p,hj=>by simp at h;subst h;simp at hj
 |f::fs,pl,h,j,p,hj=>by
  simp only[List.mapM_cons,Option.bind_eq_bind,Option.pure_def]at h
  cases hi:P.info? f.type with
  |none=>rw[hi]at h;simp at h
  |some i=>
   rw[hi]at h;simp only[Option.map_some,Option.bind_some]at h
   cases hr:fs.mapM (fun f=>(P.info? f.type).map fun i=>(f.offset,i.size))with
   |none=>rw[hr]at h;simp at h
   |some rest=>
    rw[hr]at h;simp only[Option.bind_some,Option.some.injEq]at h;subst h
    cases j with
    |zero=>simp at hj;exact⟨f,i,rfl,hi,hj.symm⟩
    |succ j=>exact u4 fs rest hr j p (by simpa using hj)
def Nu (P:Program):TypeDesc→List Bool
 |.struct fs=>fs.toList.map fun f=>match P.underlying f.type with
  |some d=>match(ck P d)with
   |.st _=>false
   |.arr _ _=>false
   |.other=>false
   |_=>true
  |none=>false
 |_=>[]
def dh (P:Program)(t:TypeId):Option Ty:=
 match P.info? t,P.underlying t with
 |some i,some d=>match i.zero with
  |some z=>if z.cells.toList.all Value.oneCell' then some {k:=ck P d,size:=i.size,bytes:=i.bytes,zero:=z.cells.toList.map Db,fl:=Nu P d}else none
  |none=>none
 |_,_=>none
class OZ (P:Program) (t:TypeId) (T:outParam Ty):Prop where
 out:dh P t=some T
theorem OZ.parts {P:Program}{t:TypeId}{T:Ty}(h:OZ P t T):∃i d z,P.info? t=some i∧P.underlying t=some d∧i.zero=some z∧T.k=ck P d∧T.size=i.size∧T.bytes=i.bytes∧T.zero=z.cells.toList.map Db∧z.cells.toList.all Value.oneCell'=true:=by
 have h:=h.out;unfold dh at h
 cases hi:P.info? t with
 |none=>rw[hi]at h;simp at h
 |some i=>
  cases hu:P.underlying t with
  |none=>rw[hi,hu]at h;simp at h
  |some d=>
   cases hz:i.zero with
   |none=>rw[hi,hu]at h;simp[hz]at h
   |some z=>
    rw[hi,hu]at h;simp only[hz]at h
    split at h
    ·rename_i hall
     simp only[Option.some.injEq]at h;subst h;exact⟨i,d,z,rfl,rfl,hz,rfl,rfl,rfl,rfl,hall⟩
    cases h
section cv
variable {ρ:Nat→Loc}{dom ok:Nat→Prop}{w:World}
theorem Aq (v:Value)(h:v.oneCell'=true):aM ok w (Db v) v:=by
 cases v with
 |int k n=>rfl
 |bool b=>rfl
 |string s=>rfl
 |slice a n c=>
  simp only[Db]
  split
  ·rfl
  exact h
 |func fn first captured=>
  simp only[Db]
  split
  ·rename_i f h1 h2
   have h1:first= #[]:=Array.eq_empty_of_size_eq_zero (by assumption);have h2:captured= #[]:=Array.eq_empty_of_size_eq_zero (by assumption);subst h1;subst h2;exact⟨#[],rfl,rfl,fun i hi=>absurd hi (Nat.not_lt_zero _)⟩
  exact h
 |_=>exact h
theorem aW.bw {c:C}{v:Value}(h:aM ok w c v):aW ρ dom ok w c v:=by
 cases c with
 |own b wd off len=>exact h.elim
 |ptr b off=>exact h.elim
 |eptr b wd i off=>exact h.elim
 |fn f n caps=>
  obtain⟨cs,hv,hn,hcs⟩:=h;refine⟨cs,hv,hn,fun i hi=>?_⟩
  have:=hcs i hi
  unfold fy
  cases hc:caps i with
  |own b wd off len=>rw[hc]at this;exact this.elim
  |ptr b off=>rw[hc]at this;exact this.elim
  |eptr b wd i off=>rw[hc]at this;exact this.elim
  |_=>rw[hc]at this;exact this
 |_=>exact h
theorem xX (v:Value)(h:v.oneCell'=true):aW ρ dom ok w (Db v) v:=aW.bw (Aq v h)
theorem pr:∀vs:List Value,vs.all Value.oneCell'=true→b5 ρ dom ok w (vs.map Db) vs
 |[],_=>trivial
 |v::vs,h=>by
  simp only[List.all_cons,Bool.and_eq_true]at h;exact⟨xX v h.1,pr vs h.2⟩
theorem Nt (v:Value):cd ρ dom ok w (cv v) v:=by
 by_cases hv:∃cs,v= .agg cs
 ·obtain⟨cs,rfl⟩:=hv;simp only[cv]
  split
  ·rename_i h;exact⟨cs,rfl,pr _ h⟩
  trivial
 by_cases ht:∃cs,v= .tuple cs
 ·obtain⟨cs,rfl⟩:=ht;trivial
 have e:cv v= .one (Db v)∧v.oneCell'=true:=by
  cases v with
  |agg cs=>exact absurd ⟨cs,rfl⟩ hv
  |tuple cs=>exact absurd ⟨cs,rfl⟩ ht
  |_=>exact⟨rfl,rfl⟩
 rw[e.1];exact xX v e.2
end cv
def St.ev (s:St):Operand→V
 |.tmp t=>lk s.env t
 |.const v=>cv v
 |.global _=>.one .any
 |.func f=>.one (.fn f 0 (fun _=>.any))
theorem a7.ev {G:Ctx}{dom:Nat→Prop}{ρ:Nat→Loc}{s:St}{a:Act}{w:World}(h:a7 G dom ρ s a w)(x:Operand):
  cd ρ dom (aQ G s.own ρ w) w (s.ev x) (a.eval x):=by
 cases x with
 |tmp t=>exact h.env t
 |const v=>exact Nt v
 |global g=>rfl
 |func f=>exact⟨#[],rfl,rfl,fun i hi=>absurd hi (Nat.not_lt_zero _)⟩
structure ey where
 val:V
 oB:Option Bk
 fz:List Nat
def xH (own:List (Nat×gI))(fz:List Nat):List (Nat×gI):=
 match fz with
 |[]=>own
 |_::_=>fh own fz
def St.add (s:St)(dst:Option Tmp)(id:Nat)(e:ey):St:=
 match e.oB with
 |some B=>{s.put dst e.val with own:=iX (xH s.own e.fz) id ⟨B,true⟩}
 |none=>{s.put dst e.val with own:=xH s.own e.fz}
theorem St.add_plain (s:St)(dst:Option Tmp)(id:Nat)(v:V):s.add dst id ⟨v,none,[]⟩=s.put dst v:=by cases dst<;>rfl
structure rJ (s Z:St) (nx0:Nat) (o:Oper):Prop where
 n:Z.n=s.n
 ev:∀x∈o.op.operands,Z.ev x=s.ev x
 own:∀b,b<nx0→(lo Z.own b).map (·.bk)=(lo s.own b).map (·.bk)
theorem rJ.refl (s:St)(nx0:Nat)(o:Oper):rJ s s nx0 o:=⟨rfl,fun _ _=>rfl,fun _ _=>rfl⟩
theorem rJ.oB {s Z:St}{nx0:Nat}{o:Oper}(h:rJ s Z nx0 o){b:Nat}{B:gI}(hb:b<nx0)(hl:lo s.own b=some B):∃rw,lo Z.own b=some ⟨B.bk,rw⟩:=by
 have:=h.own b hb
 rw[hl]at this
 cases hz:lo Z.own b with
 |none=>rw[hz]at this;simp at this
 |some B'=>
  rw[hz]at this;simp only[Option.map_some,Option.some.injEq]at this;exact⟨B'.rw,by rw[←this]⟩
def jo:Op→Bool
 |.move _=>true
 |.binOp _ _ _ _ _=>true
 |.convert _ _ _=>true
 |.fieldAddr _ _ _=>true
 |.indexAddr _ _ _=>true
 |.slice _ _ _ _ _=>true
 |.load _ _=>true
 |.extract _ _=>true
 |.pick _ _ _=>true
 |.call c=>match c.callee with
  |.builtin .len=>true
  |_=>false
 |_=>false
def Kw (P:Program)(o:Oper)(s:St)(nx0:Nat)(val:V):Prop:=
 ∀G dom ρ Z a w,a7 G dom ρ Z a w→rJ s Z nx0 o→∃v,(execOp a.eval o).run P w= .ok (.value v) w∧cd ρ dom (aQ G Z.own ρ w) w val v
def bm (P:Program)(o:Oper)(s:St)(nx0 id:Nat)(e:ey):Prop:=
 (∀G dom ρ Z a w,a7 G dom ρ Z a w→¬dom id→rJ s Z nx0 o→∀Q next,
  (∀v w',vA G (fun b=>dom b∨b=id) (Z.add o.dst id e) (a.put o.dst v) w'→next (a.put o.dst v) w')→o.wp P a w next Q)∧
 (jo o.op=true→e.oB=none∧e.fz=[]∧Kw P o s nx0 e.val)
theorem Oper.dN {P:Program}{o:Oper}{a:Act}{w w':World}{v:Value}{next:Act→World→Prop}{Q:Exit→Act→World→Prop}
  (hr:(execOp a.eval o).run P w= .ok (.value v) w') (h:next (a.put o.dst v) w'):o.wp P a w next Q:=by
 unfold Oper.wp;rw[hr];exact h
theorem a7.cQ {G:Ctx}{dom dom':Nat→Prop}{ρ:Nat→Loc}{s:St}{a:Act}{w:World}(h:a7 G dom ρ s a w)(hd:∀b,dom b→dom' b):a7 G dom' ρ s a w:=by
 have hx:=Ext.refl (aQ G s.own ρ w) w;have hs:jH dom dom' ρ ρ:=⟨hd,fun _ _=>rfl⟩;exact h.vg (own':=s.own) hx hs (fun b B hl=>by
  obtain⟨h1,h2,h3,h4⟩:=h.own b B hl;exact⟨hd _ h1,h2,aT.ext hx hs _ _ (fun _ _ _=>rfl) h3,h4⟩) h.inj rfl rfl rfl (Nat.le_refl _) (fun _ _ _=>rfl)
def bZ (o:Oper)(n:Nat):Prop:=∀d,o.dst=some d→d<n
theorem bm.pure {P:Program}{o:Oper}{s:St}{nx0 id:Nat}{val:V}(hd:bZ o s.n)
  (h:∀G dom ρ Z a w,a7 G dom ρ Z a w→rJ s Z nx0 o→∃v,(execOp a.eval o).run P w= .ok (.value v) w∧cd ρ dom (aQ G Z.own ρ w) w val v):
  bm P o s nx0 id ⟨val,none,[]⟩:=by
 refine⟨?_,fun _=>⟨rfl,rfl,h⟩⟩;intro G dom ρ Z a w hs _ ha Q next hk;obtain⟨v,hr,hv⟩:=h G dom ρ Z a w hs ha;refine Oper.dN hr (hk v w ⟨ρ,?_⟩);rw[St.add_plain];exact(hs.put (dst:=o.dst) (fun d hh=>by rw[ha.n];exact hd d hh) hv).cQ (fun b hb=>Or.inl hb)
end Go.Eng
/-
  THE ENGINE, PART D: what each operation that only looks computes, and that it does so.
-/
namespace Go.Eng
open Go
def fX (op:BinOp)(k:IntKind)(x y:Int):Int:=
 let a:=BitVec.ofInt k.bits x
 let b:=BitVec.ofInt k.bits y
 match op with
 |.and=>k.wrap (a&&&b).toNat
 |.or=>k.wrap (a|||b).toNat
 |.xor=>k.wrap (a^^^b).toNat
 |_=>k.wrap (a&&& ~~~b).toNat
def ET (op:BinOp)(k:IntKind)(a:Int)(k':IntKind)(b:Int)(K:C→Prop):Prop:=
 match op with
 |.shl=>0≤b∧K (.int k (k.wrap (a*2^(min b.toNat k.bits))))
 |.shr=>0≤b∧K (.int k (a.fdiv (2^(min b.toNat k.bits))))
 |.add=>k=k'∧K (.int k (k.wrap (a+b)))
 |.sub=>k=k'∧K (.int k (k.wrap (a-b)))
 |.mul=>k=k'∧K (.int k (k.wrap (a*b)))
 |.quo=>k=k'∧b≠0∧K (.int k (k.wrap (a.tdiv b)))
 |.rem=>k=k'∧b≠0∧K (.int k (a.tmod b))
 |.eql=>k=k'∧K (.bool (decide (a=b)))
 |.neq=>k=k'∧K (.bool (decide (a≠b)))
 |.lss=>k=k'∧K (.bool (decide (a<b)))
 |.leq=>k=k'∧K (.bool (decide (a≤b)))
 |.gtr=>k=k'∧K (.bool (decide (b<a)))
 |.geq=>k=k'∧K (.bool (decide (b≤a)))
 |op=>k=k'∧K (.int k (fX op k a b))
theorem AM {P:Program}{w:World}{op:BinOp}{k k':IntKind}{a b:Int}{K:C→Prop}(t:TypeId)(x y:Operand)(h:ET op k a k' b K):
  ∃c v,K c∧(do eqGuard op t x y (.int k a) (.int k' b);Go.binOp op t (.int k a) (.int k' b):Sem Value).run P w= .ok v w∧∀ρ dom ok,aW ρ dom ok w c v:=by
 have hg:(eqGuard op t x y (.int k a) (.int k' b)).run P w= .ok () w:=by
  unfold eqGuard
  cases op<;>rfl
 rw[Sem.run_bind,hg,Result.andThen_ok]
 cases op<;>simp only[ET]at h
 case shl=>exact⟨_,_,h.2,by simp only[Go.binOp,Op.shift];rw[if_neg (by omega)];rfl,fun _ _ _=>rfl⟩
 case shr=>exact⟨_,_,h.2,by simp only[Go.binOp,Op.shift];rw[if_neg (by omega)];rfl,fun _ _ _=>rfl⟩
 case quo=>
  obtain⟨rfl,h0,hk⟩:=h;exact⟨_,_,hk,by simp only[Go.binOp,Op.intDiv,ne_eq,not_true_eq_false,↓reduceIte];rw[if_neg h0];rfl,fun _ _ _=>rfl⟩
 case rem=>
  obtain⟨rfl,h0,hk⟩:=h;exact⟨_,_,hk,by simp only[Go.binOp,Op.intDiv,ne_eq,not_true_eq_false,↓reduceIte];rw[if_neg h0];rfl,fun _ _ _=>rfl⟩
 case eql=>
  obtain⟨rfl,hk⟩:=h;refine⟨_,_,hk,by simp only[Go.binOp,Op.intCmp,ne_eq,not_true_eq_false,↓reduceIte];rfl,fun _ _ _=>?_⟩;show Value.bool _=Value.bool _
  congr 1
 case neq=>
  obtain⟨rfl,hk⟩:=h;refine⟨_,_,hk,by simp only[Go.binOp,Op.intCmp,ne_eq,not_true_eq_false,↓reduceIte];rfl,fun _ _ _=>?_⟩;show Value.bool _=Value.bool _
  congr 1
  rw[Bool.eq_iff_iff];simp
 all_goals
  obtain⟨rfl,hk⟩:=h;exact⟨_,_,hk,by simp only[Go.binOp,Op.intArith,Op.intCmp,Op.intBits,ne_eq,not_true_eq_false,↓reduceIte];rfl,fun _ _ _=>rfl⟩
theorem av {P:Program}{w:World}{t:TypeId}{d:TypeDesc}(h:P.underlying t=some d):(underlying t).run P w= .ok d w:=by
 simp[underlying,h]
theorem run_typeInfo {P:Program}{w:World}{t:TypeId}{i:TypeInfo}(h:P.info? t=some i):(typeInfo t).run P w= .ok i w:=by
 simp[typeInfo,h]
theorem run_sizeOf {P:Program}{w:World}{t:TypeId}{i:TypeInfo}(h:P.info? t=some i):(sizeOf t).run P w= .ok i.size w:=by
 simp[sizeOf,run_typeInfo h]
theorem fj {P:Program}{w:World}{t:TypeId}{i:TypeInfo}{z:Value}(h:P.info? t=some i)(hz:i.zero=some z):(zeroValue t).run P w= .ok z w:=by
 simp[zeroValue,run_typeInfo h,hz]
def EM.agg:EM→Option Bool
 |.st _=>some true
 |.arr _ _=>some true
 |.other=>none
 |_=>some false
theorem ru {P:Program}{w:World}{t:TypeId}{d:TypeDesc}{b:Bool}(h:P.underlying t=some d)(hb:(ck P d).agg=some b):(isAgg t).run P w= .ok b w:=by
 unfold isAgg;rw[Sem.run_bind,av h,Result.andThen_ok]
 cases d<;>simp only[ck]at hb
 case struct fs=>split at hb<;>simp [EM.agg]at hb;subst hb;rfl
 case array=>simp[EM.agg]at hb;subst hb;rfl
 all_goals(simp[EM.agg]at hb;try(subst hb;rfl))
def NX (k:EM)(cs:List C):V:=
 match k with
 |.st _=>.agg cs
 |.arr _ _=>.agg cs
 |.other=>.unk
 |_=>match cs with
  |[c]=>.one c
  |_=>.unk
theorem j4 {P:Program}{w:World}(a:Addr):∀(n i:Nat) (acc:Array Value) (us:List Value),us.length=n→
  (∀j u,us[j]? =some u→w.cell? (a.add (i+j))=some u)→(loadCellsFrom a i n acc).run P w= .ok (acc++us.toArray) w
 |0,i,acc,us,hl,_=>by
  obtain rfl:us=[]:=List.eq_nil_of_length_eq_zero hl
  simp[loadCellsFrom]
 |n+1,i,acc,us,hl,hc=>by
  match us,hl,hc with
  |u::us,hl,hc=>
   have h0:=hc 0 u rfl;simp only[Nat.add_zero]at h0;simp only[loadCellsFrom,Sem.run_bind,run_load,h0,Result.andThen_ok];rw[j4 a n (i+1) _ us (by simpa using hl) (fun j u' hj=>by
    have:=hc (j+1) u' (by simpa using hj)
    rw[show i+1+j=i+(j+1) by omega];exact this)]
   simp
theorem j9 {P:Program}{w:World}(a:Addr)(us:List Value)(hc:∀j u,us[j]? =some u→w.cell? (a.add j)=some u):
  (loadCells a us.length).run P w= .ok us.toArray w:=by
 unfold loadCells;rw[j4 a us.length 0 #[] us rfl (by simpa using hc)]
 simp
theorem b5.length {ρ:Nat→Loc}{dom ok:Nat→Prop}{w:World}:∀{cs:List C} {vs:List Value},b5 ρ dom ok w cs vs→cs.length=vs.length
 |[],[],_=>rfl
 |_::cs,_::vs,h=>by simp[b5.length h.2]
 |[],_::_,h=>h.elim
 |_::_,[],h=>h.elim
theorem b5.get {ρ:Nat→Loc}{dom ok:Nat→Prop}{w:World}:∀{cs:List C} {vs:List Value},b5 ρ dom ok w cs vs→∀(j:Nat) c,cs[j]? =some c→∃v,vs[j]? =some v∧aW ρ dom ok w c v
 |[],[],_,j,c,hj=>by simp at hj
 |c0::cs,v0::vs,h,0,c,hj=>by simp at hj;subst hj;exact⟨v0,rfl,h.1⟩
 |c0::cs,v0::vs,h,j+1,c,hj=>by simpa using b5.get h.2 j c (by simpa using hj)
 |[],_::_,h,_,_,_=>h.elim
 |_::_,[],h,_,_,_=>h.elim
theorem b5.BP {ρ:Nat→Loc}{dom ok:Nat→Prop}{w:World}:∀{cs:List C} {vs:List Value},cs.length=vs.length→(∀(j:Nat) c v,cs[j]? =some c→vs[j]? =some v→aW ρ dom ok w c v)→b5 ρ dom ok w cs vs
 |[],[],_,_=>trivial
 |c0::cs,v0::vs,h,hg=>⟨hg 0 c0 v0 rfl rfl,b5.BP (by simpa using h) (fun j c v hc hv=>hg (j+1) c v (by simpa using hc) (by simpa using hv))⟩
 |[],_::_,h,_=>by simp at h
 |_::_,[],h,_=>by simp at h
theorem j0 {P:Program}{ρ:Nat→Loc}{dom ok:Nat→Prop}{w:World}{t:TypeId}{i:TypeInfo}{d:TypeDesc}(hi:P.info? t=some i)(hu:P.underlying t=some d)
  (g o:Nat) (cs:List C) (hl:cs.length=i.size) (hk:(ck P d).agg=some true∨((ck P d).agg=some false∧i.size=1))
  (hc:∀j c,cs[j]? =some c→∃u,w.cell? ⟨g,o+j,none⟩=some u∧aW ρ dom ok w c u):
  ∃v,(loadVar t ⟨g,o,none⟩).run P w= .ok v w∧cd ρ dom ok w (NX (ck P d) cs) v:=by
 have key:∀(cs:List C) (o:Nat),(∀j c,cs[j]? =some c→∃u,w.cell? ⟨g,o+j,none⟩=some u∧aW ρ dom ok w c u)→
   ∃us:List Value,us.length=cs.length∧(∀j u,us[j]? =some u→w.cell? ⟨g,o+j,none⟩=some u)∧b5 ρ dom ok w cs us:=by
  intro cs
  induction cs with
  |nil=>intro o _;exact⟨[],rfl,fun j u hj=>by simp at hj,trivial⟩
  |cons c cs ih=>
   intro o h;obtain⟨u,hu,hr⟩:=h 0 c rfl;obtain⟨us,h1,h2,h3⟩:=ih (o+1) (fun j c' hj=>by
    obtain⟨u',hu',hr'⟩:=h (j+1) c' (by simpa using hj);exact⟨u',by rw[show o+1+j=o+(j+1) by omega];exact hu',hr'⟩)
   refine⟨u::us,by simp[h1],fun j u' hj=>?_,hr,h3⟩
   cases j with
   |zero=>simp at hj;subst hj;exact hu
   |succ j=>have:=h2 j u' (by simpa using hj);rw[show o+1+j=o+(j+1) by omega]at this;exact this
 obtain⟨us,h1,h2,h3⟩:=key cs o hc
 have hadd:∀j,(⟨g,o,none⟩:Addr).add j=⟨g,o+j,none⟩:=fun j=>by unfold Addr.add;split<;>simp_all
 rcases hk with hk|⟨hk,h1s⟩
 ·refine⟨.agg us.toArray,?_,?_⟩
  ·unfold loadVar;rw[Sem.run_bind,ru hu hk,Result.andThen_ok];simp only[↓reduceIte,Sem.run_bind,run_sizeOf hi,Result.andThen_ok];rw[←hl,←h1,j9 _ us (fun j u hj=>by rw[hadd];exact h2 j u hj)];rfl
  cases hd:ck P d<;>rw [hd]at hk<;>simp [EM.agg]at hk<;>exact ⟨us.toArray,rfl,h3⟩
 have hcl:cs.length=1:=by omega
 match cs,us,hcl,h1,h2,h3 with
 |[c],[u],_,_,h2,h3=>
  refine⟨u,?_,?_⟩
  ·unfold loadVar;rw[Sem.run_bind,ru hu hk,Result.andThen_ok]
   have:=h2 0 u rfl
   simp only[Nat.add_zero]at this;simp only[Bool.false_eq_true,↓reduceIte,run_load,this]
  cases hd:ck P d<;>rw [hd]at hk<;>simp [EM.agg]at hk<;>exact h3.1
end Go.Eng
/-
  THE ENGINE, PART E: struct values: their cells, built and filled.
-/
namespace Go.Eng
open Go
def V.oe:V→Bool
 |.one _=>true
 |.agg _=>true
 |_=>false
def cellsOf:V→List C
 |.one c=>[c]
 |.agg cs=>cs
 |_=>[]
section
variable {ρ:Nat→Loc}{dom ok:Nat→Prop}{w:World}
theorem aM.plain {c:C}{v:Value}(h:aM ok w c v):v.oneCell'=true∧v.cells= #[v]:=by
 cases c with
 |any=>
  have h:v.oneCell'=true:=h;refine⟨h,?_⟩
  cases v<;>first|rfl|simp [Value.oneCell']at h
 |bool b=>cases h;exact⟨rfl,rfl⟩
 |int k n=>cases h;exact⟨rfl,rfl⟩
 |str s=>cases h;exact⟨rfl,rfl⟩
 |nil=>cases h;exact⟨rfl,rfl⟩
 |ints k xs=>obtain⟨a,cap,rfl,_⟩:=h;exact⟨rfl,rfl⟩
 |rows wd n f=>obtain⟨a,cap,rfl,_⟩:=h;exact⟨rfl,rfl⟩
 |own b wd off len=>exact h.elim
 |ptr b off=>exact h.elim
 |elt s wd i off=>obtain⟨g,o,n,cap,_,_,rfl⟩:=h;exact⟨rfl,rfl⟩
 |eptr b wd i off=>exact h.elim
 |fn f n caps=>obtain⟨cs,rfl,_⟩:=h;exact⟨rfl,rfl⟩
theorem aW.plain {c:C}{v:Value}(h:aW ρ dom ok w c v):v.oneCell'=true∧v.cells= #[v]:=by
 cases c with
 |own b wd off len=>
  obtain⟨_,_,cap,_,h⟩:=h
  rcases h with⟨g,o,o',_,rfl,_⟩|⟨_,rfl,_⟩<;>exact ⟨rfl,rfl⟩
 |ptr b off=>obtain⟨_,g,o,_,rfl⟩:=h;exact⟨rfl,rfl⟩
 |eptr b wd i off=>obtain⟨_,_,g,o,_,rfl⟩:=h;exact⟨rfl,rfl⟩
 |fn f n caps=>obtain⟨cs,rfl,_⟩:=h;exact⟨rfl,rfl⟩
 |any=>exact aM.plain (ok:=ok) (w:=w) (c:=.any) h
 |bool b=>exact aM.plain (ok:=ok) (w:=w) (c:=.bool b) h
 |int k n=>exact aM.plain (ok:=ok) (w:=w) (c:=.int k n) h
 |str s=>exact aM.plain (ok:=ok) (w:=w) (c:=.str s) h
 |nil=>exact aM.plain (ok:=ok) (w:=w) (c:=.nil) h
 |ints k xs=>exact aM.plain (ok:=ok) (w:=w) (c:=.ints k xs) h
 |rows wd n f=>exact aM.plain (ok:=ok) (w:=w) (c:=.rows wd n f) h
 |elt s wd i off=>exact aM.plain (ok:=ok) (w:=w) (c:=.elt s wd i off) h
theorem cd.cells {x:V}{v:Value}(h:cd ρ dom ok w x v)(hx:x.oe=true):b5 ρ dom ok w (cellsOf x) v.cells.toList:=by
 cases x with
 |one c=>
  have h':aW ρ dom ok w c v:=h;rw[(aW.plain h').2];exact⟨h',trivial⟩
 |agg cs=>obtain⟨vs,rfl,hl⟩:=h;exact hl
 |aJ xs=>simp[V.oe]at hx
 |unk=>simp[V.oe]at hx
end
def lj (cs:List C)(off:Nat)(l:List C):List C:=cs.take off++(l++cs.drop (off+l.length))
theorem tH (cs:List C)(off:Nat)(l:List C)(h:off+l.length≤cs.length)(j:Nat):
  (lj cs off l)[j]? =if off≤j∧j<off+l.length then l[j-off]? else cs[j]? :=by
 unfold lj;rw[List.getElem?_append,List.getElem?_append,X5]
 by_cases h1:j<off
 ·rw[if_pos (by omega),if_neg (by omega),List.getElem?_take,if_pos h1]
 rw[if_neg (by omega)]
 by_cases h2:j<off+l.length
 ·rw[if_pos (by omega),if_pos (by omega)]
  congr 1;omega
 rw[if_neg (by omega),if_neg (by omega),List.getElem?_drop]
 congr 1;omega
theorem od (cs:List C)(off:Nat)(l:List C)(h:off+l.length≤cs.length):(lj cs off l).length=cs.length:=by
 unfold lj;simp;omega
def jU (fs:List (Nat×Nat))(cells:List C):List (Nat×V)→Option (List C)
 |[]=>some cells
 |(i,x)::rest=>
  match fs[i]? with
  |none=>none
  |some (off,size)=>if x.oe=true∧(cellsOf x).length=size∧off+size≤cells.length then jU fs (lj cells off (cellsOf x)) rest else none
theorem yM (off:Nat):∀(l:List Value) (k:Nat) (cells:Array Value),off+k+l.length≤cells.size→
  ((l.zipIdx k).foldl (fun cs (p:Value×Nat)=>cs.setIfInBounds (off+p.2) p.1) cells).size=cells.size∧
  ∀m:Nat,((l.zipIdx k).foldl (fun cs (p:Value×Nat)=>cs.setIfInBounds (off+p.2) p.1) cells)[m]? =if off+k≤m∧m<off+k+l.length then l[m-(off+k)]? else cells[m]?
 |[],k,cells,_=>⟨rfl,fun m=>by rw[if_neg (by simp)];rfl⟩
 |v::l,k,cells,h=>by
  have ih:=yM off l (k+1) (cells.setIfInBounds (off+k) v) (by simp at h⊢;omega);rw[List.zipIdx_cons,List.foldl_cons];refine⟨by simpa using ih.1,fun m=>?_⟩;rw[ih.2 m];simp only[List.length_cons]at h⊢
  by_cases h1:off+k=m
  ·subst h1;have hlt:off+k<cells.size:=by omega
   rw[if_neg (by omega),if_pos (by omega)]
   simp[hlt]
  by_cases h2:off+(k+1)≤m∧m<off+(k+1)+l.length
  ·rw[if_pos h2,if_pos (by omega)];obtain⟨q,hq⟩:∃q,m=off+k+1+q:=⟨m-(off+k+1),by omega⟩;subst hq;rw[show off+k+1+q-(off+(k+1))=q by omega,show off+k+1+q-(off+k)=q+1 by omega,List.getElem?_cons_succ]
  rw[if_neg h2,if_neg (by omega),Array.getElem?_setIfInBounds_ne h1]
section
variable {ρ:Nat→Loc}{dom ok:Nat→Prop}{w:World}
def Ld (ρ:Nat→Loc)(dom ok:Nat→Prop)(w:World):List (Nat×V)→List (Nat×Value)→Prop
 |[],[]=>True
 |(i,x)::xs,(j,v)::vs=>i=j∧cd ρ dom ok w x v∧Ld ρ dom ok w xs vs
 |_,_=>False
theorem td {place:Nat→Option (Nat×Nat)}{fs:List (Nat×Nat)}(hp:∀i p,fs[i]? =some p→place i=some p):∀(xs:List (Nat×V)) (vs:List (Nat×Value)) (cs:List C) (cells:Array Value) (out:List C),
  Ld ρ dom ok w xs vs→b5 ρ dom ok w cs cells.toList→jU fs cs xs=some out→∃cells',Instr.fill place cells vs=some cells'∧b5 ρ dom ok w out cells'.toList
 |[],[],cs,cells,out,_,hl,hf=>by
  simp only[jU,Option.some.injEq]at hf;subst hf;exact⟨cells,rfl,hl⟩
 |(i,x)::xs,(j,v)::vs,cs,cells,out,hr,hl,hf=>by
  obtain⟨rfl,hx,hr⟩:=hr;simp only[jU]at hf
  cases hi:fs[i]? with
  |none=>rw[hi]at hf;simp at hf
  |some p=>
   obtain⟨off,size⟩:=p;rw[hi]at hf;simp only at hf
   split at hf
   ·rename_i hc
    obtain⟨hs,hn,hle⟩:=hc;have hcells:=cd.cells hx hs;have hlen:=b5.length hcells;have hlen2:=b5.length hl;simp only[Array.length_toList]at hlen hlen2;have hf1:=yM off v.cells.toList 0 cells (by simp;omega);simp only[Nat.add_zero]at hf1;have hfold:v.cells.zipIdx.foldl (fun cs (p:Value×Nat)=>cs.setIfInBounds (off+p.2) p.1) cells=(v.cells.toList.zipIdx 0).foldl (fun cs (p:Value×Nat)=>cs.setIfInBounds (off+p.2) p.1) cells:=by
     rw[←Array.foldl_toList,Array.toList_zipIdx]
    have hrep:b5 ρ dom ok w (lj cs off (cellsOf x)) ((v.cells.toList.zipIdx 0).foldl (fun cs (p:Value×Nat)=>cs.setIfInBounds (off+p.2) p.1) cells).toList:=by
     refine b5.BP ?_ ?_
     ·rw[od _ _ _ (by omega)];simp only[Array.length_toList,hf1.1];omega
     intro m c u hc hu;rw[tH _ _ _ (by omega)]at hc;rw[Array.getElem?_toList,hf1.2 m]at hu;simp only[Array.length_toList]at hu
     by_cases hm:off≤m∧m<off+(cellsOf x).length
     ·rw[if_pos hm]at hc;rw[if_pos (by omega)]at hu;obtain⟨u',hu',hr'⟩:=b5.get hcells _ _ hc;rw[hu']at hu;obtain rfl:=Option.some.inj hu;exact hr'
     rw[if_neg hm]at hc;rw[if_neg (by omega)]at hu;obtain⟨u',hu',hr'⟩:=b5.get hl _ _ hc;rw[Array.getElem?_toList,hu]at hu';obtain rfl:=Option.some.inj hu';exact hr'
    obtain⟨cells',h1,h2⟩:=td hp xs vs _ _ out hr hrep hf;refine⟨cells',?_,h2⟩;simp only[Instr.fill,hp i _ hi];rw[if_neg (by simp;omega),hfold];exact h1
   simp at hf
 |[],_::_,_,_,_,h,_,_=>h.elim
 |_::_,[],_,_,_,h,_,_=>h.elim
end
end Go.Eng
/-
  THE ENGINE, PART F: contracts of pure functions; what an operation that only looks gives, as a proposition that can be reckoned.
-/
namespace Go.Eng
open Go
abbrev fP:=Nat→Option Ty
def fg (P:Program)(T:fP):Prop:=∀t X,T t=some X→dh P t=some X
def bz:Nat→Loc:=fun _=>⟨none,0⟩
def bH:Nat→Prop:=fun _=>False
def kz (P:Program)(f:FuncId):Prop:=∃fn,P.funcs[f]? =some fn∧fn.body.isNone=false∧(fn.name== "runtime.NumGoroutine")=false
def Pr (P:Program)(f:FuncId)(args:List V)(r:V):Prop:=
 kz P f∧∀(ok:Nat→Prop) (w:World) (vs:Array Value),(∀g,ok g→g<w.heap.size)→a8 bz bH ok w args vs.toList→
  Calls P f vs w fun e w'=>∃v,e= .returned v∧Go.RowKit.Below w.heap.size w w'∧cd bz bH (fun g=>ok g∨(w.heap.size≤g∧g<w'.heap.size)) w' r v
def Bk.flat:Bk→Prop
 |.var _=>False
 |_=>True
def Bk.wd:Bk→Nat
 |.ints _ _ _=>1
 |.rows _ w _ _=>w
 |.var _=>0
def ua:C→Prop
 |.bool _=>True
 |.int _ _=>True
 |_=>False
def Fr (P:Program)(f:FuncId)(args:List V)(B:Bk):Prop:=
 kz P f∧B.flat∧∀(ok:Nat→Prop) (w:World) (vs:Array Value),(∀g,ok g→g<w.heap.size)→a8 bz bH ok w args vs.toList→
  Calls P f vs w fun e w'=>∃v l,e= .returned v∧Go.RowKit.Below w.heap.size w w'∧l.len=B.len∧(∀g o,l.addr=some (g,o)→w.heap.size≤g∧g<w'.heap.size)∧
   aT bz bH (fun g=>ok g∨(w.heap.size≤g∧g<w'.heap.size∧∀o,l.addr≠some (g,o))) w' l B∧fy (fun _=>l) (fun _=>True) (fun _=>False) w' (.own 0 B.wd 0 B.len) v
def fJ (P:Program)(f:FuncId)(args:List V)(B:Bk)(c:C):Prop:=
 ua c∧kz P f∧B.flat∧∀(ok:Nat→Prop) (w:World) (vs:Array Value),(∀g,ok g→g<w.heap.size)→a8 bz bH ok w args vs.toList→
  Calls P f vs w fun e w'=>∃v u l,e= .returned (.tuple #[v,u])∧Go.RowKit.Below w.heap.size w w'∧l.len=B.len∧(∀g o,l.addr=some (g,o)→w.heap.size≤g∧g<w'.heap.size)∧
   aT bz bH (fun g=>ok g∨(w.heap.size≤g∧g<w'.heap.size∧∀o,l.addr≠some (g,o))) w' l B∧fy (fun _=>l) (fun _=>True) (fun _=>False) w' (.own 0 B.wd 0 B.len) v∧aW bz bH (fun _=>False) w' c u
def eH {α:Type}(p:α→Prop)(a:α):Prop:=p a
theorem Lg {α:Type}{p:α→Prop}{a:α}(h:p a):eH p a:=h
def bC (f:Nat→C):Nat→Nat→List C
 |_,0=>[]
 |off,n+1=>f off::bC f (off+1) n
def ly:C→Nat→Nat→C
 |.ints k xs,i,_=>.int k (xs.getD i 0)
 |.rows _ _ f,i,j=>f i j
 |_,_,_=>.any
def Gx:C→Nat
 |.ints _ _=>1
 |.rows w _ _=>w
 |_=>0
def oc:Bk→Nat→Nat→C
 |.ints _ k xs,i,_=>.int k (xs.getD i 0)
 |.rows _ _ _ f,i,j=>f i j
 |.var _,_,_=>.any
def Ly:Bk→Nat
 |.ints _ _ _=>1
 |.rows _ w _ _=>w
 |.var _=>0
def jL (B:Bk)(wd off len:Nat):C:=
 match B with
 |.ints _ k xs=>if wd=1 then .ints k ((xs.drop off).take len)else .any
 |.rows _ w _ f=>if w=wd then .rows w len (fun i j=>f (off+i) j)else .any
 |.var _=>.any
def Pd:C→C
 |.own _ _ _ _=>.any
 |.ptr _ _=>.any
 |.eptr _ _ _ _=>.any
 |.fn _ _ _=>.any
 |c=>c
def Pg (B:Bk)(off:Nat):C:=
 match B with
 |.var cs=>.elt (.rows cs.length 1 (fun _ j=>Pd (cs.getD j .any))) cs.length 0 off
 |_=>.any
def oR (own:List (Nat×gI))(nx0:Nat):C→C
 |.own b wd off len=>if b<nx0 then(match lo own b with|some B=>jL B.bk wd off len|none=>.any)else .any
 |.ptr b off=>if b<nx0 then(match lo own b with|some B=>Pg B.bk off|none=>.any)else .any
 |.eptr _ _ _ _=>.any
 |.fn f n _=>if n=0 then .fn f 0 (fun _=>.any)else .any
 |c=>c
def yI (own:List (Nat×gI))(nx0:Nat):V→V
 |.one c=>.one (oR own nx0 c)
 |.agg cs=>.agg (cs.map (oR own nx0))
 |_=>.unk
def jK:C→List Nat
 |.own b _ _ _=>[b]
 |.ptr b _=>[b]
 |_=>[]
def ij:V→List Nat
 |.one c=>jK c
 |.agg cs=>cs.flatMap jK
 |_=>[]
def gn:C→Bool
 |.any=>true
 |.bool _=>true
 |.int _ _=>true
 |.str _=>true
 |.nil=>true
 |_=>false
def mY:V→Bool
 |.unk=>true
 |.one c=>gn c
 |.agg cs=>cs.all gn
 |.aJ vs=>vs.all fun|.one c=>gn c|.agg cs=>cs.all gn|.unk=>true|.aJ _=>false
def IL (E:Ty):Prop:=E.k.agg=some true∨(E.k.agg=some false∧E.size=1)
def zC (T:fP)(s:St)(nx0:Nat)(t:TypeId)(x:Operand)(K:ey→Prop):Prop:=
 match T t with
 |some E=>match s.ev x with
  |.one (.ptr b off)=>b<nx0∧match lo s.own b with
   |some B=>match B.bk with
    |.var cs=>off+E.size≤cs.length∧IL E∧K ⟨NX E.k ((cs.drop off).take E.size),none,[]⟩
    |_=>False
   |none=>False
  |.one (.elt c wd i off)=>Gx c=wd∧off+E.size≤wd∧IL E∧K ⟨NX E.k (bC (ly c i) off E.size),none,[]⟩
  |.one (.eptr b wd i off)=>b<nx0∧match lo s.own b with
   |some B=>Ly B.bk=wd∧off+E.size≤wd∧IL E∧K ⟨NX E.k (bC (oc B.bk i) off E.size),none,[]⟩
   |none=>False
  |_=>False
 |none=>False
def kZ (k:IntKind):List C→Option (List Int)
 |[]=>some []
 |.int k' n::r=>if k'=k then(kZ k r).map (n:: ·)else none
 |_::_=>none
def gr (z:List C):Nat→List C
 |0=>[]
 |n+1=>z++gr z n
def iL (size:Nat):Nat→Nat→List (Nat×Nat)
 |_,0=>[]
 |i,n+1=>(i*size,size)::iL size (i+1) n
def D4 (E:Ty)(e:TypeId)(id:Nat)(fz:Bool)(len:Nat)(cs:List C)(ids:List Nat)(K:ey→Prop):Prop:=
 match E.k with
 |.int k=>match kZ k cs with
  |some xs=>if fz then K ⟨.one (.ints k xs),none,ids⟩else K ⟨.one (.own id 1 0 len),some (.ints e k xs),ids⟩
  |none=>False
 |_=>if fz then K ⟨.one (.rows E.size len (fun i j=>cs.getD (i*E.size+j) .any)),none,ids⟩
  else K ⟨.one (.own id E.size 0 len),some (.rows e E.size len (fun i j=>cs.getD (i*E.size+j) .any)),ids⟩
def ic (T:fP)(s:St)(nx0 id:Nat)(fz:Bool)(t:TypeId)(len:Nat)(parts:Array (Nat×Operand))(K:ey→Prop):Prop:=
 match T t with
 |some S=>match S.k with
  |.sl e=>match T e with
   |some E=>E.zero.length=E.size∧len*E.size≤16777216∧(match E.k with|.int _=>E.size=1|_=>0<E.size)∧
     match jU (iL E.size 0 len) (gr E.zero len) (parts.toList.map fun p=>(p.1,yI s.own nx0 (s.ev p.2)))with
     |some cs=>D4 E e id fz len cs ((parts.toList.map fun p=>ij (s.ev p.2)).flatten.filter (fun b=>decide (b<nx0))) K
     |none=>False
   |none=>False
  |_=>False
 |none=>False
def jF (T:fP)(s:St)(id:Nat)(t:TypeId)(l c:Operand)(K:ey→Prop):Prop:=
 match T t with
 |some S=>match S.k with
  |.sl e=>match T e with
   |some E=>match s.ev l,s.ev c with
    |.one (.int _ l),.one (.int _ c)=>E.zero.length=E.size∧0<E.size∧(0≤l∧l≤c∧c*E.bytes≤281474976710656∧c≤9223372036854775807)∧
     match E.k with
     |.int k=>E.zero=[.int k 0]∧K ⟨.one (.own id 1 0 l.toNat),some (.ints e k (List.replicate c.toNat 0)),[]⟩
     |_=>K ⟨.one (.own id E.size 0 l.toNat),some (.rows e E.size c.toNat (fun _ j=>E.zero.getD j .any)),[]⟩
    |_,_=>False
   |none=>False
  |_=>False
 |none=>False
def u6 (s:St)(x:Option Operand)(d:Int)(K:Int→Prop):Prop:=
 match x with
 |none=>K d
 |some x=>match s.ev x with
  |.one (.int _ i)=>K i
  |_=>False
def sO (T:fP)(s:St)(t:TypeId)(x:Operand)(lo hi:Option Operand)(m:Operand)(K:ey→Prop):Prop:=
 match T t with
 |some S=>match S.k with
  |.sl e=>match T e with
   |some E=>match s.ev x with
    |.one (.own b wd off len)=>wd=E.size∧match hi with
     |some y=>u6 s lo 0 fun l=>u6 s (some y) len fun h=>u6 s (some m) len fun k=>(0≤l∧l≤h∧h≤k∧k≤len)∧K ⟨.one (.own b wd (off+l.toNat) (h-l).toNat),none,[]⟩
     |none=>False
    |_=>False
   |none=>False
  |_=>False
 |none=>False
def uH (T:fP)(s:St)(t:TypeId)(x:Operand)(lo hi mx:Option Operand)(K:ey→Prop):Prop:=
 match mx with
 |some m=>sO T s t x lo hi m K
 |none=>match T t with
 |some S=>match S.k with
  |.sl e=>match T e with
   |some E=>match s.ev x with
    |.one (.own b wd off len)=>wd=E.size∧u6 s lo 0 fun l=>u6 s hi len fun h=>(0≤l∧l≤h∧h≤len)∧K ⟨.one (.own b wd (off+l.toNat) (h-l).toNat),none,[]⟩
    |.one (.ints k xs)=>1=E.size∧u6 s lo 0 fun l=>u6 s hi xs.length fun h=>(0≤l∧l≤h∧h≤xs.length)∧K ⟨.one (.ints k ((xs.drop l.toNat).take (h-l).toNat)),none,[]⟩
    |.one (.rows wd n f)=>wd=E.size∧u6 s lo 0 fun l=>u6 s hi n fun h=>(0≤l∧l≤h∧h≤n)∧K ⟨.one (.rows wd (h-l).toNat (fun i j=>f (l.toNat+i) j)),none,[]⟩
    |.one .nil=>u6 s lo 0 fun l=>u6 s hi 0 fun h=>(l=0∧h=0)∧K ⟨.one .nil,none,[]⟩
    |_=>False
   |none=>False
  |.str=>match s.ev x with
   |.one (.str b)=>u6 s lo 0 fun l=>u6 s hi b.size fun h=>(0≤l∧l≤h∧h≤b.size)∧K ⟨.one (.str (b.extract l.toNat h.toNat)),none,[]⟩
   |_=>False
  |_=>False
 |none=>False
def jv (T:fP)(s:St)(t:TypeId)(x:Operand)(f:Nat)(K:ey→Prop):Prop:=
 match T t with
 |some E=>match E.k with
  |.st fs=>match fs[f]? with
   |some (fo,fsz)=>0<fsz∧match s.ev x with
    |.one (.ptr b off)=>K ⟨.one (.ptr b (off+fo)),none,[]⟩
    |.one (.elt c wd i off)=>K ⟨.one (.elt c wd i (off+fo)),none,[]⟩
    |.one (.eptr b wd i off)=>K ⟨.one (.eptr b wd i (off+fo)),none,[]⟩
    |_=>False
   |none=>False
  |_=>False
 |none=>False
def jE (T:fP)(s:St)(t:TypeId)(x i:Operand)(K:ey→Prop):Prop:=
 match T t with
 |some S=>match S.k with
  |.sl e=>match T e with
   |some E=>match s.ev i with
    |.one (.int _ i)=>match s.ev x with
     |.one (.own b wd off len)=>wd=E.size∧0<E.size∧(0≤i∧i<len)∧K ⟨.one (.eptr b wd (off+i.toNat) 0),none,[]⟩
     |.one (.ints k xs)=>1=E.size∧(0≤i∧i<xs.length)∧K ⟨.one (.elt (.ints k xs) 1 i.toNat 0),none,[]⟩
     |.one (.rows wd n f)=>wd=E.size∧0<E.size∧(0≤i∧i<n)∧K ⟨.one (.elt (.rows wd n f) wd i.toNat 0),none,[]⟩
     |_=>False
    |_=>False
   |none=>False
  |.arr n e=>match T e with
   |some E=>match s.ev i with
    |.one (.int _ i)=>match s.ev x with
     |.one (.ptr b off)=>(0≤i∧i<n)∧K ⟨.one (.ptr b (off+i.toNat*E.size)),none,[]⟩
     |_=>False
    |_=>False
   |none=>False
  |_=>False
 |none=>False
def DC (a b:ByteArray):Bool:=a.toList==b.toList
def Hh (b:ByteArray)(i:Nat):Int:=((b[i]?.getD 0).toNat:Int)
def mI (T:fP)(s:St)(src dst:TypeId)(x:Operand)(K:ey→Prop):Prop:=
 match T src,T dst with
 |some S,some D=>match D.k with
  |.int k=>match s.ev x with
   |.one (.int _ n)=>K ⟨.one (.int k (k.wrap n)),none,[]⟩
   |_=>False
  |.str=>match S.k with
   |.sl e=>match T e with
    |some E=>match E.k with
     |.int k=>k= .u8∧match s.ev x with
      |.one (.ints k' xs)=>k'= .u8∧K ⟨.one (.str (strOfNums xs)),none,[]⟩
      |_=>False
     |_=>False
    |none=>False
   |_=>False
  |_=>False
 |_,_=>False
def tf (T:fP)(s:St)(t:TypeId)(x i:Operand)(K:ey→Prop):Prop:=
 match T t with
 |some E=>match E.k with
  |.str=>match s.ev i with
   |.one (.int _ i)=>match s.ev x with
    |.one (.str b)=>(0≤i∧i<b.size)∧K ⟨.one (.int .u8 (Hh b i.toNat)),none,[]⟩
    |_=>False
   |_=>False
  |_=>False
 |none=>False
def Mt (op:BinOp)(a b:ByteArray)(K:C→Prop):Prop:=
 match op with
 |.add=>((a.size+b.size:Nat):Int)≤9223372036854775807∧K (.str (a++b))
 |.eql=>K (.bool (DC a b))
 |.neq=>K (.bool (!DC a b))
 |_=>False
def Hy (T:fP)(s:St)(op:BinOp)(t:TypeId)(x y:Operand)(K:ey→Prop):Prop:=
 match s.ev x,s.ev y with
 |.one (.int k a),.one (.int k' b)=>ET op k a k' b fun c=>K ⟨.one c,none,[]⟩
 |.one (.bool a),.one (.bool b)=>match T t with
  |some E=>match E.k with
   |.bool=>match op with
    |.eql=>K ⟨.one (.bool (a==b)),none,[]⟩
    |.neq=>K ⟨.one (.bool (a !=b)),none,[]⟩
    |_=>False
   |_=>False
  |none=>False
 |.one (.str a),.one (.str b)=>Mt op a b fun c=>K ⟨.one c,none,[]⟩
 |_,_=>False
def OD (s:St)(op:UnOp)(x:Operand)(K:ey→Prop):Prop:=
 match op,s.ev x with
 |.not,.one (.bool b)=>K ⟨.one (.bool (!b)),none,[]⟩
 |.neg,.one (.int k n)=>K ⟨.one (.int k (k.wrap (0-n))),none,[]⟩
 |_,_=>False
def jw:C→Option Nat
 |.own _ _ _ len=>some len
 |.ints _ xs=>some xs.length
 |.rows _ n _=>some n
 |.nil=>some 0
 |_=>none
def ML:V→V→Option V
 |.one (.int k x),.one (.int _ y)=>some (.one (.int k (if x<y then y else x)))
 |_,_=>none
def mA (T:fP)(s:St)(b:Builtin)(args:List Operand)(tys:List TypeId)(K:ey→Prop):Prop:=
 match b,args,tys with
 |.len,[x],[t]=>match T t with
  |some E=>match E.k with
   |.sl _=>match s.ev x with
    |.one c=>match jw c with
     |some n=>K ⟨.one (.int .i64 n),none,[]⟩
     |none=>False
    |_=>False
   |.str=>match s.ev x with
    |.one (.str b)=>K ⟨.one (.int .i64 b.size),none,[]⟩
    |_=>False
   |_=>False
  |none=>False
 |.max,[x,y],_=>match ML (s.ev x) (s.ev y)with
  |some v=>K ⟨v,none,[]⟩
  |none=>False
 |_,_,_=>False
def tL (T:fP)(s:St)(t:TypeId)(x:Operand)(f:Nat)(K:ey→Prop):Prop:=
 match T t with
 |some E=>match E.k with
  |.st fs=>match fs[f]? with
   |some (fo,fsz)=>match s.ev x with
    |.agg cs=>E.fl[f]? =some true∧fsz=1∧fo<cs.length∧K ⟨.one (cs.getD fo .any),none,[]⟩
    |_=>False
   |none=>False
  |_=>False
 |none=>False
def rP:V→Bool
 |.one c=>match c with
  |.fn _ _ _=>false
  |_=>true
 |_=>false
def C5:V→C
 |.one c=>c
 |_=>.any
def lV (n:Nat)(caps:Nat→C):List V:=(List.range n).map fun i=>.one (caps i)
def wA (P:Program)(s:St)(nx0 id:Nat)(g:Operand)(args:List Operand)(K:ey→Prop):Prop:=
 match s.ev g with
 |.one (.fn f n caps)=>((∃r,Pr P f ((args.map s.ev++lV n caps).map (yI s.own nx0)) r∧
   eH K ⟨r,none,if mY r then[]else((args.map s.ev++lV n caps).map ij).flatten.filter (fun b=>decide (b<nx0))⟩)∨
   (∃B,Fr P f ((args.map s.ev++lV n caps).map (yI s.own nx0)) B∧eH K ⟨.one (.own id B.wd 0 B.len),some B,((args.map s.ev++lV n caps).map ij).flatten.filter (fun b=>decide (b<nx0))⟩)∨
   (∃B c,fJ P f ((args.map s.ev++lV n caps).map (yI s.own nx0)) B c∧eH K ⟨.aJ [.one (.own id B.wd 0 B.len),.one c],some B,((args.map s.ev++lV n caps).map ij).flatten.filter (fun b=>decide (b<nx0))⟩))
 |_=>False
def eF (T:fP)(P:Program)(op:Op)(s:St)(nx0 id:Nat)(fz:Bool)(K:ey→Prop):Prop:=
 match op with
 |.move x=>K ⟨s.ev x,none,[]⟩
 |.assign x=>K ⟨s.ev x,none,[]⟩
 |.pick c a b=>match s.ev c with
  |.one (.bool t)=>K ⟨if t then s.ev a else s.ev b,none,[]⟩
  |_=>False
 |.alloc e=>match T e with
  |some E=>K ⟨.one (.ptr id 0),some (.var E.zero),[]⟩
  |none=>False
 |.box _ x=>(s.ev x).oe=true∧K ⟨.one (.ptr id 0),some (.var (cellsOf (s.ev x))),[]⟩
 |.build t parts=>match T t with
  |some E=>match E.k with
   |.st fs=>match jU fs E.zero (parts.toList.map fun p=>(p.1,s.ev p.2))with
    |some cs=>K ⟨.agg cs,none,[]⟩
    |none=>False
   |_=>False
  |none=>False
 |.buildSlice t len parts=>ic T s nx0 id fz t len parts K
 |.field t x f=>tL T s t x f K
 |.load t x=>zC T s nx0 t x K
 |.binOp op t x y _=>Hy T s op t x y K
 |.unOp op _ x=>OD s op x K
 |.convert src dst x=>mI T s src dst x K
 |.makeSlice t l c=>jF T s id t l c K
 |.slice t x lo hi mx=>uH T s t x lo hi mx K
 |.fieldAddr t x f=>jv T s t x f K
 |.indexAddr t x i=>jE T s t x i K
 |.index t x i=>tf T s t x i K
 |.extract x i=>match s.ev x with
  |.aJ vs=>match vs[i]? with
   |some v=>K ⟨v,none,[]⟩
   |none=>False
  |_=>False
 |.nilCheck x=>match s.ev x with
  |.one (.ptr b off)=>K ⟨.one (.ptr b off),none,[]⟩
  |.one (.elt c wd i off)=>K ⟨.one (.elt c wd i off),none,[]⟩
  |.one (.eptr b wd i off)=>K ⟨.one (.eptr b wd i off),none,[]⟩
  |_=>False
 |.makeFunc fn first captured=>match fn,first.size with
  |.func f,0=>(captured.toList.all fun x=>rP (s.ev x))=true∧K ⟨.one (.fn f captured.size (fun i=>C5 ((captured.toList.map s.ev).getD i .unk))),none,[]⟩
  |_,_=>False
 |.call c=>match c.callee with
  |.builtin b=>mA T s b c.args.toList c.argTypes.toList K
  |.value g=>wA P s nx0 id g c.args.toList K
  |.invoke _ _=>False
 |_=>False
end Go.Eng
/-
  THE ENGINE, PART G: the operations that only look do what part F says.
-/
namespace Go.Eng
open Go
theorem dP {P:Program}{x:Sem Value}{w w':World}{v:Value}(h:x.run P w= .ok v w'):(do pure (Next.value (←x)):Sem Next).run P w= .ok (.value v) w':=by
 rw[Sem.run_bind,h];rfl
theorem a6 {s Z:St}{nx0:Nat}{o:Oper}(ha:rJ s Z nx0 o){x:Operand}(hx:x∈o.op.operands){X:V}(h:s.ev x=X):Z.ev x=X:=(ha.ev x hx).trans h
section
variable {P:Program}{T:fP}(hT:fg P T){o:Oper}{s:St}{nx0 id:Nat}{K:ey→Prop}
include hT
theorem bI {t:TypeId}{E:Ty}(h:T t=some E):∃i d z,P.info? t=some i∧P.underlying t=some d∧i.zero=some z∧E.k=ck P d∧E.size=i.size∧E.bytes=i.bytes∧E.zero=z.cells.toList.map Db∧z.cells.toList.all Value.oneCell'=true:=
 OZ.parts ⟨hT t E h⟩
theorem O6 {t:TypeId}{E:Ty}(h:T t=some E):∃d,P.underlying t=some d∧E.k=ck P d∧E.fl=Nu P d:=by
 have h:=hT t E h;unfold dh at h
 cases hi:P.info? t with
 |none=>rw[hi]at h;simp at h
 |some i=>
  cases hu:P.underlying t with
  |none=>rw[hi,hu]at h;simp at h
  |some d=>
   cases hz:i.zero with
   |none=>rw[hi,hu]at h;simp[hz]at h
   |some z=>
    rw[hi,hu]at h;simp only[hz]at h
    split at h
    ·simp only[Option.some.injEq]at h;subst h;exact⟨d,rfl,rfl,rfl⟩
    cases h
theorem fD {t e:TypeId}{S:Ty}(h:T t=some S)(hk:S.k= .sl e):P.underlying t=some (.slice e):=by
 obtain⟨i,d,z,_,hu,_,hkd,_⟩:=bI hT h;rw[hk]at hkd;rw[hu]
 cases d<;>simp only[ck]at hkd
 case slice=>cases hkd;rfl
 case struct fs=>split at hkd<;>cases hkd
 all_goals cases hkd
theorem Om {t e:TypeId}{n:Nat}{S:Ty}(h:T t=some S)(hk:S.k= .arr n e):P.underlying t=some (.array n e):=by
 obtain⟨i,d,z,_,hu,_,hkd,_⟩:=bI hT h;rw[hk]at hkd;rw[hu]
 cases d<;>simp only[ck]at hkd
 case array=>cases hkd;rfl
 case struct fs=>split at hkd<;>cases hkd
 all_goals cases hkd
theorem Ot {t:TypeId}{S:Ty}(h:T t=some S)(hk:S.k= .str):P.underlying t=some .string:=by
 obtain⟨i,d,z,_,hu,_,hkd,_⟩:=bI hT h;rw[hk]at hkd;rw[hu]
 cases d<;>simp only[ck]at hkd
 case string=>rfl
 case struct fs=>split at hkd<;>cases hkd
 all_goals cases hkd
theorem OC {t:TypeId}{x:Operand}(ho:o.op= .load t x)(hd:bZ o s.n)(h:zC T s nx0 t x K):∃e,K e∧bm P o s nx0 id e:=by
 have hxm:x∈o.op.operands:=by rw[ho];simp[Op.operands]
 have hrun:∀(a:Act) (w:World) (g off:Nat) (v:Value),a.eval x= .pointer (some ⟨g,off,none⟩)→(loadVar t ⟨g,off,none⟩).run P w= .ok v w→(execOp a.eval o).run P w= .ok (.value v) w:=by
  intro a w g off v he hl;unfold execOp;rw[ho];refine dP ?_;simp only[Instr.loadAt,he,Instr.sureAddr,Sem.run_bind,Sem.run_pure,Result.andThen_ok];exact hl
 unfold zC at h
 cases hTt:T t with
 |none=>rw[hTt]at h;exact h.elim
 |some E=>
  rw[hTt]at h;simp only at h;obtain⟨i,d,z,hi,hu,_,hk,hsz,_⟩:=bI hT hTt;have hldk:IL E→(ck P d).agg=some true∨((ck P d).agg=some false∧i.size=1):=fun hh=>by rw[←hk,←hsz];exact hh
  split at h
  ·-- a variable's block
   rename_i b off hx
   obtain⟨hb,h⟩:=h
   cases hlo:lo s.own b with
   |none=>rw[hlo]at h;exact h.elim
   |some B=>
    rw[hlo]at h;simp only at h
    split at h
    ·rename_i cs hbk
     obtain⟨hle,hld,hK⟩:=h;refine⟨_,hK,bm.pure hd fun G dom ρ Z a w hs ha=>?_⟩;obtain⟨rw_,hz⟩:=ha.oB hb hlo;obtain⟨_,_,hrep,_⟩:=hs.own b _ hz;have hev:=hs.ev x;rw[a6 ha hxm hx]at hev;obtain⟨_,g,o',haddr,hval⟩:=hev;unfold aT at hrep;rw[haddr]at hrep;obtain⟨cur,e,hg,hc⟩:=hrep;simp only[hbk]at hc;obtain⟨v,hv,hr⟩:=j0 (P:=P) (t:=t) hi hu g (o'+off) ((cs.drop off).take E.size) (by rw[←hsz];simp;omega) (hldk hld) (fun j c hj=>by
      rw[List.getElem?_take]at hj
      split at hj
      ·rw[List.getElem?_drop]at hj;obtain⟨u,hu',hr⟩:=hc (off+j) c hj;exact⟨u,by rw[cell_of_row w g _ cur e (0,0) hg,Nat.add_assoc];exact hu',hr⟩
      simp at hj)
     exact⟨v,hrun a w _ _ v hval hv,by rw[hk];exact hr⟩
    exact h.elim
  ·-- an element of what only is looked at
   rename_i c wd ix off hx
   obtain⟨hw,hle,hld,hK⟩:=h;refine⟨_,hK,bm.pure hd fun G dom ρ Z a w hs ha=>?_⟩;have hev:=hs.ev x;rw[a6 ha hxm hx]at hev;obtain⟨g,o',n,cap,hrc,hix,hval⟩:=hev;have hcells:∀j,j<wd→∃u,w.cell? ⟨g,o'+(ix*wd+j),none⟩=some u∧aM (aQ G Z.own ρ w) w (ly c ix j) u:=by
    intro j hj
    cases c with
    |ints k xs=>
     obtain⟨a',cap',he,_,hr⟩:=hrc;simp only[Value.slice.injEq]at he;obtain⟨rfl,rfl,rfl⟩:=he;simp only[Gx]at hw;subst hw
     rcases hr with hr|⟨g',o'',he,_,hcs⟩
     ·omega
     simp only[Option.some.injEq,Addr.mk.injEq,and_true]at he;obtain⟨rfl,rfl⟩:=he;refine⟨_,?_,rfl⟩
     have:=hcs ix hix
     rw[show ix*1+j=ix by omega];exact this
    |rows wd' n' f=>
     obtain⟨a',cap',he,_,hr⟩:=hrc;simp only[Value.slice.injEq]at he;obtain⟨rfl,rfl,rfl⟩:=he;simp only[Gx]at hw;subst hw
     rcases hr with hr|⟨g',o'',he,_,hcs⟩
     ·omega
     simp only[Option.some.injEq,Addr.mk.injEq,and_true]at he;obtain⟨rfl,rfl⟩:=he;exact hcs ix j hix hj
    |_=>simp only[Gx]at hw;omega
   have hcf:∀(n off0 j:Nat) c',(bC (ly c ix) off0 n)[j]? =some c'→j<n∧c'=ly c ix (off0+j):=by
    intro n
    induction n with
    |zero=>intro off0 j c' hj;simp[bC]at hj
    |succ n ih=>
     intro off0 j c' hj
     cases j with
     |zero=>simp[bC]at hj;exact⟨by omega,hj.symm⟩
     |succ j=>
      obtain⟨h1,h2⟩:=ih (off0+1) j c' (by simpa[bC]using hj);exact⟨by omega,by rw[h2,show off0+1+j=off0+(j+1) by omega]⟩
   have hlen:∀n off0,(bC (ly c ix) off0 n).length=n:=by
    intro n
    induction n with
    |zero=>intro _;rfl
    |succ n ih=>intro off0;simp[bC,ih]
   obtain⟨v,hv,hr⟩:=j0 (P:=P) (ρ:=ρ) (dom:=dom) (ok:=aQ G Z.own ρ w) (w:=w) (t:=t) hi hu g (o'+(ix*wd+off)) (bC (ly c ix) off E.size) (by rw[hlen,hsz]) (hldk hld) (fun j c' hj=>by
    obtain⟨h1,rfl⟩:=hcf _ _ _ _ hj;obtain⟨u,hu',hr⟩:=hcells (off+j) (by omega);exact⟨u,by rw[show o'+(ix*wd+off)+j=o'+(ix*wd+(off+j)) by omega];exact hu',aW.bw hr⟩)
   exact⟨v,hrun a w _ _ v hval hv,by rw[hk];exact hr⟩
  ·-- an element of a slice of the frame's own
   rename_i b wd ix off hx
   obtain⟨hb,h⟩:=h
   cases hlo:lo s.own b with
   |none=>rw[hlo]at h;exact h.elim
   |some B=>
    rw[hlo]at h;simp only at h;obtain⟨hw,hle,hld,hK⟩:=h;refine⟨_,hK,bm.pure hd fun G dom ρ Z a w hs ha=>?_⟩;obtain⟨rw_,hz⟩:=ha.oB hb hlo;obtain⟨_,hlenρ,hrep,_⟩:=hs.own b _ hz;have hev:=hs.ev x;rw[a6 ha hxm hx]at hev;obtain⟨_,hix,g,o',haddr,hval⟩:=hev;unfold aT at hrep;rw[haddr]at hrep;obtain⟨cur,e,hg,hc⟩:=hrep;rw[hlenρ]at hix;simp only at hc hix;have hcells:∀j,j<wd→∃u,w.cell? ⟨g,o'+(ix*wd+j),none⟩=some u∧aM (aQ G Z.own ρ w) w (oc B.bk ix j) u:=by
     intro j hj;rw[cell_of_row w g _ cur e (0,0) hg]
     cases hB:B.bk with
     |var cs=>rw[hB]at hw;simp only[Ly]at hw;omega
     |ints e' k xs=>
      rw[hB]at hc hw hix;simp only[Ly]at hw;subst hw;simp only[Bk.len]at hix;obtain⟨u,hu',hr⟩:=hc ix (.int k (xs.getD ix 0)) (by simp[Bk.cell,X8 hix]);exact⟨u,by rw[show ix*1+j=ix by omega];exact hu',hr⟩
     |rows e' wd' n' f=>
      rw[hB]at hc hw hix;simp only[Ly]at hw;subst hw;simp only[Bk.len]at hix;have hlt:ix*wd'+j<n'*wd':=by
       have:(ix+1)*wd'≤n'*wd':=Nat.mul_le_mul_right _ hix
       rw[Nat.add_mul]at this;omega
      obtain⟨u,hu',hr⟩:=hc (ix*wd'+j) (f ix j) (by
       simp only[Bk.cell,if_pos hlt];rw[Nat.mul_comm ix wd',Nat.mul_add_div (by omega),Nat.div_eq_of_lt hj,Nat.mul_add_mod,Nat.mod_eq_of_lt hj];simp)
      exact⟨u,hu',hr⟩
    have hcf:∀(n off0 j:Nat) c',(bC (oc B.bk ix) off0 n)[j]? =some c'→j<n∧c'=oc B.bk ix (off0+j):=by
     intro n
     induction n with
     |zero=>intro off0 j c' hj;simp[bC]at hj
     |succ n ih=>
      intro off0 j c' hj
      cases j with
      |zero=>simp[bC]at hj;exact⟨by omega,hj.symm⟩
      |succ j=>
       obtain⟨h1,h2⟩:=ih (off0+1) j c' (by simpa[bC]using hj);exact⟨by omega,by rw[h2,show off0+1+j=off0+(j+1) by omega]⟩
    have hlen:∀n off0,(bC (oc B.bk ix) off0 n).length=n:=by
     intro n
     induction n with
     |zero=>intro _;rfl
     |succ n ih=>intro off0;simp[bC,ih]
    obtain⟨v,hv,hr⟩:=j0 (P:=P) (ρ:=ρ) (dom:=dom) (ok:=aQ G Z.own ρ w) (w:=w) (t:=t) hi hu g (o'+(ix*wd+off)) (bC (oc B.bk ix) off E.size) (by rw[hlen,hsz]) (hldk hld) (fun j c' hj=>by
     obtain⟨h1,rfl⟩:=hcf _ _ _ _ hj;obtain⟨u,hu',hr⟩:=hcells (off+j) (by omega);exact⟨u,by rw[show o'+(ix*wd+off)+j=o'+(ix*wd+(off+j)) by omega];exact hu',aW.bw hr⟩)
    exact⟨v,hrun a w _ _ v hval hv,by rw[hk];exact hr⟩
  exact h.elim
end
end Go.Eng
/-
  THE ENGINE, PART H: more operations that only look.
-/
namespace Go.Eng
open Go
theorem bm.newVar {P:Program}{o:Oper}{s:St}{nx0 id:Nat}{e:TypeId}{cs:List C}(hlt:jo o.op=false)(hd:bZ o s.n)
  (h:∀G dom ρ Z a w,a7 G dom ρ Z a w→rJ s Z nx0 o→∃cells:Array Value,(execOp a.eval o).run P w= .ok (.value (.pointer (some ⟨w.heap.size,0,none⟩))) (w.alloc (.cells cells e))∧b5 ρ dom (aQ G Z.own ρ w) w cs cells.toList):
  bm P o s nx0 id ⟨.one (.ptr id 0),some (.var cs),[]⟩:=by
 refine⟨?_,fun h=>by rw[hlt]at h;cases h⟩;intro G dom ρ Z a w hs hid ha Q next hk;obtain⟨cells,hr,hl⟩:=h G dom ρ Z a w hs ha;have h1:=hs.B6 hid (.var cs) cells e (fun j c hj=>by
  obtain⟨u,hu,hr⟩:=b5.get hl j c (by simpa[Bk.cell]using hj);exact⟨u,by simpa using hu,hr⟩)
 have h2:=h1.put (dst:=o.dst) (x:=.one (.ptr id 0)) (v:=.pointer (some ⟨w.heap.size,0,none⟩)) (fun d hh=>by have:=hd d hh;rw[←ha.n]at this;exact this)
  (by exact⟨.inr rfl,w.heap.size,0,by rw[oE],rfl⟩)
 have e2:Z.add o.dst id ⟨.one (.ptr id 0),some (.var cs),[]⟩=St.put {Z with own:=iX Z.own id ⟨.var cs,true⟩} o.dst (.one (.ptr id 0)):=by
  cases o.dst<;>rfl
 rw[←e2]at h2;exact Oper.dN hr (hk _ _ ⟨_,h2⟩)
theorem Ip (l:List (Nat×gI)):fh l []=l:=by
 induction l with
 |nil=>rfl
 |cons x l ih=>obtain⟨b,B⟩:=x;simp[fh,ih]
theorem yQ (l:List (Nat×gI))(ids:List Nat):xH l ids=fh l ids:=by
 cases ids with
 |nil=>exact(Ip l).symm
 |cons x ids=>rfl
theorem bm.newRow {P:Program}{o:Oper}{s:St}{nx0 id:Nat}{e:TypeId}{B:Bk}{wd len:Nat}(ids:List Nat)(hlt:jo o.op=false)(hd:bZ o s.n)(hB:∀cs,B≠ .var cs)(hlen:len≤B.len)
  (h:∀G dom ρ Z a w,a7 G dom ρ Z a w→rJ s Z nx0 o→∃(cells:Array Value) (cap:Nat),(execOp a.eval o).run P w= .ok (.value (.slice (some ⟨w.heap.size,0,none⟩) len cap)) (w.alloc (.cells cells e))∧len≤cap∧cap*wd≤cells.size∧
   ∀j c,B.cell j=some c→∃u,cells[j]? =some u∧aM (aQ G (fh Z.own ids) ρ w) w c u):
  bm P o s nx0 id ⟨.one (.own id wd 0 len),some B,ids⟩:=by
 refine⟨?_,fun h=>by rw[hlt]at h;cases h⟩;intro G dom ρ Z a w hs hid ha Q next hk;obtain⟨cells,cap,hr,hcap,hsz,hl⟩:=h G dom ρ Z a w hs ha;have h1:=(hs.fh ids).B6 hid B cells e (fun j c hj=>by
  obtain⟨u,hu,hr⟩:=hl j c hj;refine⟨u,hu,?_⟩
  cases B with
  |var cs=>exact absurd rfl (hB cs)
  |ints e k xs=>exact hr
  |rows e w n f=>exact hr)
 have h2:=h1.put (dst:=o.dst) (x:=.one (.own id wd 0 len)) (v:=.slice (some ⟨w.heap.size,0,none⟩) len cap) (fun d hh=>by have:=hd d hh;rw[←ha.n]at this;exact this)
  (by
   refine⟨.inr rfl,by rw[oE];simpa using hlen,cap,hcap,.inl ⟨w.heap.size,0,0,by rw[oE],rfl,.inr (by simp),?_⟩⟩
   have:b6 (w.alloc (.cells cells e)) w.heap.size=cells.size:=by
    unfold b6;rw[show (w.alloc (.cells cells e)).heap[w.heap.size]? =some (.cells cells e)from heap_alloc_new w _]
   rw[this];simpa using hsz)
 have e2:Z.add o.dst id ⟨.one (.own id wd 0 len),some B,ids⟩=St.put {Z with own:=iX (fh Z.own ids) id ⟨B,true⟩} o.dst (.one (.own id wd 0 len)):=by
  unfold St.add;simp only[yQ]
  cases o.dst<;>rfl
 rw[←e2]at h2;exact Oper.dN hr (hk _ _ ⟨_,h2⟩)
theorem bm.L1 {P:Program}{o:Oper}{s:St}{nx0 id:Nat}{e:TypeId}{c:C}(ids:List Nat)(hlt:jo o.op=false)(hd:bZ o s.n)
  (h:∀G dom ρ Z a w,a7 G dom ρ Z a w→rJ s Z nx0 o→∃(cells:Array Value) (v:Value),(execOp a.eval o).run P w= .ok (.value v) (w.alloc (.cells cells e))∧
   aM (aQ G (fh Z.own ids) ρ (w.alloc (.cells cells e))) (w.alloc (.cells cells e)) c v):
  bm P o s nx0 id ⟨.one c,none,ids⟩:=by
 refine⟨?_,fun h=>by rw[hlt]at h;cases h⟩;intro G dom ρ Z a w hs hid ha Q next hk;obtain⟨cells,v,hr,hl⟩:=h G dom ρ Z a w hs ha;refine Oper.dN hr (hk _ _ ⟨ρ,?_⟩);have e2:Z.add o.dst id ⟨.one c,none,ids⟩=St.put {Z with own:=fh Z.own ids} o.dst (.one c):=by
  unfold St.add;simp only[yQ]
  cases o.dst<;>rfl
 rw[e2];have h1:=(hs.fh ids).grown (eD w (.cells cells e));exact(h1.put (dst:=o.dst) (x:=.one c) (v:=v) (fun d hh=>by have:=hd d hh;rw[←ha.n]at this;exact this) (aW.bw hl)).cQ (fun b hb=>Or.inl hb)
theorem run_equalIn_bool {P:Program}(w:World)(d:Nat){t:TypeId}(hu:P.underlying t=some .bool)(a b:Bool):(Op.equalIn (d+1) t (.bool a) (.bool b)).run P w= .ok (a==b) w:=by
 simp only[Op.equalIn,Sem.run_bind,av hu,Result.andThen_ok,Sem.run_pure]
section
variable {P:Program}{T:fP}(hT:fg P T){o:Oper}{s:St}{nx0 id:Nat}{K:ey→Prop}
theorem Mf {x:Operand}(ho:o.op= .move x∨o.op= .assign x)(hd:bZ o s.n)(h:K ⟨s.ev x,none,[]⟩):∃e,K e∧bm P o s nx0 id e:=by
 have hxm:x∈o.op.operands:=by rcases ho with ho|ho<;>rw [ho]<;>simp [Op.operands]
 refine⟨_,h,bm.pure hd fun G dom ρ Z a w hs ha=>⟨a.eval x,?_,?_⟩⟩
 ·unfold execOp
  rcases ho with ho|ho<;>rw [ho]<;>rfl
 have:=hs.ev x
 rw[ha.ev x hxm]at this;exact this
theorem On {c x y:Operand}(ho:o.op= .pick c x y)(hd:bZ o s.n){t:Bool}(hc:s.ev c= .one (.bool t))(h:K ⟨if t then s.ev x else s.ev y,none,[]⟩):∃e,K e∧bm P o s nx0 id e:=by
 have hm:∀z,z=c∨z=x∨z=y→z∈o.op.operands:=by rw[ho];simp[Op.operands]
 refine⟨_,h,bm.pure hd fun G dom ρ Z a w hs ha=>⟨if t then a.eval x else a.eval y,?_,?_⟩⟩
 ·have hev:=hs.ev c;rw[a6 ha (hm c (.inl rfl)) hc]at hev;have hev:a.eval c= .bool t:=hev;unfold execOp;rw[ho];simp only[hev,asBool,Sem.run_bind,Sem.run_pure,Result.andThen_ok]
 cases t
 ·have:=hs.ev y
  rw[ha.ev y (hm y (.inr (.inr rfl)))]at this;exact this
 have:=hs.ev x
 rw[ha.ev x (hm x (.inr (.inl rfl)))]at this;exact this
include hT in
theorem O9 {op:BinOp}{t:TypeId}{x y:Operand}{t':TypeId}(ho:o.op= .binOp op t x y t')(hd:bZ o s.n)(h:Hy T s op t x y K):∃e,K e∧bm P o s nx0 id e:=by
 have hxm:x∈o.op.operands:=by rw[ho];simp[Op.operands]
 have hym:y∈o.op.operands:=by rw[ho];simp[Op.operands]
 unfold Hy at h
 split at h
 ·rename_i k a0 k' b0 hx hy
  obtain⟨c,_,hK,_⟩:=AM (P:=P) (w:=default) t x y h
  -- the same at every world
  have hall:∃c,K ⟨.one c,none,[]⟩∧∀w,∃v,(do eqGuard op t x y (.int k a0) (.int k' b0);Go.binOp op t (.int k a0) (.int k' b0):Sem Value).run P w= .ok v w∧∀ρ dom ok,aW ρ dom ok w c v:=by
   have hc:∃c,ET op k a0 k' b0 (fun c'=>c'=c)∧K ⟨.one c,none,[]⟩:=by
    cases op<;>simp only[ET]at h⊢
    case quo=>exact⟨_,⟨h.1,h.2.1,rfl⟩,h.2.2⟩
    case rem=>exact⟨_,⟨h.1,h.2.1,rfl⟩,h.2.2⟩
    all_goals exact⟨_,⟨h.1,rfl⟩,h.2⟩
   obtain⟨c,h1,h2⟩:=hc;refine⟨c,h2,fun w=>?_⟩;obtain⟨c',v,rfl,hr,hv⟩:=AM (P:=P) (w:=w) t x y h1;exact⟨v,hr,hv⟩
  obtain⟨c,hK,hall⟩:=hall;refine⟨_,hK,bm.pure hd fun G dom ρ Z a w hs ha=>?_⟩;have hvx:=hs.ev x;rw[a6 ha hxm hx]at hvx;have hvy:=hs.ev y;rw[a6 ha hym hy]at hvy;have hvx:a.eval x= .int k a0:=hvx;have hvy:a.eval y= .int k' b0:=hvy;obtain⟨v,hr,hv⟩:=hall w;refine⟨v,?_,hv _ _ _⟩;unfold execOp;rw[ho];exact dP (by rw[hvx,hvy];exact hr)
 ·rename_i a0 b0 hx hy
  cases hTt:T t with
  |none=>rw[hTt]at h;exact h.elim
  |some E=>
   rw[hTt]at h;simp only at h;obtain⟨i,d,z,hi,hu,_,hk,_⟩:=bI hT hTt
   split at h
   ·rename_i hEk
    rw[hEk]at hk;have hdb:d= .bool:=by
     cases d<;>simp only[ck]at hk
     case bool=>rfl
     case struct fs=>split at hk<;>cases hk
     all_goals cases hk
    subst hdb;have heq:∀w:World,(Op.equal t (.bool a0) (.bool b0)).run P w= .ok (a0==b0) w:=fun w=>by
     exact run_equalIn_bool w 9999 hu a0 b0
    have hg:∀(w:World),(eqGuard op t x y (.bool a0) (.bool b0)).run P w= .ok () w:=fun w=>by
     unfold eqGuard
     cases op<;>rfl
    split at h
    ·refine⟨_,h,bm.pure hd fun G dom ρ Z a w hs ha=>?_⟩;have hvx:=hs.ev x;rw[a6 ha hxm hx]at hvx;have hvy:=hs.ev y;rw[a6 ha hym hy]at hvy;have hvx:a.eval x= .bool a0:=hvx;have hvy:a.eval y= .bool b0:=hvy;refine⟨.bool (a0==b0),?_,rfl⟩;unfold execOp;rw[ho];refine dP ?_;rw[hvx,hvy,Sem.run_bind,hg,Result.andThen_ok];simp only[Go.binOp,Sem.run_bind,heq,Result.andThen_ok,Sem.run_pure]
    ·refine⟨_,h,bm.pure hd fun G dom ρ Z a w hs ha=>?_⟩;have hvx:=hs.ev x;rw[a6 ha hxm hx]at hvx;have hvy:=hs.ev y;rw[a6 ha hym hy]at hvy;have hvx:a.eval x= .bool a0:=hvx;have hvy:a.eval y= .bool b0:=hvy;refine⟨.bool (a0 !=b0),?_,rfl⟩;unfold execOp;rw[ho];refine dP ?_;rw[hvx,hvy,Sem.run_bind,hg,Result.andThen_ok];simp only[Go.binOp,Sem.run_bind,heq,Result.andThen_ok,Sem.run_pure];rfl
    exact h.elim
   exact h.elim
 ·rename_i a0 b0 hx hy
  have key:∃c,K ⟨.one c,none,[]⟩∧∀w,∃v,(do eqGuard op t x y (.string a0) (.string b0);Go.binOp op t (.string a0) (.string b0):Sem Value).run P w= .ok v w∧∀ρ dom ok,aW ρ dom ok w c v:=by
   cases op<;>simp only[Mt]at h<;>first|exact h.elim|skip
   case add=>
    refine⟨_,h.2,fun w=>⟨.string (a0++b0),?_,fun _ _ _=>rfl⟩⟩;have hn:¬(((a0.size+b0.size:Nat):Int)>IntKind.i64.max):=by
     have e:IntKind.i64.max=9223372036854775807:=by decide
     rw[e];omega
    have hg:(eqGuard .add t x y (.string a0) (.string b0)).run P w= .ok () w:=by unfold eqGuard;rfl
    rw[Sem.run_bind,hg,Result.andThen_ok];simp only[Go.binOp,Op.stringOp,hn,↓reduceIte,Sem.run_pure]
   case eql=>
    refine⟨_,h,fun w=>⟨.bool (DC a0 b0),?_,fun _ _ _=>rfl⟩⟩;have hg:(eqGuard .eql t x y (.string a0) (.string b0)).run P w= .ok () w:=by unfold eqGuard;rfl
    rw[Sem.run_bind,hg,Result.andThen_ok];simp only[Go.binOp,Op.stringOp,Sem.run_pure,DC]
   case neq=>
    refine⟨_,h,fun w=>⟨.bool (!DC a0 b0),?_,fun _ _ _=>rfl⟩⟩;have hg:(eqGuard .neq t x y (.string a0) (.string b0)).run P w= .ok () w:=by unfold eqGuard;rfl
    rw[Sem.run_bind,hg,Result.andThen_ok];simp only[Go.binOp,Op.stringOp,Sem.run_pure,DC]
  obtain⟨c,hK,hall⟩:=key;refine⟨_,hK,bm.pure hd fun G dom ρ Z a w hs ha=>?_⟩;have hvx:=hs.ev x;rw[a6 ha hxm hx]at hvx;have hvy:=hs.ev y;rw[a6 ha hym hy]at hvy;have hvx:a.eval x= .string a0:=hvx;have hvy:a.eval y= .string b0:=hvy;obtain⟨v,hr,hv⟩:=hall w;refine⟨v,?_,hv _ _ _⟩;unfold execOp;rw[ho];exact dP (by rw[hvx,hvy];exact hr)
 exact h.elim
theorem P5 {op:UnOp}{t:TypeId}{x:Operand}(ho:o.op= .unOp op t x)(hd:bZ o s.n)(h:OD s op x K):∃e,K e∧bm P o s nx0 id e:=by
 have hxm:x∈o.op.operands:=by rw[ho];simp[Op.operands]
 unfold OD at h
 split at h
 ·rename_i b hx
  refine⟨_,h,bm.pure hd fun G dom ρ Z a w hs ha=>⟨.bool (!b),?_,rfl⟩⟩;have hvx:=hs.ev x;rw[a6 ha hxm hx]at hvx;have hvx:a.eval x= .bool b:=hvx;unfold execOp;rw[ho];exact dP (by rw[hvx];rfl)
 ·rename_i k n hx
  refine⟨_,h,bm.pure hd fun G dom ρ Z a w hs ha=>⟨.int k (k.wrap (0-n)),?_,rfl⟩⟩;have hvx:=hs.ev x;rw[a6 ha hxm hx]at hvx;have hvx:a.eval x= .int k n:=hvx;unfold execOp;rw[ho];exact dP (by rw[hvx];rfl)
 exact h.elim
include hT in
theorem F0 {
         src dst:TypeId} {x:Operand} (ho:o.op= .convert src dst x) (hd:bZ o s.n) (h:mI T s src dst x K):∃e,K e∧bm P o s nx0 id e:=by
 have hxm:x∈o.op.operands:=by rw[ho];simp[Op.operands]
 unfold mI at h
 split at h
 ·rename_i S D hS hD
  obtain⟨_,d1,_,_,hu1,_⟩:=bI hT hS;obtain⟨_,d2,_,_,hu2,_,hk2,_⟩:=bI hT hD
  split at h
  ·rename_i k hk
   rw[hk]at hk2
   have:d2= .int k:=by
    cases d2<;>simp only[ck]at hk2
    case int=>cases hk2;rfl
    case struct fs=>split at hk2<;>cases hk2
    all_goals cases hk2
   subst this
   split at h
   ·rename_i k' n hx
    refine⟨_,h,bm.pure hd fun G dom ρ Z a w hs ha=>⟨.int k (k.wrap n),?_,rfl⟩⟩;have hvx:=hs.ev x;rw[a6 ha hxm hx]at hvx;have hvx:a.eval x= .int k' n:=hvx;unfold execOp;rw[ho];refine dP ?_;rw[hvx];simp only[convert,Sem.run_bind,av hu1,av hu2,Result.andThen_ok]
    cases d1<;>rfl
   exact h.elim
  ·rename_i hk
   rw[hk]at hk2
   have:d2= .string:=by
    cases d2<;>simp only[ck]at hk2
    case string=>rfl
    case struct fs=>split at hk2<;>cases hk2
    all_goals cases hk2
   subst this
   split at h
   ·rename_i e hSk
    have hus:=fD hT hS hSk
    cases hTe:T e with
    |none=>rw[hTe]at h;exact h.elim
    |some E=>
     rw[hTe]at h;simp only at h;obtain⟨_,d3,_,_,hu3,_,hk3,_⟩:=bI hT hTe
     split at h
     ·rename_i k hEk
      obtain⟨rfl,h⟩:=h;rw[hEk]at hk3
      have:d3= .int .u8:=by
       cases d3<;>simp only[ck]at hk3
       case int=>cases hk3;rfl
       case struct fs=>split at hk3<;>cases hk3
       all_goals cases hk3
      subst this
      split at h
      ·rename_i k' xs hx
       obtain⟨rfl,h⟩:=h;refine⟨_,h,bm.pure hd fun G dom ρ Z a w hs ha=>⟨.string (strOfNums xs),?_,rfl⟩⟩;have hvx:=hs.ev x;rw[a6 ha hxm hx]at hvx;obtain⟨ad,cap,hv,hcap,hr⟩:=hvx;unfold execOp;rw[ho];refine dP ?_;rw[hv]
       rcases hr with h0|⟨g,o',rfl,_,hcell⟩
       ·have hxs:xs=[]:=List.eq_nil_of_length_eq_zero h0;subst hxs
        cases ad with
        |none=>exact run_convert_bytes_nil w src e hus hu3 _ _ dst hu2
        |some a0=>
         have hl:(loadCells a0 0).run P w= .ok (([]:List Int).map (Value.int .u8)).toArray w:=j9 a0 [] (fun j u hj=>by simp at hj);rw[run_convert_bytes_string w src dst e _ _ cap hus hu3 hu2];exact run_bytesToString w a0 0 cap [] hl
       exact run_convert_bytes_arg w src e hus hu3 g o' xs.length cap xs rfl hcell dst hu2
      exact h.elim
     exact h.elim
   exact h.elim
  exact h.elim
 exact h.elim
include hT in
theorem M4 {t:TypeId}{x i:Operand}(ho:o.op= .index t x i)(hd:bZ o s.n)(h:tf T s t x i K):∃e,K e∧bm P o s nx0 id e:=by
 have hxm:x∈o.op.operands:=by rw[ho];simp[Op.operands]
 have him:i∈o.op.operands:=by rw[ho];simp[Op.operands]
 unfold tf at h
 cases hTt:T t with
 |none=>rw[hTt]at h;exact h.elim
 |some E=>
  rw[hTt]at h;simp only at h;obtain⟨_,d,_,_,hu,_,hk,_⟩:=bI hT hTt
  split at h
  ·rename_i hEk
   rw[hEk]at hk;have hds:d= .string:=by
    cases d<;>simp only[ck]at hk
    case string=>rfl
    case struct fs=>split at hk<;>cases hk
    all_goals cases hk
   subst hds
   split at h
   ·rename_i k n hi
    split at h
    ·rename_i b hx
     obtain⟨⟨h0,h1⟩,h⟩:=h;refine⟨_,h,bm.pure hd fun G dom ρ Z a w hs ha=>⟨.int .u8 (Hh b n.toNat),?_,rfl⟩⟩;have hvx:=hs.ev x;rw[a6 ha hxm hx]at hvx;have hvi:=hs.ev i;rw[a6 ha him hi]at hvi;have hvx:a.eval x= .string b:=hvx;have hvi:a.eval i= .int k n:=hvi;unfold execOp;rw[ho];refine dP ?_;have hb:n.toNat<b.size:=by omega
     simp only[Instr.index,hvx,hvi,asIntOf,Sem.run_bind,Sem.run_pure,Result.andThen_ok,av hu,if_pos h0,getElem?_pos b n.toNat hb,Hh,Option.getD_some]
    exact h.elim
   exact h.elim
  exact h.elim
include hT in
theorem CD {t:TypeId}{x:Operand}{f:Nat}(ho:o.op= .fieldAddr t x f)(hd:bZ o s.n)(h:jv T s t x f K):∃e,K e∧bm P o s nx0 id e:=by
 have hxm:x∈o.op.operands:=by rw[ho];simp[Op.operands]
 unfold jv at h
 cases hTt:T t with
 |none=>rw[hTt]at h;exact h.elim
 |some E=>
  rw[hTt]at h;simp only at h;obtain⟨i,d,z,hi,hu,_,hk,_⟩:=bI hT hTt
  split at h
  ·rename_i fs hfs
   rw[hfs]at hk;obtain⟨fields,rfl,hfl⟩:=qU hk.symm
   cases hf:fs[f]? with
   |none=>rw[hf]at h;exact h.elim
   |some p=>
    obtain⟨fo,fsz⟩:=p;rw[hf]at h;simp only at h;obtain⟨hpos,h⟩:=h;obtain⟨fd,fi,hfd,hfi,he⟩:=u4 _ _ hfl _ _ hf;simp only[Prod.mk.injEq]at he;obtain⟨he1,he2⟩:=he;have hfd':fields[f]? =some fd:=by simpa using hfd
    have hrun:∀(a:Act) (w:World) (g off:Nat),a.eval x= .pointer (some ⟨g,off,none⟩)→(execOp a.eval o).run P w= .ok (.value (.pointer (some ⟨g,off+fo,none⟩))) w:=by
     intro a w g off hev;unfold execOp;rw[ho];refine dP ?_;simp only[Instr.fieldAt,Sem.run_bind,av hu,Result.andThen_ok,hfd',hev,Instr.sureAddr,Sem.run_pure,fieldPlace,run_sizeOf hfi,Sem.run_ite];rw[if_neg (by omega)];simp only[Result.andThen_ok,←he1]
     have:(⟨g,off,none⟩:Addr).add fo=⟨g,off+fo,none⟩:=by unfold Addr.add;split<;>simp_all
     rw[this]
    split at h
    ·rename_i b off hx
     refine⟨_,h,bm.pure hd fun G dom ρ Z a w hs ha=>?_⟩;have hev:=hs.ev x;rw[a6 ha hxm hx]at hev;obtain⟨h1,g,o',h2,hv⟩:=hev;exact⟨_,hrun a w g _ hv,h1,g,o',h2,by rw[Nat.add_assoc]⟩
    ·rename_i c wd ix off hx
     refine⟨_,h,bm.pure hd fun G dom ρ Z a w hs ha=>?_⟩;have hev:=hs.ev x;rw[a6 ha hxm hx]at hev;obtain⟨g,o',n,cap,h1,h2,hv⟩:=hev;exact⟨_,hrun a w g _ hv,g,o',n,cap,h1,h2,by rw[Nat.add_assoc,Nat.add_assoc]⟩
    ·rename_i b wd ix off hx
     refine⟨_,h,bm.pure hd fun G dom ρ Z a w hs ha=>?_⟩;have hev:=hs.ev x;rw[a6 ha hxm hx]at hev;obtain⟨h1,h2,g,o',h3,hv⟩:=hev;exact⟨_,hrun a w g _ hv,h1,h2,g,o',h3,by rw[Nat.add_assoc,Nat.add_assoc]⟩
    exact h.elim
  exact h.elim
include hT in
theorem M3 {t:TypeId}{x:Operand}{f:Nat}(ho:o.op= .field t x f)(hd:bZ o s.n)(h:tL T s t x f K):∃e,K e∧bm P o s nx0 id e:=by
 have hxm:x∈o.op.operands:=by rw[ho];simp[Op.operands]
 unfold tL at h
 cases hTt:T t with
 |none=>rw[hTt]at h;exact h.elim
 |some E=>
  rw[hTt]at h;simp only at h;obtain⟨d,hu,hk,hfl⟩:=O6 hT hTt
  split at h
  ·rename_i fs hEk
   split at h
   ·rename_i fo fsz hf
    split at h
    ·rename_i cs hx
     obtain⟨hag,rfl,hlt,h⟩:=h;rw[hEk]at hk;obtain⟨fds,rfl,hmap⟩:=qU hk.symm;obtain⟨fld,i,hfld,hi,hp⟩:=u4 _ _ hmap f _ hf;simp only[Prod.mk.injEq]at hp;obtain⟨rfl,hsz⟩:=hp;have hnag:∃d',P.underlying fld.type=some d'∧(ck P d').agg=some false:=by
      rw[hfl]at hag;simp only[Nu,List.getElem?_map,hfld,Option.map_some,Option.some.injEq]at hag
      cases hud:P.underlying fld.type with
      |none=>rw[hud]at hag;simp at hag
      |some d'=>
       rw[hud]at hag;refine⟨d',rfl,?_⟩;simp only at hag
       cases hkd:ck P d'<;>rw [hkd]at hag<;>simp [EM.agg]at hag⊢
     obtain⟨d',hud,hagg⟩:=hnag;refine⟨_,h,bm.pure hd fun G dom ρ Z a w hs ha=>?_⟩;have hev:=hs.ev x;rw[a6 ha hxm hx]at hev;obtain⟨vs,hv,hl⟩:=hev;obtain⟨u,hu2,hr⟩:=b5.get hl fld.offset (cs.getD fld.offset .any) (by rw[X7,X8 hlt];rfl);refine⟨u,?_,hr⟩;unfold execOp;rw[ho];refine dP ?_;rw[hv];have hfa:fds[f]? =some fld:=by simpa using hfld
     have hua:vs[fld.offset]? =some u:=by simpa using hu2
     simp only[Instr.field,Sem.run_bind,av hu,Result.andThen_ok,hfa,part,asAgg,ru hud hagg,hua,Sem.run_pure,Bool.false_eq_true,↓reduceIte]
    exact h.elim
   exact h.elim
  exact h.elim
end
end Go.Eng
/-
  THE ENGINE, PART I: indices, slice expressions, new variables, composites, new slices, calls.
-/
namespace Go.Eng
open Go
theorem fV (g o j:Nat):(⟨g,o,none⟩:Addr).add j=⟨g,o+j,none⟩:=by unfold Addr.add;split<;>simp_all
theorem Ac {P:Program}{w:World}{t e:TypeId}{i:TypeInfo}(ht:P.underlying t=some (.slice e))(he:P.info? e=some i)(k:IntKind)(n:Int)(g o len cap:Nat)(h0:0≤n)(h1:n<len):
  (Instr.indexAt t (.slice (some ⟨g,o,none⟩) len cap) (.int k n)).run P w= .ok (.pointer (some ⟨g,o+n.toNat*i.size,none⟩)) w:=by
 simp only[Instr.indexAt,asIntOf,Sem.run_bind,Sem.run_pure,Result.andThen_ok,av ht,run_sizeOf he,Sem.run_ite];rw[if_pos ⟨h0,h1⟩];simp only[Result.andThen_ok,fV]
theorem Ae {P:Program}{w:World}{t e:TypeId}{i:TypeInfo}{m:Nat}(ht:P.underlying t=some (.array m e))(he:P.info? e=some i)(k:IntKind)(n:Int)(g o:Nat)(h0:0≤n)(h1:n<m):
  (Instr.indexAt t (.pointer (some ⟨g,o,none⟩)) (.int k n)).run P w= .ok (.pointer (some ⟨g,o+n.toNat*i.size,none⟩)) w:=by
 simp only[Instr.indexAt,asIntOf,Instr.sureAddr,Sem.run_bind,Sem.run_pure,Result.andThen_ok,av ht,run_sizeOf he,Sem.run_ite];rw[if_pos ⟨h0,h1⟩];simp only[Result.andThen_ok,fV]
theorem bB {P:Program}{w:World}(k:IntKind)(n:Int)(y:Nat)(c:BoundsCode)(h0:0≤n)(h1:n≤y):(Instr.sliceBound (.int k n) y c).run P w= .ok n.toNat w:=by
 simp only[Instr.sliceBound,asIntOf,Sem.run_bind,Sem.run_pure,Result.andThen_ok,Sem.run_ite];rw[if_pos ⟨h0,h1⟩]
def n8 (v:Option Value)(d n:Int):Prop:=(v=none∧n=d)∨∃k,v=some (.int k n)
theorem r9 {P:Program}{w:World}{lo hi:Option Value}{len cap:Nat}{l h:Int}(hlo:n8 lo 0 l)(hhi:n8 hi len h)(h0:0≤l)(h1:l≤h)(h2:h≤len)(h3:len≤cap):
  (Instr.sliceBounds true len cap lo hi none).run P w= .ok (l.toNat,h.toNat,cap) w:=by
 unfold Instr.sliceBounds;have hc:h≤(cap:Int):=by omega
 rcases hhi with⟨rfl,rfl⟩|⟨k,rfl⟩
 ·rcases hlo with⟨rfl,rfl⟩|⟨k',rfl⟩
  ·simp
  simp only[Sem.run_bind,Sem.run_pure,Result.andThen_ok,bB k' l len _ h0 h1]
  simp
 rcases hlo with⟨rfl,rfl⟩|⟨k',rfl⟩
 ·simp only[Sem.run_bind,Sem.run_pure,Result.andThen_ok,↓reduceIte,bB k h cap _ (by omega) hc]
  simp
 simp only[Sem.run_bind,Sem.run_pure,Result.andThen_ok,↓reduceIte,bB k h cap _ (by omega) hc];rw[bB k' l h.toNat _ h0 (by omega)]
 simp
theorem rv {P:Program}{w:World}{lo hi:Option Value}{len:Nat}{l h:Int}(hlo:n8 lo 0 l)(hhi:n8 hi len h)(h0:0≤l)(h1:l≤h)(h2:h≤len):
  (Instr.sliceBounds false len len lo hi none).run P w= .ok (l.toNat,h.toNat,len) w:=by
 unfold Instr.sliceBounds
 rcases hhi with⟨rfl,rfl⟩|⟨k,rfl⟩
 ·rcases hlo with⟨rfl,rfl⟩|⟨k',rfl⟩
  ·simp
  simp only[Sem.run_bind,Sem.run_pure,Result.andThen_ok,bB k' l len _ h0 h1]
  simp
 rcases hlo with⟨rfl,rfl⟩|⟨k',rfl⟩
 ·simp only[Sem.run_bind,Sem.run_pure,Result.andThen_ok,bB k h len _ (by omega) h2]
  simp
 simp only[Sem.run_bind,Sem.run_pure,Result.andThen_ok,bB k h len _ (by omega) h2];rw[bB k' l h.toNat _ h0 (by omega)]
 simp
theorem yu {P:Program}{w:World}{t e:TypeId}{i:TypeInfo}(ht:P.underlying t=some (.slice e))(he:P.info? e=some i){lo hi:Option Value}{a:Option Addr}{len cap:Nat}{l h:Int}
  (hlo:n8 lo 0 l) (hhi:n8 hi len h) (h0:0≤l) (h1:l≤h) (h2:h≤len) (h3:len≤cap):
  (Instr.sliceAt t (.slice a len cap) lo hi none).run P w= .ok (.slice (if cap=l.toNat then a else a.map (·.add (l.toNat*i.size))) (h.toNat-l.toNat) (cap-l.toNat)) w:=by
 simp only[Instr.sliceAt,Instr.slice,Sem.run_bind,av ht,Result.andThen_ok,r9 hlo hhi h0 h1 h2 h3,run_sizeOf he,Sem.run_pure]
section
variable {P:Program}{T:fP}(hT:fg P T){o:Oper}{s:St}{nx0 id:Nat}{K:ey→Prop}
include hT in
theorem B9 {t:TypeId}{x i:Operand}(ho:o.op= .indexAddr t x i)(hd:bZ o s.n)(h:jE T s t x i K):∃e,K e∧bm P o s nx0 id e:=by
 have hxm:x∈o.op.operands:=by rw[ho];simp[Op.operands]
 have him:i∈o.op.operands:=by rw[ho];simp[Op.operands]
 unfold jE at h
 cases hTt:T t with
 |none=>rw[hTt]at h;exact h.elim
 |some S=>
  rw[hTt]at h;simp only at h
  split at h
  ·rename_i e hSk
   have hu:=fD hT hTt hSk
   cases hTe:T e with
   |none=>rw[hTe]at h;exact h.elim
   |some E=>
    rw[hTe]at h;simp only at h;obtain⟨ei,ed,ez,hei,heu,_,hek,hes,_⟩:=bI hT hTe
    split at h
    ·rename_i k n hi
     have hrun:∀(a:Act) (w:World) (g o' len cap:Nat),a.eval x= .slice (some ⟨g,o',none⟩) len cap→a.eval i= .int k n→0≤n→n<len→(execOp a.eval o).run P w= .ok (.value (.pointer (some ⟨g,o'+n.toNat*E.size,none⟩))) w:=by
      intro a w g o' len cap hx hiv h0 h1;unfold execOp;rw[ho];refine dP ?_;rw[hx,hiv,Ac hu hei k n g o' len cap h0 h1,hes]
     split at h
     ·rename_i b wd off len hx
      obtain⟨hw,hpos,⟨h0,h1⟩,hK⟩:=h;refine⟨_,hK,bm.pure hd fun G dom ρ Z a w hs ha=>?_⟩;have hev:=hs.ev x;rw[a6 ha hxm hx]at hev;have hiv:=hs.ev i;rw[a6 ha him hi]at hiv;obtain⟨hdom,hle,cap,hcap,hr⟩:=hev
      rcases hr with⟨g,o',o'',haddr,hv,hoff,_⟩|⟨_,_,hl0,_⟩
      ·refine⟨_,hrun a w g o'' len cap hv hiv h0 h1,hdom,by omega,g,o',haddr,?_⟩
       have:o''=o'+off*wd:=by rcases hoff with hoff|hoff<;>omega
       rw[this,hw,Nat.add_mul,Nat.add_zero,Nat.add_assoc]
      omega
     ·rename_i k' xs hx
      obtain⟨hw,⟨h0,h1⟩,hK⟩:=h;refine⟨_,hK,bm.pure hd fun G dom ρ Z a w hs ha=>?_⟩;have hev:=hs.ev x;rw[a6 ha hxm hx]at hev;have hiv:=hs.ev i;rw[a6 ha him hi]at hiv;have hev':=hev;obtain⟨a',cap,hv,hcap,hr⟩:=hev
      rcases hr with hr|⟨g,o',rfl,hg,hcs⟩
      ·omega
      refine⟨_,hrun a w g o' xs.length cap hv hiv h0 h1,g,o',xs.length,cap,?_,by omega,by rw[←hw];rfl⟩;rw[hv]at hev';exact hev'
     ·rename_i wd n' f hx
      obtain⟨hw,hpos,⟨h0,h1⟩,hK⟩:=h;refine⟨_,hK,bm.pure hd fun G dom ρ Z a w hs ha=>?_⟩;have hev:=hs.ev x;rw[a6 ha hxm hx]at hev;have hiv:=hs.ev i;rw[a6 ha him hi]at hiv;have hev':=hev;obtain⟨a',cap,hv,hcap,hr⟩:=hev
      rcases hr with hr|⟨g,o',rfl,hg,hcs⟩
      ·omega
      refine⟨_,hrun a w g o' n' cap hv hiv h0 h1,g,o',n',cap,?_,by omega,by rw[hw];rfl⟩;rw[hv]at hev';exact hev'
     exact h.elim
    exact h.elim
  ·rename_i m e hSk
   have hu:=Om hT hTt hSk
   cases hTe:T e with
   |none=>rw[hTe]at h;exact h.elim
   |some E=>
    rw[hTe]at h;simp only at h;obtain⟨ei,ed,ez,hei,heu,_,hek,hes,_⟩:=bI hT hTe
    split at h
    ·rename_i k n hi
     split at h
     ·rename_i b off hx
      obtain⟨⟨h0,h1⟩,hK⟩:=h;refine⟨_,hK,bm.pure hd fun G dom ρ Z a w hs ha=>?_⟩;have hev:=hs.ev x;rw[a6 ha hxm hx]at hev;have hiv:=hs.ev i;rw[a6 ha him hi]at hiv;obtain⟨k1,g,o',k2,hv⟩:=hev;refine⟨_,?_,k1,g,o',k2,rfl⟩;unfold execOp;rw[ho];refine dP ?_;rw[hv,show a.eval i= .int k n from hiv,Ae hu hei k n g _ h0 h1,hes,Nat.add_assoc]
     exact h.elim
    exact h.elim
  exact h.elim
theorem gG {s Z:St}{x:Option Operand}{d:Int}{K:Int→Prop}(h:u6 s x d K):∃n,K n∧
  ∀(G:Ctx) (dom:Nat→Prop) (ρ:Nat→Loc) (Z:St) (a:Act) (w:World),a7 G dom ρ Z a w→(∀y,x=some y→Z.ev y=s.ev y)→n8 (x.map a.eval) d n:=by
 unfold u6 at h
 cases x with
 |none=>exact⟨d,h,fun _ _ _ _ _ _ _ _=>.inl ⟨rfl,rfl⟩⟩
 |some y=>
  simp only at h
  split at h
  ·rename_i k n hy
   refine⟨n,h,fun G dom ρ Z a w hs he=>.inr ⟨k,?_⟩⟩
   have:=hs.ev y
   rw[he y rfl,hy]at this;exact congrArg some this
  exact h.elim
theorem rE {P:Program}{w:World}{lo:Option Value}{len cap:Nat}{l h m:Int}{kh km:IntKind}(hlo:n8 lo 0 l)(h0:0≤l)(h1:l≤h)(h2:h≤m)(h3:m≤cap):
  (Instr.sliceBounds true len cap lo (some (.int kh h)) (some (.int km m))).run P w= .ok (l.toNat,h.toNat,m.toNat) w:=by
 unfold Instr.sliceBounds;simp only[Sem.run_bind,↓reduceIte,bB km m cap _ (by omega) h3,Result.andThen_ok,bB kh h m.toNat _ (by omega) (by omega)]
 rcases hlo with⟨rfl,rfl⟩|⟨k',rfl⟩
 ·simp
 simp only[Sem.run_bind,Result.andThen_ok];rw[bB k' l h.toNat _ h0 (by omega)]
 simp
include hT in
theorem LL {t:TypeId}{x m:Operand}{lo hi:Option Operand}(ho:o.op= .slice t x lo hi (some m))(hd:bZ o s.n)(h:sO T s t x lo hi m K):∃e,K e∧bm P o s nx0 id e:=by
 have hxm:x∈o.op.operands:=by rw[ho];simp[Op.operands]
 have hmm:m∈o.op.operands:=by rw[ho];simp[Op.operands]
 have hlm:∀y,lo=some y→y∈o.op.operands:=fun y hy=>by rw[ho];simp[Op.operands,hy]
 have hhm:∀y,hi=some y→y∈o.op.operands:=fun y hy=>by rw[ho];simp[Op.operands,hy]
 unfold sO at h
 cases hTt:T t with
 |none=>rw[hTt]at h;exact h.elim
 |some S=>
  rw[hTt]at h;simp only at h
  split at h
  ·rename_i e hSk
   have hu:=fD hT hTt hSk
   cases hTe:T e with
   |none=>rw[hTe]at h;exact h.elim
   |some E=>
    rw[hTe]at h;simp only at h;obtain⟨ei,ed,ez,hei,heu,_,hek,hes,_⟩:=bI hT hTe
    split at h
    ·rename_i b wd off len hx
     obtain⟨hw,h⟩:=h
     cases hi with
     |none=>exact h.elim
     |some y=>
      simp only at h;obtain⟨l,h,hbl⟩:=gG (Z:=s) h;obtain⟨hh,h,hbh⟩:=gG (Z:=s) h;obtain⟨k,h,hbk⟩:=gG (Z:=s) h;obtain⟨⟨h0,h1,h2,h3⟩,hK⟩:=h;refine⟨_,hK,bm.pure hd fun G dom ρ Z a w hs ha=>?_⟩;have hev:=hs.ev x;rw[a6 ha hxm hx]at hev;obtain⟨hdom,hle,cap,hcap,hr⟩:=hev;have hL:=hbl G dom ρ Z a w hs (fun y hy=>ha.ev y (hlm y hy));have hH:=hbh G dom ρ Z a w hs (fun y hy=>ha.ev y (hhm y hy));have hM:=hbk G dom ρ Z a w hs (fun y hy=>ha.ev y (by obtain rfl:=Option.some.inj hy;exact hmm));obtain⟨kh,hH⟩:∃kh,a.eval y= .int kh hh:=by
       rcases hH with⟨h,_⟩|⟨k,h⟩
       ·cases h
       exact⟨k,Option.some.inj h⟩
      obtain⟨km,hM⟩:∃km,a.eval m= .int km k:=by
       rcases hM with⟨h,_⟩|⟨k,h⟩
       ·cases h
       exact⟨k,Option.some.inj h⟩
      have hrun:∀(ad:Option Addr),a.eval x= .slice ad len cap→
        (execOp a.eval o).run P w= .ok (.value (.slice (if k.toNat=l.toNat then ad else ad.map (·.add (l.toNat*E.size))) (hh.toNat-l.toNat) (k.toNat-l.toNat))) w:=by
       intro ad hx;unfold execOp;rw[ho];refine dP ?_;rw[hx];simp only[Option.map_some,hH,hM];simp only[Instr.sliceAt,Instr.slice,Sem.run_bind,av hu,Result.andThen_ok,rE hL h0 h1 h2 (by omega:k≤(cap:Int)),run_sizeOf hei,Sem.run_pure,hes]
      rcases hr with⟨g,o',o'',haddr,hv,hoff,hroom⟩|⟨haddr,hv,hl0,hc0⟩
      ·have hrm:o'+(off+l.toNat+(k.toNat-l.toNat))*wd≤b6 w g:=by
        refine Nat.le_trans ?_ hroom
        have:(off+l.toNat+(k.toNat-l.toNat))*wd≤(off+cap)*wd:=Nat.mul_le_mul_right _ (by omega)
        omega
       refine⟨_,hrun _ hv,hdom,by omega,k.toNat-l.toNat,by omega,.inl ?_⟩
       by_cases hcl:k.toNat=l.toNat
       ·exact⟨g,o',o'',haddr,by rw[if_pos hcl,show (hh-l).toNat=hh.toNat-l.toNat by omega],.inl (by omega),hrm⟩
       refine⟨g,o',o''+l.toNat*E.size,haddr,?_,.inr ?_,hrm⟩
       ·rw[if_neg hcl,show (hh-l).toNat=hh.toNat-l.toNat by omega,Option.map_some,fV]
       have:o''=o'+off*wd:=by
        rcases hoff with hoff|hoff
        ·omega
        exact hoff
       rw[this,hw,Nat.add_mul,Nat.add_assoc]
      refine⟨_,hrun none (by rw[hv,hl0,hc0]),hdom,by omega,0,by omega,.inr ⟨haddr,?_,by omega,rfl⟩⟩;simp only[Option.map_none,ite_self]
      congr 1<;>omega
    exact h.elim
  exact h.elim
include hT in
theorem Nw {
        t:TypeId} {x:Operand} {lo hi mx:Option Operand} (ho:o.op= .slice t x lo hi mx) (hd:bZ o s.n) (h:uH T s t x lo hi mx K):∃e,K e∧bm P o s nx0 id e:=by
 have hxm:x∈o.op.operands:=by rw[ho];simp[Op.operands]
 have hlm:∀y,lo=some y→y∈o.op.operands:=fun y hy=>by rw[ho];simp[Op.operands,hy]
 have hhm:∀y,hi=some y→y∈o.op.operands:=fun y hy=>by rw[ho];simp[Op.operands,hy]
 cases mx with
 |some m=>exact LL hT ho hd h
 |none=>
 unfold uH at h;simp only at h
 cases hTt:T t with
 |none=>rw[hTt]at h;exact h.elim
 |some S=>
  rw[hTt]at h;simp only at h
  split at h
  ·rename_i e hSk
   have hu:=fD hT hTt hSk
   cases hTe:T e with
   |none=>rw[hTe]at h;exact h.elim
   |some E=>
    rw[hTe]at h;simp only at h;obtain⟨ei,ed,ez,hei,heu,_,hek,hes,_⟩:=bI hT hTe;have hrun:∀(a:Act) (w:World) (ad:Option Addr) (len cap:Nat) (l h:Int),a.eval x= .slice ad len cap→n8 (lo.map a.eval) 0 l→n8 (hi.map a.eval) len h→0≤l→l≤h→h≤len→len≤cap→
      (execOp a.eval o).run P w= .ok (.value (.slice (if cap=l.toNat then ad else ad.map (·.add (l.toNat*E.size))) (h.toNat-l.toNat) (cap-l.toNat))) w:=by
     intro a w ad len cap l h hx hl hh h0 h1 h2 h3;unfold execOp;rw[ho];refine dP ?_;rw[hx,Option.map_none,yu hu hei hl hh h0 h1 h2 h3,hes]
    split at h
    ·rename_i b wd off len hx
     obtain⟨hw,h⟩:=h;obtain⟨l,h,hbl⟩:=gG (Z:=s) h;obtain⟨hh,h,hbh⟩:=gG (Z:=s) h;obtain⟨⟨h0,h1,h2⟩,hK⟩:=h;refine⟨_,hK,bm.pure hd fun G dom ρ Z a w hs ha=>?_⟩;have hev:=hs.ev x;rw[a6 ha hxm hx]at hev;obtain⟨hdom,hle,cap,hcap,hr⟩:=hev;have hL:=hbl G dom ρ Z a w hs (fun y hy=>ha.ev y (hlm y hy));have hH:=hbh G dom ρ Z a w hs (fun y hy=>ha.ev y (hhm y hy))
     rcases hr with⟨g,o',o'',haddr,hv,hoff,hroom⟩|⟨haddr,hv,hl0,hc0⟩
     ·refine⟨_,hrun a w _ len cap l hh hv hL hH h0 h1 h2 hcap,hdom,by omega,cap-l.toNat,by omega,.inl ?_⟩
      by_cases hcl:cap=l.toNat
      ·refine⟨g,o',o'',haddr,by rw[if_pos hcl,show (hh-l).toNat=hh.toNat-l.toNat by omega],.inl (by omega),?_⟩;rw[show off+l.toNat+(cap-l.toNat)=off+cap by omega];exact hroom
      refine⟨g,o',o''+l.toNat*E.size,haddr,?_,.inr ?_,?_⟩
      ·rw[if_neg hcl,show (hh-l).toNat=hh.toNat-l.toNat by omega,Option.map_some,fV]
      ·have:o''=o'+off*wd:=by
        rcases hoff with hoff|hoff
        ·omega
        exact hoff
       rw[this,hw,Nat.add_mul,Nat.add_assoc]
      rw[show off+l.toNat+(cap-l.toNat)=off+cap by omega];exact hroom
     refine⟨_,hrun a w none len cap l hh (by rw[hv,hl0,hc0]) hL hH h0 h1 h2 hcap,hdom,by omega,0,by omega,.inr ⟨haddr,?_,by omega,rfl⟩⟩;simp only[Option.map_none,ite_self]
     congr 1<;>omega
    ·rename_i k xs hx
     obtain⟨hw,h⟩:=h;obtain⟨l,h,hbl⟩:=gG (Z:=s) h;obtain⟨hh,h,hbh⟩:=gG (Z:=s) h;obtain⟨⟨h0,h1,h2⟩,hK⟩:=h;refine⟨_,hK,bm.pure hd fun G dom ρ Z a w hs ha=>?_⟩;have hev:=hs.ev x;rw[a6 ha hxm hx]at hev;obtain⟨a',cap,hv,hcap,hr⟩:=hev;have hL:=hbl G dom ρ Z a w hs (fun y hy=>ha.ev y (hlm y hy));have hH:=hbh G dom ρ Z a w hs (fun y hy=>ha.ev y (hhm y hy));have hlen:((xs.drop l.toNat).take (hh-l).toNat).length=hh.toNat-l.toNat:=by simp;omega
     refine⟨_,hrun a w _ xs.length cap l hh hv hL hH h0 h1 h2 hcap,?_⟩;refine⟨_,cap-l.toNat,by rw[hlen],by omega,?_⟩
     rcases hr with hr|⟨g,o',rfl,hg,hcs⟩
     ·exact .inl (by omega)
     by_cases hz:hh.toNat-l.toNat=0
     ·exact .inl (by omega)
     refine .inr ⟨g,o'+l.toNat*E.size,by rw[if_neg (by omega),Option.map_some,fV],hg,fun j hj=>?_⟩;rw[hlen]at hj
     have:=hcs (l.toNat+j) (by omega)
     rw[←hw,Nat.mul_one,Nat.add_assoc,this]
     congr 2
     simp only[X7,List.getElem?_take,List.getElem?_drop];rw[if_pos (by omega)]
    ·rename_i wd n f hx
     obtain⟨hw,h⟩:=h;obtain⟨l,h,hbl⟩:=gG (Z:=s) h;obtain⟨hh,h,hbh⟩:=gG (Z:=s) h;obtain⟨⟨h0,h1,h2⟩,hK⟩:=h;refine⟨_,hK,bm.pure hd fun G dom ρ Z a w hs ha=>?_⟩;have hev:=hs.ev x;rw[a6 ha hxm hx]at hev;obtain⟨a',cap,hv,hcap,hr⟩:=hev;have hL:=hbl G dom ρ Z a w hs (fun y hy=>ha.ev y (hlm y hy));have hH:=hbh G dom ρ Z a w hs (fun y hy=>ha.ev y (hhm y hy));refine⟨_,hrun a w _ n cap l hh hv hL hH h0 h1 h2 hcap,?_⟩;refine⟨_,cap-l.toNat,by rw[show (hh-l).toNat=hh.toNat-l.toNat by omega],by omega,?_⟩
     rcases hr with hr|⟨g,o',rfl,hg,hcs⟩
     ·exact .inl (by omega)
     by_cases hz:hh.toNat-l.toNat=0
     ·exact .inl (by omega)
     refine .inr ⟨g,o'+l.toNat*E.size,by rw[if_neg (by omega),Option.map_some,fV],hg,fun i j hi hj=>?_⟩;obtain⟨u,hu',hr⟩:=hcs (l.toNat+i) j (by omega) hj;refine⟨u,?_,hr⟩;rw[←hu',←hw,Nat.add_mul]
     congr 2
     omega
    ·rename_i hx
     obtain⟨l,h,hbl⟩:=gG (Z:=s) h;obtain⟨hh,h,hbh⟩:=gG (Z:=s) h;obtain⟨⟨rfl,rfl⟩,hK⟩:=h;refine⟨_,hK,bm.pure hd fun G dom ρ Z a w hs ha=>?_⟩;have hev:=hs.ev x;rw[a6 ha hxm hx]at hev;have hv:a.eval x= .slice none 0 0:=hev;have hL:=hbl G dom ρ Z a w hs (fun y hy=>ha.ev y (hlm y hy));have hH:=hbh G dom ρ Z a w hs (fun y hy=>ha.ev y (hhm y hy));exact⟨_,hrun a w none 0 0 0 0 hv hL hH (Int.le_refl _) (Int.le_refl _) (Int.le_refl _) (Nat.le_refl _),rfl⟩
    exact h.elim
  ·rename_i hSk
   have hu:=Ot hT hTt hSk
   split at h
   ·rename_i b hx
    obtain⟨l,h,hbl⟩:=gG (Z:=s) h;obtain⟨hh,h,hbh⟩:=gG (Z:=s) h;obtain⟨⟨h0,h1,h2⟩,hK⟩:=h;refine⟨_,hK,bm.pure hd fun G dom ρ Z a w hs ha=>?_⟩;have hev:=hs.ev x;rw[a6 ha hxm hx]at hev;have hv:a.eval x= .string b:=hev;have hL:=hbl G dom ρ Z a w hs (fun y hy=>ha.ev y (hlm y hy));have hH:=hbh G dom ρ Z a w hs (fun y hy=>ha.ev y (hhm y hy));refine⟨.string (b.extract l.toNat hh.toNat),?_,rfl⟩;unfold execOp;rw[ho];refine dP ?_;simp only[hv,Option.map_none,Instr.sliceAt,Instr.slice,Sem.run_bind,av hu,Result.andThen_ok,rv hL hH h0 h1 h2,Sem.run_pure,Option.isSome_none,Bool.false_eq_true,↓reduceIte]
   exact h.elim
  exact h.elim
end
end Go.Eng
/-
  THE ENGINE, PART J: new variables, composites, new slices, built-in functions, calls of pure functions; all operations that only look.
-/
namespace Go.Eng
open Go
section aux
variable {ρ:Nat→Loc}{dom ok:Nat→Prop}{w:World}
theorem ou {l:Loc}{B:Bk}{wd off len cap:Nat}{g o o':Nat}(ha:l.addr=some (g,o))(hr:aT ρ dom ok w l B)(hok:ok g)(hl:l.len=B.len)(hle:off+len≤l.len)(hc:len≤cap)(ho:cap=0∨o'=o+off*wd):
  aM ok w (jL B wd off len) (.slice (some ⟨g,o',none⟩) len cap):=by
 have hany:aM ok w .any (.slice (some ⟨g,o',none⟩) len cap):=rfl;unfold aT at hr;rw[ha]at hr;obtain⟨cur,e,hg,hcell⟩:=hr;rw[hl]at hle
 cases B with
 |var cs=>exact hany
 |ints e' k xs=>
  simp only[jL]
  split
  ·rename_i hw
   subst hw;simp only[Bk.len]at hle;have hlen:((xs.drop off).take len).length=len:=by simp;omega
   refine⟨_,cap,by rw[hlen],by omega,?_⟩
   by_cases h0:len=0
   ·exact .inl (by omega)
   refine .inr ⟨g,o',rfl,hok,fun i hi=>?_⟩;rw[hlen]at hi
   have ho':o'=o+off*1:=by rcases ho with ho|ho<;>omega
   have hx:off+i<xs.length:=by omega
   obtain⟨u,hu,hr⟩:=hcell (off+i) (.int k (xs.getD (off+i) 0)) (by simp[Bk.cell,X8 hx]);rw[cell_of_row w g _ cur e (0,0) hg,ho',show o+off*1+i=o+(off+i) by omega,hu];have hr:u= .int k (xs.getD (off+i) 0):=hr;rw[hr]
   congr 2
   simp only[X7,List.getElem?_take,List.getElem?_drop];rw[if_pos hi]
  exact hany
 |rows e' w' n f=>
  simp only[jL]
  split
  ·rename_i hw
   subst hw;simp only[Bk.len]at hle;refine⟨_,cap,rfl,hc,?_⟩
   by_cases h0:len=0
   ·exact .inl h0
   refine .inr ⟨g,o',rfl,hok,fun i j hi hj=>?_⟩
   have ho':o'=o+off*w':=by rcases ho with ho|ho<;>omega
   have hlt:(off+i)*w'+j<n*w':=by
    have:(off+i+1)*w'≤n*w':=Nat.mul_le_mul_right _ (by omega)
    rw[Nat.add_mul (off+i)]at this;omega
   obtain⟨u,hu,hr⟩:=hcell ((off+i)*w'+j) (f (off+i) j) (by
    simp only[Bk.cell,if_pos hlt];rw[Nat.mul_comm (off+i) w',Nat.mul_add_div (by omega),Nat.div_eq_of_lt hj,Nat.mul_add_mod,Nat.mod_eq_of_lt hj];simp)
   refine⟨u,?_,hr⟩;rw[cell_of_row w g _ cur e (0,0) hg,ho',←hu]
   congr 1
   rw[Nat.add_mul];omega
  exact hany
end aux
def dQ (G:Ctx)(own:List (Nat×gI))(ρ:Nat→Loc)(w:World)(ids:List Nat)(g:Nat):Prop:=
 aQ G own ρ w g∨∃b∈ids,∃B o,lo own b=some B∧(ρ b).addr=some (g,o)
theorem Ext.dG {ok ok':Nat→Prop}{w:World}(h:∀g,ok g→ok' g):Ext ok ok' w w:=⟨fun g hg=>⟨h g hg,rfl⟩,fun _=>Nat.le_refl _⟩
theorem vL {G:Ctx}{dom:Nat→Prop}{ρ:Nat→Loc}{s:St}{a:Act}{w:World}(hs:a7 G dom ρ s a w)(ids:List Nat){g:Nat}(h:dQ G s.own ρ w ids g):aQ G (fh s.own ids) ρ w g:=by
 rcases h with h3|⟨b,hbi,B,o',hl,ha'⟩
 ·exact lW h3
 obtain⟨_,_,_,h4⟩:=hs.own b B hl;obtain⟨h5,h6,_⟩:=h4 g o' ha';refine⟨h5,h6,fun b2 B2 hl2 hrw o2 ha2=>?_⟩;rw[iC]at hl2
 cases hl3:lo s.own b2 with
 |none=>rw[hl3]at hl2;simp at hl2
 |some B3=>
  rw[hl3]at hl2;simp only[Option.map_some,Option.some.injEq]at hl2
  by_cases hm:ids.contains b2=true
  ·rw[if_pos hm]at hl2;subst hl2;simp at hrw
  rw[if_neg hm]at hl2;subst hl2
  by_cases hbb:b2=b
  ·subst hbb;exact hm (by simpa using hbi)
  exact hs.inj b2 B3 b B hl3 hl hbb hrw g o2 o' ha2 ha'
section view
variable {G:Ctx}{dom:Nat→Prop}{ρ:Nat→Loc}{Z s:St}{a:Act}{w:World}{nx0:Nat}{o:Oper}
theorem Et {ρ:Nat→Loc}{dom ok ok':Nat→Prop}{w:World}(hx:Ext ok ok' w w){c:C}{v:Value}(hr:aW ρ dom ok w c v):aM ok' w (Pd c) v:=by
 have hone:v.oneCell'=true:=(aW.plain hr).1
 cases c with
 |own b wd off len=>exact hone
 |ptr b off=>exact hone
 |eptr b wd i off=>exact hone
 |fn f n caps=>exact hone
 |any=>exact hone
 |bool b=>exact aM.ext hx (.bool b) v hr
 |int k n=>exact aM.ext hx (.int k n) v hr
 |str b=>exact aM.ext hx (.str b) v hr
 |nil=>exact aM.ext hx .nil v hr
 |ints k xs=>exact aM.ext hx (.ints k xs) v hr
 |rows wd n f=>exact aM.ext hx (.rows wd n f) v hr
 |elt c wd i off=>exact aM.ext hx (.elt c wd i off) v hr
theorem kt (hs:a7 G dom ρ Z a w)(ha:rJ s Z nx0 o)(c:C)(v:Value)(ids:List Nat)(hi:∀b∈jK c,b<nx0→b∈ids)(hr:aW ρ dom (aQ G Z.own ρ w) w c v):
  aW bz bH (dQ G Z.own ρ w ids) w (oR s.own nx0 c) v:=by
 have hx:Ext (aQ G Z.own ρ w) (dQ G Z.own ρ w ids) w w:=Ext.dG fun g hg=>.inl hg;have hone:v.oneCell'=true:=(aW.plain hr).1
 cases c with
 |own b wd off len=>
  simp only[oR]
  split
  ·rename_i hb
   cases hl:lo s.own b with
   |none=>exact hone
   |some B=>
    simp only;obtain⟨rw_,hz⟩:=ha.oB hb hl;obtain⟨h1,h2,h3,h4⟩:=hs.own b _ hz;obtain⟨_,hle,cap,hc,hr⟩:=hr;refine aW.bw ?_
    rcases hr with⟨g,o1,o2,haddr,rfl,hoff,_⟩|⟨haddr,rfl,hl0,hc0⟩
    ·have hs0:jH dom dom ρ ρ:=⟨fun _ h=>h,fun _ _=>rfl⟩;exact ou (ρ:=ρ) (dom:=dom) haddr (aT.ext hx hs0 _ _ (fun _ _ _=>rfl) h3) (.inr ⟨b,hi b (by simp[jK]) hb,_,_,hz,haddr⟩) h2 hle hc hoff
    subst hl0
    cases hB:B.bk with
    |var cs=>rfl
    |ints e k xs=>
     simp only[jL]
     split
     ·exact⟨none,0,by simp,by simp,.inl (by simp)⟩
     rfl
    |rows e w' n f=>
     simp only[jL]
     split
     ·exact⟨none,0,rfl,Nat.le_refl _,.inl rfl⟩
     rfl
  exact hone
 |ptr b off=>
  simp only[oR]
  split
  ·rename_i hb
   cases hl:lo s.own b with
   |none=>exact hone
   |some B=>
    simp only;obtain⟨rw_,hz⟩:=ha.oB hb hl;obtain⟨h1,h2,h3,h4⟩:=hs.own b _ hz;obtain⟨_,g,o1,haddr,rfl⟩:=hr
    cases hB:B.bk with
    |var cs=>
     simp only[Pg];rw[hB]at h3;unfold aT at h3;rw[haddr]at h3;obtain⟨cur,e,hg,hcell⟩:=h3;refine⟨g,o1,1,1,⟨_,1,rfl,Nat.le_refl _,.inr ⟨g,o1,rfl,.inr ⟨b,hi b (by simp[jK]) hb,_,_,hz,haddr⟩,fun i j hi hj=>?_⟩⟩,by omega,by rw[Nat.zero_mul,Nat.zero_add]⟩;obtain rfl:i=0:=by omega
     obtain⟨u,hu,hr⟩:=hcell j (cs.getD j .any) (by simp only[Bk.cell];rw[X7,X8 hj];rfl);refine⟨u,?_,Et hx hr⟩;rw[cell_of_row w g _ cur e (0,0) hg,Nat.zero_mul,Nat.zero_add,hu]
    |ints e k xs=>exact hone
    |rows e w' n f=>exact hone
  exact hone
 |eptr b wd i off=>exact hone
 |fn f n caps=>
  simp only[oR]
  split
  ·rename_i hn
   subst hn;obtain⟨cs,hv,hcs,_⟩:=hr;exact⟨cs,hv,hcs,fun i hi=>absurd hi (Nat.not_lt_zero _)⟩
  exact hone
 |any=>exact hone
 |bool b=>exact aW.bw (aM.ext hx (.bool b) v hr)
 |int k n=>exact aW.bw (aM.ext hx (.int k n) v hr)
 |str b=>exact aW.bw (aM.ext hx (.str b) v hr)
 |nil=>exact aW.bw (aM.ext hx .nil v hr)
 |ints k xs=>exact aW.bw (aM.ext hx (.ints k xs) v hr)
 |rows wd n f=>exact aW.bw (aM.ext hx (.rows wd n f) v hr)
 |elt c wd i off=>exact aW.bw (aM.ext hx (.elt c wd i off) v hr)
theorem ra (hs:a7 G dom ρ Z a w)(ha:rJ s Z nx0 o)(ids:List Nat):∀(cs:List C) (vs:List Value),(∀b∈cs.flatMap jK,b<nx0→b∈ids)→b5 ρ dom (aQ G Z.own ρ w) w cs vs→b5 bz bH (dQ G Z.own ρ w ids) w (cs.map (oR s.own nx0)) vs
 |[],[],_,_=>trivial
 |c::cs,v::vs,hi,hr=>⟨kt hs ha c v ids (fun b hb=>hi b (by simp[hb])) hr.1,ra hs ha ids cs vs (fun b hb=>hi b (by rw[List.flatMap_cons];exact List.mem_append_right _ hb)) hr.2⟩
 |[],_::_,_,hr=>hr.elim
 |_::_,[],_,hr=>hr.elim
theorem ny (hs:a7 G dom ρ Z a w)(ha:rJ s Z nx0 o)(ids:List Nat)(x:V)(v:Value)(hi:∀b∈ij x,b<nx0→b∈ids)(hr:cd ρ dom (aQ G Z.own ρ w) w x v):
  dM bz bH (dQ G Z.own ρ w ids) w (yI s.own nx0 x) v:=by
 cases x with
 |one c=>exact kt hs ha c v ids hi hr
 |agg cs=>obtain⟨vs,rfl,hl⟩:=hr;exact⟨vs,rfl,ra hs ha ids cs _ hi hl⟩
 |aJ xs=>trivial
 |unk=>trivial
end view
theorem jV {c:C}{v:Value}{ρ ρ':Nat→Loc}{dom dom' ok ok':Nat→Prop}{w:World}(hs:gn c=true)(h:aW ρ dom ok w c v):aW ρ' dom' ok' w c v:=by
 cases c<;>simp [gn]at hs<;>exact h
theorem mc {ρ ρ':Nat→Loc}{dom dom' ok ok':Nat→Prop}{w:World}:∀{cs:List C} {vs:List Value},cs.all gn=true→b5 ρ dom ok w cs vs→b5 ρ' dom' ok' w cs vs
 |[],[],_,_=>trivial
 |_::cs,_::vs,h,hr=>by
  simp only[List.all_cons,Bool.and_eq_true]at h;exact⟨jV h.1 hr.1,mc h.2 hr.2⟩
 |[],_::_,_,hr=>hr.elim
 |_::_,[],_,hr=>hr.elim
theorem p9 {ρ ρ':Nat→Loc}{dom dom' ok ok':Nat→Prop}{w:World}:∀{xs:List V} {vs:List Value},(xs.all fun|.one c=>gn c|.agg cs=>cs.all gn|.unk=>true|.aJ _=>false)=true→a8 ρ dom ok w xs vs→a8 ρ' dom' ok' w xs vs
 |[],[],_,_=>trivial
 |x::xs,_::vs,h,hr=>by
  simp only[List.all_cons,Bool.and_eq_true]at h;refine⟨?_,p9 h.2 hr.2⟩
  cases x with
  |one c=>exact jV h.1 hr.1
  |agg cs=>obtain⟨us,hu,hl⟩:=hr.1;exact⟨us,hu,mc h.1 hl⟩
  |aJ ys=>exact absurd h.1 (by simp)
  |unk=>trivial
 |[],_::_,_,hr=>hr.elim
 |_::_,[],_,hr=>hr.elim
theorem zL {x:V}{v:Value}{ρ ρ':Nat→Loc}{dom dom' ok ok':Nat→Prop}{w:World}(hs:mY x=true)(h:cd ρ dom ok w x v):cd ρ' dom' ok' w x v:=by
 cases x with
 |unk=>trivial
 |one c=>exact jV hs h
 |agg cs=>obtain⟨us,hu,hl⟩:=h;exact⟨us,hu,mc hs hl⟩
 |aJ xs=>obtain⟨us,hu,hl⟩:=h;exact⟨us,hu,p9 hs hl⟩
theorem a8.pG {ρ:Nat→Loc}{dom ok:Nat→Prop}{w:World}{α:Type}(f:α→V)(g:α→Value):∀(l:List α),(∀x∈l,dM ρ dom ok w (f x) (g x))→a8 ρ dom ok w (l.map f) (l.map g)
 |[],_=>trivial
 |x::l,h=>⟨h x (by simp),a8.pG f g l (fun y hy=>h y (by simp[hy]))⟩
theorem a8.append {ρ:Nat→Loc}{dom ok:Nat→Prop}{w:World}:∀{xs ys:List V} {vs us:List Value},a8 ρ dom ok w xs vs→a8 ρ dom ok w ys us→a8 ρ dom ok w (xs++ys) (vs++us)
 |[],_,[],_,_,h=>h
 |_::_,_,_::_,_,h,h'=>⟨h.1,a8.append h.2 h'⟩
 |[],_,_::_,_,h,_=>h.elim
 |_::_,_,[],_,h,_=>h.elim
theorem a8.uj {ρ:Nat→Loc}{dom ok:Nat→Prop}{w:World}:∀(f:Nat→V) (vs:List Value),(∀i,i<vs.length→dM ρ dom ok w (f i) (vs.getD i undef))→a8 ρ dom ok w ((List.range vs.length).map f) vs
 |_,[],_=>trivial
 |f,v::vs,h=>by
  rw[List.length_cons,List.range_succ_eq_map,List.map_cons,List.map_map];exact⟨h 0 (by simp),a8.uj (f∘Nat.succ) vs fun i hi=>h (i+1) (by simpa using hi)⟩
theorem aW.Du {ρ:Nat→Loc}{dom ok:Nat→Prop}{w:World}{c:C}{v:Value}(h:fy ρ dom ok w c v):aW ρ dom ok w c v:=by
 cases c with
 |fn f n caps=>exact aW.bw h
 |own b wd off len=>exact h
 |ptr b off=>exact h
 |eptr b wd i off=>exact h
 |any=>exact h
 |bool b=>exact h
 |int k n=>exact h
 |str b=>exact h
 |nil=>exact h
 |ints k xs=>exact h
 |rows wd n f=>exact h
 |elt c wd i off=>exact h
theorem fy.Lm {ρ:Nat→Loc}{dom ok:Nat→Prop}{w:World}{c:C}{v:Value}(hn:∀f n caps,c≠ .fn f n caps)(h:aW ρ dom ok w c v):fy ρ dom ok w c v:=by
 cases c with
 |fn f n caps=>exact absurd rfl (hn f n caps)
 |own b wd off len=>exact h
 |ptr b off=>exact h
 |eptr b wd i off=>exact h
 |any=>exact h
 |bool b=>exact h
 |int k n=>exact h
 |str b=>exact h
 |nil=>exact h
 |ints k xs=>exact h
 |rows wd n f=>exact h
 |elt c wd i off=>exact h
theorem lF {P:Program}{w:World}{f:FuncId}(h:kz P f)(args:Array Value):(callFunc f args).run P w= .ok (.enter f args) w:=by
 obtain⟨fn,hf,hb,hn⟩:=h;unfold callFunc;simp only[Sem.run_bind,run_program,Result.andThen_ok,hf,hn,hb,Bool.false_eq_true,↓reduceIte,Sem.run_pure]
section
variable {P:Program}{T:fP}(hT:fg P T){o:Oper}{s:St}{nx0 id:Nat}{K:ey→Prop}
theorem Oi {c:Call}{g:Operand}(ho:o.op= .call c)(hc:c.callee= .value g)(hd:bZ o s.n)(h:wA P s nx0 id g c.args.toList K):∃e,K e∧bm P o s nx0 id e:=by
 have hgm:g∈o.op.operands:=by rw[ho];simp[Op.operands,Call.operands,hc]
 have ham:∀x∈c.args.toList,x∈o.op.operands:=fun x hx=>by rw[ho];simp only[Op.operands,Call.operands];exact Array.mem_append_right _ (by simpa using hx)
 unfold wA at h
 split at h
 ·rename_i f n caps hg
  rcases h with⟨r,⟨hcall,hpure⟩,hK⟩|hF
  ·refine⟨_,hK,?_,fun h=>by rw[ho]at h;simp[jo,hc]at h⟩;intro G dom ρ Z a w hs hid ha Q next hk;have hgv:=hs.ev g;rw[a6 ha hgm hg]at hgv;obtain⟨cs,hgv,hcs,hcr⟩:=hgv;have hrun:(execOp a.eval o).run P w= .ok (.enter f (c.args.map a.eval++cs)) w:=by
    unfold execOp;rw[ho];simp only[resolve,hc,Sem.run_bind,hgv,Deferred.ofValue,Sem.run_pure,Result.andThen_ok,invoke]
    have:=lF (w:=w) hcall (c.args.map a.eval++cs)
    simpa using this
   unfold Oper.wp;rw[hrun,Oper.upon_enter]
   let ids:=((c.args.toList.map s.ev++lV n caps).map ij).flatten.filter (fun b=>decide (b<nx0))
   have hlt:∀g,dQ G Z.own ρ w ids g→g<w.heap.size:=by
    rintro g (h1|⟨b,_,B,o',hl,ha'⟩)
    ·exact h1.1
    exact((hs.own b B hl).2.2.2 g o' ha').1
   have hids:∀x,x∈c.args.toList.map s.ev++lV n caps→∀b∈ij x,b<nx0→b∈ids:=fun x hx b hb hlt=>List.mem_filter.2 ⟨List.mem_flatten.2 ⟨_,List.mem_map.2 ⟨x,hx,rfl⟩,hb⟩,by simpa using hlt⟩;have hargs:a8 bz bH (dQ G Z.own ρ w ids) w ((c.args.toList.map s.ev++lV n caps).map (yI s.own nx0)) (c.args.map a.eval++cs).toList:=by
    rw[Array.toList_append,Array.toList_map,List.map_append,List.map_map];refine a8.append (a8.pG (yI s.own nx0∘s.ev) a.eval c.args.toList fun x hx=>?_) ?_
    ·have hev:=hs.ev x;rw[ha.ev x (ham x hx)]at hev;exact ny hs ha ids _ _ (hids _ (List.mem_append_left _ (List.mem_map.2 ⟨x,hx,rfl⟩))) hev
    have hn:n=cs.toList.length:=by simp[hcs]
    unfold lV at hids⊢;rw[hn,List.map_map];refine a8.uj _ _ fun i hi=>?_;have hin:i<n:=by omega
    have h1:=hcr i hin;have h2:cs.toList.getD i undef=cs.getD i undef:=by simp[Array.getD_eq_getD_getElem?,X7]
    rw[h2];exact kt hs ha (caps i) _ ids (hids (.one (caps i)) (List.mem_append_right _ (List.mem_map.2 ⟨i,List.mem_range.2 hin,rfl⟩))) (aW.Du h1)
   refine Calls.mono (hpure _ w _ hlt hargs) fun e w' he=>?_;obtain⟨v,rfl,hb,hr⟩:=he;refine hk v w' ?_;have h1:=hs.grown hb
   by_cases hsc:mY r=true
   ·rw[if_pos hsc,St.add_plain];exact⟨ρ,(h1.put (dst:=o.dst) (x:=r) (v:=v) (fun d hh=>by have:=hd d hh;rw[←ha.n]at this;exact this) (zL hsc hr)).cQ (fun b hb=>Or.inl hb)⟩
   rw[if_neg hsc];have h2:=h1.fh ids;have hok:∀g,(dQ G Z.own ρ w ids g∨(w.heap.size≤g∧g<w'.heap.size))→aQ G (fh Z.own ids) ρ w' g:=by
    rintro g ((h3|⟨b,hbi,B,o',hl,ha'⟩)|⟨h3,h4⟩)
    ·exact lW ⟨Nat.lt_of_lt_of_le h3.1 hb.size,h3.2⟩
    ·obtain⟨_,_,_,h4⟩:=hs.own b B hl;obtain⟨h5,h6,_⟩:=h4 g o' ha';refine⟨Nat.lt_of_lt_of_le h5 hb.size,h6,fun b2 B2 hl2 hrw o2 ha2=>?_⟩;rw[iC]at hl2
     cases hl3:lo Z.own b2 with
     |none=>rw[hl3]at hl2;simp at hl2
     |some B3=>
      rw[hl3]at hl2;simp only[Option.map_some,Option.some.injEq]at hl2
      by_cases hm:ids.contains b2=true
      ·rw[if_pos hm]at hl2;subst hl2;simp at hrw
      rw[if_neg hm]at hl2;subst hl2
      by_cases hbb:b2=b
      ·subst hbb;exact hm (by simpa using hbi)
      exact hs.inj b2 B3 b B hl3 hl hbb hrw g o2 o' ha2 ha'
    refine⟨h4,fun hf=>absurd (hs.wf _ hf) (by have:=hs.size;omega),fun b2 B2 hl2 _ o2 ha2=>?_⟩
    have:=(h2.own b2 B2 hl2).2.2.2 g o2 ha2
    rw[iC]at hl2
    cases hl3:lo Z.own b2 with
    |none=>rw[hl3]at hl2;simp at hl2
    |some B3=>exact absurd ((hs.own b2 B3 hl3).2.2.2 g o2 ha2).1 (by omega)
   have hr':cd ρ dom (aQ G (fh Z.own ids) ρ w') w' r v:=
    cd.ext (dom:=bH) (ρ:=bz) (Ext.dG hok) ⟨fun b hb=>hb.elim,fun b hb=>hb.elim⟩ _ _ hr
   have h3:=(h2.put (dst:=o.dst) (x:=r) (v:=v) (fun d hh=>by have:=hd d hh;rw[←ha.n]at this;exact this) hr').cQ (dom':=fun b=>dom b∨b=id) (fun b hb=>Or.inl hb);refine⟨ρ,?_⟩;have e2:Z.add o.dst id ⟨r,none,ids⟩=St.put {Z with own:=fh Z.own ids} o.dst r∨ids=[]:=by
    cases hi:ids with
    |nil=>exact .inr rfl
    |cons x l=>left;cases o.dst<;>rfl
   rcases e2 with e2|e2
   ·show a7 G _ ρ (Z.add o.dst id ⟨r,none,ids⟩) _ w';rw[e2];exact h3
   show a7 G _ ρ (Z.add o.dst id ⟨r,none,ids⟩) _ w';rw[e2,St.add_plain];have hfe:∀l:List (Nat×gI),fh l []=l:=by
    intro l
    induction l with
    |nil=>rfl
    |cons x l ih=>obtain⟨b,B⟩:=x;simp[fh,ih]
   rw[e2,hfe]at h3;exact h3
  have h3:∃(B:Bk) (x:V),K ⟨x,some B,((c.args.toList.map s.ev++lV n caps).map ij).flatten.filter (fun b=>decide (b<nx0))⟩∧kz P f∧∀(ok:Nat→Prop) (w:World) (vs:Array Value),(∀g,ok g→g<w.heap.size)→
    a8 bz bH ok w ((c.args.toList.map s.ev++lV n caps).map (yI s.own nx0)) vs.toList→Calls P f vs w fun e w'=>∃v l,e= .returned v∧Go.RowKit.Below w.heap.size w w'∧l.len=B.len∧
     (∀g o,l.addr=some (g,o)→w.heap.size≤g∧g<w'.heap.size)∧aT bz bH (fun g=>ok g∨(w.heap.size≤g∧g<w'.heap.size∧∀o,l.addr≠some (g,o))) w' l B∧
     ∀(ρ:Nat→Loc) (dom ok':Nat→Prop),ρ id=l→dom id→cd ρ dom ok' w' x v:=by
   have key:∀{B:Bk} {l:Loc} {w':World} {v:Value},fy (fun _=>l) (fun _=>True) (fun _=>False) w' (.own 0 B.wd 0 B.len) v→∀(ρ:Nat→Loc) (dom ok':Nat→Prop),ρ id=l→dom id→aW ρ dom ok' w' (.own id B.wd 0 B.len) v:=by
    rintro B l w' v ⟨_,hv2,hv3⟩ ρ dom ok' hl hd;subst hl;exact⟨hd,hv2,hv3⟩
   rcases hF with⟨B,⟨hcall,_,hfresh⟩,hK⟩|⟨B,c',⟨hsc,hcall,_,hfresh⟩,hK⟩
   ·refine⟨B,_,hK,hcall,fun ok w vs h1 h2=>Calls.mono (hfresh ok w vs h1 h2) fun e w' he=>?_⟩;obtain⟨v,l,he,hb,hlen,hnew,hrep,hval⟩:=he;exact⟨v,l,he,hb,hlen,hnew,hrep,fun ρ dom ok' hl hd=>key hval ρ dom ok' hl hd⟩
   refine⟨B,_,hK,hcall,fun ok w vs h1 h2=>Calls.mono (hfresh ok w vs h1 h2) fun e w' he=>?_⟩;obtain⟨v,u,l,he,hb,hlen,hnew,hrep,hval,hu⟩:=he;refine⟨_,l,he,hb,hlen,hnew,hrep,fun ρ dom ok' hl hd=>⟨_,rfl,key hval ρ dom ok' hl hd,?_,trivial⟩⟩
   cases c'<;>first|exact hsc.elim|exact hu
  obtain⟨B,x,hK,hcall,hfresh⟩:=h3;refine⟨_,hK,?_,fun h=>by rw[ho]at h;simp[jo,hc]at h⟩;intro G dom ρ Z a w hs hid ha Q next hk;have hgv:=hs.ev g;rw[a6 ha hgm hg]at hgv;obtain⟨cs,hgv,hcs,hcr⟩:=hgv;have hrun:(execOp a.eval o).run P w= .ok (.enter f (c.args.map a.eval++cs)) w:=by
   unfold execOp;rw[ho];simp only[resolve,hc,Sem.run_bind,hgv,Deferred.ofValue,Sem.run_pure,Result.andThen_ok,invoke]
   have:=lF (w:=w) hcall (c.args.map a.eval++cs)
   simpa using this
  unfold Oper.wp;rw[hrun,Oper.upon_enter]
  let ids:=((c.args.toList.map s.ev++lV n caps).map ij).flatten.filter (fun b=>decide (b<nx0))
  have hlt:∀g,dQ G Z.own ρ w ids g→g<w.heap.size:=by
   rintro g (h1|⟨b,_,B,o',hl,ha'⟩)
   ·exact h1.1
   exact((hs.own b B hl).2.2.2 g o' ha').1
  have hids:∀x,x∈c.args.toList.map s.ev++lV n caps→∀b∈ij x,b<nx0→b∈ids:=fun x hx b hb hlt=>List.mem_filter.2 ⟨List.mem_flatten.2 ⟨_,List.mem_map.2 ⟨x,hx,rfl⟩,hb⟩,by simpa using hlt⟩;have hargs:a8 bz bH (dQ G Z.own ρ w ids) w ((c.args.toList.map s.ev++lV n caps).map (yI s.own nx0)) (c.args.map a.eval++cs).toList:=by
   rw[Array.toList_append,Array.toList_map,List.map_append,List.map_map];refine a8.append (a8.pG (yI s.own nx0∘s.ev) a.eval c.args.toList fun x hx=>?_) ?_
   ·have hev:=hs.ev x;rw[ha.ev x (ham x hx)]at hev;exact ny hs ha ids _ _ (hids _ (List.mem_append_left _ (List.mem_map.2 ⟨x,hx,rfl⟩))) hev
   have hn:n=cs.toList.length:=by simp[hcs]
   unfold lV at hids⊢;rw[hn,List.map_map];refine a8.uj _ _ fun i hi=>?_;have hin:i<n:=by omega
   have h1:=hcr i hin;have h2:cs.toList.getD i undef=cs.getD i undef:=by simp[Array.getD_eq_getD_getElem?,X7]
   rw[h2];exact kt hs ha (caps i) _ ids (hids (.one (caps i)) (List.mem_append_right _ (List.mem_map.2 ⟨i,List.mem_range.2 hin,rfl⟩))) (aW.Du h1)
  refine Calls.mono (hfresh _ w _ hlt hargs) fun e w' he=>?_;obtain⟨v,l,rfl,hb,hlen,hnew,hrep,hval⟩:=he;refine hk v w' ?_;have h2:=hs.fh ids;have hok:∀g,(dQ G Z.own ρ w ids g∨(w.heap.size≤g∧g<w'.heap.size∧∀o,l.addr≠some (g,o)))→aQ G (iX (fh Z.own ids) id ⟨B,true⟩) (cM ρ id l) w' g:=by
   have step:∀g,g<w'.heap.size→¬G.forb g→(∀o,l.addr≠some (g,o))→(∀b2 B2,lo (fh Z.own ids) b2=some B2→B2.rw=true→∀o2,(ρ b2).addr≠some (g,o2))→aQ G (iX (fh Z.own ids) id ⟨B,true⟩) (cM ρ id l) w' g:=by
    intro g h1 h2 h3 h4;refine⟨h1,h2,fun b2 B2 hl2 hrw o2=>?_⟩;rw[dk]at hl2
    by_cases hbi:b2=id
    ·subst hbi;rw[oE];exact h3 o2
    rw[if_neg hbi]at hl2;rw[bt _ _ hbi];exact h4 b2 B2 hl2 hrw o2
   rintro g ((h3|⟨b,hbi,B2,o',hl,ha'⟩)|⟨h3,h4,h5⟩)
   ·exact step g (Nat.lt_of_lt_of_le h3.1 hb.size) h3.2.1 (fun o he=>absurd h3.1 (by have:=(hnew g o he).1;omega)) (lW h3).2.2
   ·obtain⟨_,_,_,h4⟩:=hs.own b B2 hl;obtain⟨h5,h6,_⟩:=h4 g o' ha';refine step g (Nat.lt_of_lt_of_le h5 hb.size) h6 (fun o he=>absurd h5 (by have:=(hnew g o he).1;omega)) fun b2 B3 hl2 hrw o2 ha2=>?_;rw[iC]at hl2
    cases hl3:lo Z.own b2 with
    |none=>rw[hl3]at hl2;simp at hl2
    |some B4=>
     rw[hl3]at hl2;simp only[Option.map_some,Option.some.injEq]at hl2
     by_cases hm:ids.contains b2=true
     ·rw[if_pos hm]at hl2;subst hl2;simp at hrw
     rw[if_neg hm]at hl2;subst hl2
     by_cases hbb:b2=b
     ·subst hbb;exact hm (by simpa using hbi)
     exact hs.inj b2 B4 b B2 hl3 hl hbb hrw g o2 o' ha2 ha'
   refine step g h4 (fun hf=>absurd (hs.wf _ hf) (by have:=hs.size;omega)) h5 fun b2 B2 hl2 _ o2 ha2=>?_;rw[iC]at hl2
   cases hl3:lo Z.own b2 with
   |none=>rw[hl3]at hl2;simp at hl2
   |some B3=>exact absurd ((hs.own b2 B3 hl3).2.2.2 g o2 ha2).1 (by omega)
  have hrep':aT (cM ρ id l) (fun b=>dom b∨b=id) (aQ G (iX (fh Z.own ids) id ⟨B,true⟩) (cM ρ id l) w') w' l B:=
   aT.ext (dom:=bH) (ρ:=bz) (Ext.dG hok) ⟨fun b hb=>hb.elim,fun b hb=>hb.elim⟩ _ _ (fun _ _ _=>rfl) hrep
  have h3:=h2.K0 hb hid B l hlen hnew hrep';have hval':cd (cM ρ id l) (fun b=>dom b∨b=id) (aQ G (iX (fh Z.own ids) id ⟨B,true⟩) (cM ρ id l) w') w' x v:=hval _ _ _ (oE ..) (.inr rfl);refine⟨cM ρ id l,?_⟩;have h4:=h3.put (dst:=o.dst) (x:=x) (v:=v) (fun d hh=>by have:=hd d hh;rw[←ha.n]at this;exact this) hval';have e2:Z.add o.dst id ⟨x,some B,ids⟩=St.put {Z with own:=iX (fh Z.own ids) id ⟨B,true⟩} o.dst x:=by
   unfold St.add;simp only
   have:xH Z.own ids=fh Z.own ids:=by
    cases hi:ids with
    |nil=>
     have hfe:∀l:List (Nat×gI),fh l []=l:=by
      intro l
      induction l with
      |nil=>rfl
      |cons x l ih=>obtain⟨b,B⟩:=x;simp[fh,ih]
     simp[xH,hfe]
    |cons x l=>rfl
   rw[this]
   cases o.dst<;>rfl
  show a7 G _ _ (Z.add o.dst id ⟨x,some B,ids⟩) _ w';rw[e2];exact h4
 exact h.elim
end
end Go.Eng
/-
  THE ENGINE, PART K: new variables, composites, new slices, built-in functions; all operations that only look.
-/
namespace Go.Eng
open Go
theorem wa {s Z:St}{nx0:Nat}{o:Oper}{G:Ctx}{dom:Nat→Prop}{ρ:Nat→Loc}{a:Act}{w:World}(hs:a7 G dom ρ Z a w):∀(l:List (Nat×Operand)),(∀p∈l,Z.ev p.2=s.ev p.2)→
  Ld ρ dom (aQ G Z.own ρ w) w (l.map fun p=>(p.1,s.ev p.2)) (l.map fun p=>(p.1,a.eval p.2))
 |[],_=>trivial
 |p::l,h=>⟨rfl,by have:=hs.ev p.2;rw[h p (by simp)]at this;exact this,wa (nx0:=nx0) (o:=o) hs l (fun q hq=>h q (by simp[hq]))⟩
theorem tT {s Z:St}{nx0:Nat}{o:Oper}{G:Ctx}{dom:Nat→Prop}{ρ:Nat→Loc}{a:Act}{w:World}(hs:a7 G dom ρ Z a w)(ha:rJ s Z nx0 o)(ids:List Nat):∀(l:List (Nat×Operand)),(∀p∈l,Z.ev p.2=s.ev p.2)→(∀p∈l,∀b∈ij (s.ev p.2),b<nx0→b∈ids)→
  Ld bz bH (aQ G (fh Z.own ids) ρ w) w (l.map fun p=>(p.1,yI s.own nx0 (s.ev p.2))) (l.map fun p=>(p.1,a.eval p.2))
 |[],_,_=>trivial
 |p::l,h,hi=>by
  refine⟨rfl,?_,tT hs ha ids l (fun q hq=>h q (by simp[hq])) (fun q hq=>hi q (by simp[hq]))⟩;have hev:=hs.ev p.2;rw[h p (by simp)]at hev;have h1:=ny hs ha ids _ _ (hi p (by simp)) hev;have h2:=dM.ext (ρ:=bz) (ρ':=bz) (dom:=bH) (dom':=bH) (Ext.dG fun g hg=>vL hs ids hg) ⟨fun _ h=>h,fun _ _=>rfl⟩ _ _ h1
  revert h2
  cases hx:yI s.own nx0 (s.ev p.2)with
  |one c=>exact fun h=>h
  |agg cs=>exact fun h=>h
  |aJ xs=>exact fun h=>h.elim
  |unk=>exact fun _=>trivial
theorem aM.dI {ok:Nat→Prop}{w:World}{c:C}{v:Value}(h:aW bz bH ok w c v):aM ok w c v:=by
 cases c with
 |own b wd off len=>exact h.1.elim
 |ptr b off=>exact h.1.elim
 |eptr b wd i off=>exact h.1.elim
 |fn f n caps=>
  obtain⟨cs,hv,hn,hcs⟩:=h;refine⟨cs,hv,hn,fun i hi=>?_⟩
  have:=hcs i hi
  unfold fy at this
  cases hc:caps i with
  |own b wd off len=>rw[hc]at this;exact this.1.elim
  |ptr b off=>rw[hc]at this;exact this.1.elim
  |eptr b wd i off=>rw[hc]at this;exact this.1.elim
  |_=>rw[hc]at this;exact this
 |_=>exact h
theorem j8 (z:List C):∀n,(gr z n).length=n*z.length
 |0=>by simp[gr]
 |n+1=>by simp[gr,j8 z n,Nat.add_mul];omega
theorem oH (z:List C):∀(n j:Nat),j<n*z.length→(gr z n)[j]? =z[j%z.length]?
 |0,j,h=>by simp at h
 |n+1,j,h=>by
  simp only[gr,List.getElem?_append]
  split
  ·rename_i hj;rw[Nat.mod_eq_of_lt hj]
  rename_i hj
  rw[oH z n (j-z.length) (by rw[Nat.add_mul]at h;omega)]
  congr 1
  exact(Nat.mod_eq_sub_mod (by omega)).symm
theorem rR (size:Nat):∀(n i j:Nat) p,(iL size i n)[j]? =some p→p=((i+j)*size,size)
 |0,i,j,p,h=>by simp[iL]at h
 |n+1,i,0,p,h=>by simp[iL]at h;simp[←h]
 |n+1,i,j+1,p,h=>by
  have:=rR size n (i+1) j p (by simpa[iL]using h)
  rw[this,show i+1+j=i+(j+1) by omega]
theorem rD {ρ:Nat→Loc}{dom ok:Nat→Prop}{w:World}(z:Array Value)(n:Nat)(hz:0<z.size)(hall:z.toList.all Value.oneCell'=true):
  b5 ρ dom ok w (gr (z.toList.map Db) n) ((Array.range (n*z.size)).map (fun i=>z[i%z.size]!)).toList:=by
 refine b5.BP ?_ ?_
 ·rw[j8];simp
 intro j c v hc hv;have hj:j<n*z.size:=by
  have:=(List.getElem?_eq_some_iff.1 hv).1
  simpa using this
 rw[oH _ _ _ (by simpa using hj)]at hc;simp only[List.length_map,Array.length_toList,List.getElem?_map]at hc;have hm:j%z.size<z.size:=Nat.mod_lt _ hz
 simp[hj]at hv
 rw[X8 (by simpa using hm)]at hc;simp only[Option.map_some,Option.some.injEq,Array.getElem_toList]at hc;subst hc;have hz':z[j%z.size]! =z[j%z.size]:=by simp[hm]
 rw[←hv,hz'];exact xX _ (List.all_eq_true.1 hall _ (by simp))
theorem tj (k:IntKind):∀(cs:List C) (xs:List Int),kZ k cs=some xs→cs=xs.map (C.int k)
 |[],xs,h=>by simp[kZ]at h;subst h;rfl
 |c::cs,xs,h=>by
  cases c with
  |int k' n=>
   simp only[kZ]at h
   split at h
   ·rename_i hk
    subst hk
    cases hr:kZ k' cs with
    |none=>rw[hr]at h;simp at h
    |some ys=>
     rw[hr]at h;simp only[Option.map_some,Option.some.injEq]at h;subst h;rw[tj k' cs ys hr];rfl
   simp at h
  |_=>simp[kZ]at h
theorem qe (fs:List (Nat×Nat)):∀(xs:List (Nat×V)) (cs out:List C),jU fs cs xs=some out→out.length=cs.length
 |[],cs,out,h=>by simp[jU]at h;rw[h]
 |(i,x)::xs,cs,out,h=>by
  simp only[jU]at h
  split at h
  ·simp at h
  split at h
  ·rename_i hc
   rw[qe fs xs _ out h,od _ _ _ (by omega)]
  simp at h
section
variable {P:Program}{T:fP}(hT:fg P T){o:Oper}{s:St}{nx0 id:Nat}{K:ey→Prop}
include hT in
theorem MH {e:TypeId}(ho:o.op= .alloc e)(hd:bZ o s.n){E:Ty}(hE:T e=some E)(h:K ⟨.one (.ptr id 0),some (.var E.zero),[]⟩):∃f,K f∧bm P o s nx0 id f:=by
 obtain⟨i,d,z,hi,hu,hz,hk,_,_,hzc,hall⟩:=bI hT hE;refine⟨_,h,bm.newVar (e:=e) (by rw[ho];rfl) hd fun G dom ρ Z a w hs ha=>⟨z.cells,?_,?_⟩⟩
 ·unfold execOp;rw[ho];refine dP ?_;simp only[Instr.alloc,newVar,newRow,Sem.run_bind,fj hi hz,Result.andThen_ok,run_newObj,Sem.run_pure];rfl
 rw[hzc];exact pr _ hall
theorem Pm {e:TypeId}{x:Operand}(ho:o.op= .box e x)(hd:bZ o s.n)(hx:(s.ev x).oe=true)(h:K ⟨.one (.ptr id 0),some (.var (cellsOf (s.ev x))),[]⟩):∃f,K f∧bm P o s nx0 id f:=by
 have hxm:x∈o.op.operands:=by rw[ho];simp[Op.operands]
 refine⟨_,h,bm.newVar (e:=e) (by rw[ho];rfl) hd fun G dom ρ Z a w hs ha=>⟨(a.eval x).cells,?_,?_⟩⟩
 ·unfold execOp;rw[ho];refine dP ?_;simp only[Instr.box,newVar,newRow,Sem.run_bind,Result.andThen_ok,run_newObj,Sem.run_pure];rfl
 have hev:=hs.ev x;rw[ha.ev x hxm]at hev;exact cd.cells hev hx
include hT in
theorem MM {t:TypeId}{parts:Array (Nat×Operand)}(ho:o.op= .build t parts)(hd:bZ o s.n){E:Ty}(hE:T t=some E){fs:List (Nat×Nat)}(hfs:E.k= .st fs){cs:List C}
  (hf:jU fs E.zero (parts.toList.map fun p=>(p.1,s.ev p.2))=some cs) (h:K ⟨.agg cs,none,[]⟩):∃f,K f∧bm P o s nx0 id f:=by
 obtain⟨i,d,z,hi,hu,hz,hk,_,_,hzc,hall⟩:=bI hT hE;rw[hfs]at hk;obtain⟨fields,rfl,hfl⟩:=qU hk.symm;have hpm:∀p∈parts.toList,p.2∈o.op.operands:=fun p hp=>by rw[ho];simp only[Op.operands];simpa using⟨p.1,by simpa using hp⟩
 refine⟨_,h,bm.pure hd fun G dom ρ Z a w hs ha=>?_⟩;have hparts:=wa (s:=s) (nx0:=nx0) (o:=o) hs parts.toList (fun p hp=>ha.ev p.2 (hpm p hp));have hzr:b5 ρ dom (aQ G Z.own ρ w) w E.zero z.cells.toList:=by rw[hzc];exact pr _ hall
 obtain⟨cells',h1,h2⟩:=td (place:=(fs.toArray[·]?)) (fs:=fs) (fun i p hp=>by simpa using hp) _ _ _ _ _ hparts hzr hf;refine⟨.agg cells',?_,cells',rfl,h2⟩;unfold execOp;rw[ho];refine dP ?_;simp only[Instr.build,Sem.run_bind,fj hi hz,av hu,Result.andThen_ok];have hpl:(fields.mapM fun f=>do pure (f.offset,←sizeOf f.type):Sem (Array (Nat×Nat))).run P w= .ok fs.toArray w:=by
  have:=run_places (P:=P) w fields.toList fs hfl
  rw[Array.mapM_eq_mapM_toList];simp only[Sem.run_map];have e:(fields.toList.mapM fun f=>(do pure (f.offset,←sizeOf f.type):Sem (Nat×Nat)))=(fields.toList.mapM fun f=>Functor.map (Prod.mk f.offset) (sizeOf f.type)):=by
   congr 1
  rw[e,this];rfl
 rw[hpl];simp only[Result.andThen_ok]
 have hpe:(parts.map fun x=>match x with|(i,x)=>(i,a.eval x)).toList=parts.toList.map fun p=>(p.1,a.eval p.2):=by
  rw[Array.toList_map]
 rw[hpe,h1];rfl
theorem Ft {e:TypeId}{w n:Nat}{cs:List C}(hl:cs.length=n*w)(j:Nat)(c:C)(h:(Bk.rows e w n (fun i j=>cs.getD (i*w+j) .any)).cell j=some c):cs[j]? =some c:=by
 simp only[Bk.cell]at h
 split at h
 ·rename_i hj
  simp only[Option.some.injEq]at h
  have:j/w*w+j%w=j:=by rw[Nat.mul_comm];exact Nat.div_add_mod j w
  rw[this]at h;rw[X8 (by omega)];rw[X7,X8 (by omega)]at h
  simpa using h
 cases h
theorem vI {e:TypeId}{k:IntKind}{xs:List Int}(j:Nat)(c:C)(h:(Bk.ints e k xs).cell j=some c):(xs.map (C.int k))[j]? =some c:=by
 simpa[Bk.cell]using h
theorem zl (hlt:jo o.op=false)(hd:bZ o s.n){E:Ty}{e:TypeId}{fz:Bool}{len:Nat}{cs:List C}{ids:List Nat}(hE:match E.k with|.int _=>E.size=1|_=>0<E.size)(hlen:cs.length=len*E.size)(h:D4 E e id fz len cs ids K)
  (hrun:∀G dom ρ Z a w,a7 G dom ρ Z a w→rJ s Z nx0 o→∃cells:Array Value,(execOp a.eval o).run P w= .ok (.value (.slice (some ⟨w.heap.size,0,none⟩) len len)) (w.alloc (.cells cells e))∧b5 bz bH (aQ G (fh Z.own ids) ρ w) w cs cells.toList):
  ∃f,K f∧bm P o s nx0 id f:=by
 have hget:∀{G:Ctx} {ρ:Nat→Loc} {Z:St} {w:World} {cells:Array Value},b5 bz bH (aQ G (fh Z.own ids) ρ w) w cs cells.toList→∀(j:Nat) c,cs[j]? =some c→∃u,cells[j]? =some u∧aM (aQ G (fh Z.own ids) ρ w) w c u:=by
  intro G ρ Z w cells hl j c hj;obtain⟨u,hu,hr⟩:=b5.get hl j c hj;exact⟨u,by simpa using hu,aM.dI hr⟩
 have hsz:∀{G:Ctx} {ρ:Nat→Loc} {Z:St} {w:World} {cells:Array Value},b5 bz bH (aQ G (fh Z.own ids) ρ w) w cs cells.toList→cells.size=len*E.size:=by
  intro G ρ Z w cells hl
  have:=b5.length hl
  simp only[Array.length_toList]at this;omega
 have gen:∀(E':Nat) (hE':E'=E.size) (h0:0<E.size),(if fz then K ⟨.one (.rows E' len (fun i j=>cs.getD (i*E'+j) .any)),none,ids⟩
   else K ⟨.one (.own id E' 0 len),some (.rows e E' len (fun i j=>cs.getD (i*E'+j) .any)),ids⟩)→∃f,K f∧bm P o s nx0 id f:=by
  intro E' hE' h0 h;subst hE'
  split at h
  ·refine⟨_,h,bm.L1 (e:=e) ids hlt hd fun G dom ρ Z a w hs ha=>?_⟩;obtain⟨cells,hr,hl⟩:=hrun G dom ρ Z a w hs ha;refine⟨cells,_,hr,some ⟨w.heap.size,0,none⟩,len,rfl,Nat.le_refl _,.inr ⟨w.heap.size,0,rfl,(hs.fh ids).LW,fun i j hi hj=>?_⟩⟩;have hlt:i*E.size+j<cs.length:=by
    have:(i+1)*E.size≤len*E.size:=Nat.mul_le_mul_right _ hi
    rw[Nat.add_mul]at this;omega
   obtain⟨u,hu,hr⟩:=hget hl (i*E.size+j) (cs.getD (i*E.size+j) .any) (by rw[X7,X8 hlt];rfl);refine⟨u,by rw[Nat.zero_add];simpa using hu,aM.ext ⟨fun g hg=>⟨Cn hg,(eD w _).block g hg.1⟩,fun g=>?_⟩ _ _ hr⟩
   by_cases hg:g<w.heap.size
   ·rw[bT ((eD w _).block g hg)];exact Nat.le_refl _
   rw[gy hg];exact Nat.zero_le _
  refine⟨_,h,bm.newRow (e:=e) ids hlt hd (fun cs=>by simp) (Nat.le_refl _) fun G dom ρ Z a w hs ha=>?_⟩;obtain⟨cells,hr,hl⟩:=hrun G dom ρ Z a w hs ha;exact⟨cells,len,hr,Nat.le_refl _,by rw[hsz hl];exact Nat.le_refl _,fun j c hj=>hget hl j c (Ft hlen j c hj)⟩
 unfold D4 at h
 split at h
 ·rename_i k hk
  rw[hk]at hE;simp only at hE
  split at h
  ·rename_i xs hxs
   have hcs:=tj k cs xs hxs;have hxl:xs.length=len:=by rw[hcs]at hlen;simpa[hE]using hlen
   split at h
   ·refine⟨_,h,bm.L1 (e:=e) ids hlt hd fun G dom ρ Z a w hs ha=>?_⟩;obtain⟨cells,hr,hl⟩:=hrun G dom ρ Z a w hs ha;refine⟨cells,_,hr,some ⟨w.heap.size,0,none⟩,len,by rw[hxl],by omega,.inr ⟨w.heap.size,0,rfl,(hs.fh ids).LW,fun i hi=>?_⟩⟩;obtain⟨u,hu,hr⟩:=hget hl i (.int k (xs.getD i 0)) (by rw[hcs];simp[X8 hi]);rw[Nat.zero_add,World.cell?_alloc_new,hu];exact congrArg some hr
   refine⟨_,h,bm.newRow (e:=e) ids hlt hd (fun cs=>by simp) (by simp[Bk.len,hxl]) fun G dom ρ Z a w hs ha=>?_⟩;obtain⟨cells,hr,hl⟩:=hrun G dom ρ Z a w hs ha;exact⟨cells,len,hr,Nat.le_refl _,by rw[hsz hl,hE];exact Nat.le_refl _,fun j c hj=>hget hl j c (by rw[hcs];exact vI j c hj)⟩
  exact h.elim
 rename_i hne
 exact gen _ rfl (by split at hE<;>first|omega|exact hE) h
include hT in
theorem zJ {t:TypeId}{len:Nat}{parts:Array (Nat×Operand)}{fz:Bool}(ho:o.op= .buildSlice t len parts)(hd:bZ o s.n)(h:ic T s nx0 id fz t len parts K):∃f,K f∧bm P o s nx0 id f:=by
 have hpm:∀p∈parts.toList,p.2∈o.op.operands:=fun p hp=>by rw[ho];simp only[Op.operands];simpa using⟨p.1,by simpa using hp⟩
 unfold ic at h
 cases hTt:T t with
 |none=>rw[hTt]at h;exact h.elim
 |some S=>
  rw[hTt]at h;simp only at h
  split at h
  ·rename_i e hSk
   have hu:=fD hT hTt hSk
   cases hTe:T e with
   |none=>rw[hTe]at h;exact h.elim
   |some E=>
    rw[hTe]at h;simp only at h;obtain⟨ei,ed,ez,hei,heu,hez,hek,hes,_,hzc,hall⟩:=bI hT hTe;obtain⟨hzl,hbig,hsize,h⟩:=h
    have hpos:0<E.size:=by split at hsize<;>omega
    split at h
    ·rename_i cs hf
     have hlen:cs.length=len*E.size:=by rw[qe _ _ _ _ hf,j8,hzl]
     refine zl (by rw[ho];rfl) hd hsize hlen h fun G dom ρ Z a w hs ha=>?_;have hparts:=tT (s:=s) hs ha ((parts.toList.map fun p=>ij (s.ev p.2)).flatten.filter (fun b=>decide (b<nx0))) parts.toList (fun p hp=>ha.ev p.2 (hpm p hp)) (fun p hp b hb hlt=>List.mem_filter.2 ⟨List.mem_flatten.2 ⟨_,List.mem_map.2 ⟨p,hp,rfl⟩,hb⟩,by simpa using hlt⟩);have hzs:ez.cells.size=E.size:=by rw[←hzl,hzc];simp
     have hzr:b5 bz bH (aQ G (fh Z.own ((parts.toList.map fun p=>ij (s.ev p.2)).flatten.filter (fun b=>decide (b<nx0)))) ρ w) w (gr E.zero len) ((Array.range (len*ez.cells.size)).map (fun i=>ez.cells[i%ez.cells.size]!)).toList:=by
      rw[hzc];exact rD ez.cells len (by omega) hall
     obtain⟨cells',h1,h2⟩:=td (place:=fun i=>some (i*E.size,E.size)) (fs:=iL E.size 0 len) (fun i p hp=>by rw[rR _ _ _ _ _ hp,Nat.zero_add]) _ _ _ _ _ hparts hzr hf;refine⟨cells',?_,h2⟩;unfold execOp;rw[ho];refine dP ?_
     have hpe:(parts.map fun x=>match x with|(i,x)=>(i,a.eval x)).toList=parts.toList.map fun p=>(p.1,a.eval p.2):=by
      rw[Array.toList_map]
     have hpe':(Array.map (fun x=>(x.fst,a.eval x.snd)) parts).toList=parts.toList.map fun p=>(p.1,a.eval p.2):=by
      rw[Array.toList_map]
     simp only[Instr.buildSlice,Sem.run_bind,av hu,Result.andThen_ok,run_sizeOf hei,Sem.run_ite];rw[if_neg (by rw[←hes];omega)];simp only[Sem.run_pure,Result.andThen_ok]
     by_cases h0:len*ei.size=0
     ·rw[if_pos h0];have hr0:∀f:Nat→Value,Array.map f (Array.range 0)= #[]:=fun f=>by simp
      rw[hzs,hes,h0,hr0]at h1;simp only[h0,hr0,hpe',h1];rfl
     rw[if_neg h0];simp only[fj hei hez,Result.andThen_ok];rw[hzs,hes]at h1;simp only[hpe',h1,hzs,hes];rfl
    exact h.elim
  exact h.elim
end
end Go.Eng
/-
  THE ENGINE, PART L: make, built-in functions, and the rest; ALL operations that only look.
-/
namespace Go.Eng
open Go
theorem vG {n:Int}(h0:0≤n)(h1:n≤9223372036854775807):IntKind.i64.wrap n=n:=by
 have h2:n% (2^64:Int)=n:=Int.emod_eq_of_lt h0 (by omega);have e:IntKind.i64.wrap n=if(true&&decide (n% (2^64:Int)≥2^63))=true then n% (2^64:Int)-2^64 else n% (2^64:Int):=rfl
 rw[e,h2,if_neg (by simp;omega)]
theorem a8.get {ρ:Nat→Loc}{dom ok:Nat→Prop}{w:World}:∀{xs:List V} {vs:List Value},a8 ρ dom ok w xs vs→∀(j:Nat) x,xs[j]? =some x→∃v,vs[j]? =some v∧dM ρ dom ok w x v
 |[],[],_,j,x,hj=>by simp at hj
 |x0::xs,v0::vs,h,0,x,hj=>by simp at hj;subst hj;exact⟨v0,rfl,h.1⟩
 |x0::xs,v0::vs,h,j+1,x,hj=>by simpa using a8.get h.2 j x (by simpa using hj)
 |[],_::_,h,_,_,_=>h.elim
 |_::_,[],h,_,_,_=>h.elim
theorem cd.uf {ρ:Nat→Loc}{dom ok:Nat→Prop}{w:World}{x:V}{v:Value}(h:dM ρ dom ok w x v):cd ρ dom ok w x v:=by
 cases x with
 |unk=>trivial
 |one c=>exact h
 |agg cs=>exact h
 |aJ xs=>exact h.elim
section
variable {P:Program}{T:fP}(hT:fg P T){o:Oper}{s:St}{nx0 id:Nat}{K:ey→Prop}
include hT in
theorem BN {t:TypeId}{l c:Operand}(ho:o.op= .makeSlice t l c)(hd:bZ o s.n)(h:jF T s id t l c K):∃f,K f∧bm P o s nx0 id f:=by
 have hlm:l∈o.op.operands:=by rw[ho];simp[Op.operands]
 have hcm:c∈o.op.operands:=by rw[ho];simp[Op.operands]
 unfold jF at h
 cases hTt:T t with
 |none=>rw[hTt]at h;exact h.elim
 |some S=>
  rw[hTt]at h;simp only at h
  split at h
  ·rename_i e hSk
   have hu:=fD hT hTt hSk
   cases hTe:T e with
   |none=>rw[hTe]at h;exact h.elim
   |some E=>
    rw[hTe]at h;simp only at h;obtain⟨ei,ed,ez,hei,heu,hez,hek,hes,heb,hzc,hall⟩:=bI hT hTe
    split at h
    ·rename_i kl ln kc cn hl hc
     obtain⟨hzl,hpos,⟨h0,h1,h2,h3⟩,h⟩:=h;have hzs:ez.cells.size=E.size:=by rw[←hzl,hzc];simp
     have hrun:∀(G:Ctx) (dom:Nat→Prop) (ρ:Nat→Loc) (Z:St) (a:Act) (w:World),a7 G dom ρ Z a w→rJ s Z nx0 o→
       (execOp a.eval o).run P w= .ok (.value (.slice (some ⟨w.heap.size,0,none⟩) ln.toNat cn.toNat)) (w.alloc (.cells ((Array.range (cn.toNat*ez.cells.size)).map (fun i=>ez.cells[i%ez.cells.size]!)) e)):=by
      intro G dom ρ Z a w hs ha;have hlv:=hs.ev l;rw[a6 ha hlm hl]at hlv;have hcv:=hs.ev c;rw[a6 ha hcm hc]at hcv;have hlv:a.eval l= .int kl ln:=hlv;have hcv:a.eval c= .int kc cn:=hcv;unfold execOp;rw[ho];refine dP ?_;have hwl:IntKind.i64.wrap ln=ln:=vG h0 (by omega);have hwc:IntKind.i64.wrap cn=cn:=vG (by omega) h3;have hbig:¬((ei.bytes:Int)*cn>2^48):=by rw[←heb,Int.mul_comm];omega
      have hbigb:decide ((ei.bytes:Int)*cn>2^48)=false:=by simpa using hbig
      have hneg:decide (cn<0)=false:=by simp;omega
      have hneg2:decide (ln<0)=false:=by simp;omega
      have hneg3:decide (ln>cn)=false:=by simp;omega
      simp only[Instr.makeSlice,Sem.run_bind,av hu,Result.andThen_ok,hlv,hcv,asInt,asIntOf,Sem.run_pure,run_typeInfo hei,hwl,hwc,hneg,hneg2,hneg3,hbigb,Bool.or_self,Bool.false_eq_true,↓reduceIte,run_askRoom,run_sizeOf hei,Sem.run_ite,ite_self];rw[←hes,←hzs]
      by_cases hz:cn.toNat*ez.cells.size=0
      ·rw[if_pos hz];have hr0:∀f:Nat→Value,Array.map f (Array.range 0)= #[]:=fun f=>by simp
       simp only[hz,hr0];rfl
      rw[if_neg hz];simp only[fj hei hez,Result.andThen_ok];rfl
     have hszc:((Array.range (cn.toNat*ez.cells.size)).map (fun i=>ez.cells[i%ez.cells.size]!)).size=cn.toNat*ez.cells.size:=by simp
     split at h
     ·rename_i k hk
      obtain⟨hz,hK⟩:=h;have hE1:E.size=1:=by rw[←hzl,hz];rfl
      refine⟨_,hK,bm.newRow (e:=e) [] (by rw[ho];rfl) hd (fun cs=>by simp) (by simp[Bk.len];omega) fun G dom ρ Z a w hs ha=>?_⟩;refine⟨_,cn.toNat,hrun G dom ρ Z a w hs ha,by omega,by rw[hszc,hzs,hE1];exact Nat.le_refl _,fun j c' hj=>?_⟩;have hzr:=rD (ρ:=bz) (dom:=bH) (ok:=aQ G (fh Z.own []) ρ w) (w:=w) ez.cells cn.toNat (by omega) hall;rw[←hzc,hz]at hzr;have hj':=vI j c' hj
      have:(gr [C.int k 0] cn.toNat)=(List.replicate cn.toNat (0:Int)).map (C.int k):=by
       generalize cn.toNat=n
       induction n with
       |zero=>rfl
       |succ n ih=>simp[gr,ih,List.replicate_succ]
      rw[←this]at hj';obtain⟨u,hu',hr⟩:=b5.get hzr j c' hj';exact⟨u,by rw[←Array.getElem?_toList];exact hu',aM.dI hr⟩
     refine⟨_,h,bm.newRow (e:=e) [] (by rw[ho];rfl) hd (fun cs=>by simp) (by simp[Bk.len];omega) fun G dom ρ Z a w hs ha=>?_⟩;refine⟨_,cn.toNat,hrun G dom ρ Z a w hs ha,by omega,by rw[hszc,hzs];exact Nat.le_refl _,fun j c' hj=>?_⟩;have hzr:=rD (ρ:=bz) (dom:=bH) (ok:=aQ G (fh Z.own []) ρ w) (w:=w) ez.cells cn.toNat (by omega) hall;rw[←hzc]at hzr;simp only[Bk.cell]at hj
     split at hj
     ·rename_i hlt
      simp only[Option.some.injEq]at hj;have hg:=oH E.zero cn.toNat j (by rw[hzl];exact hlt);rw[hzl]at hg;have hm:j%E.size<E.zero.length:=by rw[hzl];exact Nat.mod_lt _ hpos
      rw[X7,X8 hm]at hj;rw[X8 hm]at hg;obtain⟨u,hu',hr⟩:=b5.get hzr j _ hg;simp only[Option.getD_some]at hj;rw[←hj];exact⟨u,by rw[←Array.getElem?_toList];exact hu',aM.dI hr⟩
     cases hj
    exact h.elim
  exact h.elim
theorem CY {ρ:Nat→Loc}{dom ok:Nat→Prop}{w:World}{c:C}{n:Nat}{v:Value}(hl:jw c=some n)(h:aW ρ dom ok w c v):∃a cap,v= .slice a n cap∧n≤cap∧(c= .nil→cap=0):=by
 cases c with
 |own b wd off len=>
  simp only[jw,Option.some.injEq]at hl;subst hl;obtain⟨_,_,cap,hc,h⟩:=h
  rcases h with⟨g,o,o',_,rfl,_⟩|⟨_,rfl,h1,h2⟩
  ·exact⟨_,cap,rfl,hc,fun e=>by cases e⟩
  exact⟨none,0,by rw[h1],by omega,fun e=>by cases e⟩
 |ints k xs=>simp only[jw,Option.some.injEq]at hl;subst hl;obtain⟨a,cap,rfl,hc,_⟩:=h;exact⟨a,cap,rfl,hc,fun e=>by cases e⟩
 |rows wd n' f=>simp only[jw,Option.some.injEq]at hl;subst hl;obtain⟨a,cap,rfl,hc,_⟩:=h;exact⟨a,cap,rfl,hc,fun e=>by cases e⟩
 |nil=>simp only[jw,Option.some.injEq]at hl;subst hl;exact⟨none,0,h,Nat.le_refl _,fun _=>rfl⟩
 |_=>simp[jw]at hl
include hT in
theorem FX {c:Call}{b:Builtin}(ho:o.op= .call c)(hc:c.callee= .builtin b)(hd:bZ o s.n)(h:mA T s b c.args.toList c.argTypes.toList K):∃f,K f∧bm P o s nx0 id f:=by
 have ham:∀x∈c.args.toList,x∈o.op.operands:=fun x hx=>by rw[ho];simp only[Op.operands,Call.operands];exact Array.mem_append_right _ (by simpa using hx)
 have hex:∀(a:Act) (w:World) (v:Value),(match b with
    |.len=>Builtin.len_ c.argTypes o.type (c.args.map a.eval)
    |.max=>Builtin.max_ c.argTypes o.type (c.args.map a.eval)
    |_=>stuck "").run P w= .ok v w→(execOp a.eval o).run P w= .ok (.value v) w:=by
  intro a w v hv;unfold execOp;rw[ho];simp only[resolve,hc,Sem.run_bind,Sem.run_pure,Result.andThen_ok,invoke,Go.builtin]
  cases b<;>simp only at hv<;>first|exact dP hv|(simp at hv;done)
 unfold mA at h
 split at h
 ·-- len
  rename_i x t hargs htys
  have hxm:x∈o.op.operands:=ham x (by rw[hargs];simp);have ea:c.args= #[x]:=Array.toList_inj.1 hargs;have et:c.argTypes= #[t]:=Array.toList_inj.1 htys
  cases hTt:T t with
  |none=>rw[hTt]at h;exact h.elim
  |some E=>
   rw[hTt]at h;simp only at h
   split at h
   ·rename_i e hEk
    have hu:=fD hT hTt hEk
    split at h
    ·rename_i cc hx
     split at h
     ·rename_i n hl
      refine⟨_,h,bm.pure hd fun G dom ρ Z a w hs ha=>⟨.int .i64 n,?_,rfl⟩⟩;have hev:=hs.ev x;rw[a6 ha hxm hx]at hev;obtain⟨ad,cap,hv,_,_⟩:=CY hl hev;refine hex a w _ ?_;simp only[ea,et,Builtin.len_,hv,List.map_toArray,List.map_cons,List.map_nil,List.getElem?_toArray,List.getElem?_cons_zero,Sem.run_bind,av hu,Result.andThen_ok,Sem.run_pure];rfl
     exact h.elim
    exact h.elim
   ·rename_i hEk
    obtain⟨_,d,_,_,hu,_,hk,_⟩:=bI hT hTt;rw[hEk]at hk;have hdb:d= .string:=by
     cases d<;>simp only[ck]at hk
     case string=>rfl
     case struct fs=>split at hk<;>cases hk
     all_goals cases hk
    subst hdb
    split at h
    ·rename_i bs hx
     refine⟨_,h,bm.pure hd fun G dom ρ Z a w hs ha=>⟨.int .i64 bs.size,?_,rfl⟩⟩;have hev:=hs.ev x;rw[a6 ha hxm hx]at hev;have hv:a.eval x= .string bs:=hev;refine hex a w _ ?_;simp only[ea,et,Builtin.len_,hv,List.map_toArray,List.map_cons,List.map_nil,List.getElem?_toArray,List.getElem?_cons_zero,Sem.run_bind,av hu,Result.andThen_ok,Sem.run_pure];rfl
    exact h.elim
   exact h.elim
 ·-- max
  rename_i x y hargs
  have hxm:x∈o.op.operands:=ham x (by rw[hargs];simp);have hym:y∈o.op.operands:=ham y (by rw[hargs];simp);have ea:c.args= #[x,y]:=Array.toList_inj.1 hargs
  split at h
  ·rename_i v hv
   unfold ML at hv
   split at hv
   ·rename_i k x0 k' y0 hx hy
    simp only[Option.some.injEq]at hv;subst hv;refine⟨_,h,bm.pure hd fun G dom ρ Z a w hs ha=>⟨.int k (if x0<y0 then y0 else x0),?_,rfl⟩⟩;have hvx:=hs.ev x;rw[a6 ha hxm hx]at hvx;have hvy:=hs.ev y;rw[a6 ha hym hy]at hvy;have hvx:a.eval x= .int k x0:=hvx;have hvy:a.eval y= .int k' y0:=hvy;refine hex a w _ ?_;simp only[ea,Builtin.max_,hvx,hvy,List.map_toArray,List.map_cons,List.map_nil,List.foldlM_cons,List.foldlM_nil,Builtin.max2,Sem.run_bind,Sem.run_pure,Result.andThen_ok]
   cases hv
  exact h.elim
 exact h.elim
theorem fN (hT:fg P T){fz:Bool}(hd:bZ o s.n)(h:eF T P o.op s nx0 id fz K):∃f,K f∧bm P o s nx0 id f:=by
 cases ho:o.op with
 |move x=>rw[ho]at h;exact Mf (.inl ho) hd h
 |assign x=>rw[ho]at h;exact Mf (.inr ho) hd h
 |pick c a b=>
  rw[ho]at h;simp only[eF]at h
  split at h
  ·rename_i t ht;exact On ho hd ht h
  exact h.elim
 |alloc e=>
  rw[ho]at h;simp only[eF]at h
  split at h
  ·rename_i E hE;exact MH hT ho hd hE h
  exact h.elim
 |box e x=>rw[ho]at h;exact Pm ho hd h.1 h.2
 |build t parts=>
  rw[ho]at h;simp only[eF]at h
  split at h
  ·rename_i E hE
   split at h
   ·rename_i fs hfs
    split at h
    ·rename_i cs hf;exact MM hT ho hd hE hfs hf h
    exact h.elim
   exact h.elim
  exact h.elim
 |buildSlice t len parts=>rw[ho]at h;exact zJ hT ho hd h
 |load t x=>rw[ho]at h;exact OC hT ho hd h
 |binOp op t x y t'=>rw[ho]at h;exact O9 hT ho hd h
 |unOp op t x=>rw[ho]at h;exact P5 ho hd h
 |convert src dst x=>rw[ho]at h;exact F0 hT ho hd h
 |makeSlice t l c=>rw[ho]at h;exact BN hT ho hd h
 |slice t x lo hi mx=>rw[ho]at h;exact Nw hT ho hd h
 |fieldAddr t x f=>rw[ho]at h;exact CD hT ho hd h
 |indexAddr t x i=>rw[ho]at h;exact B9 hT ho hd h
 |index t x i=>rw[ho]at h;exact M4 hT ho hd h
 |extract x i=>
  have hxm:x∈o.op.operands:=by rw[ho];simp[Op.operands]
  rw[ho]at h;simp only[eF]at h
  split at h
  ·rename_i vs hx
   split at h
   ·rename_i v hv
    refine⟨_,h,bm.pure hd fun G dom ρ Z a w hs ha=>?_⟩;have hev:=hs.ev x;rw[a6 ha hxm hx]at hev;obtain⟨us,hus,hl⟩:=hev;obtain⟨u,hu,hr⟩:=a8.get hl _ _ hv;refine⟨u,?_,cd.uf hr⟩;unfold execOp;rw[ho];refine dP ?_;rw[Array.getElem?_toList]at hu;simp only[hus,Instr.extract,hu,Sem.run_pure]
   exact h.elim
  exact h.elim
 |nilCheck x=>
  have hxm:x∈o.op.operands:=by rw[ho];simp[Op.operands]
  rw[ho]at h;simp only[eF]at h;have key:∀(c:C),s.ev x= .one c→(∀ρ dom ok w v,aW ρ dom ok w c v→∃ad,v= .pointer (some ad))→K ⟨.one c,none,[]⟩→∃f,K f∧bm P o s nx0 id f:=by
   intro c hx hp hK;refine⟨_,hK,bm.pure hd fun G dom ρ Z a w hs ha=>?_⟩;have hev:=hs.ev x;rw[a6 ha hxm hx]at hev;obtain⟨ad,hv⟩:=hp _ _ _ _ _ hev;refine⟨a.eval x,?_,hev⟩;unfold execOp;rw[ho];simp only[hv];rfl
  split at h
  ·rename_i b off hx
   exact key _ hx (fun _ _ _ _ _ hr=>by obtain⟨_,g,o,_,hv⟩:=hr;exact⟨_,hv⟩) h
  ·rename_i c wd i off hx
   exact key _ hx (fun _ _ _ _ _ hr=>by obtain⟨g,o,_,_,_,_,hv⟩:=hr;exact⟨_,hv⟩) h
  ·rename_i b wd i off hx
   exact key _ hx (fun _ _ _ _ _ hr=>by obtain⟨_,_,g,o,_,hv⟩:=hr;exact⟨_,hv⟩) h
  exact h.elim
 |field t x f=>rw[ho]at h;exact M3 hT ho hd h
 |makeFunc fn first captured=>
  rw[ho]at h;simp only[eF]at h
  split at h
  ·rename_i f hf
   obtain⟨hcap,h⟩:=h;have e1:first= #[]:=Array.eq_empty_of_size_eq_zero hf;have hcm:∀x∈captured.toList,x∈o.op.operands:=fun x hx=>by rw[ho];simp only[Op.operands];exact Array.mem_append_right _ (by simpa using hx)
   refine⟨_,h,bm.pure hd fun G dom ρ Z a w hs ha=>⟨.func (.func f) #[] (captured.map a.eval),?_,⟨captured.map a.eval,rfl,by simp,fun i hi=>?_⟩⟩⟩
   ·unfold execOp;rw[ho,e1];refine dP ?_
    simp[Instr.makeFunc]
   have hx:captured.toList[i]? =some captured[i]:=by simp[hi]
   have hm:captured[i]∈captured.toList:=List.mem_of_getElem? hx;have h1:rP (s.ev captured[i])=true:=List.all_eq_true.1 hcap _ hm;have e2:(captured.toList.map s.ev).getD i .unk=s.ev captured[i]:=by
    rw[X7,List.getElem?_map,hx];rfl
   have e3:(captured.map a.eval).getD i undef=a.eval captured[i]:=by
    simp[Array.getD_eq_getD_getElem?,hi]
   show fy ρ dom _ w (C5 ((captured.toList.map s.ev).getD i .unk)) ((captured.map a.eval).getD i undef);rw[e2,e3];have hev:=hs.ev captured[i];rw[ha.ev _ (hcm _ hm)]at hev
   cases hv:s.ev captured[i]with
   |one c=>
    rw[hv]at hev h1;refine fy.Lm (fun f n cs hc=>?_) hev;have hc:c= .fn f n cs:=hc;rw[hc]at h1
    simp[rP]at h1
   |agg cs=>rw[hv]at h1;simp[rP]at h1
   |aJ cs=>rw[hv]at h1;simp[rP]at h1
   |unk=>rw[hv]at h1;simp[rP]at h1
  exact h.elim
 |call c=>
  rw[ho]at h;simp only[eF]at h
  split at h
  ·rename_i b hb;exact FX hT ho hb hd h
  ·rename_i g hg;exact Oi ho hg hd h
  exact h.elim
 |_=>rw[ho]at h;exact h.elim
end
end Go.Eng
/-
  THE ENGINE, PART M: operations that write: a store, an append.
-/
namespace Go.Eng
open Go
def nN (P:Program)(o:Oper)(s:St)(K:St→Prop):Prop:=
 ∀G a w,qc G s a w→∀Q next,(∀s' a' w',K s'→qc G s' a' w'→next a' w')→o.wp P a w next Q
theorem Hn (l:List (Nat×gI)):fh l []=l:=by
 induction l with
 |nil=>rfl
 |cons x l ih=>obtain⟨b,B⟩:=x;simp[fh,ih]
theorem xZ (l:List (Nat×gI))(ids:List Nat):xH l ids=fh l ids:=by
 cases ids with
 |nil=>rw[Hn];rfl
 |cons x r=>rfl
theorem cL {w:World}{g:Nat}{cur:Array Value}{e:TypeId}{f:Nat×Nat}(h:w.heap[g]? =some (.cells cur e f)):b6 w g=cur.size:=by simp[b6,h]
theorem a7.rewrite {G:Ctx}{dom:Nat→Prop}{ρ:Nat→Loc}{s:St}{a:Act}{w:World}(h:a7 G dom ρ s a w){b g o:Nat}{B:Bk}(hl:lo s.own b=some ⟨B,true⟩)(haddr:(ρ b).addr=some (g,o))
  {cur cur':Array Value} {e:TypeId} (hg:w.heap[g]? =some (.cells cur e (0,0))) (hsz:cur'.size=cur.size) {id:Nat} (hid:¬dom id) (B':Bk) (o1:Nat)
  (hrep:∀j c,B'.cell j=some c→∃u,cur'[o1+j]? =some u∧(match B' with|.var _=>aW ρ dom (aQ G s.own ρ w) w c u|_=>aM (aQ G s.own ρ w) w c u)):
  a7 G (fun b=>dom b∨b=id) (cM ρ id ⟨some (g,o1),B'.len⟩) {s with own:=iX (del s.own b) id ⟨B',true⟩} a (w.setRow g cur'):=by
 have hs:=jH.cM ρ ⟨some (g,o1),B'.len⟩ hid;have hne:∀b B',lo s.own b=some B'→b≠id:=fun b B' hl e=>hid (e▸(h.own b B' hl).1);obtain⟨_,_,_,hloc⟩:=h.own b _ hl;obtain⟨hgl,hgf,hgm⟩:=hloc g o haddr;have hheap:∀g',g'≠g→(w.setRow g cur').heap[g']? =w.heap[g']? :=fun g' hn=>setRow_other w g g' cur' hn;have hext:Ext (aQ G s.own ρ w) (aQ G (iX (del s.own b) id ⟨B',true⟩) (cM ρ id ⟨some (g,o1),B'.len⟩) (w.setRow g cur')) w (w.setRow g cur'):=by
  refine⟨fun g' hg'=>?_,fun g'=>?_⟩
  ·have hng:g'≠g:=fun e=>by subst e;exact hg'.2.2 b _ hl rfl o haddr
   refine⟨⟨by simpa using hg'.1,hg'.2.1,fun b2 B2 hl2 hrw o2=>?_⟩,hheap g' hng⟩;rw[dk]at hl2
   by_cases hbi:b2=id
   ·subst hbi;rw[oE];intro he
    have:g=g':=by simpa using congrArg (Option.map Prod.fst) he
    exact hng this.symm
   rw[if_neg hbi,ka]at hl2;rw[bt _ _ hbi]
   split at hl2
   ·cases hl2
   exact hg'.2.2 b2 B2 hl2 hrw o2
  by_cases hng:g'=g
  ·subst hng;rw[cL hg,cL (setRow_heap w g' cur cur' e (0,0) hg),hsz];exact Nat.le_refl _
  rw[bT (hheap g' hng)];exact Nat.le_refl _
 refine h.vg hext hs ?_ ?_ rfl rfl rfl (by simp) (fun k hk hm=>hheap k (fun e=>?_))
 ·intro b2 B2 hl2;rw[dk]at hl2
  by_cases hbi:b2=id
  ·subst hbi;rw[if_pos rfl]at hl2;obtain rfl:=Option.some.inj hl2;rw[oE];refine⟨.inr rfl,rfl,?_,fun g' o' ha=>?_⟩
   ·unfold aT;refine⟨cur',e,setRow_heap w g cur cur' e (0,0) hg,fun j c hj=>?_⟩;obtain⟨u,hu,hr⟩:=hrep j c hj;refine⟨u,hu,?_⟩
    cases B' with
    |var cs=>exact aW.ext hext hs _ _ hr
    |ints e k xs=>exact aM.ext hext _ _ hr
    |rows e wd n f=>exact aM.ext hext _ _ hr
   have:g=g':=by simpa using congrArg (Option.map Prod.fst) ha
   subst this;exact⟨by simpa using hgl,hgf,hgm⟩
  rw[if_neg hbi,ka]at hl2;rw[bt _ _ hbi]
  split at hl2
  ·cases hl2
  rename_i hbb
  obtain⟨h1,h2,h3,h4⟩:=h.own b2 B2 hl2;refine⟨.inl h1,h2,aT.ext hext hs _ _ (fun g' o' ha=>hheap g' (fun e=>?_)) h3,fun g' o' ha=>by simpa using h4 g' o' ha⟩;subst e;exact h.inj b _ b2 B2 hl hl2 (fun e=>hbb e.symm) rfl g' o o' haddr ha
 ·intro b2 B2 b3 B3 hl2 hl3 hne' hrw g' o2 o3 ha;rw[dk]at hl2 hl3
  by_cases hbi:b2=id
  ·subst hbi;rw[if_neg (fun e=>hne' e.symm),ka]at hl3;rw[oE]at ha;rw[bt _ _ (fun e=>hne' e.symm)];have hgg:g=g':=by simpa using congrArg (Option.map Prod.fst) ha
   subst hgg
   split at hl3
   ·cases hl3
   rename_i hbb
   exact h.inj b _ b3 B3 hl hl3 (fun e=>hbb e.symm) rfl g o o3 haddr
  rw[if_neg hbi,ka]at hl2;rw[bt _ _ hbi]at ha
  split at hl2
  ·cases hl2
  rename_i hbb
  by_cases hbi':b3=id
  ·subst hbi';rw[oE];intro ha';have hgg:g=g':=by simpa using congrArg (Option.map Prod.fst) ha'
   subst hgg;exact h.inj b2 B2 b _ hl2 hl hbb hrw g o2 o ha haddr
  rw[if_neg hbi',ka]at hl3;rw[bt _ _ hbi']
  split at hl3
  ·cases hl3
  exact h.inj b2 B2 b3 B3 hl2 hl3 hne' hrw g' o2 o3 ha
 subst e
 rcases hgm with hgm|hgm
 ·omega
 exact hm hgm
theorem a7.write {G:Ctx}{dom:Nat→Prop}{ρ:Nat→Loc}{s:St}{a:Act}{w:World}(h:a7 G dom ρ s a w){b g o:Nat}{B:Bk}(hl:lo s.own b=some ⟨B,true⟩)(haddr:(ρ b).addr=some (g,o))
  {cur cur':Array Value} {e:TypeId} (hg:w.heap[g]? =some (.cells cur e (0,0))) (hsz:cur'.size=cur.size) (B':Bk) (hlen:B'.len=B.len)
  (hrep:∀j c,B'.cell j=some c→∃u,cur'[o+j]? =some u∧(match B' with|.var _=>aW ρ dom (aQ G s.own ρ w) w c u|_=>aM (aQ G s.own ρ w) w c u)):
  a7 G dom ρ {s with own:=iX s.own b ⟨B',true⟩} a (w.setRow g cur'):=by
 have hs:jH dom dom ρ ρ:=⟨fun _ h=>h,fun _ _=>rfl⟩;obtain⟨hdomb,hlenb,_,hloc⟩:=h.own b _ hl;obtain⟨hgl,hgf,hgm⟩:=hloc g o haddr;have hheap:∀g',g'≠g→(w.setRow g cur').heap[g']? =w.heap[g']? :=fun g' hn=>setRow_other w g g' cur' hn;have hext:Ext (aQ G s.own ρ w) (aQ G (iX s.own b ⟨B',true⟩) ρ (w.setRow g cur')) w (w.setRow g cur'):=by
  refine⟨fun g' hg'=>?_,fun g'=>?_⟩
  ·have hng:g'≠g:=fun e=>by subst e;exact hg'.2.2 b _ hl rfl o haddr
   refine⟨⟨by simpa using hg'.1,hg'.2.1,fun b2 B2 hl2 hrw o2=>?_⟩,hheap g' hng⟩;rw[dk]at hl2
   by_cases hbi:b2=b
   ·subst hbi;intro he;rw[haddr]at he
    have:g=g':=by simpa using congrArg (Option.map Prod.fst) he
    exact hng this.symm
   rw[if_neg hbi]at hl2;exact hg'.2.2 b2 B2 hl2 hrw o2
  by_cases hng:g'=g
  ·subst hng;rw[cL hg,cL (setRow_heap w g' cur cur' e (0,0) hg),hsz];exact Nat.le_refl _
  rw[bT (hheap g' hng)];exact Nat.le_refl _
 refine h.vg hext hs ?_ ?_ rfl rfl rfl (by simp) (fun k hk hm=>hheap k (fun e=>?_))
 ·intro b2 B2 hl2;rw[dk]at hl2
  by_cases hbi:b2=b
  ·subst hbi;rw[if_pos rfl]at hl2;obtain rfl:=Option.some.inj hl2;refine⟨hdomb,by rw[hlenb];exact hlen.symm,?_,fun g' o' ha=>by simpa using hloc g' o' ha⟩;unfold aT;rw[haddr];refine⟨cur',e,setRow_heap w g cur cur' e (0,0) hg,fun j c hj=>?_⟩;obtain⟨u,hu,hr⟩:=hrep j c hj;refine⟨u,hu,?_⟩
   cases B' with
   |var cs=>exact aW.ext hext hs _ _ hr
   |ints e k xs=>exact aM.ext hext _ _ hr
   |rows e wd n f=>exact aM.ext hext _ _ hr
  rw[if_neg hbi]at hl2;obtain⟨h1,h2,h3,h4⟩:=h.own b2 B2 hl2;refine⟨h1,h2,aT.ext hext hs _ _ (fun g' o' ha=>hheap g' (fun e=>?_)) h3,fun g' o' ha=>by simpa using h4 g' o' ha⟩;subst e;exact h.inj b _ b2 B2 hl hl2 (fun e=>hbi e.symm) rfl g' o o' haddr ha
 ·intro b2 B2 b3 B3 hl2 hl3 hne' hrw g' o2 o3 ha;rw[dk]at hl2 hl3
  by_cases hbi:b2=b
  ·subst hbi;rw[if_neg (fun e=>hne' e.symm)]at hl3;exact h.inj b2 _ b3 B3 hl hl3 hne' rfl g' o2 o3 ha
  rw[if_neg hbi]at hl2
  by_cases hbi':b3=b
  ·subst hbi';exact h.inj b2 B2 b3 _ hl2 hl hne' hrw g' o2 o3 ha
  rw[if_neg hbi']at hl3;exact h.inj b2 B2 b3 B3 hl2 hl3 hne' hrw g' o2 o3 ha
 subst e
 rcases hgm with hgm|hgm
 ·omega
 exact hm hgm
def dE (f:Nat→Nat→C)(i off:Nat)(l:List C):Nat→Nat→C:=
 fun i' j'=>if i'=i then(if off≤j' then(if j'<off+l.length then l.getD (j'-off) .any else f i' j')else f i' j')else f i' j'
def uO (T:fP)(s:St)(t:TypeId)(x y:Operand)(K:St→Prop):Prop:=
 match T t with
 |some E=>match s.ev x with
  |.one (.ptr b off)=>match lo s.own b with
   |some ⟨.var cs,rw⟩=>rw=true∧0<E.size∧(s.ev y).oe=true∧(cellsOf (s.ev y)).length=E.size∧off+E.size≤cs.length∧
     K {s with own:=iX s.own b ⟨.var (lj cs off (cellsOf (s.ev y))),true⟩}
   |_=>False
  |.one (.eptr b wd i off)=>match lo s.own b with
   |some ⟨.ints e k xs,rw⟩=>match s.ev y with
    |.one (.int k' n)=>rw=true∧k'=k∧wd=1∧E.size=1∧off=0∧K {s with own:=iX s.own b ⟨.ints e k (xs.set i n),true⟩}
    |_=>False
   |some ⟨.rows e w n f,rw⟩=>rw=true∧wd=w∧0<E.size∧(s.ev y).oe=true∧(cellsOf (s.ev y)).length=E.size∧off+E.size≤wd∧(ij (s.ev y)).contains b=false∧
     K {s with own:=iX (xH s.own (ij (s.ev y))) b ⟨.rows e w n (dE f i off ((cellsOf (s.ev y)).map (oR s.own s.nx))),true⟩}
   |_=>False
  |_=>False
 |none=>False
theorem lN {P:Program}{w:World}{t:TypeId}{i:TypeInfo}(hi:P.info? t=some i){g o:Nat}{cur:Array Value}{e:TypeId}(hg:w.heap[g]? =some (.cells cur e (0,0)))(v:Value)(hv:v.cells.size=i.size)
  (hfit:o+i.size≤cur.size) (h1:∀u∈v.cells.toList,u.oneCell'=true):
  (storeVar t ⟨g,o,none⟩ v).run P w= .ok () (w.setRow g (cur.toList.take o++v.cells.toList++cur.toList.drop (o+i.size)).toArray):=by
 have hst:=run_storeCells_at P g o e v.cells.toList 0 cur w hg (by simp;omega) h1;simp only[Nat.add_zero,Array.length_toList,hv]at hst;simp only[storeVar,Sem.run_bind,run_sizeOf hi,Result.andThen_ok,hv,ne_eq,not_true_eq_false,↓reduceIte,Sem.run_ite,Sem.run_pure,hst]
theorem kH (cur:List Value)(o:Nat)(us:List Value)(h:o+us.length≤cur.length)(j:Nat):
  (cur.take o++us++cur.drop (o+us.length))[j]? =if o≤j∧j<o+us.length then us[j-o]? else cur[j]? :=by
 rw[List.append_assoc,List.getElem?_append,List.getElem?_append,X5]
 by_cases h1:j<o
 ·rw[if_pos (by omega),if_neg (by omega),List.getElem?_take,if_pos h1]
 rw[if_neg (by omega)]
 by_cases h2:j<o+us.length
 ·rw[if_pos (by omega),if_pos (by omega)];congr 1;omega
 rw[if_neg (by omega),if_neg (by omega),List.getElem?_drop];congr 1;omega
theorem b5.sZ {ρ:Nat→Loc}{dom ok:Nat→Prop}{w:World}:∀{cs:List C} {vs:List Value},b5 ρ dom ok w cs vs→∀u∈vs,u.oneCell'=true
 |[],[],_,u,hu=>by simp at hu
 |_::cs,_::vs,h,u,hu=>by
  rcases List.mem_cons.1 hu with rfl|hu
  ·exact(aW.plain h.1).1
  exact b5.sZ h.2 u hu
 |[],_::_,h,_,_=>h.elim
 |_::_,[],h,_,_=>h.elim
section
variable {P:Program}{T:fP}(hT:fg P T){o:Oper}{s:St}{K:St→Prop}
include hT in
theorem MI {t:TypeId}{x y:Operand}(ho:o.op= .store t x y)(hd:o.dst=none)(h:uO T s t x y K):nN P o s K:=by
 intro G a w hsim Q next hk;obtain⟨ρ,hs⟩:=hsim;have hevx:=hs.ev x;have hevy:=hs.ev y;have hrun:∀(g off:Nat) (w':World),a.eval x= .pointer (some ⟨g,off,none⟩)→(storeVar t ⟨g,off,none⟩ (a.eval y)).run P w= .ok () w'→next a w'→o.wp P a w next Q:=by
  intro g off w' he hr hn;unfold Oper.wp execOp;rw[ho];simp only[Instr.storeAt,he,Instr.sureAddr,Sem.run_bind,Sem.run_pure,Result.andThen_ok,hr,Oper.upon_skip,hd];exact hn
 unfold uO at h
 cases hTt:T t with
 |none=>rw[hTt]at h;exact h.elim
 |some E=>
  rw[hTt]at h;simp only at h;obtain⟨i,d,z,hi,hu,_,hkk,hsz,_⟩:=bI hT hTt
  split at h
  ·rename_i b off hx
   rw[hx]at hevx;obtain⟨_,g,o',haddr,hval⟩:=hevx
   split at h
   ·rename_i cs rw_ hl
    obtain⟨rfl,hpos,hsol,hlen,hle,hK⟩:=h;obtain⟨_,_,hrep,_⟩:=hs.own b _ hl;unfold aT at hrep;rw[haddr]at hrep;obtain⟨cur,e,hg,hc⟩:=hrep;simp only at hc;have hcells:=cd.cells hevy hsol;have hvs:(a.eval y).cells.size=i.size:=by have:=b5.length hcells;simp only[Array.length_toList]at this;omega
    have hfit:o'+off+i.size≤cur.size:=by
     obtain⟨u,hu',_⟩:=hc (off+i.size-1) cs[off+i.size-1] (by simp only[Bk.cell];exact X8 (by omega))
     have:=(Array.getElem?_eq_some_iff.1 hu').1
     omega
    refine hrun g _ _ hval (lN hi hg _ hvs hfit (b5.sZ hcells)) (hk _ _ _ hK ⟨ρ,?_⟩);have hvl:(a.eval y).cells.toList.length=i.size:=by simpa using hvs
    refine hs.write hl haddr hg (by simp[hvs];omega) (.var (lj cs off (cellsOf (s.ev y)))) rfl fun j c hj=>?_;simp only[Bk.cell]at hj;rw[tH _ _ _ (by omega)]at hj;have hlg:=kH cur.toList (o'+off) (a.eval y).cells.toList (by simp only[Array.length_toList]at hvl⊢;omega) (o'+j);rw[hvl]at hlg;simp only[List.getElem?_toArray,hlg]
    by_cases hm:off≤j∧j<off+(cellsOf (s.ev y)).length
    ·rw[if_pos hm]at hj;rw[if_pos (by omega),show o'+j-(o'+off)=j-off by omega];exact b5.get hcells _ _ hj
    rw[if_neg hm]at hj;rw[if_neg (by omega),Array.getElem?_toList];exact hc j c hj
   exact h.elim
  ·rename_i b wd ix off hx
   rw[hx]at hevx;obtain⟨_,hix,g,o',haddr,hval⟩:=hevx
   split at h
   ·rename_i e k xs rw_ hl
    split at h
    ·rename_i k' n hy
     obtain⟨rfl,rfl,rfl,hE1,rfl,hK⟩:=h;obtain⟨_,hlenρ,hrep,_⟩:=hs.own b _ hl;unfold aT at hrep;rw[haddr]at hrep;obtain⟨cur,e',hg,hc⟩:=hrep;simp only at hc;rw[hlenρ]at hix;simp only[Bk.len]at hix;rw[hy]at hevy;have hyv:a.eval y= .int k' n:=hevy;have hfit:o'+(ix*1+0)+i.size≤cur.size:=by
      obtain⟨u,hu',_⟩:=hc ix (.int k' (xs.getD ix 0)) (by simp[Bk.cell,X8 hix])
      have:=(Array.getElem?_eq_some_iff.1 hu').1
      omega
     have hvs:(a.eval y).cells.size=i.size:=by rw[hyv,←hsz,hE1];rfl
     have hvl:(a.eval y).cells.toList.length=i.size:=by simpa using hvs
     refine hrun g _ _ hval (lN hi hg _ hvs hfit (by rw[hyv];simp[Value.cells,Value.oneCell'])) (hk _ _ _ hK ⟨ρ,?_⟩);refine hs.write hl haddr hg (by simp[hvs];omega) (.ints e k' (xs.set ix n)) (by simp[Bk.len]) fun j c hj=>?_;have hlg:=kH cur.toList (o'+(ix*1+0)) (a.eval y).cells.toList (by simp only[Array.length_toList]at hvl⊢;omega) (o'+j);rw[hvl]at hlg;simp only[List.getElem?_toArray,hlg];simp only[Bk.cell,List.getElem?_set]at hj
     by_cases hm:j=ix
     ·subst hm;rw[if_pos (by omega),hyv];rw[if_pos rfl,if_pos hix]at hj;simp only[Option.map_some,Option.some.injEq]at hj;subst hj;exact⟨.int k' n,by simp[Value.cells],rfl⟩
     rw[if_neg (by omega),Array.getElem?_toList];rw[if_neg (fun e=>hm e.symm)]at hj;exact hc j c hj
    exact h.elim
   ·rename_i e wd' n f rw_ hl
    obtain⟨rfl,rfl,hpos,hsol,hlen,hle,hnid,hK⟩:=h;obtain⟨_,hlenρ,hrep,_⟩:=hs.own b _ hl;unfold aT at hrep;rw[haddr]at hrep;obtain⟨cur,e',hg,hc⟩:=hrep;simp only at hc;rw[hlenρ]at hix;simp only[Bk.len]at hix;have hcells:=cd.cells hevy hsol;have hvs:(a.eval y).cells.size=i.size:=by have:=b5.length hcells;simp only[Array.length_toList]at this;omega
    have hvl:(a.eval y).cells.toList.length=i.size:=by simpa using hvs
    have hrow:∀j,j<wd→ix*wd+j<n*wd:=fun j hj=>by
     have:(ix+1)*wd≤n*wd:=Nat.mul_le_mul_right _ hix
     rw[Nat.add_mul]at this;omega
    have hfit:o'+(ix*wd+off)+i.size≤cur.size:=by
     have hlt:=hrow (off+i.size-1) (by omega);obtain⟨u,hu',_⟩:=hc (ix*wd+(off+i.size-1)) (f ((ix*wd+(off+i.size-1))/wd) ((ix*wd+(off+i.size-1))%wd)) (by simp only[Bk.cell,if_pos hlt])
     have:=(Array.getElem?_eq_some_iff.1 hu').1
     omega
    have hids:∀x:V,(cellsOf x).flatMap jK=ij x:=fun x=>by cases x<;>simp [cellsOf,ij]
    have hview:=ra hs (rJ.refl s s.nx o) (ij (s.ev y)) (cellsOf (s.ev y)) _ (fun b hb _=>by rw[hids]at hb;exact hb) hcells;have h1:=hs.fh (ij (s.ev y));have hl1:lo (fh s.own (ij (s.ev y))) b=some ⟨.rows e wd n f,true⟩:=by
     rw[iC,hl];simp only[Option.map_some,hnid,Bool.false_eq_true,↓reduceIte]
    rw[xZ]at hK;refine hrun g _ _ hval (lN hi hg _ hvs hfit (b5.sZ hcells)) (hk _ _ _ hK ⟨ρ,?_⟩);refine h1.write hl1 haddr hg (by simp[hvs];omega) (.rows e wd n (dE f ix off ((cellsOf (s.ev y)).map (oR s.own s.nx)))) rfl fun j c hj=>?_;have hlg:=kH cur.toList (o'+(ix*wd+off)) (a.eval y).cells.toList (by simp only[Array.length_toList]at hvl⊢;omega) (o'+j);rw[hvl]at hlg;simp only[List.getElem?_toArray,hlg];simp only[Bk.cell]at hj
    split at hj
    ·rename_i hjn
     simp only[Option.some.injEq,dE,List.length_map]at hj;have hwd:0<wd:=by omega
     have hdm:j/wd*wd+j%wd=j:=by rw[Nat.mul_comm];exact Nat.div_add_mod j wd
     have hml:j%wd<wd:=Nat.mod_lt _ hwd
     by_cases hm:ix*wd+off≤j∧j<ix*wd+off+i.size
     ·have hjd:j/wd=ix:=by
       rw[Nat.div_eq_iff hwd]
       constructor
       ·omega
       omega
      have hjm:j%wd=j-ix*wd:=by rw[hjd]at hdm;omega
      rw[if_pos hjd,hjm,if_pos (by omega),if_pos (by omega)]at hj;rw[if_pos (by omega),show o'+j-(o'+(ix*wd+off))=j-ix*wd-off by omega];have hq:j-ix*wd-off<(cellsOf (s.ev y)).length:=by omega
      have hgl:((cellsOf (s.ev y)).map (oR s.own s.nx))[j-ix*wd-off]? =some c:=by
       rw[←hj,X7];rw[X8 (by simpa using hq)];rfl
      obtain⟨u,hu',hr⟩:=b5.get hview _ _ hgl;exact⟨u,hu',aM.ext (Ext.dG fun g' hg'=>vL hs _ hg') _ _ (aM.dI hr)⟩
     rw[if_neg (by omega),Array.getElem?_toList];have hfc:f (j/wd) (j%wd)=c:=by
      by_cases hjd:j/wd=ix
      ·rw[if_pos hjd]at hj;have hjm:j%wd=j-ix*wd:=by rw[hjd]at hdm;omega
       have hge:ix*wd≤j:=by rw[hjd]at hdm;omega
       by_cases h2:off≤j%wd
       ·rw[if_pos h2,if_neg (by omega)]at hj;exact hj
       rw[if_neg h2]at hj;exact hj
      rw[if_neg hjd]at hj;exact hj
     obtain⟨u,hu',hr⟩:=hc j c (by simp only[Bk.cell,if_pos hjn,hfc]);exact⟨u,hu',aM.ext (Ext.dG fun g' hg'=>lW hg') _ _ hr⟩
    cases hj
   exact h.elim
  exact h.elim
end
end Go.Eng
/-
  THE ENGINE, PART N: append.
-/
namespace Go.Eng
open Go
def pY (w:World)(a:Option Addr)(us:List Value):Prop:=us=[]∨∃ad,a=some ad∧∀(j:Nat) u,us[j]? =some u→w.cell? (ad.add j)=some u
theorem eN {P:Program}{w:World}(size n:Nat)(a:Option Addr)(len cap:Nat)(us:List Value)(hl:us.length=n*size)(h:pY w a us):
  (Builtin.firstCells size n (.slice a len cap)).run P w= .ok us.toArray w:=by
 rcases h with rfl|⟨ad,rfl,h⟩
 ·cases a with
  |none=>simp[Builtin.firstCells]
  |some ad=>
   simp only[Builtin.firstCells];rw[←hl];exact j9 ad [] (fun j u hj=>by simp at hj)
 exact run_firstCells_some w size n ad len cap us hl h
structure Cells (ok:Nat→Prop) (w:World) (wd n:Nat) (f:Nat→Nat→C) (a:Option Addr) (us:List Value):Prop where
 len:us.length=n*wd
 at_:pY w a us
 one:∀u∈us,u.oneCell'=true
 rep:∀i j,i<n→j<wd→∃u,us[i*wd+j]? =some u∧aM ok w (f i j) u
theorem uQ {ok:Nat→Prop}{w:World}{wd n g o:Nat}{f:Nat→Nat→C}(h:∀i j,i<n→j<wd→∃u,w.cell? ⟨g,o+(i*wd+j),none⟩=some u∧aM ok w (f i j) u):
  ∃us,Cells ok w wd n f (some ⟨g,o,none⟩) us:=by
 refine⟨(List.range (n*wd)).map (fun t=>(w.cell? ⟨g,o+t,none⟩).getD undef),?_⟩;have key:∀t,t<n*wd→∃u,w.cell? ⟨g,o+t,none⟩=some u∧aM ok w (f (t/wd) (t%wd)) u:=by
  intro t ht
  have hwd:0<wd:=by rcases Nat.eq_zero_or_pos wd with h0|h0;(subst h0;simp at ht);exact h0
  have h1:t/wd<n:=by rw[Nat.div_lt_iff_lt_mul hwd];exact ht
  obtain⟨u,hu,hr⟩:=h (t/wd) (t%wd) h1 (Nat.mod_lt _ hwd)
  have:t/wd*wd+t%wd=t:=by rw[Nat.mul_comm];exact Nat.div_add_mod t wd
  rw[this]at hu;exact⟨u,hu,hr⟩
 refine⟨by simp,.inr ⟨_,rfl,fun j u hj=>?_⟩,fun u hu=>?_,fun i j hi hj=>?_⟩
 ·simp only[List.getElem?_map]at hj;obtain⟨t,ht,he⟩:=Option.map_eq_some_iff.1 hj;obtain⟨hlt,rfl⟩:j<n*wd∧j=t:=by
   have:=List.getElem?_eq_some_iff.1 ht
   obtain⟨h1,h2⟩:=this;simp at h1 h2;exact⟨h1,h2⟩
  obtain⟨u',hu',_⟩:=key j hlt;rw[fV,hu'];rw[hu']at he
  simpa using he
 ·obtain⟨t,ht,he⟩:=List.mem_map.1 hu;obtain⟨u',hu',hr⟩:=key t (by simpa using ht);rw[hu']at he;simp only[Option.getD_some]at he;subst he;exact(aM.plain hr).1
 obtain⟨u,hu,hr⟩:=h i j hi hj;have hlt:i*wd+j<n*wd:=by
  have:(i+1)*wd≤n*wd:=Nat.mul_le_mul_right _ hi
  rw[Nat.add_mul]at this;omega
 exact⟨u,by simp[hlt,hu],hr⟩
theorem jb {ok:Nat→Prop}{w:World}{wd:Nat}{f:Nat→Nat→C}{a:Option Addr}:Cells ok w wd 0 f a []:=
 ⟨by simp,.inl rfl,fun u hu=>by simp at hu,fun i j hi=>absurd hi (Nat.not_lt_zero _)⟩
def iI (k:IntKind):C→Option (List Int)
 |.nil=>some []
 |.ints k' xs=>if k'=k then some xs else none
 |_=>none
theorem pZ {ok:Nat→Prop}{w:World}{c:C}{v:Value}(h:aM ok w c v):
  (∀k xs,iI k c=some xs→∃a cap us,v= .slice a xs.length cap∧Cells ok w 1 xs.length (fun i _=>.int k (xs.getD i 0)) a us)∧
  (∀wd n f,(match c with|.nil=>n=0|.rows w' n' f'=>w'=wd∧n'=n∧f'=f|_=>False)→∃a cap us,v= .slice a n cap∧Cells ok w wd n f a us):=by
 constructor
 ·intro k xs hx
  cases c with
  |nil=>
   simp only[iI,Option.some.injEq]at hx;subst hx;exact⟨none,0,[],h,jb⟩
  |ints k' ys=>
   simp only[iI]at hx
   split at hx
   ·rename_i hk
    simp only[Option.some.injEq]at hx;subst hx;subst hk;obtain⟨a,cap,rfl,_,hr⟩:=h
    rcases hr with hr|⟨g,o,rfl,_,hcs⟩
    ·refine⟨a,cap,[],rfl,?_⟩;rw[hr];exact jb
    obtain⟨us,hus⟩:=uQ (ok:=ok) (wd:=1) (n:=ys.length) (f:=fun i _=>.int k' (ys.getD i 0)) (fun i j hi hj=>⟨_,by rw[show i*1+j=i by omega];exact hcs i hi,rfl⟩);exact⟨_,cap,us,rfl,hus⟩
   cases hx
  |_=>simp[iI]at hx
 intro wd n f hm
 cases c with
 |nil=>
  simp only at hm;subst hm;exact⟨none,0,[],h,jb⟩
 |rows w' n' f'=>
  simp only at hm;obtain⟨rfl,rfl,rfl⟩:=hm;obtain⟨a,cap,rfl,_,hr⟩:=h
  rcases hr with hr|⟨g,o,rfl,_,hcs⟩
  ·refine⟨a,cap,[],rfl,?_⟩;rw[hr];exact jb
  obtain⟨us,hus⟩:=uQ hcs;exact⟨_,cap,us,rfl,hus⟩
 |_=>exact hm.elim
theorem tY {P:Program}{w:World}{t ty e:TypeId}{i:TypeInfo}{z:Value}(ht:P.underlying t=some (.slice e))(hi:P.info? e=some i)(hz:i.zero=some z)
  (b:Option Addr) (sLen qV:Nat) (olds:List Value) (hlo:olds.length=sLen*i.size) (holds:pY w b olds)
  (a:Option Addr) (n c:Nat) (news:List Value) (hl:news.length=n*i.size) (hnews:pY w a news)
  (hg:qV<sLen+n) (hb:(sLen+n)*i.bytes≤140737488355328) (h63:sLen+n≤9223372036854775807):
  (Builtin.append_ #[t,t] ty #[.slice b sLen qV,.slice a n c]).run P w=
   .ok (.slice (some ⟨w.heap.size,0,none⟩) (sLen+n) (grownCap w (sLen+n) qV e))
    (w.drew.alloc (.cells (olds.toArray++news.toArray++Builtin.zeroCells z.cells (grownCap w (sLen+n) qV e-(sLen+n))) e)):=by
 have hn:¬(sLen+n≤qV):=by omega
 have h63':¬(9223372036854775807<((sLen:Int)+(n:Int))):=by omega
 have hfit:=growslice_fits hg hb;have h48':¬(281474976710656<Builtin.nextslicecap (sLen+n) qV*i.bytes):=by omega
 have hf:=eN (P:=P) (w:=w.drew) i.size n a n c news hl hnews;have hfo:=eN (P:=P) (w:=w.drew) i.size sLen b sLen qV olds hlo holds
 simp[Builtin.append_,Go.run_underlying ht,sizeOf,typeInfo,zeroValue,hi,hz,Builtin.lenOf,hn,h63',h48',Question.forced,hf,hfo,newRow,grownCap]
 congr 2
 apply Array.ext'
 simp[List.append_assoc]
theorem r8 {P:Program}{w:World}{t ty e:TypeId}{i:TypeInfo}(ht:P.underlying t=some (.slice e))(hi:P.info? e=some i)
  (g o sLen qV:Nat) {cur:Array Value} {e':TypeId} (hg:w.heap[g]? =some (.cells cur e' (0,0)))
  (a:Option Addr) (n c:Nat) (news:List Value) (hl:news.length=n*i.size) (hnews:pY w a news) (h1:∀u∈news,u.oneCell'=true)
  (hroom:sLen+n≤qV) (hfit:o+sLen*i.size+news.length≤cur.size):
  (Builtin.append_ #[t,t] ty #[.slice (some ⟨g,o,none⟩) sLen qV,.slice a n c]).run P w=
   .ok (.slice (some ⟨g,o,none⟩) (sLen+n) qV) (w.setRow g (cur.toList.take (o+sLen*i.size)++news++cur.toList.drop (o+sLen*i.size+news.length)).toArray):=by
 have hf:=eN (P:=P) (w:=w) i.size n a n c news hl hnews;have hst:=run_storeCells_at P g (o+sLen*i.size) e' news 0 cur w hg (by simpa using hfit) h1;simp only[Nat.add_zero]at hst
 simp[Builtin.append_,Go.run_underlying ht,sizeOf,typeInfo,hi,Builtin.lenOf,hroom,hf,fV,hst]
theorem lO {P:Program}{w:World}{t ty e:TypeId}{i:TypeInfo}(ht:P.underlying t=some (.slice e))(hi:P.info? e=some i)(a:Option Addr)(c:Nat):
  (Builtin.append_ #[t,t] ty #[.slice none 0 0,.slice a 0 c]).run P w= .ok (.slice none 0 0) w:=by
 have hf:=eN (P:=P) (w:=w) i.size 0 a 0 c [] (by simp) (.inl rfl)
 simp[Builtin.append_,Go.run_underlying ht,sizeOf,typeInfo,hi,Builtin.lenOf,hf]
end Go.Eng
