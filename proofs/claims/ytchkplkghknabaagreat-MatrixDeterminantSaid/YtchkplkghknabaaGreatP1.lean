/-
  MatrixDeterminant: for every input the law returns true, and each argument reads afterwards as it read before. No condition beyond the given row's own cells.
  (Text 1 of 9; made by a program out of smaller texts.)
-/
import Derived.WalkKit
import Derived.Deep.LoopGhost
import Derived.Laws.BytesArg
set_option linter.unusedSimpArgs false
set_option linter.unusedVariables false
set_option maxHeartbeats 16000000
set_option maxRecDepth 10000
open Nat renaming reduceAdd→J1,reduceMul→J2,reduceSub→J3,reduceEqDiff→J4,reduceLT→J5,reduceLeDiff→J6,reduceBEq→J7,reduceDiv→J8,reduceMod→J9,reducePow→J0
open Int renaming reduceToNat→K1,reduceLE→K2,reduceLT→K3,reduceEq→K4,reducePow→K5,reduceSub→K6,reduceNeg→K7,natCast_add→X2,natCast_one→X3,natCast_zero→X4
open List renaming getD_cons_zero→X0,getD_cons_succ→X1,length_take→X5,length_append→X6,getD_eq_getElem?_getD→X7,getElem?_eq_getElem→X8
namespace Go.Eng
open Go
inductive C where
 |any
 |bool (b:Bool)
 |int (k:IntKind) (n:Int)
 |str (s:ByteArray)
 |nil
 |ints (k:IntKind) (xs:List Int)
 |rows (w n:Nat) (f:Nat→Nat→C)
 |own (b w off len:Nat)
 |win (b b2 off len:Nat)
 |ptr (b off:Nat)
 |elt (s:C) (w i off:Nat)
 |eptr (b w i off:Nat)
 |fn (f:FuncId) (n:Nat) (caps:Nat→C)
instance:Inhabited C:=⟨.any⟩
inductive V where
 |unk
 |one (c:C)
 |agg (cs:List C)
 |aB (vs:List V)
instance:Inhabited V:=⟨.unk⟩
inductive Bk where
 |var (cs:List C)
 |ints (e:TypeId) (k:IntKind) (xs:List Int)
 |rows (e:TypeId) (w n:Nat) (f:Nat→Nat→C)
 |wins (e:TypeId) (b2 n:Nat) (g:Nat→C)
def Bk.len:Bk→Nat
 |.var _=>1
 |.ints _ _ xs=>xs.length
 |.rows _ _ n _=>n
 |.wins _ _ n _=>n
def Bk.cell:Bk→Nat→Option C
 |.var cs,j=>cs[j]?
 |.ints _ k xs,j=>(xs[j]?).map (.int k)
 |.rows _ w n f,j=>if j<n*w then some (f (j/w) (j%w))else none
 |.wins _ _ n g,j=>if j<n then some (g j)else none
structure fA where
 bk:Bk
 rw:Bool
structure St where
 env:List (Nat×V)
 own:List (Nat×fA)
 nx:Nat
 n:Nat
def lk:List (Nat×V)→Nat→V
 |[],_=>.unk
 |(t',v)::r,t=>if t=t' then v else lk r t
def lo:List (Nat×fA)→Nat→Option fA
 |[],_=>none
 |(b',v)::r,b=>if b=b' then some v else lo r b
def eD:List (Nat×fA)→Nat→fA→List (Nat×fA)
 |[],b,B=>[(b,B)]
 |(b',v)::r,b,B=>if b=b' then(b',B)::r else(b',v)::eD r b B
def del:List (Nat×fA)→Nat→List (Nat×fA)
 |[],_=>[]
 |(b',v)::r,b=>if b=b' then del r b else(b',v)::del r b
def dJ:List (Nat×fA)→List Nat→List (Nat×fA)
 |[],_=>[]
 |(b',v)::r,l=>(b',if l.contains b' then⟨v.bk,false⟩else v)::dJ r l
theorem b7 (l:List (Nat×fA))(b b':Nat)(B:fA):lo (eD l b B) b'=if b'=b then some B else lo l b':=by
 induction l with
 |nil=>simp only[eD,lo]
 |cons x r ih=>
  obtain⟨c,v⟩:=x;simp only[eD]
  split
  ·rename_i h;subst h;simp only[lo];split<;>rfl
  rename_i h
  simp only[lo,ih]
  by_cases h1:b'=c
  ·subst h1;rw[if_pos rfl,if_neg (fun e=>h e.symm),if_pos rfl]
  rw[if_neg h1,if_neg h1]
theorem j5 (l:List (Nat×fA))(b b':Nat):lo (del l b) b'=if b'=b then none else lo l b':=by
 induction l with
 |nil=>simp only[del,lo];split<;>rfl
 |cons x r ih=>
  obtain⟨c,v⟩:=x;simp only[del]
  split
  ·rename_i h;subst h;rw[ih];simp only[lo];split<;>rfl
  rename_i h
  simp only[lo,ih]
  by_cases h1:b'=c
  ·subst h1;rw[if_pos rfl,if_neg (fun e=>h e.symm),if_pos rfl]
  rw[if_neg h1,if_neg h1]
theorem fy (l:List (Nat×fA))(fs:List Nat)(b:Nat):lo (dJ l fs) b=(lo l b).map fun v=>if fs.contains b then⟨v.bk,false⟩else v:=by
 induction l with
 |nil=>rfl
 |cons x r ih=>
  obtain⟨c,v⟩:=x;simp only[dJ,lo]
  split
  ·rename_i h;subst h;rfl
  exact ih
def bZ (w:World)(g:Nat):Nat:=
 match w.heap[g]? with
 |some (.cells c _ _)=>c.size
 |_=>0
def aP (ok:Nat→Prop)(w:World):C→Value→Prop
 |.any,v=>v.oneCell'=true
 |.bool b,v=>v= .bool b
 |.int k n,v=>v= .int k n
 |.str s,v=>v= .string s
 |.nil,v=>v= .slice none 0 0
 |.ints k xs,v=>∃a cap,v= .slice a xs.length cap∧xs.length≤cap∧(xs.length=0∨∃g o,a=some ⟨g,o,none⟩∧ok g∧∀i,i<xs.length→w.cell? ⟨g,o+i,none⟩=some (.int k (xs.getD i 0)))
 |.rows wd n f,v=>∃a cap,v= .slice a n cap∧n≤cap∧(n=0∨∃g o,a=some ⟨g,o,none⟩∧ok g∧∀i j,i<n→j<wd→∃u,w.cell? ⟨g,o+(i*wd+j),none⟩=some u∧aP ok w (f i j) u)
 |.elt s wd i off,v=>∃g o n cap,aP ok w s (.slice (some ⟨g,o,none⟩) n cap)∧i<n∧v= .pointer (some ⟨g,o+(i*wd+off),none⟩)
 |.fn f n caps,v=>∃cs:Array Value,v= .func (.func f) #[] cs∧cs.size=n∧∀i,i<n→aP ok w (caps i) (cs.getD i undef)
 |.own ..,_=>False
 |.win ..,_=>False
 |.ptr ..,_=>False
 |.eptr ..,_=>False
structure Loc where
 addr:Option (Nat×Nat)
 len:Nat
def eE (ρ:Nat→Loc)(dom ok:Nat→Prop)(w:World)(c:C)(v:Value):Prop:=
 match c with
 |.own b wd off len=>dom b∧off+len≤(ρ b).len∧∃cap,len≤cap∧
   (
    (∃g o o',(ρ b).addr=some (g,o)∧v= .slice (some ⟨g,o',none⟩) len cap∧(cap=0∨o'=o+off*wd)∧o+(off+cap)*wd≤bZ w g)∨
    ((ρ b).addr=none∧v= .slice none 0 0∧len=0∧cap=0))
 |.win b b2 off len=>dom b2∧dom b∧off+len≤(ρ b).len∧∃cap,len≤cap∧
   (
    (∃g o o',(ρ b).addr=some (g,o)∧v= .slice (some ⟨g,o',none⟩) len cap∧(cap=0∨o'=o+off*1)∧o+(off+cap)*1≤bZ w g)∨
    ((ρ b).addr=none∧v= .slice none 0 0∧len=0∧cap=0))
 |.ptr b off=>dom b∧∃g o,(ρ b).addr=some (g,o)∧v= .pointer (some ⟨g,o+off,none⟩)
 |.eptr b wd i off=>dom b∧i<(ρ b).len∧∃g o,(ρ b).addr=some (g,o)∧v= .pointer (some ⟨g,o+(i*wd+off),none⟩)
 |c=>aP ok w c v
def aC (ρ:Nat→Loc)(dom ok:Nat→Prop)(w:World)(c:C)(v:Value):Prop:=
 match c with
 |.fn f n caps=>∃cs:Array Value,v= .func (.func f) #[] cs∧cs.size=n∧∀i,i<n→eE ρ dom ok w (caps i) (cs.getD i undef)
 |c=>eE ρ dom ok w c v
def bG (ρ:Nat→Loc)(dom ok:Nat→Prop)(w:World):List C→List Value→Prop
 |[],[]=>True
 |c::cs,v::vs=>aC ρ dom ok w c v∧bG ρ dom ok w cs vs
 |_,_=>False
def dM (ρ:Nat→Loc)(dom ok:Nat→Prop)(w:World):V→Value→Prop
 |.unk,_=>True
 |.one c,v=>aC ρ dom ok w c v
 |.agg cs,v=>∃vs:Array Value,v= .agg vs∧bG ρ dom ok w cs vs.toList
 |.aB _,_=>False
def a7 (ρ:Nat→Loc)(dom ok:Nat→Prop)(w:World):List V→List Value→Prop
 |[],[]=>True
 |c::cs,v::vs=>dM ρ dom ok w c v∧a7 ρ dom ok w cs vs
 |_,_=>False
def b6 (ρ:Nat→Loc)(dom ok:Nat→Prop)(w:World):V→Value→Prop
 |.aB xs,v=>∃vs:Array Value,v= .tuple vs∧a7 ρ dom ok w xs vs.toList
 |x,v=>dM ρ dom ok w x v
def aL (ρ:Nat→Loc)(dom ok:Nat→Prop)(w:World)(l:Loc)(B:Bk):Prop:=
 match l.addr with
 |some (g,o)=>∃cur e,w.heap[g]? =some (.cells cur e (0,0))∧∀j c,B.cell j=some c→∃u,cur[o+j]? =some u∧
   (match B with|.var _=>aC ρ dom ok w c u|.wins .. =>aC ρ dom ok w c u|_=>aP ok w c u)
 |none=>∀j,B.cell j=none
structure Ctx where
 W0:World
 forb:Nat→Prop
 mine:Nat→Prop
 home:Option Loc:=none
def aG (G:Ctx)(own:List (Nat×fA))(ρ:Nat→Loc)(w:World)(g:Nat):Prop:=
 g<w.heap.size∧¬G.forb g∧∀b B,lo own b=some B→B.rw=true→∀o,(ρ b).addr≠some (g,o)
structure aR (G:Ctx) (dom:Nat→Prop) (ρ:Nat→Loc) (s:St) (a:Act) (w:World):Prop where
 hd:a.defers=[]
 hn:a.tmps.size=s.n
 env:∀t,b6 ρ dom (aG G s.own ρ w) w (lk s.env t) (a.tmps.getD t undef)
 own:∀b B,lo s.own b=some B→dom b∧(ρ b).len=B.bk.len∧aL ρ dom (aG G s.own ρ w) w (ρ b) B.bk∧
  ∀g o,(ρ b).addr=some (g,o)→g<w.heap.size∧¬G.forb g∧(G.W0.heap.size≤g∨G.mine g)
 inj:∀b B b' B',lo s.own b=some B→lo s.own b'=some B'→b≠b'→B.rw=true→∀g o o',(ρ b).addr=some (g,o)→(ρ b').addr≠some (g,o')
 os:w.os=G.W0.os
 tape:w.tape=G.W0.tape
 output:w.output=G.W0.output
 size:G.W0.heap.size≤w.heap.size
 keep:∀k,k<G.W0.heap.size→¬G.mine k→w.heap[k]? =G.W0.heap[k]?
 wf:∀k,G.forb k→k<G.W0.heap.size
 home:∀l,G.home=some l→dom 0∧ρ 0=l
 room:∀g,bZ G.W0 g≤bZ w g
def uU (G:Ctx)(dom:Nat→Prop)(s:St)(a:Act)(w:World):Prop:=∃ρ,aR G dom ρ s a w
def ot (G:Ctx)(s:St)(a:Act)(w:World):Prop:=uU G (fun b=>b<s.nx) s a w
structure Ext (ok ok':Nat→Prop) (w w':World):Prop where
 block:∀g,ok g→ok' g∧w'.heap[g]? =w.heap[g]?
 room:∀g,bZ w g≤bZ w' g
theorem Ext.refl (ok:Nat→Prop)(w:World):Ext ok ok w w:=⟨fun _ h=>⟨h,rfl⟩,fun _=>Nat.le_refl _⟩
theorem aP.ext {ok ok':Nat→Prop}{w w':World}(h:Ext ok ok' w w'):∀(c:C) (v:Value),aP ok w c v→aP ok' w' c v:=by
 have hc:∀g o u,ok g→w.cell? ⟨g,o,none⟩=some u→w'.cell? ⟨g,o,none⟩=some u:=fun g o u hg hu=>by
  rw[World.cell?_of_block (w:=w) (h.block g hg).2];exact hu
 intro c
 induction c with
 |any=>intro v hv;exact hv
 |bool b=>intro v hv;exact hv
 |int k n=>intro v hv;exact hv
 |str s=>intro v hv;exact hv
 |nil=>intro v hv;exact hv
 |ints k xs=>
  rintro v ⟨a,cap,hv,hle,hr⟩;refine⟨a,cap,hv,hle,?_⟩
  rcases hr with hr|⟨g,o,ha,hg,Sc⟩
  ·exact .inl hr
  exact .inr ⟨g,o,ha,(h.block g hg).1,fun i hi=>hc _ _ _ hg (Sc i hi)⟩
 |rows wd n f ih=>
  rintro v ⟨a,cap,hv,hle,hr⟩;refine⟨a,cap,hv,hle,?_⟩
  rcases hr with hr|⟨g,o,ha,hg,Sc⟩
  ·exact .inl hr
  refine .inr ⟨g,o,ha,(h.block g hg).1,fun i j hi hj=>?_⟩;obtain⟨u,hu,hr⟩:=Sc i j hi hj;exact⟨u,hc _ _ _ hg hu,ih i j u hr⟩
 |own b wd off len=>intro v hv;exact hv.elim
 |win b b2 off len=>intro v hv;exact hv.elim
 |ptr b off=>intro v hv;exact hv.elim
 |elt s wd i off ih=>
  rintro v ⟨g,o,n,cap,hs,hi,hv⟩;exact⟨g,o,n,cap,ih _ hs,hi,hv⟩
 |eptr b wd i off=>intro v hv;exact hv.elim
 |fn f n caps ih=>
  rintro v ⟨cs,hv,hn,Sc⟩;exact⟨cs,hv,hn,fun i hi=>ih i _ (Sc i hi)⟩
structure hC (dm dm':Nat→Prop) (ρ ρ':Nat→Loc):Prop where
 dom:∀b,dm b→dm' b
 loc:∀b,dm b→ρ' b=ρ b
theorem eE.ext {ok ok' dom dom':Nat→Prop}{ρ ρ':Nat→Loc}{w w':World}(h:Ext ok ok' w w')(hs:hC dom dom' ρ ρ')(c:C)(v:Value)(hr:eE ρ dom ok w c v):eE ρ' dom' ok' w' c v:=by
 cases c with
 |own b wd off len=>
  obtain⟨hd,hl,cap,hc,hr⟩:=hr;refine⟨hs.dom _ hd,by rw[hs.loc _ hd];exact hl,cap,hc,?_⟩;rw[hs.loc _ hd]
  rcases hr with⟨g,o,o',ha,hv,ho,hz⟩|hr
  ·exact .inl ⟨g,o,o',ha,hv,ho,Nat.le_trans hz (h.room g)⟩
  exact .inr hr
 |win b b2 off len=>
  obtain⟨UR,hd,hl,cap,hc,hr⟩:=hr;refine⟨hs.dom _ UR,hs.dom _ hd,by rw[hs.loc _ hd];exact hl,cap,hc,?_⟩;rw[hs.loc _ hd]
  rcases hr with⟨g,o,o',ha,hv,ho,hz⟩|hr
  ·exact .inl ⟨g,o,o',ha,hv,ho,Nat.le_trans hz (h.room g)⟩
  exact .inr hr
 |ptr b off=>
  obtain⟨hd,hr⟩:=hr;exact⟨hs.dom _ hd,by rw[hs.loc _ hd];exact hr⟩
 |eptr b wd i off=>
  obtain⟨hd,hi,hr⟩:=hr;exact⟨hs.dom _ hd,by rw[hs.loc _ hd];exact hi,by rw[hs.loc _ hd];exact hr⟩
 |_=>exact aP.ext h _ v hr
theorem aC.ext {ok ok' dom dom':Nat→Prop}{ρ ρ':Nat→Loc}{w w':World}(h:Ext ok ok' w w')(hs:hC dom dom' ρ ρ')(c:C)(v:Value)(hr:aC ρ dom ok w c v):aC ρ' dom' ok' w' c v:=by
 cases c with
 |fn f n caps=>
  obtain⟨cs,hv,hn,Sc⟩:=hr;exact⟨cs,hv,hn,fun i hi=>eE.ext h hs _ _ (Sc i hi)⟩
 |any=>exact eE.ext h hs .any v hr
 |bool b=>exact eE.ext h hs (.bool b) v hr
 |int k n=>exact eE.ext h hs (.int k n) v hr
 |str s=>exact eE.ext h hs (.str s) v hr
 |nil=>exact eE.ext h hs .nil v hr
 |ints k xs=>exact eE.ext h hs (.ints k xs) v hr
 |rows wd n f=>exact eE.ext h hs (.rows wd n f) v hr
 |own b wd off len=>exact eE.ext h hs (.own b wd off len) v hr
 |win b b2 off len=>exact eE.ext h hs (.win b b2 off len) v hr
 |ptr b off=>exact eE.ext h hs (.ptr b off) v hr
 |elt s wd i off=>exact eE.ext h hs (.elt s wd i off) v hr
 |eptr b wd i off=>exact eE.ext h hs (.eptr b wd i off) v hr
theorem bG.ext {ok ok' dom dom':Nat→Prop}{ρ ρ':Nat→Loc}{w w':World}(h:Ext ok ok' w w')(hs:hC dom dom' ρ ρ'):∀(cs:List C) (vs:List Value),bG ρ dom ok w cs vs→bG ρ' dom' ok' w' cs vs
 |[],[],_=>trivial
 |_::cs,_::vs,hr=>⟨aC.ext h hs _ _ hr.1,bG.ext h hs cs vs hr.2⟩
 |[],_::_,hr=>hr.elim
 |_::_,[],hr=>hr.elim
theorem dM.ext {ok ok' dom dom':Nat→Prop}{ρ ρ':Nat→Loc}{w w':World}(h:Ext ok ok' w w')(hs:hC dom dom' ρ ρ')(x:V)(v:Value)(hr:dM ρ dom ok w x v):dM ρ' dom' ok' w' x v:=by
 cases x with
 |unk=>trivial
 |one c=>exact aC.ext h hs _ _ hr
 |agg cs=>obtain⟨vs,hv,hl⟩:=hr;exact⟨vs,hv,bG.ext h hs _ _ hl⟩
 |aB xs=>exact hr.elim
theorem a7.ext {ok ok' dom dom':Nat→Prop}{ρ ρ':Nat→Loc}{w w':World}(h:Ext ok ok' w w')(hs:hC dom dom' ρ ρ'):∀(cs:List V) (vs:List Value),a7 ρ dom ok w cs vs→a7 ρ' dom' ok' w' cs vs
 |[],[],_=>trivial
 |_::cs,_::vs,hr=>⟨dM.ext h hs _ _ hr.1,a7.ext h hs cs vs hr.2⟩
 |[],_::_,hr=>hr.elim
 |_::_,[],hr=>hr.elim
theorem b6.ext {ok ok' dom dom':Nat→Prop}{ρ ρ':Nat→Loc}{w w':World}(h:Ext ok ok' w w')(hs:hC dom dom' ρ ρ')(x:V)(v:Value)(hr:b6 ρ dom ok w x v):b6 ρ' dom' ok' w' x v:=by
 cases x with
 |unk=>trivial
 |one c=>exact dM.ext h hs (.one c) _ hr
 |agg cs=>exact dM.ext h hs (.agg cs) _ hr
 |aB xs=>obtain⟨vs,hv,hl⟩:=hr;exact⟨vs,hv,a7.ext h hs _ _ hl⟩
theorem aL.ext {ok ok' dom dom':Nat→Prop}{ρ ρ':Nat→Loc}{w w':World}(h:Ext ok ok' w w')(hs:hC dom dom' ρ ρ')(l:Loc)(B:Bk)
  (hb:∀g o,l.addr=some (g,o)→w'.heap[g]? =w.heap[g]?) (hr:aL ρ dom ok w l B):aL ρ' dom' ok' w' l B:=by
 unfold aL at*
 cases ha:l.addr with
 |none=>rw[ha]at hr;exact hr
 |some x=>
  obtain⟨g,o⟩:=x;rw[ha]at hr;obtain⟨cur,e,hg,hc⟩:=hr;refine⟨cur,e,by rw[hb g o ha];exact hg,fun j c hj=>?_⟩;obtain⟨u,hu,hr⟩:=hc j c hj;refine⟨u,hu,?_⟩
  cases B with
  |var cs=>exact aC.ext h hs _ _ hr
  |ints e k xs=>exact aP.ext h _ _ hr
  |rows e wd n f=>exact aP.ext h _ _ hr
  |wins e b2 n g=>exact aC.ext h hs _ _ hr
end Go.Eng
namespace Go.Eng
open Go
theorem Da (r:List (Nat×V))(t':Nat)(v:V)(t:Nat):lk ((t',v)::r) t=if t=t' then v else lk r t:=rfl
def St.put (s:St)(dst:Option Tmp)(v:V):St:=
 match dst with
 |some d=>{s with env:=(d,v)::s.env}
 |none=>s
theorem aR.put {G:Ctx}{dom:Nat→Prop}{ρ:Nat→Loc}{s:St}{a:Act}{w:World}(h:aR G dom ρ s a w){dst:Option Tmp}{x:V}{v:Value}
  (hd:∀d,dst=some d→d<s.n) (hv:b6 ρ dom (aG G s.own ρ w) w x v):aR G dom ρ (s.put dst x) (a.put dst v) w:=by
 cases dst with
 |none=>exact h
 |some d=>
  have RE:=hd d rfl
  refine{hd:=h.hd,hn:=by simpa[Act.put,St.put]using h.hn,env:=fun t=>?_,own:=h.own,inj:=h.inj,os:=h.os,tape:=h.tape,output:=h.output,size:=h.size,keep:=h.keep,wf:=h.wf,home:=h.home,room:=h.room}
  show b6 ρ dom _ w (lk ((d,x)::s.env) t) ((a.tmps.setIfInBounds d v).getD t undef);rw[Da]
  by_cases ht:t=d
  ·subst ht;rw[if_pos rfl]
   have:(a.tmps.setIfInBounds t v).getD t undef=v:=by
    have hs:t<a.tmps.size:=by rw[h.hn];exact RE
    simp[Array.getD,hs]
   rw[this];exact hv
  rw[if_neg ht]
  have:(a.tmps.setIfInBounds d v).getD t undef=a.tmps.getD t undef:=by
   simp only[Array.getD_eq_getD_getElem?];rw[Array.getElem?_setIfInBounds_ne (fun e=>ht e.symm)]
  rw[this];exact h.env t
theorem aR.rY {G:Ctx}{dom dom':Nat→Prop}{ρ ρ':Nat→Loc}{s:St}{a:Act}{w w':World}{own':List (Nat×fA)}(h:aR G dom ρ s a w)
  (hx:Ext (aG G s.own ρ w) (aG G own' ρ' w') w w') (hs:hC dom dom' ρ ρ')
  (Wm:∀b B,lo own' b=some B→dom' b∧(ρ' b).len=B.bk.len∧aL ρ' dom' (aG G own' ρ' w') w' (ρ' b) B.bk∧
   ∀g o,(ρ' b).addr=some (g,o)→g<w'.heap.size∧¬G.forb g∧(G.W0.heap.size≤g∨G.mine g))
  (Xf:∀b B b' B',lo own' b=some B→lo own' b'=some B'→b≠b'→B.rw=true→∀g o o',(ρ' b).addr=some (g,o)→(ρ' b').addr≠some (g,o'))
  (VB:w'.os=w.os) (htape:w'.tape=w.tape) (hout:w'.output=w.output) (Tv:w.heap.size≤w'.heap.size)
  (hkeep:∀k,k<G.W0.heap.size→¬G.mine k→w'.heap[k]? =w.heap[k]?):aR G dom' ρ' {s with own:=own'} a w':=
 {
  hd:=h.hd,hn:=h.hn,env:=fun t=>b6.ext hx hs _ _ (h.env t),own:=Wm,inj:=Xf,os:=VB.trans h.os,tape:=htape.trans h.tape,output:=hout.trans h.output,
  size:=Nat.le_trans h.size Tv,keep:=fun k hk hm=>(hkeep k hk hm).trans (h.keep k hk hm),wf:=h.wf,
  home:=fun l hl=>⟨hs.dom _ (h.home l hl).1,(hs.loc _ (h.home l hl).1).trans (h.home l hl).2⟩,room:=fun g=>Nat.le_trans (h.room g) (hx.room g)}
theorem kn {G:Ctx}{own:List (Nat×fA)}{ρ:Nat→Loc}{w:World}{fs:List Nat}{g:Nat}(h:aG G own ρ w g):aG G (dJ own fs) ρ w g:=by
 refine⟨h.1,h.2.1,fun b B hb RX=>?_⟩;rw[fy]at hb
 cases hl:lo own b with
 |none=>rw[hl]at hb;simp at hb
 |some B0=>
  rw[hl]at hb;simp only[Option.map_some,Option.some.injEq]at hb;refine h.2.2 b B0 hl ?_
  split at hb
  ·subst hb;simp at RX
  subst hb;exact RX
theorem aR.dJ {G:Ctx}{dom:Nat→Prop}{ρ:Nat→Loc}{s:St}{a:Act}{w:World}(h:aR G dom ρ s a w)(fs:List Nat):
  aR G dom ρ {s with own:=Eng.dJ s.own fs} a w:=by
 have RN:Ext (aG G s.own ρ w) (aG G (Eng.dJ s.own fs) ρ w) w w:=⟨fun g hg=>⟨kn hg,rfl⟩,fun _=>Nat.le_refl _⟩;have hs:hC dom dom ρ ρ:=⟨fun _ h=>h,fun _ _=>rfl⟩;refine h.rY RN hs ?_ ?_ rfl rfl rfl (Nat.le_refl _) (fun _ _ _=>rfl)
 ·intro b B hb;rw[fy]at hb
  cases hl:lo s.own b with
  |none=>rw[hl]at hb;simp at hb
  |some B0=>
   rw[hl]at hb;simp only[Option.map_some,Option.some.injEq]at hb
   have Yq:B.bk=B0.bk:=by split at hb<;>(subst hb;rfl)
   obtain⟨h1,h2,h3,h4⟩:=h.own b B0 hl;rw[Yq];exact⟨h1,h2,aL.ext RN hs _ _ (fun _ _ _=>rfl) h3,h4⟩
 intro b B b' B' hb Sl RT RX g o o' hg;rw[fy]at hb Sl
 cases hl:lo s.own b with
 |none=>rw[hl]at hb;simp at hb
 |some B0=>
  cases SE:lo s.own b' with
  |none=>rw[SE]at Sl;simp at Sl
  |some B1=>
   rw[hl]at hb;simp only[Option.map_some,Option.some.injEq]at hb;refine h.inj b B0 b' B1 hl SE RT ?_ g o o' hg
   split at hb
   ·subst hb;simp at RX
   subst hb;exact RX
theorem cH {w w':World}{g:Nat}(h:w'.heap[g]? =w.heap[g]?):bZ w' g=bZ w g:=by simp[bZ,h]
theorem jl {w:World}{g:Nat}(h:¬g<w.heap.size):bZ w g=0:=by simp[bZ,Array.getElem?_eq_none (Nat.le_of_not_lt h)]
theorem aL.lt {ρ:Nat→Loc}{dom ok:Nat→Prop}{w:World}{l:Loc}{B:Bk}(h:aL ρ dom ok w l B){g o:Nat}(ha:l.addr=some (g,o)):g<w.heap.size:=by
 unfold aL at h;rw[ha]at h;obtain⟨cur,e,hg,_⟩:=h;exact(Array.getElem?_eq_some_iff.1 hg).1
theorem aR.grown {G:Ctx}{dom:Nat→Prop}{ρ:Nat→Loc}{s:St}{a:Act}{w w':World}(h:aR G dom ρ s a w)(hb:Go.RowKit.Below w.heap.size w w'):aR G dom ρ s a w':=by
 have RN:Ext (aG G s.own ρ w) (aG G s.own ρ w') w w':=
  ⟨fun g hg=>⟨⟨Nat.lt_of_lt_of_le hg.1 hb.size,hg.2⟩,hb.block g hg.1⟩,fun g=>by
   by_cases hg:g<w.heap.size
   ·rw[cH (hb.block g hg)];exact Nat.le_refl _
   rw[jl hg];exact Nat.zero_le _⟩
 have hs:hC dom dom ρ ρ:=⟨fun _ h=>h,fun _ _=>rfl⟩;refine h.rY (own':=s.own) RN hs ?_ h.inj hb.os hb.tape hb.output hb.size (fun k hk _=>hb.block k (Nat.lt_of_lt_of_le hk h.size));intro b B hl;obtain⟨h1,h2,h3,h4⟩:=h.own b B hl;exact⟨h1,h2,aL.ext RN hs _ _ (fun g o ha=>hb.block g (h4 g o ha).1) h3,fun g o ha=>⟨Nat.lt_of_lt_of_le (h4 g o ha).1 hb.size,(h4 g o ha).2⟩⟩
def aZ (ρ:Nat→Loc)(id:Nat)(l:Loc):Nat→Loc:=fun b=>if b=id then l else ρ b
theorem lP (ρ:Nat→Loc)(id:Nat)(l:Loc):aZ ρ id l id=l:=if_pos rfl
theorem aW (ρ:Nat→Loc){id b:Nat}(l:Loc)(h:b≠id):aZ ρ id l b=ρ b:=if_neg h
theorem gU (w:World)(o:Obj):Go.RowKit.Below w.heap.size w (w.alloc o):=(Go.RowKit.Below.refl _ _).alloc (Nat.le_refl _) _
theorem hC.aZ {dom:Nat→Prop}(ρ:Nat→Loc){id:Nat}(l:Loc)(hid:¬dom id):hC dom (fun b=>dom b∨b=id) ρ (aZ ρ id l):=
 ⟨fun _ h=>.inl h,fun b hb=>aW ρ l (fun e=>hid (e▸hb))⟩
theorem aR.xH {G:Ctx}{dom:Nat→Prop}{ρ:Nat→Loc}{s:St}{a:Act}{w:World}(h:aR G dom ρ s a w){id:Nat}(hid:¬dom id)(B:Bk)(cells:Array Value)(e:TypeId)
  (RG:∀j c,B.cell j=some c→∃u,cells[j]? =some u∧(match B with|.var _=>aC ρ dom (aG G s.own ρ w) w c u|.wins .. =>aC ρ dom (aG G s.own ρ w) w c u|_=>aP (aG G s.own ρ w) w c u)):
  aR G (fun b=>dom b∨b=id) (aZ ρ id ⟨some (w.heap.size,0),B.len⟩) {s with own:=eD s.own id ⟨B,true⟩} a (w.alloc (.cells cells e)):=by
 have hb:=gU w (.cells cells e);have hs:=hC.aZ ρ ⟨some (w.heap.size,0),B.len⟩ hid;have RT:∀b B',lo s.own b=some B'→b≠id:=fun b B' hl e=>hid (e▸(h.own b B' hl).1);have RN:Ext (aG G s.own ρ w) (aG G (eD s.own id ⟨B,true⟩) (Eng.aZ ρ id ⟨some (w.heap.size,0),B.len⟩) (w.alloc (.cells cells e))) w (w.alloc (.cells cells e)):=by
  refine⟨fun g hg=>⟨⟨Nat.lt_of_lt_of_le hg.1 hb.size,hg.2.1,fun b B' hl RX o=>?_⟩,hb.block g hg.1⟩,fun g=>?_⟩
  ·rw[b7]at hl
   by_cases RR:b=id
   ·subst RR;rw[lP];intro he
    have:w.heap.size=g:=by simpa using congrArg (Option.map Prod.fst) he
    exact absurd hg.1 (by omega)
   rw[if_neg RR]at hl;rw[aW _ _ RR];exact hg.2.2 b B' hl RX o
  by_cases hg:g<w.heap.size
  ·rw[cH (hb.block g hg)];exact Nat.le_refl _
  rw[jl hg];exact Nat.zero_le _
 refine h.rY RN hs ?_ ?_ hb.os hb.tape hb.output hb.size (fun k hk _=>hb.block k (Nat.lt_of_lt_of_le hk h.size))
 ·intro b B' hl;rw[b7]at hl
  by_cases RR:b=id
  ·subst RR;rw[if_pos rfl]at hl;obtain rfl:=Option.some.inj hl;rw[lP];refine⟨.inr rfl,rfl,?_,fun g o ha=>?_⟩
   ·unfold aL;refine⟨cells,e,heap_alloc_new w _,fun j c hj=>?_⟩;obtain⟨u,hu,hr⟩:=RG j c hj;refine⟨u,by simpa using hu,?_⟩
    cases B with
    |var cs=>exact aC.ext RN hs _ _ hr
    |ints e k xs=>exact aP.ext RN _ _ hr
    |rows e wd n f=>exact aP.ext RN _ _ hr
    |wins e b2 n g=>exact aC.ext RN hs _ _ hr
   have:w.heap.size=g:=by simpa using congrArg (Option.map Prod.fst) ha
   subst this;exact⟨by simp,fun hf=>absurd (h.wf _ hf) (by have:=h.size;omega),.inl h.size⟩
  rw[if_neg RR]at hl;rw[aW _ _ RR];obtain⟨h1,h2,h3,h4⟩:=h.own b B' hl;exact⟨.inl h1,h2,aL.ext RN hs _ _ (fun g o ha=>hb.block g (h4 g o ha).1) h3,fun g o ha=>⟨Nat.lt_of_lt_of_le (h4 g o ha).1 hb.size,(h4 g o ha).2⟩⟩
 intro b B1 b' B2 hl SE SR RX g o o' ha;rw[b7]at hl SE
 by_cases RR:b=id
 ·subst RR;rw[if_neg (fun e=>SR e.symm)]at SE;rw[lP]at ha;rw[aW _ _ (fun e=>SR e.symm)];have hg:w.heap.size=g:=by simpa using congrArg (Option.map Prod.fst) ha
  intro Sj
  have:=((h.own b' B2 SE).2.2.2 g o' Sj).1
  omega
 rw[if_neg RR]at hl;rw[aW _ _ RR]at ha
 by_cases SD:b'=id
 ·subst SD;rw[lP];intro Sj;have hg:w.heap.size=g:=by simpa using congrArg (Option.map Prod.fst) Sj
  have:=((h.own b B1 hl).2.2.2 g o ha).1
  omega
 rw[if_neg SD]at SE;rw[aW _ _ SD];exact h.inj b B1 b' B2 hl SE SR RX g o o' ha
theorem aR.JQ {G:Ctx}{dom:Nat→Prop}{ρ:Nat→Loc}{s:St}{a:Act}{w w':World}(h:aR G dom ρ s a w)(hb:Go.RowKit.Below w.heap.size w w'){id:Nat}(hid:¬dom id)(B:Bk)(l:Loc)(hlen:l.len=B.len)
  (Sx:∀g o,l.addr=some (g,o)→w.heap.size≤g∧g<w'.heap.size)
  (RG:aL (aZ ρ id l) (fun b=>dom b∨b=id) (aG G (eD s.own id ⟨B,true⟩) (aZ ρ id l) w') w' l B):
  aR G (fun b=>dom b∨b=id) (aZ ρ id l) {s with own:=eD s.own id ⟨B,true⟩} a w':=by
 have hs:=hC.aZ ρ l hid;have RT:∀b B',lo s.own b=some B'→b≠id:=fun b B' hl e=>hid (e▸(h.own b B' hl).1);have RN:Ext (aG G s.own ρ w) (aG G (eD s.own id ⟨B,true⟩) (Eng.aZ ρ id l) w') w w':=by
  refine⟨fun g hg=>⟨⟨Nat.lt_of_lt_of_le hg.1 hb.size,hg.2.1,fun b B' hl RX o=>?_⟩,hb.block g hg.1⟩,fun g=>?_⟩
  ·rw[b7]at hl
   by_cases RR:b=id
   ·subst RR;rw[lP];intro he
    have:=(Sx g o he).1
    exact absurd hg.1 (by omega)
   rw[if_neg RR]at hl;rw[aW _ _ RR];exact hg.2.2 b B' hl RX o
  by_cases hg:g<w.heap.size
  ·rw[cH (hb.block g hg)];exact Nat.le_refl _
  rw[jl hg];exact Nat.zero_le _
 refine h.rY RN hs ?_ ?_ hb.os hb.tape hb.output hb.size (fun k hk _=>hb.block k (Nat.lt_of_lt_of_le hk h.size))
 ·intro b B' hl;rw[b7]at hl
  by_cases RR:b=id
  ·subst RR;rw[if_pos rfl]at hl;obtain rfl:=Option.some.inj hl;rw[lP];refine⟨.inr rfl,hlen,RG,fun g o ha=>?_⟩
   have:=Sx g o ha
   exact⟨this.2,fun hf=>absurd (h.wf _ hf) (by have:=h.size;omega),.inl (Nat.le_trans h.size this.1)⟩
  rw[if_neg RR]at hl;rw[aW _ _ RR];obtain⟨h1,h2,h3,h4⟩:=h.own b B' hl;exact⟨.inl h1,h2,aL.ext RN hs _ _ (fun g o ha=>hb.block g (h4 g o ha).1) h3,fun g o ha=>⟨Nat.lt_of_lt_of_le (h4 g o ha).1 hb.size,(h4 g o ha).2⟩⟩
 intro b B1 b' B2 hl SE SR RX g o o' ha;rw[b7]at hl SE
 by_cases RR:b=id
 ·subst RR;rw[if_neg (fun e=>SR e.symm)]at SE;rw[lP]at ha;rw[aW _ _ (fun e=>SR e.symm)];have hg:=(Sx g o ha).1;intro Sj
  have:=((h.own b' B2 SE).2.2.2 g o' Sj).1
  omega
 rw[if_neg RR]at hl;rw[aW _ _ RR]at ha
 by_cases SD:b'=id
 ·subst SD;rw[lP];intro Sj;have hg:=(Sx g o' Sj).1
  have:=((h.own b B1 hl).2.2.2 g o ha).1
  omega
 rw[if_neg SD]at SE;rw[aW _ _ SD];exact h.inj b B1 b' B2 hl SE SR RX g o o' ha
theorem aR.Lh {G:Ctx}{dom:Nat→Prop}{ρ:Nat→Loc}{s:St}{a:Act}{w w':World}(h:aR G dom ρ s a w)(hb:Go.RowKit.Below w.heap.size w w'){i j:Nat}(hi:¬dom i)(hj:¬dom j)(US:i≠j)(Bi Bj:Bk)(li lj:Loc)
  (SZ:li.len=Bi.len) (Yr:lj.len=Bj.len) (ZE:∀g o,li.addr=some (g,o)→w.heap.size≤g∧g<w'.heap.size) (ZF:∀g o,lj.addr=some (g,o)→w.heap.size≤g∧g<w'.heap.size)
  (hd:∀g o o',li.addr=some (g,o)→lj.addr≠some (g,o'))
  (VC:aL (aZ (aZ ρ i li) j lj) (fun b=>(dom b∨b=i)∨b=j) (aG G (eD (eD s.own i ⟨Bi,true⟩) j ⟨Bj,true⟩) (aZ (aZ ρ i li) j lj) w') w' li Bi)
  (Ys:aL (aZ (aZ ρ i li) j lj) (fun b=>(dom b∨b=i)∨b=j) (aG G (eD (eD s.own i ⟨Bi,true⟩) j ⟨Bj,true⟩) (aZ (aZ ρ i li) j lj) w') w' lj Bj):
  aR G (fun b=>(dom b∨b=i)∨b=j) (aZ (aZ ρ i li) j lj) {s with own:=eD (eD s.own i ⟨Bi,true⟩) j ⟨Bj,true⟩} a w':=by
 have hs:hC dom (fun b=>(dom b∨b=i)∨b=j) ρ (Eng.aZ (Eng.aZ ρ i li) j lj):=⟨fun b h=>.inl (.inl h),fun b Sn=>by
  have h1:b≠j:=fun e=>hj (e▸Sn);have h2:b≠i:=fun e=>hi (e▸Sn);rw[aW _ _ h1,aW _ _ h2]⟩
 have Vn:∀b B,lo (eD (eD s.own i ⟨Bi,true⟩) j ⟨Bj,true⟩) b=some B→(b=j∧B=⟨Bj,true⟩∧Eng.aZ (Eng.aZ ρ i li) j lj b=lj)∨(b=i∧B=⟨Bi,true⟩∧Eng.aZ (Eng.aZ ρ i li) j lj b=li)∨
   (b≠i∧b≠j∧lo s.own b=some B∧Eng.aZ (Eng.aZ ρ i li) j lj b=ρ b):=by
  intro b B hl;rw[b7]at hl
  by_cases h1:b=j
  ·subst h1;rw[if_pos rfl]at hl;exact .inl ⟨rfl,(Option.some.inj hl).symm,lP ..⟩
  rw[if_neg h1,b7]at hl
  by_cases h2:b=i
  ·subst h2;rw[if_pos rfl]at hl;exact .inr (.inl ⟨rfl,(Option.some.inj hl).symm,by rw[aW _ _ h1,lP]⟩)
  rw[if_neg h2]at hl;exact .inr (.inr ⟨h2,h1,hl,by rw[aW _ _ h1,aW _ _ h2]⟩)
 have RN:Ext (aG G s.own ρ w) (aG G (eD (eD s.own i ⟨Bi,true⟩) j ⟨Bj,true⟩) (Eng.aZ (Eng.aZ ρ i li) j lj) w') w w':=by
  refine⟨fun g hg=>⟨⟨Nat.lt_of_lt_of_le hg.1 hb.size,hg.2.1,fun b B' hl RX o he=>?_⟩,hb.block g hg.1⟩,fun g=>?_⟩
  ·rcases Vn b B' hl with⟨_,_,e⟩|⟨_,_,e⟩|⟨_,_,SE,e⟩
   ·rw[e]at he;exact absurd hg.1 (by have:=(ZF g o he).1;omega)
   ·rw[e]at he;exact absurd hg.1 (by have:=(ZE g o he).1;omega)
   rw[e]at he;exact hg.2.2 b B' SE RX o he
  by_cases hg:g<w.heap.size
  ·rw[cH (hb.block g hg)];exact Nat.le_refl _
  rw[jl hg];exact Nat.zero_le _
 refine h.rY RN hs ?_ ?_ hb.os hb.tape hb.output hb.size (fun k hk _=>hb.block k (Nat.lt_of_lt_of_le hk h.size))
 ·intro b B' hl
  rcases Vn b B' hl with⟨rfl,rfl,e⟩|⟨rfl,rfl,e⟩|⟨_,_,SE,e⟩
  ·rw[e];refine⟨.inr rfl,Yr,Ys,fun g o ha=>?_⟩
   have:=ZF g o ha
   exact⟨this.2,fun hf=>absurd (h.wf _ hf) (by have:=h.size;omega),.inl (Nat.le_trans h.size this.1)⟩
  ·rw[e];refine⟨.inl (.inr rfl),SZ,VC,fun g o ha=>?_⟩
   have:=ZE g o ha
   exact⟨this.2,fun hf=>absurd (h.wf _ hf) (by have:=h.size;omega),.inl (Nat.le_trans h.size this.1)⟩
  rw[e];obtain⟨h1,h2,h3,h4⟩:=h.own b B' SE;exact⟨.inl (.inl h1),h2,aL.ext RN hs _ _ (fun g o ha=>hb.block g (h4 g o ha).1) h3,fun g o ha=>⟨Nat.lt_of_lt_of_le (h4 g o ha).1 hb.size,(h4 g o ha).2⟩⟩
 intro b B1 b' B2 hl SE RT RX g o o' ha Sj
 rcases Vn b B1 hl with⟨rfl,rfl,e⟩|⟨rfl,rfl,e⟩|⟨_,_,S7,e⟩<;>rcases Vn b' B2 SE with⟨rfl,rfl,e'⟩|⟨rfl,rfl,e'⟩|⟨_,_,RF,e'⟩<;>rw [e]at ha<;>rw [e']at Sj
 ·exact RT rfl
 ·exact hd g o' o Sj ha
 ·exact absurd ((h.own b' B2 RF).2.2.2 g o' Sj).1 (by have:=(ZF g o ha).1;omega)
 ·exact hd g o o' ha Sj
 ·exact RT rfl
 ·exact absurd ((h.own b' B2 RF).2.2.2 g o' Sj).1 (by have:=(ZE g o ha).1;omega)
 ·exact absurd ((h.own b B1 S7).2.2.2 g o ha).1 (by have:=(ZF g o' Sj).1;omega)
 ·exact absurd ((h.own b B1 S7).2.2.2 g o ha).1 (by have:=(ZE g o' Sj).1;omega)
 exact h.inj b B1 b' B2 S7 RF RT RX g o o' ha Sj
theorem aR.Io {G:Ctx}{dom:Nat→Prop}{ρ:Nat→Loc}{s:St}{a:Act}{w:World}(h:aR G dom ρ s a w){o:Obj}:aG G s.own ρ (w.alloc o) w.heap.size:=
 ⟨by simp,fun hf=>absurd (h.wf _ hf) (by have:=h.size;omega),fun b B hl _ o ha=>absurd ((h.own b B hl).2.2.2 _ _ ha).1 (by omega)⟩
theorem CV {G:Ctx}{own:List (Nat×fA)}{ρ:Nat→Loc}{w:World}{o:Obj}{g:Nat}(h:aG G own ρ w g):aG G own ρ (w.alloc o) g:=
 ⟨Nat.lt_of_lt_of_le h.1 (gU w o).size,h.2⟩
end Go.Eng
namespace Go.Eng
open Go
inductive Et where
 |int (k:IntKind)
 |bool
 |str
 |sl (e:TypeId)
 |st (fs:List (Nat×Nat))
 |arr (n:Nat) (e:TypeId)
 |fn
 |other
structure Ty where
 k:Et
 size:Nat
 bytes:Nat
 zero:List C
 fl:List Bool:=[]
def Df:Value→C
 |.int k n=>.int k n
 |.bool b=>.bool b
 |.string s=>.str s
 |.slice a n c=>match a,n,c with
  |none,0,0=>.nil
  |_,_,_=>.any
 |.func fn first captured=>match fn,first.size,captured.size with
  |.func f,0,0=>.fn f 0 (fun _=>.any)
  |_,_,_=>.any
 |_=>.any
def cv:Value→V
 |.agg cs=>if cs.toList.all Value.oneCell' then .agg (cs.toList.map Df)else .unk
 |.tuple _=>.unk
 |v=>.one (Df v)
def cG (P:Program):TypeDesc→Et
 |.int k=>.int k
 |.bool=>.bool
 |.string=>.str
 |.slice e=>.sl e
 |.struct fs=>match fs.toList.mapM (fun f=>(P.info? f.type).map fun i=>(f.offset,i.size))with
  |some pl=>.st pl
  |none=>.other
 |.func _ _ _=>.fn
 |.array n e=>.arr n e
 |_=>.other
theorem qu {P:Program}{d:TypeDesc}{pl:List (Nat×Nat)}(h:cG P d= .st pl):∃fs,d= .struct fs∧fs.toList.mapM (fun f=>(P.info? f.type).map fun i=>(f.offset,i.size))=some pl:=by
 cases d<;>simp only[cG]at h
 case struct fs=>
  refine⟨fs,rfl,?_⟩
  split at h
  ·rename_i pl' hp;cases h;exact hp
  cases h
 all_goals cases h
theorem tN {P:Program}:∀(fs:List Field) (pl:List (Nat×Nat)),fs.mapM (fun f=>(P.info? f.type).map fun i=>(f.offset,i.size))=some pl→
  ∀(j:Nat) p,pl[j]? =some p→∃f i,fs[j]? =some f∧P.info? f.type=some i∧p=(f.offset,i.size)
 |[],pl,h,j,p,hj=>by simp at h;subst h;simp at hj
 |f::fs,pl,h,j,p,hj=>by
  simp only[List.mapM_cons,Option.bind_eq_bind,Option.pure_def]at h
  cases hi:P.info? f.type with
  |none=>rw[hi]at h;simp at h
  |some i=>
   rw[hi]at h;simp only[Option.map_some,Option.bind_some]at h
   cases hr:fs.mapM (fun f=>(P.info? f.type).map fun i=>(f.offset,i.size))with
   |none=>rw[hr]at h;simp at h
   |some rest=>
    rw[hr]at h;simp only[Option.bind_some,Option.some.injEq]at h;subst h
    cases j with
    |zero=>simp at hj;exact⟨f,i,rfl,hi,hj.symm⟩
    |succ j=>exact tN fs rest hr j p (by simpa using hj)
def NP (P:Program):TypeDesc→List Bool
 |.struct fs=>fs.toList.map fun f=>match P.underlying f.type with
  |some d=>match(cG P d)with
   |.st _=>false
   |.arr _ _=>false
   |.other=>false
   |_=>true
  |none=>false
 |_=>[]
def dV (P:Program)(t:TypeId):Option Ty:=
 match P.info? t,P.underlying t with
 |some i,some d=>match i.zero with
  |some z=>if z.cells.toList.all Value.oneCell' then some {k:=cG P d,size:=i.size,bytes:=i.bytes,zero:=z.cells.toList.map Df,fl:=NP P d}else none
  |none=>none
 |_,_=>none
class Qz (P:Program) (t:TypeId) (T:outParam Ty):Prop where
 out:dV P t=some T
theorem Qz.parts {P:Program}{t:TypeId}{T:Ty}(h:Qz P t T):∃i d z,P.info? t=some i∧P.underlying t=some d∧i.zero=some z∧T.k=cG P d∧T.size=i.size∧T.bytes=i.bytes∧T.zero=z.cells.toList.map Df∧z.cells.toList.all Value.oneCell'=true:=by
 have h:=h.out;unfold dV at h
 cases hi:P.info? t with
 |none=>rw[hi]at h;simp at h
 |some i=>
  cases hu:P.underlying t with
  |none=>rw[hi,hu]at h;simp at h
  |some d=>
   cases hz:i.zero with
   |none=>rw[hi,hu]at h;simp[hz]at h
   |some z=>
    rw[hi,hu]at h;simp only[hz]at h
    split at h
    ·rename_i RI
     simp only[Option.some.injEq]at h;subst h;exact⟨i,d,z,rfl,rfl,hz,rfl,rfl,rfl,rfl,RI⟩
    cases h
section cv
variable {ρ:Nat→Loc}{dom ok:Nat→Prop}{w:World}
theorem zN (v:Value)(h:v.oneCell'=true):aP ok w (Df v) v:=by
 cases v with
 |int k n=>rfl
 |bool b=>rfl
 |string s=>rfl
 |slice a n c=>
  simp only[Df]
  split
  ·rfl
  exact h
 |func fn first captured=>
  simp only[Df]
  split
  ·rename_i f h1 h2
   have h1:first= #[]:=Array.eq_empty_of_size_eq_zero (by assumption);have h2:captured= #[]:=Array.eq_empty_of_size_eq_zero (by assumption);subst h1;subst h2;exact⟨#[],rfl,rfl,fun i hi=>absurd hi (Nat.not_lt_zero _)⟩
  exact h
 |_=>exact h
theorem aC.bh {c:C}{v:Value}(h:aP ok w c v):aC ρ dom ok w c v:=by
 cases c with
 |own b wd off len=>exact h.elim
 |win b b2 off len=>exact h.elim
 |ptr b off=>exact h.elim
 |eptr b wd i off=>exact h.elim
 |fn f n caps=>
  obtain⟨cs,hv,hn,Sc⟩:=h;refine⟨cs,hv,hn,fun i hi=>?_⟩
  have:=Sc i hi
  unfold eE
  cases hc:caps i with
  |own b wd off len=>rw[hc]at this;exact this.elim
  |win b b2 off len=>rw[hc]at this;exact this.elim
  |ptr b off=>rw[hc]at this;exact this.elim
  |eptr b wd i off=>rw[hc]at this;exact this.elim
  |_=>rw[hc]at this;exact this
 |_=>exact h
theorem xb (v:Value)(h:v.oneCell'=true):aC ρ dom ok w (Df v) v:=aC.bh (zN v h)
theorem px:∀vs:List Value,vs.all Value.oneCell'=true→bG ρ dom ok w (vs.map Df) vs
 |[],_=>trivial
 |v::vs,h=>by
  simp only[List.all_cons,Bool.and_eq_true]at h;exact⟨xb v h.1,px vs h.2⟩
theorem Nk (v:Value):b6 ρ dom ok w (cv v) v:=by
 by_cases hv:∃cs,v= .agg cs
 ·obtain⟨cs,rfl⟩:=hv;simp only[cv]
  split
  ·rename_i h;exact⟨cs,rfl,px _ h⟩
  trivial
 by_cases ht:∃cs,v= .tuple cs
 ·obtain⟨cs,rfl⟩:=ht;trivial
 have e:cv v= .one (Df v)∧v.oneCell'=true:=by
  cases v with
  |agg cs=>exact absurd ⟨cs,rfl⟩ hv
  |tuple cs=>exact absurd ⟨cs,rfl⟩ ht
  |_=>exact⟨rfl,rfl⟩
 rw[e.1];exact xb v e.2
end cv
def St.ev (s:St):Operand→V
 |.tmp t=>lk s.env t
 |.const v=>cv v
 |.global _=>.one .any
 |.func f=>.one (.fn f 0 (fun _=>.any))
theorem aR.ev {G:Ctx}{dom:Nat→Prop}{ρ:Nat→Loc}{s:St}{a:Act}{w:World}(h:aR G dom ρ s a w)(x:Operand):
  b6 ρ dom (aG G s.own ρ w) w (s.ev x) (a.eval x):=by
 cases x with
 |tmp t=>exact h.env t
 |const v=>exact Nk v
 |global g=>rfl
 |func f=>exact⟨#[],rfl,rfl,fun i hi=>absurd hi (Nat.not_lt_zero _)⟩
structure eK where
 val:V
 vX:Option Bk
 fz:List Nat
def uO (own:List (Nat×fA))(fz:List Nat):List (Nat×fA):=
 match fz with
 |[]=>own
 |_::_=>dJ own fz
def St.add (s:St)(dst:Option Tmp)(id:Nat)(e:eK):St:=
 match e.vX with
 |some B=>{s.put dst e.val with own:=eD (uO s.own e.fz) id ⟨B,true⟩}
 |none=>{s.put dst e.val with own:=uO s.own e.fz}
theorem St.add_plain (s:St)(dst:Option Tmp)(id:Nat)(v:V):s.add dst id ⟨v,none,[]⟩=s.put dst v:=by cases dst<;>rfl
structure gN (s Z:St) (nx0:Nat) (o:Oper):Prop where
 n:Z.n=s.n
 ev:∀x∈o.op.operands,Z.ev x=s.ev x
 own:∀b,b<nx0→(lo Z.own b).map (·.bk)=(lo s.own b).map (·.bk)
theorem gN.refl (s:St)(nx0:Nat)(o:Oper):gN s s nx0 o:=⟨rfl,fun _ _=>rfl,fun _ _=>rfl⟩
theorem gN.vX {s Z:St}{nx0:Nat}{o:Oper}(h:gN s Z nx0 o){b:Nat}{B:fA}(hb:b<nx0)(hl:lo s.own b=some B):∃rw,lo Z.own b=some ⟨B.bk,rw⟩:=by
 have:=h.own b hb
 rw[hl]at this
 cases hz:lo Z.own b with
 |none=>rw[hz]at this;simp at this
 |some B'=>
  rw[hz]at this;simp only[Option.map_some,Option.some.injEq]at this;exact⟨B'.rw,by rw[←this]⟩
def iq:Op→Bool
 |.move _=>true
 |.nilCheck _=>true
 |.binOp _ _ _ _ _=>true
 |.convert _ _ _=>true
 |.fieldAddr _ _ _=>true
 |.indexAddr _ _ _=>true
 |.slice _ _ _ _ _=>true
 |.load _ _=>true
 |.extract _ _=>true
 |.pick _ _ _=>true
 |.call c=>match c.callee with
  |.builtin .len=>true
  |_=>false
 |_=>false
def Ji (P:Program)(o:Oper)(s:St)(nx0:Nat)(val:V):Prop:=
 ∀G dom ρ Z a w,aR G dom ρ Z a w→gN s Z nx0 o→∃v,(execOp a.eval o).run P w= .ok (.value v) w∧b6 ρ dom (aG G Z.own ρ w) w val v
def a6 (P:Program)(o:Oper)(s:St)(nx0 id:Nat)(e:eK):Prop:=
 (∀G dom ρ Z a w,aR G dom ρ Z a w→¬dom id→gN s Z nx0 o→∀Q next,
  (∀v w',uU G (fun b=>dom b∨b=id) (Z.add o.dst id e) (a.put o.dst v) w'→next (a.put o.dst v) w')→o.wp P a w next Q)∧
 (iq o.op=true→e.vX=none∧e.fz=[]∧Ji P o s nx0 e.val)
theorem Oper.cQ {P:Program}{o:Oper}{a:Act}{w w':World}{v:Value}{next:Act→World→Prop}{Q:Exit→Act→World→Prop}
  (hr:(execOp a.eval o).run P w= .ok (.value v) w') (h:next (a.put o.dst v) w'):o.wp P a w next Q:=by
 unfold Oper.wp;rw[hr];exact h
theorem aR.cR {G:Ctx}{dom dom':Nat→Prop}{ρ:Nat→Loc}{s:St}{a:Act}{w:World}(h:aR G dom ρ s a w)(hd:∀b,dom b→dom' b):aR G dom' ρ s a w:=by
 have hx:=Ext.refl (aG G s.own ρ w) w;have hs:hC dom dom' ρ ρ:=⟨hd,fun _ _=>rfl⟩;exact h.rY (own':=s.own) hx hs (fun b B hl=>by
  obtain⟨h1,h2,h3,h4⟩:=h.own b B hl;exact⟨hd _ h1,h2,aL.ext hx hs _ _ (fun _ _ _=>rfl) h3,h4⟩) h.inj rfl rfl rfl (Nat.le_refl _) (fun _ _ _=>rfl)
def bT (o:Oper)(n:Nat):Prop:=∀d,o.dst=some d→d<n
theorem a6.pure {P:Program}{o:Oper}{s:St}{nx0 id:Nat}{val:V}(hd:bT o s.n)
  (h:∀G dom ρ Z a w,aR G dom ρ Z a w→gN s Z nx0 o→∃v,(execOp a.eval o).run P w= .ok (.value v) w∧b6 ρ dom (aG G Z.own ρ w) w val v):
  a6 P o s nx0 id ⟨val,none,[]⟩:=by
 refine⟨?_,fun _=>⟨rfl,rfl,h⟩⟩;intro G dom ρ Z a w hs _ ha Q next hk;obtain⟨v,hr,hv⟩:=h G dom ρ Z a w hs ha;refine Oper.cQ hr (hk v w ⟨ρ,?_⟩);rw[St.add_plain];exact(hs.put (dst:=o.dst) (fun d hh=>by rw[ha.n];exact hd d hh) hv).cR (fun b hb=>Or.inl hb)
end Go.Eng
namespace Go.Eng
open Go
def eW (op:BinOp)(k:IntKind)(x y:Int):Int:=
 let a:=BitVec.ofInt k.bits x
 let b:=BitVec.ofInt k.bits y
 match op with
 |.and=>k.wrap (a&&&b).toNat
 |.or=>k.wrap (a|||b).toNat
 |.xor=>k.wrap (a^^^b).toNat
 |_=>k.wrap (a&&& ~~~b).toNat
def Ew (op:BinOp)(k:IntKind)(a:Int)(k':IntKind)(b:Int)(K:C→Prop):Prop:=
 match op with
 |.shl=>0≤b∧K (.int k (k.wrap (a*2^(min b.toNat k.bits))))
 |.shr=>0≤b∧K (.int k (a.fdiv (2^(min b.toNat k.bits))))
 |.add=>k=k'∧K (.int k (k.wrap (a+b)))
 |.sub=>k=k'∧K (.int k (k.wrap (a-b)))
 |.mul=>k=k'∧K (.int k (k.wrap (a*b)))
 |.quo=>k=k'∧b≠0∧K (.int k (k.wrap (a.tdiv b)))
 |.rem=>k=k'∧b≠0∧K (.int k (a.tmod b))
 |.eql=>k=k'∧K (.bool (decide (a=b)))
 |.neq=>k=k'∧K (.bool (decide (a≠b)))
 |.lss=>k=k'∧K (.bool (decide (a<b)))
 |.leq=>k=k'∧K (.bool (decide (a≤b)))
 |.gtr=>k=k'∧K (.bool (decide (b<a)))
 |.geq=>k=k'∧K (.bool (decide (b≤a)))
 |op=>k=k'∧K (.int k (eW op k a b))
theorem yO {P:Program}{w:World}{op:BinOp}{k k':IntKind}{a b:Int}{K:C→Prop}(t:TypeId)(x y:Operand)(h:Ew op k a k' b K):
  ∃c v,K c∧(do eqGuard op t x y (.int k a) (.int k' b);Go.binOp op t (.int k a) (.int k' b):Sem Value).run P w= .ok v w∧∀ρ dom ok,aC ρ dom ok w c v:=by
 have hg:(eqGuard op t x y (.int k a) (.int k' b)).run P w= .ok () w:=by
  unfold eqGuard
  cases op<;>rfl
 rw[Sem.run_bind,hg,Result.andThen_ok]
 cases op<;>simp only[Ew]at h
 case shl=>exact⟨_,_,h.2,by simp only[Go.binOp,Op.shift];rw[if_neg (by omega)];rfl,fun _ _ _=>rfl⟩
 case shr=>exact⟨_,_,h.2,by simp only[Go.binOp,Op.shift];rw[if_neg (by omega)];rfl,fun _ _ _=>rfl⟩
 case quo=>
  obtain⟨rfl,h0,hk⟩:=h;exact⟨_,_,hk,by simp only[Go.binOp,Op.intDiv,ne_eq,not_true_eq_false,↓reduceIte];rw[if_neg h0];rfl,fun _ _ _=>rfl⟩
 case rem=>
  obtain⟨rfl,h0,hk⟩:=h;exact⟨_,_,hk,by simp only[Go.binOp,Op.intDiv,ne_eq,not_true_eq_false,↓reduceIte];rw[if_neg h0];rfl,fun _ _ _=>rfl⟩
 case eql=>
  obtain⟨rfl,hk⟩:=h;refine⟨_,_,hk,by simp only[Go.binOp,Op.intCmp,ne_eq,not_true_eq_false,↓reduceIte];rfl,fun _ _ _=>?_⟩;show Value.bool _=Value.bool _
  congr 1
 case neq=>
  obtain⟨rfl,hk⟩:=h;refine⟨_,_,hk,by simp only[Go.binOp,Op.intCmp,ne_eq,not_true_eq_false,↓reduceIte];rfl,fun _ _ _=>?_⟩;show Value.bool _=Value.bool _
  congr 1
  rw[Bool.eq_iff_iff];simp
 all_goals
  obtain⟨rfl,hk⟩:=h;exact⟨_,_,hk,by simp only[Go.binOp,Op.intArith,Op.intCmp,Op.intBits,ne_eq,not_true_eq_false,↓reduceIte];rfl,fun _ _ _=>rfl⟩
theorem av {P:Program}{w:World}{t:TypeId}{d:TypeDesc}(h:P.underlying t=some d):(underlying t).run P w= .ok d w:=by
 simp[underlying,h]
theorem run_typeInfo {P:Program}{w:World}{t:TypeId}{i:TypeInfo}(h:P.info? t=some i):(typeInfo t).run P w= .ok i w:=by
 simp[typeInfo,h]
theorem run_sizeOf {P:Program}{w:World}{t:TypeId}{i:TypeInfo}(h:P.info? t=some i):(sizeOf t).run P w= .ok i.size w:=by
 simp[sizeOf,run_typeInfo h]
theorem fC {P:Program}{w:World}{t:TypeId}{i:TypeInfo}{z:Value}(h:P.info? t=some i)(hz:i.zero=some z):(zeroValue t).run P w= .ok z w:=by
 simp[zeroValue,run_typeInfo h,hz]
def Et.agg:Et→Option Bool
 |.st _=>some true
 |.arr _ _=>some true
 |.other=>none
 |_=>some false
theorem qv {P:Program}{w:World}{t:TypeId}{d:TypeDesc}{b:Bool}(h:P.underlying t=some d)(hb:(cG P d).agg=some b):(isAgg t).run P w= .ok b w:=by
 unfold isAgg;rw[Sem.run_bind,av h,Result.andThen_ok]
 cases d<;>simp only[cG]at hb
 case struct fs=>split at hb<;>simp [Et.agg]at hb;subst hb;rfl
 case array=>simp[Et.agg]at hb;subst hb;rfl
 all_goals(simp[Et.agg]at hb;try(subst hb;rfl))
def OS (k:Et)(cs:List C):V:=
 match k with
 |.st _=>.agg cs
 |.arr _ _=>.agg cs
 |.other=>.unk
 |_=>match cs with
  |[c]=>.one c
  |_=>.unk
theorem jF {P:Program}{w:World}(a:Addr):∀(n i:Nat) (acc:Array Value) (us:List Value),us.length=n→
  (∀j u,us[j]? =some u→w.cell? (a.add (i+j))=some u)→(loadCellsFrom a i n acc).run P w= .ok (acc++us.toArray) w
 |0,i,acc,us,hl,_=>by
  obtain rfl:us=[]:=List.eq_nil_of_length_eq_zero hl
  simp[loadCellsFrom]
 |n+1,i,acc,us,hl,hc=>by
  match us,hl,hc with
  |u::us,hl,hc=>
   have h0:=hc 0 u rfl;simp only[Nat.add_zero]at h0;simp only[loadCellsFrom,Sem.run_bind,run_load,h0,Result.andThen_ok];rw[jF a n (i+1) _ us (by simpa using hl) (fun j u' hj=>by
    have:=hc (j+1) u' (by simpa using hj)
    rw[show i+1+j=i+(j+1) by omega];exact this)]
   simp
theorem j6 {P:Program}{w:World}(a:Addr)(us:List Value)(hc:∀j u,us[j]? =some u→w.cell? (a.add j)=some u):
  (loadCells a us.length).run P w= .ok us.toArray w:=by
 unfold loadCells;rw[jF a us.length 0 #[] us rfl (by simpa using hc)]
 simp
theorem bG.length {ρ:Nat→Loc}{dom ok:Nat→Prop}{w:World}:∀{cs:List C} {vs:List Value},bG ρ dom ok w cs vs→cs.length=vs.length
 |[],[],_=>rfl
 |_::cs,_::vs,h=>by simp[bG.length h.2]
 |[],_::_,h=>h.elim
 |_::_,[],h=>h.elim
theorem bG.get {ρ:Nat→Loc}{dom ok:Nat→Prop}{w:World}:∀{cs:List C} {vs:List Value},bG ρ dom ok w cs vs→∀(j:Nat) c,cs[j]? =some c→∃v,vs[j]? =some v∧aC ρ dom ok w c v
 |[],[],_,j,c,hj=>by simp at hj
 |c0::cs,v0::vs,h,0,c,hj=>by simp at hj;subst hj;exact⟨v0,rfl,h.1⟩
 |c0::cs,v0::vs,h,j+1,c,hj=>by simpa using bG.get h.2 j c (by simpa using hj)
 |[],_::_,h,_,_,_=>h.elim
 |_::_,[],h,_,_,_=>h.elim
theorem bG.Cy {ρ:Nat→Loc}{dom ok:Nat→Prop}{w:World}:∀{cs:List C} {vs:List Value},cs.length=vs.length→(∀(j:Nat) c v,cs[j]? =some c→vs[j]? =some v→aC ρ dom ok w c v)→bG ρ dom ok w cs vs
 |[],[],_,_=>trivial
 |c0::cs,v0::vs,h,hg=>⟨hg 0 c0 v0 rfl rfl,bG.Cy (by simpa using h) (fun j c v hc hv=>hg (j+1) c v (by simpa using hc) (by simpa using hv))⟩
 |[],_::_,h,_=>by simp at h
 |_::_,[],h,_=>by simp at h
theorem jO {P:Program}{ρ:Nat→Loc}{dom ok:Nat→Prop}{w:World}{t:TypeId}{i:TypeInfo}{d:TypeDesc}(hi:P.info? t=some i)(hu:P.underlying t=some d)
  (g o:Nat) (cs:List C) (hl:cs.length=i.size) (hk:(cG P d).agg=some true∨((cG P d).agg=some false∧i.size=1))
  (hc:∀j c,cs[j]? =some c→∃u,w.cell? ⟨g,o+j,none⟩=some u∧aC ρ dom ok w c u):
  ∃v,(loadVar t ⟨g,o,none⟩).run P w= .ok v w∧b6 ρ dom ok w (OS (cG P d) cs) v:=by
 have key:∀(cs:List C) (o:Nat),(∀j c,cs[j]? =some c→∃u,w.cell? ⟨g,o+j,none⟩=some u∧aC ρ dom ok w c u)→
   ∃us:List Value,us.length=cs.length∧(∀j u,us[j]? =some u→w.cell? ⟨g,o+j,none⟩=some u)∧bG ρ dom ok w cs us:=by
  intro cs
  induction cs with
  |nil=>intro o _;exact⟨[],rfl,fun j u hj=>by simp at hj,trivial⟩
  |cons c cs ih=>
   intro o h;obtain⟨u,hu,hr⟩:=h 0 c rfl;obtain⟨us,h1,h2,h3⟩:=ih (o+1) (fun j c' hj=>by
    obtain⟨u',RZ,Vo⟩:=h (j+1) c' (by simpa using hj);exact⟨u',by rw[show o+1+j=o+(j+1) by omega];exact RZ,Vo⟩)
   refine⟨u::us,by simp[h1],fun j u' hj=>?_,hr,h3⟩
   cases j with
   |zero=>simp at hj;subst hj;exact hu
   |succ j=>have:=h2 j u' (by simpa using hj);rw[show o+1+j=o+(j+1) by omega]at this;exact this
 obtain⟨us,h1,h2,h3⟩:=key cs o hc
 have hadd:∀j,(⟨g,o,none⟩:Addr).add j=⟨g,o+j,none⟩:=fun j=>by unfold Addr.add;split<;>simp_all
 rcases hk with hk|⟨hk,h1s⟩
 ·refine⟨.agg us.toArray,?_,?_⟩
  ·unfold loadVar;rw[Sem.run_bind,qv hu hk,Result.andThen_ok];simp only[↓reduceIte,Sem.run_bind,run_sizeOf hi,Result.andThen_ok];rw[←hl,←h1,j6 _ us (fun j u hj=>by rw[hadd];exact h2 j u hj)];rfl
  cases hd:cG P d<;>rw [hd]at hk<;>simp [Et.agg]at hk<;>exact ⟨us.toArray,rfl,h3⟩
 have Tx:cs.length=1:=by omega
 match cs,us,Tx,h1,h2,h3 with
 |[c],[u],_,_,h2,h3=>
  refine⟨u,?_,?_⟩
  ·unfold loadVar;rw[Sem.run_bind,qv hu hk,Result.andThen_ok]
   have:=h2 0 u rfl
   simp only[Nat.add_zero]at this;simp only[Bool.false_eq_true,↓reduceIte,run_load,this]
  cases hd:cG P d<;>rw [hd]at hk<;>simp [Et.agg]at hk<;>exact h3.1
end Go.Eng
namespace Go.Eng
open Go
def V.n7:V→Bool
 |.one _=>true
 |.agg _=>true
 |_=>false
def cellsOf:V→List C
 |.one c=>[c]
 |.agg cs=>cs
 |_=>[]
section
variable {ρ:Nat→Loc}{dom ok:Nat→Prop}{w:World}
theorem aP.plain {c:C}{v:Value}(h:aP ok w c v):v.oneCell'=true∧v.cells= #[v]:=by
 cases c with
 |any=>
  have h:v.oneCell'=true:=h;refine⟨h,?_⟩
  cases v<;>first|rfl|simp [Value.oneCell']at h
 |bool b=>cases h;exact⟨rfl,rfl⟩
 |int k n=>cases h;exact⟨rfl,rfl⟩
 |str s=>cases h;exact⟨rfl,rfl⟩
 |nil=>cases h;exact⟨rfl,rfl⟩
 |ints k xs=>obtain⟨a,cap,rfl,_⟩:=h;exact⟨rfl,rfl⟩
 |rows wd n f=>obtain⟨a,cap,rfl,_⟩:=h;exact⟨rfl,rfl⟩
 |own b wd off len=>exact h.elim
 |win b b2 off len=>exact h.elim
 |ptr b off=>exact h.elim
 |elt s wd i off=>obtain⟨g,o,n,cap,_,_,rfl⟩:=h;exact⟨rfl,rfl⟩
 |eptr b wd i off=>exact h.elim
 |fn f n caps=>obtain⟨cs,rfl,_⟩:=h;exact⟨rfl,rfl⟩
theorem aC.plain {c:C}{v:Value}(h:aC ρ dom ok w c v):v.oneCell'=true∧v.cells= #[v]:=by
 cases c with
 |own b wd off len=>
  obtain⟨_,_,cap,_,h⟩:=h
  rcases h with⟨g,o,o',_,rfl,_⟩|⟨_,rfl,_⟩<;>exact ⟨rfl,rfl⟩
 |win b b2 off len=>
  obtain⟨_,_,_,cap,_,h⟩:=h
  rcases h with⟨g,o,o',_,rfl,_⟩|⟨_,rfl,_⟩<;>exact ⟨rfl,rfl⟩
 |ptr b off=>obtain⟨_,g,o,_,rfl⟩:=h;exact⟨rfl,rfl⟩
 |eptr b wd i off=>obtain⟨_,_,g,o,_,rfl⟩:=h;exact⟨rfl,rfl⟩
 |fn f n caps=>obtain⟨cs,rfl,_⟩:=h;exact⟨rfl,rfl⟩
 |any=>exact aP.plain (ok:=ok) (w:=w) (c:=.any) h
 |bool b=>exact aP.plain (ok:=ok) (w:=w) (c:=.bool b) h
 |int k n=>exact aP.plain (ok:=ok) (w:=w) (c:=.int k n) h
 |str s=>exact aP.plain (ok:=ok) (w:=w) (c:=.str s) h
 |nil=>exact aP.plain (ok:=ok) (w:=w) (c:=.nil) h
 |ints k xs=>exact aP.plain (ok:=ok) (w:=w) (c:=.ints k xs) h
 |rows wd n f=>exact aP.plain (ok:=ok) (w:=w) (c:=.rows wd n f) h
 |elt s wd i off=>exact aP.plain (ok:=ok) (w:=w) (c:=.elt s wd i off) h
theorem b6.cells {x:V}{v:Value}(h:b6 ρ dom ok w x v)(hx:x.n7=true):bG ρ dom ok w (cellsOf x) v.cells.toList:=by
 cases x with
 |one c=>
  have h':aC ρ dom ok w c v:=h;rw[(aC.plain h').2];exact⟨h',trivial⟩
 |agg cs=>obtain⟨vs,rfl,hl⟩:=h;exact hl
 |aB xs=>simp[V.n7]at hx
 |unk=>simp[V.n7]at hx
end
def kT (cs:List C)(off:Nat)(l:List C):List C:=cs.take off++(l++cs.drop (off+l.length))
theorem uD (cs:List C)(off:Nat)(l:List C)(h:off+l.length≤cs.length)(j:Nat):
  (kT cs off l)[j]? =if off≤j∧j<off+l.length then l[j-off]? else cs[j]? :=by
 unfold kT;rw[List.getElem?_append,List.getElem?_append,X5]
 by_cases h1:j<off
 ·rw[if_pos (by omega),if_neg (by omega),List.getElem?_take,if_pos h1]
 rw[if_neg (by omega)]
 by_cases h2:j<off+l.length
 ·rw[if_pos (by omega),if_pos (by omega)]
  congr 1;omega
 rw[if_neg (by omega),if_neg (by omega),List.getElem?_drop]
 congr 1;omega
theorem nY (cs:List C)(off:Nat)(l:List C)(h:off+l.length≤cs.length):(kT cs off l).length=cs.length:=by
 unfold kT;simp;omega
def jn (fs:List (Nat×Nat))(cells:List C):List (Nat×V)→Option (List C)
 |[]=>some cells
 |(i,x)::rest=>
  match fs[i]? with
  |none=>none
  |some (off,size)=>if x.n7=true∧(cellsOf x).length=size∧off+size≤cells.length then jn fs (kT cells off (cellsOf x)) rest else none
theorem zy (off:Nat):∀(l:List Value) (k:Nat) (cells:Array Value),off+k+l.length≤cells.size→
  ((l.zipIdx k).foldl (fun cs (p:Value×Nat)=>cs.setIfInBounds (off+p.2) p.1) cells).size=cells.size∧
  ∀m:Nat,((l.zipIdx k).foldl (fun cs (p:Value×Nat)=>cs.setIfInBounds (off+p.2) p.1) cells)[m]? =if off+k≤m∧m<off+k+l.length then l[m-(off+k)]? else cells[m]?
 |[],k,cells,_=>⟨rfl,fun m=>by rw[if_neg (by simp)];rfl⟩
 |v::l,k,cells,h=>by
  have ih:=zy off l (k+1) (cells.setIfInBounds (off+k) v) (by simp at h⊢;omega);rw[List.zipIdx_cons,List.foldl_cons];refine⟨by simpa using ih.1,fun m=>?_⟩;rw[ih.2 m];simp only[List.length_cons]at h⊢
  by_cases h1:off+k=m
  ·subst h1;have RE:off+k<cells.size:=by omega
   rw[if_neg (by omega),if_pos (by omega)]
   simp[RE]
  by_cases h2:off+(k+1)≤m∧m<off+(k+1)+l.length
  ·rw[if_pos h2,if_pos (by omega)];obtain⟨q,hq⟩:∃q,m=off+k+1+q:=⟨m-(off+k+1),by omega⟩;subst hq;rw[show off+k+1+q-(off+(k+1))=q by omega,show off+k+1+q-(off+k)=q+1 by omega,List.getElem?_cons_succ]
  rw[if_neg h2,if_neg (by omega),Array.getElem?_setIfInBounds_ne h1]
section
variable {ρ:Nat→Loc}{dom ok:Nat→Prop}{w:World}
def Ll (ρ:Nat→Loc)(dom ok:Nat→Prop)(w:World):List (Nat×V)→List (Nat×Value)→Prop
 |[],[]=>True
 |(i,x)::xs,(j,v)::vs=>i=j∧b6 ρ dom ok w x v∧Ll ρ dom ok w xs vs
 |_,_=>False
theorem o9 {place:Nat→Option (Nat×Nat)}{fs:List (Nat×Nat)}(hp:∀i p,fs[i]? =some p→place i=some p):∀(xs:List (Nat×V)) (vs:List (Nat×Value)) (cs:List C) (cells:Array Value) (out:List C),
  Ll ρ dom ok w xs vs→bG ρ dom ok w cs cells.toList→jn fs cs xs=some out→∃cells',Instr.fill place cells vs=some cells'∧bG ρ dom ok w out cells'.toList
 |[],[],cs,cells,out,_,hl,hf=>by
  simp only[jn,Option.some.injEq]at hf;subst hf;exact⟨cells,rfl,hl⟩
 |(i,x)::xs,(j,v)::vs,cs,cells,out,hr,hl,hf=>by
  obtain⟨rfl,hx,hr⟩:=hr;simp only[jn]at hf
  cases hi:fs[i]? with
  |none=>rw[hi]at hf;simp at hf
  |some p=>
   obtain⟨off,size⟩:=p;rw[hi]at hf;simp only at hf
   split at hf
   ·rename_i hc
    obtain⟨hs,hn,hle⟩:=hc;have R5:=b6.cells hx hs;have hlen:=bG.length R5;have hlen2:=bG.length hl;simp only[Array.length_toList]at hlen hlen2;have Yt:=zy off v.cells.toList 0 cells (by simp;omega);simp only[Nat.add_zero]at Yt;have hfold:v.cells.zipIdx.foldl (fun cs (p:Value×Nat)=>cs.setIfInBounds (off+p.2) p.1) cells=(v.cells.toList.zipIdx 0).foldl (fun cs (p:Value×Nat)=>cs.setIfInBounds (off+p.2) p.1) cells:=by
     rw[←Array.foldl_toList,Array.toList_zipIdx]
    have RG:bG ρ dom ok w (kT cs off (cellsOf x)) ((v.cells.toList.zipIdx 0).foldl (fun cs (p:Value×Nat)=>cs.setIfInBounds (off+p.2) p.1) cells).toList:=by
     refine bG.Cy ?_ ?_
     ·rw[nY _ _ _ (by omega)];simp only[Array.length_toList,Yt.1];omega
     intro m c u hc hu;rw[uD _ _ _ (by omega)]at hc;rw[Array.getElem?_toList,Yt.2 m]at hu;simp only[Array.length_toList]at hu
     by_cases hm:off≤m∧m<off+(cellsOf x).length
     ·rw[if_pos hm]at hc;rw[if_pos (by omega)]at hu;obtain⟨u',RZ,Vo⟩:=bG.get R5 _ _ hc;rw[RZ]at hu;obtain rfl:=Option.some.inj hu;exact Vo
     rw[if_neg hm]at hc;rw[if_neg (by omega)]at hu;obtain⟨u',RZ,Vo⟩:=bG.get hl _ _ hc;rw[Array.getElem?_toList,hu]at RZ;obtain rfl:=Option.some.inj RZ;exact Vo
    obtain⟨cells',h1,h2⟩:=o9 hp xs vs _ _ out hr RG hf;refine⟨cells',?_,h2⟩;simp only[Instr.fill,hp i _ hi];rw[if_neg (by simp;omega),hfold];exact h1
   simp at hf
 |[],_::_,_,_,_,h,_,_=>h.elim
 |_::_,[],_,_,_,h,_,_=>h.elim
end
end Go.Eng
namespace Go.Eng
open Go
abbrev fH:=Nat→Option Ty
def eJ (P:Program)(T:fH):Prop:=∀t X,T t=some X→dV P t=some X
def bg:Nat→Loc:=fun _=>⟨none,0⟩
def bm:Nat→Prop:=fun _=>False
def g7 (P:Program)(f:FuncId):Prop:=∃fn,P.funcs[f]? =some fn∧fn.body.isNone=false∧(fn.name== "runtime.NumGoroutine")=false
def Pr (P:Program)(f:FuncId)(args:List V)(r:V):Prop:=
 g7 P f∧∀(ok:Nat→Prop) (w:World) (vs:Array Value),(∀g,ok g→g<w.heap.size)→a7 bg bm ok w args vs.toList→
  Calls P f vs w fun e w'=>∃v,e= .returned v∧Go.RowKit.Below w.heap.size w w'∧b6 bg bm (fun g=>ok g∨(w.heap.size≤g∧g<w'.heap.size)) w' r v
def Bk.flat:Bk→Prop
 |.var _=>False
 |.wins .. =>False
 |_=>True
def Bk.wd:Bk→Nat
 |.ints _ _ _=>1
 |.rows _ w _ _=>w
 |.var _=>0
 |.wins .. =>1
def me:C→Prop
 |.bool _=>True
 |.int _ _=>True
 |_=>False
def Fr (P:Program)(f:FuncId)(args:List V)(B:Bk):Prop:=
 g7 P f∧B.flat∧∀(ok:Nat→Prop) (w:World) (vs:Array Value),(∀g,ok g→g<w.heap.size)→a7 bg bm ok w args vs.toList→
  Calls P f vs w fun e w'=>∃v l,e= .returned v∧Go.RowKit.Below w.heap.size w w'∧l.len=B.len∧(∀g o,l.addr=some (g,o)→w.heap.size≤g∧g<w'.heap.size)∧
   aL bg bm (fun g=>ok g∨(w.heap.size≤g∧g<w'.heap.size∧∀o,l.addr≠some (g,o))) w' l B∧eE (fun _=>l) (fun _=>True) (fun _=>False) w' (.own 0 B.wd 0 B.len) v
def dL (P:Program)(f:FuncId)(args:List V)(B:Bk)(c:C):Prop:=
 me c∧g7 P f∧B.flat∧∀(ok:Nat→Prop) (w:World) (vs:Array Value),(∀g,ok g→g<w.heap.size)→a7 bg bm ok w args vs.toList→
  Calls P f vs w fun e w'=>∃v u l,e= .returned (.tuple #[v,u])∧Go.RowKit.Below w.heap.size w w'∧l.len=B.len∧(∀g o,l.addr=some (g,o)→w.heap.size≤g∧g<w'.heap.size)∧
   aL bg bm (fun g=>ok g∨(w.heap.size≤g∧g<w'.heap.size∧∀o,l.addr≠some (g,o))) w' l B∧eE (fun _=>l) (fun _=>True) (fun _=>False) w' (.own 0 B.wd 0 B.len) v∧aC bg bm (fun _=>False) w' c u
def eI {α:Type}(p:α→Prop)(a:α):Prop:=p a
theorem Lg {α:Type}{p:α→Prop}{a:α}(h:p a):eI p a:=h
def bz (f:Nat→C):Nat→Nat→List C
 |_,0=>[]
 |off,n+1=>f off::bz f (off+1) n
def kX:C→Nat→Nat→C
 |.ints k xs,i,_=>.int k (xs.getD i 0)
 |.rows _ _ f,i,j=>f i j
 |_,_,_=>.any
def HU:C→Nat
 |.ints _ _=>1
 |.rows w _ _=>w
 |_=>0
def n9:Bk→Nat→Nat→C
 |.ints _ k xs,i,_=>.int k (xs.getD i 0)
 |.rows _ _ _ f,i,j=>f i j
 |.var _,_,_=>.any
 |.wins _ _ _ g,i,_=>g i
def Kd:Bk→Nat
 |.ints _ _ _=>1
 |.rows _ w _ _=>w
 |.var _=>0
 |.wins .. =>1
def ga (B:Bk)(wd off len:Nat):C:=
 match B with
 |.ints _ k xs=>if wd=1 then .ints k ((xs.drop off).take len)else .any
 |.rows _ w _ f=>if w=wd then .rows w len (fun i j=>f (off+i) j)else .any
 |.var _=>.any
 |.wins .. =>.any
def Py:C→C
 |.own _ _ _ _=>.any
 |.win _ _ _ _=>.any
 |.ptr _ _=>.any
 |.eptr _ _ _ _=>.any
 |.fn _ _ _=>.any
 |c=>c
def P3 (B:Bk)(off:Nat):C:=
 match B with
 |.var cs=>.elt (.rows cs.length 1 (fun _ j=>Py (cs.getD j .any))) cs.length 0 off
 |_=>.any
def P8 (own:List (Nat×fA))(b2:Nat):C→C
 |.own b w o l=>if b=b2 then(match lo own b with|some B=>ga B.bk w o l|none=>.any)else .any
 |.any=>.any
 |.bool b=>.bool b
 |.int k n=>.int k n
 |.str s=>.str s
 |.nil=>.nil
 |.ints k xs=>.ints k xs
 |.rows w n f=>.rows w n f
 |_=>.any
def Kc (own:List (Nat×fA))(b2:Nat)(B:Bk)(off len:Nat):C:=
 match B with
 |.wins _ b3 _ g=>if b3=b2 then .rows 1 len (fun i _=>P8 own b2 (g (off+i)))else .any
 |_=>.any
def jM (own:List (Nat×fA))(nx0:Nat):C→C
 |.own b wd off len=>if b<nx0 then(match lo own b with|some B=>ga B.bk wd off len|none=>.any)else .any
 |.win b b2 off len=>if b<nx0 then(if b2<nx0 then(match lo own b with|some B=>Kc own b2 B.bk off len|none=>.any)else .any)else .any
 |.ptr b off=>if b<nx0 then(match lo own b with|some B=>P3 B.bk off|none=>.any)else .any
 |.eptr _ _ _ _=>.any
 |.fn f n _=>if n=0 then .fn f 0 (fun _=>.any)else .any
 |c=>c
def Bq (own:List (Nat×fA))(nx0:Nat):V→V
 |.one c=>.one (jM own nx0 c)
 |.agg cs=>.agg (cs.map (jM own nx0))
 |_=>.unk
def gr:C→List Nat
 |.own b _ _ _=>[b]
 |.win b b2 _ _=>[b,b2]
 |.ptr b _=>[b]
 |_=>[]
def kv:V→List Nat
 |.one c=>gr c
 |.agg cs=>cs.flatMap gr
 |_=>[]
def gp:C→Bool
 |.any=>true
 |.bool _=>true
 |.int _ _=>true
 |.str _=>true
 |.nil=>true
 |_=>false
def nq:V→Bool
 |.unk=>true
 |.one c=>gp c
 |.agg cs=>cs.all gp
 |.aB vs=>vs.all fun|.one c=>gp c|.agg cs=>cs.all gp|.unk=>true|.aB _=>false
def Hm (E:Ty):Prop:=E.k.agg=some true∨(E.k.agg=some false∧E.size=1)
def yJ (T:fH)(s:St)(nx0:Nat)(t:TypeId)(x:Operand)(K:eK→Prop):Prop:=
 match T t with
 |some E=>match s.ev x with
  |.one (.ptr b off)=>b<nx0∧match lo s.own b with
   |some B=>match B.bk with
    |.var cs=>off+E.size≤cs.length∧Hm E∧K ⟨OS E.k ((cs.drop off).take E.size),none,[]⟩
    |_=>False
   |none=>False
  |.one (.elt c wd i off)=>HU c=wd∧off+E.size≤wd∧Hm E∧K ⟨OS E.k (bz (kX c i) off E.size),none,[]⟩
  |.one (.eptr b wd i off)=>b<nx0∧match lo s.own b with
   |some B=>Kd B.bk=wd∧off+E.size≤wd∧Hm E∧K ⟨OS E.k (bz (n9 B.bk i) off E.size),none,[]⟩
   |none=>False
  |_=>False
 |none=>False
def lH (k:IntKind):List C→Option (List Int)
 |[]=>some []
 |.int k' n::r=>if k'=k then(lH k r).map (n:: ·)else none
 |_::_=>none
def eR (z:List C):Nat→List C
 |0=>[]
 |n+1=>z++eR z n
def gm (size:Nat):Nat→Nat→List (Nat×Nat)
 |_,0=>[]
 |i,n+1=>(i*size,size)::gm size (i+1) n
def Dd (E:Ty)(e:TypeId)(id:Nat)(fz:Bool)(len:Nat)(cs:List C)(ids:List Nat)(K:eK→Prop):Prop:=
 match E.k with
 |.int k=>match lH k cs with
  |some xs=>if fz then K ⟨.one (.ints k xs),none,ids⟩else K ⟨.one (.own id 1 0 len),some (.ints e k xs),ids⟩
  |none=>False
 |_=>if fz then K ⟨.one (.rows E.size len (fun i j=>cs.getD (i*E.size+j) .any)),none,ids⟩
  else K ⟨.one (.own id E.size 0 len),some (.rows e E.size len (fun i j=>cs.getD (i*E.size+j) .any)),ids⟩
def Mm (own:List (Nat×fA)):Bool:=match lo own 999 with
 |some ⟨.wins _ _ _ _,_⟩=>true
 |_=>false
def BL:Option (List C)→Option (Nat×Nat×Nat×Nat)
 |some [.own b w o l]=>some (b,w,o,l)
 |_=>none
def gZ (T:fH)(s:St)(nx0 id:Nat)(fz:Bool)(t:TypeId)(len:Nat)(parts:Array (Nat×Operand))(K:eK→Prop):Prop:=
 match T t with
 |some S=>match S.k with
  |.sl e=>match T e with
   |some E=>E.zero.length=E.size∧len*E.size≤16777216∧(match E.k with|.int _=>E.size=1|_=>0<E.size)∧
     match(if Mm s.own then BL (jn (gm E.size 0 len) (eR E.zero len) (parts.toList.map fun p=>(p.1,s.ev p.2)))else none)with
     |some (b,w,o,l)=>len=1∧E.size=1∧K ⟨.one (.win id b 0 1),some (.wins e b 1 (fun _=>.own b w o l)),[]⟩
     |none=>match jn (gm E.size 0 len) (eR E.zero len) (parts.toList.map fun p=>(p.1,Bq s.own nx0 (s.ev p.2)))with
      |some cs=>Dd E e id fz len cs ((parts.toList.map fun p=>kv (s.ev p.2)).flatten.filter (fun b=>decide (b<nx0))) K
      |none=>False
   |none=>False
  |_=>False
 |none=>False
def jw (T:fH)(s:St)(id:Nat)(fz:Bool)(t:TypeId)(l c:Operand)(K:eK→Prop):Prop:=
 match T t with
 |some S=>match S.k with
  |.sl e=>match T e with
   |some E=>match s.ev l,s.ev c with
    |.one (.int _ l),.one (.int _ c)=>E.zero.length=E.size∧0<E.size∧(0≤l∧l≤c∧c*E.bytes≤281474976710656∧c≤9223372036854775807)∧
     match E.k with
     |.int k=>E.zero=[.int k 0]∧if fz=true then(if k= .i64 then K ⟨.one (.ints k (List.replicate l.toNat 0)),none,[]⟩else K ⟨.one (.own id 1 0 l.toNat),some (.ints e k (List.replicate c.toNat 0)),[]⟩)else K ⟨.one (.own id 1 0 l.toNat),some (.ints e k (List.replicate c.toNat 0)),[]⟩
     |_=>K ⟨.one (.own id E.size 0 l.toNat),some (.rows e E.size c.toNat (fun _ j=>E.zero.getD j .any)),[]⟩
    |_,_=>False
   |none=>False
  |_=>False
 |none=>False
def sk (s:St)(x:Option Operand)(d:Int)(K:Int→Prop):Prop:=
 match x with
 |none=>K d
 |some x=>match s.ev x with
  |.one (.int _ i)=>K i
  |_=>False
def sd (T:fH)(s:St)(t:TypeId)(x:Operand)(lo hi:Option Operand)(m:Operand)(K:eK→Prop):Prop:=
 match T t with
 |some S=>match S.k with
  |.sl e=>match T e with
   |some E=>match s.ev x with
    |.one (.own b wd off len)=>wd=E.size∧match hi with
     |some y=>sk s lo 0 fun l=>sk s (some y) len fun h=>sk s (some m) len fun k=>(0≤l∧l≤h∧h≤k∧k≤len)∧K ⟨.one (.own b wd (off+l.toNat) (h-l).toNat),none,[]⟩
     |none=>False
    |_=>False
   |none=>False
  |_=>False
 |none=>False
def ud (T:fH)(s:St)(t:TypeId)(x:Operand)(lo hi mx:Option Operand)(K:eK→Prop):Prop:=
 match mx with
 |some m=>sd T s t x lo hi m K
 |none=>match T t with
 |some S=>match S.k with
  |.sl e=>match T e with
   |some E=>match s.ev x with
    |.one (.own b wd off len)=>wd=E.size∧sk s lo 0 fun l=>sk s hi len fun h=>(0≤l∧l≤h∧h≤len)∧K ⟨.one (.own b wd (off+l.toNat) (h-l).toNat),none,[]⟩
    |.one (.win b b2 off len)=>1=E.size∧sk s lo 0 fun l=>sk s hi len fun h=>(0≤l∧l≤h∧h≤len)∧K ⟨.one (.win b b2 (off+l.toNat) (h-l).toNat),none,[]⟩
    |.one (.ints k xs)=>1=E.size∧sk s lo 0 fun l=>sk s hi xs.length fun h=>(0≤l∧l≤h∧h≤xs.length)∧K ⟨.one (.ints k ((xs.drop l.toNat).take (h-l).toNat)),none,[]⟩
    |.one (.rows wd n f)=>wd=E.size∧sk s lo 0 fun l=>sk s hi n fun h=>(0≤l∧l≤h∧h≤n)∧K ⟨.one (.rows wd (h-l).toNat (fun i j=>f (l.toNat+i) j)),none,[]⟩
    |.one .nil=>sk s lo 0 fun l=>sk s hi 0 fun h=>(l=0∧h=0)∧K ⟨.one .nil,none,[]⟩
    |_=>False
   |none=>False
  |.str=>match s.ev x with
   |.one (.str b)=>sk s lo 0 fun l=>sk s hi b.size fun h=>(0≤l∧l≤h∧h≤b.size)∧K ⟨.one (.str (b.extract l.toNat h.toNat)),none,[]⟩
   |_=>False
  |_=>False
 |none=>False
def jk (T:fH)(s:St)(t:TypeId)(x:Operand)(f:Nat)(K:eK→Prop):Prop:=
 match T t with
 |some E=>match E.k with
  |.st fs=>match fs[f]? with
   |some (fo,fsz)=>0<fsz∧match s.ev x with
    |.one (.ptr b off)=>K ⟨.one (.ptr b (off+fo)),none,[]⟩
    |.one (.elt c wd i off)=>K ⟨.one (.elt c wd i (off+fo)),none,[]⟩
    |.one (.eptr b wd i off)=>K ⟨.one (.eptr b wd i (off+fo)),none,[]⟩
    |_=>False
   |none=>False
  |_=>False
 |none=>False
def ji (T:fH)(s:St)(t:TypeId)(x i:Operand)(K:eK→Prop):Prop:=
 match T t with
 |some S=>match S.k with
  |.sl e=>match T e with
   |some E=>match s.ev i with
    |.one (.int _ i)=>match s.ev x with
     |.one (.own b wd off len)=>wd=E.size∧0<E.size∧(0≤i∧i<len)∧K ⟨.one (.eptr b wd (off+i.toNat) 0),none,[]⟩
     |.one (.win b _ off len)=>1=E.size∧(0≤i∧i<len)∧K ⟨.one (.eptr b 1 (off+i.toNat) 0),none,[]⟩
     |.one (.ints k xs)=>1=E.size∧(0≤i∧i<xs.length)∧K ⟨.one (.elt (.ints k xs) 1 i.toNat 0),none,[]⟩
     |.one (.rows wd n f)=>wd=E.size∧0<E.size∧(0≤i∧i<n)∧K ⟨.one (.elt (.rows wd n f) wd i.toNat 0),none,[]⟩
     |_=>False
    |_=>False
   |none=>False
  |.arr n e=>match T e with
   |some E=>match s.ev i with
    |.one (.int _ i)=>match s.ev x with
     |.one (.ptr b off)=>(0≤i∧i<n)∧K ⟨.one (.ptr b (off+i.toNat*E.size)),none,[]⟩
     |_=>False
    |_=>False
   |none=>False
  |_=>False
 |none=>False
def wz (a b:ByteArray):Bool:=a.toList==b.toList
def IT (b:ByteArray)(i:Nat):Int:=((b[i]?.getD 0).toNat:Int)
def mI (T:fH)(s:St)(src dst:TypeId)(x:Operand)(K:eK→Prop):Prop:=
 match T src,T dst with
 |some S,some D=>match D.k with
  |.int k=>match s.ev x with
   |.one (.int _ n)=>K ⟨.one (.int k (k.wrap n)),none,[]⟩
   |_=>False
  |.str=>match S.k with
   |.sl e=>match T e with
    |some E=>match E.k with
     |.int k=>k= .u8∧match s.ev x with
      |.one (.ints k' xs)=>k'= .u8∧K ⟨.one (.str (strOfNums xs)),none,[]⟩
      |_=>False
     |_=>False
    |none=>False
   |_=>False
  |_=>False
 |_,_=>False
def uz (T:fH)(s:St)(t:TypeId)(x i:Operand)(K:eK→Prop):Prop:=
 match T t with
 |some E=>match E.k with
  |.str=>match s.ev i with
   |.one (.int _ i)=>match s.ev x with
    |.one (.str b)=>(0≤i∧i<b.size)∧K ⟨.one (.int .u8 (IT b i.toNat)),none,[]⟩
    |_=>False
   |_=>False
  |_=>False
 |none=>False
def Na (op:BinOp)(a b:ByteArray)(K:C→Prop):Prop:=
 match op with
 |.add=>((a.size+b.size:Nat):Int)≤9223372036854775807∧K (.str (a++b))
 |.eql=>K (.bool (wz a b))
 |.neq=>K (.bool (!wz a b))
 |_=>False
def H0 (T:fH)(s:St)(op:BinOp)(t:TypeId)(x y:Operand)(K:eK→Prop):Prop:=
 match s.ev x,s.ev y with
 |.one (.int k a),.one (.int k' b)=>Ew op k a k' b fun c=>K ⟨.one c,none,[]⟩
 |.one (.bool a),.one (.bool b)=>match T t with
  |some E=>match E.k with
   |.bool=>match op with
    |.eql=>K ⟨.one (.bool (a==b)),none,[]⟩
    |.neq=>K ⟨.one (.bool (a !=b)),none,[]⟩
    |_=>False
   |_=>False
  |none=>False
 |.one (.str a),.one (.str b)=>Na op a b fun c=>K ⟨.one c,none,[]⟩
 |_,_=>False
def Pp (s:St)(op:UnOp)(x:Operand)(K:eK→Prop):Prop:=
 match op,s.ev x with
 |.not,.one (.bool b)=>K ⟨.one (.bool (!b)),none,[]⟩
 |.neg,.one (.int k n)=>K ⟨.one (.int k (k.wrap (0-n))),none,[]⟩
 |_,_=>False
def iC:C→Option Nat
 |.own _ _ _ len=>some len
 |.win _ _ _ len=>some len
 |.ints _ xs=>some xs.length
 |.rows _ n _=>some n
 |.nil=>some 0
 |_=>none
def MR:V→V→Option V
 |.one (.int k x),.one (.int _ y)=>some (.one (.int k (if x<y then y else x)))
 |_,_=>none
def zM:V→V→Option V
 |.one (.int k x),.one (.int _ y)=>some (.one (.int k (if y<x then y else x)))
 |_,_=>none
def mf (T:fH)(s:St)(b:Builtin)(args:List Operand)(tys:List TypeId)(K:eK→Prop):Prop:=
 match b,args,tys with
 |.len,[x],[t]=>match T t with
  |some E=>match E.k with
   |.sl _=>match s.ev x with
    |.one c=>match iC c with
     |some n=>K ⟨.one (.int .i64 n),none,[]⟩
     |none=>False
    |_=>False
   |.str=>match s.ev x with
    |.one (.str b)=>K ⟨.one (.int .i64 b.size),none,[]⟩
    |_=>False
   |_=>False
  |none=>False
 |.max,[x,y],_=>match MR (s.ev x) (s.ev y)with
  |some v=>K ⟨v,none,[]⟩
  |none=>False
 |.min,[x,y],_=>match zM (s.ev x) (s.ev y)with
  |some v=>K ⟨v,none,[]⟩
  |none=>False
 |.min,[x,y,z],_=>match zM (s.ev x) (s.ev y)with
  |some v=>match zM v (s.ev z)with
   |some u=>K ⟨u,none,[]⟩
   |none=>False
  |none=>False
 |_,_,_=>False
def s9 (T:fH)(s:St)(t:TypeId)(x:Operand)(f:Nat)(K:eK→Prop):Prop:=
 match T t with
 |some E=>match E.k with
  |.st fs=>match fs[f]? with
   |some (fo,fsz)=>match s.ev x with
    |.agg cs=>E.fl[f]? =some true∧fsz=1∧fo<cs.length∧K ⟨.one (cs.getD fo .any),none,[]⟩
    |_=>False
   |none=>False
  |_=>False
 |none=>False
def rM:V→Bool
 |.one c=>match c with
  |.fn _ _ _=>false
  |_=>true
 |_=>false
def DS:V→C
 |.one c=>c
 |_=>.any
def lZ (n:Nat)(caps:Nat→C):List V:=(List.range n).map fun i=>.one (caps i)
def No (own:List (Nat×fA))(nx0:Nat):C→C
 |.fn _ _ _=>.any
 |c=>jM own nx0 c
def DI (own:List (Nat×fA))(nx0:Nat):V→V
 |.one (.fn f n caps)=>.one (if n=0 then .fn f 0 (fun _=>.any)else .fn f n (fun i=>No own nx0 (caps i)))
 |x=>Bq own nx0 x
def o8:V→List Nat
 |.one (.fn _ n caps)=>if n=0 then[]else if n=1 then gr (caps 0)else(List.range n).flatMap fun i=>gr (caps i)
 |x=>kv x
def v7 (P:Program)(s:St)(nx0 id:Nat)(g:Operand)(args:List Operand)(K:eK→Prop):Prop:=
 match s.ev g with
 |.one (.fn f n caps)=>((∃r,Pr P f ((args.map s.ev++lZ n caps).map (DI s.own nx0)) r∧
   eI K ⟨r,none,if nq r then[]else((args.map s.ev++lZ n caps).map o8).flatten.filter (fun b=>decide (b<nx0))⟩)∨
   (∃B,Fr P f ((args.map s.ev++lZ n caps).map (DI s.own nx0)) B∧eI K ⟨.one (.own id B.wd 0 B.len),some B,((args.map s.ev++lZ n caps).map o8).flatten.filter (fun b=>decide (b<nx0))⟩)∨
   (∃B c,dL P f ((args.map s.ev++lZ n caps).map (DI s.own nx0)) B c∧eI K ⟨.aB [.one (.own id B.wd 0 B.len),.one c],some B,((args.map s.ev++lZ n caps).map o8).flatten.filter (fun b=>decide (b<nx0))⟩))
 |_=>False
def eL (T:fH)(P:Program)(op:Op)(s:St)(nx0 id:Nat)(fz:Bool)(K:eK→Prop):Prop:=
 match op with
 |.move x=>K ⟨s.ev x,none,[]⟩
 |.assign x=>K ⟨s.ev x,none,[]⟩
 |.pick c a b=>match s.ev c with
  |.one (.bool t)=>K ⟨if t then s.ev a else s.ev b,none,[]⟩
  |_=>False
 |.alloc e=>match T e with
  |some E=>K ⟨.one (.ptr id 0),some (.var E.zero),[]⟩
  |none=>False
 |.box _ x=>(s.ev x).n7=true∧K ⟨.one (.ptr id 0),some (.var (cellsOf (s.ev x))),[]⟩
 |.build t parts=>match T t with
  |some E=>match E.k with
   |.st fs=>match jn fs E.zero (parts.toList.map fun p=>(p.1,s.ev p.2))with
    |some cs=>K ⟨.agg cs,none,[]⟩
    |none=>False
   |_=>False
  |none=>False
 |.buildSlice t len parts=>gZ T s nx0 id fz t len parts K
 |.field t x f=>s9 T s t x f K
 |.load t x=>yJ T s nx0 t x K
 |.binOp op t x y _=>H0 T s op t x y K
 |.unOp op _ x=>Pp s op x K
 |.convert src dst x=>mI T s src dst x K
 |.makeSlice t l c=>jw T s id fz t l c K
 |.slice t x lo hi mx=>ud T s t x lo hi mx K
 |.fieldAddr t x f=>jk T s t x f K
 |.indexAddr t x i=>ji T s t x i K
 |.index t x i=>uz T s t x i K
 |.extract x i=>match s.ev x with
  |.aB vs=>match vs[i]? with
   |some v=>K ⟨v,none,[]⟩
   |none=>False
  |_=>False
 |.nilCheck x=>match s.ev x with
  |.one (.ptr b off)=>K ⟨.one (.ptr b off),none,[]⟩
  |.one (.elt c wd i off)=>K ⟨.one (.elt c wd i off),none,[]⟩
  |.one (.eptr b wd i off)=>K ⟨.one (.eptr b wd i off),none,[]⟩
  |_=>False
 |.makeFunc fn first captured=>match fn,first.size with
  |.func f,0=>(captured.toList.all fun x=>rM (s.ev x))=true∧K ⟨.one (.fn f captured.size (fun i=>DS ((captured.toList.map s.ev).getD i .unk))),none,[]⟩
  |_,_=>False
 |.call c=>match c.callee with
  |.builtin b=>mf T s b c.args.toList c.argTypes.toList K
  |.value g=>v7 P s nx0 id g c.args.toList K
  |.invoke _ _=>False
 |_=>False
end Go.Eng
namespace Go.Eng
open Go
theorem dW {P:Program}{x:Sem Value}{w w':World}{v:Value}(h:x.run P w= .ok v w'):(do pure (Next.value (←x)):Sem Next).run P w= .ok (.value v) w':=by
 rw[Sem.run_bind,h];rfl
theorem aS {s Z:St}{nx0:Nat}{o:Oper}(ha:gN s Z nx0 o){x:Operand}(hx:x∈o.op.operands){X:V}(h:s.ev x=X):Z.ev x=X:=(ha.ev x hx).trans h
section
variable {P:Program}{T:fH}(hT:eJ P T){o:Oper}{s:St}{nx0 id:Nat}{K:eK→Prop}
include hT
theorem bB {t:TypeId}{E:Ty}(h:T t=some E):∃i d z,P.info? t=some i∧P.underlying t=some d∧i.zero=some z∧E.k=cG P d∧E.size=i.size∧E.bytes=i.bytes∧E.zero=z.cells.toList.map Df∧z.cells.toList.all Value.oneCell'=true:=
 Qz.parts ⟨hT t E h⟩
theorem QK {t:TypeId}{E:Ty}(h:T t=some E):∃d,P.underlying t=some d∧E.k=cG P d∧E.fl=NP P d:=by
 have h:=hT t E h;unfold dV at h
 cases hi:P.info? t with
 |none=>rw[hi]at h;simp at h
 |some i=>
  cases hu:P.underlying t with
  |none=>rw[hi,hu]at h;simp at h
  |some d=>
   cases hz:i.zero with
   |none=>rw[hi,hu]at h;simp[hz]at h
   |some z=>
    rw[hi,hu]at h;simp only[hz]at h
    split at h
    ·simp only[Option.some.injEq]at h;subst h;exact⟨d,rfl,rfl,rfl⟩
    cases h
theorem fm {t e:TypeId}{S:Ty}(h:T t=some S)(hk:S.k= .sl e):P.underlying t=some (.slice e):=by
 obtain⟨i,d,z,_,hu,_,TO,_⟩:=bB hT h;rw[hk]at TO;rw[hu]
 cases d<;>simp only[cG]at TO
 case slice=>cases TO;rfl
 case struct fs=>split at TO<;>cases TO
 all_goals cases TO
theorem PJ {t e:TypeId}{n:Nat}{S:Ty}(h:T t=some S)(hk:S.k= .arr n e):P.underlying t=some (.array n e):=by
 obtain⟨i,d,z,_,hu,_,TO,_⟩:=bB hT h;rw[hk]at TO;rw[hu]
 cases d<;>simp only[cG]at TO
 case array=>cases TO;rfl
 case struct fs=>split at TO<;>cases TO
 all_goals cases TO
theorem Pe {t:TypeId}{S:Ty}(h:T t=some S)(hk:S.k= .str):P.underlying t=some .string:=by
 obtain⟨i,d,z,_,hu,_,TO,_⟩:=bB hT h;rw[hk]at TO;rw[hu]
 cases d<;>simp only[cG]at TO
 case string=>rfl
 case struct fs=>split at TO<;>cases TO
 all_goals cases TO
theorem O8 {t:TypeId}{x:Operand}(ho:o.op= .load t x)(hd:bT o s.n)(h:yJ T s nx0 t x K):∃e,K e∧a6 P o s nx0 id e:=by
 have Sh:x∈o.op.operands:=by rw[ho];simp[Op.operands]
 have RK:∀(a:Act) (w:World) (g off:Nat) (v:Value),a.eval x= .pointer (some ⟨g,off,none⟩)→(loadVar t ⟨g,off,none⟩).run P w= .ok v w→(execOp a.eval o).run P w= .ok (.value v) w:=by
  intro a w g off v he hl;unfold execOp;rw[ho];refine dW ?_;simp only[Instr.loadAt,he,Instr.sureAddr,Sem.run_bind,Sem.run_pure,Result.andThen_ok];exact hl
 unfold yJ at h
 cases RV:T t with
 |none=>rw[RV]at h;exact h.elim
 |some E=>
  rw[RV]at h;simp only at h;obtain⟨i,d,z,hi,hu,_,hk,SJ,_⟩:=bB hT RV;have Xg:Hm E→(cG P d).agg=some true∨((cG P d).agg=some false∧i.size=1):=fun hh=>by rw[←hk,←SJ];exact hh
  split at h
  ·-- a variable's block
   rename_i b off hx
   obtain⟨hb,h⟩:=h
   cases R2:lo s.own b with
   |none=>rw[R2]at h;exact h.elim
   |some B=>
    rw[R2]at h;simp only at h
    split at h
    ·rename_i cs Yq
     obtain⟨hle,WS,hK⟩:=h;refine⟨_,hK,a6.pure hd fun G dom ρ Z a w hs ha=>?_⟩;obtain⟨rw_,hz⟩:=ha.vX hb R2;obtain⟨_,_,RG,_⟩:=hs.own b _ hz;have RJ:=hs.ev x;rw[aS ha Sh hx]at RJ;obtain⟨_,g,o',RD,RQ⟩:=RJ;unfold aL at RG;rw[RD]at RG;obtain⟨cur,e,hg,hc⟩:=RG;simp only[Yq]at hc;obtain⟨v,hv,hr⟩:=jO (P:=P) (t:=t) hi hu g (o'+off) ((cs.drop off).take E.size) (by rw[←SJ];simp;omega) (Xg WS) (fun j c hj=>by
      rw[List.getElem?_take]at hj
      split at hj
      ·rw[List.getElem?_drop]at hj;obtain⟨u,RZ,hr⟩:=hc (off+j) c hj;exact⟨u,by rw[cell_of_row w g _ cur e (0,0) hg,Nat.add_assoc];exact RZ,hr⟩
      simp at hj)
     exact⟨v,RK a w _ _ v RQ hv,by rw[hk];exact hr⟩
    exact h.elim
  ·-- an element of what only is looked at
   rename_i c wd ix off hx
   obtain⟨hw,hle,WS,hK⟩:=h;refine⟨_,hK,a6.pure hd fun G dom ρ Z a w hs ha=>?_⟩;have RJ:=hs.ev x;rw[aS ha Sh hx]at RJ;obtain⟨g,o',n,cap,UT,Tl,RQ⟩:=RJ;have R5:∀j,j<wd→∃u,w.cell? ⟨g,o'+(ix*wd+j),none⟩=some u∧aP (aG G Z.own ρ w) w (kX c ix j) u:=by
    intro j hj
    cases c with
    |ints k xs=>
     obtain⟨a',cap',he,_,hr⟩:=UT;simp only[Value.slice.injEq]at he;obtain⟨rfl,rfl,rfl⟩:=he;simp only[HU]at hw;subst hw
     rcases hr with hr|⟨g',o'',he,_,Sc⟩
     ·omega
     simp only[Option.some.injEq,Addr.mk.injEq,and_true]at he;obtain⟨rfl,rfl⟩:=he;refine⟨_,?_,rfl⟩
     have:=Sc ix Tl
     rw[show ix*1+j=ix by omega];exact this
    |rows wd' n' f=>
     obtain⟨a',cap',he,_,hr⟩:=UT;simp only[Value.slice.injEq]at he;obtain⟨rfl,rfl,rfl⟩:=he;simp only[HU]at hw;subst hw
     rcases hr with hr|⟨g',o'',he,_,Sc⟩
     ·omega
     simp only[Option.some.injEq,Addr.mk.injEq,and_true]at he;obtain⟨rfl,rfl⟩:=he;exact Sc ix j Tl hj
    |_=>simp only[HU]at hw;omega
   have UU:∀(n Su j:Nat) c',(bz (kX c ix) Su n)[j]? =some c'→j<n∧c'=kX c ix (Su+j):=by
    intro n
    induction n with
    |zero=>intro Su j c' hj;simp[bz]at hj
    |succ n ih=>
     intro Su j c' hj
     cases j with
     |zero=>simp[bz]at hj;exact⟨by omega,hj.symm⟩
     |succ j=>
      obtain⟨h1,h2⟩:=ih (Su+1) j c' (by simpa[bz]using hj);exact⟨by omega,by rw[h2,show Su+1+j=Su+(j+1) by omega]⟩
   have hlen:∀n Su,(bz (kX c ix) Su n).length=n:=by
    intro n
    induction n with
    |zero=>intro _;rfl
    |succ n ih=>intro Su;simp[bz,ih]
   obtain⟨v,hv,hr⟩:=jO (P:=P) (ρ:=ρ) (dom:=dom) (ok:=aG G Z.own ρ w) (w:=w) (t:=t) hi hu g (o'+(ix*wd+off)) (bz (kX c ix) off E.size) (by rw[hlen,SJ]) (Xg WS) (fun j c' hj=>by
    obtain⟨h1,rfl⟩:=UU _ _ _ _ hj;obtain⟨u,RZ,hr⟩:=R5 (off+j) (by omega);exact⟨u,by rw[show o'+(ix*wd+off)+j=o'+(ix*wd+(off+j)) by omega];exact RZ,aC.bh hr⟩)
   exact⟨v,RK a w _ _ v RQ hv,by rw[hk];exact hr⟩
  ·-- an element of a slice of the frame's own
   rename_i b wd ix off hx
   obtain⟨hb,h⟩:=h
   cases R2:lo s.own b with
   |none=>rw[R2]at h;exact h.elim
   |some B=>
    rw[R2]at h;simp only at h;obtain⟨hw,hle,WS,hK⟩:=h;refine⟨_,hK,a6.pure hd fun G dom ρ Z a w hs ha=>?_⟩;obtain⟨rw_,hz⟩:=ha.vX hb R2;obtain⟨_,hlenρ,RG,_⟩:=hs.own b _ hz;have RJ:=hs.ev x;rw[aS ha Sh hx]at RJ;obtain⟨_,Tl,g,o',RD,RQ⟩:=RJ;unfold aL at RG;rw[RD]at RG;obtain⟨cur,e,hg,hc⟩:=RG;rw[hlenρ]at Tl;simp only at hc Tl;have R5:∀j,j<wd→∃u,w.cell? ⟨g,o'+(ix*wd+j),none⟩=some u∧aC ρ dom (aG G Z.own ρ w) w (n9 B.bk ix j) u:=by
     intro j hj;rw[cell_of_row w g _ cur e (0,0) hg]
     cases hB:B.bk with
     |var cs=>rw[hB]at hw;simp only[Kd]at hw;omega
     |ints e' k xs=>
      rw[hB]at hc hw Tl;simp only[Kd]at hw;subst hw;simp only[Bk.len]at Tl;obtain⟨u,RZ,hr⟩:=hc ix (.int k (xs.getD ix 0)) (by simp[Bk.cell,X8 Tl]);exact⟨u,by rw[show ix*1+j=ix by omega];exact RZ,aC.bh hr⟩
     |wins e' b2 n' g'=>
      rw[hB]at hc hw Tl;simp only[Kd]at hw;subst hw;simp only[Bk.len]at Tl;obtain⟨u,RZ,hr⟩:=hc ix (g' ix) (by simp only[Bk.cell,if_pos Tl]);exact⟨u,by rw[show ix*1+j=ix by omega];exact RZ,hr⟩
     |rows e' wd' n' f=>
      rw[hB]at hc hw Tl;simp only[Kd]at hw;subst hw;simp only[Bk.len]at Tl;have RE:ix*wd'+j<n'*wd':=by
       have:(ix+1)*wd'≤n'*wd':=Nat.mul_le_mul_right _ Tl
       rw[Nat.add_mul]at this;omega
      obtain⟨u,RZ,hr⟩:=hc (ix*wd'+j) (f ix j) (by
       simp only[Bk.cell,if_pos RE];rw[Nat.mul_comm ix wd',Nat.mul_add_div (by omega),Nat.div_eq_of_lt hj,Nat.mul_add_mod,Nat.mod_eq_of_lt hj];simp)
      exact⟨u,RZ,aC.bh hr⟩
    have UU:∀(n Su j:Nat) c',(bz (n9 B.bk ix) Su n)[j]? =some c'→j<n∧c'=n9 B.bk ix (Su+j):=by
     intro n
     induction n with
     |zero=>intro Su j c' hj;simp[bz]at hj
     |succ n ih=>
      intro Su j c' hj
      cases j with
      |zero=>simp[bz]at hj;exact⟨by omega,hj.symm⟩
      |succ j=>
       obtain⟨h1,h2⟩:=ih (Su+1) j c' (by simpa[bz]using hj);exact⟨by omega,by rw[h2,show Su+1+j=Su+(j+1) by omega]⟩
    have hlen:∀n Su,(bz (n9 B.bk ix) Su n).length=n:=by
     intro n
     induction n with
     |zero=>intro _;rfl
     |succ n ih=>intro Su;simp[bz,ih]
    obtain⟨v,hv,hr⟩:=jO (P:=P) (ρ:=ρ) (dom:=dom) (ok:=aG G Z.own ρ w) (w:=w) (t:=t) hi hu g (o'+(ix*wd+off)) (bz (n9 B.bk ix) off E.size) (by rw[hlen,SJ]) (Xg WS) (fun j c' hj=>by
     obtain⟨h1,rfl⟩:=UU _ _ _ _ hj;obtain⟨u,RZ,hr⟩:=R5 (off+j) (by omega);exact⟨u,by rw[show o'+(ix*wd+off)+j=o'+(ix*wd+(off+j)) by omega];exact RZ,hr⟩)
    exact⟨v,RK a w _ _ v RQ hv,by rw[hk];exact hr⟩
  exact h.elim
end
end Go.Eng
namespace Go.Eng
open Go
theorem a6.newVar {P:Program}{o:Oper}{s:St}{nx0 id:Nat}{e:TypeId}{cs:List C}(RE:iq o.op=false)(hd:bT o s.n)
  (h:∀G dom ρ Z a w,aR G dom ρ Z a w→gN s Z nx0 o→∃cells:Array Value,(execOp a.eval o).run P w= .ok (.value (.pointer (some ⟨w.heap.size,0,none⟩))) (w.alloc (.cells cells e))∧bG ρ dom (aG G Z.own ρ w) w cs cells.toList):
  a6 P o s nx0 id ⟨.one (.ptr id 0),some (.var cs),[]⟩:=by
 refine⟨?_,fun h=>by rw[RE]at h;cases h⟩;intro G dom ρ Z a w hs hid ha Q next hk;obtain⟨cells,hr,hl⟩:=h G dom ρ Z a w hs ha;have h1:=hs.xH hid (.var cs) cells e (fun j c hj=>by
  obtain⟨u,hu,hr⟩:=bG.get hl j c (by simpa[Bk.cell]using hj);exact⟨u,by simpa using hu,hr⟩)
 have h2:=h1.put (dst:=o.dst) (x:=.one (.ptr id 0)) (v:=.pointer (some ⟨w.heap.size,0,none⟩)) (fun d hh=>by have:=hd d hh;rw[←ha.n]at this;exact this)
  (by exact⟨.inr rfl,w.heap.size,0,by rw[lP],rfl⟩)
 have e2:Z.add o.dst id ⟨.one (.ptr id 0),some (.var cs),[]⟩=St.put {Z with own:=eD Z.own id ⟨.var cs,true⟩} o.dst (.one (.ptr id 0)):=by
  cases o.dst<;>rfl
 rw[←e2]at h2;exact Oper.cQ hr (hk _ _ ⟨_,h2⟩)
theorem FW (l:List (Nat×fA)):dJ l []=l:=by
 induction l with
 |nil=>rfl
 |cons x l ih=>obtain⟨b,B⟩:=x;simp[dJ,ih]
theorem Aq (l:List (Nat×fA))(ids:List Nat):uO l ids=dJ l ids:=by
 cases ids with
 |nil=>exact(FW l).symm
 |cons x ids=>rfl
theorem a6.newRow {P:Program}{o:Oper}{s:St}{nx0 id:Nat}{e:TypeId}{B:Bk}{wd len:Nat}(ids:List Nat)(RE:iq o.op=false)(hd:bT o s.n)(hB:∀cs,B≠ .var cs)(hlen:len≤B.len)
  (h:∀G dom ρ Z a w,aR G dom ρ Z a w→gN s Z nx0 o→∃(cells:Array Value) (cap:Nat),(execOp a.eval o).run P w= .ok (.value (.slice (some ⟨w.heap.size,0,none⟩) len cap)) (w.alloc (.cells cells e))∧len≤cap∧cap*wd≤cells.size∧
   ∀j c,B.cell j=some c→∃u,cells[j]? =some u∧aP (aG G (dJ Z.own ids) ρ w) w c u):
  a6 P o s nx0 id ⟨.one (.own id wd 0 len),some B,ids⟩:=by
 refine⟨?_,fun h=>by rw[RE]at h;cases h⟩;intro G dom ρ Z a w hs hid ha Q next hk;obtain⟨cells,cap,hr,R8,SJ,hl⟩:=h G dom ρ Z a w hs ha;have h1:=(hs.dJ ids).xH hid B cells e (fun j c hj=>by
  obtain⟨u,hu,hr⟩:=hl j c hj;refine⟨u,hu,?_⟩
  cases B with
  |var cs=>exact absurd rfl (hB cs)
  |ints e k xs=>exact hr
  |rows e w n f=>exact hr
  |wins e b2 n g=>exact aC.bh hr)
 have h2:=h1.put (dst:=o.dst) (x:=.one (.own id wd 0 len)) (v:=.slice (some ⟨w.heap.size,0,none⟩) len cap) (fun d hh=>by have:=hd d hh;rw[←ha.n]at this;exact this)
  (by
   refine⟨.inr rfl,by rw[lP];simpa using hlen,cap,R8,.inl ⟨w.heap.size,0,0,by rw[lP],rfl,.inr (by simp),?_⟩⟩
   have:bZ (w.alloc (.cells cells e)) w.heap.size=cells.size:=by
    unfold bZ;rw[show (w.alloc (.cells cells e)).heap[w.heap.size]? =some (.cells cells e)from heap_alloc_new w _]
   rw[this];simpa using SJ)
 have e2:Z.add o.dst id ⟨.one (.own id wd 0 len),some B,ids⟩=St.put {Z with own:=eD (dJ Z.own ids) id ⟨B,true⟩} o.dst (.one (.own id wd 0 len)):=by
  unfold St.add;simp only[Aq]
  cases o.dst<;>rfl
 rw[←e2]at h2;exact Oper.cQ hr (hk _ _ ⟨_,h2⟩)
theorem a6.N4 {P:Program}{o:Oper}{s:St}{nx0 id:Nat}{e:TypeId}{b w0 o0 l0:Nat}(RE:iq o.op=false)(hd:bT o s.n)
  (h:∀G dom ρ Z a w,aR G dom ρ Z a w→gN s Z nx0 o→∃(cells:Array Value),(execOp a.eval o).run P w= .ok (.value (.slice (some ⟨w.heap.size,0,none⟩) 1 1)) (w.alloc (.cells cells e))∧cells.size=1∧
   ∃u,cells[0]? =some u∧aC ρ dom (aG G Z.own ρ w) w (.own b w0 o0 l0) u):
  a6 P o s nx0 id ⟨.one (.win id b 0 1),some (.wins e b 1 (fun _=>.own b w0 o0 l0)),[]⟩:=by
 refine⟨?_,fun h=>by rw[RE]at h;cases h⟩;intro G dom ρ Z a w hs hid ha Q next hk;obtain⟨cells,hr,SJ,u,hu,hl⟩:=h G dom ρ Z a w hs ha;have WT:dom b:=hl.1;have h1:=hs.xH hid (.wins e b 1 (fun _=>.own b w0 o0 l0)) cells e (fun j c hj=>by
  simp only[Bk.cell]at hj
  split at hj
  ·rename_i hj1
   obtain rfl:j=0:=by omega
   obtain rfl:=Option.some.inj hj;exact⟨u,hu,hl⟩
  cases hj)
 have h2:=h1.put (dst:=o.dst) (x:=.one (.win id b 0 1)) (v:=.slice (some ⟨w.heap.size,0,none⟩) 1 1) (fun d hh=>by have:=hd d hh;rw[←ha.n]at this;exact this)
  (by
   refine⟨.inl WT,.inr rfl,by rw[lP];exact Nat.le_refl _,1,Nat.le_refl _,.inl ⟨w.heap.size,0,0,by rw[lP],rfl,.inr (by simp),?_⟩⟩
   have:bZ (w.alloc (.cells cells e)) w.heap.size=cells.size:=by
    unfold bZ;rw[show (w.alloc (.cells cells e)).heap[w.heap.size]? =some (.cells cells e)from heap_alloc_new w _]
   rw[this,SJ];exact Nat.le_refl _)
 have e2:Z.add o.dst id ⟨.one (.win id b 0 1),some (.wins e b 1 (fun _=>.own b w0 o0 l0)),[]⟩=St.put {Z with own:=eD Z.own id ⟨.wins e b 1 (fun _=>.own b w0 o0 l0),true⟩} o.dst (.one (.win id b 0 1)):=by
  unfold St.add
  cases o.dst<;>rfl
 rw[←e2]at h2;exact Oper.cQ hr (hk _ _ ⟨_,h2⟩)
theorem a6.Hq {P:Program}{o:Oper}{s:St}{nx0 id:Nat}{e:TypeId}{c:C}(ids:List Nat)(RE:iq o.op=false)(hd:bT o s.n)
  (h:∀G dom ρ Z a w,aR G dom ρ Z a w→gN s Z nx0 o→∃(cells:Array Value) (v:Value),(execOp a.eval o).run P w= .ok (.value v) (w.alloc (.cells cells e))∧
   aP (aG G (dJ Z.own ids) ρ (w.alloc (.cells cells e))) (w.alloc (.cells cells e)) c v):
  a6 P o s nx0 id ⟨.one c,none,ids⟩:=by
 refine⟨?_,fun h=>by rw[RE]at h;cases h⟩;intro G dom ρ Z a w hs hid ha Q next hk;obtain⟨cells,v,hr,hl⟩:=h G dom ρ Z a w hs ha;refine Oper.cQ hr (hk _ _ ⟨ρ,?_⟩);have e2:Z.add o.dst id ⟨.one c,none,ids⟩=St.put {Z with own:=dJ Z.own ids} o.dst (.one c):=by
  unfold St.add;simp only[Aq]
  cases o.dst<;>rfl
 rw[e2];have h1:=(hs.dJ ids).grown (gU w (.cells cells e));exact(h1.put (dst:=o.dst) (x:=.one c) (v:=v) (fun d hh=>by have:=hd d hh;rw[←ha.n]at this;exact this) (aC.bh hl)).cR (fun b hb=>Or.inl hb)
theorem run_equalIn_bool {P:Program}(w:World)(d:Nat){t:TypeId}(hu:P.underlying t=some .bool)(a b:Bool):(Op.equalIn (d+1) t (.bool a) (.bool b)).run P w= .ok (a==b) w:=by
 simp only[Op.equalIn,Sem.run_bind,av hu,Result.andThen_ok,Sem.run_pure]
section
variable {P:Program}{T:fH}(hT:eJ P T){o:Oper}{s:St}{nx0 id:Nat}{K:eK→Prop}
theorem MN {x:Operand}(ho:o.op= .move x∨o.op= .assign x)(hd:bT o s.n)(h:K ⟨s.ev x,none,[]⟩):∃e,K e∧a6 P o s nx0 id e:=by
 have Sh:x∈o.op.operands:=by rcases ho with ho|ho<;>rw [ho]<;>simp [Op.operands]
 refine⟨_,h,a6.pure hd fun G dom ρ Z a w hs ha=>⟨a.eval x,?_,?_⟩⟩
 ·unfold execOp
  rcases ho with ho|ho<;>rw [ho]<;>rfl
 have:=hs.ev x
 rw[ha.ev x Sh]at this;exact this
theorem PA {c x y:Operand}(ho:o.op= .pick c x y)(hd:bT o s.n){t:Bool}(hc:s.ev c= .one (.bool t))(h:K ⟨if t then s.ev x else s.ev y,none,[]⟩):∃e,K e∧a6 P o s nx0 id e:=by
 have hm:∀z,z=c∨z=x∨z=y→z∈o.op.operands:=by rw[ho];simp[Op.operands]
 refine⟨_,h,a6.pure hd fun G dom ρ Z a w hs ha=>⟨if t then a.eval x else a.eval y,?_,?_⟩⟩
 ·have RJ:=hs.ev c;rw[aS ha (hm c (.inl rfl)) hc]at RJ;have RJ:a.eval c= .bool t:=RJ;unfold execOp;rw[ho];simp only[RJ,asBool,Sem.run_bind,Sem.run_pure,Result.andThen_ok]
 cases t
 ·have:=hs.ev y
  rw[ha.ev y (hm y (.inr (.inr rfl)))]at this;exact this
 have:=hs.ev x
 rw[ha.ev x (hm x (.inr (.inl rfl)))]at this;exact this
include hT in
theorem Qg {op:BinOp}{t:TypeId}{x y:Operand}{t':TypeId}(ho:o.op= .binOp op t x y t')(hd:bT o s.n)(h:H0 T s op t x y K):∃e,K e∧a6 P o s nx0 id e:=by
 have Sh:x∈o.op.operands:=by rw[ho];simp[Op.operands]
 have Wc:y∈o.op.operands:=by rw[ho];simp[Op.operands]
 unfold H0 at h
 split at h
 ·rename_i k a0 k' b0 hx hy
  obtain⟨c,_,hK,_⟩:=yO (P:=P) (w:=default) t x y h
  -- the same at every world
  have RI:∃c,K ⟨.one c,none,[]⟩∧∀w,∃v,(do eqGuard op t x y (.int k a0) (.int k' b0);Go.binOp op t (.int k a0) (.int k' b0):Sem Value).run P w= .ok v w∧∀ρ dom ok,aC ρ dom ok w c v:=by
   have hc:∃c,Ew op k a0 k' b0 (fun c'=>c'=c)∧K ⟨.one c,none,[]⟩:=by
    cases op<;>simp only[Ew]at h⊢
    case quo=>exact⟨_,⟨h.1,h.2.1,rfl⟩,h.2.2⟩
    case rem=>exact⟨_,⟨h.1,h.2.1,rfl⟩,h.2.2⟩
    all_goals exact⟨_,⟨h.1,rfl⟩,h.2⟩
   obtain⟨c,h1,h2⟩:=hc;refine⟨c,h2,fun w=>?_⟩;obtain⟨c',v,rfl,hr,hv⟩:=yO (P:=P) (w:=w) t x y h1;exact⟨v,hr,hv⟩
  obtain⟨c,hK,RI⟩:=RI;refine⟨_,hK,a6.pure hd fun G dom ρ Z a w hs ha=>?_⟩;have R3:=hs.ev x;rw[aS ha Sh hx]at R3;have SF:=hs.ev y;rw[aS ha Wc hy]at SF;have R3:a.eval x= .int k a0:=R3;have SF:a.eval y= .int k' b0:=SF;obtain⟨v,hr,hv⟩:=RI w;refine⟨v,?_,hv _ _ _⟩;unfold execOp;rw[ho];exact dW (by rw[R3,SF];exact hr)
 ·rename_i a0 b0 hx hy
  cases RV:T t with
  |none=>rw[RV]at h;exact h.elim
  |some E=>
   rw[RV]at h;simp only at h;obtain⟨i,d,z,hi,hu,_,hk,_⟩:=bB hT RV
   split at h
   ·rename_i UI
    rw[UI]at hk;have WT:d= .bool:=by
     cases d<;>simp only[cG]at hk
     case bool=>rfl
     case struct fs=>split at hk<;>cases hk
     all_goals cases hk
    subst WT;have heq:∀w:World,(Op.equal t (.bool a0) (.bool b0)).run P w= .ok (a0==b0) w:=fun w=>by
     exact run_equalIn_bool w 9999 hu a0 b0
    have hg:∀(w:World),(eqGuard op t x y (.bool a0) (.bool b0)).run P w= .ok () w:=fun w=>by
     unfold eqGuard
     cases op<;>rfl
    split at h
    ·refine⟨_,h,a6.pure hd fun G dom ρ Z a w hs ha=>?_⟩;have R3:=hs.ev x;rw[aS ha Sh hx]at R3;have SF:=hs.ev y;rw[aS ha Wc hy]at SF;have R3:a.eval x= .bool a0:=R3;have SF:a.eval y= .bool b0:=SF;refine⟨.bool (a0==b0),?_,rfl⟩;unfold execOp;rw[ho];refine dW ?_;rw[R3,SF,Sem.run_bind,hg,Result.andThen_ok];simp only[Go.binOp,Sem.run_bind,heq,Result.andThen_ok,Sem.run_pure]
    ·refine⟨_,h,a6.pure hd fun G dom ρ Z a w hs ha=>?_⟩;have R3:=hs.ev x;rw[aS ha Sh hx]at R3;have SF:=hs.ev y;rw[aS ha Wc hy]at SF;have R3:a.eval x= .bool a0:=R3;have SF:a.eval y= .bool b0:=SF;refine⟨.bool (a0 !=b0),?_,rfl⟩;unfold execOp;rw[ho];refine dW ?_;rw[R3,SF,Sem.run_bind,hg,Result.andThen_ok];simp only[Go.binOp,Sem.run_bind,heq,Result.andThen_ok,Sem.run_pure];rfl
    exact h.elim
   exact h.elim
 ·rename_i a0 b0 hx hy
  have key:∃c,K ⟨.one c,none,[]⟩∧∀w,∃v,(do eqGuard op t x y (.string a0) (.string b0);Go.binOp op t (.string a0) (.string b0):Sem Value).run P w= .ok v w∧∀ρ dom ok,aC ρ dom ok w c v:=by
   cases op<;>simp only[Na]at h<;>first|exact h.elim|skip
   case add=>
    refine⟨_,h.2,fun w=>⟨.string (a0++b0),?_,fun _ _ _=>rfl⟩⟩;have hn:¬(((a0.size+b0.size:Nat):Int)>IntKind.i64.max):=by
     have e:IntKind.i64.max=9223372036854775807:=by decide
     rw[e];omega
    have hg:(eqGuard .add t x y (.string a0) (.string b0)).run P w= .ok () w:=by unfold eqGuard;rfl
    rw[Sem.run_bind,hg,Result.andThen_ok];simp only[Go.binOp,Op.stringOp,hn,↓reduceIte,Sem.run_pure]
   case eql=>
    refine⟨_,h,fun w=>⟨.bool (wz a0 b0),?_,fun _ _ _=>rfl⟩⟩;have hg:(eqGuard .eql t x y (.string a0) (.string b0)).run P w= .ok () w:=by unfold eqGuard;rfl
    rw[Sem.run_bind,hg,Result.andThen_ok];simp only[Go.binOp,Op.stringOp,Sem.run_pure,wz]
   case neq=>
    refine⟨_,h,fun w=>⟨.bool (!wz a0 b0),?_,fun _ _ _=>rfl⟩⟩;have hg:(eqGuard .neq t x y (.string a0) (.string b0)).run P w= .ok () w:=by unfold eqGuard;rfl
    rw[Sem.run_bind,hg,Result.andThen_ok];simp only[Go.binOp,Op.stringOp,Sem.run_pure,wz]
  obtain⟨c,hK,RI⟩:=key;refine⟨_,hK,a6.pure hd fun G dom ρ Z a w hs ha=>?_⟩;have R3:=hs.ev x;rw[aS ha Sh hx]at R3;have SF:=hs.ev y;rw[aS ha Wc hy]at SF;have R3:a.eval x= .string a0:=R3;have SF:a.eval y= .string b0:=SF;obtain⟨v,hr,hv⟩:=RI w;refine⟨v,?_,hv _ _ _⟩;unfold execOp;rw[ho];exact dW (by rw[R3,SF];exact hr)
 exact h.elim
theorem Ru {op:UnOp}{t:TypeId}{x:Operand}(ho:o.op= .unOp op t x)(hd:bT o s.n)(h:Pp s op x K):∃e,K e∧a6 P o s nx0 id e:=by
 have Sh:x∈o.op.operands:=by rw[ho];simp[Op.operands]
 unfold Pp at h
 split at h
 ·rename_i b hx
  refine⟨_,h,a6.pure hd fun G dom ρ Z a w hs ha=>⟨.bool (!b),?_,rfl⟩⟩;have R3:=hs.ev x;rw[aS ha Sh hx]at R3;have R3:a.eval x= .bool b:=R3;unfold execOp;rw[ho];exact dW (by rw[R3];rfl)
 ·rename_i k n hx
  refine⟨_,h,a6.pure hd fun G dom ρ Z a w hs ha=>⟨.int k (k.wrap (0-n)),?_,rfl⟩⟩;have R3:=hs.ev x;rw[aS ha Sh hx]at R3;have R3:a.eval x= .int k n:=R3;unfold execOp;rw[ho];exact dW (by rw[R3];rfl)
 exact h.elim
include hT in
theorem HY {
         src dst:TypeId} {x:Operand} (ho:o.op= .convert src dst x) (hd:bT o s.n) (h:mI T s src dst x K):∃e,K e∧a6 P o s nx0 id e:=by
 have Sh:x∈o.op.operands:=by rw[ho];simp[Op.operands]
 unfold mI at h
 split at h
 ·rename_i S D hS hD
  obtain⟨_,d1,_,_,Wn,_⟩:=bB hT hS;obtain⟨_,d2,_,_,SN,_,S8,_⟩:=bB hT hD
  split at h
  ·rename_i k hk
   rw[hk]at S8
   have:d2= .int k:=by
    cases d2<;>simp only[cG]at S8
    case int=>cases S8;rfl
    case struct fs=>split at S8<;>cases S8
    all_goals cases S8
   subst this
   split at h
   ·rename_i k' n hx
    refine⟨_,h,a6.pure hd fun G dom ρ Z a w hs ha=>⟨.int k (k.wrap n),?_,rfl⟩⟩;have R3:=hs.ev x;rw[aS ha Sh hx]at R3;have R3:a.eval x= .int k' n:=R3;unfold execOp;rw[ho];refine dW ?_;rw[R3];simp only[convert,Sem.run_bind,av Wn,av SN,Result.andThen_ok]
    cases d1<;>rfl
   exact h.elim
  ·rename_i hk
   rw[hk]at S8
   have:d2= .string:=by
    cases d2<;>simp only[cG]at S8
    case string=>rfl
    case struct fs=>split at S8<;>cases S8
    all_goals cases S8
   subst this
   split at h
   ·rename_i e TP
    have T6:=fm hT hS TP
    cases SB:T e with
    |none=>rw[SB]at h;exact h.elim
    |some E=>
     rw[SB]at h;simp only at h;obtain⟨_,d3,_,_,hu3,_,Un,_⟩:=bB hT SB
     split at h
     ·rename_i k UI
      obtain⟨rfl,h⟩:=h;rw[UI]at Un
      have:d3= .int .u8:=by
       cases d3<;>simp only[cG]at Un
       case int=>cases Un;rfl
       case struct fs=>split at Un<;>cases Un
       all_goals cases Un
      subst this
      split at h
      ·rename_i k' xs hx
       obtain⟨rfl,h⟩:=h;refine⟨_,h,a6.pure hd fun G dom ρ Z a w hs ha=>⟨.string (strOfNums xs),?_,rfl⟩⟩;have R3:=hs.ev x;rw[aS ha Sh hx]at R3;obtain⟨ad,cap,hv,R8,hr⟩:=R3;unfold execOp;rw[ho];refine dW ?_;rw[hv]
       rcases hr with h0|⟨g,o',rfl,_,R0⟩
       ·have UD:xs=[]:=List.eq_nil_of_length_eq_zero h0;subst UD
        cases ad with
        |none=>exact run_convert_bytes_nil w src e T6 hu3 _ _ dst SN
        |some a0=>
         have hl:(loadCells a0 0).run P w= .ok (([]:List Int).map (Value.int .u8)).toArray w:=j6 a0 [] (fun j u hj=>by simp at hj);rw[run_convert_bytes_string w src dst e _ _ cap T6 hu3 SN];exact run_bytesToString w a0 0 cap [] hl
       exact run_convert_bytes_arg w src e T6 hu3 g o' xs.length cap xs rfl R0 dst SN
      exact h.elim
     exact h.elim
   exact h.elim
  exact h.elim
 exact h.elim
include hT in
theorem CT {t:TypeId}{x i:Operand}(ho:o.op= .index t x i)(hd:bT o s.n)(h:uz T s t x i K):∃e,K e∧a6 P o s nx0 id e:=by
 have Sh:x∈o.op.operands:=by rw[ho];simp[Op.operands]
 have Xh:i∈o.op.operands:=by rw[ho];simp[Op.operands]
 unfold uz at h
 cases RV:T t with
 |none=>rw[RV]at h;exact h.elim
 |some E=>
  rw[RV]at h;simp only at h;obtain⟨_,d,_,_,hu,_,hk,_⟩:=bB hT RV
  split at h
  ·rename_i UI
   rw[UI]at hk;have hds:d= .string:=by
    cases d<;>simp only[cG]at hk
    case string=>rfl
    case struct fs=>split at hk<;>cases hk
    all_goals cases hk
   subst hds
   split at h
   ·rename_i k n hi
    split at h
    ·rename_i b hx
     obtain⟨⟨h0,h1⟩,h⟩:=h;refine⟨_,h,a6.pure hd fun G dom ρ Z a w hs ha=>⟨.int .u8 (IT b n.toNat),?_,rfl⟩⟩;have R3:=hs.ev x;rw[aS ha Sh hx]at R3;have Xj:=hs.ev i;rw[aS ha Xh hi]at Xj;have R3:a.eval x= .string b:=R3;have Xj:a.eval i= .int k n:=Xj;unfold execOp;rw[ho];refine dW ?_;have hb:n.toNat<b.size:=by omega
     simp only[Instr.index,R3,Xj,asIntOf,Sem.run_bind,Sem.run_pure,Result.andThen_ok,av hu,if_pos h0,getElem?_pos b n.toNat hb,IT,Option.getD_some]
    exact h.elim
   exact h.elim
  exact h.elim
include hT in
theorem A6 {t:TypeId}{x:Operand}{f:Nat}(ho:o.op= .fieldAddr t x f)(hd:bT o s.n)(h:jk T s t x f K):∃e,K e∧a6 P o s nx0 id e:=by
 have Sh:x∈o.op.operands:=by rw[ho];simp[Op.operands]
 unfold jk at h
 cases RV:T t with
 |none=>rw[RV]at h;exact h.elim
 |some E=>
  rw[RV]at h;simp only at h;obtain⟨i,d,z,hi,hu,_,hk,_⟩:=bB hT RV
  split at h
  ·rename_i fs Yu
   rw[Yu]at hk;obtain⟨fields,rfl,VD⟩:=qu hk.symm
   cases hf:fs[f]? with
   |none=>rw[hf]at h;exact h.elim
   |some p=>
    obtain⟨fo,fsz⟩:=p;rw[hf]at h;simp only at h;obtain⟨R1,h⟩:=h;obtain⟨fd,fi,hfd,Vp,he⟩:=tN _ _ VD _ _ hf;simp only[Prod.mk.injEq]at he;obtain⟨he1,Yv⟩:=he;have hfd':fields[f]? =some fd:=by simpa using hfd
    have RK:∀(a:Act) (w:World) (g off:Nat),a.eval x= .pointer (some ⟨g,off,none⟩)→(execOp a.eval o).run P w= .ok (.value (.pointer (some ⟨g,off+fo,none⟩))) w:=by
     intro a w g off RJ;unfold execOp;rw[ho];refine dW ?_;simp only[Instr.fieldAt,Sem.run_bind,av hu,Result.andThen_ok,hfd',RJ,Instr.sureAddr,Sem.run_pure,fieldPlace,run_sizeOf Vp,Sem.run_ite];rw[if_neg (by omega)];simp only[Result.andThen_ok,←he1]
     have:(⟨g,off,none⟩:Addr).add fo=⟨g,off+fo,none⟩:=by unfold Addr.add;split<;>simp_all
     rw[this]
    split at h
    ·rename_i b off hx
     refine⟨_,h,a6.pure hd fun G dom ρ Z a w hs ha=>?_⟩;have RJ:=hs.ev x;rw[aS ha Sh hx]at RJ;obtain⟨h1,g,o',h2,hv⟩:=RJ;exact⟨_,RK a w g _ hv,h1,g,o',h2,by rw[Nat.add_assoc]⟩
    ·rename_i c wd ix off hx
     refine⟨_,h,a6.pure hd fun G dom ρ Z a w hs ha=>?_⟩;have RJ:=hs.ev x;rw[aS ha Sh hx]at RJ;obtain⟨g,o',n,cap,h1,h2,hv⟩:=RJ;exact⟨_,RK a w g _ hv,g,o',n,cap,h1,h2,by rw[Nat.add_assoc,Nat.add_assoc]⟩
    ·rename_i b wd ix off hx
     refine⟨_,h,a6.pure hd fun G dom ρ Z a w hs ha=>?_⟩;have RJ:=hs.ev x;rw[aS ha Sh hx]at RJ;obtain⟨h1,h2,g,o',h3,hv⟩:=RJ;exact⟨_,RK a w g _ hv,h1,h2,g,o',h3,by rw[Nat.add_assoc,Nat.add_assoc]⟩
    exact h.elim
  exact h.elim
include hT in
theorem OH {t:TypeId}{x:Operand}{f:Nat}(ho:o.op= .field t x f)(hd:bT o s.n)(h:s9 T s t x f K):∃e,K e∧a6 P o s nx0 id e:=by
 have Sh:x∈o.op.operands:=by rw[ho];simp[Op.operands]
 unfold s9 at h
 cases RV:T t with
 |none=>rw[RV]at h;exact h.elim
 |some E=>
  rw[RV]at h;simp only at h;obtain⟨d,hu,hk,VD⟩:=QK hT RV
  split at h
  ·rename_i fs UI
   split at h
   ·rename_i fo fsz hf
    split at h
    ·rename_i cs hx
     obtain⟨S1,rfl,RE,h⟩:=h;rw[UI]at hk;obtain⟨fds,rfl,Xl⟩:=qu hk.symm;obtain⟨fld,i,Yw,hi,hp⟩:=tN _ _ Xl f _ hf;simp only[Prod.mk.injEq]at hp;obtain⟨rfl,SJ⟩:=hp;have hnag:∃d',P.underlying fld.type=some d'∧(cG P d').agg=some false:=by
      rw[VD]at S1;simp only[NP,List.getElem?_map,Yw,Option.map_some,Option.some.injEq]at S1
      cases ZG:P.underlying fld.type with
      |none=>rw[ZG]at S1;simp at S1
      |some d'=>
       rw[ZG]at S1;refine⟨d',rfl,?_⟩;simp only at S1
       cases TO:cG P d'<;>rw [TO]at S1<;>simp [Et.agg]at S1⊢
     obtain⟨d',ZG,hagg⟩:=hnag;refine⟨_,h,a6.pure hd fun G dom ρ Z a w hs ha=>?_⟩;have RJ:=hs.ev x;rw[aS ha Sh hx]at RJ;obtain⟨vs,hv,hl⟩:=RJ;obtain⟨u,SN,hr⟩:=bG.get hl fld.offset (cs.getD fld.offset .any) (by rw[X7,X8 RE];rfl);refine⟨u,?_,hr⟩;unfold execOp;rw[ho];refine dW ?_;rw[hv];have Xm:fds[f]? =some fld:=by simpa using Yw
     have hua:vs[fld.offset]? =some u:=by simpa using SN
     simp only[Instr.field,Sem.run_bind,av hu,Result.andThen_ok,Xm,part,asAgg,qv ZG hagg,hua,Sem.run_pure,Bool.false_eq_true,↓reduceIte]
    exact h.elim
   exact h.elim
  exact h.elim
end
end Go.Eng
namespace Go.Eng
open Go
theorem fb (g o j:Nat):(⟨g,o,none⟩:Addr).add j=⟨g,o+j,none⟩:=by unfold Addr.add;split<;>simp_all
theorem zk {P:Program}{w:World}{t e:TypeId}{i:TypeInfo}(ht:P.underlying t=some (.slice e))(he:P.info? e=some i)(k:IntKind)(n:Int)(g o len cap:Nat)(h0:0≤n)(h1:n<len):
  (Instr.indexAt t (.slice (some ⟨g,o,none⟩) len cap) (.int k n)).run P w= .ok (.pointer (some ⟨g,o+n.toNat*i.size,none⟩)) w:=by
 simp only[Instr.indexAt,asIntOf,Sem.run_bind,Sem.run_pure,Result.andThen_ok,av ht,run_sizeOf he,Sem.run_ite];rw[if_pos ⟨h0,h1⟩];simp only[Result.andThen_ok,fb]
theorem zr {P:Program}{w:World}{t e:TypeId}{i:TypeInfo}{m:Nat}(ht:P.underlying t=some (.array m e))(he:P.info? e=some i)(k:IntKind)(n:Int)(g o:Nat)(h0:0≤n)(h1:n<m):
  (Instr.indexAt t (.pointer (some ⟨g,o,none⟩)) (.int k n)).run P w= .ok (.pointer (some ⟨g,o+n.toNat*i.size,none⟩)) w:=by
 simp only[Instr.indexAt,asIntOf,Instr.sureAddr,Sem.run_bind,Sem.run_pure,Result.andThen_ok,av ht,run_sizeOf he,Sem.run_ite];rw[if_pos ⟨h0,h1⟩];simp only[Result.andThen_ok,fb]
theorem bw {P:Program}{w:World}(k:IntKind)(n:Int)(y:Nat)(c:BoundsCode)(h0:0≤n)(h1:n≤y):(Instr.sliceBound (.int k n) y c).run P w= .ok n.toNat w:=by
 simp only[Instr.sliceBound,asIntOf,Sem.run_bind,Sem.run_pure,Result.andThen_ok,Sem.run_ite];rw[if_pos ⟨h0,h1⟩]
def og (v:Option Value)(d n:Int):Prop:=(v=none∧n=d)∨∃k,v=some (.int k n)
theorem rV {P:Program}{w:World}{lo hi:Option Value}{len cap:Nat}{l h:Int}(R2:og lo 0 l)(T7:og hi len h)(h0:0≤l)(h1:l≤h)(h2:h≤len)(h3:len≤cap):
  (Instr.sliceBounds true len cap lo hi none).run P w= .ok (l.toNat,h.toNat,cap) w:=by
 unfold Instr.sliceBounds;have hc:h≤(cap:Int):=by omega
 rcases T7 with⟨rfl,rfl⟩|⟨k,rfl⟩
 ·rcases R2 with⟨rfl,rfl⟩|⟨k',rfl⟩
  ·simp
  simp only[Sem.run_bind,Sem.run_pure,Result.andThen_ok,bw k' l len _ h0 h1]
  simp
 rcases R2 with⟨rfl,rfl⟩|⟨k',rfl⟩
 ·simp only[Sem.run_bind,Sem.run_pure,Result.andThen_ok,↓reduceIte,bw k h cap _ (by omega) hc]
  simp
 simp only[Sem.run_bind,Sem.run_pure,Result.andThen_ok,↓reduceIte,bw k h cap _ (by omega) hc];rw[bw k' l h.toNat _ h0 (by omega)]
 simp
theorem p6 {P:Program}{w:World}{lo hi:Option Value}{len:Nat}{l h:Int}(R2:og lo 0 l)(T7:og hi len h)(h0:0≤l)(h1:l≤h)(h2:h≤len):
  (Instr.sliceBounds false len len lo hi none).run P w= .ok (l.toNat,h.toNat,len) w:=by
 unfold Instr.sliceBounds
 rcases T7 with⟨rfl,rfl⟩|⟨k,rfl⟩
 ·rcases R2 with⟨rfl,rfl⟩|⟨k',rfl⟩
  ·simp
  simp only[Sem.run_bind,Sem.run_pure,Result.andThen_ok,bw k' l len _ h0 h1]
  simp
 rcases R2 with⟨rfl,rfl⟩|⟨k',rfl⟩
 ·simp only[Sem.run_bind,Sem.run_pure,Result.andThen_ok,bw k h len _ (by omega) h2]
  simp
 simp only[Sem.run_bind,Sem.run_pure,Result.andThen_ok,bw k h len _ (by omega) h2];rw[bw k' l h.toNat _ h0 (by omega)]
 simp
theorem zi {P:Program}{w:World}{t e:TypeId}{i:TypeInfo}(ht:P.underlying t=some (.slice e))(he:P.info? e=some i){lo hi:Option Value}{a:Option Addr}{len cap:Nat}{l h:Int}
  (R2:og lo 0 l) (T7:og hi len h) (h0:0≤l) (h1:l≤h) (h2:h≤len) (h3:len≤cap):
  (Instr.sliceAt t (.slice a len cap) lo hi none).run P w= .ok (.slice (if cap=l.toNat then a else a.map (·.add (l.toNat*i.size))) (h.toNat-l.toNat) (cap-l.toNat)) w:=by
 simp only[Instr.sliceAt,Instr.slice,Sem.run_bind,av ht,Result.andThen_ok,rV R2 T7 h0 h1 h2 h3,run_sizeOf he,Sem.run_pure]
section
variable {P:Program}{T:fH}(hT:eJ P T){o:Oper}{s:St}{nx0 id:Nat}{K:eK→Prop}
include hT in
theorem CP {t:TypeId}{x i:Operand}(ho:o.op= .indexAddr t x i)(hd:bT o s.n)(h:ji T s t x i K):∃e,K e∧a6 P o s nx0 id e:=by
 have Sh:x∈o.op.operands:=by rw[ho];simp[Op.operands]
 have Xh:i∈o.op.operands:=by rw[ho];simp[Op.operands]
 unfold ji at h
 cases RV:T t with
 |none=>rw[RV]at h;exact h.elim
 |some S=>
  rw[RV]at h;simp only at h
  split at h
  ·rename_i e TP
   have hu:=fm hT RV TP
   cases SB:T e with
   |none=>rw[SB]at h;exact h.elim
   |some E=>
    rw[SB]at h;simp only at h;obtain⟨ei,ed,ez,Ta,WU,_,WV,Tz,_⟩:=bB hT SB
    split at h
    ·rename_i k n hi
     have RK:∀(a:Act) (w:World) (g o' len cap:Nat),a.eval x= .slice (some ⟨g,o',none⟩) len cap→a.eval i= .int k n→0≤n→n<len→(execOp a.eval o).run P w= .ok (.value (.pointer (some ⟨g,o'+n.toNat*E.size,none⟩))) w:=by
      intro a w g o' len cap hx UE h0 h1;unfold execOp;rw[ho];refine dW ?_;rw[hx,UE,zk hu Ta k n g o' len cap h0 h1,Tz]
     split at h
     ·rename_i b wd off len hx
      obtain⟨hw,R1,⟨h0,h1⟩,hK⟩:=h;refine⟨_,hK,a6.pure hd fun G dom ρ Z a w hs ha=>?_⟩;have RJ:=hs.ev x;rw[aS ha Sh hx]at RJ;have UE:=hs.ev i;rw[aS ha Xh hi]at UE;obtain⟨SS,hle,cap,R8,hr⟩:=RJ
      rcases hr with⟨g,o',o'',RD,hv,R7,_⟩|⟨_,_,Tr,_⟩
      ·refine⟨_,RK a w g o'' len cap hv UE h0 h1,SS,by omega,g,o',RD,?_⟩
       have:o''=o'+off*wd:=by rcases R7 with R7|R7<;>omega
       rw[this,hw,Nat.add_mul,Nat.add_zero,Nat.add_assoc]
      omega
     ·rename_i b b2 off len hx
      obtain⟨hw,⟨h0,h1⟩,hK⟩:=h;refine⟨_,hK,a6.pure hd fun G dom ρ Z a w hs ha=>?_⟩;have RJ:=hs.ev x;rw[aS ha Sh hx]at RJ;have UE:=hs.ev i;rw[aS ha Xh hi]at UE;obtain⟨_,SS,hle,cap,R8,hr⟩:=RJ
      rcases hr with⟨g,o',o'',RD,hv,R7,_⟩|⟨_,_,Tr,_⟩
      ·refine⟨_,RK a w g o'' len cap hv UE h0 h1,SS,by omega,g,o',RD,?_⟩
       have:o''=o'+off*1:=by rcases R7 with R7|R7<;>omega
       rw[this,←hw,Nat.add_mul,Nat.add_zero,Nat.add_assoc]
      omega
     ·rename_i k' xs hx
      obtain⟨hw,⟨h0,h1⟩,hK⟩:=h;refine⟨_,hK,a6.pure hd fun G dom ρ Z a w hs ha=>?_⟩;have RJ:=hs.ev x;rw[aS ha Sh hx]at RJ;have UE:=hs.ev i;rw[aS ha Xh hi]at UE;have VE:=RJ;obtain⟨a',cap,hv,R8,hr⟩:=RJ
      rcases hr with hr|⟨g,o',rfl,hg,Sc⟩
      ·omega
      refine⟨_,RK a w g o' xs.length cap hv UE h0 h1,g,o',xs.length,cap,?_,by omega,by rw[←hw];rfl⟩;rw[hv]at VE;exact VE
     ·rename_i wd n' f hx
      obtain⟨hw,R1,⟨h0,h1⟩,hK⟩:=h;refine⟨_,hK,a6.pure hd fun G dom ρ Z a w hs ha=>?_⟩;have RJ:=hs.ev x;rw[aS ha Sh hx]at RJ;have UE:=hs.ev i;rw[aS ha Xh hi]at UE;have VE:=RJ;obtain⟨a',cap,hv,R8,hr⟩:=RJ
      rcases hr with hr|⟨g,o',rfl,hg,Sc⟩
      ·omega
      refine⟨_,RK a w g o' n' cap hv UE h0 h1,g,o',n',cap,?_,by omega,by rw[hw];rfl⟩;rw[hv]at VE;exact VE
     exact h.elim
    exact h.elim
  ·rename_i m e TP
   have hu:=PJ hT RV TP
   cases SB:T e with
   |none=>rw[SB]at h;exact h.elim
   |some E=>
    rw[SB]at h;simp only at h;obtain⟨ei,ed,ez,Ta,WU,_,WV,Tz,_⟩:=bB hT SB
    split at h
    ·rename_i k n hi
     split at h
     ·rename_i b off hx
      obtain⟨⟨h0,h1⟩,hK⟩:=h;refine⟨_,hK,a6.pure hd fun G dom ρ Z a w hs ha=>?_⟩;have RJ:=hs.ev x;rw[aS ha Sh hx]at RJ;have UE:=hs.ev i;rw[aS ha Xh hi]at UE;obtain⟨k1,g,o',k2,hv⟩:=RJ;refine⟨_,?_,k1,g,o',k2,rfl⟩;unfold execOp;rw[ho];refine dW ?_;rw[hv,show a.eval i= .int k n from UE,zr hu Ta k n g _ h0 h1,Tz,Nat.add_assoc]
     exact h.elim
    exact h.elim
  exact h.elim
theorem fS {s Z:St}{x:Option Operand}{d:Int}{K:Int→Prop}(h:sk s x d K):∃n,K n∧
  ∀(G:Ctx) (dom:Nat→Prop) (ρ:Nat→Loc) (Z:St) (a:Act) (w:World),aR G dom ρ Z a w→(∀y,x=some y→Z.ev y=s.ev y)→og (x.map a.eval) d n:=by
 unfold sk at h
 cases x with
 |none=>exact⟨d,h,fun _ _ _ _ _ _ _ _=>.inl ⟨rfl,rfl⟩⟩
 |some y=>
  simp only at h
  split at h
  ·rename_i k n hy
   refine⟨n,h,fun G dom ρ Z a w hs he=>.inr ⟨k,?_⟩⟩
   have:=hs.ev y
   rw[he y rfl,hy]at this;exact congrArg some this
  exact h.elim
theorem p9 {P:Program}{w:World}{lo:Option Value}{len cap:Nat}{l h m:Int}{kh km:IntKind}(R2:og lo 0 l)(h0:0≤l)(h1:l≤h)(h2:h≤m)(h3:m≤cap):
  (Instr.sliceBounds true len cap lo (some (.int kh h)) (some (.int km m))).run P w= .ok (l.toNat,h.toNat,m.toNat) w:=by
 unfold Instr.sliceBounds;simp only[Sem.run_bind,↓reduceIte,bw km m cap _ (by omega) h3,Result.andThen_ok,bw kh h m.toNat _ (by omega) (by omega)]
 rcases R2 with⟨rfl,rfl⟩|⟨k',rfl⟩
 ·simp
 simp only[Sem.run_bind,Result.andThen_ok];rw[bw k' l h.toNat _ h0 (by omega)]
 simp
include hT in
theorem Kq {t:TypeId}{x m:Operand}{lo hi:Option Operand}(ho:o.op= .slice t x lo hi (some m))(hd:bT o s.n)(h:sd T s t x lo hi m K):∃e,K e∧a6 P o s nx0 id e:=by
 have Sh:x∈o.op.operands:=by rw[ho];simp[Op.operands]
 have Yx:m∈o.op.operands:=by rw[ho];simp[Op.operands]
 have Ts:∀y,lo=some y→y∈o.op.operands:=fun y hy=>by rw[ho];simp[Op.operands,hy]
 have WW:∀y,hi=some y→y∈o.op.operands:=fun y hy=>by rw[ho];simp[Op.operands,hy]
 unfold sd at h
 cases RV:T t with
 |none=>rw[RV]at h;exact h.elim
 |some S=>
  rw[RV]at h;simp only at h
  split at h
  ·rename_i e TP
   have hu:=fm hT RV TP
   cases SB:T e with
   |none=>rw[SB]at h;exact h.elim
   |some E=>
    rw[SB]at h;simp only at h;obtain⟨ei,ed,ez,Ta,WU,_,WV,Tz,_⟩:=bB hT SB
    split at h
    ·rename_i b wd off len hx
     obtain⟨hw,h⟩:=h
     cases hi with
     |none=>exact h.elim
     |some y=>
      simp only at h;obtain⟨l,h,UJ⟩:=fS (Z:=s) h;obtain⟨hh,h,U7⟩:=fS (Z:=s) h;obtain⟨k,h,Yq⟩:=fS (Z:=s) h;obtain⟨⟨h0,h1,h2,h3⟩,hK⟩:=h;refine⟨_,hK,a6.pure hd fun G dom ρ Z a w hs ha=>?_⟩;have RJ:=hs.ev x;rw[aS ha Sh hx]at RJ;obtain⟨SS,hle,cap,R8,hr⟩:=RJ;have hL:=UJ G dom ρ Z a w hs (fun y hy=>ha.ev y (Ts y hy));have hH:=U7 G dom ρ Z a w hs (fun y hy=>ha.ev y (WW y hy));have hM:=Yq G dom ρ Z a w hs (fun y hy=>ha.ev y (by obtain rfl:=Option.some.inj hy;exact Yx));obtain⟨kh,hH⟩:∃kh,a.eval y= .int kh hh:=by
       rcases hH with⟨h,_⟩|⟨k,h⟩
       ·cases h
       exact⟨k,Option.some.inj h⟩
      obtain⟨km,hM⟩:∃km,a.eval m= .int km k:=by
       rcases hM with⟨h,_⟩|⟨k,h⟩
       ·cases h
       exact⟨k,Option.some.inj h⟩
      have RK:∀(ad:Option Addr),a.eval x= .slice ad len cap→
        (execOp a.eval o).run P w= .ok (.value (.slice (if k.toNat=l.toNat then ad else ad.map (·.add (l.toNat*E.size))) (hh.toNat-l.toNat) (k.toNat-l.toNat))) w:=by
       intro ad hx;unfold execOp;rw[ho];refine dW ?_;rw[hx];simp only[Option.map_some,hH,hM];simp only[Instr.sliceAt,Instr.slice,Sem.run_bind,av hu,Result.andThen_ok,p9 hL h0 h1 h2 (by omega:k≤(cap:Int)),run_sizeOf Ta,Sem.run_pure,Tz]
      rcases hr with⟨g,o',o'',RD,hv,R7,Sr⟩|⟨RD,hv,Tr,SU⟩
      ·have hrm:o'+(off+l.toNat+(k.toNat-l.toNat))*wd≤bZ w g:=by
        refine Nat.le_trans ?_ Sr
        have:(off+l.toNat+(k.toNat-l.toNat))*wd≤(off+cap)*wd:=Nat.mul_le_mul_right _ (by omega)
        omega
       refine⟨_,RK _ hv,SS,by omega,k.toNat-l.toNat,by omega,.inl ?_⟩
       by_cases Tx:k.toNat=l.toNat
       ·exact⟨g,o',o'',RD,by rw[if_pos Tx,show (hh-l).toNat=hh.toNat-l.toNat by omega],.inl (by omega),hrm⟩
       refine⟨g,o',o''+l.toNat*E.size,RD,?_,.inr ?_,hrm⟩
       ·rw[if_neg Tx,show (hh-l).toNat=hh.toNat-l.toNat by omega,Option.map_some,fb]
       have:o''=o'+off*wd:=by
        rcases R7 with R7|R7
        ·omega
        exact R7
       rw[this,hw,Nat.add_mul,Nat.add_assoc]
      refine⟨_,RK none (by rw[hv,Tr,SU]),SS,by omega,0,by omega,.inr ⟨RD,?_,by omega,rfl⟩⟩;simp only[Option.map_none,ite_self]
      congr 1<;>omega
    exact h.elim
  exact h.elim
include hT in
theorem NG {
        t:TypeId} {x:Operand} {lo hi mx:Option Operand} (ho:o.op= .slice t x lo hi mx) (hd:bT o s.n) (h:ud T s t x lo hi mx K):∃e,K e∧a6 P o s nx0 id e:=by
 have Sh:x∈o.op.operands:=by rw[ho];simp[Op.operands]
 have Ts:∀y,lo=some y→y∈o.op.operands:=fun y hy=>by rw[ho];simp[Op.operands,hy]
 have WW:∀y,hi=some y→y∈o.op.operands:=fun y hy=>by rw[ho];simp[Op.operands,hy]
 cases mx with
 |some m=>exact Kq hT ho hd h
 |none=>
 unfold ud at h;simp only at h
 cases RV:T t with
 |none=>rw[RV]at h;exact h.elim
 |some S=>
  rw[RV]at h;simp only at h
  split at h
  ·rename_i e TP
   have hu:=fm hT RV TP
   cases SB:T e with
   |none=>rw[SB]at h;exact h.elim
   |some E=>
    rw[SB]at h;simp only at h;obtain⟨ei,ed,ez,Ta,WU,_,WV,Tz,_⟩:=bB hT SB;have RK:∀(a:Act) (w:World) (ad:Option Addr) (len cap:Nat) (l h:Int),a.eval x= .slice ad len cap→og (lo.map a.eval) 0 l→og (hi.map a.eval) len h→0≤l→l≤h→h≤len→len≤cap→
      (execOp a.eval o).run P w= .ok (.value (.slice (if cap=l.toNat then ad else ad.map (·.add (l.toNat*E.size))) (h.toNat-l.toNat) (cap-l.toNat))) w:=by
     intro a w ad len cap l h hx hl hh h0 h1 h2 h3;unfold execOp;rw[ho];refine dW ?_;rw[hx,Option.map_none,zi hu Ta hl hh h0 h1 h2 h3,Tz]
    split at h
    ·rename_i b wd off len hx
     obtain⟨hw,h⟩:=h;obtain⟨l,h,UJ⟩:=fS (Z:=s) h;obtain⟨hh,h,U7⟩:=fS (Z:=s) h;obtain⟨⟨h0,h1,h2⟩,hK⟩:=h;refine⟨_,hK,a6.pure hd fun G dom ρ Z a w hs ha=>?_⟩;have RJ:=hs.ev x;rw[aS ha Sh hx]at RJ;obtain⟨SS,hle,cap,R8,hr⟩:=RJ;have hL:=UJ G dom ρ Z a w hs (fun y hy=>ha.ev y (Ts y hy));have hH:=U7 G dom ρ Z a w hs (fun y hy=>ha.ev y (WW y hy))
     rcases hr with⟨g,o',o'',RD,hv,R7,Sr⟩|⟨RD,hv,Tr,SU⟩
     ·refine⟨_,RK a w _ len cap l hh hv hL hH h0 h1 h2 R8,SS,by omega,cap-l.toNat,by omega,.inl ?_⟩
      by_cases Tx:cap=l.toNat
      ·refine⟨g,o',o'',RD,by rw[if_pos Tx,show (hh-l).toNat=hh.toNat-l.toNat by omega],.inl (by omega),?_⟩;rw[show off+l.toNat+(cap-l.toNat)=off+cap by omega];exact Sr
      refine⟨g,o',o''+l.toNat*E.size,RD,?_,.inr ?_,?_⟩
      ·rw[if_neg Tx,show (hh-l).toNat=hh.toNat-l.toNat by omega,Option.map_some,fb]
      ·have:o''=o'+off*wd:=by
        rcases R7 with R7|R7
        ·omega
        exact R7
       rw[this,hw,Nat.add_mul,Nat.add_assoc]
      rw[show off+l.toNat+(cap-l.toNat)=off+cap by omega];exact Sr
     refine⟨_,RK a w none len cap l hh (by rw[hv,Tr,SU]) hL hH h0 h1 h2 R8,SS,by omega,0,by omega,.inr ⟨RD,?_,by omega,rfl⟩⟩;simp only[Option.map_none,ite_self]
     congr 1<;>omega
    ·rename_i b b2 off len hx
     obtain⟨hw,h⟩:=h;obtain⟨l,h,UJ⟩:=fS (Z:=s) h;obtain⟨hh,h,U7⟩:=fS (Z:=s) h;obtain⟨⟨h0,h1,h2⟩,hK⟩:=h;refine⟨_,hK,a6.pure hd fun G dom ρ Z a w hs ha=>?_⟩;have RJ:=hs.ev x;rw[aS ha Sh hx]at RJ;obtain⟨UR,SS,hle,cap,R8,hr⟩:=RJ;have hL:=UJ G dom ρ Z a w hs (fun y hy=>ha.ev y (Ts y hy));have hH:=U7 G dom ρ Z a w hs (fun y hy=>ha.ev y (WW y hy))
     rcases hr with⟨g,o',o'',RD,hv,R7,Sr⟩|⟨RD,hv,Tr,SU⟩
     ·refine⟨_,RK a w _ len cap l hh hv hL hH h0 h1 h2 R8,UR,SS,by omega,cap-l.toNat,by omega,.inl ?_⟩
      by_cases Tx:cap=l.toNat
      ·refine⟨g,o',o'',RD,by rw[if_pos Tx,show (hh-l).toNat=hh.toNat-l.toNat by omega],.inl (by omega),?_⟩;rw[show off+l.toNat+(cap-l.toNat)=off+cap by omega];exact Sr
      refine⟨g,o',o''+l.toNat*E.size,RD,?_,.inr ?_,?_⟩
      ·rw[if_neg Tx,show (hh-l).toNat=hh.toNat-l.toNat by omega,Option.map_some,fb]
      ·have:o''=o'+off*1:=by
        rcases R7 with R7|R7
        ·omega
        exact R7
       rw[this,←hw,Nat.add_mul,Nat.add_assoc]
      rw[show off+l.toNat+(cap-l.toNat)=off+cap by omega];exact Sr
     refine⟨_,RK a w none len cap l hh (by rw[hv,Tr,SU]) hL hH h0 h1 h2 R8,UR,SS,by omega,0,by omega,.inr ⟨RD,?_,by omega,rfl⟩⟩;simp only[Option.map_none,ite_self]
     congr 1<;>omega
    ·rename_i k xs hx
     obtain⟨hw,h⟩:=h;obtain⟨l,h,UJ⟩:=fS (Z:=s) h;obtain⟨hh,h,U7⟩:=fS (Z:=s) h;obtain⟨⟨h0,h1,h2⟩,hK⟩:=h;refine⟨_,hK,a6.pure hd fun G dom ρ Z a w hs ha=>?_⟩;have RJ:=hs.ev x;rw[aS ha Sh hx]at RJ;obtain⟨a',cap,hv,R8,hr⟩:=RJ;have hL:=UJ G dom ρ Z a w hs (fun y hy=>ha.ev y (Ts y hy));have hH:=U7 G dom ρ Z a w hs (fun y hy=>ha.ev y (WW y hy));have hlen:((xs.drop l.toNat).take (hh-l).toNat).length=hh.toNat-l.toNat:=by simp;omega
     refine⟨_,RK a w _ xs.length cap l hh hv hL hH h0 h1 h2 R8,?_⟩;refine⟨_,cap-l.toNat,by rw[hlen],by omega,?_⟩
     rcases hr with hr|⟨g,o',rfl,hg,Sc⟩
     ·exact .inl (by omega)
     by_cases hz:hh.toNat-l.toNat=0
     ·exact .inl (by omega)
     refine .inr ⟨g,o'+l.toNat*E.size,by rw[if_neg (by omega),Option.map_some,fb],hg,fun j hj=>?_⟩;rw[hlen]at hj
     have:=Sc (l.toNat+j) (by omega)
     rw[←hw,Nat.mul_one,Nat.add_assoc,this]
     congr 2
     simp only[X7,List.getElem?_take,List.getElem?_drop];rw[if_pos (by omega)]
    ·rename_i wd n f hx
     obtain⟨hw,h⟩:=h;obtain⟨l,h,UJ⟩:=fS (Z:=s) h;obtain⟨hh,h,U7⟩:=fS (Z:=s) h;obtain⟨⟨h0,h1,h2⟩,hK⟩:=h;refine⟨_,hK,a6.pure hd fun G dom ρ Z a w hs ha=>?_⟩;have RJ:=hs.ev x;rw[aS ha Sh hx]at RJ;obtain⟨a',cap,hv,R8,hr⟩:=RJ;have hL:=UJ G dom ρ Z a w hs (fun y hy=>ha.ev y (Ts y hy));have hH:=U7 G dom ρ Z a w hs (fun y hy=>ha.ev y (WW y hy));refine⟨_,RK a w _ n cap l hh hv hL hH h0 h1 h2 R8,?_⟩;refine⟨_,cap-l.toNat,by rw[show (hh-l).toNat=hh.toNat-l.toNat by omega],by omega,?_⟩
     rcases hr with hr|⟨g,o',rfl,hg,Sc⟩
     ·exact .inl (by omega)
     by_cases hz:hh.toNat-l.toNat=0
     ·exact .inl (by omega)
     refine .inr ⟨g,o'+l.toNat*E.size,by rw[if_neg (by omega),Option.map_some,fb],hg,fun i j hi hj=>?_⟩;obtain⟨u,RZ,hr⟩:=Sc (l.toNat+i) j (by omega) hj;refine⟨u,?_,hr⟩;rw[←RZ,←hw,Nat.add_mul]
     congr 2
     omega
    ·rename_i hx
     obtain⟨l,h,UJ⟩:=fS (Z:=s) h;obtain⟨hh,h,U7⟩:=fS (Z:=s) h;obtain⟨⟨rfl,rfl⟩,hK⟩:=h;refine⟨_,hK,a6.pure hd fun G dom ρ Z a w hs ha=>?_⟩;have RJ:=hs.ev x;rw[aS ha Sh hx]at RJ;have hv:a.eval x= .slice none 0 0:=RJ;have hL:=UJ G dom ρ Z a w hs (fun y hy=>ha.ev y (Ts y hy));have hH:=U7 G dom ρ Z a w hs (fun y hy=>ha.ev y (WW y hy));exact⟨_,RK a w none 0 0 0 0 hv hL hH (Int.le_refl _) (Int.le_refl _) (Int.le_refl _) (Nat.le_refl _),rfl⟩
    exact h.elim
  ·rename_i TP
   have hu:=Pe hT RV TP
   split at h
   ·rename_i b hx
    obtain⟨l,h,UJ⟩:=fS (Z:=s) h;obtain⟨hh,h,U7⟩:=fS (Z:=s) h;obtain⟨⟨h0,h1,h2⟩,hK⟩:=h;refine⟨_,hK,a6.pure hd fun G dom ρ Z a w hs ha=>?_⟩;have RJ:=hs.ev x;rw[aS ha Sh hx]at RJ;have hv:a.eval x= .string b:=RJ;have hL:=UJ G dom ρ Z a w hs (fun y hy=>ha.ev y (Ts y hy));have hH:=U7 G dom ρ Z a w hs (fun y hy=>ha.ev y (WW y hy));refine⟨.string (b.extract l.toNat hh.toNat),?_,rfl⟩;unfold execOp;rw[ho];refine dW ?_;simp only[hv,Option.map_none,Instr.sliceAt,Instr.slice,Sem.run_bind,av hu,Result.andThen_ok,p6 hL hH h0 h1 h2,Sem.run_pure,Option.isSome_none,Bool.false_eq_true,↓reduceIte]
   exact h.elim
  exact h.elim
end
end Go.Eng
namespace Go.Eng
open Go
section aux
variable {ρ:Nat→Loc}{dom ok:Nat→Prop}{w:World}
theorem lq {l:Loc}{B:Bk}{wd off len cap:Nat}{g o o':Nat}(ha:l.addr=some (g,o))(hr:aL ρ dom ok w l B)(R6:ok g)(hl:l.len=B.len)(hle:off+len≤l.len)(hc:len≤cap)(ho:cap=0∨o'=o+off*wd):
  aP ok w (ga B wd off len) (.slice (some ⟨g,o',none⟩) len cap):=by
 have Wo:aP ok w .any (.slice (some ⟨g,o',none⟩) len cap):=rfl;unfold aL at hr;rw[ha]at hr;obtain⟨cur,e,hg,R0⟩:=hr;rw[hl]at hle
 cases B with
 |var cs=>exact Wo
 |wins e b2 n g=>exact Wo
 |ints e' k xs=>
  simp only[ga]
  split
  ·rename_i hw
   subst hw;simp only[Bk.len]at hle;have hlen:((xs.drop off).take len).length=len:=by simp;omega
   refine⟨_,cap,by rw[hlen],by omega,?_⟩
   by_cases h0:len=0
   ·exact .inl (by omega)
   refine .inr ⟨g,o',rfl,R6,fun i hi=>?_⟩;rw[hlen]at hi
   have SO:o'=o+off*1:=by rcases ho with ho|ho<;>omega
   have hx:off+i<xs.length:=by omega
   obtain⟨u,hu,hr⟩:=R0 (off+i) (.int k (xs.getD (off+i) 0)) (by simp[Bk.cell,X8 hx]);rw[cell_of_row w g _ cur e (0,0) hg,SO,show o+off*1+i=o+(off+i) by omega,hu];have hr:u= .int k (xs.getD (off+i) 0):=hr;rw[hr]
   congr 2
   simp only[X7,List.getElem?_take,List.getElem?_drop];rw[if_pos hi]
  exact Wo
 |rows e' w' n f=>
  simp only[ga]
  split
  ·rename_i hw
   subst hw;simp only[Bk.len]at hle;refine⟨_,cap,rfl,hc,?_⟩
   by_cases h0:len=0
   ·exact .inl h0
   refine .inr ⟨g,o',rfl,R6,fun i j hi hj=>?_⟩
   have SO:o'=o+off*w':=by rcases ho with ho|ho<;>omega
   have RE:(off+i)*w'+j<n*w':=by
    have:(off+i+1)*w'≤n*w':=Nat.mul_le_mul_right _ (by omega)
    rw[Nat.add_mul (off+i)]at this;omega
   obtain⟨u,hu,hr⟩:=R0 ((off+i)*w'+j) (f (off+i) j) (by
    simp only[Bk.cell,if_pos RE];rw[Nat.mul_comm (off+i) w',Nat.mul_add_div (by omega),Nat.div_eq_of_lt hj,Nat.mul_add_mod,Nat.mod_eq_of_lt hj];simp)
   refine⟨u,?_,hr⟩;rw[cell_of_row w g _ cur e (0,0) hg,SO,←hu]
   congr 1
   rw[Nat.add_mul];omega
  exact Wo
end aux
def cS (G:Ctx)(own:List (Nat×fA))(ρ:Nat→Loc)(w:World)(ids:List Nat)(g:Nat):Prop:=
 aG G own ρ w g∨∃b∈ids,∃B o,lo own b=some B∧(ρ b).addr=some (g,o)
theorem Ext.dA {ok ok':Nat→Prop}{w:World}(h:∀g,ok g→ok' g):Ext ok ok' w w:=⟨fun g hg=>⟨h g hg,rfl⟩,fun _=>Nat.le_refl _⟩
theorem v8 {G:Ctx}{dom:Nat→Prop}{ρ:Nat→Loc}{s:St}{a:Act}{w:World}(hs:aR G dom ρ s a w)(ids:List Nat){g:Nat}(h:cS G s.own ρ w ids g):aG G (dJ s.own ids) ρ w g:=by
 rcases h with h3|⟨b,RR,B,o',hl,Sj⟩
 ·exact kn h3
 obtain⟨_,_,_,h4⟩:=hs.own b B hl;obtain⟨h5,h6,_⟩:=h4 g o' Sj;refine⟨h5,h6,fun b2 B2 RF RX o2 R4=>?_⟩;rw[fy]at RF
 cases Si:lo s.own b2 with
 |none=>rw[Si]at RF;simp at RF
 |some B3=>
  rw[Si]at RF;simp only[Option.map_some,Option.some.injEq]at RF
  by_cases hm:ids.contains b2=true
  ·rw[if_pos hm]at RF;subst RF;simp at RX
  rw[if_neg hm]at RF;subst RF
  by_cases TR:b2=b
  ·subst TR;exact hm (by simpa using RR)
  exact hs.inj b2 B3 b B Si hl TR RX g o2 o' R4 Sj
section view
variable {G:Ctx}{dom:Nat→Prop}{ρ:Nat→Loc}{Z s:St}{a:Act}{w:World}{nx0:Nat}{o:Oper}
theorem E9 {ρ:Nat→Loc}{dom ok ok':Nat→Prop}{w:World}(hx:Ext ok ok' w w){c:C}{v:Value}(hr:aC ρ dom ok w c v):aP ok' w (Py c) v:=by
 have RO:v.oneCell'=true:=(aC.plain hr).1
 cases c with
 |own b wd off len=>exact RO
 |win b b2 off len=>exact RO
 |ptr b off=>exact RO
 |eptr b wd i off=>exact RO
 |fn f n caps=>exact RO
 |any=>exact RO
 |bool b=>exact aP.ext hx (.bool b) v hr
 |int k n=>exact aP.ext hx (.int k n) v hr
 |str b=>exact aP.ext hx (.str b) v hr
 |nil=>exact aP.ext hx .nil v hr
 |ints k xs=>exact aP.ext hx (.ints k xs) v hr
 |rows wd n f=>exact aP.ext hx (.rows wd n f) v hr
 |elt c wd i off=>exact aP.ext hx (.elt c wd i off) v hr
theorem Ey (hs:aR G dom ρ Z a w)(ha:gN s Z nx0 o){b2:Nat}{ids:List Nat}(hb:b2<nx0)(hi:b2∈ids)(c:C)(v:Value)(hr:aC ρ dom (aG G Z.own ρ w) w c v):
  aP (cS G Z.own ρ w ids) w (P8 s.own b2 c) v:=by
 have hx:Ext (aG G Z.own ρ w) (cS G Z.own ρ w ids) w w:=Ext.dA fun g hg=>.inl hg;have RO:v.oneCell'=true:=(aC.plain hr).1
 cases c with
 |own b wd off len=>
  simp only[P8]
  split
  ·rename_i e
   subst e
   cases hl:lo s.own b with
   |none=>exact RO
   |some B=>
    simp only;obtain⟨rw_,hz⟩:=ha.vX hb hl;obtain⟨h1,h2,h3,h4⟩:=hs.own b _ hz;obtain⟨_,hle,cap,hc,hr⟩:=hr
    rcases hr with⟨g,o1,o2,RD,rfl,R7,_⟩|⟨RD,rfl,Tr,SU⟩
    ·have Xn:hC dom dom ρ ρ:=⟨fun _ h=>h,fun _ _=>rfl⟩;exact lq (ρ:=ρ) (dom:=dom) RD (aL.ext hx Xn _ _ (fun _ _ _=>rfl) h3) (.inr ⟨b,hi,_,_,hz,RD⟩) h2 hle hc R7
    subst Tr
    cases hB:B.bk with
    |var cs=>rfl
    |wins e b2 n g=>rfl
    |ints e k xs=>
     simp only[ga]
     split
     ·exact⟨none,0,by simp,by simp,.inl (by simp)⟩
     rfl
    |rows e w' n f=>
     simp only[ga]
     split
     ·exact⟨none,0,rfl,Nat.le_refl _,.inl rfl⟩
     rfl
  exact RO
 |win b b2 off len=>exact RO
 |ptr b off=>exact RO
 |eptr b wd i off=>exact RO
 |elt c wd i off=>exact RO
 |fn f n caps=>exact RO
 |any=>exact RO
 |bool b=>exact aP.ext hx (.bool b) v hr
 |int k n=>exact aP.ext hx (.int k n) v hr
 |str b=>exact aP.ext hx (.str b) v hr
 |nil=>exact aP.ext hx .nil v hr
 |ints k xs=>exact aP.ext hx (.ints k xs) v hr
 |rows wd n f=>exact aP.ext hx (.rows wd n f) v hr
theorem mV (hs:aR G dom ρ Z a w)(ha:gN s Z nx0 o)(c:C)(v:Value)(ids:List Nat)(hi:∀b∈gr c,b<nx0→b∈ids)(hr:aC ρ dom (aG G Z.own ρ w) w c v):
  aC bg bm (cS G Z.own ρ w ids) w (jM s.own nx0 c) v:=by
 have hx:Ext (aG G Z.own ρ w) (cS G Z.own ρ w ids) w w:=Ext.dA fun g hg=>.inl hg;have RO:v.oneCell'=true:=(aC.plain hr).1
 cases c with
 |own b wd off len=>
  simp only[jM]
  split
  ·rename_i hb
   cases hl:lo s.own b with
   |none=>exact RO
   |some B=>
    simp only;obtain⟨rw_,hz⟩:=ha.vX hb hl;obtain⟨h1,h2,h3,h4⟩:=hs.own b _ hz;obtain⟨_,hle,cap,hc,hr⟩:=hr;refine aC.bh ?_
    rcases hr with⟨g,o1,o2,RD,rfl,R7,_⟩|⟨RD,rfl,Tr,SU⟩
    ·have Xn:hC dom dom ρ ρ:=⟨fun _ h=>h,fun _ _=>rfl⟩;exact lq (ρ:=ρ) (dom:=dom) RD (aL.ext hx Xn _ _ (fun _ _ _=>rfl) h3) (.inr ⟨b,hi b (by simp[gr]) hb,_,_,hz,RD⟩) h2 hle hc R7
    subst Tr
    cases hB:B.bk with
    |var cs=>rfl
    |wins e b2 n g=>rfl
    |ints e k xs=>
     simp only[ga]
     split
     ·exact⟨none,0,by simp,by simp,.inl (by simp)⟩
     rfl
    |rows e w' n f=>
     simp only[ga]
     split
     ·exact⟨none,0,rfl,Nat.le_refl _,.inl rfl⟩
     rfl
  exact RO
 |win b b2 off len=>
  simp only[jM]
  split
  ·rename_i hb
   split
   ·rename_i Sn
    cases hl:lo s.own b with
    |none=>exact RO
    |some B=>
     simp only;obtain⟨rw_,hz⟩:=ha.vX hb hl;obtain⟨h1,h2,h3,h4⟩:=hs.own b _ hz;obtain⟨_,_,hle,cap,hc,hr⟩:=hr
     cases hB:B.bk with
     |var cs=>exact RO
     |ints e k xs=>exact RO
     |rows e w' n f=>exact RO
     |wins e b3 n g=>
      simp only[Kc]
      split
      ·rename_i e3
       subst e3;rw[hB]at h2 h3;refine aC.bh ?_
       rcases hr with⟨g',o1,o2,RD,rfl,R7,_⟩|⟨RD,rfl,Tr,SU⟩
       ·refine⟨_,cap,rfl,hc,?_⟩
        by_cases h0:len=0
        ·exact .inl h0
        unfold aL at h3;rw[RD]at h3;obtain⟨cur,e',hg,R0⟩:=h3;refine .inr ⟨g',o2,rfl,.inr ⟨b,hi b (by simp[gr]) hb,_,_,hz,RD⟩,fun i j RP hj=>?_⟩;obtain rfl:j=0:=by omega
        have SO:o2=o1+off*1:=by rcases R7 with ho|ho<;>omega
        have RE:off+i<n:=by
         have:(ρ b).len=n:=h2
         omega
        obtain⟨u,hu,Yy⟩:=R0 (off+i) (g (off+i)) (by simp only[Bk.cell,if_pos RE]);refine⟨u,by rw[cell_of_row w g' _ cur e' (0,0) hg,SO,←hu];congr 1;omega,?_⟩;exact Ey hs ha Sn (hi b3 (by simp[gr]) Sn) (g (off+i)) u Yy
       subst Tr;exact⟨none,0,rfl,Nat.le_refl _,.inl rfl⟩
      exact RO
   exact RO
  exact RO
 |ptr b off=>
  simp only[jM]
  split
  ·rename_i hb
   cases hl:lo s.own b with
   |none=>exact RO
   |some B=>
    simp only;obtain⟨rw_,hz⟩:=ha.vX hb hl;obtain⟨h1,h2,h3,h4⟩:=hs.own b _ hz;obtain⟨_,g,o1,RD,rfl⟩:=hr
    cases hB:B.bk with
    |var cs=>
     simp only[P3];rw[hB]at h3;unfold aL at h3;rw[RD]at h3;obtain⟨cur,e,hg,R0⟩:=h3;refine⟨g,o1,1,1,⟨_,1,rfl,Nat.le_refl _,.inr ⟨g,o1,rfl,.inr ⟨b,hi b (by simp[gr]) hb,_,_,hz,RD⟩,fun i j hi hj=>?_⟩⟩,by omega,by rw[Nat.zero_mul,Nat.zero_add]⟩;obtain rfl:i=0:=by omega
     obtain⟨u,hu,hr⟩:=R0 j (cs.getD j .any) (by simp only[Bk.cell];rw[X7,X8 hj];rfl);refine⟨u,?_,E9 hx hr⟩;rw[cell_of_row w g _ cur e (0,0) hg,Nat.zero_mul,Nat.zero_add,hu]
    |ints e k xs=>exact RO
    |rows e w' n f=>exact RO
    |wins e b2 n g=>exact RO
  exact RO
 |eptr b wd i off=>exact RO
 |fn f n caps=>
  simp only[jM]
  split
  ·rename_i hn
   subst hn;obtain⟨cs,hv,Sc,_⟩:=hr;exact⟨cs,hv,Sc,fun i hi=>absurd hi (Nat.not_lt_zero _)⟩
  exact RO
 |any=>exact RO
 |bool b=>exact aC.bh (aP.ext hx (.bool b) v hr)
 |int k n=>exact aC.bh (aP.ext hx (.int k n) v hr)
 |str b=>exact aC.bh (aP.ext hx (.str b) v hr)
 |nil=>exact aC.bh (aP.ext hx .nil v hr)
 |ints k xs=>exact aC.bh (aP.ext hx (.ints k xs) v hr)
 |rows wd n f=>exact aC.bh (aP.ext hx (.rows wd n f) v hr)
 |elt c wd i off=>exact aC.bh (aP.ext hx (.elt c wd i off) v hr)
theorem qU (hs:aR G dom ρ Z a w)(ha:gN s Z nx0 o)(ids:List Nat):∀(cs:List C) (vs:List Value),(∀b∈cs.flatMap gr,b<nx0→b∈ids)→bG ρ dom (aG G Z.own ρ w) w cs vs→bG bg bm (cS G Z.own ρ w ids) w (cs.map (jM s.own nx0)) vs
 |[],[],_,_=>trivial
 |c::cs,v::vs,hi,hr=>⟨mV hs ha c v ids (fun b hb=>hi b (by simp[hb])) hr.1,qU hs ha ids cs vs (fun b hb=>hi b (by rw[List.flatMap_cons];exact List.mem_append_right _ hb)) hr.2⟩
 |[],_::_,_,hr=>hr.elim
 |_::_,[],_,hr=>hr.elim
theorem nG (hs:aR G dom ρ Z a w)(ha:gN s Z nx0 o)(ids:List Nat)(x:V)(v:Value)(hi:∀b∈kv x,b<nx0→b∈ids)(hr:b6 ρ dom (aG G Z.own ρ w) w x v):
  dM bg bm (cS G Z.own ρ w ids) w (Bq s.own nx0 x) v:=by
 cases x with
 |one c=>exact mV hs ha c v ids hi hr
 |agg cs=>obtain⟨vs,rfl,hl⟩:=hr;exact⟨vs,rfl,qU hs ha ids cs _ hi hl⟩
 |aB xs=>trivial
 |unk=>trivial
end view
theorem jP {c:C}{v:Value}{ρ ρ':Nat→Loc}{dom dom' ok ok':Nat→Prop}{w:World}(hs:gp c=true)(h:aC ρ dom ok w c v):aC ρ' dom' ok' w c v:=by
 cases c<;>simp [gp]at hs<;>exact h
theorem mo {ρ ρ':Nat→Loc}{dom dom' ok ok':Nat→Prop}{w:World}:∀{cs:List C} {vs:List Value},cs.all gp=true→bG ρ dom ok w cs vs→bG ρ' dom' ok' w cs vs
 |[],[],_,_=>trivial
 |_::cs,_::vs,h,hr=>by
  simp only[List.all_cons,Bool.and_eq_true]at h;exact⟨jP h.1 hr.1,mo h.2 hr.2⟩
 |[],_::_,_,hr=>hr.elim
 |_::_,[],_,hr=>hr.elim
theorem pI {ρ ρ':Nat→Loc}{dom dom' ok ok':Nat→Prop}{w:World}:∀{xs:List V} {vs:List Value},(xs.all fun|.one c=>gp c|.agg cs=>cs.all gp|.unk=>true|.aB _=>false)=true→a7 ρ dom ok w xs vs→a7 ρ' dom' ok' w xs vs
 |[],[],_,_=>trivial
 |x::xs,_::vs,h,hr=>by
  simp only[List.all_cons,Bool.and_eq_true]at h;refine⟨?_,pI h.2 hr.2⟩
  cases x with
  |one c=>exact jP h.1 hr.1
  |agg cs=>obtain⟨us,hu,hl⟩:=hr.1;exact⟨us,hu,mo h.1 hl⟩
  |aB ys=>exact absurd h.1 (by simp)
  |unk=>trivial
 |[],_::_,_,hr=>hr.elim
 |_::_,[],_,hr=>hr.elim
theorem AL {x:V}{v:Value}{ρ ρ':Nat→Loc}{dom dom' ok ok':Nat→Prop}{w:World}(hs:nq x=true)(h:b6 ρ dom ok w x v):b6 ρ' dom' ok' w x v:=by
 cases x with
 |unk=>trivial
 |one c=>exact jP hs h
 |agg cs=>obtain⟨us,hu,hl⟩:=h;exact⟨us,hu,mo hs hl⟩
 |aB xs=>obtain⟨us,hu,hl⟩:=h;exact⟨us,hu,pI hs hl⟩
theorem a7.mT {ρ:Nat→Loc}{dom ok:Nat→Prop}{w:World}{α:Type}(f:α→V)(g:α→Value):∀(l:List α),(∀x∈l,dM ρ dom ok w (f x) (g x))→a7 ρ dom ok w (l.map f) (l.map g)
 |[],_=>trivial
 |x::l,h=>⟨h x (by simp),a7.mT f g l (fun y hy=>h y (by simp[hy]))⟩
theorem a7.append {ρ:Nat→Loc}{dom ok:Nat→Prop}{w:World}:∀{xs ys:List V} {vs us:List Value},a7 ρ dom ok w xs vs→a7 ρ dom ok w ys us→a7 ρ dom ok w (xs++ys) (vs++us)
 |[],_,[],_,_,h=>h
 |_::_,_,_::_,_,h,h'=>⟨h.1,a7.append h.2 h'⟩
 |[],_,_::_,_,h,_=>h.elim
 |_::_,_,[],_,h,_=>h.elim
theorem a7.tG {ρ:Nat→Loc}{dom ok:Nat→Prop}{w:World}:∀(f:Nat→V) (vs:List Value),(∀i,i<vs.length→dM ρ dom ok w (f i) (vs.getD i undef))→a7 ρ dom ok w ((List.range vs.length).map f) vs
 |_,[],_=>trivial
 |f,v::vs,h=>by
  rw[List.length_cons,List.range_succ_eq_map,List.map_cons,List.map_map];exact⟨h 0 (by simp),a7.tG (f∘Nat.succ) vs fun i hi=>h (i+1) (by simpa using hi)⟩
theorem aC.xo {ρ:Nat→Loc}{dom ok:Nat→Prop}{w:World}{c:C}{v:Value}(h:eE ρ dom ok w c v):aC ρ dom ok w c v:=by
 cases c with
 |fn f n caps=>exact aC.bh h
 |own b wd off len=>exact h
 |win b b2 off len=>exact h
 |ptr b off=>exact h
 |eptr b wd i off=>exact h
 |any=>exact h
 |bool b=>exact h
 |int k n=>exact h
 |str b=>exact h
 |nil=>exact h
 |ints k xs=>exact h
 |rows wd n f=>exact h
 |elt c wd i off=>exact h
theorem eE.oQ {ρ:Nat→Loc}{dom ok:Nat→Prop}{w:World}{c:C}{v:Value}(hn:∀f n caps,c≠ .fn f n caps)(h:aC ρ dom ok w c v):eE ρ dom ok w c v:=by
 cases c with
 |fn f n caps=>exact absurd rfl (hn f n caps)
 |own b wd off len=>exact h
 |win b b2 off len=>exact h
 |ptr b off=>exact h
 |eptr b wd i off=>exact h
 |any=>exact h
 |bool b=>exact h
 |int k n=>exact h
 |str b=>exact h
 |nil=>exact h
 |ints k xs=>exact h
 |rows wd n f=>exact h
 |elt c wd i off=>exact h
theorem nB {G:Ctx}{dom:Nat→Prop}{ρ:Nat→Loc}{Z s:St}{a:Act}{w:World}{nx0:Nat}{o:Oper}(hs:aR G dom ρ Z a w)(ha:gN s Z nx0 o)(ids:List Nat)(x:V)(v:Value)(hi:∀b∈o8 x,b<nx0→b∈ids)(hr:b6 ρ dom (aG G Z.own ρ w) w x v):
  dM bg bm (cS G Z.own ρ w ids) w (DI s.own nx0 x) v:=by
 by_cases hx:∃f n caps,x= .one (.fn f n caps)
 ·obtain⟨f,n,caps,rfl⟩:=hx;simp only[DI]
  split
  ·rename_i h0
   subst h0;obtain⟨cs,rfl,h1,_⟩:=hr;exact⟨cs,rfl,h1,fun i hi=>absurd hi (Nat.not_lt_zero _)⟩
  obtain⟨cs,rfl,h1,h2⟩:=hr;refine⟨cs,rfl,h1,fun i Se=>?_⟩;have h3:=aC.xo (h2 i Se);have Tm:∀b∈gr (caps i),b<nx0→b∈ids:=fun b hb=>hi b (by
   simp only[o8];rw[if_neg (by omega)]
   split
   ·obtain rfl:i=0:=by omega
    exact hb
   exact List.mem_flatMap.2 ⟨i,List.mem_range.2 Se,hb⟩)
  have h4:=mV hs ha (caps i) _ ids Tm h3;have RO:=(aC.plain h3).1;show eE bg bm _ w (No s.own nx0 (caps i)) _
  revert h4
  cases hc:caps i with
  |fn f n c=>intro _;exact RO
  |own b wd off len=>
   intro h4;refine eE.oQ (fun f n c e=>?_) h4;simp only[No,jM]at e
   split at e
   ·split at e
    ·rename_i B _;cases hB:B.bk<;>rw [hB]at e<;>simp only[ga]at e<;>(first|cases e|(split at e<;>cases e))
    cases e
   cases e
  |win b b2 off len=>
   intro h4;refine eE.oQ (fun f n c e=>?_) h4;simp only[No,jM]at e
   split at e
   ·split at e
    ·split at e
     ·rename_i B _;cases hB:B.bk<;>rw [hB]at e<;>simp only[Kc]at e<;>(first|cases e|(split at e<;>cases e))
     cases e
    cases e
   cases e
  |ptr b off=>
   intro h4;refine eE.oQ (fun f n c e=>?_) h4;simp only[No,jM]at e
   split at e
   ·split at e
    ·rename_i B _;cases hB:B.bk<;>rw [hB]at e<;>simp only[P3]at e<;>cases e
    cases e
   cases e
  |_=>intro h4;exact eE.oQ (fun f n c e=>by simp only[No,jM]at e;cases e) h4
 have e1:DI s.own nx0 x=Bq s.own nx0 x:=by
  unfold DI
  split
  ·rename_i f n caps;exact absurd ⟨f,n,caps,rfl⟩ hx
  rfl
 have e2:o8 x=kv x:=by
  unfold o8
  split
  ·rename_i f n caps;exact absurd ⟨_,n,caps,rfl⟩ hx
  rfl
 rw[e1];rw[e2]at hi;exact nG hs ha ids x v hi hr
theorem kM {P:Program}{w:World}{f:FuncId}(h:g7 P f)(args:Array Value):(callFunc f args).run P w= .ok (.enter f args) w:=by
 obtain⟨fn,hf,hb,hn⟩:=h;unfold callFunc;simp only[Sem.run_bind,run_program,Result.andThen_ok,hf,hn,hb,Bool.false_eq_true,↓reduceIte,Sem.run_pure]
section
variable {P:Program}{T:fH}(hT:eJ P T){o:Oper}{s:St}{nx0 id:Nat}{K:eK→Prop}
theorem PB {c:Call}{g:Operand}(ho:o.op= .call c)(hc:c.callee= .value g)(hd:bT o s.n)(h:v7 P s nx0 id g c.args.toList K):∃e,K e∧a6 P o s nx0 id e:=by
 have UW:g∈o.op.operands:=by rw[ho];simp[Op.operands,Call.operands,hc]
 have VF:∀x∈c.args.toList,x∈o.op.operands:=fun x hx=>by rw[ho];simp only[Op.operands,Call.operands];exact Array.mem_append_right _ (by simpa using hx)
 unfold v7 at h
 split at h
 ·rename_i f n caps hg
  rcases h with⟨r,⟨SC,hpure⟩,hK⟩|hF
  ·refine⟨_,hK,?_,fun h=>by rw[ho]at h;simp[iq,hc]at h⟩;intro G dom ρ Z a w hs hid ha Q next hk;have UX:=hs.ev g;rw[aS ha UW hg]at UX;obtain⟨cs,UX,Sc,Yz⟩:=UX;have RK:(execOp a.eval o).run P w= .ok (.enter f (c.args.map a.eval++cs)) w:=by
    unfold execOp;rw[ho];simp only[resolve,hc,Sem.run_bind,UX,Deferred.ofValue,Sem.run_pure,Result.andThen_ok,invoke]
    have:=kM (w:=w) SC (c.args.map a.eval++cs)
    simpa using this
   unfold Oper.wp;rw[RK,Oper.upon_enter]
   let ids:=((c.args.toList.map s.ev++lZ n caps).map o8).flatten.filter (fun b=>decide (b<nx0))
   have RE:∀g,cS G Z.own ρ w ids g→g<w.heap.size:=by
    rintro g (h1|⟨b,_,B,o',hl,Sj⟩)
    ·exact h1.1
    exact((hs.own b B hl).2.2.2 g o' Sj).1
   have SV:∀x,x∈c.args.toList.map s.ev++lZ n caps→∀b∈o8 x,b<nx0→b∈ids:=fun x hx b hb RE=>List.mem_filter.2 ⟨List.mem_flatten.2 ⟨_,List.mem_map.2 ⟨x,hx,rfl⟩,hb⟩,by simpa using RE⟩;have RH:a7 bg bm (cS G Z.own ρ w ids) w ((c.args.toList.map s.ev++lZ n caps).map (DI s.own nx0)) (c.args.map a.eval++cs).toList:=by
    rw[Array.toList_append,Array.toList_map,List.map_append,List.map_map];refine a7.append (a7.mT (DI s.own nx0∘s.ev) a.eval c.args.toList fun x hx=>?_) ?_
    ·have RJ:=hs.ev x;rw[ha.ev x (VF x hx)]at RJ;exact nB hs ha ids _ _ (SV _ (List.mem_append_left _ (List.mem_map.2 ⟨x,hx,rfl⟩))) RJ
    have hn:n=cs.toList.length:=by simp[Sc]
    unfold lZ at SV⊢;rw[hn,List.map_map];refine a7.tG _ _ fun i hi=>?_;have Se:i<n:=by omega
    have h1:=Yz i Se;have h2:cs.toList.getD i undef=cs.getD i undef:=by simp[Array.getD_eq_getD_getElem?,X7]
    rw[h2];exact nB hs ha ids (.one (caps i)) _ (SV (.one (caps i)) (List.mem_append_right _ (List.mem_map.2 ⟨i,List.mem_range.2 Se,rfl⟩))) (aC.xo h1)
   refine Calls.mono (hpure _ w _ RE RH) fun e w' he=>?_;obtain⟨v,rfl,hb,hr⟩:=he;refine hk v w' ?_;have h1:=hs.grown hb
   by_cases Wp:nq r=true
   ·rw[if_pos Wp,St.add_plain];exact⟨ρ,(h1.put (dst:=o.dst) (x:=r) (v:=v) (fun d hh=>by have:=hd d hh;rw[←ha.n]at this;exact this) (AL Wp hr)).cR (fun b hb=>Or.inl hb)⟩
   rw[if_neg Wp];have h2:=h1.dJ ids;have R6:∀g,(cS G Z.own ρ w ids g∨(w.heap.size≤g∧g<w'.heap.size))→aG G (dJ Z.own ids) ρ w' g:=by
    rintro g ((h3|⟨b,RR,B,o',hl,Sj⟩)|⟨h3,h4⟩)
    ·exact kn ⟨Nat.lt_of_lt_of_le h3.1 hb.size,h3.2⟩
    ·obtain⟨_,_,_,h4⟩:=hs.own b B hl;obtain⟨h5,h6,_⟩:=h4 g o' Sj;refine⟨Nat.lt_of_lt_of_le h5 hb.size,h6,fun b2 B2 RF RX o2 R4=>?_⟩;rw[fy]at RF
     cases Si:lo Z.own b2 with
     |none=>rw[Si]at RF;simp at RF
     |some B3=>
      rw[Si]at RF;simp only[Option.map_some,Option.some.injEq]at RF
      by_cases hm:ids.contains b2=true
      ·rw[if_pos hm]at RF;subst RF;simp at RX
      rw[if_neg hm]at RF;subst RF
      by_cases TR:b2=b
      ·subst TR;exact hm (by simpa using RR)
      exact hs.inj b2 B3 b B Si hl TR RX g o2 o' R4 Sj
    refine⟨h4,fun hf=>absurd (hs.wf _ hf) (by have:=hs.size;omega),fun b2 B2 RF _ o2 R4=>?_⟩
    have:=(h2.own b2 B2 RF).2.2.2 g o2 R4
    rw[fy]at RF
    cases Si:lo Z.own b2 with
    |none=>rw[Si]at RF;simp at RF
    |some B3=>exact absurd ((hs.own b2 B3 Si).2.2.2 g o2 R4).1 (by omega)
   have Vo:b6 ρ dom (aG G (dJ Z.own ids) ρ w') w' r v:=
    b6.ext (dom:=bm) (ρ:=bg) (Ext.dA R6) ⟨fun b hb=>hb.elim,fun b hb=>hb.elim⟩ _ _ hr
   have h3:=(h2.put (dst:=o.dst) (x:=r) (v:=v) (fun d hh=>by have:=hd d hh;rw[←ha.n]at this;exact this) Vo).cR (dom':=fun b=>dom b∨b=id) (fun b hb=>Or.inl hb);refine⟨ρ,?_⟩;have e2:Z.add o.dst id ⟨r,none,ids⟩=St.put {Z with own:=dJ Z.own ids} o.dst r∨ids=[]:=by
    cases hi:ids with
    |nil=>exact .inr rfl
    |cons x l=>left;cases o.dst<;>rfl
   rcases e2 with e2|e2
   ·show aR G _ ρ (Z.add o.dst id ⟨r,none,ids⟩) _ w';rw[e2];exact h3
   show aR G _ ρ (Z.add o.dst id ⟨r,none,ids⟩) _ w';rw[e2,St.add_plain];have hfe:∀l:List (Nat×fA),dJ l []=l:=by
    intro l
    induction l with
    |nil=>rfl
    |cons x l ih=>obtain⟨b,B⟩:=x;simp[dJ,ih]
   rw[e2,hfe]at h3;exact h3
  have h3:∃(B:Bk) (x:V),K ⟨x,some B,((c.args.toList.map s.ev++lZ n caps).map o8).flatten.filter (fun b=>decide (b<nx0))⟩∧g7 P f∧∀(ok:Nat→Prop) (w:World) (vs:Array Value),(∀g,ok g→g<w.heap.size)→
    a7 bg bm ok w ((c.args.toList.map s.ev++lZ n caps).map (DI s.own nx0)) vs.toList→Calls P f vs w fun e w'=>∃v l,e= .returned v∧Go.RowKit.Below w.heap.size w w'∧l.len=B.len∧
     (∀g o,l.addr=some (g,o)→w.heap.size≤g∧g<w'.heap.size)∧aL bg bm (fun g=>ok g∨(w.heap.size≤g∧g<w'.heap.size∧∀o,l.addr≠some (g,o))) w' l B∧
     ∀(ρ:Nat→Loc) (dom ok':Nat→Prop),ρ id=l→dom id→b6 ρ dom ok' w' x v:=by
   have key:∀{B:Bk} {l:Loc} {w':World} {v:Value},eE (fun _=>l) (fun _=>True) (fun _=>False) w' (.own 0 B.wd 0 B.len) v→∀(ρ:Nat→Loc) (dom ok':Nat→Prop),ρ id=l→dom id→aC ρ dom ok' w' (.own id B.wd 0 B.len) v:=by
    rintro B l w' v ⟨_,TI,hv3⟩ ρ dom ok' hl hd;subst hl;exact⟨hd,TI,hv3⟩
   rcases hF with⟨B,⟨SC,_,TA⟩,hK⟩|⟨B,c',⟨Wp,SC,_,TA⟩,hK⟩
   ·refine⟨B,_,hK,SC,fun ok w vs h1 h2=>Calls.mono (TA ok w vs h1 h2) fun e w' he=>?_⟩;obtain⟨v,l,he,hb,hlen,Sx,RG,RQ⟩:=he;exact⟨v,l,he,hb,hlen,Sx,RG,fun ρ dom ok' hl hd=>key RQ ρ dom ok' hl hd⟩
   refine⟨B,_,hK,SC,fun ok w vs h1 h2=>Calls.mono (TA ok w vs h1 h2) fun e w' he=>?_⟩;obtain⟨v,u,l,he,hb,hlen,Sx,RG,RQ,hu⟩:=he;refine⟨_,l,he,hb,hlen,Sx,RG,fun ρ dom ok' hl hd=>⟨_,rfl,key RQ ρ dom ok' hl hd,?_,trivial⟩⟩
   cases c'<;>first|exact Wp.elim|exact hu
  obtain⟨B,x,hK,SC,TA⟩:=h3;refine⟨_,hK,?_,fun h=>by rw[ho]at h;simp[iq,hc]at h⟩;intro G dom ρ Z a w hs hid ha Q next hk;have UX:=hs.ev g;rw[aS ha UW hg]at UX;obtain⟨cs,UX,Sc,Yz⟩:=UX;have RK:(execOp a.eval o).run P w= .ok (.enter f (c.args.map a.eval++cs)) w:=by
   unfold execOp;rw[ho];simp only[resolve,hc,Sem.run_bind,UX,Deferred.ofValue,Sem.run_pure,Result.andThen_ok,invoke]
   have:=kM (w:=w) SC (c.args.map a.eval++cs)
   simpa using this
  unfold Oper.wp;rw[RK,Oper.upon_enter]
  let ids:=((c.args.toList.map s.ev++lZ n caps).map o8).flatten.filter (fun b=>decide (b<nx0))
  have RE:∀g,cS G Z.own ρ w ids g→g<w.heap.size:=by
   rintro g (h1|⟨b,_,B,o',hl,Sj⟩)
   ·exact h1.1
   exact((hs.own b B hl).2.2.2 g o' Sj).1
  have SV:∀x,x∈c.args.toList.map s.ev++lZ n caps→∀b∈o8 x,b<nx0→b∈ids:=fun x hx b hb RE=>List.mem_filter.2 ⟨List.mem_flatten.2 ⟨_,List.mem_map.2 ⟨x,hx,rfl⟩,hb⟩,by simpa using RE⟩;have RH:a7 bg bm (cS G Z.own ρ w ids) w ((c.args.toList.map s.ev++lZ n caps).map (DI s.own nx0)) (c.args.map a.eval++cs).toList:=by
   rw[Array.toList_append,Array.toList_map,List.map_append,List.map_map];refine a7.append (a7.mT (DI s.own nx0∘s.ev) a.eval c.args.toList fun x hx=>?_) ?_
   ·have RJ:=hs.ev x;rw[ha.ev x (VF x hx)]at RJ;exact nB hs ha ids _ _ (SV _ (List.mem_append_left _ (List.mem_map.2 ⟨x,hx,rfl⟩))) RJ
   have hn:n=cs.toList.length:=by simp[Sc]
   unfold lZ at SV⊢;rw[hn,List.map_map];refine a7.tG _ _ fun i hi=>?_;have Se:i<n:=by omega
   have h1:=Yz i Se;have h2:cs.toList.getD i undef=cs.getD i undef:=by simp[Array.getD_eq_getD_getElem?,X7]
   rw[h2];exact nB hs ha ids (.one (caps i)) _ (SV (.one (caps i)) (List.mem_append_right _ (List.mem_map.2 ⟨i,List.mem_range.2 Se,rfl⟩))) (aC.xo h1)
  refine Calls.mono (TA _ w _ RE RH) fun e w' he=>?_;obtain⟨v,l,rfl,hb,hlen,Sx,RG,RQ⟩:=he;refine hk v w' ?_;have h2:=hs.dJ ids;have R6:∀g,(cS G Z.own ρ w ids g∨(w.heap.size≤g∧g<w'.heap.size∧∀o,l.addr≠some (g,o)))→aG G (eD (dJ Z.own ids) id ⟨B,true⟩) (aZ ρ id l) w' g:=by
   have step:∀g,g<w'.heap.size→¬G.forb g→(∀o,l.addr≠some (g,o))→(∀b2 B2,lo (dJ Z.own ids) b2=some B2→B2.rw=true→∀o2,(ρ b2).addr≠some (g,o2))→aG G (eD (dJ Z.own ids) id ⟨B,true⟩) (aZ ρ id l) w' g:=by
    intro g h1 h2 h3 h4;refine⟨h1,h2,fun b2 B2 RF RX o2=>?_⟩;rw[b7]at RF
    by_cases RR:b2=id
    ·subst RR;rw[lP];exact h3 o2
    rw[if_neg RR]at RF;rw[aW _ _ RR];exact h4 b2 B2 RF RX o2
   rintro g ((h3|⟨b,RR,B2,o',hl,Sj⟩)|⟨h3,h4,h5⟩)
   ·exact step g (Nat.lt_of_lt_of_le h3.1 hb.size) h3.2.1 (fun o he=>absurd h3.1 (by have:=(Sx g o he).1;omega)) (kn h3).2.2
   ·obtain⟨_,_,_,h4⟩:=hs.own b B2 hl;obtain⟨h5,h6,_⟩:=h4 g o' Sj;refine step g (Nat.lt_of_lt_of_le h5 hb.size) h6 (fun o he=>absurd h5 (by have:=(Sx g o he).1;omega)) fun b2 B3 RF RX o2 R4=>?_;rw[fy]at RF
    cases Si:lo Z.own b2 with
    |none=>rw[Si]at RF;simp at RF
    |some B4=>
     rw[Si]at RF;simp only[Option.map_some,Option.some.injEq]at RF
     by_cases hm:ids.contains b2=true
     ·rw[if_pos hm]at RF;subst RF;simp at RX
     rw[if_neg hm]at RF;subst RF
     by_cases TR:b2=b
     ·subst TR;exact hm (by simpa using RR)
     exact hs.inj b2 B4 b B2 Si hl TR RX g o2 o' R4 Sj
   refine step g h4 (fun hf=>absurd (hs.wf _ hf) (by have:=hs.size;omega)) h5 fun b2 B2 RF _ o2 R4=>?_;rw[fy]at RF
   cases Si:lo Z.own b2 with
   |none=>rw[Si]at RF;simp at RF
   |some B3=>exact absurd ((hs.own b2 B3 Si).2.2.2 g o2 R4).1 (by omega)
  have VG:aL (aZ ρ id l) (fun b=>dom b∨b=id) (aG G (eD (dJ Z.own ids) id ⟨B,true⟩) (aZ ρ id l) w') w' l B:=
   aL.ext (dom:=bm) (ρ:=bg) (Ext.dA R6) ⟨fun b hb=>hb.elim,fun b hb=>hb.elim⟩ _ _ (fun _ _ _=>rfl) RG
  have h3:=h2.JQ hb hid B l hlen Sx VG;have VH:b6 (aZ ρ id l) (fun b=>dom b∨b=id) (aG G (eD (dJ Z.own ids) id ⟨B,true⟩) (aZ ρ id l) w') w' x v:=RQ _ _ _ (lP ..) (.inr rfl);refine⟨aZ ρ id l,?_⟩;have h4:=h3.put (dst:=o.dst) (x:=x) (v:=v) (fun d hh=>by have:=hd d hh;rw[←ha.n]at this;exact this) VH;have e2:Z.add o.dst id ⟨x,some B,ids⟩=St.put {Z with own:=eD (dJ Z.own ids) id ⟨B,true⟩} o.dst x:=by
   unfold St.add;simp only
   have:uO Z.own ids=dJ Z.own ids:=by
    cases hi:ids with
    |nil=>
     have hfe:∀l:List (Nat×fA),dJ l []=l:=by
      intro l
      induction l with
      |nil=>rfl
      |cons x l ih=>obtain⟨b,B⟩:=x;simp[dJ,ih]
     simp[uO,hfe]
    |cons x l=>rfl
   rw[this]
   cases o.dst<;>rfl
  show aR G _ _ (Z.add o.dst id ⟨x,some B,ids⟩) _ w';rw[e2];exact h4
 exact h.elim
end
end Go.Eng
namespace Go.Eng
open Go
theorem qH {s Z:St}{nx0:Nat}{o:Oper}{G:Ctx}{dom:Nat→Prop}{ρ:Nat→Loc}{a:Act}{w:World}(hs:aR G dom ρ Z a w):∀(l:List (Nat×Operand)),(∀p∈l,Z.ev p.2=s.ev p.2)→
  Ll ρ dom (aG G Z.own ρ w) w (l.map fun p=>(p.1,s.ev p.2)) (l.map fun p=>(p.1,a.eval p.2))
 |[],_=>trivial
 |p::l,h=>⟨rfl,by have:=hs.ev p.2;rw[h p (by simp)]at this;exact this,qH (nx0:=nx0) (o:=o) hs l (fun q hq=>h q (by simp[hq]))⟩
theorem tv {s Z:St}{nx0:Nat}{o:Oper}{G:Ctx}{dom:Nat→Prop}{ρ:Nat→Loc}{a:Act}{w:World}(hs:aR G dom ρ Z a w)(ha:gN s Z nx0 o)(ids:List Nat):∀(l:List (Nat×Operand)),(∀p∈l,Z.ev p.2=s.ev p.2)→(∀p∈l,∀b∈kv (s.ev p.2),b<nx0→b∈ids)→
  Ll bg bm (aG G (dJ Z.own ids) ρ w) w (l.map fun p=>(p.1,Bq s.own nx0 (s.ev p.2))) (l.map fun p=>(p.1,a.eval p.2))
 |[],_,_=>trivial
 |p::l,h,hi=>by
  refine⟨rfl,?_,tv hs ha ids l (fun q hq=>h q (by simp[hq])) (fun q hq=>hi q (by simp[hq]))⟩;have RJ:=hs.ev p.2;rw[h p (by simp)]at RJ;have h1:=nG hs ha ids _ _ (hi p (by simp)) RJ;have h2:=dM.ext (ρ:=bg) (ρ':=bg) (dom:=bm) (dom':=bm) (Ext.dA fun g hg=>v8 hs ids hg) ⟨fun _ h=>h,fun _ _=>rfl⟩ _ _ h1
  revert h2
  cases hx:Bq s.own nx0 (s.ev p.2)with
  |one c=>exact fun h=>h
  |agg cs=>exact fun h=>h
  |aB xs=>exact fun h=>h.elim
  |unk=>exact fun _=>trivial
theorem aP.dZ {ok:Nat→Prop}{w:World}{c:C}{v:Value}(h:aC bg bm ok w c v):aP ok w c v:=by
 cases c with
 |own b wd off len=>exact h.1.elim
 |win b b2 off len=>exact h.1.elim
 |ptr b off=>exact h.1.elim
 |eptr b wd i off=>exact h.1.elim
 |fn f n caps=>
  obtain⟨cs,hv,hn,Sc⟩:=h;refine⟨cs,hv,hn,fun i hi=>?_⟩
  have:=Sc i hi
  unfold eE at this
  cases hc:caps i with
  |own b wd off len=>rw[hc]at this;exact this.1.elim
  |win b b2 off len=>rw[hc]at this;exact this.1.elim
  |ptr b off=>rw[hc]at this;exact this.1.elim
  |eptr b wd i off=>rw[hc]at this;exact this.1.elim
  |_=>rw[hc]at this;exact this
 |_=>exact h
theorem jZ (z:List C):∀n,(eR z n).length=n*z.length
 |0=>by simp[eR]
 |n+1=>by simp[eR,jZ z n,Nat.add_mul];omega
theorem oK (z:List C):∀(n j:Nat),j<n*z.length→(eR z n)[j]? =z[j%z.length]?
 |0,j,h=>by simp at h
 |n+1,j,h=>by
  simp only[eR,List.getElem?_append]
  split
  ·rename_i hj;rw[Nat.mod_eq_of_lt hj]
  rename_i hj
  rw[oK z n (j-z.length) (by rw[Nat.add_mul]at h;omega)]
  congr 1
  exact(Nat.mod_eq_sub_mod (by omega)).symm
theorem mB (size:Nat):∀(n i j:Nat) p,(gm size i n)[j]? =some p→p=((i+j)*size,size)
 |0,i,j,p,h=>by simp[gm]at h
 |n+1,i,0,p,h=>by simp[gm]at h;simp[←h]
 |n+1,i,j+1,p,h=>by
  have:=mB size n (i+1) j p (by simpa[gm]using h)
  rw[this,show i+1+j=i+(j+1) by omega]
theorem kt {ρ:Nat→Loc}{dom ok:Nat→Prop}{w:World}(z:Array Value)(n:Nat)(hz:0<z.size)(RI:z.toList.all Value.oneCell'=true):
  bG ρ dom ok w (eR (z.toList.map Df) n) ((Array.range (n*z.size)).map (fun i=>z[i%z.size]!)).toList:=by
 refine bG.Cy ?_ ?_
 ·rw[jZ];simp
 intro j c v hc hv;have hj:j<n*z.size:=by
  have:=(List.getElem?_eq_some_iff.1 hv).1
  simpa using this
 rw[oK _ _ _ (by simpa using hj)]at hc;simp only[List.length_map,Array.length_toList,List.getElem?_map]at hc;have hm:j%z.size<z.size:=Nat.mod_lt _ hz
 simp[hj]at hv
 rw[X8 (by simpa using hm)]at hc;simp only[Option.map_some,Option.some.injEq,Array.getElem_toList]at hc;subst hc;have hz':z[j%z.size]! =z[j%z.size]:=by simp[hm]
 rw[←hv,hz'];exact xb _ (List.all_eq_true.1 RI _ (by simp))
theorem tD (k:IntKind):∀(cs:List C) (xs:List Int),lH k cs=some xs→cs=xs.map (C.int k)
 |[],xs,h=>by simp[lH]at h;subst h;rfl
 |c::cs,xs,h=>by
  cases c with
  |int k' n=>
   simp only[lH]at h
   split at h
   ·rename_i hk
    subst hk
    cases hr:lH k' cs with
    |none=>rw[hr]at h;simp at h
    |some ys=>
     rw[hr]at h;simp only[Option.map_some,Option.some.injEq]at h;subst h;rw[tD k' cs ys hr];rfl
   simp at h
  |_=>simp[lH]at h
theorem oZ (fs:List (Nat×Nat)):∀(xs:List (Nat×V)) (cs out:List C),jn fs cs xs=some out→out.length=cs.length
 |[],cs,out,h=>by simp[jn]at h;rw[h]
 |(i,x)::xs,cs,out,h=>by
  simp only[jn]at h
  split at h
  ·simp at h
  split at h
  ·rename_i hc
   rw[oZ fs xs _ out h,nY _ _ _ (by omega)]
  simp at h
section
variable {P:Program}{T:fH}(hT:eJ P T){o:Oper}{s:St}{nx0 id:Nat}{K:eK→Prop}
include hT in
theorem N7 {e:TypeId}(ho:o.op= .alloc e)(hd:bT o s.n){E:Ty}(hE:T e=some E)(h:K ⟨.one (.ptr id 0),some (.var E.zero),[]⟩):∃f,K f∧a6 P o s nx0 id f:=by
 obtain⟨i,d,z,hi,hu,hz,hk,_,_,Tt,RI⟩:=bB hT hE;refine⟨_,h,a6.newVar (e:=e) (by rw[ho];rfl) hd fun G dom ρ Z a w hs ha=>⟨z.cells,?_,?_⟩⟩
 ·unfold execOp;rw[ho];refine dW ?_;simp only[Instr.alloc,newVar,newRow,Sem.run_bind,fC hi hz,Result.andThen_ok,run_newObj,Sem.run_pure];rfl
 rw[Tt];exact px _ RI
theorem QM {e:TypeId}{x:Operand}(ho:o.op= .box e x)(hd:bT o s.n)(hx:(s.ev x).n7=true)(h:K ⟨.one (.ptr id 0),some (.var (cellsOf (s.ev x))),[]⟩):∃f,K f∧a6 P o s nx0 id f:=by
 have Sh:x∈o.op.operands:=by rw[ho];simp[Op.operands]
 refine⟨_,h,a6.newVar (e:=e) (by rw[ho];rfl) hd fun G dom ρ Z a w hs ha=>⟨(a.eval x).cells,?_,?_⟩⟩
 ·unfold execOp;rw[ho];refine dW ?_;simp only[Instr.box,newVar,newRow,Sem.run_bind,Result.andThen_ok,run_newObj,Sem.run_pure];rfl
 have RJ:=hs.ev x;rw[ha.ev x Sh]at RJ;exact b6.cells RJ hx
include hT in
theorem Np {t:TypeId}{parts:Array (Nat×Operand)}(ho:o.op= .build t parts)(hd:bT o s.n){E:Ty}(hE:T t=some E){fs:List (Nat×Nat)}(Yu:E.k= .st fs){cs:List C}
  (hf:jn fs E.zero (parts.toList.map fun p=>(p.1,s.ev p.2))=some cs) (h:K ⟨.agg cs,none,[]⟩):∃f,K f∧a6 P o s nx0 id f:=by
 obtain⟨i,d,z,hi,hu,hz,hk,_,_,Tt,RI⟩:=bB hT hE;rw[Yu]at hk;obtain⟨fields,rfl,VD⟩:=qu hk.symm;have XV:∀p∈parts.toList,p.2∈o.op.operands:=fun p hp=>by rw[ho];simp only[Op.operands];simpa using⟨p.1,by simpa using hp⟩
 refine⟨_,h,a6.pure hd fun G dom ρ Z a w hs ha=>?_⟩;have TB:=qH (s:=s) (nx0:=nx0) (o:=o) hs parts.toList (fun p hp=>ha.ev p.2 (XV p hp));have UY:bG ρ dom (aG G Z.own ρ w) w E.zero z.cells.toList:=by rw[Tt];exact px _ RI
 obtain⟨cells',h1,h2⟩:=o9 (place:=(fs.toArray[·]?)) (fs:=fs) (fun i p hp=>by simpa using hp) _ _ _ _ _ TB UY hf;refine⟨.agg cells',?_,cells',rfl,h2⟩;unfold execOp;rw[ho];refine dW ?_;simp only[Instr.build,Sem.run_bind,fC hi hz,av hu,Result.andThen_ok];have TS:(fields.mapM fun f=>do pure (f.offset,←sizeOf f.type):Sem (Array (Nat×Nat))).run P w= .ok fs.toArray w:=by
  have:=run_places (P:=P) w fields.toList fs VD
  rw[Array.mapM_eq_mapM_toList];simp only[Sem.run_map];have e:(fields.toList.mapM fun f=>(do pure (f.offset,←sizeOf f.type):Sem (Nat×Nat)))=(fields.toList.mapM fun f=>Functor.map (Prod.mk f.offset) (sizeOf f.type)):=by
   congr 1
  rw[e,this];rfl
 rw[TS];simp only[Result.andThen_ok]
 have Uo:(parts.map fun x=>match x with|(i,x)=>(i,a.eval x)).toList=parts.toList.map fun p=>(p.1,a.eval p.2):=by
  rw[Array.toList_map]
 rw[Uo,h1];rfl
theorem Fx {e:TypeId}{w n:Nat}{cs:List C}(hl:cs.length=n*w)(j:Nat)(c:C)(h:(Bk.rows e w n (fun i j=>cs.getD (i*w+j) .any)).cell j=some c):cs[j]? =some c:=by
 simp only[Bk.cell]at h
 split at h
 ·rename_i hj
  simp only[Option.some.injEq]at h
  have:j/w*w+j%w=j:=by rw[Nat.mul_comm];exact Nat.div_add_mod j w
  rw[this]at h;rw[X8 (by omega)];rw[X7,X8 (by omega)]at h
  simpa using h
 cases h
theorem vS {e:TypeId}{k:IntKind}{xs:List Int}(j:Nat)(c:C)(h:(Bk.ints e k xs).cell j=some c):(xs.map (C.int k))[j]? =some c:=by
 simpa[Bk.cell]using h
theorem yF (RE:iq o.op=false)(hd:bT o s.n){E:Ty}{e:TypeId}{fz:Bool}{len:Nat}{cs:List C}{ids:List Nat}(hE:match E.k with|.int _=>E.size=1|_=>0<E.size)(hlen:cs.length=len*E.size)(h:Dd E e id fz len cs ids K)
  (RK:∀G dom ρ Z a w,aR G dom ρ Z a w→gN s Z nx0 o→∃cells:Array Value,(execOp a.eval o).run P w= .ok (.value (.slice (some ⟨w.heap.size,0,none⟩) len len)) (w.alloc (.cells cells e))∧bG bg bm (aG G (dJ Z.own ids) ρ w) w cs cells.toList):
  ∃f,K f∧a6 P o s nx0 id f:=by
 have UK:∀{G:Ctx} {ρ:Nat→Loc} {Z:St} {w:World} {cells:Array Value},bG bg bm (aG G (dJ Z.own ids) ρ w) w cs cells.toList→∀(j:Nat) c,cs[j]? =some c→∃u,cells[j]? =some u∧aP (aG G (dJ Z.own ids) ρ w) w c u:=by
  intro G ρ Z w cells hl j c hj;obtain⟨u,hu,hr⟩:=bG.get hl j c hj;exact⟨u,by simpa using hu,aP.dZ hr⟩
 have SJ:∀{G:Ctx} {ρ:Nat→Loc} {Z:St} {w:World} {cells:Array Value},bG bg bm (aG G (dJ Z.own ids) ρ w) w cs cells.toList→cells.size=len*E.size:=by
  intro G ρ Z w cells hl
  have:=bG.length hl
  simp only[Array.length_toList]at this;omega
 have gen:∀(E':Nat) (hE':E'=E.size) (h0:0<E.size),(if fz then K ⟨.one (.rows E' len (fun i j=>cs.getD (i*E'+j) .any)),none,ids⟩
   else K ⟨.one (.own id E' 0 len),some (.rows e E' len (fun i j=>cs.getD (i*E'+j) .any)),ids⟩)→∃f,K f∧a6 P o s nx0 id f:=by
  intro E' hE' h0 h;subst hE'
  split at h
  ·refine⟨_,h,a6.Hq (e:=e) ids RE hd fun G dom ρ Z a w hs ha=>?_⟩;obtain⟨cells,hr,hl⟩:=RK G dom ρ Z a w hs ha;refine⟨cells,_,hr,some ⟨w.heap.size,0,none⟩,len,rfl,Nat.le_refl _,.inr ⟨w.heap.size,0,rfl,(hs.dJ ids).Io,fun i j hi hj=>?_⟩⟩;have RE:i*E.size+j<cs.length:=by
    have:(i+1)*E.size≤len*E.size:=Nat.mul_le_mul_right _ hi
    rw[Nat.add_mul]at this;omega
   obtain⟨u,hu,hr⟩:=UK hl (i*E.size+j) (cs.getD (i*E.size+j) .any) (by rw[X7,X8 RE];rfl);refine⟨u,by rw[Nat.zero_add];simpa using hu,aP.ext ⟨fun g hg=>⟨CV hg,(gU w _).block g hg.1⟩,fun g=>?_⟩ _ _ hr⟩
   by_cases hg:g<w.heap.size
   ·rw[cH ((gU w _).block g hg)];exact Nat.le_refl _
   rw[jl hg];exact Nat.zero_le _
  refine⟨_,h,a6.newRow (e:=e) ids RE hd (fun cs=>by simp) (Nat.le_refl _) fun G dom ρ Z a w hs ha=>?_⟩;obtain⟨cells,hr,hl⟩:=RK G dom ρ Z a w hs ha;exact⟨cells,len,hr,Nat.le_refl _,by rw[SJ hl];exact Nat.le_refl _,fun j c hj=>UK hl j c (Fx hlen j c hj)⟩
 unfold Dd at h
 split at h
 ·rename_i k hk
  rw[hk]at hE;simp only at hE
  split at h
  ·rename_i xs UD
   have Sc:=tD k cs xs UD;have U8:xs.length=len:=by rw[Sc]at hlen;simpa[hE]using hlen
   split at h
   ·refine⟨_,h,a6.Hq (e:=e) ids RE hd fun G dom ρ Z a w hs ha=>?_⟩;obtain⟨cells,hr,hl⟩:=RK G dom ρ Z a w hs ha;refine⟨cells,_,hr,some ⟨w.heap.size,0,none⟩,len,by rw[U8],by omega,.inr ⟨w.heap.size,0,rfl,(hs.dJ ids).Io,fun i hi=>?_⟩⟩;obtain⟨u,hu,hr⟩:=UK hl i (.int k (xs.getD i 0)) (by rw[Sc];simp[X8 hi]);rw[Nat.zero_add,World.cell?_alloc_new,hu];exact congrArg some hr
   refine⟨_,h,a6.newRow (e:=e) ids RE hd (fun cs=>by simp) (by simp[Bk.len,U8]) fun G dom ρ Z a w hs ha=>?_⟩;obtain⟨cells,hr,hl⟩:=RK G dom ρ Z a w hs ha;exact⟨cells,len,hr,Nat.le_refl _,by rw[SJ hl,hE];exact Nat.le_refl _,fun j c hj=>UK hl j c (by rw[Sc];exact vS j c hj)⟩
  exact h.elim
 rename_i RT
 exact gen _ rfl (by split at hE<;>first|omega|exact hE) h
include hT in
theorem zB {t:TypeId}{len:Nat}{parts:Array (Nat×Operand)}{fz:Bool}(ho:o.op= .buildSlice t len parts)(hd:bT o s.n)(h:gZ T s nx0 id fz t len parts K):∃f,K f∧a6 P o s nx0 id f:=by
 have XV:∀p∈parts.toList,p.2∈o.op.operands:=fun p hp=>by rw[ho];simp only[Op.operands];simpa using⟨p.1,by simpa using hp⟩
 unfold gZ at h
 cases RV:T t with
 |none=>rw[RV]at h;exact h.elim
 |some S=>
  rw[RV]at h;simp only at h
  split at h
  ·rename_i e TP
   have hu:=fm hT RV TP
   cases SB:T e with
   |none=>rw[SB]at h;exact h.elim
   |some E=>
    rw[SB]at h;simp only at h;obtain⟨ei,ed,ez,Ta,WU,U9,WV,Tz,_,Tt,RI⟩:=bB hT SB;obtain⟨SP,YA,Tv,h⟩:=h
    have R1:0<E.size:=by split at Tv<;>omega
    have SK:ez.cells.size=E.size:=by rw[←SP,Tt];simp
    have YB:∀(a:Act) (w:World) (cells':Array Value),Instr.fill (fun i=>some (i*E.size,E.size)) ((Array.range (len*ez.cells.size)).map (fun i=>ez.cells[i%ez.cells.size]!)) (parts.toList.map fun p=>(p.1,a.eval p.2))=some cells'→
      (execOp a.eval o).run P w= .ok (.value (.slice (some ⟨w.heap.size,0,none⟩) len len)) (w.alloc (.cells cells' e)):=by
     intro a w cells' h1;unfold execOp;rw[ho];refine dW ?_;have YC:(Array.map (fun x=>(x.fst,a.eval x.snd)) parts).toList=parts.toList.map fun p=>(p.1,a.eval p.2):=by
      rw[Array.toList_map]
     simp only[Instr.buildSlice,Sem.run_bind,av hu,Result.andThen_ok,run_sizeOf Ta,Sem.run_ite];rw[if_neg (by rw[←Tz];omega)];simp only[Sem.run_pure,Result.andThen_ok]
     by_cases h0:len*ei.size=0
     ·rw[if_pos h0];have S9:∀f:Nat→Value,Array.map f (Array.range 0)= #[]:=fun f=>by simp
      rw[SK,Tz,h0,S9]at h1;simp only[h0,S9,YC,h1];rfl
     rw[if_neg h0];simp only[fC Ta U9,Result.andThen_ok];rw[SK,Tz]at h1;simp only[YC,h1,SK,Tz];rfl
    split at h
    ·rename_i b w0 o0 l0 hq
     split at hq
     ·unfold BL at hq
      split at hq
      ·rename_i b' w0' o0' l0' hf
       simp only[Option.some.injEq,Prod.mk.injEq]at hq;obtain⟨rfl,rfl,rfl,rfl⟩:=hq;obtain⟨rfl,UF,h⟩:=h;refine⟨_,h,a6.N4 (e:=e) (by rw[ho];rfl) hd fun G dom ρ Z a w hs ha=>?_⟩;have TB:=qH (s:=s) (nx0:=nx0) (o:=o) hs parts.toList (fun p hp=>ha.ev p.2 (XV p hp));have UY:bG ρ dom (aG G Z.own ρ w) w (eR E.zero 1) ((Array.range (1*ez.cells.size)).map (fun i=>ez.cells[i%ez.cells.size]!)).toList:=by
        rw[Tt];exact kt ez.cells 1 (by omega) RI
       obtain⟨cells',h1,h2⟩:=o9 (place:=fun i=>some (i*E.size,E.size)) (fs:=gm E.size 0 1) (fun i p hp=>by rw[mB _ _ _ _ _ hp,Nat.zero_add]) _ _ _ _ _ TB UY hf;obtain⟨u,hu,hr⟩:=bG.get h2 0 _ rfl;have SJ:=bG.length h2;exact⟨cells',YB a w cells' h1,by simpa using SJ.symm,u,by simpa using hu,hr⟩
      cases hq
     cases hq
    split at h
    ·rename_i cs hf
     have hlen:cs.length=len*E.size:=by rw[oZ _ _ _ _ hf,jZ,SP]
     refine yF (by rw[ho];rfl) hd Tv hlen h fun G dom ρ Z a w hs ha=>?_;have TB:=tv (s:=s) hs ha ((parts.toList.map fun p=>kv (s.ev p.2)).flatten.filter (fun b=>decide (b<nx0))) parts.toList (fun p hp=>ha.ev p.2 (XV p hp)) (fun p hp b hb RE=>List.mem_filter.2 ⟨List.mem_flatten.2 ⟨_,List.mem_map.2 ⟨p,hp,rfl⟩,hb⟩,by simpa using RE⟩);have UY:bG bg bm (aG G (dJ Z.own ((parts.toList.map fun p=>kv (s.ev p.2)).flatten.filter (fun b=>decide (b<nx0)))) ρ w) w (eR E.zero len) ((Array.range (len*ez.cells.size)).map (fun i=>ez.cells[i%ez.cells.size]!)).toList:=by
      rw[Tt];exact kt ez.cells len (by omega) RI
     obtain⟨cells',h1,h2⟩:=o9 (place:=fun i=>some (i*E.size,E.size)) (fs:=gm E.size 0 len) (fun i p hp=>by rw[mB _ _ _ _ _ hp,Nat.zero_add]) _ _ _ _ _ TB UY hf;exact⟨cells',YB a w cells' h1,h2⟩
    exact h.elim
  exact h.elim
end
end Go.Eng
namespace Go.Eng
open Go
theorem u9 {n:Int}(h0:0≤n)(h1:n≤9223372036854775807):IntKind.i64.wrap n=n:=by
 have h2:n% (2^64:Int)=n:=Int.emod_eq_of_lt h0 (by omega);have e:IntKind.i64.wrap n=if(true&&decide (n% (2^64:Int)≥2^63))=true then n% (2^64:Int)-2^64 else n% (2^64:Int):=rfl
 rw[e,h2,if_neg (by simp;omega)]
theorem a7.get {ρ:Nat→Loc}{dom ok:Nat→Prop}{w:World}:∀{xs:List V} {vs:List Value},a7 ρ dom ok w xs vs→∀(j:Nat) x,xs[j]? =some x→∃v,vs[j]? =some v∧dM ρ dom ok w x v
 |[],[],_,j,x,hj=>by simp at hj
 |x0::xs,v0::vs,h,0,x,hj=>by simp at hj;subst hj;exact⟨v0,rfl,h.1⟩
 |x0::xs,v0::vs,h,j+1,x,hj=>by simpa using a7.get h.2 j x (by simpa using hj)
 |[],_::_,h,_,_,_=>h.elim
 |_::_,[],h,_,_,_=>h.elim
theorem b6.v5 {ρ:Nat→Loc}{dom ok:Nat→Prop}{w:World}{x:V}{v:Value}(h:dM ρ dom ok w x v):b6 ρ dom ok w x v:=by
 cases x with
 |unk=>trivial
 |one c=>exact h
 |agg cs=>exact h
 |aB xs=>exact h.elim
section
variable {P:Program}{T:fH}(hT:eJ P T){o:Oper}{s:St}{nx0 id:Nat}{K:eK→Prop}
include hT in
theorem CE {
          t:TypeId} {l c:Operand} {fz:Bool} (ho:o.op= .makeSlice t l c) (hd:bT o s.n) (h:jw T s id fz t l c K):∃f,K f∧a6 P o s nx0 id f:=by
 have Ts:l∈o.op.operands:=by rw[ho];simp[Op.operands]
 have XW:c∈o.op.operands:=by rw[ho];simp[Op.operands]
 unfold jw at h
 cases RV:T t with
 |none=>rw[RV]at h;exact h.elim
 |some S=>
  rw[RV]at h;simp only at h
  split at h
  ·rename_i e TP
   have hu:=fm hT RV TP
   cases SB:T e with
   |none=>rw[SB]at h;exact h.elim
   |some E=>
    rw[SB]at h;simp only at h;obtain⟨ei,ed,ez,Ta,WU,U9,WV,Tz,YD,Tt,RI⟩:=bB hT SB
    split at h
    ·rename_i kl ln kc cn hl hc
     obtain⟨SP,R1,⟨h0,h1,h2,h3⟩,h⟩:=h;have SK:ez.cells.size=E.size:=by rw[←SP,Tt];simp
     have RK:∀(G:Ctx) (dom:Nat→Prop) (ρ:Nat→Loc) (Z:St) (a:Act) (w:World),aR G dom ρ Z a w→gN s Z nx0 o→
       (execOp a.eval o).run P w= .ok (.value (.slice (some ⟨w.heap.size,0,none⟩) ln.toNat cn.toNat)) (w.alloc (.cells ((Array.range (cn.toNat*ez.cells.size)).map (fun i=>ez.cells[i%ez.cells.size]!)) e)):=by
      intro G dom ρ Z a w hs ha;have ZH:=hs.ev l;rw[aS ha Ts hl]at ZH;have XX:=hs.ev c;rw[aS ha XW hc]at XX;have ZH:a.eval l= .int kl ln:=ZH;have XX:a.eval c= .int kc cn:=XX;unfold execOp;rw[ho];refine dW ?_;have YE:IntKind.i64.wrap ln=ln:=u9 h0 (by omega);have hwc:IntKind.i64.wrap cn=cn:=u9 (by omega) h3;have YA:¬((ei.bytes:Int)*cn>2^48):=by rw[←YD,Int.mul_comm];omega
      have hbigb:decide ((ei.bytes:Int)*cn>2^48)=false:=by simpa using YA
      have hneg:decide (cn<0)=false:=by simp;omega
      have hneg2:decide (ln<0)=false:=by simp;omega
      have hneg3:decide (ln>cn)=false:=by simp;omega
      simp only[Instr.makeSlice,Sem.run_bind,av hu,Result.andThen_ok,ZH,XX,asInt,asIntOf,Sem.run_pure,run_typeInfo Ta,YE,hwc,hneg,hneg2,hneg3,hbigb,Bool.or_self,Bool.false_eq_true,↓reduceIte,run_askRoom,run_sizeOf Ta,Sem.run_ite,ite_self];rw[←Tz,←SK]
      by_cases hz:cn.toNat*ez.cells.size=0
      ·rw[if_pos hz];have S9:∀f:Nat→Value,Array.map f (Array.range 0)= #[]:=fun f=>by simp
       simp only[hz,S9];rfl
      rw[if_neg hz];simp only[fC Ta U9,Result.andThen_ok];rfl
     have YF:((Array.range (cn.toNat*ez.cells.size)).map (fun i=>ez.cells[i%ez.cells.size]!)).size=cn.toNat*ez.cells.size:=by simp
     split at h
     ·rename_i k hk
      obtain⟨hz,hK⟩:=h;have UF:E.size=1:=by rw[←SP,hz];rfl
      have key:∀{hK':K ⟨.one (.own id 1 0 ln.toNat),some (.ints e k (List.replicate cn.toNat 0)),[]⟩},∃f,K f∧a6 P o s nx0 id f:=by
       intro hK;refine⟨_,hK,a6.newRow (e:=e) [] (by rw[ho];rfl) hd (fun cs=>by simp) (by simp[Bk.len];omega) fun G dom ρ Z a w hs ha=>?_⟩;refine⟨_,cn.toNat,RK G dom ρ Z a w hs ha,by omega,by rw[YF,SK,UF];exact Nat.le_refl _,fun j c' hj=>?_⟩;have UY:=kt (ρ:=bg) (dom:=bm) (ok:=aG G (dJ Z.own []) ρ w) (w:=w) ez.cells cn.toNat (by omega) RI;rw[←Tt,hz]at UY;have XY:=vS j c' hj
       have:(eR [C.int k 0] cn.toNat)=(List.replicate cn.toNat (0:Int)).map (C.int k):=by
        generalize cn.toNat=n
        induction n with
        |zero=>rfl
        |succ n ih=>simp[eR,ih,List.replicate_succ]
       rw[←this]at XY;obtain⟨u,RZ,hr⟩:=bG.get UY j c' XY;exact⟨u,by rw[←Array.getElem?_toList];exact RZ,aP.dZ hr⟩
      split at hK
      ·split at hK
       ·have hzr0:∀{ok:Nat→Prop} {w:World},bG bg bm ok w ((List.replicate cn.toNat (0:Int)).map (C.int k)) ((Array.range (cn.toNat*ez.cells.size)).map (fun i=>ez.cells[i%ez.cells.size]!)).toList:=by
         intro ok w;have UY:=kt (ρ:=bg) (dom:=bm) (ok:=ok) (w:=w) ez.cells cn.toNat (by omega) RI;rw[←Tt,hz]at UY
         have:(eR [C.int k 0] cn.toNat)=(List.replicate cn.toNat (0:Int)).map (C.int k):=by
          generalize cn.toNat=n
          induction n with
          |zero=>rfl
          |succ n ih=>simp[eR,ih,List.replicate_succ]
         rw[←this];exact UY
        refine⟨_,hK,a6.Hq (e:=e) [] (by rw[ho];rfl) hd fun G dom ρ Z a w hs ha=>?_⟩;refine⟨_,_,RK G dom ρ Z a w hs ha,some ⟨w.heap.size,0,none⟩,cn.toNat,by simp,by simp;omega,.inr ⟨w.heap.size,0,rfl,(hs.dJ []).Io,fun i hi=>?_⟩⟩;simp only[List.length_replicate]at hi;obtain⟨u,hu,hr⟩:=bG.get (hzr0 (ok:=fun _=>True) (w:=w)) i (.int k 0) (by rw[List.getElem?_map,List.getElem?_replicate,if_pos (by omega)];rfl);have hr:u= .int k 0:=hr;rw[Nat.zero_add,World.cell?_alloc_new,←Array.getElem?_toList,hu,hr]
        simp[X7,hi]
       exact key (hK':=hK)
      exact key (hK':=hK)
     refine⟨_,h,a6.newRow (e:=e) [] (by rw[ho];rfl) hd (fun cs=>by simp) (by simp[Bk.len];omega) fun G dom ρ Z a w hs ha=>?_⟩;refine⟨_,cn.toNat,RK G dom ρ Z a w hs ha,by omega,by rw[YF,SK];exact Nat.le_refl _,fun j c' hj=>?_⟩;have UY:=kt (ρ:=bg) (dom:=bm) (ok:=aG G (dJ Z.own []) ρ w) (w:=w) ez.cells cn.toNat (by omega) RI;rw[←Tt]at UY;simp only[Bk.cell]at hj
     split at hj
     ·rename_i RE
      simp only[Option.some.injEq]at hj;have hg:=oK E.zero cn.toNat j (by rw[SP];exact RE);rw[SP]at hg;have hm:j%E.size<E.zero.length:=by rw[SP];exact Nat.mod_lt _ R1
      rw[X7,X8 hm]at hj;rw[X8 hm]at hg;obtain⟨u,RZ,hr⟩:=bG.get UY j _ hg;simp only[Option.getD_some]at hj;rw[←hj];exact⟨u,by rw[←Array.getElem?_toList];exact RZ,aP.dZ hr⟩
     cases hj
    exact h.elim
  exact h.elim
theorem DK {ρ:Nat→Loc}{dom ok:Nat→Prop}{w:World}{c:C}{n:Nat}{v:Value}(hl:iC c=some n)(h:aC ρ dom ok w c v):∃a cap,v= .slice a n cap∧n≤cap∧(c= .nil→cap=0):=by
 cases c with
 |own b wd off len=>
  simp only[iC,Option.some.injEq]at hl;subst hl;obtain⟨_,_,cap,hc,h⟩:=h
  rcases h with⟨g,o,o',_,rfl,_⟩|⟨_,rfl,h1,h2⟩
  ·exact⟨_,cap,rfl,hc,fun e=>by cases e⟩
  exact⟨none,0,by rw[h1],by omega,fun e=>by cases e⟩
 |win b b2 off len=>
  simp only[iC,Option.some.injEq]at hl;subst hl;obtain⟨_,_,_,cap,hc,h⟩:=h
  rcases h with⟨g,o,o',_,rfl,_⟩|⟨_,rfl,h1,h2⟩
  ·exact⟨_,cap,rfl,hc,fun e=>by cases e⟩
  exact⟨none,0,by rw[h1],by omega,fun e=>by cases e⟩
 |ints k xs=>simp only[iC,Option.some.injEq]at hl;subst hl;obtain⟨a,cap,rfl,hc,_⟩:=h;exact⟨a,cap,rfl,hc,fun e=>by cases e⟩
 |rows wd n' f=>simp only[iC,Option.some.injEq]at hl;subst hl;obtain⟨a,cap,rfl,hc,_⟩:=h;exact⟨a,cap,rfl,hc,fun e=>by cases e⟩
 |nil=>simp only[iC,Option.some.injEq]at hl;subst hl;exact⟨none,0,h,Nat.le_refl _,fun _=>rfl⟩
 |_=>simp[iC]at hl
include hT in
theorem IJ {c:Call}{b:Builtin}(ho:o.op= .call c)(hc:c.callee= .builtin b)(hd:bT o s.n)(h:mf T s b c.args.toList c.argTypes.toList K):∃f,K f∧a6 P o s nx0 id f:=by
 have VF:∀x∈c.args.toList,x∈o.op.operands:=fun x hx=>by rw[ho];simp only[Op.operands,Call.operands];exact Array.mem_append_right _ (by simpa using hx)
 have hex:∀(a:Act) (w:World) (v:Value),(match b with
    |.len=>Builtin.len_ c.argTypes o.type (c.args.map a.eval)
    |.max=>Builtin.max_ c.argTypes o.type (c.args.map a.eval)
    |.min=>Builtin.min_ c.argTypes o.type (c.args.map a.eval)
    |_=>stuck "").run P w= .ok v w→(execOp a.eval o).run P w= .ok (.value v) w:=by
  intro a w v hv;unfold execOp;rw[ho];simp only[resolve,hc,Sem.run_bind,Sem.run_pure,Result.andThen_ok,invoke,Go.builtin]
  cases b<;>simp only at hv<;>first|exact dW hv|(simp at hv;done)
 unfold mf at h
 split at h
 ·-- len
  rename_i x t RH Sv
  have Sh:x∈o.op.operands:=VF x (by rw[RH];simp);have ea:c.args= #[x]:=Array.toList_inj.1 RH;have et:c.argTypes= #[t]:=Array.toList_inj.1 Sv
  cases RV:T t with
  |none=>rw[RV]at h;exact h.elim
  |some E=>
   rw[RV]at h;simp only at h
   split at h
   ·rename_i e UI
    have hu:=fm hT RV UI
    split at h
    ·rename_i cc hx
     split at h
     ·rename_i n hl
      refine⟨_,h,a6.pure hd fun G dom ρ Z a w hs ha=>⟨.int .i64 n,?_,rfl⟩⟩;have RJ:=hs.ev x;rw[aS ha Sh hx]at RJ;obtain⟨ad,cap,hv,_,_⟩:=DK hl RJ;refine hex a w _ ?_;simp only[ea,et,Builtin.len_,hv,List.map_toArray,List.map_cons,List.map_nil,List.getElem?_toArray,List.getElem?_cons_zero,Sem.run_bind,av hu,Result.andThen_ok,Sem.run_pure];rfl
     exact h.elim
    exact h.elim
   ·rename_i UI
    obtain⟨_,d,_,_,hu,_,hk,_⟩:=bB hT RV;rw[UI]at hk;have WT:d= .string:=by
     cases d<;>simp only[cG]at hk
     case string=>rfl
     case struct fs=>split at hk<;>cases hk
     all_goals cases hk
    subst WT
    split at h
    ·rename_i bs hx
     refine⟨_,h,a6.pure hd fun G dom ρ Z a w hs ha=>⟨.int .i64 bs.size,?_,rfl⟩⟩;have RJ:=hs.ev x;rw[aS ha Sh hx]at RJ;have hv:a.eval x= .string bs:=RJ;refine hex a w _ ?_;simp only[ea,et,Builtin.len_,hv,List.map_toArray,List.map_cons,List.map_nil,List.getElem?_toArray,List.getElem?_cons_zero,Sem.run_bind,av hu,Result.andThen_ok,Sem.run_pure];rfl
    exact h.elim
   exact h.elim
 ·-- max
  rename_i x y RH
  have Sh:x∈o.op.operands:=VF x (by rw[RH];simp);have Wc:y∈o.op.operands:=VF y (by rw[RH];simp);have ea:c.args= #[x,y]:=Array.toList_inj.1 RH
  split at h
  ·rename_i v hv
   unfold MR at hv
   split at hv
   ·rename_i k x0 k' y0 hx hy
    simp only[Option.some.injEq]at hv;subst hv;refine⟨_,h,a6.pure hd fun G dom ρ Z a w hs ha=>⟨.int k (if x0<y0 then y0 else x0),?_,rfl⟩⟩;have R3:=hs.ev x;rw[aS ha Sh hx]at R3;have SF:=hs.ev y;rw[aS ha Wc hy]at SF;have R3:a.eval x= .int k x0:=R3;have SF:a.eval y= .int k' y0:=SF;refine hex a w _ ?_;simp only[ea,Builtin.max_,R3,SF,List.map_toArray,List.map_cons,List.map_nil,List.foldlM_cons,List.foldlM_nil,Builtin.max2,Sem.run_bind,Sem.run_pure,Result.andThen_ok]
   cases hv
  exact h.elim
 ·-- min
  rename_i x y RH
  have Sh:x∈o.op.operands:=VF x (by rw[RH];simp);have Wc:y∈o.op.operands:=VF y (by rw[RH];simp);have ea:c.args= #[x,y]:=Array.toList_inj.1 RH
  split at h
  ·rename_i v hv
   unfold zM at hv
   split at hv
   ·rename_i k x0 k' y0 hx hy
    simp only[Option.some.injEq]at hv;subst hv;refine⟨_,h,a6.pure hd fun G dom ρ Z a w hs ha=>⟨.int k (if y0<x0 then y0 else x0),?_,rfl⟩⟩;have R3:=hs.ev x;rw[aS ha Sh hx]at R3;have SF:=hs.ev y;rw[aS ha Wc hy]at SF;have R3:a.eval x= .int k x0:=R3;have SF:a.eval y= .int k' y0:=SF;refine hex a w _ ?_;simp only[ea,Builtin.min_,R3,SF,List.map_toArray,List.map_cons,List.map_nil,List.foldlM_cons,List.foldlM_nil,Builtin.min2,Sem.run_bind,Sem.run_pure,Result.andThen_ok]
   cases hv
  exact h.elim
 ·-- min of three
  rename_i x y z RH
  have Sh:x∈o.op.operands:=VF x (by rw[RH];simp);have Wc:y∈o.op.operands:=VF y (by rw[RH];simp);have hzm:z∈o.op.operands:=VF z (by rw[RH];simp);have ea:c.args= #[x,y,z]:=Array.toList_inj.1 RH
  split at h
  ·rename_i v hv
   unfold zM at hv
   split at hv
   ·rename_i k x0 k' y0 hx hy
    simp only[Option.some.injEq]at hv;subst hv
    split at h
    ·rename_i u hu
     unfold zM at hu
     split at hu
     ·rename_i k2 x2 k3 z0 e2 hz
      simp only[V.one.injEq,C.int.injEq]at e2;obtain⟨rfl,rfl⟩:=e2;simp only[Option.some.injEq]at hu;subst hu;refine⟨_,h,a6.pure hd fun G dom ρ Z a w hs ha=>⟨.int k (if z0<(if y0<x0 then y0 else x0)then z0 else(if y0<x0 then y0 else x0)),?_,rfl⟩⟩;have R3:=hs.ev x;rw[aS ha Sh hx]at R3;have SF:=hs.ev y;rw[aS ha Wc hy]at SF;have ZI:=hs.ev z;rw[aS ha hzm hz]at ZI;have R3:a.eval x= .int k x0:=R3;have SF:a.eval y= .int k' y0:=SF;have ZI:a.eval z= .int k3 z0:=ZI;refine hex a w _ ?_;simp only[ea,Builtin.min_,R3,SF,ZI,List.map_toArray,List.map_cons,List.map_nil,List.foldlM_cons,List.foldlM_nil,Builtin.min2,Sem.run_bind,Sem.run_pure,Result.andThen_ok]
     cases hu
    exact h.elim
   cases hv
  exact h.elim
 exact h.elim
theorem fW (hT:eJ P T){fz:Bool}(hd:bT o s.n)(h:eL T P o.op s nx0 id fz K):∃f,K f∧a6 P o s nx0 id f:=by
 cases ho:o.op with
 |move x=>rw[ho]at h;exact MN (.inl ho) hd h
 |assign x=>rw[ho]at h;exact MN (.inr ho) hd h
 |pick c a b=>
  rw[ho]at h;simp only[eL]at h
  split at h
  ·rename_i t ht;exact PA ho hd ht h
  exact h.elim
 |alloc e=>
  rw[ho]at h;simp only[eL]at h
  split at h
  ·rename_i E hE;exact N7 hT ho hd hE h
  exact h.elim
 |box e x=>rw[ho]at h;exact QM ho hd h.1 h.2
 |build t parts=>
  rw[ho]at h;simp only[eL]at h
  split at h
  ·rename_i E hE
   split at h
   ·rename_i fs Yu
    split at h
    ·rename_i cs hf;exact Np hT ho hd hE Yu hf h
    exact h.elim
   exact h.elim
  exact h.elim
 |buildSlice t len parts=>rw[ho]at h;exact zB hT ho hd h
 |load t x=>rw[ho]at h;exact O8 hT ho hd h
 |binOp op t x y t'=>rw[ho]at h;exact Qg hT ho hd h
 |unOp op t x=>rw[ho]at h;exact Ru ho hd h
 |convert src dst x=>rw[ho]at h;exact HY hT ho hd h
 |makeSlice t l c=>rw[ho]at h;exact CE hT ho hd h
 |slice t x lo hi mx=>rw[ho]at h;exact NG hT ho hd h
 |fieldAddr t x f=>rw[ho]at h;exact A6 hT ho hd h
 |indexAddr t x i=>rw[ho]at h;exact CP hT ho hd h
 |index t x i=>rw[ho]at h;exact CT hT ho hd h
 |extract x i=>
  have Sh:x∈o.op.operands:=by rw[ho];simp[Op.operands]
  rw[ho]at h;simp only[eL]at h
  split at h
  ·rename_i vs hx
   split at h
   ·rename_i v hv
    refine⟨_,h,a6.pure hd fun G dom ρ Z a w hs ha=>?_⟩;have RJ:=hs.ev x;rw[aS ha Sh hx]at RJ;obtain⟨us,T6,hl⟩:=RJ;obtain⟨u,hu,hr⟩:=a7.get hl _ _ hv;refine⟨u,?_,b6.v5 hr⟩;unfold execOp;rw[ho];refine dW ?_;rw[Array.getElem?_toList]at hu;simp only[T6,Instr.extract,hu,Sem.run_pure]
   exact h.elim
  exact h.elim
 |nilCheck x=>
  have Sh:x∈o.op.operands:=by rw[ho];simp[Op.operands]
  rw[ho]at h;simp only[eL]at h;have key:∀(c:C),s.ev x= .one c→(∀ρ dom ok w v,aC ρ dom ok w c v→∃ad,v= .pointer (some ad))→K ⟨.one c,none,[]⟩→∃f,K f∧a6 P o s nx0 id f:=by
   intro c hx hp hK;refine⟨_,hK,a6.pure hd fun G dom ρ Z a w hs ha=>?_⟩;have RJ:=hs.ev x;rw[aS ha Sh hx]at RJ;obtain⟨ad,hv⟩:=hp _ _ _ _ _ RJ;refine⟨a.eval x,?_,RJ⟩;unfold execOp;rw[ho];simp only[hv];rfl
  split at h
  ·rename_i b off hx
   exact key _ hx (fun _ _ _ _ _ hr=>by obtain⟨_,g,o,_,hv⟩:=hr;exact⟨_,hv⟩) h
  ·rename_i c wd i off hx
   exact key _ hx (fun _ _ _ _ _ hr=>by obtain⟨g,o,_,_,_,_,hv⟩:=hr;exact⟨_,hv⟩) h
  ·rename_i b wd i off hx
   exact key _ hx (fun _ _ _ _ _ hr=>by obtain⟨_,_,g,o,_,hv⟩:=hr;exact⟨_,hv⟩) h
  exact h.elim
 |field t x f=>rw[ho]at h;exact OH hT ho hd h
 |makeFunc fn first captured=>
  rw[ho]at h;simp only[eL]at h
  split at h
  ·rename_i f hf
   obtain⟨R8,h⟩:=h;have e1:first= #[]:=Array.eq_empty_of_size_eq_zero hf;have XW:∀x∈captured.toList,x∈o.op.operands:=fun x hx=>by rw[ho];simp only[Op.operands];exact Array.mem_append_right _ (by simpa using hx)
   refine⟨_,h,a6.pure hd fun G dom ρ Z a w hs ha=>⟨.func (.func f) #[] (captured.map a.eval),?_,⟨captured.map a.eval,rfl,by simp,fun i hi=>?_⟩⟩⟩
   ·unfold execOp;rw[ho,e1];refine dW ?_
    simp[Instr.makeFunc]
   have hx:captured.toList[i]? =some captured[i]:=by simp[hi]
   have hm:captured[i]∈captured.toList:=List.mem_of_getElem? hx;have h1:rM (s.ev captured[i])=true:=List.all_eq_true.1 R8 _ hm;have e2:(captured.toList.map s.ev).getD i .unk=s.ev captured[i]:=by
    rw[X7,List.getElem?_map,hx];rfl
   have e3:(captured.map a.eval).getD i undef=a.eval captured[i]:=by
    simp[Array.getD_eq_getD_getElem?,hi]
   show eE ρ dom _ w (DS ((captured.toList.map s.ev).getD i .unk)) ((captured.map a.eval).getD i undef);rw[e2,e3];have RJ:=hs.ev captured[i];rw[ha.ev _ (XW _ hm)]at RJ
   cases hv:s.ev captured[i]with
   |one c=>
    rw[hv]at RJ h1;refine eE.oQ (fun f n cs hc=>?_) RJ;have hc:c= .fn f n cs:=hc;rw[hc]at h1
    simp[rM]at h1
   |agg cs=>rw[hv]at h1;simp[rM]at h1
   |aB cs=>rw[hv]at h1;simp[rM]at h1
   |unk=>rw[hv]at h1;simp[rM]at h1
  exact h.elim
 |call c=>
  rw[ho]at h;simp only[eL]at h
  split at h
  ·rename_i b hb;exact IJ hT ho hb hd h
  ·rename_i g hg;exact PB ho hg hd h
  exact h.elim
 |_=>rw[ho]at h;exact h.elim
end
end Go.Eng
