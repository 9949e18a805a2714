/-
  MatrixMul: for every input the law returns true, and each argument reads afterwards as it read before. No condition.
  (Text 1 of 9; made by a program out of smaller texts.)
-/
import Derived.WalkKit
import Derived.Deep.LoopGhost
import Derived.Laws.BytesArg
set_option linter.unusedSimpArgs false
set_option linter.unusedVariables false
set_option maxHeartbeats 16000000
set_option maxRecDepth 10000
open Nat renaming reduceAdd→J1,reduceMul→J2,reduceSub→J3,reduceEqDiff→J4,reduceLT→J5,reduceLeDiff→J6,reduceBEq→J7,reduceDiv→J8,reduceMod→J9,reducePow→J0
open Int renaming reduceToNat→K1,reduceLE→K2,reduceLT→K3,reduceEq→K4,reducePow→K5,reduceSub→K6,reduceNeg→K7,natCast_add→X2,natCast_one→X3,natCast_zero→X4
open List renaming getD_cons_zero→X0,getD_cons_succ→X1,length_take→X5,length_append→X6,getD_eq_getElem?_getD→X7,getElem?_eq_getElem→X8
open Nat renaming le_trans→O0,le_refl→O1,zero_le→O2,not_lt_zero→O5,mul_comm→O6,mod_eq_of_lt→O7,mul_le_mul_right→O8
open Option.some renaming injEq→Q6
open Go.Result renaming andThen_ok→Q7
namespace Go.Eng
open Go
inductive C where
 |any
 |bool (b:Bool)
 |int (k:IntKind) (n:Int)
 |str (s:ByteArray)
 |nil
 |ints (k:IntKind) (xs:List Int)
 |rows (w n:Nat) (f:Nat→Nat→C)
 |own (b w off len:Nat)
 |win (b b2 off len:Nat)
 |ptr (b off:Nat)
 |elt (s:C) (w i off:Nat)
 |eptr (b w i off:Nat)
 |fn (f:FuncId) (n:Nat) (caps:Nat→C)
instance:Inhabited C:=⟨.any⟩
inductive V where
 |unk
 |one (c:C)
 |agg (cs:List C)
 |aB (vs:List V)
instance:Inhabited V:=⟨.unk⟩
inductive Bk where
 |var (cs:List C)
 |ints (e:TypeId) (k:IntKind) (xs:List Int)
 |rows (e:TypeId) (w n:Nat) (f:Nat→Nat→C)
 |wins (e:TypeId) (b2 n:Nat) (g:Nat→C)
def Bk.len:Bk→Nat
 |.var _=>1
 |.ints _ _ xs=>xs.length
 |.rows _ _ n _=>n
 |.wins _ _ n _=>n
def Bk.cell:Bk→Nat→Option C
 |.var cs,j=>cs[j]?
 |.ints _ k xs,j=>(xs[j]?).map (.int k)
 |.rows _ w n f,j=>if j<n*w then some (f (j/w) (j%w))else none
 |.wins _ _ n g,j=>if j<n then some (g j)else none
structure fI where
 bk:Bk
 rw:Bool
structure St where
 env:List (Nat×V)
 own:List (Nat×fI)
 nx:Nat
 n:Nat
def lk:List (Nat×V)→Nat→V
 |[],_=>.unk
 |(t',v)::r,t=>if t=t' then v else lk r t
def lo:List (Nat×fI)→Nat→Option fI
 |[],_=>none
 |(b',v)::r,b=>if b=b' then some v else lo r b
def eD:List (Nat×fI)→Nat→fI→List (Nat×fI)
 |[],b,B=>[(b,B)]
 |(b',v)::r,b,B=>if b=b' then(b',B)::r else(b',v)::eD r b B
def del:List (Nat×fI)→Nat→List (Nat×fI)
 |[],_=>[]
 |(b',v)::r,b=>if b=b' then del r b else(b',v)::del r b
def dG:List (Nat×fI)→List Nat→List (Nat×fI)
 |[],_=>[]
 |(b',v)::r,l=>(b',if l.contains b' then⟨v.bk,false⟩else v)::dG r l
theorem b9 (l:List (Nat×fI))(b b':Nat)(B:fI):lo (eD l b B) b'=if b'=b then some B else lo l b':=by
 induction l with
 |nil=>simp only[eD,lo]
 |cons x r ih=>
  obtain⟨c,v⟩:=x;simp only[eD]
  split
  ·rename_i h;subst h;simp only[lo];split<;>rfl
  rename_i h
  simp only[lo,ih]
  by_cases h1:b'=c
  ·subst h1;rw[if_pos rfl,if_neg (fun e=>h e.symm),if_pos rfl]
  rw[if_neg h1,if_neg h1]
theorem kv (l:List (Nat×fI))(b b':Nat):lo (del l b) b'=if b'=b then none else lo l b':=by
 induction l with
 |nil=>simp only[del,lo];split<;>rfl
 |cons x r ih=>
  obtain⟨c,v⟩:=x;simp only[del]
  split
  ·rename_i h;subst h;rw[ih];simp only[lo];split<;>rfl
  rename_i h
  simp only[lo,ih]
  by_cases h1:b'=c
  ·subst h1;rw[if_pos rfl,if_neg (fun e=>h e.symm),if_pos rfl]
  rw[if_neg h1,if_neg h1]
theorem fH (l:List (Nat×fI))(fs:List Nat)(b:Nat):lo (dG l fs) b=(lo l b).map fun v=>if fs.contains b then⟨v.bk,false⟩else v:=by
 induction l with
 |nil=>rfl
 |cons x r ih=>
  obtain⟨c,v⟩:=x;simp only[dG,lo]
  split
  ·rename_i h;subst h;rfl
  exact ih
def b7 (w:World)(g:Nat):Nat:=
 match w.heap[g]? with
 |some (.cells c _ _)=>c.size
 |_=>0
def aQ (ok:Nat→Prop)(w:World):C→Value→Prop
 |.any,v=>v.oneCell'=true
 |.bool b,v=>v= .bool b
 |.int k n,v=>v= .int k n
 |.str s,v=>v= .string s
 |.nil,v=>v= .slice none 0 0
 |.ints k xs,v=>∃a cap,v= .slice a xs.length cap∧xs.length≤cap∧(xs.length=0∨∃g o,a=some ⟨g,o,none⟩∧ok g∧∀i,i<xs.length→w.cell? ⟨g,o+i,none⟩=some (.int k (xs.getD i 0)))
 |.rows wd n f,v=>∃a cap,v= .slice a n cap∧n≤cap∧(n=0∨∃g o,a=some ⟨g,o,none⟩∧ok g∧∀i j,i<n→j<wd→∃u,w.cell? ⟨g,o+(i*wd+j),none⟩=some u∧aQ ok w (f i j) u)
 |.elt s wd i off,v=>∃g o n cap,aQ ok w s (.slice (some ⟨g,o,none⟩) n cap)∧i<n∧v= .pointer (some ⟨g,o+(i*wd+off),none⟩)
 |.fn f n caps,v=>∃cs:Array Value,v= .func (.func f) #[] cs∧cs.size=n∧∀i,i<n→aQ ok w (caps i) (cs.getD i undef)
 |.own ..,_=>False
 |.win ..,_=>False
 |.ptr ..,_=>False
 |.eptr ..,_=>False
structure Loc where
 addr:Option (Nat×Nat)
 len:Nat
def eE (ρ:Nat→Loc)(dom ok:Nat→Prop)(w:World)(c:C)(v:Value):Prop:=
 match c with
 |.own b wd off len=>dom b∧off+len≤(ρ b).len∧∃cap,len≤cap∧
   (
    (∃g o o',(ρ b).addr=some (g,o)∧v= .slice (some ⟨g,o',none⟩) len cap∧(cap=0∨o'=o+off*wd)∧o+(off+cap)*wd≤b7 w g)∨
    ((ρ b).addr=none∧v= .slice none 0 0∧len=0∧cap=0))
 |.win b b2 off len=>dom b2∧dom b∧off+len≤(ρ b).len∧∃cap,len≤cap∧
   (
    (∃g o o',(ρ b).addr=some (g,o)∧v= .slice (some ⟨g,o',none⟩) len cap∧(cap=0∨o'=o+off*1)∧o+(off+cap)*1≤b7 w g)∨
    ((ρ b).addr=none∧v= .slice none 0 0∧len=0∧cap=0))
 |.ptr b off=>dom b∧∃g o,(ρ b).addr=some (g,o)∧v= .pointer (some ⟨g,o+off,none⟩)
 |.eptr b wd i off=>dom b∧i<(ρ b).len∧∃g o,(ρ b).addr=some (g,o)∧v= .pointer (some ⟨g,o+(i*wd+off),none⟩)
 |c=>aQ ok w c v
def aF (ρ:Nat→Loc)(dom ok:Nat→Prop)(w:World)(c:C)(v:Value):Prop:=
 match c with
 |.fn f n caps=>∃cs:Array Value,v= .func (.func f) #[] cs∧cs.size=n∧∀i,i<n→eE ρ dom ok w (caps i) (cs.getD i undef)
 |c=>eE ρ dom ok w c v
def bJ (ρ:Nat→Loc)(dom ok:Nat→Prop)(w:World):List C→List Value→Prop
 |[],[]=>True
 |c::cs,v::vs=>aF ρ dom ok w c v∧bJ ρ dom ok w cs vs
 |_,_=>False
def dM (ρ:Nat→Loc)(dom ok:Nat→Prop)(w:World):V→Value→Prop
 |.unk,_=>True
 |.one c,v=>aF ρ dom ok w c v
 |.agg cs,v=>∃vs:Array Value,v= .agg vs∧bJ ρ dom ok w cs vs.toList
 |.aB _,_=>False
def a8 (ρ:Nat→Loc)(dom ok:Nat→Prop)(w:World):List V→List Value→Prop
 |[],[]=>True
 |c::cs,v::vs=>dM ρ dom ok w c v∧a8 ρ dom ok w cs vs
 |_,_=>False
def cE (ρ:Nat→Loc)(dom ok:Nat→Prop)(w:World):V→Value→Prop
 |.aB xs,v=>∃vs:Array Value,v= .tuple vs∧a8 ρ dom ok w xs vs.toList
 |x,v=>dM ρ dom ok w x v
def aM (ρ:Nat→Loc)(dom ok:Nat→Prop)(w:World)(l:Loc)(B:Bk):Prop:=
 match l.addr with
 |some (g,o)=>∃cur e,w.heap[g]? =some (.cells cur e (0,0))∧∀j c,B.cell j=some c→∃u,cur[o+j]? =some u∧
   (match B with|.var _=>aF ρ dom ok w c u|.wins .. =>aF ρ dom ok w c u|_=>aQ ok w c u)
 |none=>∀j,B.cell j=none
structure Ctx where
 W0:World
 forb:Nat→Prop
 mine:Nat→Prop
 home:Option Loc:=none
def aI (G:Ctx)(own:List (Nat×fI))(ρ:Nat→Loc)(w:World)(g:Nat):Prop:=
 g<w.heap.size∧¬G.forb g∧∀b B,lo own b=some B→B.rw=true→∀o,(ρ b).addr≠some (g,o)
structure aS (G:Ctx) (dom:Nat→Prop) (ρ:Nat→Loc) (s:St) (a:Act) (w:World):Prop where
 hd:a.defers=[]
 hn:a.tmps.size=s.n
 env:∀t,cE ρ dom (aI G s.own ρ w) w (lk s.env t) (a.tmps.getD t undef)
 own:∀b B,lo s.own b=some B→dom b∧(ρ b).len=B.bk.len∧aM ρ dom (aI G s.own ρ w) w (ρ b) B.bk∧
  ∀g o,(ρ b).addr=some (g,o)→g<w.heap.size∧¬G.forb g∧(G.W0.heap.size≤g∨G.mine g)
 inj:∀b B b' B',lo s.own b=some B→lo s.own b'=some B'→b≠b'→B.rw=true→∀g o o',(ρ b).addr=some (g,o)→(ρ b').addr≠some (g,o')
 os:w.os=G.W0.os
 tape:w.tape=G.W0.tape
 output:w.output=G.W0.output
 size:G.W0.heap.size≤w.heap.size
 keep:∀k,k<G.W0.heap.size→¬G.mine k→w.heap[k]? =G.W0.heap[k]?
 wf:∀k,G.forb k→k<G.W0.heap.size
 home:∀l,G.home=some l→dom 0∧ρ 0=l
 room:∀g,b7 G.W0 g≤b7 w g
def vk (G:Ctx)(dom:Nat→Prop)(s:St)(a:Act)(w:World):Prop:=∃ρ,aS G dom ρ s a w
def oT (G:Ctx)(s:St)(a:Act)(w:World):Prop:=vk G (fun b=>b<s.nx) s a w
structure Ext (ok ok':Nat→Prop) (w w':World):Prop where
 block:∀g,ok g→ok' g∧w'.heap[g]? =w.heap[g]?
 room:∀g,b7 w g≤b7 w' g
theorem Ext.refl (ok:Nat→Prop)(w:World):Ext ok ok w w:=⟨fun _ h=>⟨h,rfl⟩,fun _=>O1 _⟩
theorem aQ.ext {ok ok':Nat→Prop}{w w':World}(h:Ext ok ok' w w'):∀(c:C) (v:Value),aQ ok w c v→aQ ok' w' c v:=by
 have hc:∀g o u,ok g→w.cell? ⟨g,o,none⟩=some u→w'.cell? ⟨g,o,none⟩=some u:=fun g o u hg hu=>by
  rw[World.cell?_of_block (w:=w) (h.block g hg).2];exact hu
 intro c
 induction c with
 |any=>intro v hv;exact hv
 |bool b=>intro v hv;exact hv
 |int k n=>intro v hv;exact hv
 |str s=>intro v hv;exact hv
 |nil=>intro v hv;exact hv
 |ints k xs=>
  rintro v ⟨a,cap,hv,hle,hr⟩;refine⟨a,cap,hv,hle,?_⟩
  rcases hr with hr|⟨g,o,ha,hg,Th⟩
  ·exact .inl hr
  exact .inr ⟨g,o,ha,(h.block g hg).1,fun i hi=>hc _ _ _ hg (Th i hi)⟩
 |rows wd n f ih=>
  rintro v ⟨a,cap,hv,hle,hr⟩;refine⟨a,cap,hv,hle,?_⟩
  rcases hr with hr|⟨g,o,ha,hg,Th⟩
  ·exact .inl hr
  refine .inr ⟨g,o,ha,(h.block g hg).1,fun i j hi hj=>?_⟩;obtain⟨u,hu,hr⟩:=Th i j hi hj;exact⟨u,hc _ _ _ hg hu,ih i j u hr⟩
 |own b wd off len=>intro v hv;exact hv.elim
 |win b b2 off len=>intro v hv;exact hv.elim
 |ptr b off=>intro v hv;exact hv.elim
 |elt s wd i off ih=>
  rintro v ⟨g,o,n,cap,hs,hi,hv⟩;exact⟨g,o,n,cap,ih _ hs,hi,hv⟩
 |eptr b wd i off=>intro v hv;exact hv.elim
 |fn f n caps ih=>
  rintro v ⟨cs,hv,hn,Th⟩;exact⟨cs,hv,hn,fun i hi=>ih i _ (Th i hi)⟩
structure iC (dm dm':Nat→Prop) (ρ ρ':Nat→Loc):Prop where
 dom:∀b,dm b→dm' b
 loc:∀b,dm b→ρ' b=ρ b
theorem eE.ext {ok ok' dom dom':Nat→Prop}{ρ ρ':Nat→Loc}{w w':World}(h:Ext ok ok' w w')(hs:iC dom dom' ρ ρ')(c:C)(v:Value)(hr:eE ρ dom ok w c v):eE ρ' dom' ok' w' c v:=by
 cases c with
 |own b wd off len=>
  obtain⟨hd,hl,cap,hc,hr⟩:=hr;refine⟨hs.dom _ hd,by rw[hs.loc _ hd];exact hl,cap,hc,?_⟩;rw[hs.loc _ hd]
  rcases hr with⟨g,o,o',ha,hv,ho,hz⟩|hr
  ·exact .inl ⟨g,o,o',ha,hv,ho,O0 hz (h.room g)⟩
  exact .inr hr
 |win b b2 off len=>
  obtain⟨VX,hd,hl,cap,hc,hr⟩:=hr;refine⟨hs.dom _ VX,hs.dom _ hd,by rw[hs.loc _ hd];exact hl,cap,hc,?_⟩;rw[hs.loc _ hd]
  rcases hr with⟨g,o,o',ha,hv,ho,hz⟩|hr
  ·exact .inl ⟨g,o,o',ha,hv,ho,O0 hz (h.room g)⟩
  exact .inr hr
 |ptr b off=>
  obtain⟨hd,hr⟩:=hr;exact⟨hs.dom _ hd,by rw[hs.loc _ hd];exact hr⟩
 |eptr b wd i off=>
  obtain⟨hd,hi,hr⟩:=hr;exact⟨hs.dom _ hd,by rw[hs.loc _ hd];exact hi,by rw[hs.loc _ hd];exact hr⟩
 |_=>exact aQ.ext h _ v hr
theorem aF.ext {ok ok' dom dom':Nat→Prop}{ρ ρ':Nat→Loc}{w w':World}(h:Ext ok ok' w w')(hs:iC dom dom' ρ ρ')(c:C)(v:Value)(hr:aF ρ dom ok w c v):aF ρ' dom' ok' w' c v:=by
 cases c with
 |fn f n caps=>
  obtain⟨cs,hv,hn,Th⟩:=hr;exact⟨cs,hv,hn,fun i hi=>eE.ext h hs _ _ (Th i hi)⟩
 |any=>exact eE.ext h hs .any v hr
 |bool b=>exact eE.ext h hs (.bool b) v hr
 |int k n=>exact eE.ext h hs (.int k n) v hr
 |str s=>exact eE.ext h hs (.str s) v hr
 |nil=>exact eE.ext h hs .nil v hr
 |ints k xs=>exact eE.ext h hs (.ints k xs) v hr
 |rows wd n f=>exact eE.ext h hs (.rows wd n f) v hr
 |own b wd off len=>exact eE.ext h hs (.own b wd off len) v hr
 |win b b2 off len=>exact eE.ext h hs (.win b b2 off len) v hr
 |ptr b off=>exact eE.ext h hs (.ptr b off) v hr
 |elt s wd i off=>exact eE.ext h hs (.elt s wd i off) v hr
 |eptr b wd i off=>exact eE.ext h hs (.eptr b wd i off) v hr
theorem bJ.ext {ok ok' dom dom':Nat→Prop}{ρ ρ':Nat→Loc}{w w':World}(h:Ext ok ok' w w')(hs:iC dom dom' ρ ρ'):∀(cs:List C) (vs:List Value),bJ ρ dom ok w cs vs→bJ ρ' dom' ok' w' cs vs
 |[],[],_=>trivial
 |_::cs,_::vs,hr=>⟨aF.ext h hs _ _ hr.1,bJ.ext h hs cs vs hr.2⟩
 |[],_::_,hr=>hr.elim
 |_::_,[],hr=>hr.elim
theorem dM.ext {ok ok' dom dom':Nat→Prop}{ρ ρ':Nat→Loc}{w w':World}(h:Ext ok ok' w w')(hs:iC dom dom' ρ ρ')(x:V)(v:Value)(hr:dM ρ dom ok w x v):dM ρ' dom' ok' w' x v:=by
 cases x with
 |unk=>trivial
 |one c=>exact aF.ext h hs _ _ hr
 |agg cs=>obtain⟨vs,hv,hl⟩:=hr;exact⟨vs,hv,bJ.ext h hs _ _ hl⟩
 |aB xs=>exact hr.elim
theorem a8.ext {ok ok' dom dom':Nat→Prop}{ρ ρ':Nat→Loc}{w w':World}(h:Ext ok ok' w w')(hs:iC dom dom' ρ ρ'):∀(cs:List V) (vs:List Value),a8 ρ dom ok w cs vs→a8 ρ' dom' ok' w' cs vs
 |[],[],_=>trivial
 |_::cs,_::vs,hr=>⟨dM.ext h hs _ _ hr.1,a8.ext h hs cs vs hr.2⟩
 |[],_::_,hr=>hr.elim
 |_::_,[],hr=>hr.elim
theorem cE.ext {ok ok' dom dom':Nat→Prop}{ρ ρ':Nat→Loc}{w w':World}(h:Ext ok ok' w w')(hs:iC dom dom' ρ ρ')(x:V)(v:Value)(hr:cE ρ dom ok w x v):cE ρ' dom' ok' w' x v:=by
 cases x with
 |unk=>trivial
 |one c=>exact dM.ext h hs (.one c) _ hr
 |agg cs=>exact dM.ext h hs (.agg cs) _ hr
 |aB xs=>obtain⟨vs,hv,hl⟩:=hr;exact⟨vs,hv,a8.ext h hs _ _ hl⟩
theorem aM.ext {ok ok' dom dom':Nat→Prop}{ρ ρ':Nat→Loc}{w w':World}(h:Ext ok ok' w w')(hs:iC dom dom' ρ ρ')(l:Loc)(B:Bk)
  (hb:∀g o,l.addr=some (g,o)→w'.heap[g]? =w.heap[g]?) (hr:aM ρ dom ok w l B):aM ρ' dom' ok' w' l B:=by
 unfold aM at*
 cases ha:l.addr with
 |none=>rw[ha]at hr;exact hr
 |some x=>
  obtain⟨g,o⟩:=x;rw[ha]at hr;obtain⟨cur,e,hg,hc⟩:=hr;refine⟨cur,e,by rw[hb g o ha];exact hg,fun j c hj=>?_⟩;obtain⟨u,hu,hr⟩:=hc j c hj;refine⟨u,hu,?_⟩
  cases B with
  |var cs=>exact aF.ext h hs _ _ hr
  |ints e k xs=>exact aQ.ext h _ _ hr
  |rows e wd n f=>exact aQ.ext h _ _ hr
  |wins e b2 n g=>exact aF.ext h hs _ _ hr
end Go.Eng
namespace Go.Eng
open Go
theorem Es (r:List (Nat×V))(t':Nat)(v:V)(t:Nat):lk ((t',v)::r) t=if t=t' then v else lk r t:=rfl
def St.put (s:St)(dst:Option Tmp)(v:V):St:=
 match dst with
 |some d=>{s with env:=(d,v)::s.env}
 |none=>s
theorem aS.put {G:Ctx}{dom:Nat→Prop}{ρ:Nat→Loc}{s:St}{a:Act}{w:World}(h:aS G dom ρ s a w){dst:Option Tmp}{x:V}{v:Value}
  (hd:∀d,dst=some d→d<s.n) (hv:cE ρ dom (aI G s.own ρ w) w x v):aS G dom ρ (s.put dst x) (a.put dst v) w:=by
 cases dst with
 |none=>exact h
 |some d=>
  have SI:=hd d rfl
  refine{hd:=h.hd,hn:=by simpa[Act.put,St.put]using h.hn,env:=fun t=>?_,own:=h.own,inj:=h.inj,os:=h.os,tape:=h.tape,output:=h.output,size:=h.size,keep:=h.keep,wf:=h.wf,home:=h.home,room:=h.room}
  show cE ρ dom _ w (lk ((d,x)::s.env) t) ((a.tmps.setIfInBounds d v).getD t undef);rw[Es]
  by_cases ht:t=d
  ·subst ht;rw[if_pos rfl]
   have:(a.tmps.setIfInBounds t v).getD t undef=v:=by
    have hs:t<a.tmps.size:=by rw[h.hn];exact SI
    simp[Array.getD,hs]
   rw[this];exact hv
  rw[if_neg ht]
  have:(a.tmps.setIfInBounds d v).getD t undef=a.tmps.getD t undef:=by
   simp only[Array.getD_eq_getD_getElem?];rw[Array.getElem?_setIfInBounds_ne (fun e=>ht e.symm)]
  rw[this];exact h.env t
theorem aS.sA {G:Ctx}{dom dom':Nat→Prop}{ρ ρ':Nat→Loc}{s:St}{a:Act}{w w':World}{own':List (Nat×fI)}(h:aS G dom ρ s a w)
  (hx:Ext (aI G s.own ρ w) (aI G own' ρ' w') w w') (hs:iC dom dom' ρ ρ')
  (Xz:∀b B,lo own' b=some B→dom' b∧(ρ' b).len=B.bk.len∧aM ρ' dom' (aI G own' ρ' w') w' (ρ' b) B.bk∧
   ∀g o,(ρ' b).addr=some (g,o)→g<w'.heap.size∧¬G.forb g∧(G.W0.heap.size≤g∨G.mine g))
  (Yv:∀b B b' B',lo own' b=some B→lo own' b'=some B'→b≠b'→B.rw=true→∀g o o',(ρ' b).addr=some (g,o)→(ρ' b').addr≠some (g,o'))
  (WD:w'.os=w.os) (htape:w'.tape=w.tape) (hout:w'.output=w.output) (UF:w.heap.size≤w'.heap.size)
  (hkeep:∀k,k<G.W0.heap.size→¬G.mine k→w'.heap[k]? =w.heap[k]?):aS G dom' ρ' {s with own:=own'} a w':=
 {
  hd:=h.hd,hn:=h.hn,env:=fun t=>cE.ext hx hs _ _ (h.env t),own:=Xz,inj:=Yv,os:=WD.trans h.os,tape:=htape.trans h.tape,output:=hout.trans h.output,
  size:=O0 h.size UF,keep:=fun k hk hm=>(hkeep k hk hm).trans (h.keep k hk hm),wf:=h.wf,
  home:=fun l hl=>⟨hs.dom _ (h.home l hl).1,(hs.loc _ (h.home l hl).1).trans (h.home l hl).2⟩,room:=fun g=>O0 (h.room g) (hx.room g)}
theorem kK {G:Ctx}{own:List (Nat×fI)}{ρ:Nat→Loc}{w:World}{fs:List Nat}{g:Nat}(h:aI G own ρ w g):aI G (dG own fs) ρ w g:=by
 refine⟨h.1,h.2.1,fun b B hb S2=>?_⟩;rw[fH]at hb
 cases hl:lo own b with
 |none=>rw[hl]at hb;simp at hb
 |some B0=>
  rw[hl]at hb;simp only[Option.map_some,Q6]at hb;refine h.2.2 b B0 hl ?_
  split at hb
  ·subst hb;simp at S2
  subst hb;exact S2
theorem aS.dG {G:Ctx}{dom:Nat→Prop}{ρ:Nat→Loc}{s:St}{a:Act}{w:World}(h:aS G dom ρ s a w)(fs:List Nat):
  aS G dom ρ {s with own:=Eng.dG s.own fs} a w:=by
 have SR:Ext (aI G s.own ρ w) (aI G (Eng.dG s.own fs) ρ w) w w:=⟨fun g hg=>⟨kK hg,rfl⟩,fun _=>O1 _⟩;have hs:iC dom dom ρ ρ:=⟨fun _ h=>h,fun _ _=>rfl⟩;refine h.sA SR hs ?_ ?_ rfl rfl rfl (O1 _) (fun _ _ _=>rfl)
 ·intro b B hb;rw[fH]at hb
  cases hl:lo s.own b with
  |none=>rw[hl]at hb;simp at hb
  |some B0=>
   rw[hl]at hb;simp only[Option.map_some,Q6]at hb
   have ZD:B.bk=B0.bk:=by split at hb<;>(subst hb;rfl)
   obtain⟨h1,h2,h3,h4⟩:=h.own b B0 hl;rw[ZD];exact⟨h1,h2,aM.ext SR hs _ _ (fun _ _ _=>rfl) h3,h4⟩
 intro b B b' B' hb Tq SW S2 g o o' hg;rw[fH]at hb Tq
 cases hl:lo s.own b with
 |none=>rw[hl]at hb;simp at hb
 |some B0=>
  cases TH:lo s.own b' with
  |none=>rw[TH]at Tq;simp at Tq
  |some B1=>
   rw[hl]at hb;simp only[Option.map_some,Q6]at hb;refine h.inj b B0 b' B1 hl TH SW ?_ g o o' hg
   split at hb
   ·subst hb;simp at S2
   subst hb;exact S2
theorem cI {w w':World}{g:Nat}(h:w'.heap[g]? =w.heap[g]?):b7 w' g=b7 w g:=by simp[b7,h]
theorem jz {w:World}{g:Nat}(h:¬g<w.heap.size):b7 w g=0:=by simp[b7,Array.getElem?_eq_none (Nat.le_of_not_lt h)]
theorem aM.lt {ρ:Nat→Loc}{dom ok:Nat→Prop}{w:World}{l:Loc}{B:Bk}(h:aM ρ dom ok w l B){g o:Nat}(ha:l.addr=some (g,o)):g<w.heap.size:=by
 unfold aM at h;rw[ha]at h;obtain⟨cur,e,hg,_⟩:=h;exact(Array.getElem?_eq_some_iff.1 hg).1
theorem aS.grown {G:Ctx}{dom:Nat→Prop}{ρ:Nat→Loc}{s:St}{a:Act}{w w':World}(h:aS G dom ρ s a w)(hb:Go.RowKit.Below w.heap.size w w'):aS G dom ρ s a w':=by
 have SR:Ext (aI G s.own ρ w) (aI G s.own ρ w') w w':=
  ⟨fun g hg=>⟨⟨Nat.lt_of_lt_of_le hg.1 hb.size,hg.2⟩,hb.block g hg.1⟩,fun g=>by
   by_cases hg:g<w.heap.size
   ·rw[cI (hb.block g hg)];exact O1 _
   rw[jz hg];exact O2 _⟩
 have hs:iC dom dom ρ ρ:=⟨fun _ h=>h,fun _ _=>rfl⟩;refine h.sA (own':=s.own) SR hs ?_ h.inj hb.os hb.tape hb.output hb.size (fun k hk _=>hb.block k (Nat.lt_of_lt_of_le hk h.size));intro b B hl;obtain⟨h1,h2,h3,h4⟩:=h.own b B hl;exact⟨h1,h2,aM.ext SR hs _ _ (fun g o ha=>hb.block g (h4 g o ha).1) h3,fun g o ha=>⟨Nat.lt_of_lt_of_le (h4 g o ha).1 hb.size,(h4 g o ha).2⟩⟩
def a6 (ρ:Nat→Loc)(id:Nat)(l:Loc):Nat→Loc:=fun b=>if b=id then l else ρ b
theorem mq (ρ:Nat→Loc)(id:Nat)(l:Loc):a6 ρ id l id=l:=if_pos rfl
theorem aW (ρ:Nat→Loc){id b:Nat}(l:Loc)(h:b≠id):a6 ρ id l b=ρ b:=if_neg h
theorem gZ (w:World)(o:Obj):Go.RowKit.Below w.heap.size w (w.alloc o):=(Go.RowKit.Below.refl _ _).alloc (O1 _) _
theorem iC.a6 {dom:Nat→Prop}(ρ:Nat→Loc){id:Nat}(l:Loc)(hid:¬dom id):iC dom (fun b=>dom b∨b=id) ρ (a6 ρ id l):=
 ⟨fun _ h=>.inl h,fun b hb=>aW ρ l (fun e=>hid (e▸hb))⟩
theorem aS.xR {G:Ctx}{dom:Nat→Prop}{ρ:Nat→Loc}{s:St}{a:Act}{w:World}(h:aS G dom ρ s a w){id:Nat}(hid:¬dom id)(B:Bk)(cells:Array Value)(e:TypeId)
  (SK:∀j c,B.cell j=some c→∃u,cells[j]? =some u∧(match B with|.var _=>aF ρ dom (aI G s.own ρ w) w c u|.wins .. =>aF ρ dom (aI G s.own ρ w) w c u|_=>aQ (aI G s.own ρ w) w c u)):
  aS G (fun b=>dom b∨b=id) (a6 ρ id ⟨some (w.heap.size,0),B.len⟩) {s with own:=eD s.own id ⟨B,true⟩} a (w.alloc (.cells cells e)):=by
 have hb:=gZ w (.cells cells e);have hs:=iC.a6 ρ ⟨some (w.heap.size,0),B.len⟩ hid;have SW:∀b B',lo s.own b=some B'→b≠id:=fun b B' hl e=>hid (e▸(h.own b B' hl).1);have SR:Ext (aI G s.own ρ w) (aI G (eD s.own id ⟨B,true⟩) (Eng.a6 ρ id ⟨some (w.heap.size,0),B.len⟩) (w.alloc (.cells cells e))) w (w.alloc (.cells cells e)):=by
  refine⟨fun g hg=>⟨⟨Nat.lt_of_lt_of_le hg.1 hb.size,hg.2.1,fun b B' hl S2 o=>?_⟩,hb.block g hg.1⟩,fun g=>?_⟩
  ·rw[b9]at hl
   by_cases SX:b=id
   ·subst SX;rw[mq];intro he
    have:w.heap.size=g:=by simpa using congrArg (Option.map Prod.fst) he
    exact absurd hg.1 (by omega)
   rw[if_neg SX]at hl;rw[aW _ _ SX];exact hg.2.2 b B' hl S2 o
  by_cases hg:g<w.heap.size
  ·rw[cI (hb.block g hg)];exact O1 _
  rw[jz hg];exact O2 _
 refine h.sA SR hs ?_ ?_ hb.os hb.tape hb.output hb.size (fun k hk _=>hb.block k (Nat.lt_of_lt_of_le hk h.size))
 ·intro b B' hl;rw[b9]at hl
  by_cases SX:b=id
  ·subst SX;rw[if_pos rfl]at hl;obtain rfl:=Option.some.inj hl;rw[mq];refine⟨.inr rfl,rfl,?_,fun g o ha=>?_⟩
   ·unfold aM;refine⟨cells,e,heap_alloc_new w _,fun j c hj=>?_⟩;obtain⟨u,hu,hr⟩:=SK j c hj;refine⟨u,by simpa using hu,?_⟩
    cases B with
    |var cs=>exact aF.ext SR hs _ _ hr
    |ints e k xs=>exact aQ.ext SR _ _ hr
    |rows e wd n f=>exact aQ.ext SR _ _ hr
    |wins e b2 n g=>exact aF.ext SR hs _ _ hr
   have:w.heap.size=g:=by simpa using congrArg (Option.map Prod.fst) ha
   subst this;exact⟨by simp,fun hf=>absurd (h.wf _ hf) (by have:=h.size;omega),.inl h.size⟩
  rw[if_neg SX]at hl;rw[aW _ _ SX];obtain⟨h1,h2,h3,h4⟩:=h.own b B' hl;exact⟨.inl h1,h2,aM.ext SR hs _ _ (fun g o ha=>hb.block g (h4 g o ha).1) h3,fun g o ha=>⟨Nat.lt_of_lt_of_le (h4 g o ha).1 hb.size,(h4 g o ha).2⟩⟩
 intro b B1 b' B2 hl TH TY S2 g o o' ha;rw[b9]at hl TH
 by_cases SX:b=id
 ·subst SX;rw[if_neg (fun e=>TY e.symm)]at TH;rw[mq]at ha;rw[aW _ _ (fun e=>TY e.symm)];have hg:w.heap.size=g:=by simpa using congrArg (Option.map Prod.fst) ha
  intro To
  have:=((h.own b' B2 TH).2.2.2 g o' To).1
  omega
 rw[if_neg SX]at hl;rw[aW _ _ SX]at ha
 by_cases TF:b'=id
 ·subst TF;rw[mq];intro To;have hg:w.heap.size=g:=by simpa using congrArg (Option.map Prod.fst) To
  have:=((h.own b B1 hl).2.2.2 g o ha).1
  omega
 rw[if_neg TF]at TH;rw[aW _ _ TF];exact h.inj b B1 b' B2 hl TH TY S2 g o o' ha
theorem aS.Ks {G:Ctx}{dom:Nat→Prop}{ρ:Nat→Loc}{s:St}{a:Act}{w w':World}(h:aS G dom ρ s a w)(hb:Go.RowKit.Below w.heap.size w w'){id:Nat}(hid:¬dom id)(B:Bk)(l:Loc)(hlen:l.len=B.len)
  (TA:∀g o,l.addr=some (g,o)→w.heap.size≤g∧g<w'.heap.size)
  (SK:aM (a6 ρ id l) (fun b=>dom b∨b=id) (aI G (eD s.own id ⟨B,true⟩) (a6 ρ id l) w') w' l B):
  aS G (fun b=>dom b∨b=id) (a6 ρ id l) {s with own:=eD s.own id ⟨B,true⟩} a w':=by
 have hs:=iC.a6 ρ l hid;have SW:∀b B',lo s.own b=some B'→b≠id:=fun b B' hl e=>hid (e▸(h.own b B' hl).1);have SR:Ext (aI G s.own ρ w) (aI G (eD s.own id ⟨B,true⟩) (Eng.a6 ρ id l) w') w w':=by
  refine⟨fun g hg=>⟨⟨Nat.lt_of_lt_of_le hg.1 hb.size,hg.2.1,fun b B' hl S2 o=>?_⟩,hb.block g hg.1⟩,fun g=>?_⟩
  ·rw[b9]at hl
   by_cases SX:b=id
   ·subst SX;rw[mq];intro he
    have:=(TA g o he).1
    exact absurd hg.1 (by omega)
   rw[if_neg SX]at hl;rw[aW _ _ SX];exact hg.2.2 b B' hl S2 o
  by_cases hg:g<w.heap.size
  ·rw[cI (hb.block g hg)];exact O1 _
  rw[jz hg];exact O2 _
 refine h.sA SR hs ?_ ?_ hb.os hb.tape hb.output hb.size (fun k hk _=>hb.block k (Nat.lt_of_lt_of_le hk h.size))
 ·intro b B' hl;rw[b9]at hl
  by_cases SX:b=id
  ·subst SX;rw[if_pos rfl]at hl;obtain rfl:=Option.some.inj hl;rw[mq];refine⟨.inr rfl,hlen,SK,fun g o ha=>?_⟩
   have:=TA g o ha
   exact⟨this.2,fun hf=>absurd (h.wf _ hf) (by have:=h.size;omega),.inl (O0 h.size this.1)⟩
  rw[if_neg SX]at hl;rw[aW _ _ SX];obtain⟨h1,h2,h3,h4⟩:=h.own b B' hl;exact⟨.inl h1,h2,aM.ext SR hs _ _ (fun g o ha=>hb.block g (h4 g o ha).1) h3,fun g o ha=>⟨Nat.lt_of_lt_of_le (h4 g o ha).1 hb.size,(h4 g o ha).2⟩⟩
 intro b B1 b' B2 hl TH TY S2 g o o' ha;rw[b9]at hl TH
 by_cases SX:b=id
 ·subst SX;rw[if_neg (fun e=>TY e.symm)]at TH;rw[mq]at ha;rw[aW _ _ (fun e=>TY e.symm)];have hg:=(TA g o ha).1;intro To
  have:=((h.own b' B2 TH).2.2.2 g o' To).1
  omega
 rw[if_neg SX]at hl;rw[aW _ _ SX]at ha
 by_cases TF:b'=id
 ·subst TF;rw[mq];intro To;have hg:=(TA g o' To).1
  have:=((h.own b B1 hl).2.2.2 g o ha).1
  omega
 rw[if_neg TF]at TH;rw[aW _ _ TF];exact h.inj b B1 b' B2 hl TH TY S2 g o o' ha
theorem aS.Kv {G:Ctx}{dom:Nat→Prop}{ρ:Nat→Loc}{s:St}{a:Act}{w w':World}(h:aS G dom ρ s a w)(hb:Go.RowKit.Below w.heap.size w w'){i j:Nat}(hi:¬dom i)(hj:¬dom j)(VG:i≠j)(Bi Bj:Bk)(li lj:Loc)
  (Ub:li.len=Bi.len) (ZE:lj.len=Bj.len) (hni:∀g o,li.addr=some (g,o)→w.heap.size≤g∧g<w'.heap.size) (hnj:∀g o,lj.addr=some (g,o)→w.heap.size≤g∧g<w'.heap.size)
  (hd:∀g o o',li.addr=some (g,o)→lj.addr≠some (g,o'))
  (Xn:aM (a6 (a6 ρ i li) j lj) (fun b=>(dom b∨b=i)∨b=j) (aI G (eD (eD s.own i ⟨Bi,true⟩) j ⟨Bj,true⟩) (a6 (a6 ρ i li) j lj) w') w' li Bi)
  (ZF:aM (a6 (a6 ρ i li) j lj) (fun b=>(dom b∨b=i)∨b=j) (aI G (eD (eD s.own i ⟨Bi,true⟩) j ⟨Bj,true⟩) (a6 (a6 ρ i li) j lj) w') w' lj Bj):
  aS G (fun b=>(dom b∨b=i)∨b=j) (a6 (a6 ρ i li) j lj) {s with own:=eD (eD s.own i ⟨Bi,true⟩) j ⟨Bj,true⟩} a w':=by
 have hs:iC dom (fun b=>(dom b∨b=i)∨b=j) ρ (Eng.a6 (Eng.a6 ρ i li) j lj):=⟨fun b h=>.inl (.inl h),fun b Tr=>by
  have h1:b≠j:=fun e=>hj (e▸Tr);have h2:b≠i:=fun e=>hi (e▸Tr);rw[aW _ _ h1,aW _ _ h2]⟩
 have Wo:∀b B,lo (eD (eD s.own i ⟨Bi,true⟩) j ⟨Bj,true⟩) b=some B→(b=j∧B=⟨Bj,true⟩∧Eng.a6 (Eng.a6 ρ i li) j lj b=lj)∨(b=i∧B=⟨Bi,true⟩∧Eng.a6 (Eng.a6 ρ i li) j lj b=li)∨
   (b≠i∧b≠j∧lo s.own b=some B∧Eng.a6 (Eng.a6 ρ i li) j lj b=ρ b):=by
  intro b B hl;rw[b9]at hl
  by_cases h1:b=j
  ·subst h1;rw[if_pos rfl]at hl;exact .inl ⟨rfl,(Option.some.inj hl).symm,mq ..⟩
  rw[if_neg h1,b9]at hl
  by_cases h2:b=i
  ·subst h2;rw[if_pos rfl]at hl;exact .inr (.inl ⟨rfl,(Option.some.inj hl).symm,by rw[aW _ _ h1,mq]⟩)
  rw[if_neg h2]at hl;exact .inr (.inr ⟨h2,h1,hl,by rw[aW _ _ h1,aW _ _ h2]⟩)
 have SR:Ext (aI G s.own ρ w) (aI G (eD (eD s.own i ⟨Bi,true⟩) j ⟨Bj,true⟩) (Eng.a6 (Eng.a6 ρ i li) j lj) w') w w':=by
  refine⟨fun g hg=>⟨⟨Nat.lt_of_lt_of_le hg.1 hb.size,hg.2.1,fun b B' hl S2 o he=>?_⟩,hb.block g hg.1⟩,fun g=>?_⟩
  ·rcases Wo b B' hl with⟨_,_,e⟩|⟨_,_,e⟩|⟨_,_,TH,e⟩
   ·rw[e]at he;exact absurd hg.1 (by have:=(hnj g o he).1;omega)
   ·rw[e]at he;exact absurd hg.1 (by have:=(hni g o he).1;omega)
   rw[e]at he;exact hg.2.2 b B' TH S2 o he
  by_cases hg:g<w.heap.size
  ·rw[cI (hb.block g hg)];exact O1 _
  rw[jz hg];exact O2 _
 refine h.sA SR hs ?_ ?_ hb.os hb.tape hb.output hb.size (fun k hk _=>hb.block k (Nat.lt_of_lt_of_le hk h.size))
 ·intro b B' hl
  rcases Wo b B' hl with⟨rfl,rfl,e⟩|⟨rfl,rfl,e⟩|⟨_,_,TH,e⟩
  ·rw[e];refine⟨.inr rfl,ZE,ZF,fun g o ha=>?_⟩
   have:=hnj g o ha
   exact⟨this.2,fun hf=>absurd (h.wf _ hf) (by have:=h.size;omega),.inl (O0 h.size this.1)⟩
  ·rw[e];refine⟨.inl (.inr rfl),Ub,Xn,fun g o ha=>?_⟩
   have:=hni g o ha
   exact⟨this.2,fun hf=>absurd (h.wf _ hf) (by have:=h.size;omega),.inl (O0 h.size this.1)⟩
  rw[e];obtain⟨h1,h2,h3,h4⟩:=h.own b B' TH;exact⟨.inl (.inl h1),h2,aM.ext SR hs _ _ (fun g o ha=>hb.block g (h4 g o ha).1) h3,fun g o ha=>⟨Nat.lt_of_lt_of_le (h4 g o ha).1 hb.size,(h4 g o ha).2⟩⟩
 intro b B1 b' B2 hl TH SW S2 g o o' ha To
 rcases Wo b B1 hl with⟨rfl,rfl,e⟩|⟨rfl,rfl,e⟩|⟨_,_,Uh,e⟩<;>rcases Wo b' B2 TH with⟨rfl,rfl,e'⟩|⟨rfl,rfl,e'⟩|⟨_,_,SJ,e'⟩<;>rw [e]at ha<;>rw [e']at To
 ·exact SW rfl
 ·exact hd g o' o To ha
 ·exact absurd ((h.own b' B2 SJ).2.2.2 g o' To).1 (by have:=(hnj g o ha).1;omega)
 ·exact hd g o o' ha To
 ·exact SW rfl
 ·exact absurd ((h.own b' B2 SJ).2.2.2 g o' To).1 (by have:=(hni g o ha).1;omega)
 ·exact absurd ((h.own b B1 Uh).2.2.2 g o ha).1 (by have:=(hnj g o' To).1;omega)
 ·exact absurd ((h.own b B1 Uh).2.2.2 g o ha).1 (by have:=(hni g o' To).1;omega)
 exact h.inj b B1 b' B2 Uh SJ SW S2 g o o' ha To
theorem aS.IM {G:Ctx}{dom:Nat→Prop}{ρ:Nat→Loc}{s:St}{a:Act}{w:World}(h:aS G dom ρ s a w){o:Obj}:aI G s.own ρ (w.alloc o) w.heap.size:=
 ⟨by simp,fun hf=>absurd (h.wf _ hf) (by have:=h.size;omega),fun b B hl _ o ha=>absurd ((h.own b B hl).2.2.2 _ _ ha).1 (by omega)⟩
theorem Bt {G:Ctx}{own:List (Nat×fI)}{ρ:Nat→Loc}{w:World}{o:Obj}{g:Nat}(h:aI G own ρ w g):aI G own ρ (w.alloc o) g:=
 ⟨Nat.lt_of_lt_of_le h.1 (gZ w o).size,h.2⟩
end Go.Eng
namespace Go.Eng
open Go
inductive FB where
 |int (k:IntKind)
 |bool
 |str
 |sl (e:TypeId)
 |st (fs:List (Nat×Nat))
 |arr (n:Nat) (e:TypeId)
 |fn
 |other
structure Ty where
 k:FB
 size:Nat
 bytes:Nat
 zero:List C
 fl:List Bool:=[]
def DR:Value→C
 |.int k n=>.int k n
 |.bool b=>.bool b
 |.string s=>.str s
 |.slice a n c=>match a,n,c with
  |none,0,0=>.nil
  |_,_,_=>.any
 |.func fn first captured=>match fn,first.size,captured.size with
  |.func f,0,0=>.fn f 0 (fun _=>.any)
  |_,_,_=>.any
 |_=>.any
def cv:Value→V
 |.agg cs=>if cs.toList.all Value.oneCell' then .agg (cs.toList.map DR)else .unk
 |.tuple _=>.unk
 |v=>.one (DR v)
def cK (P:Program):TypeDesc→FB
 |.int k=>.int k
 |.bool=>.bool
 |.string=>.str
 |.slice e=>.sl e
 |.struct fs=>match fs.toList.mapM (fun f=>(P.info? f.type).map fun i=>(f.offset,i.size))with
  |some pl=>.st pl
  |none=>.other
 |.func _ _ _=>.fn
 |.array n e=>.arr n e
 |_=>.other
theorem rQ {P:Program}{d:TypeDesc}{pl:List (Nat×Nat)}(h:cK P d= .st pl):∃fs,d= .struct fs∧fs.toList.mapM (fun f=>(P.info? f.type).map fun i=>(f.offset,i.size))=some pl:=by
 cases d<;>simp only[cK]at h
 case struct fs=>
  refine⟨fs,rfl,?_⟩
  split at h
  ·rename_i pl' hp;cases h;exact hp
  cases h
 all_goals cases h
theorem tY {P:Program}:∀(fs:List Field) (pl:List (Nat×Nat)),fs.mapM (fun f=>(P.info? f.type).map fun i=>(f.offset,i.size))=some pl→
  ∀(j:Nat) p,pl[j]? =some p→∃f i,fs[j]? =some f∧P.info? f.type=some i∧p=(f.offset,i.size)
 |[],pl,h,j,p,hj=>by simp at h;subst h;simp at hj
 |f::fs,pl,h,j,p,hj=>by
  simp only[List.mapM_cons,Option.bind_eq_bind,Option.pure_def]at h
  cases hi:P.info? f.type with
  |none=>rw[hi]at h;simp at h
  |some i=>
   rw[hi]at h;simp only[Option.map_some,Option.bind_some]at h
   cases hr:fs.mapM (fun f=>(P.info? f.type).map fun i=>(f.offset,i.size))with
   |none=>rw[hr]at h;simp at h
   |some rest=>
    rw[hr]at h;simp only[Option.bind_some,Q6]at h;subst h
    cases j with
    |zero=>simp at hj;exact⟨f,i,rfl,hi,hj.symm⟩
    |succ j=>exact tY fs rest hr j p (by simpa using hj)
def ON (P:Program):TypeDesc→List Bool
 |.struct fs=>fs.toList.map fun f=>match P.underlying f.type with
  |some d=>match(cK P d)with
   |.st _=>false
   |.arr _ _=>false
   |.other=>false
   |_=>true
  |none=>false
 |_=>[]
def dU (P:Program)(t:TypeId):Option Ty:=
 match P.info? t,P.underlying t with
 |some i,some d=>match i.zero with
  |some z=>if z.cells.toList.all Value.oneCell' then some {k:=cK P d,size:=i.size,bytes:=i.bytes,zero:=z.cells.toList.map DR,fl:=ON P d}else none
  |none=>none
 |_,_=>none
class RJ (P:Program) (t:TypeId) (T:outParam Ty):Prop where
 out:dU P t=some T
theorem RJ.parts {P:Program}{t:TypeId}{T:Ty}(h:RJ P t T):∃i d z,P.info? t=some i∧P.underlying t=some d∧i.zero=some z∧T.k=cK P d∧T.size=i.size∧T.bytes=i.bytes∧T.zero=z.cells.toList.map DR∧z.cells.toList.all Value.oneCell'=true:=by
 have h:=h.out;unfold dU at h
 cases hi:P.info? t with
 |none=>rw[hi]at h;simp at h
 |some i=>
  cases hu:P.underlying t with
  |none=>rw[hi,hu]at h;simp at h
  |some d=>
   cases hz:i.zero with
   |none=>rw[hi,hu]at h;simp[hz]at h
   |some z=>
    rw[hi,hu]at h;simp only[hz]at h
    split at h
    ·rename_i SM
     simp only[Q6]at h;subst h;exact⟨i,d,z,rfl,rfl,hz,rfl,rfl,rfl,rfl,SM⟩
    cases h
section cv
variable {ρ:Nat→Loc}{dom ok:Nat→Prop}{w:World}
theorem zW (v:Value)(h:v.oneCell'=true):aQ ok w (DR v) v:=by
 cases v with
 |int k n=>rfl
 |bool b=>rfl
 |string s=>rfl
 |slice a n c=>
  simp only[DR]
  split
  ·rfl
  exact h
 |func fn first captured=>
  simp only[DR]
  split
  ·rename_i f h1 h2
   have h1:first= #[]:=Array.eq_empty_of_size_eq_zero (by assumption);have h2:captured= #[]:=Array.eq_empty_of_size_eq_zero (by assumption);subst h1;subst h2;exact⟨#[],rfl,rfl,fun i hi=>absurd hi (O5 _)⟩
  exact h
 |_=>exact h
theorem aF.bn {c:C}{v:Value}(h:aQ ok w c v):aF ρ dom ok w c v:=by
 cases c with
 |own b wd off len=>exact h.elim
 |win b b2 off len=>exact h.elim
 |ptr b off=>exact h.elim
 |eptr b wd i off=>exact h.elim
 |fn f n caps=>
  obtain⟨cs,hv,hn,Th⟩:=h;refine⟨cs,hv,hn,fun i hi=>?_⟩
  have:=Th i hi
  unfold eE
  cases hc:caps i with
  |own b wd off len=>rw[hc]at this;exact this.elim
  |win b b2 off len=>rw[hc]at this;exact this.elim
  |ptr b off=>rw[hc]at this;exact this.elim
  |eptr b wd i off=>rw[hc]at this;exact this.elim
  |_=>rw[hc]at this;exact this
 |_=>exact h
theorem yy (v:Value)(h:v.oneCell'=true):aF ρ dom ok w (DR v) v:=aF.bn (zW v h)
theorem pW:∀vs:List Value,vs.all Value.oneCell'=true→bJ ρ dom ok w (vs.map DR) vs
 |[],_=>trivial
 |v::vs,h=>by
  simp only[List.all_cons,Bool.and_eq_true]at h;exact⟨yy v h.1,pW vs h.2⟩
theorem OJ (v:Value):cE ρ dom ok w (cv v) v:=by
 by_cases hv:∃cs,v= .agg cs
 ·obtain⟨cs,rfl⟩:=hv;simp only[cv]
  split
  ·rename_i h;exact⟨cs,rfl,pW _ h⟩
  trivial
 by_cases ht:∃cs,v= .tuple cs
 ·obtain⟨cs,rfl⟩:=ht;trivial
 have e:cv v= .one (DR v)∧v.oneCell'=true:=by
  cases v with
  |agg cs=>exact absurd ⟨cs,rfl⟩ hv
  |tuple cs=>exact absurd ⟨cs,rfl⟩ ht
  |_=>exact⟨rfl,rfl⟩
 rw[e.1];exact yy v e.2
end cv
def St.ev (s:St):Operand→V
 |.tmp t=>lk s.env t
 |.const v=>cv v
 |.global _=>.one .any
 |.func f=>.one (.fn f 0 (fun _=>.any))
theorem aS.ev {G:Ctx}{dom:Nat→Prop}{ρ:Nat→Loc}{s:St}{a:Act}{w:World}(h:aS G dom ρ s a w)(x:Operand):
  cE ρ dom (aI G s.own ρ w) w (s.ev x) (a.eval x):=by
 cases x with
 |tmp t=>exact h.env t
 |const v=>exact OJ v
 |global g=>rfl
 |func f=>exact⟨#[],rfl,rfl,fun i hi=>absurd hi (O5 _)⟩
structure eX where
 val:V
 wz:Option Bk
 fz:List Nat
def vv (own:List (Nat×fI))(fz:List Nat):List (Nat×fI):=
 match fz with
 |[]=>own
 |_::_=>dG own fz
def St.add (s:St)(dst:Option Tmp)(id:Nat)(e:eX):St:=
 match e.wz with
 |some B=>{s.put dst e.val with own:=eD (vv s.own e.fz) id ⟨B,true⟩}
 |none=>{s.put dst e.val with own:=vv s.own e.fz}
theorem St.add_plain (s:St)(dst:Option Tmp)(id:Nat)(v:V):s.add dst id ⟨v,none,[]⟩=s.put dst v:=by cases dst<;>rfl
structure iO (s Z:St) (nx0:Nat) (o:Oper):Prop where
 n:Z.n=s.n
 ev:∀x∈o.op.operands,Z.ev x=s.ev x
 own:∀b,b<nx0→(lo Z.own b).map (·.bk)=(lo s.own b).map (·.bk)
theorem iO.refl (s:St)(nx0:Nat)(o:Oper):iO s s nx0 o:=⟨rfl,fun _ _=>rfl,fun _ _=>rfl⟩
theorem iO.wz {s Z:St}{nx0:Nat}{o:Oper}(h:iO s Z nx0 o){b:Nat}{B:fI}(hb:b<nx0)(hl:lo s.own b=some B):∃rw,lo Z.own b=some ⟨B.bk,rw⟩:=by
 have:=h.own b hb
 rw[hl]at this
 cases hz:lo Z.own b with
 |none=>rw[hz]at this;simp at this
 |some B'=>
  rw[hz]at this;simp only[Option.map_some,Q6]at this;exact⟨B'.rw,by rw[←this]⟩
def iE:Op→Bool
 |.move _=>true
 |.nilCheck _=>true
 |.binOp _ _ _ _ _=>true
 |.convert _ _ _=>true
 |.fieldAddr _ _ _=>true
 |.indexAddr _ _ _=>true
 |.slice _ _ _ _ _=>true
 |.load _ _=>true
 |.extract _ _=>true
 |.pick _ _ _=>true
 |.call c=>match c.callee with
  |.builtin .len=>true
  |_=>false
 |_=>false
def Mm (P:Program)(o:Oper)(s:St)(nx0:Nat)(val:V):Prop:=
 ∀G dom ρ Z a w,aS G dom ρ Z a w→iO s Z nx0 o→∃v,(execOp a.eval o).run P w= .ok (.value v) w∧cE ρ dom (aI G Z.own ρ w) w val v
def a7 (P:Program)(o:Oper)(s:St)(nx0 id:Nat)(e:eX):Prop:=
 (∀G dom ρ Z a w,aS G dom ρ Z a w→¬dom id→iO s Z nx0 o→∀Q next,
  (∀v w',vk G (fun b=>dom b∨b=id) (Z.add o.dst id e) (a.put o.dst v) w'→next (a.put o.dst v) w')→o.wp P a w next Q)∧
 (iE o.op=true→e.wz=none∧e.fz=[]∧Mm P o s nx0 e.val)
theorem Oper.cX {P:Program}{o:Oper}{a:Act}{w w':World}{v:Value}{next:Act→World→Prop}{Q:Exit→Act→World→Prop}
  (hr:(execOp a.eval o).run P w= .ok (.value v) w') (h:next (a.put o.dst v) w'):o.wp P a w next Q:=by
 unfold Oper.wp;rw[hr];exact h
theorem aS.cU {G:Ctx}{dom dom':Nat→Prop}{ρ:Nat→Loc}{s:St}{a:Act}{w:World}(h:aS G dom ρ s a w)(hd:∀b,dom b→dom' b):aS G dom' ρ s a w:=by
 have hx:=Ext.refl (aI G s.own ρ w) w;have hs:iC dom dom' ρ ρ:=⟨hd,fun _ _=>rfl⟩;exact h.sA (own':=s.own) hx hs (fun b B hl=>by
  obtain⟨h1,h2,h3,h4⟩:=h.own b B hl;exact⟨hd _ h1,h2,aM.ext hx hs _ _ (fun _ _ _=>rfl) h3,h4⟩) h.inj rfl rfl rfl (O1 _) (fun _ _ _=>rfl)
def bY (o:Oper)(n:Nat):Prop:=∀d,o.dst=some d→d<n
theorem a7.pure {P:Program}{o:Oper}{s:St}{nx0 id:Nat}{val:V}(hd:bY o s.n)
  (h:∀G dom ρ Z a w,aS G dom ρ Z a w→iO s Z nx0 o→∃v,(execOp a.eval o).run P w= .ok (.value v) w∧cE ρ dom (aI G Z.own ρ w) w val v):
  a7 P o s nx0 id ⟨val,none,[]⟩:=by
 refine⟨?_,fun _=>⟨rfl,rfl,h⟩⟩;intro G dom ρ Z a w hs _ ha Q next hk;obtain⟨v,hr,hv⟩:=h G dom ρ Z a w hs ha;refine Oper.cX hr (hk v w ⟨ρ,?_⟩);rw[St.add_plain];exact(hs.put (dst:=o.dst) (fun d hh=>by rw[ha.n];exact hd d hh) hv).cU (fun b hb=>Or.inl hb)
end Go.Eng
namespace Go.Eng
open Go
def fm (op:BinOp)(k:IntKind)(x y:Int):Int:=
 let a:=BitVec.ofInt k.bits x
 let b:=BitVec.ofInt k.bits y
 match op with
 |.and=>k.wrap (a&&&b).toNat
 |.or=>k.wrap (a|||b).toNat
 |.xor=>k.wrap (a^^^b).toNat
 |_=>k.wrap (a&&& ~~~b).toNat
def FA (op:BinOp)(k:IntKind)(a:Int)(k':IntKind)(b:Int)(K:C→Prop):Prop:=
 match op with
 |.shl=>0≤b∧K (.int k (k.wrap (a*2^(min b.toNat k.bits))))
 |.shr=>0≤b∧K (.int k (a.fdiv (2^(min b.toNat k.bits))))
 |.add=>k=k'∧K (.int k (k.wrap (a+b)))
 |.sub=>k=k'∧K (.int k (k.wrap (a-b)))
 |.mul=>k=k'∧K (.int k (k.wrap (a*b)))
 |.quo=>k=k'∧b≠0∧K (.int k (k.wrap (a.tdiv b)))
 |.rem=>k=k'∧b≠0∧K (.int k (a.tmod b))
 |.eql=>k=k'∧K (.bool (decide (a=b)))
 |.neq=>k=k'∧K (.bool (decide (a≠b)))
 |.lss=>k=k'∧K (.bool (decide (a<b)))
 |.leq=>k=k'∧K (.bool (decide (a≤b)))
 |.gtr=>k=k'∧K (.bool (decide (b<a)))
 |.geq=>k=k'∧K (.bool (decide (b≤a)))
 |op=>k=k'∧K (.int k (fm op k a b))
theorem z9 {P:Program}{w:World}{op:BinOp}{k k':IntKind}{a b:Int}{K:C→Prop}(t:TypeId)(x y:Operand)(h:FA op k a k' b K):
  ∃c v,K c∧(do eqGuard op t x y (.int k a) (.int k' b);Go.binOp op t (.int k a) (.int k' b):Sem Value).run P w= .ok v w∧∀ρ dom ok,aF ρ dom ok w c v:=by
 have hg:(eqGuard op t x y (.int k a) (.int k' b)).run P w= .ok () w:=by
  unfold eqGuard
  cases op<;>rfl
 rw[Sem.run_bind,hg,Q7]
 cases op<;>simp only[FA]at h
 case shl=>exact⟨_,_,h.2,by simp only[Go.binOp,Op.shift];rw[if_neg (by omega)];rfl,fun _ _ _=>rfl⟩
 case shr=>exact⟨_,_,h.2,by simp only[Go.binOp,Op.shift];rw[if_neg (by omega)];rfl,fun _ _ _=>rfl⟩
 case quo=>
  obtain⟨rfl,h0,hk⟩:=h;exact⟨_,_,hk,by simp only[Go.binOp,Op.intDiv,ne_eq,not_true_eq_false,↓reduceIte];rw[if_neg h0];rfl,fun _ _ _=>rfl⟩
 case rem=>
  obtain⟨rfl,h0,hk⟩:=h;exact⟨_,_,hk,by simp only[Go.binOp,Op.intDiv,ne_eq,not_true_eq_false,↓reduceIte];rw[if_neg h0];rfl,fun _ _ _=>rfl⟩
 case eql=>
  obtain⟨rfl,hk⟩:=h;refine⟨_,_,hk,by simp only[Go.binOp,Op.intCmp,ne_eq,not_true_eq_false,↓reduceIte];rfl,fun _ _ _=>?_⟩;show Value.bool _=Value.bool _
  congr 1
 case neq=>
  obtain⟨rfl,hk⟩:=h;refine⟨_,_,hk,by simp only[Go.binOp,Op.intCmp,ne_eq,not_true_eq_false,↓reduceIte];rfl,fun _ _ _=>?_⟩;show Value.bool _=Value.bool _
  congr 1
  rw[Bool.eq_iff_iff];simp
 all_goals
  obtain⟨rfl,hk⟩:=h;exact⟨_,_,hk,by simp only[Go.binOp,Op.intArith,Op.intCmp,Op.intBits,ne_eq,not_true_eq_false,↓reduceIte];rfl,fun _ _ _=>rfl⟩
theorem ay {P:Program}{w:World}{t:TypeId}{d:TypeDesc}(h:P.underlying t=some d):(underlying t).run P w= .ok d w:=by
 simp[underlying,h]
theorem run_typeInfo {P:Program}{w:World}{t:TypeId}{i:TypeInfo}(h:P.info? t=some i):(typeInfo t).run P w= .ok i w:=by
 simp[typeInfo,h]
theorem run_sizeOf {P:Program}{w:World}{t:TypeId}{i:TypeInfo}(h:P.info? t=some i):(sizeOf t).run P w= .ok i.size w:=by
 simp[sizeOf,run_typeInfo h]
theorem fT {P:Program}{w:World}{t:TypeId}{i:TypeInfo}{z:Value}(h:P.info? t=some i)(hz:i.zero=some z):(zeroValue t).run P w= .ok z w:=by
 simp[zeroValue,run_typeInfo h,hz]
def FB.agg:FB→Option Bool
 |.st _=>some true
 |.arr _ _=>some true
 |.other=>none
 |_=>some false
theorem rD {P:Program}{w:World}{t:TypeId}{d:TypeDesc}{b:Bool}(h:P.underlying t=some d)(hb:(cK P d).agg=some b):(isAgg t).run P w= .ok b w:=by
 unfold isAgg;rw[Sem.run_bind,ay h,Q7]
 cases d<;>simp only[cK]at hb
 case struct fs=>split at hb<;>simp [FB.agg]at hb;subst hb;rfl
 case array=>simp[FB.agg]at hb;subst hb;rfl
 all_goals(simp[FB.agg]at hb;try(subst hb;rfl))
def PF (k:FB)(cs:List C):V:=
 match k with
 |.st _=>.agg cs
 |.arr _ _=>.agg cs
 |.other=>.unk
 |_=>match cs with
  |[c]=>.one c
  |_=>.unk
theorem ko {P:Program}{w:World}(a:Addr):∀(n i:Nat) (acc:Array Value) (us:List Value),us.length=n→
  (∀j u,us[j]? =some u→w.cell? (a.add (i+j))=some u)→(loadCellsFrom a i n acc).run P w= .ok (acc++us.toArray) w
 |0,i,acc,us,hl,_=>by
  obtain rfl:us=[]:=List.eq_nil_of_length_eq_zero hl
  simp[loadCellsFrom]
 |n+1,i,acc,us,hl,hc=>by
  match us,hl,hc with
  |u::us,hl,hc=>
   have h0:=hc 0 u rfl;simp only[Nat.add_zero]at h0;simp only[loadCellsFrom,Sem.run_bind,run_load,h0,Q7];rw[ko a n (i+1) _ us (by simpa using hl) (fun j u' hj=>by
    have:=hc (j+1) u' (by simpa using hj)
    rw[show i+1+j=i+(j+1) by omega];exact this)]
   simp
theorem ku {P:Program}{w:World}(a:Addr)(us:List Value)(hc:∀j u,us[j]? =some u→w.cell? (a.add j)=some u):
  (loadCells a us.length).run P w= .ok us.toArray w:=by
 unfold loadCells;rw[ko a us.length 0 #[] us rfl (by simpa using hc)]
 simp
theorem bJ.length {ρ:Nat→Loc}{dom ok:Nat→Prop}{w:World}:∀{cs:List C} {vs:List Value},bJ ρ dom ok w cs vs→cs.length=vs.length
 |[],[],_=>rfl
 |_::cs,_::vs,h=>by simp[bJ.length h.2]
 |[],_::_,h=>h.elim
 |_::_,[],h=>h.elim
theorem bJ.get {ρ:Nat→Loc}{dom ok:Nat→Prop}{w:World}:∀{cs:List C} {vs:List Value},bJ ρ dom ok w cs vs→∀(j:Nat) c,cs[j]? =some c→∃v,vs[j]? =some v∧aF ρ dom ok w c v
 |[],[],_,j,c,hj=>by simp at hj
 |c0::cs,v0::vs,h,0,c,hj=>by simp at hj;subst hj;exact⟨v0,rfl,h.1⟩
 |c0::cs,v0::vs,h,j+1,c,hj=>by simpa using bJ.get h.2 j c (by simpa using hj)
 |[],_::_,h,_,_,_=>h.elim
 |_::_,[],h,_,_,_=>h.elim
theorem bJ.Ci {ρ:Nat→Loc}{dom ok:Nat→Prop}{w:World}:∀{cs:List C} {vs:List Value},cs.length=vs.length→(∀(j:Nat) c v,cs[j]? =some c→vs[j]? =some v→aF ρ dom ok w c v)→bJ ρ dom ok w cs vs
 |[],[],_,_=>trivial
 |c0::cs,v0::vs,h,hg=>⟨hg 0 c0 v0 rfl rfl,bJ.Ci (by simpa using h) (fun j c v hc hv=>hg (j+1) c v (by simpa using hc) (by simpa using hv))⟩
 |[],_::_,h,_=>by simp at h
 |_::_,[],h,_=>by simp at h
theorem jZ {P:Program}{ρ:Nat→Loc}{dom ok:Nat→Prop}{w:World}{t:TypeId}{i:TypeInfo}{d:TypeDesc}(hi:P.info? t=some i)(hu:P.underlying t=some d)
  (g o:Nat) (cs:List C) (hl:cs.length=i.size) (hk:(cK P d).agg=some true∨((cK P d).agg=some false∧i.size=1))
  (hc:∀j c,cs[j]? =some c→∃u,w.cell? ⟨g,o+j,none⟩=some u∧aF ρ dom ok w c u):
  ∃v,(loadVar t ⟨g,o,none⟩).run P w= .ok v w∧cE ρ dom ok w (PF (cK P d) cs) v:=by
 have key:∀(cs:List C) (o:Nat),(∀j c,cs[j]? =some c→∃u,w.cell? ⟨g,o+j,none⟩=some u∧aF ρ dom ok w c u)→
   ∃us:List Value,us.length=cs.length∧(∀j u,us[j]? =some u→w.cell? ⟨g,o+j,none⟩=some u)∧bJ ρ dom ok w cs us:=by
  intro cs
  induction cs with
  |nil=>intro o _;exact⟨[],rfl,fun j u hj=>by simp at hj,trivial⟩
  |cons c cs ih=>
   intro o h;obtain⟨u,hu,hr⟩:=h 0 c rfl;obtain⟨us,h1,h2,h3⟩:=ih (o+1) (fun j c' hj=>by
    obtain⟨u',S4,XA⟩:=h (j+1) c' (by simpa using hj);exact⟨u',by rw[show o+1+j=o+(j+1) by omega];exact S4,XA⟩)
   refine⟨u::us,by simp[h1],fun j u' hj=>?_,hr,h3⟩
   cases j with
   |zero=>simp at hj;subst hj;exact hu
   |succ j=>have:=h2 j u' (by simpa using hj);rw[show o+1+j=o+(j+1) by omega]at this;exact this
 obtain⟨us,h1,h2,h3⟩:=key cs o hc
 have hadd:∀j,(⟨g,o,none⟩:Addr).add j=⟨g,o+j,none⟩:=fun j=>by unfold Addr.add;split<;>simp_all
 rcases hk with hk|⟨hk,h1s⟩
 ·refine⟨.agg us.toArray,?_,?_⟩
  ·unfold loadVar;rw[Sem.run_bind,rD hu hk,Q7];simp only[↓reduceIte,Sem.run_bind,run_sizeOf hi,Q7];rw[←hl,←h1,ku _ us (fun j u hj=>by rw[hadd];exact h2 j u hj)];rfl
  cases hd:cK P d<;>rw [hd]at hk<;>simp [FB.agg]at hk<;>exact ⟨us.toArray,rfl,h3⟩
 have UG:cs.length=1:=by omega
 match cs,us,UG,h1,h2,h3 with
 |[c],[u],_,_,h2,h3=>
  refine⟨u,?_,?_⟩
  ·unfold loadVar;rw[Sem.run_bind,rD hu hk,Q7]
   have:=h2 0 u rfl
   simp only[Nat.add_zero]at this;simp only[Bool.false_eq_true,↓reduceIte,run_load,this]
  cases hd:cK P d<;>rw [hd]at hk<;>simp [FB.agg]at hk<;>exact h3.1
end Go.Eng
namespace Go.Eng
open Go
def V.oI:V→Bool
 |.one _=>true
 |.agg _=>true
 |_=>false
def cellsOf:V→List C
 |.one c=>[c]
 |.agg cs=>cs
 |_=>[]
section
variable {ρ:Nat→Loc}{dom ok:Nat→Prop}{w:World}
theorem aQ.plain {c:C}{v:Value}(h:aQ ok w c v):v.oneCell'=true∧v.cells= #[v]:=by
 cases c with
 |any=>
  have h:v.oneCell'=true:=h;refine⟨h,?_⟩
  cases v<;>first|rfl|simp [Value.oneCell']at h
 |bool b=>cases h;exact⟨rfl,rfl⟩
 |int k n=>cases h;exact⟨rfl,rfl⟩
 |str s=>cases h;exact⟨rfl,rfl⟩
 |nil=>cases h;exact⟨rfl,rfl⟩
 |ints k xs=>obtain⟨a,cap,rfl,_⟩:=h;exact⟨rfl,rfl⟩
 |rows wd n f=>obtain⟨a,cap,rfl,_⟩:=h;exact⟨rfl,rfl⟩
 |own b wd off len=>exact h.elim
 |win b b2 off len=>exact h.elim
 |ptr b off=>exact h.elim
 |elt s wd i off=>obtain⟨g,o,n,cap,_,_,rfl⟩:=h;exact⟨rfl,rfl⟩
 |eptr b wd i off=>exact h.elim
 |fn f n caps=>obtain⟨cs,rfl,_⟩:=h;exact⟨rfl,rfl⟩
theorem aF.plain {c:C}{v:Value}(h:aF ρ dom ok w c v):v.oneCell'=true∧v.cells= #[v]:=by
 cases c with
 |own b wd off len=>
  obtain⟨_,_,cap,_,h⟩:=h
  rcases h with⟨g,o,o',_,rfl,_⟩|⟨_,rfl,_⟩<;>exact ⟨rfl,rfl⟩
 |win b b2 off len=>
  obtain⟨_,_,_,cap,_,h⟩:=h
  rcases h with⟨g,o,o',_,rfl,_⟩|⟨_,rfl,_⟩<;>exact ⟨rfl,rfl⟩
 |ptr b off=>obtain⟨_,g,o,_,rfl⟩:=h;exact⟨rfl,rfl⟩
 |eptr b wd i off=>obtain⟨_,_,g,o,_,rfl⟩:=h;exact⟨rfl,rfl⟩
 |fn f n caps=>obtain⟨cs,rfl,_⟩:=h;exact⟨rfl,rfl⟩
 |any=>exact aQ.plain (ok:=ok) (w:=w) (c:=.any) h
 |bool b=>exact aQ.plain (ok:=ok) (w:=w) (c:=.bool b) h
 |int k n=>exact aQ.plain (ok:=ok) (w:=w) (c:=.int k n) h
 |str s=>exact aQ.plain (ok:=ok) (w:=w) (c:=.str s) h
 |nil=>exact aQ.plain (ok:=ok) (w:=w) (c:=.nil) h
 |ints k xs=>exact aQ.plain (ok:=ok) (w:=w) (c:=.ints k xs) h
 |rows wd n f=>exact aQ.plain (ok:=ok) (w:=w) (c:=.rows wd n f) h
 |elt s wd i off=>exact aQ.plain (ok:=ok) (w:=w) (c:=.elt s wd i off) h
theorem cE.cells {x:V}{v:Value}(h:cE ρ dom ok w x v)(hx:x.oI=true):bJ ρ dom ok w (cellsOf x) v.cells.toList:=by
 cases x with
 |one c=>
  have h':aF ρ dom ok w c v:=h;rw[(aF.plain h').2];exact⟨h',trivial⟩
 |agg cs=>obtain⟨vs,rfl,hl⟩:=h;exact hl
 |aB xs=>simp[V.oI]at hx
 |unk=>simp[V.oI]at hx
end
def lI (cs:List C)(off:Nat)(l:List C):List C:=cs.take off++(l++cs.drop (off+l.length))
theorem uN (cs:List C)(off:Nat)(l:List C)(h:off+l.length≤cs.length)(j:Nat):
  (lI cs off l)[j]? =if off≤j∧j<off+l.length then l[j-off]? else cs[j]? :=by
 unfold lI;rw[List.getElem?_append,List.getElem?_append,X5]
 by_cases h1:j<off
 ·rw[if_pos (by omega),if_neg (by omega),List.getElem?_take,if_pos h1]
 rw[if_neg (by omega)]
 by_cases h2:j<off+l.length
 ·rw[if_pos (by omega),if_pos (by omega)]
  congr 1;omega
 rw[if_neg (by omega),if_neg (by omega),List.getElem?_drop]
 congr 1;omega
theorem oH (cs:List C)(off:Nat)(l:List C)(h:off+l.length≤cs.length):(lI cs off l).length=cs.length:=by
 unfold lI;simp;omega
def ju (fs:List (Nat×Nat))(cells:List C):List (Nat×V)→Option (List C)
 |[]=>some cells
 |(i,x)::rest=>
  match fs[i]? with
  |none=>none
  |some (off,size)=>if x.oI=true∧(cellsOf x).length=size∧off+size≤cells.length then ju fs (lI cells off (cellsOf x)) rest else none
theorem AA (off:Nat):∀(l:List Value) (k:Nat) (cells:Array Value),off+k+l.length≤cells.size→
  ((l.zipIdx k).foldl (fun cs (p:Value×Nat)=>cs.setIfInBounds (off+p.2) p.1) cells).size=cells.size∧
  ∀m:Nat,((l.zipIdx k).foldl (fun cs (p:Value×Nat)=>cs.setIfInBounds (off+p.2) p.1) cells)[m]? =if off+k≤m∧m<off+k+l.length then l[m-(off+k)]? else cells[m]?
 |[],k,cells,_=>⟨rfl,fun m=>by rw[if_neg (by simp)];rfl⟩
 |v::l,k,cells,h=>by
  have ih:=AA off l (k+1) (cells.setIfInBounds (off+k) v) (by simp at h⊢;omega);rw[List.zipIdx_cons,List.foldl_cons];refine⟨by simpa using ih.1,fun m=>?_⟩;rw[ih.2 m];simp only[List.length_cons]at h⊢
  by_cases h1:off+k=m
  ·subst h1;have SI:off+k<cells.size:=by omega
   rw[if_neg (by omega),if_pos (by omega)]
   simp[SI]
  by_cases h2:off+(k+1)≤m∧m<off+(k+1)+l.length
  ·rw[if_pos h2,if_pos (by omega)];obtain⟨q,hq⟩:∃q,m=off+k+1+q:=⟨m-(off+k+1),by omega⟩;subst hq;rw[show off+k+1+q-(off+(k+1))=q by omega,show off+k+1+q-(off+k)=q+1 by omega,List.getElem?_cons_succ]
  rw[if_neg h2,if_neg (by omega),Array.getElem?_setIfInBounds_ne h1]
section
variable {ρ:Nat→Loc}{dom ok:Nat→Prop}{w:World}
def LR (ρ:Nat→Loc)(dom ok:Nat→Prop)(w:World):List (Nat×V)→List (Nat×Value)→Prop
 |[],[]=>True
 |(i,x)::xs,(j,v)::vs=>i=j∧cE ρ dom ok w x v∧LR ρ dom ok w xs vs
 |_,_=>False
theorem qo {place:Nat→Option (Nat×Nat)}{fs:List (Nat×Nat)}(hp:∀i p,fs[i]? =some p→place i=some p):∀(xs:List (Nat×V)) (vs:List (Nat×Value)) (cs:List C) (cells:Array Value) (out:List C),
  LR ρ dom ok w xs vs→bJ ρ dom ok w cs cells.toList→ju fs cs xs=some out→∃cells',Instr.fill place cells vs=some cells'∧bJ ρ dom ok w out cells'.toList
 |[],[],cs,cells,out,_,hl,hf=>by
  simp only[ju,Q6]at hf;subst hf;exact⟨cells,rfl,hl⟩
 |(i,x)::xs,(j,v)::vs,cs,cells,out,hr,hl,hf=>by
  obtain⟨rfl,hx,hr⟩:=hr;simp only[ju]at hf
  cases hi:fs[i]? with
  |none=>rw[hi]at hf;simp at hf
  |some p=>
   obtain⟨off,size⟩:=p;rw[hi]at hf;simp only at hf
   split at hf
   ·rename_i hc
    obtain⟨hs,hn,hle⟩:=hc;have Ta:=cE.cells hx hs;have hlen:=bJ.length Ta;have hlen2:=bJ.length hl;simp only[Array.length_toList]at hlen hlen2;have ZG:=AA off v.cells.toList 0 cells (by simp;omega);simp only[Nat.add_zero]at ZG;have hfold:v.cells.zipIdx.foldl (fun cs (p:Value×Nat)=>cs.setIfInBounds (off+p.2) p.1) cells=(v.cells.toList.zipIdx 0).foldl (fun cs (p:Value×Nat)=>cs.setIfInBounds (off+p.2) p.1) cells:=by
     rw[←Array.foldl_toList,Array.toList_zipIdx]
    have SK:bJ ρ dom ok w (lI cs off (cellsOf x)) ((v.cells.toList.zipIdx 0).foldl (fun cs (p:Value×Nat)=>cs.setIfInBounds (off+p.2) p.1) cells).toList:=by
     refine bJ.Ci ?_ ?_
     ·rw[oH _ _ _ (by omega)];simp only[Array.length_toList,ZG.1];omega
     intro m c u hc hu;rw[uN _ _ _ (by omega)]at hc;rw[Array.getElem?_toList,ZG.2 m]at hu;simp only[Array.length_toList]at hu
     by_cases hm:off≤m∧m<off+(cellsOf x).length
     ·rw[if_pos hm]at hc;rw[if_pos (by omega)]at hu;obtain⟨u',S4,XA⟩:=bJ.get Ta _ _ hc;rw[S4]at hu;obtain rfl:=Option.some.inj hu;exact XA
     rw[if_neg hm]at hc;rw[if_neg (by omega)]at hu;obtain⟨u',S4,XA⟩:=bJ.get hl _ _ hc;rw[Array.getElem?_toList,hu]at S4;obtain rfl:=Option.some.inj S4;exact XA
    obtain⟨cells',h1,h2⟩:=qo hp xs vs _ _ out hr SK hf;refine⟨cells',?_,h2⟩;simp only[Instr.fill,hp i _ hi];rw[if_neg (by simp;omega),hfold];exact h1
   simp at hf
 |[],_::_,_,_,_,h,_,_=>h.elim
 |_::_,[],_,_,_,h,_,_=>h.elim
end
end Go.Eng
namespace Go.Eng
open Go
abbrev fS:=Nat→Option Ty
def eN (P:Program)(T:fS):Prop:=∀t X,T t=some X→dU P t=some X
def bm:Nat→Loc:=fun _=>⟨none,0⟩
def bo:Nat→Prop:=fun _=>False
def gY (P:Program)(f:FuncId):Prop:=∃fn,P.funcs[f]? =some fn∧fn.body.isNone=false∧(fn.name== "runtime.NumGoroutine")=false
def Pr (P:Program)(f:FuncId)(args:List V)(r:V):Prop:=
 gY P f∧∀(ok:Nat→Prop) (w:World) (vs:Array Value),(∀g,ok g→g<w.heap.size)→a8 bm bo ok w args vs.toList→
  Calls P f vs w fun e w'=>∃v,e= .returned v∧Go.RowKit.Below w.heap.size w w'∧cE bm bo (fun g=>ok g∨(w.heap.size≤g∧g<w'.heap.size)) w' r v
def Bk.flat:Bk→Prop
 |.var _=>False
 |.wins .. =>False
 |_=>True
def Bk.wd:Bk→Nat
 |.ints _ _ _=>1
 |.rows _ w _ _=>w
 |.var _=>0
 |.wins .. =>1
def ni:C→Prop
 |.bool _=>True
 |.int _ _=>True
 |_=>False
def Fr (P:Program)(f:FuncId)(args:List V)(B:Bk):Prop:=
 gY P f∧B.flat∧∀(ok:Nat→Prop) (w:World) (vs:Array Value),(∀g,ok g→g<w.heap.size)→a8 bm bo ok w args vs.toList→
  Calls P f vs w fun e w'=>∃v l,e= .returned v∧Go.RowKit.Below w.heap.size w w'∧l.len=B.len∧(∀g o,l.addr=some (g,o)→w.heap.size≤g∧g<w'.heap.size)∧
   aM bm bo (fun g=>ok g∨(w.heap.size≤g∧g<w'.heap.size∧∀o,l.addr≠some (g,o))) w' l B∧eE (fun _=>l) (fun _=>True) (fun _=>False) w' (.own 0 B.wd 0 B.len) v
def dK (P:Program)(f:FuncId)(args:List V)(B:Bk)(c:C):Prop:=
 ni c∧gY P f∧B.flat∧∀(ok:Nat→Prop) (w:World) (vs:Array Value),(∀g,ok g→g<w.heap.size)→a8 bm bo ok w args vs.toList→
  Calls P f vs w fun e w'=>∃v u l,e= .returned (.tuple #[v,u])∧Go.RowKit.Below w.heap.size w w'∧l.len=B.len∧(∀g o,l.addr=some (g,o)→w.heap.size≤g∧g<w'.heap.size)∧
   aM bm bo (fun g=>ok g∨(w.heap.size≤g∧g<w'.heap.size∧∀o,l.addr≠some (g,o))) w' l B∧eE (fun _=>l) (fun _=>True) (fun _=>False) w' (.own 0 B.wd 0 B.len) v∧aF bm bo (fun _=>False) w' c u
def eQ {α:Type}(p:α→Prop)(a:α):Prop:=p a
theorem Lg {α:Type}{p:α→Prop}{a:α}(h:p a):eQ p a:=h
def bD (f:Nat→C):Nat→Nat→List C
 |_,0=>[]
 |off,n+1=>f off::bD f (off+1) n
def mg:C→Nat→Nat→C
 |.ints k xs,i,_=>.int k (xs.getD i 0)
 |.rows _ _ f,i,j=>f i j
 |_,_,_=>.any
def Ja:C→Nat
 |.ints _ _=>1
 |.rows w _ _=>w
 |_=>0
def oG:Bk→Nat→Nat→C
 |.ints _ k xs,i,_=>.int k (xs.getD i 0)
 |.rows _ _ _ f,i,j=>f i j
 |.var _,_,_=>.any
 |.wins _ _ _ g,i,_=>g i
def MA:Bk→Nat
 |.ints _ _ _=>1
 |.rows _ w _ _=>w
 |.var _=>0
 |.wins .. =>1
def gq (B:Bk)(wd off len:Nat):C:=
 match B with
 |.ints _ k xs=>if wd=1 then .ints k ((xs.drop off).take len)else .any
 |.rows _ w _ f=>if w=wd then .rows w len (fun i j=>f (off+i) j)else .any
 |.var _=>.any
 |.wins .. =>.any
def PY:C→C
 |.own _ _ _ _=>.any
 |.win _ _ _ _=>.any
 |.ptr _ _=>.any
 |.eptr _ _ _ _=>.any
 |.fn _ _ _=>.any
 |c=>c
def QZ (B:Bk)(off:Nat):C:=
 match B with
 |.var cs=>.elt (.rows cs.length 1 (fun _ j=>PY (cs.getD j .any))) cs.length 0 off
 |_=>.any
def Q8 (own:List (Nat×fI))(b2:Nat):C→C
 |.own b w o l=>if b=b2 then(match lo own b with|some B=>gq B.bk w o l|none=>.any)else .any
 |.any=>.any
 |.bool b=>.bool b
 |.int k n=>.int k n
 |.str s=>.str s
 |.nil=>.nil
 |.ints k xs=>.ints k xs
 |.rows w n f=>.rows w n f
 |_=>.any
def Ku (own:List (Nat×fI))(b2:Nat)(B:Bk)(off len:Nat):C:=
 match B with
 |.wins _ b3 _ g=>if b3=b2 then .rows 1 len (fun i _=>Q8 own b2 (g (off+i)))else .any
 |_=>.any
def jU (own:List (Nat×fI))(nx0:Nat):C→C
 |.own b wd off len=>if b<nx0 then(match lo own b with|some B=>gq B.bk wd off len|none=>.any)else .any
 |.win b b2 off len=>if b<nx0 then(if b2<nx0 then(match lo own b with|some B=>Ku own b2 B.bk off len|none=>.any)else .any)else .any
 |.ptr b off=>if b<nx0 then(match lo own b with|some B=>QZ B.bk off|none=>.any)else .any
 |.eptr _ _ _ _=>.any
 |.fn f n _=>if n=0 then .fn f 0 (fun _=>.any)else .any
 |c=>c
def Cw (own:List (Nat×fI))(nx0:Nat):V→V
 |.one c=>.one (jU own nx0 c)
 |.agg cs=>.agg (cs.map (jU own nx0))
 |_=>.unk
def gz:C→List Nat
 |.own b _ _ _=>[b]
 |.win b b2 _ _=>[b,b2]
 |.ptr b _=>[b]
 |_=>[]
def kP:V→List Nat
 |.one c=>gz c
 |.agg cs=>cs.flatMap gz
 |_=>[]
def gp:C→Bool
 |.any=>true
 |.bool _=>true
 |.int _ _=>true
 |.str _=>true
 |.nil=>true
 |_=>false
def od:V→Bool
 |.unk=>true
 |.one c=>gp c
 |.agg cs=>cs.all gp
 |.aB vs=>vs.all fun|.one c=>gp c|.agg cs=>cs.all gp|.unk=>true|.aB _=>false
def I0 (E:Ty):Prop:=E.k.agg=some true∨(E.k.agg=some false∧E.size=1)
def zp (T:fS)(s:St)(nx0:Nat)(t:TypeId)(x:Operand)(K:eX→Prop):Prop:=
 match T t with
 |some E=>match s.ev x with
  |.one (.ptr b off)=>b<nx0∧match lo s.own b with
   |some B=>match B.bk with
    |.var cs=>off+E.size≤cs.length∧I0 E∧K ⟨PF E.k ((cs.drop off).take E.size),none,[]⟩
    |_=>False
   |none=>False
  |.one (.elt c wd i off)=>Ja c=wd∧off+E.size≤wd∧I0 E∧K ⟨PF E.k (bD (mg c i) off E.size),none,[]⟩
  |.one (.eptr b wd i off)=>b<nx0∧match lo s.own b with
   |some B=>MA B.bk=wd∧off+E.size≤wd∧I0 E∧K ⟨PF E.k (bD (oG B.bk i) off E.size),none,[]⟩
   |none=>False
  |_=>False
 |none=>False
def l6 (k:IntKind):List C→Option (List Int)
 |[]=>some []
 |.int k' n::r=>if k'=k then(l6 k r).map (n:: ·)else none
 |_::_=>none
def fk (z:List C):Nat→List C
 |0=>[]
 |n+1=>z++fk z n
def gr (size:Nat):Nat→Nat→List (Nat×Nat)
 |_,0=>[]
 |i,n+1=>(i*size,size)::gr size (i+1) n
def Dw (E:Ty)(e:TypeId)(id:Nat)(fz:Bool)(len:Nat)(cs:List C)(ids:List Nat)(K:eX→Prop):Prop:=
 match E.k with
 |.int k=>match l6 k cs with
  |some xs=>if fz then K ⟨.one (.ints k xs),none,ids⟩else K ⟨.one (.own id 1 0 len),some (.ints e k xs),ids⟩
  |none=>False
 |_=>if fz then K ⟨.one (.rows E.size len (fun i j=>cs.getD (i*E.size+j) .any)),none,ids⟩
  else K ⟨.one (.own id E.size 0 len),some (.rows e E.size len (fun i j=>cs.getD (i*E.size+j) .any)),ids⟩
def ML (own:List (Nat×fI)):Bool:=match lo own 999 with
 |some ⟨.wins _ _ _ _,_⟩=>true
 |_=>false
def Dn:Option (List C)→Option (Nat×Nat×Nat×Nat)
 |some [.own b w o l]=>some (b,w,o,l)
 |_=>none
def iq (T:fS)(s:St)(nx0 id:Nat)(fz:Bool)(t:TypeId)(len:Nat)(parts:Array (Nat×Operand))(K:eX→Prop):Prop:=
 match T t with
 |some S=>match S.k with
  |.sl e=>match T e with
   |some E=>E.zero.length=E.size∧len*E.size≤16777216∧(match E.k with|.int _=>E.size=1|_=>0<E.size)∧
     match(if ML s.own then Dn (ju (gr E.size 0 len) (fk E.zero len) (parts.toList.map fun p=>(p.1,s.ev p.2)))else none)with
     |some (b,w,o,l)=>len=1∧E.size=1∧K ⟨.one (.win id b 0 1),some (.wins e b 1 (fun _=>.own b w o l)),[]⟩
     |none=>match ju (gr E.size 0 len) (fk E.zero len) (parts.toList.map fun p=>(p.1,Cw s.own nx0 (s.ev p.2)))with
      |some cs=>Dw E e id fz len cs ((parts.toList.map fun p=>kP (s.ev p.2)).flatten.filter (fun b=>decide (b<nx0))) K
      |none=>False
   |none=>False
  |_=>False
 |none=>False
def jC (T:fS)(s:St)(id:Nat)(fz:Bool)(t:TypeId)(l c:Operand)(K:eX→Prop):Prop:=
 match T t with
 |some S=>match S.k with
  |.sl e=>match T e with
   |some E=>match s.ev l,s.ev c with
    |.one (.int _ l),.one (.int _ c)=>E.zero.length=E.size∧0<E.size∧(0≤l∧l≤c∧c*E.bytes≤281474976710656∧c≤9223372036854775807)∧
     match E.k with
     |.int k=>E.zero=[.int k 0]∧if fz=true then(if k= .i64 then K ⟨.one (.ints k (List.replicate l.toNat 0)),none,[]⟩else K ⟨.one (.own id 1 0 l.toNat),some (.ints e k (List.replicate c.toNat 0)),[]⟩)else K ⟨.one (.own id 1 0 l.toNat),some (.ints e k (List.replicate c.toNat 0)),[]⟩
     |_=>K ⟨.one (.own id E.size 0 l.toNat),some (.rows e E.size c.toNat (fun _ j=>E.zero.getD j .any)),[]⟩
    |_,_=>False
   |none=>False
  |_=>False
 |none=>False
def sP (s:St)(x:Option Operand)(d:Int)(K:Int→Prop):Prop:=
 match x with
 |none=>K d
 |some x=>match s.ev x with
  |.one (.int _ i)=>K i
  |_=>False
def sZ (T:fS)(s:St)(t:TypeId)(x:Operand)(lo hi:Option Operand)(m:Operand)(K:eX→Prop):Prop:=
 match T t with
 |some S=>match S.k with
  |.sl e=>match T e with
   |some E=>match s.ev x with
    |.one (.own b wd off len)=>wd=E.size∧match hi with
     |some y=>sP s lo 0 fun l=>sP s (some y) len fun h=>sP s (some m) len fun k=>(0≤l∧l≤h∧h≤k∧k≤len)∧K ⟨.one (.own b wd (off+l.toNat) (h-l).toNat),none,[]⟩
     |none=>False
    |_=>False
   |none=>False
  |_=>False
 |none=>False
def uW (T:fS)(s:St)(t:TypeId)(x:Operand)(lo hi mx:Option Operand)(K:eX→Prop):Prop:=
 match mx with
 |some m=>sZ T s t x lo hi m K
 |none=>match T t with
 |some S=>match S.k with
  |.sl e=>match T e with
   |some E=>match s.ev x with
    |.one (.own b wd off len)=>wd=E.size∧sP s lo 0 fun l=>sP s hi len fun h=>(0≤l∧l≤h∧h≤len)∧K ⟨.one (.own b wd (off+l.toNat) (h-l).toNat),none,[]⟩
    |.one (.win b b2 off len)=>1=E.size∧sP s lo 0 fun l=>sP s hi len fun h=>(0≤l∧l≤h∧h≤len)∧K ⟨.one (.win b b2 (off+l.toNat) (h-l).toNat),none,[]⟩
    |.one (.ints k xs)=>1=E.size∧sP s lo 0 fun l=>sP s hi xs.length fun h=>(0≤l∧l≤h∧h≤xs.length)∧K ⟨.one (.ints k ((xs.drop l.toNat).take (h-l).toNat)),none,[]⟩
    |.one (.rows wd n f)=>wd=E.size∧sP s lo 0 fun l=>sP s hi n fun h=>(0≤l∧l≤h∧h≤n)∧K ⟨.one (.rows wd (h-l).toNat (fun i j=>f (l.toNat+i) j)),none,[]⟩
    |.one .nil=>sP s lo 0 fun l=>sP s hi 0 fun h=>(l=0∧h=0)∧K ⟨.one .nil,none,[]⟩
    |_=>False
   |none=>False
  |.str=>match s.ev x with
   |.one (.str b)=>sP s lo 0 fun l=>sP s hi b.size fun h=>(0≤l∧l≤h∧h≤b.size)∧K ⟨.one (.str (b.extract l.toNat h.toNat)),none,[]⟩
   |_=>False
  |_=>False
 |none=>False
def jH (T:fS)(s:St)(t:TypeId)(x:Operand)(f:Nat)(K:eX→Prop):Prop:=
 match T t with
 |some E=>match E.k with
  |.st fs=>match fs[f]? with
   |some (fo,fsz)=>0<fsz∧match s.ev x with
    |.one (.ptr b off)=>K ⟨.one (.ptr b (off+fo)),none,[]⟩
    |.one (.elt c wd i off)=>K ⟨.one (.elt c wd i (off+fo)),none,[]⟩
    |.one (.eptr b wd i off)=>K ⟨.one (.eptr b wd i (off+fo)),none,[]⟩
    |_=>False
   |none=>False
  |_=>False
 |none=>False
def jy (T:fS)(s:St)(t:TypeId)(x i:Operand)(K:eX→Prop):Prop:=
 match T t with
 |some S=>match S.k with
  |.sl e=>match T e with
   |some E=>match s.ev i with
    |.one (.int _ i)=>match s.ev x with
     |.one (.own b wd off len)=>wd=E.size∧0<E.size∧(0≤i∧i<len)∧K ⟨.one (.eptr b wd (off+i.toNat) 0),none,[]⟩
     |.one (.win b _ off len)=>1=E.size∧(0≤i∧i<len)∧K ⟨.one (.eptr b 1 (off+i.toNat) 0),none,[]⟩
     |.one (.ints k xs)=>1=E.size∧(0≤i∧i<xs.length)∧K ⟨.one (.elt (.ints k xs) 1 i.toNat 0),none,[]⟩
     |.one (.rows wd n f)=>wd=E.size∧0<E.size∧(0≤i∧i<n)∧K ⟨.one (.elt (.rows wd n f) wd i.toNat 0),none,[]⟩
     |_=>False
    |_=>False
   |none=>False
  |.arr n e=>match T e with
   |some E=>match s.ev i with
    |.one (.int _ i)=>match s.ev x with
     |.one (.ptr b off)=>(0≤i∧i<n)∧K ⟨.one (.ptr b (off+i.toNat*E.size)),none,[]⟩
     |_=>False
    |_=>False
   |none=>False
  |_=>False
 |none=>False
def xn (a b:ByteArray):Bool:=a.toList==b.toList
def Iz (b:ByteArray)(i:Nat):Int:=((b[i]?.getD 0).toNat:Int)
def mU (T:fS)(s:St)(src dst:TypeId)(x:Operand)(K:eX→Prop):Prop:=
 match T src,T dst with
 |some S,some D=>match D.k with
  |.int k=>match s.ev x with
   |.one (.int _ n)=>K ⟨.one (.int k (k.wrap n)),none,[]⟩
   |_=>False
  |.str=>match S.k with
   |.sl e=>match T e with
    |some E=>match E.k with
     |.int k=>k= .u8∧match s.ev x with
      |.one (.ints k' xs)=>k'= .u8∧K ⟨.one (.str (strOfNums xs)),none,[]⟩
      |_=>False
     |_=>False
    |none=>False
   |_=>False
  |_=>False
 |_,_=>False
def tU (T:fS)(s:St)(t:TypeId)(x i:Operand)(K:eX→Prop):Prop:=
 match T t with
 |some E=>match E.k with
  |.str=>match s.ev i with
   |.one (.int _ i)=>match s.ev x with
    |.one (.str b)=>(0≤i∧i<b.size)∧K ⟨.one (.int .u8 (Iz b i.toNat)),none,[]⟩
    |_=>False
   |_=>False
  |_=>False
 |none=>False
def OF (op:BinOp)(a b:ByteArray)(K:C→Prop):Prop:=
 match op with
 |.add=>((a.size+b.size:Nat):Int)≤9223372036854775807∧K (.str (a++b))
 |.eql=>K (.bool (xn a b))
 |.neq=>K (.bool (!xn a b))
 |_=>False
def Iq (T:fS)(s:St)(op:BinOp)(t:TypeId)(x y:Operand)(K:eX→Prop):Prop:=
 match s.ev x,s.ev y with
 |.one (.int k a),.one (.int k' b)=>FA op k a k' b fun c=>K ⟨.one c,none,[]⟩
 |.one (.bool a),.one (.bool b)=>match T t with
  |some E=>match E.k with
   |.bool=>match op with
    |.eql=>K ⟨.one (.bool (a==b)),none,[]⟩
    |.neq=>K ⟨.one (.bool (a !=b)),none,[]⟩
    |_=>False
   |_=>False
  |none=>False
 |.one (.str a),.one (.str b)=>OF op a b fun c=>K ⟨.one c,none,[]⟩
 |_,_=>False
def P0 (s:St)(op:UnOp)(x:Operand)(K:eX→Prop):Prop:=
 match op,s.ev x with
 |.not,.one (.bool b)=>K ⟨.one (.bool (!b)),none,[]⟩
 |.neg,.one (.int k n)=>K ⟨.one (.int k (k.wrap (0-n))),none,[]⟩
 |_,_=>False
def iI:C→Option Nat
 |.own _ _ _ len=>some len
 |.win _ _ _ len=>some len
 |.ints _ xs=>some xs.length
 |.rows _ n _=>some n
 |.nil=>some 0
 |_=>none
def N4:V→V→Option V
 |.one (.int k x),.one (.int _ y)=>some (.one (.int k (if x<y then y else x)))
 |_,_=>none
def E4:V→V→Option V
 |.one (.int k x),.one (.int _ y)=>some (.one (.int k (if y<x then y else x)))
 |_,_=>none
def mT (T:fS)(s:St)(b:Builtin)(args:List Operand)(tys:List TypeId)(K:eX→Prop):Prop:=
 match b,args,tys with
 |.len,[x],[t]=>match T t with
  |some E=>match E.k with
   |.sl _=>match s.ev x with
    |.one c=>match iI c with
     |some n=>K ⟨.one (.int .i64 n),none,[]⟩
     |none=>False
    |_=>False
   |.str=>match s.ev x with
    |.one (.str b)=>K ⟨.one (.int .i64 b.size),none,[]⟩
    |_=>False
   |_=>False
  |none=>False
 |.max,[x,y],_=>match N4 (s.ev x) (s.ev y)with
  |some v=>K ⟨v,none,[]⟩
  |none=>False
 |.min,[x,y],_=>match E4 (s.ev x) (s.ev y)with
  |some v=>K ⟨v,none,[]⟩
  |none=>False
 |.min,[x,y,z],_=>match E4 (s.ev x) (s.ev y)with
  |some v=>match E4 v (s.ev z)with
   |some u=>K ⟨u,none,[]⟩
   |none=>False
  |none=>False
 |_,_,_=>False
def tu (T:fS)(s:St)(t:TypeId)(x:Operand)(f:Nat)(K:eX→Prop):Prop:=
 match T t with
 |some E=>match E.k with
  |.st fs=>match fs[f]? with
   |some (fo,fsz)=>match s.ev x with
    |.agg cs=>E.fl[f]? =some true∧fsz=1∧fo<cs.length∧K ⟨.one (cs.getD fo .any),none,[]⟩
    |_=>False
   |none=>False
  |_=>False
 |none=>False
def rV:V→Bool
 |.one c=>match c with
  |.fn _ _ _=>false
  |_=>true
 |_=>false
def DK:V→C
 |.one c=>c
 |_=>.any
def mC (n:Nat)(caps:Nat→C):List V:=(List.range n).map fun i=>.one (caps i)
def Oe (own:List (Nat×fI))(nx0:Nat):C→C
 |.fn _ _ _=>.any
 |c=>jU own nx0 c
def D0 (own:List (Nat×fI))(nx0:Nat):V→V
 |.one (.fn f n caps)=>.one (if n=0 then .fn f 0 (fun _=>.any)else .fn f n (fun i=>Oe own nx0 (caps i)))
 |x=>Cw own nx0 x
def p9:V→List Nat
 |.one (.fn _ n caps)=>if n=0 then[]else if n=1 then gz (caps 0)else(List.range n).flatMap fun i=>gz (caps i)
 |x=>kP x
def wU (P:Program)(s:St)(nx0 id:Nat)(g:Operand)(args:List Operand)(K:eX→Prop):Prop:=
 match s.ev g with
 |.one (.fn f n caps)=>((∃r,Pr P f ((args.map s.ev++mC n caps).map (D0 s.own nx0)) r∧
   eQ K ⟨r,none,if od r then[]else((args.map s.ev++mC n caps).map p9).flatten.filter (fun b=>decide (b<nx0))⟩)∨
   (∃B,Fr P f ((args.map s.ev++mC n caps).map (D0 s.own nx0)) B∧eQ K ⟨.one (.own id B.wd 0 B.len),some B,((args.map s.ev++mC n caps).map p9).flatten.filter (fun b=>decide (b<nx0))⟩)∨
   (∃B c,dK P f ((args.map s.ev++mC n caps).map (D0 s.own nx0)) B c∧eQ K ⟨.aB [.one (.own id B.wd 0 B.len),.one c],some B,((args.map s.ev++mC n caps).map p9).flatten.filter (fun b=>decide (b<nx0))⟩))
 |_=>False
def eR (T:fS)(P:Program)(op:Op)(s:St)(nx0 id:Nat)(fz:Bool)(K:eX→Prop):Prop:=
 match op with
 |.move x=>K ⟨s.ev x,none,[]⟩
 |.assign x=>K ⟨s.ev x,none,[]⟩
 |.pick c a b=>match s.ev c with
  |.one (.bool t)=>K ⟨if t then s.ev a else s.ev b,none,[]⟩
  |_=>False
 |.alloc e=>match T e with
  |some E=>K ⟨.one (.ptr id 0),some (.var E.zero),[]⟩
  |none=>False
 |.box _ x=>(s.ev x).oI=true∧K ⟨.one (.ptr id 0),some (.var (cellsOf (s.ev x))),[]⟩
 |.build t parts=>match T t with
  |some E=>match E.k with
   |.st fs=>match ju fs E.zero (parts.toList.map fun p=>(p.1,s.ev p.2))with
    |some cs=>K ⟨.agg cs,none,[]⟩
    |none=>False
   |_=>False
  |none=>False
 |.buildSlice t len parts=>iq T s nx0 id fz t len parts K
 |.field t x f=>tu T s t x f K
 |.load t x=>zp T s nx0 t x K
 |.binOp op t x y _=>Iq T s op t x y K
 |.unOp op _ x=>P0 s op x K
 |.convert src dst x=>mU T s src dst x K
 |.makeSlice t l c=>jC T s id fz t l c K
 |.slice t x lo hi mx=>uW T s t x lo hi mx K
 |.fieldAddr t x f=>jH T s t x f K
 |.indexAddr t x i=>jy T s t x i K
 |.index t x i=>tU T s t x i K
 |.extract x i=>match s.ev x with
  |.aB vs=>match vs[i]? with
   |some v=>K ⟨v,none,[]⟩
   |none=>False
  |_=>False
 |.nilCheck x=>match s.ev x with
  |.one (.ptr b off)=>K ⟨.one (.ptr b off),none,[]⟩
  |.one (.elt c wd i off)=>K ⟨.one (.elt c wd i off),none,[]⟩
  |.one (.eptr b wd i off)=>K ⟨.one (.eptr b wd i off),none,[]⟩
  |_=>False
 |.makeFunc fn first captured=>match fn,first.size with
  |.func f,0=>(captured.toList.all fun x=>rV (s.ev x))=true∧K ⟨.one (.fn f captured.size (fun i=>DK ((captured.toList.map s.ev).getD i .unk))),none,[]⟩
  |_,_=>False
 |.call c=>match c.callee with
  |.builtin b=>mT T s b c.args.toList c.argTypes.toList K
  |.value g=>wU P s nx0 id g c.args.toList K
  |.invoke _ _=>False
 |_=>False
end Go.Eng
namespace Go.Eng
open Go
theorem dW {P:Program}{x:Sem Value}{w w':World}{v:Value}(h:x.run P w= .ok v w'):(do pure (Next.value (←x)):Sem Next).run P w= .ok (.value v) w':=by
 rw[Sem.run_bind,h];rfl
theorem aT {s Z:St}{nx0:Nat}{o:Oper}(ha:iO s Z nx0 o){x:Operand}(hx:x∈o.op.operands){X:V}(h:s.ev x=X):Z.ev x=X:=(ha.ev x hx).trans h
section
variable {P:Program}{T:fS}(hT:eN P T){o:Oper}{s:St}{nx0 id:Nat}{K:eX→Prop}
include hT
theorem bF {t:TypeId}{E:Ty}(h:T t=some E):∃i d z,P.info? t=some i∧P.underlying t=some d∧i.zero=some z∧E.k=cK P d∧E.size=i.size∧E.bytes=i.bytes∧E.zero=z.cells.toList.map DR∧z.cells.toList.all Value.oneCell'=true:=
 RJ.parts ⟨hT t E h⟩
theorem Rk {t:TypeId}{E:Ty}(h:T t=some E):∃d,P.underlying t=some d∧E.k=cK P d∧E.fl=ON P d:=by
 have h:=hT t E h;unfold dU at h
 cases hi:P.info? t with
 |none=>rw[hi]at h;simp at h
 |some i=>
  cases hu:P.underlying t with
  |none=>rw[hi,hu]at h;simp at h
  |some d=>
   cases hz:i.zero with
   |none=>rw[hi,hu]at h;simp[hz]at h
   |some z=>
    rw[hi,hu]at h;simp only[hz]at h
    split at h
    ·simp only[Q6]at h;subst h;exact⟨d,rfl,rfl,rfl⟩
    cases h
theorem fx {t e:TypeId}{S:Ty}(h:T t=some S)(hk:S.k= .sl e):P.underlying t=some (.slice e):=by
 obtain⟨i,d,z,_,hu,_,UU,_⟩:=bF hT h;rw[hk]at UU;rw[hu]
 cases d<;>simp only[cK]at UU
 case slice=>cases UU;rfl
 case struct fs=>split at UU<;>cases UU
 all_goals cases UU
theorem PT {t e:TypeId}{n:Nat}{S:Ty}(h:T t=some S)(hk:S.k= .arr n e):P.underlying t=some (.array n e):=by
 obtain⟨i,d,z,_,hu,_,UU,_⟩:=bF hT h;rw[hk]at UU;rw[hu]
 cases d<;>simp only[cK]at UU
 case array=>cases UU;rfl
 case struct fs=>split at UU<;>cases UU
 all_goals cases UU
theorem PU {t:TypeId}{S:Ty}(h:T t=some S)(hk:S.k= .str):P.underlying t=some .string:=by
 obtain⟨i,d,z,_,hu,_,UU,_⟩:=bF hT h;rw[hk]at UU;rw[hu]
 cases d<;>simp only[cK]at UU
 case string=>rfl
 case struct fs=>split at UU<;>cases UU
 all_goals cases UU
theorem QM {t:TypeId}{x:Operand}(ho:o.op= .load t x)(hd:bY o s.n)(h:zp T s nx0 t x K):∃e,K e∧a7 P o s nx0 id e:=by
 have Tm:x∈o.op.operands:=by rw[ho];simp[Op.operands]
 have SO:∀(a:Act) (w:World) (g off:Nat) (v:Value),a.eval x= .pointer (some ⟨g,off,none⟩)→(loadVar t ⟨g,off,none⟩).run P w= .ok v w→(execOp a.eval o).run P w= .ok (.value v) w:=by
  intro a w g off v he hl;unfold execOp;rw[ho];refine dW ?_;simp only[Instr.loadAt,he,Instr.sureAddr,Sem.run_bind,Sem.run_pure,Q7];exact hl
 unfold zp at h
 cases SZ:T t with
 |none=>rw[SZ]at h;exact h.elim
 |some E=>
  rw[SZ]at h;simp only at h;obtain⟨i,d,z,hi,hu,_,hk,TN,_⟩:=bF hT SZ;have Yw:I0 E→(cK P d).agg=some true∨((cK P d).agg=some false∧i.size=1):=fun hh=>by rw[←hk,←TN];exact hh
  split at h
  ·-- a variable's block
   rename_i b off hx
   obtain⟨hb,h⟩:=h
   cases S7:lo s.own b with
   |none=>rw[S7]at h;exact h.elim
   |some B=>
    rw[S7]at h;simp only at h
    split at h
    ·rename_i cs ZD
     obtain⟨hle,XZ,hK⟩:=h;refine⟨_,hK,a7.pure hd fun G dom ρ Z a w hs ha=>?_⟩;obtain⟨rw_,hz⟩:=ha.wz hb S7;obtain⟨_,_,SK,_⟩:=hs.own b _ hz;have SN:=hs.ev x;rw[aT ha Tm hx]at SN;obtain⟨_,g,o',SH,SV⟩:=SN;unfold aM at SK;rw[SH]at SK;obtain⟨cur,e,hg,hc⟩:=SK;simp only[ZD]at hc;obtain⟨v,hv,hr⟩:=jZ (P:=P) (t:=t) hi hu g (o'+off) ((cs.drop off).take E.size) (by rw[←TN];simp;omega) (Yw XZ) (fun j c hj=>by
      rw[List.getElem?_take]at hj
      split at hj
      ·rw[List.getElem?_drop]at hj;obtain⟨u,S4,hr⟩:=hc (off+j) c hj;exact⟨u,by rw[cell_of_row w g _ cur e (0,0) hg,Nat.add_assoc];exact S4,hr⟩
      simp at hj)
     exact⟨v,SO a w _ _ v SV hv,by rw[hk];exact hr⟩
    exact h.elim
  ·-- an element of what only is looked at
   rename_i c wd ix off hx
   obtain⟨hw,hle,XZ,hK⟩:=h;refine⟨_,hK,a7.pure hd fun G dom ρ Z a w hs ha=>?_⟩;have SN:=hs.ev x;rw[aT ha Tm hx]at SN;obtain⟨g,o',n,cap,WE,Uv,SV⟩:=SN;have Ta:∀j,j<wd→∃u,w.cell? ⟨g,o'+(ix*wd+j),none⟩=some u∧aQ (aI G Z.own ρ w) w (mg c ix j) u:=by
    intro j hj
    cases c with
    |ints k xs=>
     obtain⟨a',cap',he,_,hr⟩:=WE;simp only[Value.slice.injEq]at he;obtain⟨rfl,rfl,rfl⟩:=he;simp only[Ja]at hw;subst hw
     rcases hr with hr|⟨g',o'',he,_,Th⟩
     ·omega
     simp only[Q6,Addr.mk.injEq,and_true]at he;obtain⟨rfl,rfl⟩:=he;refine⟨_,?_,rfl⟩
     have:=Th ix Uv
     rw[show ix*1+j=ix by omega];exact this
    |rows wd' n' f=>
     obtain⟨a',cap',he,_,hr⟩:=WE;simp only[Value.slice.injEq]at he;obtain⟨rfl,rfl,rfl⟩:=he;simp only[Ja]at hw;subst hw
     rcases hr with hr|⟨g',o'',he,_,Th⟩
     ·omega
     simp only[Q6,Addr.mk.injEq,and_true]at he;obtain⟨rfl,rfl⟩:=he;exact Th ix j Uv hj
    |_=>simp only[Ja]at hw;omega
   have VY:∀(n Tv j:Nat) c',(bD (mg c ix) Tv n)[j]? =some c'→j<n∧c'=mg c ix (Tv+j):=by
    intro n
    induction n with
    |zero=>intro Tv j c' hj;simp[bD]at hj
    |succ n ih=>
     intro Tv j c' hj
     cases j with
     |zero=>simp[bD]at hj;exact⟨by omega,hj.symm⟩
     |succ j=>
      obtain⟨h1,h2⟩:=ih (Tv+1) j c' (by simpa[bD]using hj);exact⟨by omega,by rw[h2,show Tv+1+j=Tv+(j+1) by omega]⟩
   have hlen:∀n Tv,(bD (mg c ix) Tv n).length=n:=by
    intro n
    induction n with
    |zero=>intro _;rfl
    |succ n ih=>intro Tv;simp[bD,ih]
   obtain⟨v,hv,hr⟩:=jZ (P:=P) (ρ:=ρ) (dom:=dom) (ok:=aI G Z.own ρ w) (w:=w) (t:=t) hi hu g (o'+(ix*wd+off)) (bD (mg c ix) off E.size) (by rw[hlen,TN]) (Yw XZ) (fun j c' hj=>by
    obtain⟨h1,rfl⟩:=VY _ _ _ _ hj;obtain⟨u,S4,hr⟩:=Ta (off+j) (by omega);exact⟨u,by rw[show o'+(ix*wd+off)+j=o'+(ix*wd+(off+j)) by omega];exact S4,aF.bn hr⟩)
   exact⟨v,SO a w _ _ v SV hv,by rw[hk];exact hr⟩
  ·-- an element of a slice of the frame's own
   rename_i b wd ix off hx
   obtain⟨hb,h⟩:=h
   cases S7:lo s.own b with
   |none=>rw[S7]at h;exact h.elim
   |some B=>
    rw[S7]at h;simp only at h;obtain⟨hw,hle,XZ,hK⟩:=h;refine⟨_,hK,a7.pure hd fun G dom ρ Z a w hs ha=>?_⟩;obtain⟨rw_,hz⟩:=ha.wz hb S7;obtain⟨_,hlenρ,SK,_⟩:=hs.own b _ hz;have SN:=hs.ev x;rw[aT ha Tm hx]at SN;obtain⟨_,Uv,g,o',SH,SV⟩:=SN;unfold aM at SK;rw[SH]at SK;obtain⟨cur,e,hg,hc⟩:=SK;rw[hlenρ]at Uv;simp only at hc Uv;have Ta:∀j,j<wd→∃u,w.cell? ⟨g,o'+(ix*wd+j),none⟩=some u∧aF ρ dom (aI G Z.own ρ w) w (oG B.bk ix j) u:=by
     intro j hj;rw[cell_of_row w g _ cur e (0,0) hg]
     cases hB:B.bk with
     |var cs=>rw[hB]at hw;simp only[MA]at hw;omega
     |ints e' k xs=>
      rw[hB]at hc hw Uv;simp only[MA]at hw;subst hw;simp only[Bk.len]at Uv;obtain⟨u,S4,hr⟩:=hc ix (.int k (xs.getD ix 0)) (by simp[Bk.cell,X8 Uv]);exact⟨u,by rw[show ix*1+j=ix by omega];exact S4,aF.bn hr⟩
     |wins e' b2 n' g'=>
      rw[hB]at hc hw Uv;simp only[MA]at hw;subst hw;simp only[Bk.len]at Uv;obtain⟨u,S4,hr⟩:=hc ix (g' ix) (by simp only[Bk.cell,if_pos Uv]);exact⟨u,by rw[show ix*1+j=ix by omega];exact S4,hr⟩
     |rows e' wd' n' f=>
      rw[hB]at hc hw Uv;simp only[MA]at hw;subst hw;simp only[Bk.len]at Uv;have SI:ix*wd'+j<n'*wd':=by
       have:(ix+1)*wd'≤n'*wd':=O8 _ Uv
       rw[Nat.add_mul]at this;omega
      obtain⟨u,S4,hr⟩:=hc (ix*wd'+j) (f ix j) (by
       simp only[Bk.cell,if_pos SI];rw[O6 ix wd',Nat.mul_add_div (by omega),Nat.div_eq_of_lt hj,Nat.mul_add_mod,O7 hj];simp)
      exact⟨u,S4,aF.bn hr⟩
    have VY:∀(n Tv j:Nat) c',(bD (oG B.bk ix) Tv n)[j]? =some c'→j<n∧c'=oG B.bk ix (Tv+j):=by
     intro n
     induction n with
     |zero=>intro Tv j c' hj;simp[bD]at hj
     |succ n ih=>
      intro Tv j c' hj
      cases j with
      |zero=>simp[bD]at hj;exact⟨by omega,hj.symm⟩
      |succ j=>
       obtain⟨h1,h2⟩:=ih (Tv+1) j c' (by simpa[bD]using hj);exact⟨by omega,by rw[h2,show Tv+1+j=Tv+(j+1) by omega]⟩
    have hlen:∀n Tv,(bD (oG B.bk ix) Tv n).length=n:=by
     intro n
     induction n with
     |zero=>intro _;rfl
     |succ n ih=>intro Tv;simp[bD,ih]
    obtain⟨v,hv,hr⟩:=jZ (P:=P) (ρ:=ρ) (dom:=dom) (ok:=aI G Z.own ρ w) (w:=w) (t:=t) hi hu g (o'+(ix*wd+off)) (bD (oG B.bk ix) off E.size) (by rw[hlen,TN]) (Yw XZ) (fun j c' hj=>by
     obtain⟨h1,rfl⟩:=VY _ _ _ _ hj;obtain⟨u,S4,hr⟩:=Ta (off+j) (by omega);exact⟨u,by rw[show o'+(ix*wd+off)+j=o'+(ix*wd+(off+j)) by omega];exact S4,hr⟩)
    exact⟨v,SO a w _ _ v SV hv,by rw[hk];exact hr⟩
  exact h.elim
end
end Go.Eng
namespace Go.Eng
open Go
theorem a7.newVar {P:Program}{o:Oper}{s:St}{nx0 id:Nat}{e:TypeId}{cs:List C}(SI:iE o.op=false)(hd:bY o s.n)
  (h:∀G dom ρ Z a w,aS G dom ρ Z a w→iO s Z nx0 o→∃cells:Array Value,(execOp a.eval o).run P w= .ok (.value (.pointer (some ⟨w.heap.size,0,none⟩))) (w.alloc (.cells cells e))∧bJ ρ dom (aI G Z.own ρ w) w cs cells.toList):
  a7 P o s nx0 id ⟨.one (.ptr id 0),some (.var cs),[]⟩:=by
 refine⟨?_,fun h=>by rw[SI]at h;cases h⟩;intro G dom ρ Z a w hs hid ha Q next hk;obtain⟨cells,hr,hl⟩:=h G dom ρ Z a w hs ha;have h1:=hs.xR hid (.var cs) cells e (fun j c hj=>by
  obtain⟨u,hu,hr⟩:=bJ.get hl j c (by simpa[Bk.cell]using hj);exact⟨u,by simpa using hu,hr⟩)
 have h2:=h1.put (dst:=o.dst) (x:=.one (.ptr id 0)) (v:=.pointer (some ⟨w.heap.size,0,none⟩)) (fun d hh=>by have:=hd d hh;rw[←ha.n]at this;exact this)
  (by exact⟨.inr rfl,w.heap.size,0,by rw[mq],rfl⟩)
 have e2:Z.add o.dst id ⟨.one (.ptr id 0),some (.var cs),[]⟩=St.put {Z with own:=eD Z.own id ⟨.var cs,true⟩} o.dst (.one (.ptr id 0)):=by
  cases o.dst<;>rfl
 rw[←e2]at h2;exact Oper.cX hr (hk _ _ ⟨_,h2⟩)
theorem I9 (l:List (Nat×fI)):dG l []=l:=by
 induction l with
 |nil=>rfl
 |cons x l ih=>obtain⟨b,B⟩:=x;simp[dG,ih]
theorem AE (l:List (Nat×fI))(ids:List Nat):vv l ids=dG l ids:=by
 cases ids with
 |nil=>exact(I9 l).symm
 |cons x ids=>rfl
theorem a7.newRow {P:Program}{o:Oper}{s:St}{nx0 id:Nat}{e:TypeId}{B:Bk}{wd len:Nat}(ids:List Nat)(SI:iE o.op=false)(hd:bY o s.n)(hB:∀cs,B≠ .var cs)(hlen:len≤B.len)
  (h:∀G dom ρ Z a w,aS G dom ρ Z a w→iO s Z nx0 o→∃(cells:Array Value) (cap:Nat),(execOp a.eval o).run P w= .ok (.value (.slice (some ⟨w.heap.size,0,none⟩) len cap)) (w.alloc (.cells cells e))∧len≤cap∧cap*wd≤cells.size∧
   ∀j c,B.cell j=some c→∃u,cells[j]? =some u∧aQ (aI G (dG Z.own ids) ρ w) w c u):
  a7 P o s nx0 id ⟨.one (.own id wd 0 len),some B,ids⟩:=by
 refine⟨?_,fun h=>by rw[SI]at h;cases h⟩;intro G dom ρ Z a w hs hid ha Q next hk;obtain⟨cells,cap,hr,Te,TN,hl⟩:=h G dom ρ Z a w hs ha;have h1:=(hs.dG ids).xR hid B cells e (fun j c hj=>by
  obtain⟨u,hu,hr⟩:=hl j c hj;refine⟨u,hu,?_⟩
  cases B with
  |var cs=>exact absurd rfl (hB cs)
  |ints e k xs=>exact hr
  |rows e w n f=>exact hr
  |wins e b2 n g=>exact aF.bn hr)
 have h2:=h1.put (dst:=o.dst) (x:=.one (.own id wd 0 len)) (v:=.slice (some ⟨w.heap.size,0,none⟩) len cap) (fun d hh=>by have:=hd d hh;rw[←ha.n]at this;exact this)
  (by
   refine⟨.inr rfl,by rw[mq];simpa using hlen,cap,Te,.inl ⟨w.heap.size,0,0,by rw[mq],rfl,.inr (by simp),?_⟩⟩
   have:b7 (w.alloc (.cells cells e)) w.heap.size=cells.size:=by
    unfold b7;rw[show (w.alloc (.cells cells e)).heap[w.heap.size]? =some (.cells cells e)from heap_alloc_new w _]
   rw[this];simpa using TN)
 have e2:Z.add o.dst id ⟨.one (.own id wd 0 len),some B,ids⟩=St.put {Z with own:=eD (dG Z.own ids) id ⟨B,true⟩} o.dst (.one (.own id wd 0 len)):=by
  unfold St.add;simp only[AE]
  cases o.dst<;>rfl
 rw[←e2]at h2;exact Oper.cX hr (hk _ _ ⟨_,h2⟩)
theorem a7.Nt {P:Program}{o:Oper}{s:St}{nx0 id:Nat}{e:TypeId}{b w0 o0 l0:Nat}(SI:iE o.op=false)(hd:bY o s.n)
  (h:∀G dom ρ Z a w,aS G dom ρ Z a w→iO s Z nx0 o→∃(cells:Array Value),(execOp a.eval o).run P w= .ok (.value (.slice (some ⟨w.heap.size,0,none⟩) 1 1)) (w.alloc (.cells cells e))∧cells.size=1∧
   ∃u,cells[0]? =some u∧aF ρ dom (aI G Z.own ρ w) w (.own b w0 o0 l0) u):
  a7 P o s nx0 id ⟨.one (.win id b 0 1),some (.wins e b 1 (fun _=>.own b w0 o0 l0)),[]⟩:=by
 refine⟨?_,fun h=>by rw[SI]at h;cases h⟩;intro G dom ρ Z a w hs hid ha Q next hk;obtain⟨cells,hr,TN,u,hu,hl⟩:=h G dom ρ Z a w hs ha;have X9:dom b:=hl.1;have h1:=hs.xR hid (.wins e b 1 (fun _=>.own b w0 o0 l0)) cells e (fun j c hj=>by
  simp only[Bk.cell]at hj
  split at hj
  ·rename_i hj1
   obtain rfl:j=0:=by omega
   obtain rfl:=Option.some.inj hj;exact⟨u,hu,hl⟩
  cases hj)
 have h2:=h1.put (dst:=o.dst) (x:=.one (.win id b 0 1)) (v:=.slice (some ⟨w.heap.size,0,none⟩) 1 1) (fun d hh=>by have:=hd d hh;rw[←ha.n]at this;exact this)
  (by
   refine⟨.inl X9,.inr rfl,by rw[mq];exact O1 _,1,O1 _,.inl ⟨w.heap.size,0,0,by rw[mq],rfl,.inr (by simp),?_⟩⟩
   have:b7 (w.alloc (.cells cells e)) w.heap.size=cells.size:=by
    unfold b7;rw[show (w.alloc (.cells cells e)).heap[w.heap.size]? =some (.cells cells e)from heap_alloc_new w _]
   rw[this,TN];exact O1 _)
 have e2:Z.add o.dst id ⟨.one (.win id b 0 1),some (.wins e b 1 (fun _=>.own b w0 o0 l0)),[]⟩=St.put {Z with own:=eD Z.own id ⟨.wins e b 1 (fun _=>.own b w0 o0 l0),true⟩} o.dst (.one (.win id b 0 1)):=by
  unfold St.add
  cases o.dst<;>rfl
 rw[←e2]at h2;exact Oper.cX hr (hk _ _ ⟨_,h2⟩)
theorem a7.GJ {P:Program}{o:Oper}{s:St}{nx0 id:Nat}{e:TypeId}{c:C}(ids:List Nat)(SI:iE o.op=false)(hd:bY o s.n)
  (h:∀G dom ρ Z a w,aS G dom ρ Z a w→iO s Z nx0 o→∃(cells:Array Value) (v:Value),(execOp a.eval o).run P w= .ok (.value v) (w.alloc (.cells cells e))∧
   aQ (aI G (dG Z.own ids) ρ (w.alloc (.cells cells e))) (w.alloc (.cells cells e)) c v):
  a7 P o s nx0 id ⟨.one c,none,ids⟩:=by
 refine⟨?_,fun h=>by rw[SI]at h;cases h⟩;intro G dom ρ Z a w hs hid ha Q next hk;obtain⟨cells,v,hr,hl⟩:=h G dom ρ Z a w hs ha;refine Oper.cX hr (hk _ _ ⟨ρ,?_⟩);have e2:Z.add o.dst id ⟨.one c,none,ids⟩=St.put {Z with own:=dG Z.own ids} o.dst (.one c):=by
  unfold St.add;simp only[AE]
  cases o.dst<;>rfl
 rw[e2];have h1:=(hs.dG ids).grown (gZ w (.cells cells e));exact(h1.put (dst:=o.dst) (x:=.one c) (v:=v) (fun d hh=>by have:=hd d hh;rw[←ha.n]at this;exact this) (aF.bn hl)).cU (fun b hb=>Or.inl hb)
theorem run_equalIn_bool {P:Program}(w:World)(d:Nat){t:TypeId}(hu:P.underlying t=some .bool)(a b:Bool):(Op.equalIn (d+1) t (.bool a) (.bool b)).run P w= .ok (a==b) w:=by
 simp only[Op.equalIn,Sem.run_bind,ay hu,Q7,Sem.run_pure]
section
variable {P:Program}{T:fS}(hT:eN P T){o:Oper}{s:St}{nx0 id:Nat}{K:eX→Prop}
theorem MY {x:Operand}(ho:o.op= .move x∨o.op= .assign x)(hd:bY o s.n)(h:K ⟨s.ev x,none,[]⟩):∃e,K e∧a7 P o s nx0 id e:=by
 have Tm:x∈o.op.operands:=by rcases ho with ho|ho<;>rw [ho]<;>simp [Op.operands]
 refine⟨_,h,a7.pure hd fun G dom ρ Z a w hs ha=>⟨a.eval x,?_,?_⟩⟩
 ·unfold execOp
  rcases ho with ho|ho<;>rw [ho]<;>rfl
 have:=hs.ev x
 rw[ha.ev x Tm]at this;exact this
theorem P2 {c x y:Operand}(ho:o.op= .pick c x y)(hd:bY o s.n){t:Bool}(hc:s.ev c= .one (.bool t))(h:K ⟨if t then s.ev x else s.ev y,none,[]⟩):∃e,K e∧a7 P o s nx0 id e:=by
 have hm:∀z,z=c∨z=x∨z=y→z∈o.op.operands:=by rw[ho];simp[Op.operands]
 refine⟨_,h,a7.pure hd fun G dom ρ Z a w hs ha=>⟨if t then a.eval x else a.eval y,?_,?_⟩⟩
 ·have SN:=hs.ev c;rw[aT ha (hm c (.inl rfl)) hc]at SN;have SN:a.eval c= .bool t:=SN;unfold execOp;rw[ho];simp only[SN,asBool,Sem.run_bind,Sem.run_pure,Q7]
 cases t
 ·have:=hs.ev y
  rw[ha.ev y (hm y (.inr (.inr rfl)))]at this;exact this
 have:=hs.ev x
 rw[ha.ev x (hm x (.inr (.inl rfl)))]at this;exact this
include hT in
theorem RB {op:BinOp}{t:TypeId}{x y:Operand}{t':TypeId}(ho:o.op= .binOp op t x y t')(hd:bY o s.n)(h:Iq T s op t x y K):∃e,K e∧a7 P o s nx0 id e:=by
 have Tm:x∈o.op.operands:=by rw[ho];simp[Op.operands]
 have Xo:y∈o.op.operands:=by rw[ho];simp[Op.operands]
 unfold Iq at h
 split at h
 ·rename_i k a0 k' b0 hx hy
  obtain⟨c,_,hK,_⟩:=z9 (P:=P) (w:=default) t x y h
  -- the same at every world
  have SM:∃c,K ⟨.one c,none,[]⟩∧∀w,∃v,(do eqGuard op t x y (.int k a0) (.int k' b0);Go.binOp op t (.int k a0) (.int k' b0):Sem Value).run P w= .ok v w∧∀ρ dom ok,aF ρ dom ok w c v:=by
   have hc:∃c,FA op k a0 k' b0 (fun c'=>c'=c)∧K ⟨.one c,none,[]⟩:=by
    cases op<;>simp only[FA]at h⊢
    case quo=>exact⟨_,⟨h.1,h.2.1,rfl⟩,h.2.2⟩
    case rem=>exact⟨_,⟨h.1,h.2.1,rfl⟩,h.2.2⟩
    all_goals exact⟨_,⟨h.1,rfl⟩,h.2⟩
   obtain⟨c,h1,h2⟩:=hc;refine⟨c,h2,fun w=>?_⟩;obtain⟨c',v,rfl,hr,hv⟩:=z9 (P:=P) (w:=w) t x y h1;exact⟨v,hr,hv⟩
  obtain⟨c,hK,SM⟩:=SM;refine⟨_,hK,a7.pure hd fun G dom ρ Z a w hs ha=>?_⟩;have S8:=hs.ev x;rw[aT ha Tm hx]at S8;have TI:=hs.ev y;rw[aT ha Xo hy]at TI;have S8:a.eval x= .int k a0:=S8;have TI:a.eval y= .int k' b0:=TI;obtain⟨v,hr,hv⟩:=SM w;refine⟨v,?_,hv _ _ _⟩;unfold execOp;rw[ho];exact dW (by rw[S8,TI];exact hr)
 ·rename_i a0 b0 hx hy
  cases SZ:T t with
  |none=>rw[SZ]at h;exact h.elim
  |some E=>
   rw[SZ]at h;simp only at h;obtain⟨i,d,z,hi,hu,_,hk,_⟩:=bF hT SZ
   split at h
   ·rename_i VN
    rw[VN]at hk;have X9:d= .bool:=by
     cases d<;>simp only[cK]at hk
     case bool=>rfl
     case struct fs=>split at hk<;>cases hk
     all_goals cases hk
    subst X9;have heq:∀w:World,(Op.equal t (.bool a0) (.bool b0)).run P w= .ok (a0==b0) w:=fun w=>by
     exact run_equalIn_bool w 9999 hu a0 b0
    have hg:∀(w:World),(eqGuard op t x y (.bool a0) (.bool b0)).run P w= .ok () w:=fun w=>by
     unfold eqGuard
     cases op<;>rfl
    split at h
    ·refine⟨_,h,a7.pure hd fun G dom ρ Z a w hs ha=>?_⟩;have S8:=hs.ev x;rw[aT ha Tm hx]at S8;have TI:=hs.ev y;rw[aT ha Xo hy]at TI;have S8:a.eval x= .bool a0:=S8;have TI:a.eval y= .bool b0:=TI;refine⟨.bool (a0==b0),?_,rfl⟩;unfold execOp;rw[ho];refine dW ?_;rw[S8,TI,Sem.run_bind,hg,Q7];simp only[Go.binOp,Sem.run_bind,heq,Q7,Sem.run_pure]
    ·refine⟨_,h,a7.pure hd fun G dom ρ Z a w hs ha=>?_⟩;have S8:=hs.ev x;rw[aT ha Tm hx]at S8;have TI:=hs.ev y;rw[aT ha Xo hy]at TI;have S8:a.eval x= .bool a0:=S8;have TI:a.eval y= .bool b0:=TI;refine⟨.bool (a0 !=b0),?_,rfl⟩;unfold execOp;rw[ho];refine dW ?_;rw[S8,TI,Sem.run_bind,hg,Q7];simp only[Go.binOp,Sem.run_bind,heq,Q7,Sem.run_pure];rfl
    exact h.elim
   exact h.elim
 ·rename_i a0 b0 hx hy
  have key:∃c,K ⟨.one c,none,[]⟩∧∀w,∃v,(do eqGuard op t x y (.string a0) (.string b0);Go.binOp op t (.string a0) (.string b0):Sem Value).run P w= .ok v w∧∀ρ dom ok,aF ρ dom ok w c v:=by
   cases op<;>simp only[OF]at h<;>first|exact h.elim|skip
   case add=>
    refine⟨_,h.2,fun w=>⟨.string (a0++b0),?_,fun _ _ _=>rfl⟩⟩;have hn:¬(((a0.size+b0.size:Nat):Int)>IntKind.i64.max):=by
     have e:IntKind.i64.max=9223372036854775807:=by decide
     rw[e];omega
    have hg:(eqGuard .add t x y (.string a0) (.string b0)).run P w= .ok () w:=by unfold eqGuard;rfl
    rw[Sem.run_bind,hg,Q7];simp only[Go.binOp,Op.stringOp,hn,↓reduceIte,Sem.run_pure]
   case eql=>
    refine⟨_,h,fun w=>⟨.bool (xn a0 b0),?_,fun _ _ _=>rfl⟩⟩;have hg:(eqGuard .eql t x y (.string a0) (.string b0)).run P w= .ok () w:=by unfold eqGuard;rfl
    rw[Sem.run_bind,hg,Q7];simp only[Go.binOp,Op.stringOp,Sem.run_pure,xn]
   case neq=>
    refine⟨_,h,fun w=>⟨.bool (!xn a0 b0),?_,fun _ _ _=>rfl⟩⟩;have hg:(eqGuard .neq t x y (.string a0) (.string b0)).run P w= .ok () w:=by unfold eqGuard;rfl
    rw[Sem.run_bind,hg,Q7];simp only[Go.binOp,Op.stringOp,Sem.run_pure,xn]
  obtain⟨c,hK,SM⟩:=key;refine⟨_,hK,a7.pure hd fun G dom ρ Z a w hs ha=>?_⟩;have S8:=hs.ev x;rw[aT ha Tm hx]at S8;have TI:=hs.ev y;rw[aT ha Xo hy]at TI;have S8:a.eval x= .string a0:=S8;have TI:a.eval y= .string b0:=TI;obtain⟨v,hr,hv⟩:=SM w;refine⟨v,?_,hv _ _ _⟩;unfold execOp;rw[ho];exact dW (by rw[S8,TI];exact hr)
 exact h.elim
theorem R7 {op:UnOp}{t:TypeId}{x:Operand}(ho:o.op= .unOp op t x)(hd:bY o s.n)(h:P0 s op x K):∃e,K e∧a7 P o s nx0 id e:=by
 have Tm:x∈o.op.operands:=by rw[ho];simp[Op.operands]
 unfold P0 at h
 split at h
 ·rename_i b hx
  refine⟨_,h,a7.pure hd fun G dom ρ Z a w hs ha=>⟨.bool (!b),?_,rfl⟩⟩;have S8:=hs.ev x;rw[aT ha Tm hx]at S8;have S8:a.eval x= .bool b:=S8;unfold execOp;rw[ho];exact dW (by rw[S8];rfl)
 ·rename_i k n hx
  refine⟨_,h,a7.pure hd fun G dom ρ Z a w hs ha=>⟨.int k (k.wrap (0-n)),?_,rfl⟩⟩;have S8:=hs.ev x;rw[aT ha Tm hx]at S8;have S8:a.eval x= .int k n:=S8;unfold execOp;rw[ho];exact dW (by rw[S8];rfl)
 exact h.elim
include hT in
theorem HC {
         src dst:TypeId} {x:Operand} (ho:o.op= .convert src dst x) (hd:bY o s.n) (h:mU T s src dst x K):∃e,K e∧a7 P o s nx0 id e:=by
 have Tm:x∈o.op.operands:=by rw[ho];simp[Op.operands]
 unfold mU at h
 split at h
 ·rename_i S D hS hD
  obtain⟨_,d1,_,_,XB,_⟩:=bF hT hS;obtain⟨_,d2,_,_,TU,_,TZ,_⟩:=bF hT hD
  split at h
  ·rename_i k hk
   rw[hk]at TZ
   have:d2= .int k:=by
    cases d2<;>simp only[cK]at TZ
    case int=>cases TZ;rfl
    case struct fs=>split at TZ<;>cases TZ
    all_goals cases TZ
   subst this
   split at h
   ·rename_i k' n hx
    refine⟨_,h,a7.pure hd fun G dom ρ Z a w hs ha=>⟨.int k (k.wrap n),?_,rfl⟩⟩;have S8:=hs.ev x;rw[aT ha Tm hx]at S8;have S8:a.eval x= .int k' n:=S8;unfold execOp;rw[ho];refine dW ?_;rw[S8];simp only[convert,Sem.run_bind,ay XB,ay TU,Q7]
    cases d1<;>rfl
   exact h.elim
  ·rename_i hk
   rw[hk]at TZ
   have:d2= .string:=by
    cases d2<;>simp only[cK]at TZ
    case string=>rfl
    case struct fs=>split at TZ<;>cases TZ
    all_goals cases TZ
   subst this
   split at h
   ·rename_i e UW
    have U6:=fx hT hS UW
    cases TD:T e with
    |none=>rw[TD]at h;exact h.elim
    |some E=>
     rw[TD]at h;simp only at h;obtain⟨_,d3,_,_,hu3,_,Vo,_⟩:=bF hT TD
     split at h
     ·rename_i k VN
      obtain⟨rfl,h⟩:=h;rw[VN]at Vo
      have:d3= .int .u8:=by
       cases d3<;>simp only[cK]at Vo
       case int=>cases Vo;rfl
       case struct fs=>split at Vo<;>cases Vo
       all_goals cases Vo
      subst this
      split at h
      ·rename_i k' xs hx
       obtain⟨rfl,h⟩:=h;refine⟨_,h,a7.pure hd fun G dom ρ Z a w hs ha=>⟨.string (strOfNums xs),?_,rfl⟩⟩;have S8:=hs.ev x;rw[aT ha Tm hx]at S8;obtain⟨ad,cap,hv,Te,hr⟩:=S8;unfold execOp;rw[ho];refine dW ?_;rw[hv]
       rcases hr with h0|⟨g,o',rfl,_,S5⟩
       ·have VH:xs=[]:=List.eq_nil_of_length_eq_zero h0;subst VH
        cases ad with
        |none=>exact run_convert_bytes_nil w src e U6 hu3 _ _ dst TU
        |some a0=>
         have hl:(loadCells a0 0).run P w= .ok (([]:List Int).map (Value.int .u8)).toArray w:=ku a0 [] (fun j u hj=>by simp at hj);rw[run_convert_bytes_string w src dst e _ _ cap U6 hu3 TU];exact run_bytesToString w a0 0 cap [] hl
       exact run_convert_bytes_arg w src e U6 hu3 g o' xs.length cap xs rfl S5 dst TU
      exact h.elim
     exact h.elim
   exact h.elim
  exact h.elim
 exact h.elim
include hT in
theorem C9 {t:TypeId}{x i:Operand}(ho:o.op= .index t x i)(hd:bY o s.n)(h:tU T s t x i K):∃e,K e∧a7 P o s nx0 id e:=by
 have Tm:x∈o.op.operands:=by rw[ho];simp[Op.operands]
 have Yx:i∈o.op.operands:=by rw[ho];simp[Op.operands]
 unfold tU at h
 cases SZ:T t with
 |none=>rw[SZ]at h;exact h.elim
 |some E=>
  rw[SZ]at h;simp only at h;obtain⟨_,d,_,_,hu,_,hk,_⟩:=bF hT SZ
  split at h
  ·rename_i VN
   rw[VN]at hk;have hds:d= .string:=by
    cases d<;>simp only[cK]at hk
    case string=>rfl
    case struct fs=>split at hk<;>cases hk
    all_goals cases hk
   subst hds
   split at h
   ·rename_i k n hi
    split at h
    ·rename_i b hx
     obtain⟨⟨h0,h1⟩,h⟩:=h;refine⟨_,h,a7.pure hd fun G dom ρ Z a w hs ha=>⟨.int .u8 (Iz b n.toNat),?_,rfl⟩⟩;have S8:=hs.ev x;rw[aT ha Tm hx]at S8;have Yy:=hs.ev i;rw[aT ha Yx hi]at Yy;have S8:a.eval x= .string b:=S8;have Yy:a.eval i= .int k n:=Yy;unfold execOp;rw[ho];refine dW ?_;have hb:n.toNat<b.size:=by omega
     simp only[Instr.index,S8,Yy,asIntOf,Sem.run_bind,Sem.run_pure,Q7,ay hu,if_pos h0,getElem?_pos b n.toNat hb,Iz,Option.getD_some]
    exact h.elim
   exact h.elim
  exact h.elim
include hT in
theorem Cv {t:TypeId}{x:Operand}{f:Nat}(ho:o.op= .fieldAddr t x f)(hd:bY o s.n)(h:jH T s t x f K):∃e,K e∧a7 P o s nx0 id e:=by
 have Tm:x∈o.op.operands:=by rw[ho];simp[Op.operands]
 unfold jH at h
 cases SZ:T t with
 |none=>rw[SZ]at h;exact h.elim
 |some E=>
  rw[SZ]at h;simp only at h;obtain⟨i,d,z,hi,hu,_,hk,_⟩:=bF hT SZ
  split at h
  ·rename_i fs ZH
   rw[ZH]at hk;obtain⟨fields,rfl,WG⟩:=rQ hk.symm
   cases hf:fs[f]? with
   |none=>rw[hf]at h;exact h.elim
   |some p=>
    obtain⟨fo,fsz⟩:=p;rw[hf]at h;simp only at h;obtain⟨S6,h⟩:=h;obtain⟨fd,fi,hfd,VI,he⟩:=tY _ _ WG _ _ hf;simp only[Prod.mk.injEq]at he;obtain⟨he1,ZI⟩:=he;have hfd':fields[f]? =some fd:=by simpa using hfd
    have SO:∀(a:Act) (w:World) (g off:Nat),a.eval x= .pointer (some ⟨g,off,none⟩)→(execOp a.eval o).run P w= .ok (.value (.pointer (some ⟨g,off+fo,none⟩))) w:=by
     intro a w g off SN;unfold execOp;rw[ho];refine dW ?_;simp only[Instr.fieldAt,Sem.run_bind,ay hu,Q7,hfd',SN,Instr.sureAddr,Sem.run_pure,fieldPlace,run_sizeOf VI,Sem.run_ite];rw[if_neg (by omega)];simp only[Q7,←he1]
     have:(⟨g,off,none⟩:Addr).add fo=⟨g,off+fo,none⟩:=by unfold Addr.add;split<;>simp_all
     rw[this]
    split at h
    ·rename_i b off hx
     refine⟨_,h,a7.pure hd fun G dom ρ Z a w hs ha=>?_⟩;have SN:=hs.ev x;rw[aT ha Tm hx]at SN;obtain⟨h1,g,o',h2,hv⟩:=SN;exact⟨_,SO a w g _ hv,h1,g,o',h2,by rw[Nat.add_assoc]⟩
    ·rename_i c wd ix off hx
     refine⟨_,h,a7.pure hd fun G dom ρ Z a w hs ha=>?_⟩;have SN:=hs.ev x;rw[aT ha Tm hx]at SN;obtain⟨g,o',n,cap,h1,h2,hv⟩:=SN;exact⟨_,SO a w g _ hv,g,o',n,cap,h1,h2,by rw[Nat.add_assoc,Nat.add_assoc]⟩
    ·rename_i b wd ix off hx
     refine⟨_,h,a7.pure hd fun G dom ρ Z a w hs ha=>?_⟩;have SN:=hs.ev x;rw[aT ha Tm hx]at SN;obtain⟨h1,h2,g,o',h3,hv⟩:=SN;exact⟨_,SO a w g _ hv,h1,h2,g,o',h3,by rw[Nat.add_assoc,Nat.add_assoc]⟩
    exact h.elim
  exact h.elim
include hT in
theorem Ol {t:TypeId}{x:Operand}{f:Nat}(ho:o.op= .field t x f)(hd:bY o s.n)(h:tu T s t x f K):∃e,K e∧a7 P o s nx0 id e:=by
 have Tm:x∈o.op.operands:=by rw[ho];simp[Op.operands]
 unfold tu at h
 cases SZ:T t with
 |none=>rw[SZ]at h;exact h.elim
 |some E=>
  rw[SZ]at h;simp only at h;obtain⟨d,hu,hk,WG⟩:=Rk hT SZ
  split at h
  ·rename_i fs VN
   split at h
   ·rename_i fo fsz hf
    split at h
    ·rename_i cs hx
     obtain⟨TJ,rfl,SI,h⟩:=h;rw[VN]at hk;obtain⟨fds,rfl,Yz⟩:=rQ hk.symm;obtain⟨fld,i,ZJ,hi,hp⟩:=tY _ _ Yz f _ hf;simp only[Prod.mk.injEq]at hp;obtain⟨rfl,TN⟩:=hp;have hnag:∃d',P.underlying fld.type=some d'∧(cK P d').agg=some false:=by
      rw[WG]at TJ;simp only[ON,List.getElem?_map,ZJ,Option.map_some,Q6]at TJ
      cases hud:P.underlying fld.type with
      |none=>rw[hud]at TJ;simp at TJ
      |some d'=>
       rw[hud]at TJ;refine⟨d',rfl,?_⟩;simp only at TJ
       cases UU:cK P d'<;>rw [UU]at TJ<;>simp [FB.agg]at TJ⊢
     obtain⟨d',hud,hagg⟩:=hnag;refine⟨_,h,a7.pure hd fun G dom ρ Z a w hs ha=>?_⟩;have SN:=hs.ev x;rw[aT ha Tm hx]at SN;obtain⟨vs,hv,hl⟩:=SN;obtain⟨u,TU,hr⟩:=bJ.get hl fld.offset (cs.getD fld.offset .any) (by rw[X7,X8 SI];rfl);refine⟨u,?_,hr⟩;unfold execOp;rw[ho];refine dW ?_;rw[hv];have YA:fds[f]? =some fld:=by simpa using ZJ
     have hua:vs[fld.offset]? =some u:=by simpa using TU
     simp only[Instr.field,Sem.run_bind,ay hu,Q7,YA,part,asAgg,rD hud hagg,hua,Sem.run_pure,Bool.false_eq_true,↓reduceIte]
    exact h.elim
   exact h.elim
  exact h.elim
end
end Go.Eng
namespace Go.Eng
open Go
theorem fj (g o j:Nat):(⟨g,o,none⟩:Addr).add j=⟨g,o+j,none⟩:=by unfold Addr.add;split<;>simp_all
theorem A4 {P:Program}{w:World}{t e:TypeId}{i:TypeInfo}(ht:P.underlying t=some (.slice e))(he:P.info? e=some i)(k:IntKind)(n:Int)(g o len cap:Nat)(h0:0≤n)(h1:n<len):
  (Instr.indexAt t (.slice (some ⟨g,o,none⟩) len cap) (.int k n)).run P w= .ok (.pointer (some ⟨g,o+n.toNat*i.size,none⟩)) w:=by
 simp only[Instr.indexAt,asIntOf,Sem.run_bind,Sem.run_pure,Q7,ay ht,run_sizeOf he,Sem.run_ite];rw[if_pos ⟨h0,h1⟩];simp only[Q7,fj]
theorem zg {P:Program}{w:World}{t e:TypeId}{i:TypeInfo}{m:Nat}(ht:P.underlying t=some (.array m e))(he:P.info? e=some i)(k:IntKind)(n:Int)(g o:Nat)(h0:0≤n)(h1:n<m):
  (Instr.indexAt t (.pointer (some ⟨g,o,none⟩)) (.int k n)).run P w= .ok (.pointer (some ⟨g,o+n.toNat*i.size,none⟩)) w:=by
 simp only[Instr.indexAt,asIntOf,Instr.sureAddr,Sem.run_bind,Sem.run_pure,Q7,ay ht,run_sizeOf he,Sem.run_ite];rw[if_pos ⟨h0,h1⟩];simp only[Q7,fj]
theorem bB {P:Program}{w:World}(k:IntKind)(n:Int)(y:Nat)(c:BoundsCode)(h0:0≤n)(h1:n≤y):(Instr.sliceBound (.int k n) y c).run P w= .ok n.toNat w:=by
 simp only[Instr.sliceBound,asIntOf,Sem.run_bind,Sem.run_pure,Q7,Sem.run_ite];rw[if_pos ⟨h0,h1⟩]
def oy (v:Option Value)(d n:Int):Prop:=(v=none∧n=d)∨∃k,v=some (.int k n)
theorem sG {P:Program}{w:World}{lo hi:Option Value}{len cap:Nat}{l h:Int}(S7:oy lo 0 l)(U7:oy hi len h)(h0:0≤l)(h1:l≤h)(h2:h≤len)(h3:len≤cap):
  (Instr.sliceBounds true len cap lo hi none).run P w= .ok (l.toNat,h.toNat,cap) w:=by
 unfold Instr.sliceBounds;have hc:h≤(cap:Int):=by omega
 rcases U7 with⟨rfl,rfl⟩|⟨k,rfl⟩
 ·rcases S7 with⟨rfl,rfl⟩|⟨k',rfl⟩
  ·simp
  simp only[Sem.run_bind,Sem.run_pure,Q7,bB k' l len _ h0 h1]
  simp
 rcases S7 with⟨rfl,rfl⟩|⟨k',rfl⟩
 ·simp only[Sem.run_bind,Sem.run_pure,Q7,↓reduceIte,bB k h cap _ (by omega) hc]
  simp
 simp only[Sem.run_bind,Sem.run_pure,Q7,↓reduceIte,bB k h cap _ (by omega) hc];rw[bB k' l h.toNat _ h0 (by omega)]
 simp
theorem qV {P:Program}{w:World}{lo hi:Option Value}{len:Nat}{l h:Int}(S7:oy lo 0 l)(U7:oy hi len h)(h0:0≤l)(h1:l≤h)(h2:h≤len):
  (Instr.sliceBounds false len len lo hi none).run P w= .ok (l.toNat,h.toNat,len) w:=by
 unfold Instr.sliceBounds
 rcases U7 with⟨rfl,rfl⟩|⟨k,rfl⟩
 ·rcases S7 with⟨rfl,rfl⟩|⟨k',rfl⟩
  ·simp
  simp only[Sem.run_bind,Sem.run_pure,Q7,bB k' l len _ h0 h1]
  simp
 rcases S7 with⟨rfl,rfl⟩|⟨k',rfl⟩
 ·simp only[Sem.run_bind,Sem.run_pure,Q7,bB k h len _ (by omega) h2]
  simp
 simp only[Sem.run_bind,Sem.run_pure,Q7,bB k h len _ (by omega) h2];rw[bB k' l h.toNat _ h0 (by omega)]
 simp
theorem zj {P:Program}{w:World}{t e:TypeId}{i:TypeInfo}(ht:P.underlying t=some (.slice e))(he:P.info? e=some i){lo hi:Option Value}{a:Option Addr}{len cap:Nat}{l h:Int}
  (S7:oy lo 0 l) (U7:oy hi len h) (h0:0≤l) (h1:l≤h) (h2:h≤len) (h3:len≤cap):
  (Instr.sliceAt t (.slice a len cap) lo hi none).run P w= .ok (.slice (if cap=l.toNat then a else a.map (·.add (l.toNat*i.size))) (h.toNat-l.toNat) (cap-l.toNat)) w:=by
 simp only[Instr.sliceAt,Instr.slice,Sem.run_bind,ay ht,Q7,sG S7 U7 h0 h1 h2 h3,run_sizeOf he,Sem.run_pure]
section
variable {P:Program}{T:fS}(hT:eN P T){o:Oper}{s:St}{nx0 id:Nat}{K:eX→Prop}
include hT in
theorem CO {t:TypeId}{x i:Operand}(ho:o.op= .indexAddr t x i)(hd:bY o s.n)(h:jy T s t x i K):∃e,K e∧a7 P o s nx0 id e:=by
 have Tm:x∈o.op.operands:=by rw[ho];simp[Op.operands]
 have Yx:i∈o.op.operands:=by rw[ho];simp[Op.operands]
 unfold jy at h
 cases SZ:T t with
 |none=>rw[SZ]at h;exact h.elim
 |some S=>
  rw[SZ]at h;simp only at h
  split at h
  ·rename_i e UW
   have hu:=fx hT SZ UW
   cases TD:T e with
   |none=>rw[TD]at h;exact h.elim
   |some E=>
    rw[TD]at h;simp only at h;obtain⟨ei,ed,ez,Uj,Ya,_,Yb,UH,_⟩:=bF hT TD
    split at h
    ·rename_i k n hi
     have SO:∀(a:Act) (w:World) (g o' len cap:Nat),a.eval x= .slice (some ⟨g,o',none⟩) len cap→a.eval i= .int k n→0≤n→n<len→(execOp a.eval o).run P w= .ok (.value (.pointer (some ⟨g,o'+n.toNat*E.size,none⟩))) w:=by
      intro a w g o' len cap hx VJ h0 h1;unfold execOp;rw[ho];refine dW ?_;rw[hx,VJ,A4 hu Uj k n g o' len cap h0 h1,UH]
     split at h
     ·rename_i b wd off len hx
      obtain⟨hw,S6,⟨h0,h1⟩,hK⟩:=h;refine⟨_,hK,a7.pure hd fun G dom ρ Z a w hs ha=>?_⟩;have SN:=hs.ev x;rw[aT ha Tm hx]at SN;have VJ:=hs.ev i;rw[aT ha Yx hi]at VJ;obtain⟨T1,hle,cap,Te,hr⟩:=SN
      rcases hr with⟨g,o',o'',SH,hv,Td,_⟩|⟨_,_,Uz,_⟩
      ·refine⟨_,SO a w g o'' len cap hv VJ h0 h1,T1,by omega,g,o',SH,?_⟩
       have:o''=o'+off*wd:=by rcases Td with Td|Td<;>omega
       rw[this,hw,Nat.add_mul,Nat.add_zero,Nat.add_assoc]
      omega
     ·rename_i b b2 off len hx
      obtain⟨hw,⟨h0,h1⟩,hK⟩:=h;refine⟨_,hK,a7.pure hd fun G dom ρ Z a w hs ha=>?_⟩;have SN:=hs.ev x;rw[aT ha Tm hx]at SN;have VJ:=hs.ev i;rw[aT ha Yx hi]at VJ;obtain⟨_,T1,hle,cap,Te,hr⟩:=SN
      rcases hr with⟨g,o',o'',SH,hv,Td,_⟩|⟨_,_,Uz,_⟩
      ·refine⟨_,SO a w g o'' len cap hv VJ h0 h1,T1,by omega,g,o',SH,?_⟩
       have:o''=o'+off*1:=by rcases Td with Td|Td<;>omega
       rw[this,←hw,Nat.add_mul,Nat.add_zero,Nat.add_assoc]
      omega
     ·rename_i k' xs hx
      obtain⟨hw,⟨h0,h1⟩,hK⟩:=h;refine⟨_,hK,a7.pure hd fun G dom ρ Z a w hs ha=>?_⟩;have SN:=hs.ev x;rw[aT ha Tm hx]at SN;have VJ:=hs.ev i;rw[aT ha Yx hi]at VJ;have WH:=SN;obtain⟨a',cap,hv,Te,hr⟩:=SN
      rcases hr with hr|⟨g,o',rfl,hg,Th⟩
      ·omega
      refine⟨_,SO a w g o' xs.length cap hv VJ h0 h1,g,o',xs.length,cap,?_,by omega,by rw[←hw];rfl⟩;rw[hv]at WH;exact WH
     ·rename_i wd n' f hx
      obtain⟨hw,S6,⟨h0,h1⟩,hK⟩:=h;refine⟨_,hK,a7.pure hd fun G dom ρ Z a w hs ha=>?_⟩;have SN:=hs.ev x;rw[aT ha Tm hx]at SN;have VJ:=hs.ev i;rw[aT ha Yx hi]at VJ;have WH:=SN;obtain⟨a',cap,hv,Te,hr⟩:=SN
      rcases hr with hr|⟨g,o',rfl,hg,Th⟩
      ·omega
      refine⟨_,SO a w g o' n' cap hv VJ h0 h1,g,o',n',cap,?_,by omega,by rw[hw];rfl⟩;rw[hv]at WH;exact WH
     exact h.elim
    exact h.elim
  ·rename_i m e UW
   have hu:=PT hT SZ UW
   cases TD:T e with
   |none=>rw[TD]at h;exact h.elim
   |some E=>
    rw[TD]at h;simp only at h;obtain⟨ei,ed,ez,Uj,Ya,_,Yb,UH,_⟩:=bF hT TD
    split at h
    ·rename_i k n hi
     split at h
     ·rename_i b off hx
      obtain⟨⟨h0,h1⟩,hK⟩:=h;refine⟨_,hK,a7.pure hd fun G dom ρ Z a w hs ha=>?_⟩;have SN:=hs.ev x;rw[aT ha Tm hx]at SN;have VJ:=hs.ev i;rw[aT ha Yx hi]at VJ;obtain⟨k1,g,o',k2,hv⟩:=SN;refine⟨_,?_,k1,g,o',k2,rfl⟩;unfold execOp;rw[ho];refine dW ?_;rw[hv,show a.eval i= .int k n from VJ,zg hu Uj k n g _ h0 h1,UH,Nat.add_assoc]
     exact h.elim
    exact h.elim
  exact h.elim
theorem fY {s Z:St}{x:Option Operand}{d:Int}{K:Int→Prop}(h:sP s x d K):∃n,K n∧
  ∀(G:Ctx) (dom:Nat→Prop) (ρ:Nat→Loc) (Z:St) (a:Act) (w:World),aS G dom ρ Z a w→(∀y,x=some y→Z.ev y=s.ev y)→oy (x.map a.eval) d n:=by
 unfold sP at h
 cases x with
 |none=>exact⟨d,h,fun _ _ _ _ _ _ _ _=>.inl ⟨rfl,rfl⟩⟩
 |some y=>
  simp only at h
  split at h
  ·rename_i k n hy
   refine⟨n,h,fun G dom ρ Z a w hs he=>.inr ⟨k,?_⟩⟩
   have:=hs.ev y
   rw[he y rfl,hy]at this;exact congrArg some this
  exact h.elim
theorem rI {P:Program}{w:World}{lo:Option Value}{len cap:Nat}{l h m:Int}{kh km:IntKind}(S7:oy lo 0 l)(h0:0≤l)(h1:l≤h)(h2:h≤m)(h3:m≤cap):
  (Instr.sliceBounds true len cap lo (some (.int kh h)) (some (.int km m))).run P w= .ok (l.toNat,h.toNat,m.toNat) w:=by
 unfold Instr.sliceBounds;simp only[Sem.run_bind,↓reduceIte,bB km m cap _ (by omega) h3,Q7,bB kh h m.toNat _ (by omega) (by omega)]
 rcases S7 with⟨rfl,rfl⟩|⟨k',rfl⟩
 ·simp
 simp only[Sem.run_bind,Q7];rw[bB k' l h.toNat _ h0 (by omega)]
 simp
include hT in
theorem L7 {t:TypeId}{x m:Operand}{lo hi:Option Operand}(ho:o.op= .slice t x lo hi (some m))(hd:bY o s.n)(h:sZ T s t x lo hi m K):∃e,K e∧a7 P o s nx0 id e:=by
 have Tm:x∈o.op.operands:=by rw[ho];simp[Op.operands]
 have ZK:m∈o.op.operands:=by rw[ho];simp[Op.operands]
 have UA:∀y,lo=some y→y∈o.op.operands:=fun y hy=>by rw[ho];simp[Op.operands,hy]
 have Yc:∀y,hi=some y→y∈o.op.operands:=fun y hy=>by rw[ho];simp[Op.operands,hy]
 unfold sZ at h
 cases SZ:T t with
 |none=>rw[SZ]at h;exact h.elim
 |some S=>
  rw[SZ]at h;simp only at h
  split at h
  ·rename_i e UW
   have hu:=fx hT SZ UW
   cases TD:T e with
   |none=>rw[TD]at h;exact h.elim
   |some E=>
    rw[TD]at h;simp only at h;obtain⟨ei,ed,ez,Uj,Ya,_,Yb,UH,_⟩:=bF hT TD
    split at h
    ·rename_i b wd off len hx
     obtain⟨hw,h⟩:=h
     cases hi with
     |none=>exact h.elim
     |some y=>
      simp only at h;obtain⟨l,h,VO⟩:=fY (Z:=s) h;obtain⟨hh,h,Wa⟩:=fY (Z:=s) h;obtain⟨k,h,ZD⟩:=fY (Z:=s) h;obtain⟨⟨h0,h1,h2,h3⟩,hK⟩:=h;refine⟨_,hK,a7.pure hd fun G dom ρ Z a w hs ha=>?_⟩;have SN:=hs.ev x;rw[aT ha Tm hx]at SN;obtain⟨T1,hle,cap,Te,hr⟩:=SN;have hL:=VO G dom ρ Z a w hs (fun y hy=>ha.ev y (UA y hy));have hH:=Wa G dom ρ Z a w hs (fun y hy=>ha.ev y (Yc y hy));have hM:=ZD G dom ρ Z a w hs (fun y hy=>ha.ev y (by obtain rfl:=Option.some.inj hy;exact ZK));obtain⟨kh,hH⟩:∃kh,a.eval y= .int kh hh:=by
       rcases hH with⟨h,_⟩|⟨k,h⟩
       ·cases h
       exact⟨k,Option.some.inj h⟩
      obtain⟨km,hM⟩:∃km,a.eval m= .int km k:=by
       rcases hM with⟨h,_⟩|⟨k,h⟩
       ·cases h
       exact⟨k,Option.some.inj h⟩
      have SO:∀(ad:Option Addr),a.eval x= .slice ad len cap→
        (execOp a.eval o).run P w= .ok (.value (.slice (if k.toNat=l.toNat then ad else ad.map (·.add (l.toNat*E.size))) (hh.toNat-l.toNat) (k.toNat-l.toNat))) w:=by
       intro ad hx;unfold execOp;rw[ho];refine dW ?_;rw[hx];simp only[Option.map_some,hH,hM];simp only[Instr.sliceAt,Instr.slice,Sem.run_bind,ay hu,Q7,rI hL h0 h1 h2 (by omega:k≤(cap:Int)),run_sizeOf Uj,Sem.run_pure,UH]
      rcases hr with⟨g,o',o'',SH,hv,Td,Tt⟩|⟨SH,hv,Uz,T6⟩
      ·have hrm:o'+(off+l.toNat+(k.toNat-l.toNat))*wd≤b7 w g:=by
        refine O0 ?_ Tt
        have:(off+l.toNat+(k.toNat-l.toNat))*wd≤(off+cap)*wd:=O8 _ (by omega)
        omega
       refine⟨_,SO _ hv,T1,by omega,k.toNat-l.toNat,by omega,.inl ?_⟩
       by_cases UG:k.toNat=l.toNat
       ·exact⟨g,o',o'',SH,by rw[if_pos UG,show (hh-l).toNat=hh.toNat-l.toNat by omega],.inl (by omega),hrm⟩
       refine⟨g,o',o''+l.toNat*E.size,SH,?_,.inr ?_,hrm⟩
       ·rw[if_neg UG,show (hh-l).toNat=hh.toNat-l.toNat by omega,Option.map_some,fj]
       have:o''=o'+off*wd:=by
        rcases Td with Td|Td
        ·omega
        exact Td
       rw[this,hw,Nat.add_mul,Nat.add_assoc]
      refine⟨_,SO none (by rw[hv,Uz,T6]),T1,by omega,0,by omega,.inr ⟨SH,?_,by omega,rfl⟩⟩;simp only[Option.map_none,ite_self]
      congr 1<;>omega
    exact h.elim
  exact h.elim
include hT in
theorem NV {
        t:TypeId} {x:Operand} {lo hi mx:Option Operand} (ho:o.op= .slice t x lo hi mx) (hd:bY o s.n) (h:uW T s t x lo hi mx K):∃e,K e∧a7 P o s nx0 id e:=by
 have Tm:x∈o.op.operands:=by rw[ho];simp[Op.operands]
 have UA:∀y,lo=some y→y∈o.op.operands:=fun y hy=>by rw[ho];simp[Op.operands,hy]
 have Yc:∀y,hi=some y→y∈o.op.operands:=fun y hy=>by rw[ho];simp[Op.operands,hy]
 cases mx with
 |some m=>exact L7 hT ho hd h
 |none=>
 unfold uW at h;simp only at h
 cases SZ:T t with
 |none=>rw[SZ]at h;exact h.elim
 |some S=>
  rw[SZ]at h;simp only at h
  split at h
  ·rename_i e UW
   have hu:=fx hT SZ UW
   cases TD:T e with
   |none=>rw[TD]at h;exact h.elim
   |some E=>
    rw[TD]at h;simp only at h;obtain⟨ei,ed,ez,Uj,Ya,_,Yb,UH,_⟩:=bF hT TD;have SO:∀(a:Act) (w:World) (ad:Option Addr) (len cap:Nat) (l h:Int),a.eval x= .slice ad len cap→oy (lo.map a.eval) 0 l→oy (hi.map a.eval) len h→0≤l→l≤h→h≤len→len≤cap→
      (execOp a.eval o).run P w= .ok (.value (.slice (if cap=l.toNat then ad else ad.map (·.add (l.toNat*E.size))) (h.toNat-l.toNat) (cap-l.toNat))) w:=by
     intro a w ad len cap l h hx hl hh h0 h1 h2 h3;unfold execOp;rw[ho];refine dW ?_;rw[hx,Option.map_none,zj hu Uj hl hh h0 h1 h2 h3,UH]
    split at h
    ·rename_i b wd off len hx
     obtain⟨hw,h⟩:=h;obtain⟨l,h,VO⟩:=fY (Z:=s) h;obtain⟨hh,h,Wa⟩:=fY (Z:=s) h;obtain⟨⟨h0,h1,h2⟩,hK⟩:=h;refine⟨_,hK,a7.pure hd fun G dom ρ Z a w hs ha=>?_⟩;have SN:=hs.ev x;rw[aT ha Tm hx]at SN;obtain⟨T1,hle,cap,Te,hr⟩:=SN;have hL:=VO G dom ρ Z a w hs (fun y hy=>ha.ev y (UA y hy));have hH:=Wa G dom ρ Z a w hs (fun y hy=>ha.ev y (Yc y hy))
     rcases hr with⟨g,o',o'',SH,hv,Td,Tt⟩|⟨SH,hv,Uz,T6⟩
     ·refine⟨_,SO a w _ len cap l hh hv hL hH h0 h1 h2 Te,T1,by omega,cap-l.toNat,by omega,.inl ?_⟩
      by_cases UG:cap=l.toNat
      ·refine⟨g,o',o'',SH,by rw[if_pos UG,show (hh-l).toNat=hh.toNat-l.toNat by omega],.inl (by omega),?_⟩;rw[show off+l.toNat+(cap-l.toNat)=off+cap by omega];exact Tt
      refine⟨g,o',o''+l.toNat*E.size,SH,?_,.inr ?_,?_⟩
      ·rw[if_neg UG,show (hh-l).toNat=hh.toNat-l.toNat by omega,Option.map_some,fj]
      ·have:o''=o'+off*wd:=by
        rcases Td with Td|Td
        ·omega
        exact Td
       rw[this,hw,Nat.add_mul,Nat.add_assoc]
      rw[show off+l.toNat+(cap-l.toNat)=off+cap by omega];exact Tt
     refine⟨_,SO a w none len cap l hh (by rw[hv,Uz,T6]) hL hH h0 h1 h2 Te,T1,by omega,0,by omega,.inr ⟨SH,?_,by omega,rfl⟩⟩;simp only[Option.map_none,ite_self]
     congr 1<;>omega
    ·rename_i b b2 off len hx
     obtain⟨hw,h⟩:=h;obtain⟨l,h,VO⟩:=fY (Z:=s) h;obtain⟨hh,h,Wa⟩:=fY (Z:=s) h;obtain⟨⟨h0,h1,h2⟩,hK⟩:=h;refine⟨_,hK,a7.pure hd fun G dom ρ Z a w hs ha=>?_⟩;have SN:=hs.ev x;rw[aT ha Tm hx]at SN;obtain⟨VX,T1,hle,cap,Te,hr⟩:=SN;have hL:=VO G dom ρ Z a w hs (fun y hy=>ha.ev y (UA y hy));have hH:=Wa G dom ρ Z a w hs (fun y hy=>ha.ev y (Yc y hy))
     rcases hr with⟨g,o',o'',SH,hv,Td,Tt⟩|⟨SH,hv,Uz,T6⟩
     ·refine⟨_,SO a w _ len cap l hh hv hL hH h0 h1 h2 Te,VX,T1,by omega,cap-l.toNat,by omega,.inl ?_⟩
      by_cases UG:cap=l.toNat
      ·refine⟨g,o',o'',SH,by rw[if_pos UG,show (hh-l).toNat=hh.toNat-l.toNat by omega],.inl (by omega),?_⟩;rw[show off+l.toNat+(cap-l.toNat)=off+cap by omega];exact Tt
      refine⟨g,o',o''+l.toNat*E.size,SH,?_,.inr ?_,?_⟩
      ·rw[if_neg UG,show (hh-l).toNat=hh.toNat-l.toNat by omega,Option.map_some,fj]
      ·have:o''=o'+off*1:=by
        rcases Td with Td|Td
        ·omega
        exact Td
       rw[this,←hw,Nat.add_mul,Nat.add_assoc]
      rw[show off+l.toNat+(cap-l.toNat)=off+cap by omega];exact Tt
     refine⟨_,SO a w none len cap l hh (by rw[hv,Uz,T6]) hL hH h0 h1 h2 Te,VX,T1,by omega,0,by omega,.inr ⟨SH,?_,by omega,rfl⟩⟩;simp only[Option.map_none,ite_self]
     congr 1<;>omega
    ·rename_i k xs hx
     obtain⟨hw,h⟩:=h;obtain⟨l,h,VO⟩:=fY (Z:=s) h;obtain⟨hh,h,Wa⟩:=fY (Z:=s) h;obtain⟨⟨h0,h1,h2⟩,hK⟩:=h;refine⟨_,hK,a7.pure hd fun G dom ρ Z a w hs ha=>?_⟩;have SN:=hs.ev x;rw[aT ha Tm hx]at SN;obtain⟨a',cap,hv,Te,hr⟩:=SN;have hL:=VO G dom ρ Z a w hs (fun y hy=>ha.ev y (UA y hy));have hH:=Wa G dom ρ Z a w hs (fun y hy=>ha.ev y (Yc y hy));have hlen:((xs.drop l.toNat).take (hh-l).toNat).length=hh.toNat-l.toNat:=by simp;omega
     refine⟨_,SO a w _ xs.length cap l hh hv hL hH h0 h1 h2 Te,?_⟩;refine⟨_,cap-l.toNat,by rw[hlen],by omega,?_⟩
     rcases hr with hr|⟨g,o',rfl,hg,Th⟩
     ·exact .inl (by omega)
     by_cases hz:hh.toNat-l.toNat=0
     ·exact .inl (by omega)
     refine .inr ⟨g,o'+l.toNat*E.size,by rw[if_neg (by omega),Option.map_some,fj],hg,fun j hj=>?_⟩;rw[hlen]at hj
     have:=Th (l.toNat+j) (by omega)
     rw[←hw,Nat.mul_one,Nat.add_assoc,this]
     congr 2
     simp only[X7,List.getElem?_take,List.getElem?_drop];rw[if_pos (by omega)]
    ·rename_i wd n f hx
     obtain⟨hw,h⟩:=h;obtain⟨l,h,VO⟩:=fY (Z:=s) h;obtain⟨hh,h,Wa⟩:=fY (Z:=s) h;obtain⟨⟨h0,h1,h2⟩,hK⟩:=h;refine⟨_,hK,a7.pure hd fun G dom ρ Z a w hs ha=>?_⟩;have SN:=hs.ev x;rw[aT ha Tm hx]at SN;obtain⟨a',cap,hv,Te,hr⟩:=SN;have hL:=VO G dom ρ Z a w hs (fun y hy=>ha.ev y (UA y hy));have hH:=Wa G dom ρ Z a w hs (fun y hy=>ha.ev y (Yc y hy));refine⟨_,SO a w _ n cap l hh hv hL hH h0 h1 h2 Te,?_⟩;refine⟨_,cap-l.toNat,by rw[show (hh-l).toNat=hh.toNat-l.toNat by omega],by omega,?_⟩
     rcases hr with hr|⟨g,o',rfl,hg,Th⟩
     ·exact .inl (by omega)
     by_cases hz:hh.toNat-l.toNat=0
     ·exact .inl (by omega)
     refine .inr ⟨g,o'+l.toNat*E.size,by rw[if_neg (by omega),Option.map_some,fj],hg,fun i j hi hj=>?_⟩;obtain⟨u,S4,hr⟩:=Th (l.toNat+i) j (by omega) hj;refine⟨u,?_,hr⟩;rw[←S4,←hw,Nat.add_mul]
     congr 2
     omega
    ·rename_i hx
     obtain⟨l,h,VO⟩:=fY (Z:=s) h;obtain⟨hh,h,Wa⟩:=fY (Z:=s) h;obtain⟨⟨rfl,rfl⟩,hK⟩:=h;refine⟨_,hK,a7.pure hd fun G dom ρ Z a w hs ha=>?_⟩;have SN:=hs.ev x;rw[aT ha Tm hx]at SN;have hv:a.eval x= .slice none 0 0:=SN;have hL:=VO G dom ρ Z a w hs (fun y hy=>ha.ev y (UA y hy));have hH:=Wa G dom ρ Z a w hs (fun y hy=>ha.ev y (Yc y hy));exact⟨_,SO a w none 0 0 0 0 hv hL hH (Int.le_refl _) (Int.le_refl _) (Int.le_refl _) (O1 _),rfl⟩
    exact h.elim
  ·rename_i UW
   have hu:=PU hT SZ UW
   split at h
   ·rename_i b hx
    obtain⟨l,h,VO⟩:=fY (Z:=s) h;obtain⟨hh,h,Wa⟩:=fY (Z:=s) h;obtain⟨⟨h0,h1,h2⟩,hK⟩:=h;refine⟨_,hK,a7.pure hd fun G dom ρ Z a w hs ha=>?_⟩;have SN:=hs.ev x;rw[aT ha Tm hx]at SN;have hv:a.eval x= .string b:=SN;have hL:=VO G dom ρ Z a w hs (fun y hy=>ha.ev y (UA y hy));have hH:=Wa G dom ρ Z a w hs (fun y hy=>ha.ev y (Yc y hy));refine⟨.string (b.extract l.toNat hh.toNat),?_,rfl⟩;unfold execOp;rw[ho];refine dW ?_;simp only[hv,Option.map_none,Instr.sliceAt,Instr.slice,Sem.run_bind,ay hu,Q7,qV hL hH h0 h1 h2,Sem.run_pure,Option.isSome_none,Bool.false_eq_true,↓reduceIte]
   exact h.elim
  exact h.elim
end
end Go.Eng
namespace Go.Eng
open Go
section aux
variable {ρ:Nat→Loc}{dom ok:Nat→Prop}{w:World}
theorem lZ {l:Loc}{B:Bk}{wd off len cap:Nat}{g o o':Nat}(ha:l.addr=some (g,o))(hr:aM ρ dom ok w l B)(Tc:ok g)(hl:l.len=B.len)(hle:off+len≤l.len)(hc:len≤cap)(ho:cap=0∨o'=o+off*wd):
  aQ ok w (gq B wd off len) (.slice (some ⟨g,o',none⟩) len cap):=by
 have XC:aQ ok w .any (.slice (some ⟨g,o',none⟩) len cap):=rfl;unfold aM at hr;rw[ha]at hr;obtain⟨cur,e,hg,S5⟩:=hr;rw[hl]at hle
 cases B with
 |var cs=>exact XC
 |wins e b2 n g=>exact XC
 |ints e' k xs=>
  simp only[gq]
  split
  ·rename_i hw
   subst hw;simp only[Bk.len]at hle;have hlen:((xs.drop off).take len).length=len:=by simp;omega
   refine⟨_,cap,by rw[hlen],by omega,?_⟩
   by_cases h0:len=0
   ·exact .inl (by omega)
   refine .inr ⟨g,o',rfl,Tc,fun i hi=>?_⟩;rw[hlen]at hi
   have TV:o'=o+off*1:=by rcases ho with ho|ho<;>omega
   have hx:off+i<xs.length:=by omega
   obtain⟨u,hu,hr⟩:=S5 (off+i) (.int k (xs.getD (off+i) 0)) (by simp[Bk.cell,X8 hx]);rw[cell_of_row w g _ cur e (0,0) hg,TV,show o+off*1+i=o+(off+i) by omega,hu];have hr:u= .int k (xs.getD (off+i) 0):=hr;rw[hr]
   congr 2
   simp only[X7,List.getElem?_take,List.getElem?_drop];rw[if_pos hi]
  exact XC
 |rows e' w' n f=>
  simp only[gq]
  split
  ·rename_i hw
   subst hw;simp only[Bk.len]at hle;refine⟨_,cap,rfl,hc,?_⟩
   by_cases h0:len=0
   ·exact .inl h0
   refine .inr ⟨g,o',rfl,Tc,fun i j hi hj=>?_⟩
   have TV:o'=o+off*w':=by rcases ho with ho|ho<;>omega
   have SI:(off+i)*w'+j<n*w':=by
    have:(off+i+1)*w'≤n*w':=O8 _ (by omega)
    rw[Nat.add_mul (off+i)]at this;omega
   obtain⟨u,hu,hr⟩:=S5 ((off+i)*w'+j) (f (off+i) j) (by
    simp only[Bk.cell,if_pos SI];rw[O6 (off+i) w',Nat.mul_add_div (by omega),Nat.div_eq_of_lt hj,Nat.mul_add_mod,O7 hj];simp)
   refine⟨u,?_,hr⟩;rw[cell_of_row w g _ cur e (0,0) hg,TV,←hu]
   congr 1
   rw[Nat.add_mul];omega
  exact XC
end aux
def cS (G:Ctx)(own:List (Nat×fI))(ρ:Nat→Loc)(w:World)(ids:List Nat)(g:Nat):Prop:=
 aI G own ρ w g∨∃b∈ids,∃B o,lo own b=some B∧(ρ b).addr=some (g,o)
theorem Ext.dy {ok ok':Nat→Prop}{w:World}(h:∀g,ok g→ok' g):Ext ok ok' w w:=⟨fun g hg=>⟨h g hg,rfl⟩,fun _=>O1 _⟩
theorem vZ {G:Ctx}{dom:Nat→Prop}{ρ:Nat→Loc}{s:St}{a:Act}{w:World}(hs:aS G dom ρ s a w)(ids:List Nat){g:Nat}(h:cS G s.own ρ w ids g):aI G (dG s.own ids) ρ w g:=by
 rcases h with h3|⟨b,SX,B,o',hl,To⟩
 ·exact kK h3
 obtain⟨_,_,_,h4⟩:=hs.own b B hl;obtain⟨h5,h6,_⟩:=h4 g o' To;refine⟨h5,h6,fun b2 B2 SJ S2 o2 S9=>?_⟩;rw[fH]at SJ
 cases Tn:lo s.own b2 with
 |none=>rw[Tn]at SJ;simp at SJ
 |some B3=>
  rw[Tn]at SJ;simp only[Option.map_some,Q6]at SJ
  by_cases hm:ids.contains b2=true
  ·rw[if_pos hm]at SJ;subst SJ;simp at S2
  rw[if_neg hm]at SJ;subst SJ
  by_cases UX:b2=b
  ·subst UX;exact hm (by simpa using SX)
  exact hs.inj b2 B3 b B Tn hl UX S2 g o2 o' S9 To
section view
variable {G:Ctx}{dom:Nat→Prop}{ρ:Nat→Loc}{Z s:St}{a:Act}{w:World}{nx0:Nat}{o:Oper}
theorem FR {ρ:Nat→Loc}{dom ok ok':Nat→Prop}{w:World}(hx:Ext ok ok' w w){c:C}{v:Value}(hr:aF ρ dom ok w c v):aQ ok' w (PY c) v:=by
 have SS:v.oneCell'=true:=(aF.plain hr).1
 cases c with
 |own b wd off len=>exact SS
 |win b b2 off len=>exact SS
 |ptr b off=>exact SS
 |eptr b wd i off=>exact SS
 |fn f n caps=>exact SS
 |any=>exact SS
 |bool b=>exact aQ.ext hx (.bool b) v hr
 |int k n=>exact aQ.ext hx (.int k n) v hr
 |str b=>exact aQ.ext hx (.str b) v hr
 |nil=>exact aQ.ext hx .nil v hr
 |ints k xs=>exact aQ.ext hx (.ints k xs) v hr
 |rows wd n f=>exact aQ.ext hx (.rows wd n f) v hr
 |elt c wd i off=>exact aQ.ext hx (.elt c wd i off) v hr
theorem Ft (hs:aS G dom ρ Z a w)(ha:iO s Z nx0 o){b2:Nat}{ids:List Nat}(hb:b2<nx0)(hi:b2∈ids)(c:C)(v:Value)(hr:aF ρ dom (aI G Z.own ρ w) w c v):
  aQ (cS G Z.own ρ w ids) w (Q8 s.own b2 c) v:=by
 have hx:Ext (aI G Z.own ρ w) (cS G Z.own ρ w ids) w w:=Ext.dy fun g hg=>.inl hg;have SS:v.oneCell'=true:=(aF.plain hr).1
 cases c with
 |own b wd off len=>
  simp only[Q8]
  split
  ·rename_i e
   subst e
   cases hl:lo s.own b with
   |none=>exact SS
   |some B=>
    simp only;obtain⟨rw_,hz⟩:=ha.wz hb hl;obtain⟨h1,h2,h3,h4⟩:=hs.own b _ hz;obtain⟨_,hle,cap,hc,hr⟩:=hr
    rcases hr with⟨g,o1,o2,SH,rfl,Td,_⟩|⟨SH,rfl,Uz,T6⟩
    ·have YB:iC dom dom ρ ρ:=⟨fun _ h=>h,fun _ _=>rfl⟩;exact lZ (ρ:=ρ) (dom:=dom) SH (aM.ext hx YB _ _ (fun _ _ _=>rfl) h3) (.inr ⟨b,hi,_,_,hz,SH⟩) h2 hle hc Td
    subst Uz
    cases hB:B.bk with
    |var cs=>rfl
    |wins e b2 n g=>rfl
    |ints e k xs=>
     simp only[gq]
     split
     ·exact⟨none,0,by simp,by simp,.inl (by simp)⟩
     rfl
    |rows e w' n f=>
     simp only[gq]
     split
     ·exact⟨none,0,rfl,O1 _,.inl rfl⟩
     rfl
  exact SS
 |win b b2 off len=>exact SS
 |ptr b off=>exact SS
 |eptr b wd i off=>exact SS
 |elt c wd i off=>exact SS
 |fn f n caps=>exact SS
 |any=>exact SS
 |bool b=>exact aQ.ext hx (.bool b) v hr
 |int k n=>exact aQ.ext hx (.int k n) v hr
 |str b=>exact aQ.ext hx (.str b) v hr
 |nil=>exact aQ.ext hx .nil v hr
 |ints k xs=>exact aQ.ext hx (.ints k xs) v hr
 |rows wd n f=>exact aQ.ext hx (.rows wd n f) v hr
theorem ou (hs:aS G dom ρ Z a w)(ha:iO s Z nx0 o)(c:C)(v:Value)(ids:List Nat)(hi:∀b∈gz c,b<nx0→b∈ids)(hr:aF ρ dom (aI G Z.own ρ w) w c v):
  aF bm bo (cS G Z.own ρ w ids) w (jU s.own nx0 c) v:=by
 have hx:Ext (aI G Z.own ρ w) (cS G Z.own ρ w ids) w w:=Ext.dy fun g hg=>.inl hg;have SS:v.oneCell'=true:=(aF.plain hr).1
 cases c with
 |own b wd off len=>
  simp only[jU]
  split
  ·rename_i hb
   cases hl:lo s.own b with
   |none=>exact SS
   |some B=>
    simp only;obtain⟨rw_,hz⟩:=ha.wz hb hl;obtain⟨h1,h2,h3,h4⟩:=hs.own b _ hz;obtain⟨_,hle,cap,hc,hr⟩:=hr;refine aF.bn ?_
    rcases hr with⟨g,o1,o2,SH,rfl,Td,_⟩|⟨SH,rfl,Uz,T6⟩
    ·have YB:iC dom dom ρ ρ:=⟨fun _ h=>h,fun _ _=>rfl⟩;exact lZ (ρ:=ρ) (dom:=dom) SH (aM.ext hx YB _ _ (fun _ _ _=>rfl) h3) (.inr ⟨b,hi b (by simp[gz]) hb,_,_,hz,SH⟩) h2 hle hc Td
    subst Uz
    cases hB:B.bk with
    |var cs=>rfl
    |wins e b2 n g=>rfl
    |ints e k xs=>
     simp only[gq]
     split
     ·exact⟨none,0,by simp,by simp,.inl (by simp)⟩
     rfl
    |rows e w' n f=>
     simp only[gq]
     split
     ·exact⟨none,0,rfl,O1 _,.inl rfl⟩
     rfl
  exact SS
 |win b b2 off len=>
  simp only[jU]
  split
  ·rename_i hb
   split
   ·rename_i Tr
    cases hl:lo s.own b with
    |none=>exact SS
    |some B=>
     simp only;obtain⟨rw_,hz⟩:=ha.wz hb hl;obtain⟨h1,h2,h3,h4⟩:=hs.own b _ hz;obtain⟨_,_,hle,cap,hc,hr⟩:=hr
     cases hB:B.bk with
     |var cs=>exact SS
     |ints e k xs=>exact SS
     |rows e w' n f=>exact SS
     |wins e b3 n g=>
      simp only[Ku]
      split
      ·rename_i e3
       subst e3;rw[hB]at h2 h3;refine aF.bn ?_
       rcases hr with⟨g',o1,o2,SH,rfl,Td,_⟩|⟨SH,rfl,Uz,T6⟩
       ·refine⟨_,cap,rfl,hc,?_⟩
        by_cases h0:len=0
        ·exact .inl h0
        unfold aM at h3;rw[SH]at h3;obtain⟨cur,e',hg,S5⟩:=h3;refine .inr ⟨g',o2,rfl,.inr ⟨b,hi b (by simp[gz]) hb,_,_,hz,SH⟩,fun i j SU hj=>?_⟩;obtain rfl:j=0:=by omega
        have TV:o2=o1+off*1:=by rcases Td with ho|ho<;>omega
        have SI:off+i<n:=by
         have:(ρ b).len=n:=h2
         omega
        obtain⟨u,hu,ZL⟩:=S5 (off+i) (g (off+i)) (by simp only[Bk.cell,if_pos SI]);refine⟨u,by rw[cell_of_row w g' _ cur e' (0,0) hg,TV,←hu];congr 1;omega,?_⟩;exact Ft hs ha Tr (hi b3 (by simp[gz]) Tr) (g (off+i)) u ZL
       subst Uz;exact⟨none,0,rfl,O1 _,.inl rfl⟩
      exact SS
   exact SS
  exact SS
 |ptr b off=>
  simp only[jU]
  split
  ·rename_i hb
   cases hl:lo s.own b with
   |none=>exact SS
   |some B=>
    simp only;obtain⟨rw_,hz⟩:=ha.wz hb hl;obtain⟨h1,h2,h3,h4⟩:=hs.own b _ hz;obtain⟨_,g,o1,SH,rfl⟩:=hr
    cases hB:B.bk with
    |var cs=>
     simp only[QZ];rw[hB]at h3;unfold aM at h3;rw[SH]at h3;obtain⟨cur,e,hg,S5⟩:=h3;refine⟨g,o1,1,1,⟨_,1,rfl,O1 _,.inr ⟨g,o1,rfl,.inr ⟨b,hi b (by simp[gz]) hb,_,_,hz,SH⟩,fun i j hi hj=>?_⟩⟩,by omega,by rw[Nat.zero_mul,Nat.zero_add]⟩;obtain rfl:i=0:=by omega
     obtain⟨u,hu,hr⟩:=S5 j (cs.getD j .any) (by simp only[Bk.cell];rw[X7,X8 hj];rfl);refine⟨u,?_,FR hx hr⟩;rw[cell_of_row w g _ cur e (0,0) hg,Nat.zero_mul,Nat.zero_add,hu]
    |ints e k xs=>exact SS
    |rows e w' n f=>exact SS
    |wins e b2 n g=>exact SS
  exact SS
 |eptr b wd i off=>exact SS
 |fn f n caps=>
  simp only[jU]
  split
  ·rename_i hn
   subst hn;obtain⟨cs,hv,Th,_⟩:=hr;exact⟨cs,hv,Th,fun i hi=>absurd hi (O5 _)⟩
  exact SS
 |any=>exact SS
 |bool b=>exact aF.bn (aQ.ext hx (.bool b) v hr)
 |int k n=>exact aF.bn (aQ.ext hx (.int k n) v hr)
 |str b=>exact aF.bn (aQ.ext hx (.str b) v hr)
 |nil=>exact aF.bn (aQ.ext hx .nil v hr)
 |ints k xs=>exact aF.bn (aQ.ext hx (.ints k xs) v hr)
 |rows wd n f=>exact aF.bn (aQ.ext hx (.rows wd n f) v hr)
 |elt c wd i off=>exact aF.bn (aQ.ext hx (.elt c wd i off) v hr)
theorem q0 (hs:aS G dom ρ Z a w)(ha:iO s Z nx0 o)(ids:List Nat):∀(cs:List C) (vs:List Value),(∀b∈cs.flatMap gz,b<nx0→b∈ids)→bJ ρ dom (aI G Z.own ρ w) w cs vs→bJ bm bo (cS G Z.own ρ w ids) w (cs.map (jU s.own nx0)) vs
 |[],[],_,_=>trivial
 |c::cs,v::vs,hi,hr=>⟨ou hs ha c v ids (fun b hb=>hi b (by simp[hb])) hr.1,q0 hs ha ids cs vs (fun b hb=>hi b (by rw[List.flatMap_cons];exact List.mem_append_right _ hb)) hr.2⟩
 |[],_::_,_,hr=>hr.elim
 |_::_,[],_,hr=>hr.elim
theorem n8 (hs:aS G dom ρ Z a w)(ha:iO s Z nx0 o)(ids:List Nat)(x:V)(v:Value)(hi:∀b∈kP x,b<nx0→b∈ids)(hr:cE ρ dom (aI G Z.own ρ w) w x v):
  dM bm bo (cS G Z.own ρ w ids) w (Cw s.own nx0 x) v:=by
 cases x with
 |one c=>exact ou hs ha c v ids hi hr
 |agg cs=>obtain⟨vs,rfl,hl⟩:=hr;exact⟨vs,rfl,q0 hs ha ids cs _ hi hl⟩
 |aB xs=>trivial
 |unk=>trivial
end view
theorem ka {c:C}{v:Value}{ρ ρ':Nat→Loc}{dom dom' ok ok':Nat→Prop}{w:World}(hs:gp c=true)(h:aF ρ dom ok w c v):aF ρ' dom' ok' w c v:=by
 cases c<;>simp [gp]at hs<;>exact h
theorem mL {ρ ρ':Nat→Loc}{dom dom' ok ok':Nat→Prop}{w:World}:∀{cs:List C} {vs:List Value},cs.all gp=true→bJ ρ dom ok w cs vs→bJ ρ' dom' ok' w cs vs
 |[],[],_,_=>trivial
 |_::cs,_::vs,h,hr=>by
  simp only[List.all_cons,Bool.and_eq_true]at h;exact⟨ka h.1 hr.1,mL h.2 hr.2⟩
 |[],_::_,_,hr=>hr.elim
 |_::_,[],_,hr=>hr.elim
theorem qG {ρ ρ':Nat→Loc}{dom dom' ok ok':Nat→Prop}{w:World}:∀{xs:List V} {vs:List Value},(xs.all fun|.one c=>gp c|.agg cs=>cs.all gp|.unk=>true|.aB _=>false)=true→a8 ρ dom ok w xs vs→a8 ρ' dom' ok' w xs vs
 |[],[],_,_=>trivial
 |x::xs,_::vs,h,hr=>by
  simp only[List.all_cons,Bool.and_eq_true]at h;refine⟨?_,qG h.2 hr.2⟩
  cases x with
  |one c=>exact ka h.1 hr.1
  |agg cs=>obtain⟨us,hu,hl⟩:=hr.1;exact⟨us,hu,mL h.1 hl⟩
  |aB ys=>exact absurd h.1 (by simp)
  |unk=>trivial
 |[],_::_,_,hr=>hr.elim
 |_::_,[],_,hr=>hr.elim
theorem A2 {x:V}{v:Value}{ρ ρ':Nat→Loc}{dom dom' ok ok':Nat→Prop}{w:World}(hs:od x=true)(h:cE ρ dom ok w x v):cE ρ' dom' ok' w x v:=by
 cases x with
 |unk=>trivial
 |one c=>exact ka hs h
 |agg cs=>obtain⟨us,hu,hl⟩:=h;exact⟨us,hu,mL hs hl⟩
 |aB xs=>obtain⟨us,hu,hl⟩:=h;exact⟨us,hu,qG hs hl⟩
theorem a8.mS {ρ:Nat→Loc}{dom ok:Nat→Prop}{w:World}{α:Type}(f:α→V)(g:α→Value):∀(l:List α),(∀x∈l,dM ρ dom ok w (f x) (g x))→a8 ρ dom ok w (l.map f) (l.map g)
 |[],_=>trivial
 |x::l,h=>⟨h x (by simp),a8.mS f g l (fun y hy=>h y (by simp[hy]))⟩
theorem a8.append {ρ:Nat→Loc}{dom ok:Nat→Prop}{w:World}:∀{xs ys:List V} {vs us:List Value},a8 ρ dom ok w xs vs→a8 ρ dom ok w ys us→a8 ρ dom ok w (xs++ys) (vs++us)
 |[],_,[],_,_,h=>h
 |_::_,_,_::_,_,h,h'=>⟨h.1,a8.append h.2 h'⟩
 |[],_,_::_,_,h,_=>h.elim
 |_::_,_,[],_,h,_=>h.elim
theorem a8.tK {ρ:Nat→Loc}{dom ok:Nat→Prop}{w:World}:∀(f:Nat→V) (vs:List Value),(∀i,i<vs.length→dM ρ dom ok w (f i) (vs.getD i undef))→a8 ρ dom ok w ((List.range vs.length).map f) vs
 |_,[],_=>trivial
 |f,v::vs,h=>by
  rw[List.length_cons,List.range_succ_eq_map,List.map_cons,List.map_map];exact⟨h 0 (by simp),a8.tK (f∘Nat.succ) vs fun i hi=>h (i+1) (by simpa using hi)⟩
theorem aF.yj {ρ:Nat→Loc}{dom ok:Nat→Prop}{w:World}{c:C}{v:Value}(h:eE ρ dom ok w c v):aF ρ dom ok w c v:=by
 cases c with
 |fn f n caps=>exact aF.bn h
 |own b wd off len=>exact h
 |win b b2 off len=>exact h
 |ptr b off=>exact h
 |eptr b wd i off=>exact h
 |any=>exact h
 |bool b=>exact h
 |int k n=>exact h
 |str b=>exact h
 |nil=>exact h
 |ints k xs=>exact h
 |rows wd n f=>exact h
 |elt c wd i off=>exact h
theorem eE.qt {ρ:Nat→Loc}{dom ok:Nat→Prop}{w:World}{c:C}{v:Value}(hn:∀f n caps,c≠ .fn f n caps)(h:aF ρ dom ok w c v):eE ρ dom ok w c v:=by
 cases c with
 |fn f n caps=>exact absurd rfl (hn f n caps)
 |own b wd off len=>exact h
 |win b b2 off len=>exact h
 |ptr b off=>exact h
 |eptr b wd i off=>exact h
 |any=>exact h
 |bool b=>exact h
 |int k n=>exact h
 |str b=>exact h
 |nil=>exact h
 |ints k xs=>exact h
 |rows wd n f=>exact h
 |elt c wd i off=>exact h
theorem oa {G:Ctx}{dom:Nat→Prop}{ρ:Nat→Loc}{Z s:St}{a:Act}{w:World}{nx0:Nat}{o:Oper}(hs:aS G dom ρ Z a w)(ha:iO s Z nx0 o)(ids:List Nat)(x:V)(v:Value)(hi:∀b∈p9 x,b<nx0→b∈ids)(hr:cE ρ dom (aI G Z.own ρ w) w x v):
  dM bm bo (cS G Z.own ρ w ids) w (D0 s.own nx0 x) v:=by
 by_cases hx:∃f n caps,x= .one (.fn f n caps)
 ·obtain⟨f,n,caps,rfl⟩:=hx;simp only[D0]
  split
  ·rename_i h0
   subst h0;obtain⟨cs,rfl,h1,_⟩:=hr;exact⟨cs,rfl,h1,fun i hi=>absurd hi (O5 _)⟩
  obtain⟨cs,rfl,h1,h2⟩:=hr;refine⟨cs,rfl,h1,fun i Tb=>?_⟩;have h3:=aF.yj (h2 i Tb);have Uk:∀b∈gz (caps i),b<nx0→b∈ids:=fun b hb=>hi b (by
   simp only[p9];rw[if_neg (by omega)]
   split
   ·obtain rfl:i=0:=by omega
    exact hb
   exact List.mem_flatMap.2 ⟨i,List.mem_range.2 Tb,hb⟩)
  have h4:=ou hs ha (caps i) _ ids Uk h3;have SS:=(aF.plain h3).1;show eE bm bo _ w (Oe s.own nx0 (caps i)) _
  revert h4
  cases hc:caps i with
  |fn f n c=>intro _;exact SS
  |own b wd off len=>
   intro h4;refine eE.qt (fun f n c e=>?_) h4;simp only[Oe,jU]at e
   split at e
   ·split at e
    ·rename_i B _;cases hB:B.bk<;>rw [hB]at e<;>simp only[gq]at e<;>(first|cases e|(split at e<;>cases e))
    cases e
   cases e
  |win b b2 off len=>
   intro h4;refine eE.qt (fun f n c e=>?_) h4;simp only[Oe,jU]at e
   split at e
   ·split at e
    ·split at e
     ·rename_i B _;cases hB:B.bk<;>rw [hB]at e<;>simp only[Ku]at e<;>(first|cases e|(split at e<;>cases e))
     cases e
    cases e
   cases e
  |ptr b off=>
   intro h4;refine eE.qt (fun f n c e=>?_) h4;simp only[Oe,jU]at e
   split at e
   ·split at e
    ·rename_i B _;cases hB:B.bk<;>rw [hB]at e<;>simp only[QZ]at e<;>cases e
    cases e
   cases e
  |_=>intro h4;exact eE.qt (fun f n c e=>by simp only[Oe,jU]at e;cases e) h4
 have e1:D0 s.own nx0 x=Cw s.own nx0 x:=by
  unfold D0
  split
  ·rename_i f n caps;exact absurd ⟨f,n,caps,rfl⟩ hx
  rfl
 have e2:p9 x=kP x:=by
  unfold p9
  split
  ·rename_i f n caps;exact absurd ⟨_,n,caps,rfl⟩ hx
  rfl
 rw[e1];rw[e2]at hi;exact n8 hs ha ids x v hi hr
theorem lP {P:Program}{w:World}{f:FuncId}(h:gY P f)(args:Array Value):(callFunc f args).run P w= .ok (.enter f args) w:=by
 obtain⟨fn,hf,hb,hn⟩:=h;unfold callFunc;simp only[Sem.run_bind,run_program,Q7,hf,hn,hb,Bool.false_eq_true,↓reduceIte,Sem.run_pure]
section
variable {P:Program}{T:fS}(hT:eN P T){o:Oper}{s:St}{nx0 id:Nat}{K:eX→Prop}
theorem QW {c:Call}{g:Operand}(ho:o.op= .call c)(hc:c.callee= .value g)(hd:bY o s.n)(h:wU P s nx0 id g c.args.toList K):∃e,K e∧a7 P o s nx0 id e:=by
 have VZ:g∈o.op.operands:=by rw[ho];simp[Op.operands,Call.operands,hc]
 have WI:∀x∈c.args.toList,x∈o.op.operands:=fun x hx=>by rw[ho];simp only[Op.operands,Call.operands];exact Array.mem_append_right _ (by simpa using hx)
 unfold wU at h
 split at h
 ·rename_i f n caps hg
  rcases h with⟨r,⟨TE,hpure⟩,hK⟩|hF
  ·refine⟨_,hK,?_,fun h=>by rw[ho]at h;simp[iE,hc]at h⟩;intro G dom ρ Z a w hs hid ha Q next hk;have V0:=hs.ev g;rw[aT ha VZ hg]at V0;obtain⟨cs,V0,Th,ZM⟩:=V0;have SO:(execOp a.eval o).run P w= .ok (.enter f (c.args.map a.eval++cs)) w:=by
    unfold execOp;rw[ho];simp only[resolve,hc,Sem.run_bind,V0,Deferred.ofValue,Sem.run_pure,Q7,invoke]
    have:=lP (w:=w) TE (c.args.map a.eval++cs)
    simpa using this
   unfold Oper.wp;rw[SO,Oper.upon_enter]
   let ids:=((c.args.toList.map s.ev++mC n caps).map p9).flatten.filter (fun b=>decide (b<nx0))
   have SI:∀g,cS G Z.own ρ w ids g→g<w.heap.size:=by
    rintro g (h1|⟨b,_,B,o',hl,To⟩)
    ·exact h1.1
    exact((hs.own b B hl).2.2.2 g o' To).1
   have T7:∀x,x∈c.args.toList.map s.ev++mC n caps→∀b∈p9 x,b<nx0→b∈ids:=fun x hx b hb SI=>List.mem_filter.2 ⟨List.mem_flatten.2 ⟨_,List.mem_map.2 ⟨x,hx,rfl⟩,hb⟩,by simpa using SI⟩;have SL:a8 bm bo (cS G Z.own ρ w ids) w ((c.args.toList.map s.ev++mC n caps).map (D0 s.own nx0)) (c.args.map a.eval++cs).toList:=by
    rw[Array.toList_append,Array.toList_map,List.map_append,List.map_map];refine a8.append (a8.mS (D0 s.own nx0∘s.ev) a.eval c.args.toList fun x hx=>?_) ?_
    ·have SN:=hs.ev x;rw[ha.ev x (WI x hx)]at SN;exact oa hs ha ids _ _ (T7 _ (List.mem_append_left _ (List.mem_map.2 ⟨x,hx,rfl⟩))) SN
    have hn:n=cs.toList.length:=by simp[Th]
    unfold mC at T7⊢;rw[hn,List.map_map];refine a8.tK _ _ fun i hi=>?_;have Tb:i<n:=by omega
    have h1:=ZM i Tb;have h2:cs.toList.getD i undef=cs.getD i undef:=by simp[Array.getD_eq_getD_getElem?,X7]
    rw[h2];exact oa hs ha ids (.one (caps i)) _ (T7 (.one (caps i)) (List.mem_append_right _ (List.mem_map.2 ⟨i,List.mem_range.2 Tb,rfl⟩))) (aF.yj h1)
   refine Calls.mono (hpure _ w _ SI SL) fun e w' he=>?_;obtain⟨v,rfl,hb,hr⟩:=he;refine hk v w' ?_;have h1:=hs.grown hb
   by_cases XD:od r=true
   ·rw[if_pos XD,St.add_plain];exact⟨ρ,(h1.put (dst:=o.dst) (x:=r) (v:=v) (fun d hh=>by have:=hd d hh;rw[←ha.n]at this;exact this) (A2 XD hr)).cU (fun b hb=>Or.inl hb)⟩
   rw[if_neg XD];have h2:=h1.dG ids;have Tc:∀g,(cS G Z.own ρ w ids g∨(w.heap.size≤g∧g<w'.heap.size))→aI G (dG Z.own ids) ρ w' g:=by
    rintro g ((h3|⟨b,SX,B,o',hl,To⟩)|⟨h3,h4⟩)
    ·exact kK ⟨Nat.lt_of_lt_of_le h3.1 hb.size,h3.2⟩
    ·obtain⟨_,_,_,h4⟩:=hs.own b B hl;obtain⟨h5,h6,_⟩:=h4 g o' To;refine⟨Nat.lt_of_lt_of_le h5 hb.size,h6,fun b2 B2 SJ S2 o2 S9=>?_⟩;rw[fH]at SJ
     cases Tn:lo Z.own b2 with
     |none=>rw[Tn]at SJ;simp at SJ
     |some B3=>
      rw[Tn]at SJ;simp only[Option.map_some,Q6]at SJ
      by_cases hm:ids.contains b2=true
      ·rw[if_pos hm]at SJ;subst SJ;simp at S2
      rw[if_neg hm]at SJ;subst SJ
      by_cases UX:b2=b
      ·subst UX;exact hm (by simpa using SX)
      exact hs.inj b2 B3 b B Tn hl UX S2 g o2 o' S9 To
    refine⟨h4,fun hf=>absurd (hs.wf _ hf) (by have:=hs.size;omega),fun b2 B2 SJ _ o2 S9=>?_⟩
    have:=(h2.own b2 B2 SJ).2.2.2 g o2 S9
    rw[fH]at SJ
    cases Tn:lo Z.own b2 with
    |none=>rw[Tn]at SJ;simp at SJ
    |some B3=>exact absurd ((hs.own b2 B3 Tn).2.2.2 g o2 S9).1 (by omega)
   have XA:cE ρ dom (aI G (dG Z.own ids) ρ w') w' r v:=
    cE.ext (dom:=bo) (ρ:=bm) (Ext.dy Tc) ⟨fun b hb=>hb.elim,fun b hb=>hb.elim⟩ _ _ hr
   have h3:=(h2.put (dst:=o.dst) (x:=r) (v:=v) (fun d hh=>by have:=hd d hh;rw[←ha.n]at this;exact this) XA).cU (dom':=fun b=>dom b∨b=id) (fun b hb=>Or.inl hb);refine⟨ρ,?_⟩;have e2:Z.add o.dst id ⟨r,none,ids⟩=St.put {Z with own:=dG Z.own ids} o.dst r∨ids=[]:=by
    cases hi:ids with
    |nil=>exact .inr rfl
    |cons x l=>left;cases o.dst<;>rfl
   rcases e2 with e2|e2
   ·show aS G _ ρ (Z.add o.dst id ⟨r,none,ids⟩) _ w';rw[e2];exact h3
   show aS G _ ρ (Z.add o.dst id ⟨r,none,ids⟩) _ w';rw[e2,St.add_plain];have hfe:∀l:List (Nat×fI),dG l []=l:=by
    intro l
    induction l with
    |nil=>rfl
    |cons x l ih=>obtain⟨b,B⟩:=x;simp[dG,ih]
   rw[e2,hfe]at h3;exact h3
  have h3:∃(B:Bk) (x:V),K ⟨x,some B,((c.args.toList.map s.ev++mC n caps).map p9).flatten.filter (fun b=>decide (b<nx0))⟩∧gY P f∧∀(ok:Nat→Prop) (w:World) (vs:Array Value),(∀g,ok g→g<w.heap.size)→
    a8 bm bo ok w ((c.args.toList.map s.ev++mC n caps).map (D0 s.own nx0)) vs.toList→Calls P f vs w fun e w'=>∃v l,e= .returned v∧Go.RowKit.Below w.heap.size w w'∧l.len=B.len∧
     (∀g o,l.addr=some (g,o)→w.heap.size≤g∧g<w'.heap.size)∧aM bm bo (fun g=>ok g∨(w.heap.size≤g∧g<w'.heap.size∧∀o,l.addr≠some (g,o))) w' l B∧
     ∀(ρ:Nat→Loc) (dom ok':Nat→Prop),ρ id=l→dom id→cE ρ dom ok' w' x v:=by
   have key:∀{B:Bk} {l:Loc} {w':World} {v:Value},eE (fun _=>l) (fun _=>True) (fun _=>False) w' (.own 0 B.wd 0 B.len) v→∀(ρ:Nat→Loc) (dom ok':Nat→Prop),ρ id=l→dom id→aF ρ dom ok' w' (.own id B.wd 0 B.len) v:=by
    rintro B l w' v ⟨_,UP,hv3⟩ ρ dom ok' hl hd;subst hl;exact⟨hd,UP,hv3⟩
   rcases hF with⟨B,⟨TE,_,UI⟩,hK⟩|⟨B,c',⟨XD,TE,_,UI⟩,hK⟩
   ·refine⟨B,_,hK,TE,fun ok w vs h1 h2=>Calls.mono (UI ok w vs h1 h2) fun e w' he=>?_⟩;obtain⟨v,l,he,hb,hlen,TA,SK,SV⟩:=he;exact⟨v,l,he,hb,hlen,TA,SK,fun ρ dom ok' hl hd=>key SV ρ dom ok' hl hd⟩
   refine⟨B,_,hK,TE,fun ok w vs h1 h2=>Calls.mono (UI ok w vs h1 h2) fun e w' he=>?_⟩;obtain⟨v,u,l,he,hb,hlen,TA,SK,SV,hu⟩:=he;refine⟨_,l,he,hb,hlen,TA,SK,fun ρ dom ok' hl hd=>⟨_,rfl,key SV ρ dom ok' hl hd,?_,trivial⟩⟩
   cases c'<;>first|exact XD.elim|exact hu
  obtain⟨B,x,hK,TE,UI⟩:=h3;refine⟨_,hK,?_,fun h=>by rw[ho]at h;simp[iE,hc]at h⟩;intro G dom ρ Z a w hs hid ha Q next hk;have V0:=hs.ev g;rw[aT ha VZ hg]at V0;obtain⟨cs,V0,Th,ZM⟩:=V0;have SO:(execOp a.eval o).run P w= .ok (.enter f (c.args.map a.eval++cs)) w:=by
   unfold execOp;rw[ho];simp only[resolve,hc,Sem.run_bind,V0,Deferred.ofValue,Sem.run_pure,Q7,invoke]
   have:=lP (w:=w) TE (c.args.map a.eval++cs)
   simpa using this
  unfold Oper.wp;rw[SO,Oper.upon_enter]
  let ids:=((c.args.toList.map s.ev++mC n caps).map p9).flatten.filter (fun b=>decide (b<nx0))
  have SI:∀g,cS G Z.own ρ w ids g→g<w.heap.size:=by
   rintro g (h1|⟨b,_,B,o',hl,To⟩)
   ·exact h1.1
   exact((hs.own b B hl).2.2.2 g o' To).1
  have T7:∀x,x∈c.args.toList.map s.ev++mC n caps→∀b∈p9 x,b<nx0→b∈ids:=fun x hx b hb SI=>List.mem_filter.2 ⟨List.mem_flatten.2 ⟨_,List.mem_map.2 ⟨x,hx,rfl⟩,hb⟩,by simpa using SI⟩;have SL:a8 bm bo (cS G Z.own ρ w ids) w ((c.args.toList.map s.ev++mC n caps).map (D0 s.own nx0)) (c.args.map a.eval++cs).toList:=by
   rw[Array.toList_append,Array.toList_map,List.map_append,List.map_map];refine a8.append (a8.mS (D0 s.own nx0∘s.ev) a.eval c.args.toList fun x hx=>?_) ?_
   ·have SN:=hs.ev x;rw[ha.ev x (WI x hx)]at SN;exact oa hs ha ids _ _ (T7 _ (List.mem_append_left _ (List.mem_map.2 ⟨x,hx,rfl⟩))) SN
   have hn:n=cs.toList.length:=by simp[Th]
   unfold mC at T7⊢;rw[hn,List.map_map];refine a8.tK _ _ fun i hi=>?_;have Tb:i<n:=by omega
   have h1:=ZM i Tb;have h2:cs.toList.getD i undef=cs.getD i undef:=by simp[Array.getD_eq_getD_getElem?,X7]
   rw[h2];exact oa hs ha ids (.one (caps i)) _ (T7 (.one (caps i)) (List.mem_append_right _ (List.mem_map.2 ⟨i,List.mem_range.2 Tb,rfl⟩))) (aF.yj h1)
  refine Calls.mono (UI _ w _ SI SL) fun e w' he=>?_;obtain⟨v,l,rfl,hb,hlen,TA,SK,SV⟩:=he;refine hk v w' ?_;have h2:=hs.dG ids;have Tc:∀g,(cS G Z.own ρ w ids g∨(w.heap.size≤g∧g<w'.heap.size∧∀o,l.addr≠some (g,o)))→aI G (eD (dG Z.own ids) id ⟨B,true⟩) (a6 ρ id l) w' g:=by
   have step:∀g,g<w'.heap.size→¬G.forb g→(∀o,l.addr≠some (g,o))→(∀b2 B2,lo (dG Z.own ids) b2=some B2→B2.rw=true→∀o2,(ρ b2).addr≠some (g,o2))→aI G (eD (dG Z.own ids) id ⟨B,true⟩) (a6 ρ id l) w' g:=by
    intro g h1 h2 h3 h4;refine⟨h1,h2,fun b2 B2 SJ S2 o2=>?_⟩;rw[b9]at SJ
    by_cases SX:b2=id
    ·subst SX;rw[mq];exact h3 o2
    rw[if_neg SX]at SJ;rw[aW _ _ SX];exact h4 b2 B2 SJ S2 o2
   rintro g ((h3|⟨b,SX,B2,o',hl,To⟩)|⟨h3,h4,h5⟩)
   ·exact step g (Nat.lt_of_lt_of_le h3.1 hb.size) h3.2.1 (fun o he=>absurd h3.1 (by have:=(TA g o he).1;omega)) (kK h3).2.2
   ·obtain⟨_,_,_,h4⟩:=hs.own b B2 hl;obtain⟨h5,h6,_⟩:=h4 g o' To;refine step g (Nat.lt_of_lt_of_le h5 hb.size) h6 (fun o he=>absurd h5 (by have:=(TA g o he).1;omega)) fun b2 B3 SJ S2 o2 S9=>?_;rw[fH]at SJ
    cases Tn:lo Z.own b2 with
    |none=>rw[Tn]at SJ;simp at SJ
    |some B4=>
     rw[Tn]at SJ;simp only[Option.map_some,Q6]at SJ
     by_cases hm:ids.contains b2=true
     ·rw[if_pos hm]at SJ;subst SJ;simp at S2
     rw[if_neg hm]at SJ;subst SJ
     by_cases UX:b2=b
     ·subst UX;exact hm (by simpa using SX)
     exact hs.inj b2 B4 b B2 Tn hl UX S2 g o2 o' S9 To
   refine step g h4 (fun hf=>absurd (hs.wf _ hf) (by have:=hs.size;omega)) h5 fun b2 B2 SJ _ o2 S9=>?_;rw[fH]at SJ
   cases Tn:lo Z.own b2 with
   |none=>rw[Tn]at SJ;simp at SJ
   |some B3=>exact absurd ((hs.own b2 B3 Tn).2.2.2 g o2 S9).1 (by omega)
  have WJ:aM (a6 ρ id l) (fun b=>dom b∨b=id) (aI G (eD (dG Z.own ids) id ⟨B,true⟩) (a6 ρ id l) w') w' l B:=
   aM.ext (dom:=bo) (ρ:=bm) (Ext.dy Tc) ⟨fun b hb=>hb.elim,fun b hb=>hb.elim⟩ _ _ (fun _ _ _=>rfl) SK
  have h3:=h2.Ks hb hid B l hlen TA WJ;have WK:cE (a6 ρ id l) (fun b=>dom b∨b=id) (aI G (eD (dG Z.own ids) id ⟨B,true⟩) (a6 ρ id l) w') w' x v:=SV _ _ _ (mq ..) (.inr rfl);refine⟨a6 ρ id l,?_⟩;have h4:=h3.put (dst:=o.dst) (x:=x) (v:=v) (fun d hh=>by have:=hd d hh;rw[←ha.n]at this;exact this) WK;have e2:Z.add o.dst id ⟨x,some B,ids⟩=St.put {Z with own:=eD (dG Z.own ids) id ⟨B,true⟩} o.dst x:=by
   unfold St.add;simp only
   have:vv Z.own ids=dG Z.own ids:=by
    cases hi:ids with
    |nil=>
     have hfe:∀l:List (Nat×fI),dG l []=l:=by
      intro l
      induction l with
      |nil=>rfl
      |cons x l ih=>obtain⟨b,B⟩:=x;simp[dG,ih]
     simp[vv,hfe]
    |cons x l=>rfl
   rw[this]
   cases o.dst<;>rfl
  show aS G _ _ (Z.add o.dst id ⟨x,some B,ids⟩) _ w';rw[e2];exact h4
 exact h.elim
end
end Go.Eng
namespace Go.Eng
open Go
theorem qS {s Z:St}{nx0:Nat}{o:Oper}{G:Ctx}{dom:Nat→Prop}{ρ:Nat→Loc}{a:Act}{w:World}(hs:aS G dom ρ Z a w):∀(l:List (Nat×Operand)),(∀p∈l,Z.ev p.2=s.ev p.2)→
  LR ρ dom (aI G Z.own ρ w) w (l.map fun p=>(p.1,s.ev p.2)) (l.map fun p=>(p.1,a.eval p.2))
 |[],_=>trivial
 |p::l,h=>⟨rfl,by have:=hs.ev p.2;rw[h p (by simp)]at this;exact this,qS (nx0:=nx0) (o:=o) hs l (fun q hq=>h q (by simp[hq]))⟩
theorem tE {s Z:St}{nx0:Nat}{o:Oper}{G:Ctx}{dom:Nat→Prop}{ρ:Nat→Loc}{a:Act}{w:World}(hs:aS G dom ρ Z a w)(ha:iO s Z nx0 o)(ids:List Nat):∀(l:List (Nat×Operand)),(∀p∈l,Z.ev p.2=s.ev p.2)→(∀p∈l,∀b∈kP (s.ev p.2),b<nx0→b∈ids)→
  LR bm bo (aI G (dG Z.own ids) ρ w) w (l.map fun p=>(p.1,Cw s.own nx0 (s.ev p.2))) (l.map fun p=>(p.1,a.eval p.2))
 |[],_,_=>trivial
 |p::l,h,hi=>by
  refine⟨rfl,?_,tE hs ha ids l (fun q hq=>h q (by simp[hq])) (fun q hq=>hi q (by simp[hq]))⟩;have SN:=hs.ev p.2;rw[h p (by simp)]at SN;have h1:=n8 hs ha ids _ _ (hi p (by simp)) SN;have h2:=dM.ext (ρ:=bm) (ρ':=bm) (dom:=bo) (dom':=bo) (Ext.dy fun g hg=>vZ hs ids hg) ⟨fun _ h=>h,fun _ _=>rfl⟩ _ _ h1
  revert h2
  cases hx:Cw s.own nx0 (s.ev p.2)with
  |one c=>exact fun h=>h
  |agg cs=>exact fun h=>h
  |aB xs=>exact fun h=>h.elim
  |unk=>exact fun _=>trivial
theorem aQ.dZ {ok:Nat→Prop}{w:World}{c:C}{v:Value}(h:aF bm bo ok w c v):aQ ok w c v:=by
 cases c with
 |own b wd off len=>exact h.1.elim
 |win b b2 off len=>exact h.1.elim
 |ptr b off=>exact h.1.elim
 |eptr b wd i off=>exact h.1.elim
 |fn f n caps=>
  obtain⟨cs,hv,hn,Th⟩:=h;refine⟨cs,hv,hn,fun i hi=>?_⟩
  have:=Th i hi
  unfold eE at this
  cases hc:caps i with
  |own b wd off len=>rw[hc]at this;exact this.1.elim
  |win b b2 off len=>rw[hc]at this;exact this.1.elim
  |ptr b off=>rw[hc]at this;exact this.1.elim
  |eptr b wd i off=>rw[hc]at this;exact this.1.elim
  |_=>rw[hc]at this;exact this
 |_=>exact h
theorem kt (z:List C):∀n,(fk z n).length=n*z.length
 |0=>by simp[fk]
 |n+1=>by simp[fk,kt z n,Nat.add_mul];omega
theorem oO (z:List C):∀(n j:Nat),j<n*z.length→(fk z n)[j]? =z[j%z.length]?
 |0,j,h=>by simp at h
 |n+1,j,h=>by
  simp only[fk,List.getElem?_append]
  split
  ·rename_i hj;rw[O7 hj]
  rename_i hj
  rw[oO z n (j-z.length) (by rw[Nat.add_mul]at h;omega)]
  congr 1
  exact(Nat.mod_eq_sub_mod (by omega)).symm
theorem nr (size:Nat):∀(n i j:Nat) p,(gr size i n)[j]? =some p→p=((i+j)*size,size)
 |0,i,j,p,h=>by simp[gr]at h
 |n+1,i,0,p,h=>by simp[gr]at h;simp[←h]
 |n+1,i,j+1,p,h=>by
  have:=nr size n (i+1) j p (by simpa[gr]using h)
  rw[this,show i+1+j=i+(j+1) by omega]
theorem kY {ρ:Nat→Loc}{dom ok:Nat→Prop}{w:World}(z:Array Value)(n:Nat)(hz:0<z.size)(SM:z.toList.all Value.oneCell'=true):
  bJ ρ dom ok w (fk (z.toList.map DR) n) ((Array.range (n*z.size)).map (fun i=>z[i%z.size]!)).toList:=by
 refine bJ.Ci ?_ ?_
 ·rw[kt];simp
 intro j c v hc hv;have hj:j<n*z.size:=by
  have:=(List.getElem?_eq_some_iff.1 hv).1
  simpa using this
 rw[oO _ _ _ (by simpa using hj)]at hc;simp only[List.length_map,Array.length_toList,List.getElem?_map]at hc;have hm:j%z.size<z.size:=Nat.mod_lt _ hz
 simp[hj]at hv
 rw[X8 (by simpa using hm)]at hc;simp only[Option.map_some,Q6,Array.getElem_toList]at hc;subst hc;have hz':z[j%z.size]! =z[j%z.size]:=by simp[hm]
 rw[←hv,hz'];exact yy _ (List.all_eq_true.1 SM _ (by simp))
theorem tN (k:IntKind):∀(cs:List C) (xs:List Int),l6 k cs=some xs→cs=xs.map (C.int k)
 |[],xs,h=>by simp[l6]at h;subst h;rfl
 |c::cs,xs,h=>by
  cases c with
  |int k' n=>
   simp only[l6]at h
   split at h
   ·rename_i hk
    subst hk
    cases hr:l6 k' cs with
    |none=>rw[hr]at h;simp at h
    |some ys=>
     rw[hr]at h;simp only[Option.map_some,Q6]at h;subst h;rw[tN k' cs ys hr];rfl
   simp at h
  |_=>simp[l6]at h
theorem qv (fs:List (Nat×Nat)):∀(xs:List (Nat×V)) (cs out:List C),ju fs cs xs=some out→out.length=cs.length
 |[],cs,out,h=>by simp[ju]at h;rw[h]
 |(i,x)::xs,cs,out,h=>by
  simp only[ju]at h
  split at h
  ·simp at h
  split at h
  ·rename_i hc
   rw[qv fs xs _ out h,oH _ _ _ (by omega)]
  simp at h
section
variable {P:Program}{T:fS}(hT:eN P T){o:Oper}{s:St}{nx0 id:Nat}{K:eX→Prop}
include hT in
theorem OH {e:TypeId}(ho:o.op= .alloc e)(hd:bY o s.n){E:Ty}(hE:T e=some E)(h:K ⟨.one (.ptr id 0),some (.var E.zero),[]⟩):∃f,K f∧a7 P o s nx0 id f:=by
 obtain⟨i,d,z,hi,hu,hz,hk,_,_,UB,SM⟩:=bF hT hE;refine⟨_,h,a7.newVar (e:=e) (by rw[ho];rfl) hd fun G dom ρ Z a w hs ha=>⟨z.cells,?_,?_⟩⟩
 ·unfold execOp;rw[ho];refine dW ?_;simp only[Instr.alloc,newVar,newRow,Sem.run_bind,fT hi hz,Q7,run_newObj,Sem.run_pure];rfl
 rw[UB];exact pW _ SM
theorem Rp {e:TypeId}{x:Operand}(ho:o.op= .box e x)(hd:bY o s.n)(hx:(s.ev x).oI=true)(h:K ⟨.one (.ptr id 0),some (.var (cellsOf (s.ev x))),[]⟩):∃f,K f∧a7 P o s nx0 id f:=by
 have Tm:x∈o.op.operands:=by rw[ho];simp[Op.operands]
 refine⟨_,h,a7.newVar (e:=e) (by rw[ho];rfl) hd fun G dom ρ Z a w hs ha=>⟨(a.eval x).cells,?_,?_⟩⟩
 ·unfold execOp;rw[ho];refine dW ?_;simp only[Instr.box,newVar,newRow,Sem.run_bind,Q7,run_newObj,Sem.run_pure];rfl
 have SN:=hs.ev x;rw[ha.ev x Tm]at SN;exact cE.cells SN hx
include hT in
theorem OK {t:TypeId}{parts:Array (Nat×Operand)}(ho:o.op= .build t parts)(hd:bY o s.n){E:Ty}(hE:T t=some E){fs:List (Nat×Nat)}(ZH:E.k= .st fs){cs:List C}
  (hf:ju fs E.zero (parts.toList.map fun p=>(p.1,s.ev p.2))=some cs) (h:K ⟨.agg cs,none,[]⟩):∃f,K f∧a7 P o s nx0 id f:=by
 obtain⟨i,d,z,hi,hu,hz,hk,_,_,UB,SM⟩:=bF hT hE;rw[ZH]at hk;obtain⟨fields,rfl,WG⟩:=rQ hk.symm;have Zh:∀p∈parts.toList,p.2∈o.op.operands:=fun p hp=>by rw[ho];simp only[Op.operands];simpa using⟨p.1,by simpa using hp⟩
 refine⟨_,h,a7.pure hd fun G dom ρ Z a w hs ha=>?_⟩;have UJ:=qS (s:=s) (nx0:=nx0) (o:=o) hs parts.toList (fun p hp=>ha.ev p.2 (Zh p hp));have V1:bJ ρ dom (aI G Z.own ρ w) w E.zero z.cells.toList:=by rw[UB];exact pW _ SM
 obtain⟨cells',h1,h2⟩:=qo (place:=(fs.toArray[·]?)) (fs:=fs) (fun i p hp=>by simpa using hp) _ _ _ _ _ UJ V1 hf;refine⟨.agg cells',?_,cells',rfl,h2⟩;unfold execOp;rw[ho];refine dW ?_;simp only[Instr.build,Sem.run_bind,fT hi hz,ay hu,Q7];have UC:(fields.mapM fun f=>do pure (f.offset,←sizeOf f.type):Sem (Array (Nat×Nat))).run P w= .ok fs.toArray w:=by
  have:=run_places (P:=P) w fields.toList fs WG
  rw[Array.mapM_eq_mapM_toList];simp only[Sem.run_map];have e:(fields.toList.mapM fun f=>(do pure (f.offset,←sizeOf f.type):Sem (Nat×Nat)))=(fields.toList.mapM fun f=>Functor.map (Prod.mk f.offset) (sizeOf f.type)):=by
   congr 1
  rw[e,this];rfl
 rw[UC];simp only[Q7]
 have Vp:(parts.map fun x=>match x with|(i,x)=>(i,a.eval x)).toList=parts.toList.map fun p=>(p.1,a.eval p.2):=by
  rw[Array.toList_map]
 rw[Vp,h1];rfl
theorem Gb {e:TypeId}{w n:Nat}{cs:List C}(hl:cs.length=n*w)(j:Nat)(c:C)(h:(Bk.rows e w n (fun i j=>cs.getD (i*w+j) .any)).cell j=some c):cs[j]? =some c:=by
 simp only[Bk.cell]at h
 split at h
 ·rename_i hj
  simp only[Q6]at h
  have:j/w*w+j%w=j:=by rw[O6];exact Nat.div_add_mod j w
  rw[this]at h;rw[X8 (by omega)];rw[X7,X8 (by omega)]at h
  simpa using h
 cases h
theorem xr {e:TypeId}{k:IntKind}{xs:List Int}(j:Nat)(c:C)(h:(Bk.ints e k xs).cell j=some c):(xs.map (C.int k))[j]? =some c:=by
 simpa[Bk.cell]using h
theorem AJ (SI:iE o.op=false)(hd:bY o s.n){E:Ty}{e:TypeId}{fz:Bool}{len:Nat}{cs:List C}{ids:List Nat}(hE:match E.k with|.int _=>E.size=1|_=>0<E.size)(hlen:cs.length=len*E.size)(h:Dw E e id fz len cs ids K)
  (SO:∀G dom ρ Z a w,aS G dom ρ Z a w→iO s Z nx0 o→∃cells:Array Value,(execOp a.eval o).run P w= .ok (.value (.slice (some ⟨w.heap.size,0,none⟩) len len)) (w.alloc (.cells cells e))∧bJ bm bo (aI G (dG Z.own ids) ρ w) w cs cells.toList):
  ∃f,K f∧a7 P o s nx0 id f:=by
 have VP:∀{G:Ctx} {ρ:Nat→Loc} {Z:St} {w:World} {cells:Array Value},bJ bm bo (aI G (dG Z.own ids) ρ w) w cs cells.toList→∀(j:Nat) c,cs[j]? =some c→∃u,cells[j]? =some u∧aQ (aI G (dG Z.own ids) ρ w) w c u:=by
  intro G ρ Z w cells hl j c hj;obtain⟨u,hu,hr⟩:=bJ.get hl j c hj;exact⟨u,by simpa using hu,aQ.dZ hr⟩
 have TN:∀{G:Ctx} {ρ:Nat→Loc} {Z:St} {w:World} {cells:Array Value},bJ bm bo (aI G (dG Z.own ids) ρ w) w cs cells.toList→cells.size=len*E.size:=by
  intro G ρ Z w cells hl
  have:=bJ.length hl
  simp only[Array.length_toList]at this;omega
 have gen:∀(E':Nat) (hE':E'=E.size) (h0:0<E.size),(if fz then K ⟨.one (.rows E' len (fun i j=>cs.getD (i*E'+j) .any)),none,ids⟩
   else K ⟨.one (.own id E' 0 len),some (.rows e E' len (fun i j=>cs.getD (i*E'+j) .any)),ids⟩)→∃f,K f∧a7 P o s nx0 id f:=by
  intro E' hE' h0 h;subst hE'
  split at h
  ·refine⟨_,h,a7.GJ (e:=e) ids SI hd fun G dom ρ Z a w hs ha=>?_⟩;obtain⟨cells,hr,hl⟩:=SO G dom ρ Z a w hs ha;refine⟨cells,_,hr,some ⟨w.heap.size,0,none⟩,len,rfl,O1 _,.inr ⟨w.heap.size,0,rfl,(hs.dG ids).IM,fun i j hi hj=>?_⟩⟩;have SI:i*E.size+j<cs.length:=by
    have:(i+1)*E.size≤len*E.size:=O8 _ hi
    rw[Nat.add_mul]at this;omega
   obtain⟨u,hu,hr⟩:=VP hl (i*E.size+j) (cs.getD (i*E.size+j) .any) (by rw[X7,X8 SI];rfl);refine⟨u,by rw[Nat.zero_add];simpa using hu,aQ.ext ⟨fun g hg=>⟨Bt hg,(gZ w _).block g hg.1⟩,fun g=>?_⟩ _ _ hr⟩
   by_cases hg:g<w.heap.size
   ·rw[cI ((gZ w _).block g hg)];exact O1 _
   rw[jz hg];exact O2 _
  refine⟨_,h,a7.newRow (e:=e) ids SI hd (fun cs=>by simp) (O1 _) fun G dom ρ Z a w hs ha=>?_⟩;obtain⟨cells,hr,hl⟩:=SO G dom ρ Z a w hs ha;exact⟨cells,len,hr,O1 _,by rw[TN hl];exact O1 _,fun j c hj=>VP hl j c (Gb hlen j c hj)⟩
 unfold Dw at h
 split at h
 ·rename_i k hk
  rw[hk]at hE;simp only at hE
  split at h
  ·rename_i xs VH
   have Th:=tN k cs xs VH;have Wb:xs.length=len:=by rw[Th]at hlen;simpa[hE]using hlen
   split at h
   ·refine⟨_,h,a7.GJ (e:=e) ids SI hd fun G dom ρ Z a w hs ha=>?_⟩;obtain⟨cells,hr,hl⟩:=SO G dom ρ Z a w hs ha;refine⟨cells,_,hr,some ⟨w.heap.size,0,none⟩,len,by rw[Wb],by omega,.inr ⟨w.heap.size,0,rfl,(hs.dG ids).IM,fun i hi=>?_⟩⟩;obtain⟨u,hu,hr⟩:=VP hl i (.int k (xs.getD i 0)) (by rw[Th];simp[X8 hi]);rw[Nat.zero_add,World.cell?_alloc_new,hu];exact congrArg some hr
   refine⟨_,h,a7.newRow (e:=e) ids SI hd (fun cs=>by simp) (by simp[Bk.len,Wb]) fun G dom ρ Z a w hs ha=>?_⟩;obtain⟨cells,hr,hl⟩:=SO G dom ρ Z a w hs ha;exact⟨cells,len,hr,O1 _,by rw[TN hl,hE];exact O1 _,fun j c hj=>VP hl j c (by rw[Th];exact xr j c hj)⟩
  exact h.elim
 rename_i SW
 exact gen _ rfl (by split at hE<;>first|omega|exact hE) h
include hT in
theorem AX {t:TypeId}{len:Nat}{parts:Array (Nat×Operand)}{fz:Bool}(ho:o.op= .buildSlice t len parts)(hd:bY o s.n)(h:iq T s nx0 id fz t len parts K):∃f,K f∧a7 P o s nx0 id f:=by
 have Zh:∀p∈parts.toList,p.2∈o.op.operands:=fun p hp=>by rw[ho];simp only[Op.operands];simpa using⟨p.1,by simpa using hp⟩
 unfold iq at h
 cases SZ:T t with
 |none=>rw[SZ]at h;exact h.elim
 |some S=>
  rw[SZ]at h;simp only at h
  split at h
  ·rename_i e UW
   have hu:=fx hT SZ UW
   cases TD:T e with
   |none=>rw[TD]at h;exact h.elim
   |some E=>
    rw[TD]at h;simp only at h;obtain⟨ei,ed,ez,Uj,Ya,Wd,Yb,UH,_,UB,SM⟩:=bF hT TD;obtain⟨TW,ZN,UF,h⟩:=h
    have S6:0<E.size:=by split at UF<;>omega
    have TO:ez.cells.size=E.size:=by rw[←TW,UB];simp
    have ZO:∀(a:Act) (w:World) (cells':Array Value),Instr.fill (fun i=>some (i*E.size,E.size)) ((Array.range (len*ez.cells.size)).map (fun i=>ez.cells[i%ez.cells.size]!)) (parts.toList.map fun p=>(p.1,a.eval p.2))=some cells'→
      (execOp a.eval o).run P w= .ok (.value (.slice (some ⟨w.heap.size,0,none⟩) len len)) (w.alloc (.cells cells' e)):=by
     intro a w cells' h1;unfold execOp;rw[ho];refine dW ?_;have ZP:(Array.map (fun x=>(x.fst,a.eval x.snd)) parts).toList=parts.toList.map fun p=>(p.1,a.eval p.2):=by
      rw[Array.toList_map]
     simp only[Instr.buildSlice,Sem.run_bind,ay hu,Q7,run_sizeOf Uj,Sem.run_ite];rw[if_neg (by rw[←UH];omega)];simp only[Sem.run_pure,Q7]
     by_cases h0:len*ei.size=0
     ·rw[if_pos h0];have Ui:∀f:Nat→Value,Array.map f (Array.range 0)= #[]:=fun f=>by simp
      rw[TO,UH,h0,Ui]at h1;simp only[h0,Ui,ZP,h1];rfl
     rw[if_neg h0];simp only[fT Uj Wd,Q7];rw[TO,UH]at h1;simp only[ZP,h1,TO,UH];rfl
    split at h
    ·rename_i b w0 o0 l0 hq
     split at hq
     ·unfold Dn at hq
      split at hq
      ·rename_i b' w0' o0' l0' hf
       simp only[Q6,Prod.mk.injEq]at hq;obtain⟨rfl,rfl,rfl,rfl⟩:=hq;obtain⟨rfl,VK,h⟩:=h;refine⟨_,h,a7.Nt (e:=e) (by rw[ho];rfl) hd fun G dom ρ Z a w hs ha=>?_⟩;have UJ:=qS (s:=s) (nx0:=nx0) (o:=o) hs parts.toList (fun p hp=>ha.ev p.2 (Zh p hp));have V1:bJ ρ dom (aI G Z.own ρ w) w (fk E.zero 1) ((Array.range (1*ez.cells.size)).map (fun i=>ez.cells[i%ez.cells.size]!)).toList:=by
        rw[UB];exact kY ez.cells 1 (by omega) SM
       obtain⟨cells',h1,h2⟩:=qo (place:=fun i=>some (i*E.size,E.size)) (fs:=gr E.size 0 1) (fun i p hp=>by rw[nr _ _ _ _ _ hp,Nat.zero_add]) _ _ _ _ _ UJ V1 hf;obtain⟨u,hu,hr⟩:=bJ.get h2 0 _ rfl;have TN:=bJ.length h2;exact⟨cells',ZO a w cells' h1,by simpa using TN.symm,u,by simpa using hu,hr⟩
      cases hq
     cases hq
    split at h
    ·rename_i cs hf
     have hlen:cs.length=len*E.size:=by rw[qv _ _ _ _ hf,kt,TW]
     refine AJ (by rw[ho];rfl) hd UF hlen h fun G dom ρ Z a w hs ha=>?_;have UJ:=tE (s:=s) hs ha ((parts.toList.map fun p=>kP (s.ev p.2)).flatten.filter (fun b=>decide (b<nx0))) parts.toList (fun p hp=>ha.ev p.2 (Zh p hp)) (fun p hp b hb SI=>List.mem_filter.2 ⟨List.mem_flatten.2 ⟨_,List.mem_map.2 ⟨p,hp,rfl⟩,hb⟩,by simpa using SI⟩);have V1:bJ bm bo (aI G (dG Z.own ((parts.toList.map fun p=>kP (s.ev p.2)).flatten.filter (fun b=>decide (b<nx0)))) ρ w) w (fk E.zero len) ((Array.range (len*ez.cells.size)).map (fun i=>ez.cells[i%ez.cells.size]!)).toList:=by
      rw[UB];exact kY ez.cells len (by omega) SM
     obtain⟨cells',h1,h2⟩:=qo (place:=fun i=>some (i*E.size,E.size)) (fs:=gr E.size 0 len) (fun i p hp=>by rw[nr _ _ _ _ _ hp,Nat.zero_add]) _ _ _ _ _ UJ V1 hf;exact⟨cells',ZO a w cells' h1,h2⟩
    exact h.elim
  exact h.elim
end
end Go.Eng
namespace Go.Eng
open Go
theorem xh {n:Int}(h0:0≤n)(h1:n≤9223372036854775807):IntKind.i64.wrap n=n:=by
 have h2:n% (2^64:Int)=n:=Int.emod_eq_of_lt h0 (by omega);have e:IntKind.i64.wrap n=if(true&&decide (n% (2^64:Int)≥2^63))=true then n% (2^64:Int)-2^64 else n% (2^64:Int):=rfl
 rw[e,h2,if_neg (by simp;omega)]
theorem a8.get {ρ:Nat→Loc}{dom ok:Nat→Prop}{w:World}:∀{xs:List V} {vs:List Value},a8 ρ dom ok w xs vs→∀(j:Nat) x,xs[j]? =some x→∃v,vs[j]? =some v∧dM ρ dom ok w x v
 |[],[],_,j,x,hj=>by simp at hj
 |x0::xs,v0::vs,h,0,x,hj=>by simp at hj;subst hj;exact⟨v0,rfl,h.1⟩
 |x0::xs,v0::vs,h,j+1,x,hj=>by simpa using a8.get h.2 j x (by simpa using hj)
 |[],_::_,h,_,_,_=>h.elim
 |_::_,[],h,_,_,_=>h.elim
theorem cE.wy {ρ:Nat→Loc}{dom ok:Nat→Prop}{w:World}{x:V}{v:Value}(h:dM ρ dom ok w x v):cE ρ dom ok w x v:=by
 cases x with
 |unk=>trivial
 |one c=>exact h
 |agg cs=>exact h
 |aB xs=>exact h.elim
section
variable {P:Program}{T:fS}(hT:eN P T){o:Oper}{s:St}{nx0 id:Nat}{K:eX→Prop}
include hT in
theorem CA {
          t:TypeId} {l c:Operand} {fz:Bool} (ho:o.op= .makeSlice t l c) (hd:bY o s.n) (h:jC T s id fz t l c K):∃f,K f∧a7 P o s nx0 id f:=by
 have UA:l∈o.op.operands:=by rw[ho];simp[Op.operands]
 have Zi:c∈o.op.operands:=by rw[ho];simp[Op.operands]
 unfold jC at h
 cases SZ:T t with
 |none=>rw[SZ]at h;exact h.elim
 |some S=>
  rw[SZ]at h;simp only at h
  split at h
  ·rename_i e UW
   have hu:=fx hT SZ UW
   cases TD:T e with
   |none=>rw[TD]at h;exact h.elim
   |some E=>
    rw[TD]at h;simp only at h;obtain⟨ei,ed,ez,Uj,Ya,Wd,Yb,UH,ZQ,UB,SM⟩:=bF hT TD
    split at h
    ·rename_i kl ln kc cn hl hc
     obtain⟨TW,S6,⟨h0,h1,h2,h3⟩,h⟩:=h;have TO:ez.cells.size=E.size:=by rw[←TW,UB];simp
     have SO:∀(G:Ctx) (dom:Nat→Prop) (ρ:Nat→Loc) (Z:St) (a:Act) (w:World),aS G dom ρ Z a w→iO s Z nx0 o→
       (execOp a.eval o).run P w= .ok (.value (.slice (some ⟨w.heap.size,0,none⟩) ln.toNat cn.toNat)) (w.alloc (.cells ((Array.range (cn.toNat*ez.cells.size)).map (fun i=>ez.cells[i%ez.cells.size]!)) e)):=by
      intro G dom ρ Z a w hs ha;have hlv:=hs.ev l;rw[aT ha UA hl]at hlv;have Zj:=hs.ev c;rw[aT ha Zi hc]at Zj;have hlv:a.eval l= .int kl ln:=hlv;have Zj:a.eval c= .int kc cn:=Zj;unfold execOp;rw[ho];refine dW ?_;have ZR:IntKind.i64.wrap ln=ln:=xh h0 (by omega);have hwc:IntKind.i64.wrap cn=cn:=xh (by omega) h3;have ZN:¬((ei.bytes:Int)*cn>2^48):=by rw[←ZQ,Int.mul_comm];omega
      have hbigb:decide ((ei.bytes:Int)*cn>2^48)=false:=by simpa using ZN
      have hneg:decide (cn<0)=false:=by simp;omega
      have hneg2:decide (ln<0)=false:=by simp;omega
      have hneg3:decide (ln>cn)=false:=by simp;omega
      simp only[Instr.makeSlice,Sem.run_bind,ay hu,Q7,hlv,Zj,asInt,asIntOf,Sem.run_pure,run_typeInfo Uj,ZR,hwc,hneg,hneg2,hneg3,hbigb,Bool.or_self,Bool.false_eq_true,↓reduceIte,run_askRoom,run_sizeOf Uj,Sem.run_ite,ite_self];rw[←UH,←TO]
      by_cases hz:cn.toNat*ez.cells.size=0
      ·rw[if_pos hz];have Ui:∀f:Nat→Value,Array.map f (Array.range 0)= #[]:=fun f=>by simp
       simp only[hz,Ui];rfl
      rw[if_neg hz];simp only[fT Uj Wd,Q7];rfl
     have ZS:((Array.range (cn.toNat*ez.cells.size)).map (fun i=>ez.cells[i%ez.cells.size]!)).size=cn.toNat*ez.cells.size:=by simp
     split at h
     ·rename_i k hk
      obtain⟨hz,hK⟩:=h;have VK:E.size=1:=by rw[←TW,hz];rfl
      have key:∀{hK':K ⟨.one (.own id 1 0 ln.toNat),some (.ints e k (List.replicate cn.toNat 0)),[]⟩},∃f,K f∧a7 P o s nx0 id f:=by
       intro hK;refine⟨_,hK,a7.newRow (e:=e) [] (by rw[ho];rfl) hd (fun cs=>by simp) (by simp[Bk.len];omega) fun G dom ρ Z a w hs ha=>?_⟩;refine⟨_,cn.toNat,SO G dom ρ Z a w hs ha,by omega,by rw[ZS,TO,VK];exact O1 _,fun j c' hj=>?_⟩;have V1:=kY (ρ:=bm) (dom:=bo) (ok:=aI G (dG Z.own []) ρ w) (w:=w) ez.cells cn.toNat (by omega) SM;rw[←UB,hz]at V1;have Vv:=xr j c' hj
       have:(fk [C.int k 0] cn.toNat)=(List.replicate cn.toNat (0:Int)).map (C.int k):=by
        generalize cn.toNat=n
        induction n with
        |zero=>rfl
        |succ n ih=>simp[fk,ih,List.replicate_succ]
       rw[←this]at Vv;obtain⟨u,S4,hr⟩:=bJ.get V1 j c' Vv;exact⟨u,by rw[←Array.getElem?_toList];exact S4,aQ.dZ hr⟩
      split at hK
      ·split at hK
       ·have hzr0:∀{ok:Nat→Prop} {w:World},bJ bm bo ok w ((List.replicate cn.toNat (0:Int)).map (C.int k)) ((Array.range (cn.toNat*ez.cells.size)).map (fun i=>ez.cells[i%ez.cells.size]!)).toList:=by
         intro ok w;have V1:=kY (ρ:=bm) (dom:=bo) (ok:=ok) (w:=w) ez.cells cn.toNat (by omega) SM;rw[←UB,hz]at V1
         have:(fk [C.int k 0] cn.toNat)=(List.replicate cn.toNat (0:Int)).map (C.int k):=by
          generalize cn.toNat=n
          induction n with
          |zero=>rfl
          |succ n ih=>simp[fk,ih,List.replicate_succ]
         rw[←this];exact V1
        refine⟨_,hK,a7.GJ (e:=e) [] (by rw[ho];rfl) hd fun G dom ρ Z a w hs ha=>?_⟩;refine⟨_,_,SO G dom ρ Z a w hs ha,some ⟨w.heap.size,0,none⟩,cn.toNat,by simp,by simp;omega,.inr ⟨w.heap.size,0,rfl,(hs.dG []).IM,fun i hi=>?_⟩⟩;simp only[List.length_replicate]at hi;obtain⟨u,hu,hr⟩:=bJ.get (hzr0 (ok:=fun _=>True) (w:=w)) i (.int k 0) (by rw[List.getElem?_map,List.getElem?_replicate,if_pos (by omega)];rfl);have hr:u= .int k 0:=hr;rw[Nat.zero_add,World.cell?_alloc_new,←Array.getElem?_toList,hu,hr]
        simp[X7,hi]
       exact key (hK':=hK)
      exact key (hK':=hK)
     refine⟨_,h,a7.newRow (e:=e) [] (by rw[ho];rfl) hd (fun cs=>by simp) (by simp[Bk.len];omega) fun G dom ρ Z a w hs ha=>?_⟩;refine⟨_,cn.toNat,SO G dom ρ Z a w hs ha,by omega,by rw[ZS,TO];exact O1 _,fun j c' hj=>?_⟩;have V1:=kY (ρ:=bm) (dom:=bo) (ok:=aI G (dG Z.own []) ρ w) (w:=w) ez.cells cn.toNat (by omega) SM;rw[←UB]at V1;simp only[Bk.cell]at hj
     split at hj
     ·rename_i SI
      simp only[Q6]at hj;have hg:=oO E.zero cn.toNat j (by rw[TW];exact SI);rw[TW]at hg;have hm:j%E.size<E.zero.length:=by rw[TW];exact Nat.mod_lt _ S6
      rw[X7,X8 hm]at hj;rw[X8 hm]at hg;obtain⟨u,S4,hr⟩:=bJ.get V1 j _ hg;simp only[Option.getD_some]at hj;rw[←hj];exact⟨u,by rw[←Array.getElem?_toList];exact S4,aQ.dZ hr⟩
     cases hj
    exact h.elim
  exact h.elim
theorem DX {ρ:Nat→Loc}{dom ok:Nat→Prop}{w:World}{c:C}{n:Nat}{v:Value}(hl:iI c=some n)(h:aF ρ dom ok w c v):∃a cap,v= .slice a n cap∧n≤cap∧(c= .nil→cap=0):=by
 cases c with
 |own b wd off len=>
  simp only[iI,Q6]at hl;subst hl;obtain⟨_,_,cap,hc,h⟩:=h
  rcases h with⟨g,o,o',_,rfl,_⟩|⟨_,rfl,h1,h2⟩
  ·exact⟨_,cap,rfl,hc,fun e=>by cases e⟩
  exact⟨none,0,by rw[h1],by omega,fun e=>by cases e⟩
 |win b b2 off len=>
  simp only[iI,Q6]at hl;subst hl;obtain⟨_,_,_,cap,hc,h⟩:=h
  rcases h with⟨g,o,o',_,rfl,_⟩|⟨_,rfl,h1,h2⟩
  ·exact⟨_,cap,rfl,hc,fun e=>by cases e⟩
  exact⟨none,0,by rw[h1],by omega,fun e=>by cases e⟩
 |ints k xs=>simp only[iI,Q6]at hl;subst hl;obtain⟨a,cap,rfl,hc,_⟩:=h;exact⟨a,cap,rfl,hc,fun e=>by cases e⟩
 |rows wd n' f=>simp only[iI,Q6]at hl;subst hl;obtain⟨a,cap,rfl,hc,_⟩:=h;exact⟨a,cap,rfl,hc,fun e=>by cases e⟩
 |nil=>simp only[iI,Q6]at hl;subst hl;exact⟨none,0,h,O1 _,fun _=>rfl⟩
 |_=>simp[iI]at hl
include hT in
theorem Gh {c:Call}{b:Builtin}(ho:o.op= .call c)(hc:c.callee= .builtin b)(hd:bY o s.n)(h:mT T s b c.args.toList c.argTypes.toList K):∃f,K f∧a7 P o s nx0 id f:=by
 have WI:∀x∈c.args.toList,x∈o.op.operands:=fun x hx=>by rw[ho];simp only[Op.operands,Call.operands];exact Array.mem_append_right _ (by simpa using hx)
 have hex:∀(a:Act) (w:World) (v:Value),(match b with
    |.len=>Builtin.len_ c.argTypes o.type (c.args.map a.eval)
    |.max=>Builtin.max_ c.argTypes o.type (c.args.map a.eval)
    |.min=>Builtin.min_ c.argTypes o.type (c.args.map a.eval)
    |_=>stuck "").run P w= .ok v w→(execOp a.eval o).run P w= .ok (.value v) w:=by
  intro a w v hv;unfold execOp;rw[ho];simp only[resolve,hc,Sem.run_bind,Sem.run_pure,Q7,invoke,Go.builtin]
  cases b<;>simp only at hv<;>first|exact dW hv|(simp at hv;done)
 unfold mT at h
 split at h
 ·-- len
  rename_i x t SL Tx
  have Tm:x∈o.op.operands:=WI x (by rw[SL];simp);have ea:c.args= #[x]:=Array.toList_inj.1 SL;have et:c.argTypes= #[t]:=Array.toList_inj.1 Tx
  cases SZ:T t with
  |none=>rw[SZ]at h;exact h.elim
  |some E=>
   rw[SZ]at h;simp only at h
   split at h
   ·rename_i e VN
    have hu:=fx hT SZ VN
    split at h
    ·rename_i cc hx
     split at h
     ·rename_i n hl
      refine⟨_,h,a7.pure hd fun G dom ρ Z a w hs ha=>⟨.int .i64 n,?_,rfl⟩⟩;have SN:=hs.ev x;rw[aT ha Tm hx]at SN;obtain⟨ad,cap,hv,_,_⟩:=DX hl SN;refine hex a w _ ?_;simp only[ea,et,Builtin.len_,hv,List.map_toArray,List.map_cons,List.map_nil,List.getElem?_toArray,List.getElem?_cons_zero,Sem.run_bind,ay hu,Q7,Sem.run_pure];rfl
     exact h.elim
    exact h.elim
   ·rename_i VN
    obtain⟨_,d,_,_,hu,_,hk,_⟩:=bF hT SZ;rw[VN]at hk;have X9:d= .string:=by
     cases d<;>simp only[cK]at hk
     case string=>rfl
     case struct fs=>split at hk<;>cases hk
     all_goals cases hk
    subst X9
    split at h
    ·rename_i bs hx
     refine⟨_,h,a7.pure hd fun G dom ρ Z a w hs ha=>⟨.int .i64 bs.size,?_,rfl⟩⟩;have SN:=hs.ev x;rw[aT ha Tm hx]at SN;have hv:a.eval x= .string bs:=SN;refine hex a w _ ?_;simp only[ea,et,Builtin.len_,hv,List.map_toArray,List.map_cons,List.map_nil,List.getElem?_toArray,List.getElem?_cons_zero,Sem.run_bind,ay hu,Q7,Sem.run_pure];rfl
    exact h.elim
   exact h.elim
 ·-- max
  rename_i x y SL
  have Tm:x∈o.op.operands:=WI x (by rw[SL];simp);have Xo:y∈o.op.operands:=WI y (by rw[SL];simp);have ea:c.args= #[x,y]:=Array.toList_inj.1 SL
  split at h
  ·rename_i v hv
   unfold N4 at hv
   split at hv
   ·rename_i k x0 k' y0 hx hy
    simp only[Q6]at hv;subst hv;refine⟨_,h,a7.pure hd fun G dom ρ Z a w hs ha=>⟨.int k (if x0<y0 then y0 else x0),?_,rfl⟩⟩;have S8:=hs.ev x;rw[aT ha Tm hx]at S8;have TI:=hs.ev y;rw[aT ha Xo hy]at TI;have S8:a.eval x= .int k x0:=S8;have TI:a.eval y= .int k' y0:=TI;refine hex a w _ ?_;simp only[ea,Builtin.max_,S8,TI,List.map_toArray,List.map_cons,List.map_nil,List.foldlM_cons,List.foldlM_nil,Builtin.max2,Sem.run_bind,Sem.run_pure,Q7]
   cases hv
  exact h.elim
 ·-- min
  rename_i x y SL
  have Tm:x∈o.op.operands:=WI x (by rw[SL];simp);have Xo:y∈o.op.operands:=WI y (by rw[SL];simp);have ea:c.args= #[x,y]:=Array.toList_inj.1 SL
  split at h
  ·rename_i v hv
   unfold E4 at hv
   split at hv
   ·rename_i k x0 k' y0 hx hy
    simp only[Q6]at hv;subst hv;refine⟨_,h,a7.pure hd fun G dom ρ Z a w hs ha=>⟨.int k (if y0<x0 then y0 else x0),?_,rfl⟩⟩;have S8:=hs.ev x;rw[aT ha Tm hx]at S8;have TI:=hs.ev y;rw[aT ha Xo hy]at TI;have S8:a.eval x= .int k x0:=S8;have TI:a.eval y= .int k' y0:=TI;refine hex a w _ ?_;simp only[ea,Builtin.min_,S8,TI,List.map_toArray,List.map_cons,List.map_nil,List.foldlM_cons,List.foldlM_nil,Builtin.min2,Sem.run_bind,Sem.run_pure,Q7]
   cases hv
  exact h.elim
 ·-- min of three
  rename_i x y z SL
  have Tm:x∈o.op.operands:=WI x (by rw[SL];simp);have Xo:y∈o.op.operands:=WI y (by rw[SL];simp);have hzm:z∈o.op.operands:=WI z (by rw[SL];simp);have ea:c.args= #[x,y,z]:=Array.toList_inj.1 SL
  split at h
  ·rename_i v hv
   unfold E4 at hv
   split at hv
   ·rename_i k x0 k' y0 hx hy
    simp only[Q6]at hv;subst hv
    split at h
    ·rename_i u hu
     unfold E4 at hu
     split at hu
     ·rename_i k2 x2 k3 z0 e2 hz
      simp only[V.one.injEq,C.int.injEq]at e2;obtain⟨rfl,rfl⟩:=e2;simp only[Q6]at hu;subst hu;refine⟨_,h,a7.pure hd fun G dom ρ Z a w hs ha=>⟨.int k (if z0<(if y0<x0 then y0 else x0)then z0 else(if y0<x0 then y0 else x0)),?_,rfl⟩⟩;have S8:=hs.ev x;rw[aT ha Tm hx]at S8;have TI:=hs.ev y;rw[aT ha Xo hy]at TI;have hvz:=hs.ev z;rw[aT ha hzm hz]at hvz;have S8:a.eval x= .int k x0:=S8;have TI:a.eval y= .int k' y0:=TI;have hvz:a.eval z= .int k3 z0:=hvz;refine hex a w _ ?_;simp only[ea,Builtin.min_,S8,TI,hvz,List.map_toArray,List.map_cons,List.map_nil,List.foldlM_cons,List.foldlM_nil,Builtin.min2,Sem.run_bind,Sem.run_pure,Q7]
     cases hu
    exact h.elim
   cases hv
  exact h.elim
 exact h.elim
theorem gh (hT:eN P T){fz:Bool}(hd:bY o s.n)(h:eR T P o.op s nx0 id fz K):∃f,K f∧a7 P o s nx0 id f:=by
 cases ho:o.op with
 |move x=>rw[ho]at h;exact MY (.inl ho) hd h
 |assign x=>rw[ho]at h;exact MY (.inr ho) hd h
 |pick c a b=>
  rw[ho]at h;simp only[eR]at h
  split at h
  ·rename_i t ht;exact P2 ho hd ht h
  exact h.elim
 |alloc e=>
  rw[ho]at h;simp only[eR]at h
  split at h
  ·rename_i E hE;exact OH hT ho hd hE h
  exact h.elim
 |box e x=>rw[ho]at h;exact Rp ho hd h.1 h.2
 |build t parts=>
  rw[ho]at h;simp only[eR]at h
  split at h
  ·rename_i E hE
   split at h
   ·rename_i fs ZH
    split at h
    ·rename_i cs hf;exact OK hT ho hd hE ZH hf h
    exact h.elim
   exact h.elim
  exact h.elim
 |buildSlice t len parts=>rw[ho]at h;exact AX hT ho hd h
 |load t x=>rw[ho]at h;exact QM hT ho hd h
 |binOp op t x y t'=>rw[ho]at h;exact RB hT ho hd h
 |unOp op t x=>rw[ho]at h;exact R7 ho hd h
 |convert src dst x=>rw[ho]at h;exact HC hT ho hd h
 |makeSlice t l c=>rw[ho]at h;exact CA hT ho hd h
 |slice t x lo hi mx=>rw[ho]at h;exact NV hT ho hd h
 |fieldAddr t x f=>rw[ho]at h;exact Cv hT ho hd h
 |indexAddr t x i=>rw[ho]at h;exact CO hT ho hd h
 |index t x i=>rw[ho]at h;exact C9 hT ho hd h
 |extract x i=>
  have Tm:x∈o.op.operands:=by rw[ho];simp[Op.operands]
  rw[ho]at h;simp only[eR]at h
  split at h
  ·rename_i vs hx
   split at h
   ·rename_i v hv
    refine⟨_,h,a7.pure hd fun G dom ρ Z a w hs ha=>?_⟩;have SN:=hs.ev x;rw[aT ha Tm hx]at SN;obtain⟨us,U6,hl⟩:=SN;obtain⟨u,hu,hr⟩:=a8.get hl _ _ hv;refine⟨u,?_,cE.wy hr⟩;unfold execOp;rw[ho];refine dW ?_;rw[Array.getElem?_toList]at hu;simp only[U6,Instr.extract,hu,Sem.run_pure]
   exact h.elim
  exact h.elim
 |nilCheck x=>
  have Tm:x∈o.op.operands:=by rw[ho];simp[Op.operands]
  rw[ho]at h;simp only[eR]at h;have key:∀(c:C),s.ev x= .one c→(∀ρ dom ok w v,aF ρ dom ok w c v→∃ad,v= .pointer (some ad))→K ⟨.one c,none,[]⟩→∃f,K f∧a7 P o s nx0 id f:=by
   intro c hx hp hK;refine⟨_,hK,a7.pure hd fun G dom ρ Z a w hs ha=>?_⟩;have SN:=hs.ev x;rw[aT ha Tm hx]at SN;obtain⟨ad,hv⟩:=hp _ _ _ _ _ SN;refine⟨a.eval x,?_,SN⟩;unfold execOp;rw[ho];simp only[hv];rfl
  split at h
  ·rename_i b off hx
   exact key _ hx (fun _ _ _ _ _ hr=>by obtain⟨_,g,o,_,hv⟩:=hr;exact⟨_,hv⟩) h
  ·rename_i c wd i off hx
   exact key _ hx (fun _ _ _ _ _ hr=>by obtain⟨g,o,_,_,_,_,hv⟩:=hr;exact⟨_,hv⟩) h
  ·rename_i b wd i off hx
   exact key _ hx (fun _ _ _ _ _ hr=>by obtain⟨_,_,g,o,_,hv⟩:=hr;exact⟨_,hv⟩) h
  exact h.elim
 |field t x f=>rw[ho]at h;exact Ol hT ho hd h
 |makeFunc fn first captured=>
  rw[ho]at h;simp only[eR]at h
  split at h
  ·rename_i f hf
   obtain⟨Te,h⟩:=h;have e1:first= #[]:=Array.eq_empty_of_size_eq_zero hf;have Zi:∀x∈captured.toList,x∈o.op.operands:=fun x hx=>by rw[ho];simp only[Op.operands];exact Array.mem_append_right _ (by simpa using hx)
   refine⟨_,h,a7.pure hd fun G dom ρ Z a w hs ha=>⟨.func (.func f) #[] (captured.map a.eval),?_,⟨captured.map a.eval,rfl,by simp,fun i hi=>?_⟩⟩⟩
   ·unfold execOp;rw[ho,e1];refine dW ?_
    simp[Instr.makeFunc]
   have hx:captured.toList[i]? =some captured[i]:=by simp[hi]
   have hm:captured[i]∈captured.toList:=List.mem_of_getElem? hx;have h1:rV (s.ev captured[i])=true:=List.all_eq_true.1 Te _ hm;have e2:(captured.toList.map s.ev).getD i .unk=s.ev captured[i]:=by
    rw[X7,List.getElem?_map,hx];rfl
   have e3:(captured.map a.eval).getD i undef=a.eval captured[i]:=by
    simp[Array.getD_eq_getD_getElem?,hi]
   show eE ρ dom _ w (DK ((captured.toList.map s.ev).getD i .unk)) ((captured.map a.eval).getD i undef);rw[e2,e3];have SN:=hs.ev captured[i];rw[ha.ev _ (Zi _ hm)]at SN
   cases hv:s.ev captured[i]with
   |one c=>
    rw[hv]at SN h1;refine eE.qt (fun f n cs hc=>?_) SN;have hc:c= .fn f n cs:=hc;rw[hc]at h1
    simp[rV]at h1
   |agg cs=>rw[hv]at h1;simp[rV]at h1
   |aB cs=>rw[hv]at h1;simp[rV]at h1
   |unk=>rw[hv]at h1;simp[rV]at h1
  exact h.elim
 |call c=>
  rw[ho]at h;simp only[eR]at h
  split at h
  ·rename_i b hb;exact Gh hT ho hb hd h
  ·rename_i g hg;exact QW ho hg hd h
  exact h.elim
 |_=>rw[ho]at h;exact h.elim
end
end Go.Eng
