/-
  ArrangementErrors: for every input the law returns true, and each argument reads afterwards as it read before. No condition.
  (Text 1 of 8; made by a program out of smaller texts.)
-/
import Derived.WalkKit
import Derived.Deep.LoopGhost
import Derived.Laws.BytesArg
import Derived.ChangeKeysEq
import Derived.Laws.StructEq
set_option linter.unusedSimpArgs false
set_option linter.unusedVariables false
set_option maxHeartbeats 16000000
set_option maxRecDepth 10000
open Nat renaming reduceAdd→J1,reduceMul→J2,reduceSub→J3,reduceEqDiff→J4,reduceLT→J5,reduceLeDiff→J6,reduceBEq→J7,reduceDiv→J8,reduceMod→J9,reducePow→J0
open Int renaming reduceToNat→K1,reduceLE→K2,reduceLT→K3,reduceEq→K4,reducePow→K5,reduceSub→K6,reduceNeg→K7,natCast_add→X2,natCast_one→X3,natCast_zero→X4
open List renaming getD_cons_zero→X0,getD_cons_succ→X1,length_take→X5,length_append→X6,getD_eq_getElem?_getD→X7,getElem?_eq_getElem→X8
open Nat renaming le_trans→O0,le_refl→O1,zero_le→O2,not_lt_zero→O5,mul_comm→O6,mod_eq_of_lt→O7,mul_le_mul_right→O8
open Option.some renaming injEq→Q6
open Go.Result renaming andThen_ok→Q7
namespace Go.Eng
open Go
inductive C where
 |any
 |bool (b:Bool)
 |int (k:IntKind) (n:Int)
 |str (s:ByteArray)
 |nil
 |ints (k:IntKind) (xs:List Int)
 |rows (w n:Nat) (f:Nat→Nat→C)
 |own (b w off len:Nat)
 |win (b b2 off len:Nat)
 |ptr (b off:Nat)
 |elt (s:C) (w i off:Nat)
 |eptr (b w i off:Nat)
 |fn (f:FuncId) (n:Nat) (caps:Nat→C)
instance:Inhabited C:=⟨.any⟩
inductive V where
 |unk
 |one (c:C)
 |agg (cs:List C)
 |tup (vs:List V)
instance:Inhabited V:=⟨.unk⟩
inductive Bk where
 |var (cs:List C)
 |ints (e:TypeId) (k:IntKind) (xs:List Int)
 |rows (e:TypeId) (w n:Nat) (f:Nat→Nat→C)
 |wins (e:TypeId) (b2 n:Nat) (g:Nat→C)
def Bk.len:Bk→Nat
 |.var _=>1
 |.ints _ _ xs=>xs.length
 |.rows _ _ n _=>n
 |.wins _ _ n _=>n
def Bk.cell:Bk→Nat→Option C
 |.var cs,j=>cs[j]?
 |.ints _ k xs,j=>(xs[j]?).map (.int k)
 |.rows _ w n f,j=>if j<n*w then some (f (j/w) (j%w))else none
 |.wins _ _ n g,j=>if j<n then some (g j)else none
structure Blk where
 bk:Bk
 rw:Bool
structure St where
 env:List (Nat×V)
 own:List (Nat×Blk)
 nx:Nat
 n:Nat
def lk:List (Nat×V)→Nat→V
 |[],_=>.unk
 |(t',v)::r,t=>if t=t' then v else lk r t
def lo:List (Nat×Blk)→Nat→Option Blk
 |[],_=>none
 |(b',v)::r,b=>if b=b' then some v else lo r b
def upd:List (Nat×Blk)→Nat→Blk→List (Nat×Blk)
 |[],b,B=>[(b,B)]
 |(b',v)::r,b,B=>if b=b' then(b',B)::r else(b',v)::upd r b B
def del:List (Nat×Blk)→Nat→List (Nat×Blk)
 |[],_=>[]
 |(b',v)::r,b=>if b=b' then del r b else(b',v)::del r b
def frz:List (Nat×Blk)→List Nat→List (Nat×Blk)
 |[],_=>[]
 |(b',v)::r,l=>(b',if l.contains b' then⟨v.bk,false⟩else v)::frz r l
theorem lo_upd (l:List (Nat×Blk))(b b':Nat)(B:Blk):lo (upd l b B) b'=if b'=b then some B else lo l b':=by
 induction l with
 |nil=>simp only[upd,lo]
 |cons x r ih=>
  obtain⟨c,v⟩:=x;simp only[upd]
  split
  ·rename_i h;subst h;simp only[lo];split<;>rfl
  rename_i h
  simp only[lo,ih]
  by_cases h1:b'=c
  ·subst h1;rw[if_pos rfl,if_neg (fun e=>h e.symm),if_pos rfl]
  rw[if_neg h1,if_neg h1]
theorem lo_del (l:List (Nat×Blk))(b b':Nat):lo (del l b) b'=if b'=b then none else lo l b':=by
 induction l with
 |nil=>simp only[del,lo];split<;>rfl
 |cons x r ih=>
  obtain⟨c,v⟩:=x;simp only[del]
  split
  ·rename_i h;subst h;rw[ih];simp only[lo];split<;>rfl
  rename_i h
  simp only[lo,ih]
  by_cases h1:b'=c
  ·subst h1;rw[if_pos rfl,if_neg (fun e=>h e.symm),if_pos rfl]
  rw[if_neg h1,if_neg h1]
theorem lo_frz (l:List (Nat×Blk))(fs:List Nat)(b:Nat):lo (frz l fs) b=(lo l b).map fun v=>if fs.contains b then⟨v.bk,false⟩else v:=by
 induction l with
 |nil=>rfl
 |cons x r ih=>
  obtain⟨c,v⟩:=x;simp only[frz,lo]
  split
  ·rename_i h;subst h;rfl
  exact ih
def rowSize (w:World)(g:Nat):Nat:=
 match w.heap[g]? with
 |some (.cells c _ _)=>c.size
 |_=>0
def RepI (ok:Nat→Prop)(w:World):C→Value→Prop
 |.any,v=>v.oneCell'=true
 |.bool b,v=>v= .bool b
 |.int k n,v=>v= .int k n
 |.str s,v=>v= .string s
 |.nil,v=>v= .slice none 0 0
 |.ints k xs,v=>∃a cap,v= .slice a xs.length cap∧xs.length≤cap∧(xs.length=0∨∃g o,a=some ⟨g,o,none⟩∧ok g∧∀i,i<xs.length→w.cell? ⟨g,o+i,none⟩=some (.int k (xs.getD i 0)))
 |.rows wd n f,v=>∃a cap,v= .slice a n cap∧n≤cap∧(n=0∨∃g o,a=some ⟨g,o,none⟩∧ok g∧∀i j,i<n→j<wd→∃u,w.cell? ⟨g,o+(i*wd+j),none⟩=some u∧RepI ok w (f i j) u)
 |.elt s wd i off,v=>∃g o n cap,RepI ok w s (.slice (some ⟨g,o,none⟩) n cap)∧i<n∧v= .pointer (some ⟨g,o+(i*wd+off),none⟩)
 |.fn f n caps,v=>∃cs:Array Value,v= .func (.func f) #[] cs∧cs.size=n∧∀i,i<n→RepI ok w (caps i) (cs.getD i undef)
 |.own ..,_=>False
 |.win ..,_=>False
 |.ptr ..,_=>False
 |.eptr ..,_=>False
structure Loc where
 addr:Option (Nat×Nat)
 len:Nat
def RepB (ρ:Nat→Loc)(dom ok:Nat→Prop)(w:World)(c:C)(v:Value):Prop:=
 match c with
 |.own b wd off len=>dom b∧off+len≤(ρ b).len∧∃cap,len≤cap∧
   (
    (∃g o o',(ρ b).addr=some (g,o)∧v= .slice (some ⟨g,o',none⟩) len cap∧(cap=0∨o'=o+off*wd)∧o+(off+cap)*wd≤rowSize w g)∨
    ((ρ b).addr=none∧v= .slice none 0 0∧len=0∧cap=0))
 |.win b b2 off len=>dom b2∧dom b∧off+len≤(ρ b).len∧∃cap,len≤cap∧
   (
    (∃g o o',(ρ b).addr=some (g,o)∧v= .slice (some ⟨g,o',none⟩) len cap∧(cap=0∨o'=o+off*1)∧o+(off+cap)*1≤rowSize w g)∨
    ((ρ b).addr=none∧v= .slice none 0 0∧len=0∧cap=0))
 |.ptr b off=>dom b∧∃g o,(ρ b).addr=some (g,o)∧v= .pointer (some ⟨g,o+off,none⟩)
 |.eptr b wd i off=>dom b∧i<(ρ b).len∧∃g o,(ρ b).addr=some (g,o)∧v= .pointer (some ⟨g,o+(i*wd+off),none⟩)
 |c=>RepI ok w c v
def RepC (ρ:Nat→Loc)(dom ok:Nat→Prop)(w:World)(c:C)(v:Value):Prop:=
 match c with
 |.fn f n caps=>∃cs:Array Value,v= .func (.func f) #[] cs∧cs.size=n∧∀i,i<n→RepB ρ dom ok w (caps i) (cs.getD i undef)
 |c=>RepB ρ dom ok w c v
def RepL (ρ:Nat→Loc)(dom ok:Nat→Prop)(w:World):List C→List Value→Prop
 |[],[]=>True
 |c::cs,v::vs=>RepC ρ dom ok w c v∧RepL ρ dom ok w cs vs
 |_,_=>False
def RepV1 (ρ:Nat→Loc)(dom ok:Nat→Prop)(w:World):V→Value→Prop
 |.unk,_=>True
 |.one c,v=>RepC ρ dom ok w c v
 |.agg cs,v=>∃vs:Array Value,v= .agg vs∧RepL ρ dom ok w cs vs.toList
 |.tup _,_=>False
def RepVL (ρ:Nat→Loc)(dom ok:Nat→Prop)(w:World):List V→List Value→Prop
 |[],[]=>True
 |c::cs,v::vs=>RepV1 ρ dom ok w c v∧RepVL ρ dom ok w cs vs
 |_,_=>False
def RepV (ρ:Nat→Loc)(dom ok:Nat→Prop)(w:World):V→Value→Prop
 |.tup xs,v=>∃vs:Array Value,v= .tuple vs∧RepVL ρ dom ok w xs vs.toList
 |x,v=>RepV1 ρ dom ok w x v
def RepBk (ρ:Nat→Loc)(dom ok:Nat→Prop)(w:World)(l:Loc)(B:Bk):Prop:=
 match l.addr with
 |some (g,o)=>∃cur e,w.heap[g]? =some (.cells cur e (0,0))∧∀j c,B.cell j=some c→∃u,cur[o+j]? =some u∧
   (match B with|.var _=>RepC ρ dom ok w c u|.wins .. =>RepC ρ dom ok w c u|_=>RepI ok w c u)
 |none=>∀j,B.cell j=none
structure Ctx where
 W0:World
 forb:Nat→Prop
 mine:Nat→Prop
 home:Option Loc:=none
def okOf (G:Ctx)(own:List (Nat×Blk))(ρ:Nat→Loc)(w:World)(g:Nat):Prop:=
 g<w.heap.size∧¬G.forb g∧∀b B,lo own b=some B→B.rw=true→∀o,(ρ b).addr≠some (g,o)
structure SimR (G:Ctx) (dom:Nat→Prop) (ρ:Nat→Loc) (s:St) (a:Act) (w:World):Prop where
 hd:a.defers=[]
 hn:a.tmps.size=s.n
 env:∀t,RepV ρ dom (okOf G s.own ρ w) w (lk s.env t) (a.tmps.getD t undef)
 own:∀b B,lo s.own b=some B→dom b∧(ρ b).len=B.bk.len∧RepBk ρ dom (okOf G s.own ρ w) w (ρ b) B.bk∧
  ∀g o,(ρ b).addr=some (g,o)→g<w.heap.size∧¬G.forb g∧(G.W0.heap.size≤g∨G.mine g)
 inj:∀b B b' B',lo s.own b=some B→lo s.own b'=some B'→b≠b'→B.rw=true→∀g o o',(ρ b).addr=some (g,o)→(ρ b').addr≠some (g,o')
 os:w.os=G.W0.os
 tape:w.tape=G.W0.tape
 output:w.output=G.W0.output
 size:G.W0.heap.size≤w.heap.size
 keep:∀k,k<G.W0.heap.size→¬G.mine k→w.heap[k]? =G.W0.heap[k]?
 wf:∀k,G.forb k→k<G.W0.heap.size
 home:∀l,G.home=some l→dom 0∧ρ 0=l
 room:∀g,rowSize G.W0 g≤rowSize w g
def SimD (G:Ctx)(dom:Nat→Prop)(s:St)(a:Act)(w:World):Prop:=∃ρ,SimR G dom ρ s a w
def Sim (G:Ctx)(s:St)(a:Act)(w:World):Prop:=SimD G (fun b=>b<s.nx) s a w
structure Ext (ok ok':Nat→Prop) (w w':World):Prop where
 block:∀g,ok g→ok' g∧w'.heap[g]? =w.heap[g]?
 room:∀g,rowSize w g≤rowSize w' g
theorem Ext.refl (ok:Nat→Prop)(w:World):Ext ok ok w w:=⟨fun _ h=>⟨h,rfl⟩,fun _=>O1 _⟩
theorem RepI.ext {ok ok':Nat→Prop}{w w':World}(h:Ext ok ok' w w'):∀(c:C) (v:Value),RepI ok w c v→RepI ok' w' c v:=by
 have hc:∀g o u,ok g→w.cell? ⟨g,o,none⟩=some u→w'.cell? ⟨g,o,none⟩=some u:=fun g o u hg hu=>by
  rw[World.cell?_of_block (w:=w) (h.block g hg).2];exact hu
 intro c
 induction c with
 |any=>intro v hv;exact hv
 |bool b=>intro v hv;exact hv
 |int k n=>intro v hv;exact hv
 |str s=>intro v hv;exact hv
 |nil=>intro v hv;exact hv
 |ints k xs=>
  rintro v ⟨a,cap,hv,hle,hr⟩;refine⟨a,cap,hv,hle,?_⟩
  rcases hr with hr|⟨g,o,ha,hg,hcs⟩
  ·exact .inl hr
  exact .inr ⟨g,o,ha,(h.block g hg).1,fun i hi=>hc _ _ _ hg (hcs i hi)⟩
 |rows wd n f ih=>
  rintro v ⟨a,cap,hv,hle,hr⟩;refine⟨a,cap,hv,hle,?_⟩
  rcases hr with hr|⟨g,o,ha,hg,hcs⟩
  ·exact .inl hr
  refine .inr ⟨g,o,ha,(h.block g hg).1,fun i j hi hj=>?_⟩;obtain⟨u,hu,hr⟩:=hcs i j hi hj;exact⟨u,hc _ _ _ hg hu,ih i j u hr⟩
 |own b wd off len=>intro v hv;exact hv.elim
 |win b b2 off len=>intro v hv;exact hv.elim
 |ptr b off=>intro v hv;exact hv.elim
 |elt s wd i off ih=>
  rintro v ⟨g,o,n,cap,hs,hi,hv⟩;exact⟨g,o,n,cap,ih _ hs,hi,hv⟩
 |eptr b wd i off=>intro v hv;exact hv.elim
 |fn f n caps ih=>
  rintro v ⟨cs,hv,hn,hcs⟩;exact⟨cs,hv,hn,fun i hi=>ih i _ (hcs i hi)⟩
structure Same (dm dm':Nat→Prop) (ρ ρ':Nat→Loc):Prop where
 dom:∀b,dm b→dm' b
 loc:∀b,dm b→ρ' b=ρ b
theorem RepB.ext {ok ok' dom dom':Nat→Prop}{ρ ρ':Nat→Loc}{w w':World}(h:Ext ok ok' w w')(hs:Same dom dom' ρ ρ')(c:C)(v:Value)(hr:RepB ρ dom ok w c v):RepB ρ' dom' ok' w' c v:=by
 cases c with
 |own b wd off len=>
  obtain⟨hd,hl,cap,hc,hr⟩:=hr;refine⟨hs.dom _ hd,by rw[hs.loc _ hd];exact hl,cap,hc,?_⟩;rw[hs.loc _ hd]
  rcases hr with⟨g,o,o',ha,hv,ho,hz⟩|hr
  ·exact .inl ⟨g,o,o',ha,hv,ho,O0 hz (h.room g)⟩
  exact .inr hr
 |win b b2 off len=>
  obtain⟨hd2,hd,hl,cap,hc,hr⟩:=hr;refine⟨hs.dom _ hd2,hs.dom _ hd,by rw[hs.loc _ hd];exact hl,cap,hc,?_⟩;rw[hs.loc _ hd]
  rcases hr with⟨g,o,o',ha,hv,ho,hz⟩|hr
  ·exact .inl ⟨g,o,o',ha,hv,ho,O0 hz (h.room g)⟩
  exact .inr hr
 |ptr b off=>
  obtain⟨hd,hr⟩:=hr;exact⟨hs.dom _ hd,by rw[hs.loc _ hd];exact hr⟩
 |eptr b wd i off=>
  obtain⟨hd,hi,hr⟩:=hr;exact⟨hs.dom _ hd,by rw[hs.loc _ hd];exact hi,by rw[hs.loc _ hd];exact hr⟩
 |_=>exact RepI.ext h _ v hr
theorem RepC.ext {ok ok' dom dom':Nat→Prop}{ρ ρ':Nat→Loc}{w w':World}(h:Ext ok ok' w w')(hs:Same dom dom' ρ ρ')(c:C)(v:Value)(hr:RepC ρ dom ok w c v):RepC ρ' dom' ok' w' c v:=by
 cases c with
 |fn f n caps=>
  obtain⟨cs,hv,hn,hcs⟩:=hr;exact⟨cs,hv,hn,fun i hi=>RepB.ext h hs _ _ (hcs i hi)⟩
 |any=>exact RepB.ext h hs .any v hr
 |bool b=>exact RepB.ext h hs (.bool b) v hr
 |int k n=>exact RepB.ext h hs (.int k n) v hr
 |str s=>exact RepB.ext h hs (.str s) v hr
 |nil=>exact RepB.ext h hs .nil v hr
 |ints k xs=>exact RepB.ext h hs (.ints k xs) v hr
 |rows wd n f=>exact RepB.ext h hs (.rows wd n f) v hr
 |own b wd off len=>exact RepB.ext h hs (.own b wd off len) v hr
 |win b b2 off len=>exact RepB.ext h hs (.win b b2 off len) v hr
 |ptr b off=>exact RepB.ext h hs (.ptr b off) v hr
 |elt s wd i off=>exact RepB.ext h hs (.elt s wd i off) v hr
 |eptr b wd i off=>exact RepB.ext h hs (.eptr b wd i off) v hr
theorem RepL.ext {ok ok' dom dom':Nat→Prop}{ρ ρ':Nat→Loc}{w w':World}(h:Ext ok ok' w w')(hs:Same dom dom' ρ ρ'):∀(cs:List C) (vs:List Value),RepL ρ dom ok w cs vs→RepL ρ' dom' ok' w' cs vs
 |[],[],_=>trivial
 |_::cs,_::vs,hr=>⟨RepC.ext h hs _ _ hr.1,RepL.ext h hs cs vs hr.2⟩
 |[],_::_,hr=>hr.elim
 |_::_,[],hr=>hr.elim
theorem RepV1.ext {ok ok' dom dom':Nat→Prop}{ρ ρ':Nat→Loc}{w w':World}(h:Ext ok ok' w w')(hs:Same dom dom' ρ ρ')(x:V)(v:Value)(hr:RepV1 ρ dom ok w x v):RepV1 ρ' dom' ok' w' x v:=by
 cases x with
 |unk=>trivial
 |one c=>exact RepC.ext h hs _ _ hr
 |agg cs=>obtain⟨vs,hv,hl⟩:=hr;exact⟨vs,hv,RepL.ext h hs _ _ hl⟩
 |tup xs=>exact hr.elim
theorem RepVL.ext {ok ok' dom dom':Nat→Prop}{ρ ρ':Nat→Loc}{w w':World}(h:Ext ok ok' w w')(hs:Same dom dom' ρ ρ'):∀(cs:List V) (vs:List Value),RepVL ρ dom ok w cs vs→RepVL ρ' dom' ok' w' cs vs
 |[],[],_=>trivial
 |_::cs,_::vs,hr=>⟨RepV1.ext h hs _ _ hr.1,RepVL.ext h hs cs vs hr.2⟩
 |[],_::_,hr=>hr.elim
 |_::_,[],hr=>hr.elim
theorem RepV.ext {ok ok' dom dom':Nat→Prop}{ρ ρ':Nat→Loc}{w w':World}(h:Ext ok ok' w w')(hs:Same dom dom' ρ ρ')(x:V)(v:Value)(hr:RepV ρ dom ok w x v):RepV ρ' dom' ok' w' x v:=by
 cases x with
 |unk=>trivial
 |one c=>exact RepV1.ext h hs (.one c) _ hr
 |agg cs=>exact RepV1.ext h hs (.agg cs) _ hr
 |tup xs=>obtain⟨vs,hv,hl⟩:=hr;exact⟨vs,hv,RepVL.ext h hs _ _ hl⟩
theorem RepBk.ext {ok ok' dom dom':Nat→Prop}{ρ ρ':Nat→Loc}{w w':World}(h:Ext ok ok' w w')(hs:Same dom dom' ρ ρ')(l:Loc)(B:Bk)
  (hb:∀g o,l.addr=some (g,o)→w'.heap[g]? =w.heap[g]?) (hr:RepBk ρ dom ok w l B):RepBk ρ' dom' ok' w' l B:=by
 unfold RepBk at*
 cases ha:l.addr with
 |none=>rw[ha]at hr;exact hr
 |some x=>
  obtain⟨g,o⟩:=x;rw[ha]at hr;obtain⟨cur,e,hg,hc⟩:=hr;refine⟨cur,e,by rw[hb g o ha];exact hg,fun j c hj=>?_⟩;obtain⟨u,hu,hr⟩:=hc j c hj;refine⟨u,hu,?_⟩
  cases B with
  |var cs=>exact RepC.ext h hs _ _ hr
  |ints e k xs=>exact RepI.ext h _ _ hr
  |rows e wd n f=>exact RepI.ext h _ _ hr
  |wins e b2 n g=>exact RepC.ext h hs _ _ hr
end Go.Eng
namespace Go.Eng
open Go
theorem lk_cons (r:List (Nat×V))(t':Nat)(v:V)(t:Nat):lk ((t',v)::r) t=if t=t' then v else lk r t:=rfl
def St.put (s:St)(dst:Option Tmp)(v:V):St:=
 match dst with
 |some d=>{s with env:=(d,v)::s.env}
 |none=>s
theorem SimR.put {G:Ctx}{dom:Nat→Prop}{ρ:Nat→Loc}{s:St}{a:Act}{w:World}(h:SimR G dom ρ s a w){dst:Option Tmp}{x:V}{v:Value}
  (hd:∀d,dst=some d→d<s.n) (hv:RepV ρ dom (okOf G s.own ρ w) w x v):SimR G dom ρ (s.put dst x) (a.put dst v) w:=by
 cases dst with
 |none=>exact h
 |some d=>
  have hlt:=hd d rfl
  refine{hd:=h.hd,hn:=by simpa[Act.put,St.put]using h.hn,env:=fun t=>?_,own:=h.own,inj:=h.inj,os:=h.os,tape:=h.tape,output:=h.output,size:=h.size,keep:=h.keep,wf:=h.wf,home:=h.home,room:=h.room}
  show RepV ρ dom _ w (lk ((d,x)::s.env) t) ((a.tmps.setIfInBounds d v).getD t undef);rw[lk_cons]
  by_cases ht:t=d
  ·subst ht;rw[if_pos rfl]
   have:(a.tmps.setIfInBounds t v).getD t undef=v:=by
    have hs:t<a.tmps.size:=by rw[h.hn];exact hlt
    simp[Array.getD,hs]
   rw[this];exact hv
  rw[if_neg ht]
  have:(a.tmps.setIfInBounds d v).getD t undef=a.tmps.getD t undef:=by
   simp only[Array.getD_eq_getD_getElem?];rw[Array.getElem?_setIfInBounds_ne (fun e=>ht e.symm)]
  rw[this];exact h.env t
theorem SimR.turn {G:Ctx}{dom dom':Nat→Prop}{ρ ρ':Nat→Loc}{s:St}{a:Act}{w w':World}{own':List (Nat×Blk)}(h:SimR G dom ρ s a w)
  (hx:Ext (okOf G s.own ρ w) (okOf G own' ρ' w') w w') (hs:Same dom dom' ρ ρ')
  (hown:∀b B,lo own' b=some B→dom' b∧(ρ' b).len=B.bk.len∧RepBk ρ' dom' (okOf G own' ρ' w') w' (ρ' b) B.bk∧
   ∀g o,(ρ' b).addr=some (g,o)→g<w'.heap.size∧¬G.forb g∧(G.W0.heap.size≤g∨G.mine g))
  (hinj:∀b B b' B',lo own' b=some B→lo own' b'=some B'→b≠b'→B.rw=true→∀g o o',(ρ' b).addr=some (g,o)→(ρ' b').addr≠some (g,o'))
  (hos:w'.os=w.os) (htape:w'.tape=w.tape) (hout:w'.output=w.output) (hsize:w.heap.size≤w'.heap.size)
  (hkeep:∀k,k<G.W0.heap.size→¬G.mine k→w'.heap[k]? =w.heap[k]?):SimR G dom' ρ' {s with own:=own'} a w':=
 {
  hd:=h.hd,hn:=h.hn,env:=fun t=>RepV.ext hx hs _ _ (h.env t),own:=hown,inj:=hinj,os:=hos.trans h.os,tape:=htape.trans h.tape,output:=hout.trans h.output,
  size:=O0 h.size hsize,keep:=fun k hk hm=>(hkeep k hk hm).trans (h.keep k hk hm),wf:=h.wf,
  home:=fun l hl=>⟨hs.dom _ (h.home l hl).1,(hs.loc _ (h.home l hl).1).trans (h.home l hl).2⟩,room:=fun g=>O0 (h.room g) (hx.room g)}
theorem okOf_frz {G:Ctx}{own:List (Nat×Blk)}{ρ:Nat→Loc}{w:World}{fs:List Nat}{g:Nat}(h:okOf G own ρ w g):okOf G (frz own fs) ρ w g:=by
 refine⟨h.1,h.2.1,fun b B hb hrw=>?_⟩;rw[lo_frz]at hb
 cases hl:lo own b with
 |none=>rw[hl]at hb;simp at hb
 |some B0=>
  rw[hl]at hb;simp only[Option.map_some,Q6]at hb;refine h.2.2 b B0 hl ?_
  split at hb
  ·subst hb;simp at hrw
  subst hb;exact hrw
theorem SimR.frz {G:Ctx}{dom:Nat→Prop}{ρ:Nat→Loc}{s:St}{a:Act}{w:World}(h:SimR G dom ρ s a w)(fs:List Nat):
  SimR G dom ρ {s with own:=Eng.frz s.own fs} a w:=by
 have hext:Ext (okOf G s.own ρ w) (okOf G (Eng.frz s.own fs) ρ w) w w:=⟨fun g hg=>⟨okOf_frz hg,rfl⟩,fun _=>O1 _⟩;have hs:Same dom dom ρ ρ:=⟨fun _ h=>h,fun _ _=>rfl⟩;refine h.turn hext hs ?_ ?_ rfl rfl rfl (O1 _) (fun _ _ _=>rfl)
 ·intro b B hb;rw[lo_frz]at hb
  cases hl:lo s.own b with
  |none=>rw[hl]at hb;simp at hb
  |some B0=>
   rw[hl]at hb;simp only[Option.map_some,Q6]at hb
   have hbk:B.bk=B0.bk:=by split at hb<;>(subst hb;rfl)
   obtain⟨h1,h2,h3,h4⟩:=h.own b B0 hl;rw[hbk];exact⟨h1,h2,RepBk.ext hext hs _ _ (fun _ _ _=>rfl) h3,h4⟩
 intro b B b' B' hb hb' hne hrw g o o' hg;rw[lo_frz]at hb hb'
 cases hl:lo s.own b with
 |none=>rw[hl]at hb;simp at hb
 |some B0=>
  cases hl':lo s.own b' with
  |none=>rw[hl']at hb';simp at hb'
  |some B1=>
   rw[hl]at hb;simp only[Option.map_some,Q6]at hb;refine h.inj b B0 b' B1 hl hl' hne ?_ g o o' hg
   split at hb
   ·subst hb;simp at hrw
   subst hb;exact hrw
theorem rowSize_of_block {w w':World}{g:Nat}(h:w'.heap[g]? =w.heap[g]?):rowSize w' g=rowSize w g:=by simp[rowSize,h]
theorem rowSize_lt {w:World}{g:Nat}(h:¬g<w.heap.size):rowSize w g=0:=by simp[rowSize,Array.getElem?_eq_none (Nat.le_of_not_lt h)]
theorem RepBk.lt {ρ:Nat→Loc}{dom ok:Nat→Prop}{w:World}{l:Loc}{B:Bk}(h:RepBk ρ dom ok w l B){g o:Nat}(ha:l.addr=some (g,o)):g<w.heap.size:=by
 unfold RepBk at h;rw[ha]at h;obtain⟨cur,e,hg,_⟩:=h;exact(Array.getElem?_eq_some_iff.1 hg).1
theorem SimR.grown {G:Ctx}{dom:Nat→Prop}{ρ:Nat→Loc}{s:St}{a:Act}{w w':World}(h:SimR G dom ρ s a w)(hb:Go.RowKit.Below w.heap.size w w'):SimR G dom ρ s a w':=by
 have hext:Ext (okOf G s.own ρ w) (okOf G s.own ρ w') w w':=
  ⟨fun g hg=>⟨⟨Nat.lt_of_lt_of_le hg.1 hb.size,hg.2⟩,hb.block g hg.1⟩,fun g=>by
   by_cases hg:g<w.heap.size
   ·rw[rowSize_of_block (hb.block g hg)];exact O1 _
   rw[rowSize_lt hg];exact O2 _⟩
 have hs:Same dom dom ρ ρ:=⟨fun _ h=>h,fun _ _=>rfl⟩;refine h.turn (own':=s.own) hext hs ?_ h.inj hb.os hb.tape hb.output hb.size (fun k hk _=>hb.block k (Nat.lt_of_lt_of_le hk h.size));intro b B hl;obtain⟨h1,h2,h3,h4⟩:=h.own b B hl;exact⟨h1,h2,RepBk.ext hext hs _ _ (fun g o ha=>hb.block g (h4 g o ha).1) h3,fun g o ha=>⟨Nat.lt_of_lt_of_le (h4 g o ha).1 hb.size,(h4 g o ha).2⟩⟩
def setLoc (ρ:Nat→Loc)(id:Nat)(l:Loc):Nat→Loc:=fun b=>if b=id then l else ρ b
theorem sLs (ρ:Nat→Loc)(id:Nat)(l:Loc):setLoc ρ id l id=l:=if_pos rfl
theorem setLoc_ne (ρ:Nat→Loc){id b:Nat}(l:Loc)(h:b≠id):setLoc ρ id l b=ρ b:=if_neg h
theorem below_alloc (w:World)(o:Obj):Go.RowKit.Below w.heap.size w (w.alloc o):=(Go.RowKit.Below.refl _ _).alloc (O1 _) _
theorem Same.setLoc {dom:Nat→Prop}(ρ:Nat→Loc){id:Nat}(l:Loc)(hid:¬dom id):Same dom (fun b=>dom b∨b=id) ρ (setLoc ρ id l):=
 ⟨fun _ h=>.inl h,fun b hb=>setLoc_ne ρ l (fun e=>hid (e▸hb))⟩
theorem SimR.newBlk {G:Ctx}{dom:Nat→Prop}{ρ:Nat→Loc}{s:St}{a:Act}{w:World}(h:SimR G dom ρ s a w){id:Nat}(hid:¬dom id)(B:Bk)(cells:Array Value)(e:TypeId)
  (hrep:∀j c,B.cell j=some c→∃u,cells[j]? =some u∧(match B with|.var _=>RepC ρ dom (okOf G s.own ρ w) w c u|.wins .. =>RepC ρ dom (okOf G s.own ρ w) w c u|_=>RepI (okOf G s.own ρ w) w c u)):
  SimR G (fun b=>dom b∨b=id) (setLoc ρ id ⟨some (w.heap.size,0),B.len⟩) {s with own:=upd s.own id ⟨B,true⟩} a (w.alloc (.cells cells e)):=by
 have hb:=below_alloc w (.cells cells e);have hs:=Same.setLoc ρ ⟨some (w.heap.size,0),B.len⟩ hid;have hne:∀b B',lo s.own b=some B'→b≠id:=fun b B' hl e=>hid (e▸(h.own b B' hl).1);have hext:Ext (okOf G s.own ρ w) (okOf G (upd s.own id ⟨B,true⟩) (Eng.setLoc ρ id ⟨some (w.heap.size,0),B.len⟩) (w.alloc (.cells cells e))) w (w.alloc (.cells cells e)):=by
  refine⟨fun g hg=>⟨⟨Nat.lt_of_lt_of_le hg.1 hb.size,hg.2.1,fun b B' hl hrw o=>?_⟩,hb.block g hg.1⟩,fun g=>?_⟩
  ·rw[lo_upd]at hl
   by_cases hbi:b=id
   ·subst hbi;rw[sLs];intro he
    have:w.heap.size=g:=by simpa using congrArg (Option.map Prod.fst) he
    exact absurd hg.1 (by omega)
   rw[if_neg hbi]at hl;rw[setLoc_ne _ _ hbi];exact hg.2.2 b B' hl hrw o
  by_cases hg:g<w.heap.size
  ·rw[rowSize_of_block (hb.block g hg)];exact O1 _
  rw[rowSize_lt hg];exact O2 _
 refine h.turn hext hs ?_ ?_ hb.os hb.tape hb.output hb.size (fun k hk _=>hb.block k (Nat.lt_of_lt_of_le hk h.size))
 ·intro b B' hl;rw[lo_upd]at hl
  by_cases hbi:b=id
  ·subst hbi;rw[if_pos rfl]at hl;obtain rfl:=Option.some.inj hl;rw[sLs];refine⟨.inr rfl,rfl,?_,fun g o ha=>?_⟩
   ·unfold RepBk;refine⟨cells,e,heap_alloc_new w _,fun j c hj=>?_⟩;obtain⟨u,hu,hr⟩:=hrep j c hj;refine⟨u,by simpa using hu,?_⟩
    cases B with
    |var cs=>exact RepC.ext hext hs _ _ hr
    |ints e k xs=>exact RepI.ext hext _ _ hr
    |rows e wd n f=>exact RepI.ext hext _ _ hr
    |wins e b2 n g=>exact RepC.ext hext hs _ _ hr
   have:w.heap.size=g:=by simpa using congrArg (Option.map Prod.fst) ha
   subst this;exact⟨by simp,fun hf=>absurd (h.wf _ hf) (by have:=h.size;omega),.inl h.size⟩
  rw[if_neg hbi]at hl;rw[setLoc_ne _ _ hbi];obtain⟨h1,h2,h3,h4⟩:=h.own b B' hl;exact⟨.inl h1,h2,RepBk.ext hext hs _ _ (fun g o ha=>hb.block g (h4 g o ha).1) h3,fun g o ha=>⟨Nat.lt_of_lt_of_le (h4 g o ha).1 hb.size,(h4 g o ha).2⟩⟩
 intro b B1 b' B2 hl hl' hne' hrw g o o' ha;rw[lo_upd]at hl hl'
 by_cases hbi:b=id
 ·subst hbi;rw[if_neg (fun e=>hne' e.symm)]at hl';rw[sLs]at ha;rw[setLoc_ne _ _ (fun e=>hne' e.symm)];have hg:w.heap.size=g:=by simpa using congrArg (Option.map Prod.fst) ha
  intro ha'
  have:=((h.own b' B2 hl').2.2.2 g o' ha').1
  omega
 rw[if_neg hbi]at hl;rw[setLoc_ne _ _ hbi]at ha
 by_cases hbi':b'=id
 ·subst hbi';rw[sLs];intro ha';have hg:w.heap.size=g:=by simpa using congrArg (Option.map Prod.fst) ha'
  have:=((h.own b B1 hl).2.2.2 g o ha).1
  omega
 rw[if_neg hbi']at hl';rw[setLoc_ne _ _ hbi'];exact h.inj b B1 b' B2 hl hl' hne' hrw g o o' ha
theorem SimR.newBlk' {G:Ctx}{dom:Nat→Prop}{ρ:Nat→Loc}{s:St}{a:Act}{w w':World}(h:SimR G dom ρ s a w)(hb:Go.RowKit.Below w.heap.size w w'){id:Nat}(hid:¬dom id)(B:Bk)(l:Loc)(hlen:l.len=B.len)
  (hnew:∀g o,l.addr=some (g,o)→w.heap.size≤g∧g<w'.heap.size)
  (hrep:RepBk (setLoc ρ id l) (fun b=>dom b∨b=id) (okOf G (upd s.own id ⟨B,true⟩) (setLoc ρ id l) w') w' l B):
  SimR G (fun b=>dom b∨b=id) (setLoc ρ id l) {s with own:=upd s.own id ⟨B,true⟩} a w':=by
 have hs:=Same.setLoc ρ l hid;have hne:∀b B',lo s.own b=some B'→b≠id:=fun b B' hl e=>hid (e▸(h.own b B' hl).1);have hext:Ext (okOf G s.own ρ w) (okOf G (upd s.own id ⟨B,true⟩) (Eng.setLoc ρ id l) w') w w':=by
  refine⟨fun g hg=>⟨⟨Nat.lt_of_lt_of_le hg.1 hb.size,hg.2.1,fun b B' hl hrw o=>?_⟩,hb.block g hg.1⟩,fun g=>?_⟩
  ·rw[lo_upd]at hl
   by_cases hbi:b=id
   ·subst hbi;rw[sLs];intro he
    have:=(hnew g o he).1
    exact absurd hg.1 (by omega)
   rw[if_neg hbi]at hl;rw[setLoc_ne _ _ hbi];exact hg.2.2 b B' hl hrw o
  by_cases hg:g<w.heap.size
  ·rw[rowSize_of_block (hb.block g hg)];exact O1 _
  rw[rowSize_lt hg];exact O2 _
 refine h.turn hext hs ?_ ?_ hb.os hb.tape hb.output hb.size (fun k hk _=>hb.block k (Nat.lt_of_lt_of_le hk h.size))
 ·intro b B' hl;rw[lo_upd]at hl
  by_cases hbi:b=id
  ·subst hbi;rw[if_pos rfl]at hl;obtain rfl:=Option.some.inj hl;rw[sLs];refine⟨.inr rfl,hlen,hrep,fun g o ha=>?_⟩
   have:=hnew g o ha
   exact⟨this.2,fun hf=>absurd (h.wf _ hf) (by have:=h.size;omega),.inl (O0 h.size this.1)⟩
  rw[if_neg hbi]at hl;rw[setLoc_ne _ _ hbi];obtain⟨h1,h2,h3,h4⟩:=h.own b B' hl;exact⟨.inl h1,h2,RepBk.ext hext hs _ _ (fun g o ha=>hb.block g (h4 g o ha).1) h3,fun g o ha=>⟨Nat.lt_of_lt_of_le (h4 g o ha).1 hb.size,(h4 g o ha).2⟩⟩
 intro b B1 b' B2 hl hl' hne' hrw g o o' ha;rw[lo_upd]at hl hl'
 by_cases hbi:b=id
 ·subst hbi;rw[if_neg (fun e=>hne' e.symm)]at hl';rw[sLs]at ha;rw[setLoc_ne _ _ (fun e=>hne' e.symm)];have hg:=(hnew g o ha).1;intro ha'
  have:=((h.own b' B2 hl').2.2.2 g o' ha').1
  omega
 rw[if_neg hbi]at hl;rw[setLoc_ne _ _ hbi]at ha
 by_cases hbi':b'=id
 ·subst hbi';rw[sLs];intro ha';have hg:=(hnew g o' ha').1
  have:=((h.own b B1 hl).2.2.2 g o ha).1
  omega
 rw[if_neg hbi']at hl';rw[setLoc_ne _ _ hbi'];exact h.inj b B1 b' B2 hl hl' hne' hrw g o o' ha
theorem SimR.newBlk2 {G:Ctx}{dom:Nat→Prop}{ρ:Nat→Loc}{s:St}{a:Act}{w w':World}(h:SimR G dom ρ s a w)(hb:Go.RowKit.Below w.heap.size w w'){i j:Nat}(hi:¬dom i)(hj:¬dom j)(hij:i≠j)(Bi Bj:Bk)(li lj:Loc)
  (hli:li.len=Bi.len) (hlj:lj.len=Bj.len) (hni:∀g o,li.addr=some (g,o)→w.heap.size≤g∧g<w'.heap.size) (hnj:∀g o,lj.addr=some (g,o)→w.heap.size≤g∧g<w'.heap.size)
  (hd:∀g o o',li.addr=some (g,o)→lj.addr≠some (g,o'))
  (hri:RepBk (setLoc (setLoc ρ i li) j lj) (fun b=>(dom b∨b=i)∨b=j) (okOf G (upd (upd s.own i ⟨Bi,true⟩) j ⟨Bj,true⟩) (setLoc (setLoc ρ i li) j lj) w') w' li Bi)
  (hrj:RepBk (setLoc (setLoc ρ i li) j lj) (fun b=>(dom b∨b=i)∨b=j) (okOf G (upd (upd s.own i ⟨Bi,true⟩) j ⟨Bj,true⟩) (setLoc (setLoc ρ i li) j lj) w') w' lj Bj):
  SimR G (fun b=>(dom b∨b=i)∨b=j) (setLoc (setLoc ρ i li) j lj) {s with own:=upd (upd s.own i ⟨Bi,true⟩) j ⟨Bj,true⟩} a w':=by
 have hs:Same dom (fun b=>(dom b∨b=i)∨b=j) ρ (Eng.setLoc (Eng.setLoc ρ i li) j lj):=⟨fun b h=>.inl (.inl h),fun b hb2=>by
  have h1:b≠j:=fun e=>hj (e▸hb2);have h2:b≠i:=fun e=>hi (e▸hb2);rw[setLoc_ne _ _ h1,setLoc_ne _ _ h2]⟩
 have hwh:∀b B,lo (upd (upd s.own i ⟨Bi,true⟩) j ⟨Bj,true⟩) b=some B→(b=j∧B=⟨Bj,true⟩∧Eng.setLoc (Eng.setLoc ρ i li) j lj b=lj)∨(b=i∧B=⟨Bi,true⟩∧Eng.setLoc (Eng.setLoc ρ i li) j lj b=li)∨
   (b≠i∧b≠j∧lo s.own b=some B∧Eng.setLoc (Eng.setLoc ρ i li) j lj b=ρ b):=by
  intro b B hl;rw[lo_upd]at hl
  by_cases h1:b=j
  ·subst h1;rw[if_pos rfl]at hl;exact .inl ⟨rfl,(Option.some.inj hl).symm,sLs ..⟩
  rw[if_neg h1,lo_upd]at hl
  by_cases h2:b=i
  ·subst h2;rw[if_pos rfl]at hl;exact .inr (.inl ⟨rfl,(Option.some.inj hl).symm,by rw[setLoc_ne _ _ h1,sLs]⟩)
  rw[if_neg h2]at hl;exact .inr (.inr ⟨h2,h1,hl,by rw[setLoc_ne _ _ h1,setLoc_ne _ _ h2]⟩)
 have hext:Ext (okOf G s.own ρ w) (okOf G (upd (upd s.own i ⟨Bi,true⟩) j ⟨Bj,true⟩) (Eng.setLoc (Eng.setLoc ρ i li) j lj) w') w w':=by
  refine⟨fun g hg=>⟨⟨Nat.lt_of_lt_of_le hg.1 hb.size,hg.2.1,fun b B' hl hrw o he=>?_⟩,hb.block g hg.1⟩,fun g=>?_⟩
  ·rcases hwh b B' hl with⟨_,_,e⟩|⟨_,_,e⟩|⟨_,_,hl',e⟩
   ·rw[e]at he;exact absurd hg.1 (by have:=(hnj g o he).1;omega)
   ·rw[e]at he;exact absurd hg.1 (by have:=(hni g o he).1;omega)
   rw[e]at he;exact hg.2.2 b B' hl' hrw o he
  by_cases hg:g<w.heap.size
  ·rw[rowSize_of_block (hb.block g hg)];exact O1 _
  rw[rowSize_lt hg];exact O2 _
 refine h.turn hext hs ?_ ?_ hb.os hb.tape hb.output hb.size (fun k hk _=>hb.block k (Nat.lt_of_lt_of_le hk h.size))
 ·intro b B' hl
  rcases hwh b B' hl with⟨rfl,rfl,e⟩|⟨rfl,rfl,e⟩|⟨_,_,hl',e⟩
  ·rw[e];refine⟨.inr rfl,hlj,hrj,fun g o ha=>?_⟩
   have:=hnj g o ha
   exact⟨this.2,fun hf=>absurd (h.wf _ hf) (by have:=h.size;omega),.inl (O0 h.size this.1)⟩
  ·rw[e];refine⟨.inl (.inr rfl),hli,hri,fun g o ha=>?_⟩
   have:=hni g o ha
   exact⟨this.2,fun hf=>absurd (h.wf _ hf) (by have:=h.size;omega),.inl (O0 h.size this.1)⟩
  rw[e];obtain⟨h1,h2,h3,h4⟩:=h.own b B' hl';exact⟨.inl (.inl h1),h2,RepBk.ext hext hs _ _ (fun g o ha=>hb.block g (h4 g o ha).1) h3,fun g o ha=>⟨Nat.lt_of_lt_of_le (h4 g o ha).1 hb.size,(h4 g o ha).2⟩⟩
 intro b B1 b' B2 hl hl' hne hrw g o o' ha ha'
 rcases hwh b B1 hl with⟨rfl,rfl,e⟩|⟨rfl,rfl,e⟩|⟨_,_,hl1,e⟩<;>rcases hwh b' B2 hl' with⟨rfl,rfl,e'⟩|⟨rfl,rfl,e'⟩|⟨_,_,hl2,e'⟩<;>rw [e]at ha<;>rw [e']at ha'
 ·exact hne rfl
 ·exact hd g o' o ha' ha
 ·exact absurd ((h.own b' B2 hl2).2.2.2 g o' ha').1 (by have:=(hnj g o ha).1;omega)
 ·exact hd g o o' ha ha'
 ·exact hne rfl
 ·exact absurd ((h.own b' B2 hl2).2.2.2 g o' ha').1 (by have:=(hni g o ha).1;omega)
 ·exact absurd ((h.own b B1 hl1).2.2.2 g o ha).1 (by have:=(hnj g o' ha').1;omega)
 ·exact absurd ((h.own b B1 hl1).2.2.2 g o ha).1 (by have:=(hni g o' ha').1;omega)
 exact h.inj b B1 b' B2 hl1 hl2 hne hrw g o o' ha ha'
theorem SimR.okNew {G:Ctx}{dom:Nat→Prop}{ρ:Nat→Loc}{s:St}{a:Act}{w:World}(h:SimR G dom ρ s a w){o:Obj}:okOf G s.own ρ (w.alloc o) w.heap.size:=
 ⟨by simp,fun hf=>absurd (h.wf _ hf) (by have:=h.size;omega),fun b B hl _ o ha=>absurd ((h.own b B hl).2.2.2 _ _ ha).1 (by omega)⟩
theorem okOf_alloc {G:Ctx}{own:List (Nat×Blk)}{ρ:Nat→Loc}{w:World}{o:Obj}{g:Nat}(h:okOf G own ρ w g):okOf G own ρ (w.alloc o) g:=
 ⟨Nat.lt_of_lt_of_le h.1 (below_alloc w o).size,h.2⟩
end Go.Eng
namespace Go.Eng
open Go
inductive TyK where
 |int (k:IntKind)
 |bool
 |str
 |sl (e:TypeId)
 |st (fs:List (Nat×Nat))
 |arr (n:Nat) (e:TypeId)
 |fn
 |other
structure Ty where
 k:TyK
 size:Nat
 bytes:Nat
 zero:List C
 fl:List Bool:=[]
def cvC:Value→C
 |.int k n=>.int k n
 |.bool b=>.bool b
 |.string s=>.str s
 |.slice a n c=>match a,n,c with
  |none,0,0=>.nil
  |_,_,_=>.any
 |.func fn first captured=>match fn,first.size,captured.size with
  |.func f,0,0=>.fn f 0 (fun _=>.any)
  |_,_,_=>.any
 |_=>.any
def cv:Value→V
 |.agg cs=>if cs.toList.all Value.oneCell' then .agg (cs.toList.map cvC)else .unk
 |.tuple _=>.unk
 |v=>.one (cvC v)
def kindOf (P:Program):TypeDesc→TyK
 |.int k=>.int k
 |.bool=>.bool
 |.string=>.str
 |.slice e=>.sl e
 |.struct fs=>match fs.toList.mapM (fun f=>(P.info? f.type).map fun i=>(f.offset,i.size))with
  |some pl=>.st pl
  |none=>.other
 |.func _ _ _=>.fn
 |.array n e=>.arr n e
 |_=>.other
theorem kindOf_st {P:Program}{d:TypeDesc}{pl:List (Nat×Nat)}(h:kindOf P d= .st pl):∃fs,d= .struct fs∧fs.toList.mapM (fun f=>(P.info? f.type).map fun i=>(f.offset,i.size))=some pl:=by
 cases d<;>simp only[kindOf]at h
 case struct fs=>
  refine⟨fs,rfl,?_⟩
  split at h
  ·rename_i pl' hp;cases h;exact hp
  cases h
 all_goals cases h
theorem mapM_get {P:Program}:∀(fs:List Field) (pl:List (Nat×Nat)),fs.mapM (fun f=>(P.info? f.type).map fun i=>(f.offset,i.size))=some pl→
  ∀(j:Nat) p,pl[j]? =some p→∃f i,fs[j]? =some f∧P.info? f.type=some i∧p=(f.offset,i.size)
 |[],pl,h,j,p,hj=>by simp at h;subst h;simp at hj
 |f::fs,pl,h,j,p,hj=>by
  simp only[List.mapM_cons,Option.bind_eq_bind,Option.pure_def]at h
  cases hi:P.info? f.type with
  |none=>rw[hi]at h;simp at h
  |some i=>
   rw[hi]at h;simp only[Option.map_some,Option.bind_some]at h
   cases hr:fs.mapM (fun f=>(P.info? f.type).map fun i=>(f.offset,i.size))with
   |none=>rw[hr]at h;simp at h
   |some rest=>
    rw[hr]at h;simp only[Option.bind_some,Q6]at h;subst h
    cases j with
    |zero=>simp at hj;exact⟨f,i,rfl,hi,hj.symm⟩
    |succ j=>exact mapM_get fs rest hr j p (by simpa using hj)
def flOf (P:Program):TypeDesc→List Bool
 |.struct fs=>fs.toList.map fun f=>match P.underlying f.type with
  |some d=>match(kindOf P d)with
   |.st _=>false
   |.arr _ _=>false
   |.other=>false
   |_=>true
  |none=>false
 |_=>[]
def tyOf (P:Program)(t:TypeId):Option Ty:=
 match P.info? t,P.underlying t with
 |some i,some d=>match i.zero with
  |some z=>if z.cells.toList.all Value.oneCell' then some {k:=kindOf P d,size:=i.size,bytes:=i.bytes,zero:=z.cells.toList.map cvC,fl:=flOf P d}else none
  |none=>none
 |_,_=>none
class TyF (P:Program) (t:TypeId) (T:outParam Ty):Prop where
 out:tyOf P t=some T
theorem TyF.parts {P:Program}{t:TypeId}{T:Ty}(h:TyF P t T):∃i d z,P.info? t=some i∧P.underlying t=some d∧i.zero=some z∧T.k=kindOf P d∧T.size=i.size∧T.bytes=i.bytes∧T.zero=z.cells.toList.map cvC∧z.cells.toList.all Value.oneCell'=true:=by
 have h:=h.out;unfold tyOf at h
 cases hi:P.info? t with
 |none=>rw[hi]at h;simp at h
 |some i=>
  cases hu:P.underlying t with
  |none=>rw[hi,hu]at h;simp at h
  |some d=>
   cases hz:i.zero with
   |none=>rw[hi,hu]at h;simp[hz]at h
   |some z=>
    rw[hi,hu]at h;simp only[hz]at h
    split at h
    ·rename_i hall
     simp only[Q6]at h;subst h;exact⟨i,d,z,rfl,rfl,hz,rfl,rfl,rfl,rfl,hall⟩
    cases h
section cv
variable {ρ:Nat→Loc}{dom ok:Nat→Prop}{w:World}
theorem cvC_repI (v:Value)(h:v.oneCell'=true):RepI ok w (cvC v) v:=by
 cases v with
 |int k n=>rfl
 |bool b=>rfl
 |string s=>rfl
 |slice a n c=>
  simp only[cvC]
  split
  ·rfl
  exact h
 |func fn first captured=>
  simp only[cvC]
  split
  ·rename_i f h1 h2
   have h1:first= #[]:=Array.eq_empty_of_size_eq_zero (by assumption);have h2:captured= #[]:=Array.eq_empty_of_size_eq_zero (by assumption);subst h1;subst h2;exact⟨#[],rfl,rfl,fun i hi=>absurd hi (O5 _)⟩
  exact h
 |_=>exact h
theorem RepC.of_repI {c:C}{v:Value}(h:RepI ok w c v):RepC ρ dom ok w c v:=by
 cases c with
 |own b wd off len=>exact h.elim
 |win b b2 off len=>exact h.elim
 |ptr b off=>exact h.elim
 |eptr b wd i off=>exact h.elim
 |fn f n caps=>
  obtain⟨cs,hv,hn,hcs⟩:=h;refine⟨cs,hv,hn,fun i hi=>?_⟩
  have:=hcs i hi
  unfold RepB
  cases hc:caps i with
  |own b wd off len=>rw[hc]at this;exact this.elim
  |win b b2 off len=>rw[hc]at this;exact this.elim
  |ptr b off=>rw[hc]at this;exact this.elim
  |eptr b wd i off=>rw[hc]at this;exact this.elim
  |_=>rw[hc]at this;exact this
 |_=>exact h
theorem cvC_rep (v:Value)(h:v.oneCell'=true):RepC ρ dom ok w (cvC v) v:=RepC.of_repI (cvC_repI v h)
theorem cvC_repL:∀vs:List Value,vs.all Value.oneCell'=true→RepL ρ dom ok w (vs.map cvC) vs
 |[],_=>trivial
 |v::vs,h=>by
  simp only[List.all_cons,Bool.and_eq_true]at h;exact⟨cvC_rep v h.1,cvC_repL vs h.2⟩
theorem cv_rep (v:Value):RepV ρ dom ok w (cv v) v:=by
 by_cases hv:∃cs,v= .agg cs
 ·obtain⟨cs,rfl⟩:=hv;simp only[cv]
  split
  ·rename_i h;exact⟨cs,rfl,cvC_repL _ h⟩
  trivial
 by_cases ht:∃cs,v= .tuple cs
 ·obtain⟨cs,rfl⟩:=ht;trivial
 have e:cv v= .one (cvC v)∧v.oneCell'=true:=by
  cases v with
  |agg cs=>exact absurd ⟨cs,rfl⟩ hv
  |tuple cs=>exact absurd ⟨cs,rfl⟩ ht
  |_=>exact⟨rfl,rfl⟩
 rw[e.1];exact cvC_rep v e.2
end cv
def St.ev (s:St):Operand→V
 |.tmp t=>lk s.env t
 |.const v=>cv v
 |.global _=>.one .any
 |.func f=>.one (.fn f 0 (fun _=>.any))
theorem SimR.ev {G:Ctx}{dom:Nat→Prop}{ρ:Nat→Loc}{s:St}{a:Act}{w:World}(h:SimR G dom ρ s a w)(x:Operand):
  RepV ρ dom (okOf G s.own ρ w) w (s.ev x) (a.eval x):=by
 cases x with
 |tmp t=>exact h.env t
 |const v=>exact cv_rep v
 |global g=>rfl
 |func f=>exact⟨#[],rfl,rfl,fun i hi=>absurd hi (O5 _)⟩
structure Eff where
 val:V
 blk:Option Bk
 fz:List Nat
def frzs (own:List (Nat×Blk))(fz:List Nat):List (Nat×Blk):=
 match fz with
 |[]=>own
 |_::_=>frz own fz
def St.add (s:St)(dst:Option Tmp)(id:Nat)(e:Eff):St:=
 match e.blk with
 |some B=>{s.put dst e.val with own:=upd (frzs s.own e.fz) id ⟨B,true⟩}
 |none=>{s.put dst e.val with own:=frzs s.own e.fz}
theorem St.add_plain (s:St)(dst:Option Tmp)(id:Nat)(v:V):s.add dst id ⟨v,none,[]⟩=s.put dst v:=by cases dst<;>rfl
structure Agr (s Z:St) (nx0:Nat) (o:Oper):Prop where
 n:Z.n=s.n
 ev:∀x∈o.op.operands,Z.ev x=s.ev x
 own:∀b,b<nx0→(lo Z.own b).map (·.bk)=(lo s.own b).map (·.bk)
theorem Agr.refl (s:St)(nx0:Nat)(o:Oper):Agr s s nx0 o:=⟨rfl,fun _ _=>rfl,fun _ _=>rfl⟩
theorem Agr.blk {s Z:St}{nx0:Nat}{o:Oper}(h:Agr s Z nx0 o){b:Nat}{B:Blk}(hb:b<nx0)(hl:lo s.own b=some B):∃rw,lo Z.own b=some ⟨B.bk,rw⟩:=by
 have:=h.own b hb
 rw[hl]at this
 cases hz:lo Z.own b with
 |none=>rw[hz]at this;simp at this
 |some B'=>
  rw[hz]at this;simp only[Option.map_some,Q6]at this;exact⟨B'.rw,by rw[←this]⟩
def isLate:Op→Bool
 |.move _=>true
 |.nilCheck _=>true
 |.binOp _ _ _ _ _=>true
 |.convert _ _ _=>true
 |.fieldAddr _ _ _=>true
 |.indexAddr _ _ _=>true
 |.slice _ _ _ _ _=>true
 |.load _ _=>true
 |.extract _ _=>true
 |.pick _ _ _=>true
 |.call c=>match c.callee with
  |.builtin .len=>true
  |_=>false
 |_=>false
def PEff (P:Program)(o:Oper)(s:St)(nx0:Nat)(val:V):Prop:=
 ∀G dom ρ Z a w,SimR G dom ρ Z a w→Agr s Z nx0 o→∃v,(execOp a.eval o).run P w= .ok (.value v) w∧RepV ρ dom (okOf G Z.own ρ w) w val v
def REff (P:Program)(o:Oper)(s:St)(nx0 id:Nat)(e:Eff):Prop:=
 (∀G dom ρ Z a w,SimR G dom ρ Z a w→¬dom id→Agr s Z nx0 o→∀Q next,
  (∀v w',SimD G (fun b=>dom b∨b=id) (Z.add o.dst id e) (a.put o.dst v) w'→next (a.put o.dst v) w')→o.wp P a w next Q)∧
 (isLate o.op=true→e.blk=none∧e.fz=[]∧PEff P o s nx0 e.val)
theorem Oper.wp_value {P:Program}{o:Oper}{a:Act}{w w':World}{v:Value}{next:Act→World→Prop}{Q:Exit→Act→World→Prop}
  (hr:(execOp a.eval o).run P w= .ok (.value v) w') (h:next (a.put o.dst v) w'):o.wp P a w next Q:=by
 unfold Oper.wp;rw[hr];exact h
theorem SimR.mono_dom {G:Ctx}{dom dom':Nat→Prop}{ρ:Nat→Loc}{s:St}{a:Act}{w:World}(h:SimR G dom ρ s a w)(hd:∀b,dom b→dom' b):SimR G dom' ρ s a w:=by
 have hx:=Ext.refl (okOf G s.own ρ w) w;have hs:Same dom dom' ρ ρ:=⟨hd,fun _ _=>rfl⟩;exact h.turn (own':=s.own) hx hs (fun b B hl=>by
  obtain⟨h1,h2,h3,h4⟩:=h.own b B hl;exact⟨hd _ h1,h2,RepBk.ext hx hs _ _ (fun _ _ _=>rfl) h3,h4⟩) h.inj rfl rfl rfl (O1 _) (fun _ _ _=>rfl)
def dstLt (o:Oper)(n:Nat):Prop:=∀d,o.dst=some d→d<n
theorem REff.pure {P:Program}{o:Oper}{s:St}{nx0 id:Nat}{val:V}(hd:dstLt o s.n)
  (h:∀G dom ρ Z a w,SimR G dom ρ Z a w→Agr s Z nx0 o→∃v,(execOp a.eval o).run P w= .ok (.value v) w∧RepV ρ dom (okOf G Z.own ρ w) w val v):
  REff P o s nx0 id ⟨val,none,[]⟩:=by
 refine⟨?_,fun _=>⟨rfl,rfl,h⟩⟩;intro G dom ρ Z a w hs _ ha Q next hk;obtain⟨v,hr,hv⟩:=h G dom ρ Z a w hs ha;refine Oper.wp_value hr (hk v w ⟨ρ,?_⟩);rw[St.add_plain];exact(hs.put (dst:=o.dst) (fun d hh=>by rw[ha.n];exact hd d hh) hv).mono_dom (fun b hb=>Or.inl hb)
end Go.Eng
namespace Go.Eng
open Go
def bitsOp (op:BinOp)(k:IntKind)(x y:Int):Int:=
 let a:=BitVec.ofInt k.bits x
 let b:=BitVec.ofInt k.bits y
 match op with
 |.and=>k.wrap (a&&&b).toNat
 |.or=>k.wrap (a|||b).toNat
 |.xor=>k.wrap (a^^^b).toNat
 |_=>k.wrap (a&&& ~~~b).toNat
def binI (op:BinOp)(k:IntKind)(a:Int)(k':IntKind)(b:Int)(K:C→Prop):Prop:=
 match op with
 |.shl=>0≤b∧K (.int k (k.wrap (a*2^(min b.toNat k.bits))))
 |.shr=>0≤b∧K (.int k (a.fdiv (2^(min b.toNat k.bits))))
 |.add=>k=k'∧K (.int k (k.wrap (a+b)))
 |.sub=>k=k'∧K (.int k (k.wrap (a-b)))
 |.mul=>k=k'∧K (.int k (k.wrap (a*b)))
 |.quo=>k=k'∧b≠0∧K (.int k (k.wrap (a.tdiv b)))
 |.rem=>k=k'∧b≠0∧K (.int k (a.tmod b))
 |.eql=>k=k'∧K (.bool (decide (a=b)))
 |.neq=>k=k'∧K (.bool (decide (a≠b)))
 |.lss=>k=k'∧K (.bool (decide (a<b)))
 |.leq=>k=k'∧K (.bool (decide (a≤b)))
 |.gtr=>k=k'∧K (.bool (decide (b<a)))
 |.geq=>k=k'∧K (.bool (decide (b≤a)))
 |op=>k=k'∧K (.int k (bitsOp op k a b))
theorem binI_run {P:Program}{w:World}{op:BinOp}{k k':IntKind}{a b:Int}{K:C→Prop}(t:TypeId)(x y:Operand)(h:binI op k a k' b K):
  ∃c v,K c∧(do eqGuard op t x y (.int k a) (.int k' b);Go.binOp op t (.int k a) (.int k' b):Sem Value).run P w= .ok v w∧∀ρ dom ok,RepC ρ dom ok w c v:=by
 have hg:(eqGuard op t x y (.int k a) (.int k' b)).run P w= .ok () w:=by
  unfold eqGuard
  cases op<;>rfl
 rw[Sem.run_bind,hg,Q7]
 cases op<;>simp only[binI]at h
 case shl=>exact⟨_,_,h.2,by simp only[Go.binOp,Op.shift];rw[if_neg (by omega)];rfl,fun _ _ _=>rfl⟩
 case shr=>exact⟨_,_,h.2,by simp only[Go.binOp,Op.shift];rw[if_neg (by omega)];rfl,fun _ _ _=>rfl⟩
 case quo=>
  obtain⟨rfl,h0,hk⟩:=h;exact⟨_,_,hk,by simp only[Go.binOp,Op.intDiv,ne_eq,not_true_eq_false,↓reduceIte];rw[if_neg h0];rfl,fun _ _ _=>rfl⟩
 case rem=>
  obtain⟨rfl,h0,hk⟩:=h;exact⟨_,_,hk,by simp only[Go.binOp,Op.intDiv,ne_eq,not_true_eq_false,↓reduceIte];rw[if_neg h0];rfl,fun _ _ _=>rfl⟩
 case eql=>
  obtain⟨rfl,hk⟩:=h;refine⟨_,_,hk,by simp only[Go.binOp,Op.intCmp,ne_eq,not_true_eq_false,↓reduceIte];rfl,fun _ _ _=>?_⟩;show Value.bool _=Value.bool _
  congr 1
 case neq=>
  obtain⟨rfl,hk⟩:=h;refine⟨_,_,hk,by simp only[Go.binOp,Op.intCmp,ne_eq,not_true_eq_false,↓reduceIte];rfl,fun _ _ _=>?_⟩;show Value.bool _=Value.bool _
  congr 1
  rw[Bool.eq_iff_iff];simp
 all_goals
  obtain⟨rfl,hk⟩:=h;exact⟨_,_,hk,by simp only[Go.binOp,Op.intArith,Op.intCmp,Op.intBits,ne_eq,not_true_eq_false,↓reduceIte];rfl,fun _ _ _=>rfl⟩
theorem run_underlying' {P:Program}{w:World}{t:TypeId}{d:TypeDesc}(h:P.underlying t=some d):(underlying t).run P w= .ok d w:=by
 simp[underlying,h]
theorem run_typeInfo {P:Program}{w:World}{t:TypeId}{i:TypeInfo}(h:P.info? t=some i):(typeInfo t).run P w= .ok i w:=by
 simp[typeInfo,h]
theorem run_sizeOf {P:Program}{w:World}{t:TypeId}{i:TypeInfo}(h:P.info? t=some i):(sizeOf t).run P w= .ok i.size w:=by
 simp[sizeOf,run_typeInfo h]
theorem run_zeroValue {P:Program}{w:World}{t:TypeId}{i:TypeInfo}{z:Value}(h:P.info? t=some i)(hz:i.zero=some z):(zeroValue t).run P w= .ok z w:=by
 simp[zeroValue,run_typeInfo h,hz]
def TyK.agg:TyK→Option Bool
 |.st _=>some true
 |.arr _ _=>some true
 |.other=>none
 |_=>some false
theorem run_isAgg {P:Program}{w:World}{t:TypeId}{d:TypeDesc}{b:Bool}(h:P.underlying t=some d)(hb:(kindOf P d).agg=some b):(isAgg t).run P w= .ok b w:=by
 unfold isAgg;rw[Sem.run_bind,run_underlying' h,Q7]
 cases d<;>simp only[kindOf]at hb
 case struct fs=>split at hb<;>simp [TyK.agg]at hb;subst hb;rfl
 case array=>simp[TyK.agg]at hb;subst hb;rfl
 all_goals(simp[TyK.agg]at hb;try(subst hb;rfl))
def mkV (k:TyK)(cs:List C):V:=
 match k with
 |.st _=>.agg cs
 |.arr _ _=>.agg cs
 |.other=>.unk
 |_=>match cs with
  |[c]=>.one c
  |_=>.unk
theorem loadCellsFrom_run {P:Program}{w:World}(a:Addr):∀(n i:Nat) (acc:Array Value) (us:List Value),us.length=n→
  (∀j u,us[j]? =some u→w.cell? (a.add (i+j))=some u)→(loadCellsFrom a i n acc).run P w= .ok (acc++us.toArray) w
 |0,i,acc,us,hl,_=>by
  obtain rfl:us=[]:=List.eq_nil_of_length_eq_zero hl
  simp[loadCellsFrom]
 |n+1,i,acc,us,hl,hc=>by
  match us,hl,hc with
  |u::us,hl,hc=>
   have h0:=hc 0 u rfl;simp only[Nat.add_zero]at h0;simp only[loadCellsFrom,Sem.run_bind,run_load,h0,Q7];rw[loadCellsFrom_run a n (i+1) _ us (by simpa using hl) (fun j u' hj=>by
    have:=hc (j+1) u' (by simpa using hj)
    rw[show i+1+j=i+(j+1) by omega];exact this)]
   simp
theorem loadCells_run {P:Program}{w:World}(a:Addr)(us:List Value)(hc:∀j u,us[j]? =some u→w.cell? (a.add j)=some u):
  (loadCells a us.length).run P w= .ok us.toArray w:=by
 unfold loadCells;rw[loadCellsFrom_run a us.length 0 #[] us rfl (by simpa using hc)]
 simp
theorem RepL.length {ρ:Nat→Loc}{dom ok:Nat→Prop}{w:World}:∀{cs:List C} {vs:List Value},RepL ρ dom ok w cs vs→cs.length=vs.length
 |[],[],_=>rfl
 |_::cs,_::vs,h=>by simp[RepL.length h.2]
 |[],_::_,h=>h.elim
 |_::_,[],h=>h.elim
theorem RepL.get {ρ:Nat→Loc}{dom ok:Nat→Prop}{w:World}:∀{cs:List C} {vs:List Value},RepL ρ dom ok w cs vs→∀(j:Nat) c,cs[j]? =some c→∃v,vs[j]? =some v∧RepC ρ dom ok w c v
 |[],[],_,j,c,hj=>by simp at hj
 |c0::cs,v0::vs,h,0,c,hj=>by simp at hj;subst hj;exact⟨v0,rfl,h.1⟩
 |c0::cs,v0::vs,h,j+1,c,hj=>by simpa using RepL.get h.2 j c (by simpa using hj)
 |[],_::_,h,_,_,_=>h.elim
 |_::_,[],h,_,_,_=>h.elim
theorem RepL.of_get {ρ:Nat→Loc}{dom ok:Nat→Prop}{w:World}:∀{cs:List C} {vs:List Value},cs.length=vs.length→(∀(j:Nat) c v,cs[j]? =some c→vs[j]? =some v→RepC ρ dom ok w c v)→RepL ρ dom ok w cs vs
 |[],[],_,_=>trivial
 |c0::cs,v0::vs,h,hg=>⟨hg 0 c0 v0 rfl rfl,RepL.of_get (by simpa using h) (fun j c v hc hv=>hg (j+1) c v (by simpa using hc) (by simpa using hv))⟩
 |[],_::_,h,_=>by simp at h
 |_::_,[],h,_=>by simp at h
theorem loadVar_run {P:Program}{ρ:Nat→Loc}{dom ok:Nat→Prop}{w:World}{t:TypeId}{i:TypeInfo}{d:TypeDesc}(hi:P.info? t=some i)(hu:P.underlying t=some d)
  (g o:Nat) (cs:List C) (hl:cs.length=i.size) (hk:(kindOf P d).agg=some true∨((kindOf P d).agg=some false∧i.size=1))
  (hc:∀j c,cs[j]? =some c→∃u,w.cell? ⟨g,o+j,none⟩=some u∧RepC ρ dom ok w c u):
  ∃v,(loadVar t ⟨g,o,none⟩).run P w= .ok v w∧RepV ρ dom ok w (mkV (kindOf P d) cs) v:=by
 have key:∀(cs:List C) (o:Nat),(∀j c,cs[j]? =some c→∃u,w.cell? ⟨g,o+j,none⟩=some u∧RepC ρ dom ok w c u)→
   ∃us:List Value,us.length=cs.length∧(∀j u,us[j]? =some u→w.cell? ⟨g,o+j,none⟩=some u)∧RepL ρ dom ok w cs us:=by
  intro cs
  induction cs with
  |nil=>intro o _;exact⟨[],rfl,fun j u hj=>by simp at hj,trivial⟩
  |cons c cs ih=>
   intro o h;obtain⟨u,hu,hr⟩:=h 0 c rfl;obtain⟨us,h1,h2,h3⟩:=ih (o+1) (fun j c' hj=>by
    obtain⟨u',hu',hr'⟩:=h (j+1) c' (by simpa using hj);exact⟨u',by rw[show o+1+j=o+(j+1) by omega];exact hu',hr'⟩)
   refine⟨u::us,by simp[h1],fun j u' hj=>?_,hr,h3⟩
   cases j with
   |zero=>simp at hj;subst hj;exact hu
   |succ j=>have:=h2 j u' (by simpa using hj);rw[show o+1+j=o+(j+1) by omega]at this;exact this
 obtain⟨us,h1,h2,h3⟩:=key cs o hc
 have hadd:∀j,(⟨g,o,none⟩:Addr).add j=⟨g,o+j,none⟩:=fun j=>by unfold Addr.add;split<;>simp_all
 rcases hk with hk|⟨hk,h1s⟩
 ·refine⟨.agg us.toArray,?_,?_⟩
  ·unfold loadVar;rw[Sem.run_bind,run_isAgg hu hk,Q7];simp only[↓reduceIte,Sem.run_bind,run_sizeOf hi,Q7];rw[←hl,←h1,loadCells_run _ us (fun j u hj=>by rw[hadd];exact h2 j u hj)];rfl
  cases hd:kindOf P d<;>rw [hd]at hk<;>simp [TyK.agg]at hk<;>exact ⟨us.toArray,rfl,h3⟩
 have hcl:cs.length=1:=by omega
 match cs,us,hcl,h1,h2,h3 with
 |[c],[u],_,_,h2,h3=>
  refine⟨u,?_,?_⟩
  ·unfold loadVar;rw[Sem.run_bind,run_isAgg hu hk,Q7]
   have:=h2 0 u rfl
   simp only[Nat.add_zero]at this;simp only[Bool.false_eq_true,↓reduceIte,run_load,this]
  cases hd:kindOf P d<;>rw [hd]at hk<;>simp [TyK.agg]at hk<;>exact h3.1
end Go.Eng
namespace Go.Eng
open Go
def V.solid:V→Bool
 |.one _=>true
 |.agg _=>true
 |_=>false
def cellsOf:V→List C
 |.one c=>[c]
 |.agg cs=>cs
 |_=>[]
section
variable {ρ:Nat→Loc}{dom ok:Nat→Prop}{w:World}
theorem RepI.plain {c:C}{v:Value}(h:RepI ok w c v):v.oneCell'=true∧v.cells= #[v]:=by
 cases c with
 |any=>
  have h:v.oneCell'=true:=h;refine⟨h,?_⟩
  cases v<;>first|rfl|simp [Value.oneCell']at h
 |bool b=>cases h;exact⟨rfl,rfl⟩
 |int k n=>cases h;exact⟨rfl,rfl⟩
 |str s=>cases h;exact⟨rfl,rfl⟩
 |nil=>cases h;exact⟨rfl,rfl⟩
 |ints k xs=>obtain⟨a,cap,rfl,_⟩:=h;exact⟨rfl,rfl⟩
 |rows wd n f=>obtain⟨a,cap,rfl,_⟩:=h;exact⟨rfl,rfl⟩
 |own b wd off len=>exact h.elim
 |win b b2 off len=>exact h.elim
 |ptr b off=>exact h.elim
 |elt s wd i off=>obtain⟨g,o,n,cap,_,_,rfl⟩:=h;exact⟨rfl,rfl⟩
 |eptr b wd i off=>exact h.elim
 |fn f n caps=>obtain⟨cs,rfl,_⟩:=h;exact⟨rfl,rfl⟩
theorem RepC.plain {c:C}{v:Value}(h:RepC ρ dom ok w c v):v.oneCell'=true∧v.cells= #[v]:=by
 cases c with
 |own b wd off len=>
  obtain⟨_,_,cap,_,h⟩:=h
  rcases h with⟨g,o,o',_,rfl,_⟩|⟨_,rfl,_⟩<;>exact ⟨rfl,rfl⟩
 |win b b2 off len=>
  obtain⟨_,_,_,cap,_,h⟩:=h
  rcases h with⟨g,o,o',_,rfl,_⟩|⟨_,rfl,_⟩<;>exact ⟨rfl,rfl⟩
 |ptr b off=>obtain⟨_,g,o,_,rfl⟩:=h;exact⟨rfl,rfl⟩
 |eptr b wd i off=>obtain⟨_,_,g,o,_,rfl⟩:=h;exact⟨rfl,rfl⟩
 |fn f n caps=>obtain⟨cs,rfl,_⟩:=h;exact⟨rfl,rfl⟩
 |any=>exact RepI.plain (ok:=ok) (w:=w) (c:=.any) h
 |bool b=>exact RepI.plain (ok:=ok) (w:=w) (c:=.bool b) h
 |int k n=>exact RepI.plain (ok:=ok) (w:=w) (c:=.int k n) h
 |str s=>exact RepI.plain (ok:=ok) (w:=w) (c:=.str s) h
 |nil=>exact RepI.plain (ok:=ok) (w:=w) (c:=.nil) h
 |ints k xs=>exact RepI.plain (ok:=ok) (w:=w) (c:=.ints k xs) h
 |rows wd n f=>exact RepI.plain (ok:=ok) (w:=w) (c:=.rows wd n f) h
 |elt s wd i off=>exact RepI.plain (ok:=ok) (w:=w) (c:=.elt s wd i off) h
theorem RepV.cells {x:V}{v:Value}(h:RepV ρ dom ok w x v)(hx:x.solid=true):RepL ρ dom ok w (cellsOf x) v.cells.toList:=by
 cases x with
 |one c=>
  have h':RepC ρ dom ok w c v:=h;rw[(RepC.plain h').2];exact⟨h',trivial⟩
 |agg cs=>obtain⟨vs,rfl,hl⟩:=h;exact hl
 |tup xs=>simp[V.solid]at hx
 |unk=>simp[V.solid]at hx
end
def splice (cs:List C)(off:Nat)(l:List C):List C:=cs.take off++(l++cs.drop (off+l.length))
theorem splice_get (cs:List C)(off:Nat)(l:List C)(h:off+l.length≤cs.length)(j:Nat):
  (splice cs off l)[j]? =if off≤j∧j<off+l.length then l[j-off]? else cs[j]? :=by
 unfold splice;rw[List.getElem?_append,List.getElem?_append,X5]
 by_cases h1:j<off
 ·rw[if_pos (by omega),if_neg (by omega),List.getElem?_take,if_pos h1]
 rw[if_neg (by omega)]
 by_cases h2:j<off+l.length
 ·rw[if_pos (by omega),if_pos (by omega)]
  congr 1;omega
 rw[if_neg (by omega),if_neg (by omega),List.getElem?_drop]
 congr 1;omega
theorem splice_length (cs:List C)(off:Nat)(l:List C)(h:off+l.length≤cs.length):(splice cs off l).length=cs.length:=by
 unfold splice;simp;omega
def fillC (fs:List (Nat×Nat))(cells:List C):List (Nat×V)→Option (List C)
 |[]=>some cells
 |(i,x)::rest=>
  match fs[i]? with
  |none=>none
  |some (off,size)=>if x.solid=true∧(cellsOf x).length=size∧off+size≤cells.length then fillC fs (splice cells off (cellsOf x)) rest else none
theorem fold_get (off:Nat):∀(l:List Value) (k:Nat) (cells:Array Value),off+k+l.length≤cells.size→
  ((l.zipIdx k).foldl (fun cs (p:Value×Nat)=>cs.setIfInBounds (off+p.2) p.1) cells).size=cells.size∧
  ∀m:Nat,((l.zipIdx k).foldl (fun cs (p:Value×Nat)=>cs.setIfInBounds (off+p.2) p.1) cells)[m]? =if off+k≤m∧m<off+k+l.length then l[m-(off+k)]? else cells[m]?
 |[],k,cells,_=>⟨rfl,fun m=>by rw[if_neg (by simp)];rfl⟩
 |v::l,k,cells,h=>by
  have ih:=fold_get off l (k+1) (cells.setIfInBounds (off+k) v) (by simp at h⊢;omega);rw[List.zipIdx_cons,List.foldl_cons];refine⟨by simpa using ih.1,fun m=>?_⟩;rw[ih.2 m];simp only[List.length_cons]at h⊢
  by_cases h1:off+k=m
  ·subst h1;have hlt:off+k<cells.size:=by omega
   rw[if_neg (by omega),if_pos (by omega)]
   simp[hlt]
  by_cases h2:off+(k+1)≤m∧m<off+(k+1)+l.length
  ·rw[if_pos h2,if_pos (by omega)];obtain⟨q,hq⟩:∃q,m=off+k+1+q:=⟨m-(off+k+1),by omega⟩;subst hq;rw[show off+k+1+q-(off+(k+1))=q by omega,show off+k+1+q-(off+k)=q+1 by omega,List.getElem?_cons_succ]
  rw[if_neg h2,if_neg (by omega),Array.getElem?_setIfInBounds_ne h1]
section
variable {ρ:Nat→Loc}{dom ok:Nat→Prop}{w:World}
def RepP (ρ:Nat→Loc)(dom ok:Nat→Prop)(w:World):List (Nat×V)→List (Nat×Value)→Prop
 |[],[]=>True
 |(i,x)::xs,(j,v)::vs=>i=j∧RepV ρ dom ok w x v∧RepP ρ dom ok w xs vs
 |_,_=>False
theorem fill_rep {place:Nat→Option (Nat×Nat)}{fs:List (Nat×Nat)}(hp:∀i p,fs[i]? =some p→place i=some p):∀(xs:List (Nat×V)) (vs:List (Nat×Value)) (cs:List C) (cells:Array Value) (out:List C),
  RepP ρ dom ok w xs vs→RepL ρ dom ok w cs cells.toList→fillC fs cs xs=some out→∃cells',Instr.fill place cells vs=some cells'∧RepL ρ dom ok w out cells'.toList
 |[],[],cs,cells,out,_,hl,hf=>by
  simp only[fillC,Q6]at hf;subst hf;exact⟨cells,rfl,hl⟩
 |(i,x)::xs,(j,v)::vs,cs,cells,out,hr,hl,hf=>by
  obtain⟨rfl,hx,hr⟩:=hr;simp only[fillC]at hf
  cases hi:fs[i]? with
  |none=>rw[hi]at hf;simp at hf
  |some p=>
   obtain⟨off,size⟩:=p;rw[hi]at hf;simp only at hf
   split at hf
   ·rename_i hc
    obtain⟨hs,hn,hle⟩:=hc;have hcells:=RepV.cells hx hs;have hlen:=RepL.length hcells;have hlen2:=RepL.length hl;simp only[Array.length_toList]at hlen hlen2;have hf1:=fold_get off v.cells.toList 0 cells (by simp;omega);simp only[Nat.add_zero]at hf1;have hfold:v.cells.zipIdx.foldl (fun cs (p:Value×Nat)=>cs.setIfInBounds (off+p.2) p.1) cells=(v.cells.toList.zipIdx 0).foldl (fun cs (p:Value×Nat)=>cs.setIfInBounds (off+p.2) p.1) cells:=by
     rw[←Array.foldl_toList,Array.toList_zipIdx]
    have hrep:RepL ρ dom ok w (splice cs off (cellsOf x)) ((v.cells.toList.zipIdx 0).foldl (fun cs (p:Value×Nat)=>cs.setIfInBounds (off+p.2) p.1) cells).toList:=by
     refine RepL.of_get ?_ ?_
     ·rw[splice_length _ _ _ (by omega)];simp only[Array.length_toList,hf1.1];omega
     intro m c u hc hu;rw[splice_get _ _ _ (by omega)]at hc;rw[Array.getElem?_toList,hf1.2 m]at hu;simp only[Array.length_toList]at hu
     by_cases hm:off≤m∧m<off+(cellsOf x).length
     ·rw[if_pos hm]at hc;rw[if_pos (by omega)]at hu;obtain⟨u',hu',hr'⟩:=RepL.get hcells _ _ hc;rw[hu']at hu;obtain rfl:=Option.some.inj hu;exact hr'
     rw[if_neg hm]at hc;rw[if_neg (by omega)]at hu;obtain⟨u',hu',hr'⟩:=RepL.get hl _ _ hc;rw[Array.getElem?_toList,hu]at hu';obtain rfl:=Option.some.inj hu';exact hr'
    obtain⟨cells',h1,h2⟩:=fill_rep hp xs vs _ _ out hr hrep hf;refine⟨cells',?_,h2⟩;simp only[Instr.fill,hp i _ hi];rw[if_neg (by simp;omega),hfold];exact h1
   simp at hf
 |[],_::_,_,_,_,h,_,_=>h.elim
 |_::_,[],_,_,_,h,_,_=>h.elim
end
end Go.Eng
namespace Go.Eng
open Go
abbrev Tab:=Nat→Option Ty
def TabOk (P:Program)(T:Tab):Prop:=∀t X,T t=some X→tyOf P t=some X
def loc0:Nat→Loc:=fun _=>⟨none,0⟩
def dom0:Nat→Prop:=fun _=>False
def Callable (P:Program)(f:FuncId):Prop:=∃fn,P.funcs[f]? =some fn∧fn.body.isNone=false∧(fn.name== "runtime.NumGoroutine")=false
def Pr (P:Program)(f:FuncId)(args:List V)(r:V):Prop:=
 Callable P f∧∀(ok:Nat→Prop) (w:World) (vs:Array Value),(∀g,ok g→g<w.heap.size)→RepVL loc0 dom0 ok w args vs.toList→
  Calls P f vs w fun e w'=>∃v,e= .returned v∧Go.RowKit.Below w.heap.size w w'∧RepV loc0 dom0 (fun g=>ok g∨(w.heap.size≤g∧g<w'.heap.size)) w' r v
def Bk.flat:Bk→Prop
 |.var _=>False
 |.wins .. =>False
 |_=>True
def Bk.wd:Bk→Nat
 |.ints _ _ _=>1
 |.rows _ w _ _=>w
 |.var _=>0
 |.wins .. =>1
def scalarC':C→Prop
 |.bool _=>True
 |.int _ _=>True
 |_=>False
def Fr (P:Program)(f:FuncId)(args:List V)(B:Bk):Prop:=
 Callable P f∧B.flat∧∀(ok:Nat→Prop) (w:World) (vs:Array Value),(∀g,ok g→g<w.heap.size)→RepVL loc0 dom0 ok w args vs.toList→
  Calls P f vs w fun e w'=>∃v l,e= .returned v∧Go.RowKit.Below w.heap.size w w'∧l.len=B.len∧(∀g o,l.addr=some (g,o)→w.heap.size≤g∧g<w'.heap.size)∧
   RepBk loc0 dom0 (fun g=>ok g∨(w.heap.size≤g∧g<w'.heap.size∧∀o,l.addr≠some (g,o))) w' l B∧RepB (fun _=>l) (fun _=>True) (fun _=>False) w' (.own 0 B.wd 0 B.len) v
def FreshT (P:Program)(f:FuncId)(args:List V)(B:Bk)(c:C):Prop:=
 scalarC' c∧Callable P f∧B.flat∧∀(ok:Nat→Prop) (w:World) (vs:Array Value),(∀g,ok g→g<w.heap.size)→RepVL loc0 dom0 ok w args vs.toList→
  Calls P f vs w fun e w'=>∃v u l,e= .returned (.tuple #[v,u])∧Go.RowKit.Below w.heap.size w w'∧l.len=B.len∧(∀g o,l.addr=some (g,o)→w.heap.size≤g∧g<w'.heap.size)∧
   RepBk loc0 dom0 (fun g=>ok g∨(w.heap.size≤g∧g<w'.heap.size∧∀o,l.addr≠some (g,o))) w' l B∧RepB (fun _=>l) (fun _=>True) (fun _=>False) w' (.own 0 B.wd 0 B.len) v∧RepC loc0 dom0 (fun _=>False) w' c u
def Later {α:Type}(p:α→Prop)(a:α):Prop:=p a
theorem Lg {α:Type}{p:α→Prop}{a:α}(h:p a):Later p a:=h
def cellsFrom (f:Nat→C):Nat→Nat→List C
 |_,0=>[]
 |off,n+1=>f off::cellsFrom f (off+1) n
def eltCell:C→Nat→Nat→C
 |.ints k xs,i,_=>.int k (xs.getD i 0)
 |.rows _ _ f,i,j=>f i j
 |_,_,_=>.any
def eltW:C→Nat
 |.ints _ _=>1
 |.rows w _ _=>w
 |_=>0
def bkElt:Bk→Nat→Nat→C
 |.ints _ k xs,i,_=>.int k (xs.getD i 0)
 |.rows _ _ _ f,i,j=>f i j
 |.var _,_,_=>.any
 |.wins _ _ _ g,i,_=>g i
def bkW:Bk→Nat
 |.ints _ _ _=>1
 |.rows _ w _ _=>w
 |.var _=>0
 |.wins .. =>1
def vwBk (B:Bk)(wd off len:Nat):C:=
 match B with
 |.ints _ k xs=>if wd=1 then .ints k ((xs.drop off).take len)else .any
 |.rows _ w _ f=>if w=wd then .rows w len (fun i j=>f (off+i) j)else .any
 |.var _=>.any
 |.wins .. =>.any
def plC:C→C
 |.own _ _ _ _=>.any
 |.win _ _ _ _=>.any
 |.ptr _ _=>.any
 |.eptr _ _ _ _=>.any
 |.fn _ _ _=>.any
 |c=>c
def vwP (B:Bk)(off:Nat):C:=
 match B with
 |.var cs=>.elt (.rows cs.length 1 (fun _ j=>plC (cs.getD j .any))) cs.length 0 off
 |_=>.any
def vwW (own:List (Nat×Blk))(b2:Nat):C→C
 |.own b w o l=>if b=b2 then(match lo own b with|some B=>vwBk B.bk w o l|none=>.any)else .any
 |.any=>.any
 |.bool b=>.bool b
 |.int k n=>.int k n
 |.str s=>.str s
 |.nil=>.nil
 |.ints k xs=>.ints k xs
 |.rows w n f=>.rows w n f
 |_=>.any
def vwBW (own:List (Nat×Blk))(b2:Nat)(B:Bk)(off len:Nat):C:=
 match B with
 |.wins _ b3 _ g=>if b3=b2 then .rows 1 len (fun i _=>vwW own b2 (g (off+i)))else .any
 |_=>.any
def vwC (own:List (Nat×Blk))(nx0:Nat):C→C
 |.own b wd off len=>if b<nx0 then(match lo own b with|some B=>vwBk B.bk wd off len|none=>.any)else .any
 |.win b b2 off len=>if b<nx0 then(if b2<nx0 then(match lo own b with|some B=>vwBW own b2 B.bk off len|none=>.any)else .any)else .any
 |.ptr b off=>if b<nx0 then(match lo own b with|some B=>vwP B.bk off|none=>.any)else .any
 |.eptr _ _ _ _=>.any
 |.fn f n _=>if n=0 then .fn f 0 (fun _=>.any)else .any
 |c=>c
def vwV (own:List (Nat×Blk))(nx0:Nat):V→V
 |.one c=>.one (vwC own nx0 c)
 |.agg cs=>.agg (cs.map (vwC own nx0))
 |_=>.unk
def idsC:C→List Nat
 |.own b _ _ _=>[b]
 |.win b b2 _ _=>[b,b2]
 |.ptr b _=>[b]
 |_=>[]
def idsV:V→List Nat
 |.one c=>idsC c
 |.agg cs=>cs.flatMap idsC
 |_=>[]
def scalarC:C→Bool
 |.any=>true
 |.bool _=>true
 |.int _ _=>true
 |.str _=>true
 |.nil=>true
 |_=>false
def scalarV:V→Bool
 |.unk=>true
 |.one c=>scalarC c
 |.agg cs=>cs.all scalarC
 |.tup vs=>vs.all fun|.one c=>scalarC c|.agg cs=>cs.all scalarC|.unk=>true|.tup _=>false
def ldOk (E:Ty):Prop:=E.k.agg=some true∨(E.k.agg=some false∧E.size=1)
def rLoad (T:Tab)(s:St)(nx0:Nat)(t:TypeId)(x:Operand)(K:Eff→Prop):Prop:=
 match T t with
 |some E=>match s.ev x with
  |.one (.ptr b off)=>b<nx0∧match lo s.own b with
   |some B=>match B.bk with
    |.var cs=>off+E.size≤cs.length∧ldOk E∧K ⟨mkV E.k ((cs.drop off).take E.size),none,[]⟩
    |_=>False
   |none=>False
  |.one (.elt c wd i off)=>eltW c=wd∧off+E.size≤wd∧ldOk E∧K ⟨mkV E.k (cellsFrom (eltCell c i) off E.size),none,[]⟩
  |.one (.eptr b wd i off)=>b<nx0∧match lo s.own b with
   |some B=>bkW B.bk=wd∧off+E.size≤wd∧ldOk E∧K ⟨mkV E.k (cellsFrom (bkElt B.bk i) off E.size),none,[]⟩
   |none=>False
  |_=>False
 |none=>False
def intsOf (k:IntKind):List C→Option (List Int)
 |[]=>some []
 |.int k' n::r=>if k'=k then(intsOf k r).map (n:: ·)else none
 |_::_=>none
def zerosC (z:List C):Nat→List C
 |0=>[]
 |n+1=>z++zerosC z n
def placesC (size:Nat):Nat→Nat→List (Nat×Nat)
 |_,0=>[]
 |i,n+1=>(i*size,size)::placesC size (i+1) n
def newSl (E:Ty)(e:TypeId)(id:Nat)(fz:Bool)(len:Nat)(cs:List C)(ids:List Nat)(K:Eff→Prop):Prop:=
 match E.k with
 |.int k=>match intsOf k cs with
  |some xs=>if fz then K ⟨.one (.ints k xs),none,ids⟩else K ⟨.one (.own id 1 0 len),some (.ints e k xs),ids⟩
  |none=>False
 |_=>if fz then K ⟨.one (.rows E.size len (fun i j=>cs.getD (i*E.size+j) .any)),none,ids⟩
  else K ⟨.one (.own id E.size 0 len),some (.rows e E.size len (fun i j=>cs.getD (i*E.size+j) .any)),ids⟩
def keepM (own:List (Nat×Blk)):Bool:=match lo own 999 with
 |some ⟨.wins _ _ _ _,_⟩=>true
 |_=>false
def oneOwn:Option (List C)→Option (Nat×Nat×Nat×Nat)
 |some [.own b w o l]=>some (b,w,o,l)
 |_=>none
def rBuildSlice (T:Tab)(s:St)(nx0 id:Nat)(fz:Bool)(t:TypeId)(len:Nat)(parts:Array (Nat×Operand))(K:Eff→Prop):Prop:=
 match T t with
 |some S=>match S.k with
  |.sl e=>match T e with
   |some E=>E.zero.length=E.size∧len*E.size≤16777216∧(match E.k with|.int _=>E.size=1|_=>0<E.size)∧
     match(if keepM s.own then oneOwn (fillC (placesC E.size 0 len) (zerosC E.zero len) (parts.toList.map fun p=>(p.1,s.ev p.2)))else none)with
     |some (b,w,o,l)=>len=1∧E.size=1∧K ⟨.one (.win id b 0 1),some (.wins e b 1 (fun _=>.own b w o l)),[]⟩
     |none=>match fillC (placesC E.size 0 len) (zerosC E.zero len) (parts.toList.map fun p=>(p.1,vwV s.own nx0 (s.ev p.2)))with
      |some cs=>newSl E e id fz len cs ((parts.toList.map fun p=>idsV (s.ev p.2)).flatten.filter (fun b=>decide (b<nx0))) K
      |none=>False
   |none=>False
  |_=>False
 |none=>False
def rMakeSlice (T:Tab)(s:St)(id:Nat)(fz:Bool)(t:TypeId)(l c:Operand)(K:Eff→Prop):Prop:=
 match T t with
 |some S=>match S.k with
  |.sl e=>match T e with
   |some E=>match s.ev l,s.ev c with
    |.one (.int _ l),.one (.int _ c)=>E.zero.length=E.size∧0<E.size∧(0≤l∧l≤c∧c*E.bytes≤281474976710656∧c≤9223372036854775807)∧
     match E.k with
     |.int k=>E.zero=[.int k 0]∧if fz=true then(if k= .i64 then K ⟨.one (.ints k (List.replicate l.toNat 0)),none,[]⟩else K ⟨.one (.own id 1 0 l.toNat),some (.ints e k (List.replicate c.toNat 0)),[]⟩)else K ⟨.one (.own id 1 0 l.toNat),some (.ints e k (List.replicate c.toNat 0)),[]⟩
     |_=>K ⟨.one (.own id E.size 0 l.toNat),some (.rows e E.size c.toNat (fun _ j=>E.zero.getD j .any)),[]⟩
    |_,_=>False
   |none=>False
  |_=>False
 |none=>False
def bnd (s:St)(x:Option Operand)(d:Int)(K:Int→Prop):Prop:=
 match x with
 |none=>K d
 |some x=>match s.ev x with
  |.one (.int _ i)=>K i
  |_=>False
def rSlice3 (T:Tab)(s:St)(t:TypeId)(x:Operand)(lo hi:Option Operand)(m:Operand)(K:Eff→Prop):Prop:=
 match T t with
 |some S=>match S.k with
  |.sl e=>match T e with
   |some E=>match s.ev x with
    |.one (.own b wd off len)=>wd=E.size∧match hi with
     |some y=>bnd s lo 0 fun l=>bnd s (some y) len fun h=>bnd s (some m) len fun k=>(0≤l∧l≤h∧h≤k∧k≤len)∧K ⟨.one (.own b wd (off+l.toNat) (h-l).toNat),none,[]⟩
     |none=>False
    |_=>False
   |none=>False
  |_=>False
 |none=>False
def rSlice (T:Tab)(s:St)(t:TypeId)(x:Operand)(lo hi mx:Option Operand)(K:Eff→Prop):Prop:=
 match mx with
 |some m=>rSlice3 T s t x lo hi m K
 |none=>match T t with
 |some S=>match S.k with
  |.sl e=>match T e with
   |some E=>match s.ev x with
    |.one (.own b wd off len)=>wd=E.size∧bnd s lo 0 fun l=>bnd s hi len fun h=>(0≤l∧l≤h∧h≤len)∧K ⟨.one (.own b wd (off+l.toNat) (h-l).toNat),none,[]⟩
    |.one (.win b b2 off len)=>1=E.size∧bnd s lo 0 fun l=>bnd s hi len fun h=>(0≤l∧l≤h∧h≤len)∧K ⟨.one (.win b b2 (off+l.toNat) (h-l).toNat),none,[]⟩
    |.one (.ints k xs)=>1=E.size∧bnd s lo 0 fun l=>bnd s hi xs.length fun h=>(0≤l∧l≤h∧h≤xs.length)∧K ⟨.one (.ints k ((xs.drop l.toNat).take (h-l).toNat)),none,[]⟩
    |.one (.rows wd n f)=>wd=E.size∧bnd s lo 0 fun l=>bnd s hi n fun h=>(0≤l∧l≤h∧h≤n)∧K ⟨.one (.rows wd (h-l).toNat (fun i j=>f (l.toNat+i) j)),none,[]⟩
    |.one .nil=>bnd s lo 0 fun l=>bnd s hi 0 fun h=>(l=0∧h=0)∧K ⟨.one .nil,none,[]⟩
    |_=>False
   |none=>False
  |.str=>match s.ev x with
   |.one (.str b)=>bnd s lo 0 fun l=>bnd s hi b.size fun h=>(0≤l∧l≤h∧h≤b.size)∧K ⟨.one (.str (b.extract l.toNat h.toNat)),none,[]⟩
   |_=>False
  |_=>False
 |none=>False
def rFieldAddr (T:Tab)(s:St)(t:TypeId)(x:Operand)(f:Nat)(K:Eff→Prop):Prop:=
 match T t with
 |some E=>match E.k with
  |.st fs=>match fs[f]? with
   |some (fo,fsz)=>0<fsz∧match s.ev x with
    |.one (.ptr b off)=>K ⟨.one (.ptr b (off+fo)),none,[]⟩
    |.one (.elt c wd i off)=>K ⟨.one (.elt c wd i (off+fo)),none,[]⟩
    |.one (.eptr b wd i off)=>K ⟨.one (.eptr b wd i (off+fo)),none,[]⟩
    |_=>False
   |none=>False
  |_=>False
 |none=>False
def rIndexAddr (T:Tab)(s:St)(t:TypeId)(x i:Operand)(K:Eff→Prop):Prop:=
 match T t with
 |some S=>match S.k with
  |.sl e=>match T e with
   |some E=>match s.ev i with
    |.one (.int _ i)=>match s.ev x with
     |.one (.own b wd off len)=>wd=E.size∧0<E.size∧(0≤i∧i<len)∧K ⟨.one (.eptr b wd (off+i.toNat) 0),none,[]⟩
     |.one (.win b _ off len)=>1=E.size∧(0≤i∧i<len)∧K ⟨.one (.eptr b 1 (off+i.toNat) 0),none,[]⟩
     |.one (.ints k xs)=>1=E.size∧(0≤i∧i<xs.length)∧K ⟨.one (.elt (.ints k xs) 1 i.toNat 0),none,[]⟩
     |.one (.rows wd n f)=>wd=E.size∧0<E.size∧(0≤i∧i<n)∧K ⟨.one (.elt (.rows wd n f) wd i.toNat 0),none,[]⟩
     |_=>False
    |_=>False
   |none=>False
  |.arr n e=>match T e with
   |some E=>match s.ev i with
    |.one (.int _ i)=>match s.ev x with
     |.one (.ptr b off)=>(0≤i∧i<n)∧K ⟨.one (.ptr b (off+i.toNat*E.size)),none,[]⟩
     |.one (.elt c wd j off)=>(0≤i∧i<n)∧K ⟨.one (.elt c wd j (off+i.toNat*E.size)),none,[]⟩
     |.one (.eptr b wd j off)=>(0≤i∧i<n)∧K ⟨.one (.eptr b wd j (off+i.toNat*E.size)),none,[]⟩
     |_=>False
    |_=>False
   |none=>False
  |_=>False
 |none=>False
def strEq (a b:ByteArray):Bool:=a.toList==b.toList
def strAt (b:ByteArray)(i:Nat):Int:=((b[i]?.getD 0).toNat:Int)
def rConvert (T:Tab)(s:St)(src dst:TypeId)(x:Operand)(K:Eff→Prop):Prop:=
 match T src,T dst with
 |some S,some D=>match D.k with
  |.int k=>match s.ev x with
   |.one (.int _ n)=>K ⟨.one (.int k (k.wrap n)),none,[]⟩
   |_=>False
  |.str=>match S.k with
   |.sl e=>match T e with
    |some E=>match E.k with
     |.int k=>k= .u8∧match s.ev x with
      |.one (.ints k' xs)=>k'= .u8∧K ⟨.one (.str (strOfNums xs)),none,[]⟩
      |_=>False
     |_=>False
    |none=>False
   |_=>False
  |_=>False
 |_,_=>False
def rIndex (T:Tab)(s:St)(t:TypeId)(x i:Operand)(K:Eff→Prop):Prop:=
 match T t with
 |some E=>match E.k with
  |.str=>match s.ev i with
   |.one (.int _ i)=>match s.ev x with
    |.one (.str b)=>(0≤i∧i<b.size)∧K ⟨.one (.int .u8 (strAt b i.toNat)),none,[]⟩
    |_=>False
   |_=>False
  |_=>False
 |none=>False
def strI (op:BinOp)(a b:ByteArray)(K:C→Prop):Prop:=
 match op with
 |.add=>((a.size+b.size:Nat):Int)≤9223372036854775807∧K (.str (a++b))
 |.eql=>K (.bool (strEq a b))
 |.neq=>K (.bool (!strEq a b))
 |_=>False
def arrI (
     T:Tab) (op:BinOp) (t:TypeId) (cs ds:List C) (K:C→Prop):Prop:=
 match T t with
 |some A=>match A.k with
  |.arr n e=>match T e with
   |some E=>match E.k with
    |.int k=>match intsOf k cs,intsOf k ds with
     |some xs,some ys=>(E.size=1∧xs.length=n∧ys.length=n)∧match op with
      |.eql=>K (.bool (decide (xs=ys)))
      |.neq=>K (.bool (!decide (xs=ys)))
      |_=>False
     |_,_=>False
    |_=>False
   |none=>False
  |_=>False
 |none=>False
def rBin (T:Tab)(s:St)(op:BinOp)(t:TypeId)(x y:Operand)(K:Eff→Prop):Prop:=
 match s.ev x,s.ev y with
 |.one (.int k a),.one (.int k' b)=>binI op k a k' b fun c=>K ⟨.one c,none,[]⟩
 |.one (.bool a),.one (.bool b)=>match T t with
  |some E=>match E.k with
   |.bool=>match op with
    |.eql=>K ⟨.one (.bool (a==b)),none,[]⟩
    |.neq=>K ⟨.one (.bool (a !=b)),none,[]⟩
    |_=>False
   |_=>False
  |none=>False
 |.one (.str a),.one (.str b)=>strI op a b fun c=>K ⟨.one c,none,[]⟩
 |.agg cs,.agg ds=>arrI T op t cs ds fun c=>K ⟨.one c,none,[]⟩
 |_,_=>False
def rUn (s:St)(op:UnOp)(x:Operand)(K:Eff→Prop):Prop:=
 match op,s.ev x with
 |.not,.one (.bool b)=>K ⟨.one (.bool (!b)),none,[]⟩
 |.neg,.one (.int k n)=>K ⟨.one (.int k (k.wrap (0-n))),none,[]⟩
 |_,_=>False
def lenC:C→Option Nat
 |.own _ _ _ len=>some len
 |.win _ _ _ len=>some len
 |.ints _ xs=>some xs.length
 |.rows _ n _=>some n
 |.nil=>some 0
 |_=>none
def maxC:V→V→Option V
 |.one (.int k x),.one (.int _ y)=>some (.one (.int k (if x<y then y else x)))
 |_,_=>none
def minC:V→V→Option V
 |.one (.int k x),.one (.int _ y)=>some (.one (.int k (if y<x then y else x)))
 |_,_=>none
def rBuiltin (T:Tab)(s:St)(b:Builtin)(args:List Operand)(tys:List TypeId)(K:Eff→Prop):Prop:=
 match b,args,tys with
 |.len,[x],[t]=>match T t with
  |some E=>match E.k with
   |.sl _=>match s.ev x with
    |.one c=>match lenC c with
     |some n=>K ⟨.one (.int .i64 n),none,[]⟩
     |none=>False
    |_=>False
   |.str=>match s.ev x with
    |.one (.str b)=>K ⟨.one (.int .i64 b.size),none,[]⟩
    |_=>False
   |_=>False
  |none=>False
 |.max,[x,y],_=>match maxC (s.ev x) (s.ev y)with
  |some v=>K ⟨v,none,[]⟩
  |none=>False
 |.min,[x,y],_=>match minC (s.ev x) (s.ev y)with
  |some v=>K ⟨v,none,[]⟩
  |none=>False
 |.min,[x,y,z],_=>match minC (s.ev x) (s.ev y)with
  |some v=>match minC v (s.ev z)with
   |some u=>K ⟨u,none,[]⟩
   |none=>False
  |none=>False
 |_,_,_=>False
def rField (T:Tab)(s:St)(t:TypeId)(x:Operand)(f:Nat)(K:Eff→Prop):Prop:=
 match T t with
 |some E=>match E.k with
  |.st fs=>match fs[f]? with
   |some (fo,fsz)=>match s.ev x with
    |.agg cs=>E.fl[f]? =some true∧fsz=1∧fo<cs.length∧K ⟨.one (cs.getD fo .any),none,[]⟩
    |_=>False
   |none=>False
  |_=>False
 |none=>False
def capOk:V→Bool
 |.one c=>match c with
  |.fn _ _ _=>false
  |_=>true
 |_=>false
def capOf:V→C
 |.one c=>c
 |_=>.any
def capL (n:Nat)(caps:Nat→C):List V:=(List.range n).map fun i=>.one (caps i)
def vwK (own:List (Nat×Blk))(nx0:Nat):C→C
 |.fn _ _ _=>.any
 |c=>vwC own nx0 c
def vwG (own:List (Nat×Blk))(nx0:Nat):V→V
 |.one (.fn f n caps)=>.one (if n=0 then .fn f 0 (fun _=>.any)else .fn f n (fun i=>vwK own nx0 (caps i)))
 |x=>vwV own nx0 x
def idsG:V→List Nat
 |.one (.fn _ n caps)=>if n=0 then[]else if n=1 then idsC (caps 0)else(List.range n).flatMap fun i=>idsC (caps i)
 |x=>idsV x
def rCall (P:Program)(s:St)(nx0 id:Nat)(g:Operand)(args:List Operand)(K:Eff→Prop):Prop:=
 match s.ev g with
 |.one (.fn f n caps)=>((∃r,Pr P f ((args.map s.ev++capL n caps).map (vwG s.own nx0)) r∧
   Later K ⟨r,none,if scalarV r then[]else((args.map s.ev++capL n caps).map idsG).flatten.filter (fun b=>decide (b<nx0))⟩)∨
   (∃B,Fr P f ((args.map s.ev++capL n caps).map (vwG s.own nx0)) B∧Later K ⟨.one (.own id B.wd 0 B.len),some B,((args.map s.ev++capL n caps).map idsG).flatten.filter (fun b=>decide (b<nx0))⟩)∨
   (∃B c,FreshT P f ((args.map s.ev++capL n caps).map (vwG s.own nx0)) B c∧Later K ⟨.tup [.one (.own id B.wd 0 B.len),.one c],some B,((args.map s.ev++capL n caps).map idsG).flatten.filter (fun b=>decide (b<nx0))⟩))
 |_=>False
def bldPl (T:Tab):TyK→Option (List (Nat×Nat))
 |.st fs=>some fs
 |.arr m e=>match T e with
  |some F=>some (placesC F.size 0 m)
  |none=>none
 |_=>none
def rOp (T:Tab)(P:Program)(op:Op)(s:St)(nx0 id:Nat)(fz:Bool)(K:Eff→Prop):Prop:=
 match op with
 |.move x=>K ⟨s.ev x,none,[]⟩
 |.assign x=>K ⟨s.ev x,none,[]⟩
 |.pick c a b=>match s.ev c with
  |.one (.bool t)=>K ⟨if t then s.ev a else s.ev b,none,[]⟩
  |_=>False
 |.alloc e=>match T e with
  |some E=>K ⟨.one (.ptr id 0),some (.var E.zero),[]⟩
  |none=>False
 |.box _ x=>(s.ev x).solid=true∧K ⟨.one (.ptr id 0),some (.var (cellsOf (s.ev x))),[]⟩
 |.build t parts=>match T t with
  |some E=>match bldPl T E.k with
   |some fs=>match fillC fs E.zero (parts.toList.map fun p=>(p.1,s.ev p.2))with
    |some cs=>K ⟨.agg cs,none,[]⟩
    |none=>False
   |none=>False
  |none=>False
 |.buildSlice t len parts=>rBuildSlice T s nx0 id fz t len parts K
 |.field t x f=>rField T s t x f K
 |.load t x=>rLoad T s nx0 t x K
 |.binOp op t x y _=>rBin T s op t x y K
 |.unOp op _ x=>rUn s op x K
 |.convert src dst x=>rConvert T s src dst x K
 |.makeSlice t l c=>rMakeSlice T s id fz t l c K
 |.slice t x lo hi mx=>rSlice T s t x lo hi mx K
 |.fieldAddr t x f=>rFieldAddr T s t x f K
 |.indexAddr t x i=>rIndexAddr T s t x i K
 |.index t x i=>rIndex T s t x i K
 |.extract x i=>match s.ev x with
  |.tup vs=>match vs[i]? with
   |some v=>K ⟨v,none,[]⟩
   |none=>False
  |_=>False
 |.nilCheck x=>match s.ev x with
  |.one (.ptr b off)=>K ⟨.one (.ptr b off),none,[]⟩
  |.one (.elt c wd i off)=>K ⟨.one (.elt c wd i off),none,[]⟩
  |.one (.eptr b wd i off)=>K ⟨.one (.eptr b wd i off),none,[]⟩
  |_=>False
 |.makeFunc fn first captured=>match fn,first.size with
  |.func f,0=>(captured.toList.all fun x=>capOk (s.ev x))=true∧K ⟨.one (.fn f captured.size (fun i=>capOf ((captured.toList.map s.ev).getD i .unk))),none,[]⟩
  |_,_=>False
 |.call c=>match c.callee with
  |.builtin b=>rBuiltin T s b c.args.toList c.argTypes.toList K
  |.value g=>rCall P s nx0 id g c.args.toList K
  |.invoke _ _=>False
 |_=>False
end Go.Eng
namespace Go.Eng
open Go
theorem run_v {P:Program}{x:Sem Value}{w w':World}{v:Value}(h:x.run P w= .ok v w'):(do pure (Next.value (←x)):Sem Next).run P w= .ok (.value v) w':=by
 rw[Sem.run_bind,h];rfl
theorem ev_one {s Z:St}{nx0:Nat}{o:Oper}(ha:Agr s Z nx0 o){x:Operand}(hx:x∈o.op.operands){X:V}(h:s.ev x=X):Z.ev x=X:=(ha.ev x hx).trans h
section
variable {P:Program}{T:Tab}(hT:TabOk P T){o:Oper}{s:St}{nx0 id:Nat}{K:Eff→Prop}
include hT
theorem T_parts {t:TypeId}{E:Ty}(h:T t=some E):∃i d z,P.info? t=some i∧P.underlying t=some d∧i.zero=some z∧E.k=kindOf P d∧E.size=i.size∧E.bytes=i.bytes∧E.zero=z.cells.toList.map cvC∧z.cells.toList.all Value.oneCell'=true:=
 TyF.parts ⟨hT t E h⟩
theorem T_fl {t:TypeId}{E:Ty}(h:T t=some E):∃d,P.underlying t=some d∧E.k=kindOf P d∧E.fl=flOf P d:=by
 have h:=hT t E h;unfold tyOf at h
 cases hi:P.info? t with
 |none=>rw[hi]at h;simp at h
 |some i=>
  cases hu:P.underlying t with
  |none=>rw[hi,hu]at h;simp at h
  |some d=>
   cases hz:i.zero with
   |none=>rw[hi,hu]at h;simp[hz]at h
   |some z=>
    rw[hi,hu]at h;simp only[hz]at h
    split at h
    ·simp only[Q6]at h;subst h;exact⟨d,rfl,rfl,rfl⟩
    cases h
theorem T_slice {t e:TypeId}{S:Ty}(h:T t=some S)(hk:S.k= .sl e):P.underlying t=some (.slice e):=by
 obtain⟨i,d,z,_,hu,_,hkd,_⟩:=T_parts hT h;rw[hk]at hkd;rw[hu]
 cases d<;>simp only[kindOf]at hkd
 case slice=>cases hkd;rfl
 case struct fs=>split at hkd<;>cases hkd
 all_goals cases hkd
theorem T_arr {t e:TypeId}{n:Nat}{S:Ty}(h:T t=some S)(hk:S.k= .arr n e):P.underlying t=some (.array n e):=by
 obtain⟨i,d,z,_,hu,_,hkd,_⟩:=T_parts hT h;rw[hk]at hkd;rw[hu]
 cases d<;>simp only[kindOf]at hkd
 case array=>cases hkd;rfl
 case struct fs=>split at hkd<;>cases hkd
 all_goals cases hkd
theorem T_str {t:TypeId}{S:Ty}(h:T t=some S)(hk:S.k= .str):P.underlying t=some .string:=by
 obtain⟨i,d,z,_,hu,_,hkd,_⟩:=T_parts hT h;rw[hk]at hkd;rw[hu]
 cases d<;>simp only[kindOf]at hkd
 case string=>rfl
 case struct fs=>split at hkd<;>cases hkd
 all_goals cases hkd
theorem sLoad {t:TypeId}{x:Operand}(ho:o.op= .load t x)(hd:dstLt o s.n)(h:rLoad T s nx0 t x K):∃e,K e∧REff P o s nx0 id e:=by
 have hxm:x∈o.op.operands:=by rw[ho];simp[Op.operands]
 have hrun:∀(a:Act) (w:World) (g off:Nat) (v:Value),a.eval x= .pointer (some ⟨g,off,none⟩)→(loadVar t ⟨g,off,none⟩).run P w= .ok v w→(execOp a.eval o).run P w= .ok (.value v) w:=by
  intro a w g off v he hl;unfold execOp;rw[ho];refine run_v ?_;simp only[Instr.loadAt,he,Instr.sureAddr,Sem.run_bind,Sem.run_pure,Q7];exact hl
 unfold rLoad at h
 cases hTt:T t with
 |none=>rw[hTt]at h;exact h.elim
 |some E=>
  rw[hTt]at h;simp only at h;obtain⟨i,d,z,hi,hu,_,hk,hsz,_⟩:=T_parts hT hTt;have hldk:ldOk E→(kindOf P d).agg=some true∨((kindOf P d).agg=some false∧i.size=1):=fun hh=>by rw[←hk,←hsz];exact hh
  split at h
  ·-- a variable's block
   rename_i b off hx
   obtain⟨hb,h⟩:=h
   cases hlo:lo s.own b with
   |none=>rw[hlo]at h;exact h.elim
   |some B=>
    rw[hlo]at h;simp only at h
    split at h
    ·rename_i cs hbk
     obtain⟨hle,hld,hK⟩:=h;refine⟨_,hK,REff.pure hd fun G dom ρ Z a w hs ha=>?_⟩;obtain⟨rw_,hz⟩:=ha.blk hb hlo;obtain⟨_,_,hrep,_⟩:=hs.own b _ hz;have hev:=hs.ev x;rw[ev_one ha hxm hx]at hev;obtain⟨_,g,o',haddr,hval⟩:=hev;unfold RepBk at hrep;rw[haddr]at hrep;obtain⟨cur,e,hg,hc⟩:=hrep;simp only[hbk]at hc;obtain⟨v,hv,hr⟩:=loadVar_run (P:=P) (t:=t) hi hu g (o'+off) ((cs.drop off).take E.size) (by rw[←hsz];simp;omega) (hldk hld) (fun j c hj=>by
      rw[List.getElem?_take]at hj
      split at hj
      ·rw[List.getElem?_drop]at hj;obtain⟨u,hu',hr⟩:=hc (off+j) c hj;exact⟨u,by rw[cell_of_row w g _ cur e (0,0) hg,Nat.add_assoc];exact hu',hr⟩
      simp at hj)
     exact⟨v,hrun a w _ _ v hval hv,by rw[hk];exact hr⟩
    exact h.elim
  ·-- an element of what only is looked at
   rename_i c wd ix off hx
   obtain⟨hw,hle,hld,hK⟩:=h;refine⟨_,hK,REff.pure hd fun G dom ρ Z a w hs ha=>?_⟩;have hev:=hs.ev x;rw[ev_one ha hxm hx]at hev;obtain⟨g,o',n,cap,hrc,hix,hval⟩:=hev;have hcells:∀j,j<wd→∃u,w.cell? ⟨g,o'+(ix*wd+j),none⟩=some u∧RepI (okOf G Z.own ρ w) w (eltCell c ix j) u:=by
    intro j hj
    cases c with
    |ints k xs=>
     obtain⟨a',cap',he,_,hr⟩:=hrc;simp only[Value.slice.injEq]at he;obtain⟨rfl,rfl,rfl⟩:=he;simp only[eltW]at hw;subst hw
     rcases hr with hr|⟨g',o'',he,_,hcs⟩
     ·omega
     simp only[Q6,Addr.mk.injEq,and_true]at he;obtain⟨rfl,rfl⟩:=he;refine⟨_,?_,rfl⟩
     have:=hcs ix hix
     rw[show ix*1+j=ix by omega];exact this
    |rows wd' n' f=>
     obtain⟨a',cap',he,_,hr⟩:=hrc;simp only[Value.slice.injEq]at he;obtain⟨rfl,rfl,rfl⟩:=he;simp only[eltW]at hw;subst hw
     rcases hr with hr|⟨g',o'',he,_,hcs⟩
     ·omega
     simp only[Q6,Addr.mk.injEq,and_true]at he;obtain⟨rfl,rfl⟩:=he;exact hcs ix j hix hj
    |_=>simp only[eltW]at hw;omega
   have hcf:∀(n off0 j:Nat) c',(cellsFrom (eltCell c ix) off0 n)[j]? =some c'→j<n∧c'=eltCell c ix (off0+j):=by
    intro n
    induction n with
    |zero=>intro off0 j c' hj;simp[cellsFrom]at hj
    |succ n ih=>
     intro off0 j c' hj
     cases j with
     |zero=>simp[cellsFrom]at hj;exact⟨by omega,hj.symm⟩
     |succ j=>
      obtain⟨h1,h2⟩:=ih (off0+1) j c' (by simpa[cellsFrom]using hj);exact⟨by omega,by rw[h2,show off0+1+j=off0+(j+1) by omega]⟩
   have hlen:∀n off0,(cellsFrom (eltCell c ix) off0 n).length=n:=by
    intro n
    induction n with
    |zero=>intro _;rfl
    |succ n ih=>intro off0;simp[cellsFrom,ih]
   obtain⟨v,hv,hr⟩:=loadVar_run (P:=P) (ρ:=ρ) (dom:=dom) (ok:=okOf G Z.own ρ w) (w:=w) (t:=t) hi hu g (o'+(ix*wd+off)) (cellsFrom (eltCell c ix) off E.size) (by rw[hlen,hsz]) (hldk hld) (fun j c' hj=>by
    obtain⟨h1,rfl⟩:=hcf _ _ _ _ hj;obtain⟨u,hu',hr⟩:=hcells (off+j) (by omega);exact⟨u,by rw[show o'+(ix*wd+off)+j=o'+(ix*wd+(off+j)) by omega];exact hu',RepC.of_repI hr⟩)
   exact⟨v,hrun a w _ _ v hval hv,by rw[hk];exact hr⟩
  ·-- an element of a slice of the frame's own
   rename_i b wd ix off hx
   obtain⟨hb,h⟩:=h
   cases hlo:lo s.own b with
   |none=>rw[hlo]at h;exact h.elim
   |some B=>
    rw[hlo]at h;simp only at h;obtain⟨hw,hle,hld,hK⟩:=h;refine⟨_,hK,REff.pure hd fun G dom ρ Z a w hs ha=>?_⟩;obtain⟨rw_,hz⟩:=ha.blk hb hlo;obtain⟨_,hlenρ,hrep,_⟩:=hs.own b _ hz;have hev:=hs.ev x;rw[ev_one ha hxm hx]at hev;obtain⟨_,hix,g,o',haddr,hval⟩:=hev;unfold RepBk at hrep;rw[haddr]at hrep;obtain⟨cur,e,hg,hc⟩:=hrep;rw[hlenρ]at hix;simp only at hc hix;have hcells:∀j,j<wd→∃u,w.cell? ⟨g,o'+(ix*wd+j),none⟩=some u∧RepC ρ dom (okOf G Z.own ρ w) w (bkElt B.bk ix j) u:=by
     intro j hj;rw[cell_of_row w g _ cur e (0,0) hg]
     cases hB:B.bk with
     |var cs=>rw[hB]at hw;simp only[bkW]at hw;omega
     |ints e' k xs=>
      rw[hB]at hc hw hix;simp only[bkW]at hw;subst hw;simp only[Bk.len]at hix;obtain⟨u,hu',hr⟩:=hc ix (.int k (xs.getD ix 0)) (by simp[Bk.cell,X8 hix]);exact⟨u,by rw[show ix*1+j=ix by omega];exact hu',RepC.of_repI hr⟩
     |wins e' b2 n' g'=>
      rw[hB]at hc hw hix;simp only[bkW]at hw;subst hw;simp only[Bk.len]at hix;obtain⟨u,hu',hr⟩:=hc ix (g' ix) (by simp only[Bk.cell,if_pos hix]);exact⟨u,by rw[show ix*1+j=ix by omega];exact hu',hr⟩
     |rows e' wd' n' f=>
      rw[hB]at hc hw hix;simp only[bkW]at hw;subst hw;simp only[Bk.len]at hix;have hlt:ix*wd'+j<n'*wd':=by
       have:(ix+1)*wd'≤n'*wd':=O8 _ hix
       rw[Nat.add_mul]at this;omega
      obtain⟨u,hu',hr⟩:=hc (ix*wd'+j) (f ix j) (by
       simp only[Bk.cell,if_pos hlt];rw[O6 ix wd',Nat.mul_add_div (by omega),Nat.div_eq_of_lt hj,Nat.mul_add_mod,O7 hj];simp)
      exact⟨u,hu',RepC.of_repI hr⟩
    have hcf:∀(n off0 j:Nat) c',(cellsFrom (bkElt B.bk ix) off0 n)[j]? =some c'→j<n∧c'=bkElt B.bk ix (off0+j):=by
     intro n
     induction n with
     |zero=>intro off0 j c' hj;simp[cellsFrom]at hj
     |succ n ih=>
      intro off0 j c' hj
      cases j with
      |zero=>simp[cellsFrom]at hj;exact⟨by omega,hj.symm⟩
      |succ j=>
       obtain⟨h1,h2⟩:=ih (off0+1) j c' (by simpa[cellsFrom]using hj);exact⟨by omega,by rw[h2,show off0+1+j=off0+(j+1) by omega]⟩
    have hlen:∀n off0,(cellsFrom (bkElt B.bk ix) off0 n).length=n:=by
     intro n
     induction n with
     |zero=>intro _;rfl
     |succ n ih=>intro off0;simp[cellsFrom,ih]
    obtain⟨v,hv,hr⟩:=loadVar_run (P:=P) (ρ:=ρ) (dom:=dom) (ok:=okOf G Z.own ρ w) (w:=w) (t:=t) hi hu g (o'+(ix*wd+off)) (cellsFrom (bkElt B.bk ix) off E.size) (by rw[hlen,hsz]) (hldk hld) (fun j c' hj=>by
     obtain⟨h1,rfl⟩:=hcf _ _ _ _ hj;obtain⟨u,hu',hr⟩:=hcells (off+j) (by omega);exact⟨u,by rw[show o'+(ix*wd+off)+j=o'+(ix*wd+(off+j)) by omega];exact hu',hr⟩)
    exact⟨v,hrun a w _ _ v hval hv,by rw[hk];exact hr⟩
  exact h.elim
end
end Go.Eng
namespace Go.Eng
open Go
theorem REff.newVar {P:Program}{o:Oper}{s:St}{nx0 id:Nat}{e:TypeId}{cs:List C}(hlt:isLate o.op=false)(hd:dstLt o s.n)
  (h:∀G dom ρ Z a w,SimR G dom ρ Z a w→Agr s Z nx0 o→∃cells:Array Value,(execOp a.eval o).run P w= .ok (.value (.pointer (some ⟨w.heap.size,0,none⟩))) (w.alloc (.cells cells e))∧RepL ρ dom (okOf G Z.own ρ w) w cs cells.toList):
  REff P o s nx0 id ⟨.one (.ptr id 0),some (.var cs),[]⟩:=by
 refine⟨?_,fun h=>by rw[hlt]at h;cases h⟩;intro G dom ρ Z a w hs hid ha Q next hk;obtain⟨cells,hr,hl⟩:=h G dom ρ Z a w hs ha;have h1:=hs.newBlk hid (.var cs) cells e (fun j c hj=>by
  obtain⟨u,hu,hr⟩:=RepL.get hl j c (by simpa[Bk.cell]using hj);exact⟨u,by simpa using hu,hr⟩)
 have h2:=h1.put (dst:=o.dst) (x:=.one (.ptr id 0)) (v:=.pointer (some ⟨w.heap.size,0,none⟩)) (fun d hh=>by have:=hd d hh;rw[←ha.n]at this;exact this)
  (by exact⟨.inr rfl,w.heap.size,0,by rw[sLs],rfl⟩)
 have e2:Z.add o.dst id ⟨.one (.ptr id 0),some (.var cs),[]⟩=St.put {Z with own:=upd Z.own id ⟨.var cs,true⟩} o.dst (.one (.ptr id 0)):=by
  cases o.dst<;>rfl
 rw[←e2]at h2;exact Oper.wp_value hr (hk _ _ ⟨_,h2⟩)
theorem frz_nil' (l:List (Nat×Blk)):frz l []=l:=by
 induction l with
 |nil=>rfl
 |cons x l ih=>obtain⟨b,B⟩:=x;simp[frz,ih]
theorem frzs_eq' (l:List (Nat×Blk))(ids:List Nat):frzs l ids=frz l ids:=by
 cases ids with
 |nil=>exact(frz_nil' l).symm
 |cons x ids=>rfl
theorem REff.newRow {P:Program}{o:Oper}{s:St}{nx0 id:Nat}{e:TypeId}{B:Bk}{wd len:Nat}(ids:List Nat)(hlt:isLate o.op=false)(hd:dstLt o s.n)(hB:∀cs,B≠ .var cs)(hlen:len≤B.len)
  (h:∀G dom ρ Z a w,SimR G dom ρ Z a w→Agr s Z nx0 o→∃(cells:Array Value) (cap:Nat),(execOp a.eval o).run P w= .ok (.value (.slice (some ⟨w.heap.size,0,none⟩) len cap)) (w.alloc (.cells cells e))∧len≤cap∧cap*wd≤cells.size∧
   ∀j c,B.cell j=some c→∃u,cells[j]? =some u∧RepI (okOf G (frz Z.own ids) ρ w) w c u):
  REff P o s nx0 id ⟨.one (.own id wd 0 len),some B,ids⟩:=by
 refine⟨?_,fun h=>by rw[hlt]at h;cases h⟩;intro G dom ρ Z a w hs hid ha Q next hk;obtain⟨cells,cap,hr,hcap,hsz,hl⟩:=h G dom ρ Z a w hs ha;have h1:=(hs.frz ids).newBlk hid B cells e (fun j c hj=>by
  obtain⟨u,hu,hr⟩:=hl j c hj;refine⟨u,hu,?_⟩
  cases B with
  |var cs=>exact absurd rfl (hB cs)
  |ints e k xs=>exact hr
  |rows e w n f=>exact hr
  |wins e b2 n g=>exact RepC.of_repI hr)
 have h2:=h1.put (dst:=o.dst) (x:=.one (.own id wd 0 len)) (v:=.slice (some ⟨w.heap.size,0,none⟩) len cap) (fun d hh=>by have:=hd d hh;rw[←ha.n]at this;exact this)
  (by
   refine⟨.inr rfl,by rw[sLs];simpa using hlen,cap,hcap,.inl ⟨w.heap.size,0,0,by rw[sLs],rfl,.inr (by simp),?_⟩⟩
   have:rowSize (w.alloc (.cells cells e)) w.heap.size=cells.size:=by
    unfold rowSize;rw[show (w.alloc (.cells cells e)).heap[w.heap.size]? =some (.cells cells e)from heap_alloc_new w _]
   rw[this];simpa using hsz)
 have e2:Z.add o.dst id ⟨.one (.own id wd 0 len),some B,ids⟩=St.put {Z with own:=upd (frz Z.own ids) id ⟨B,true⟩} o.dst (.one (.own id wd 0 len)):=by
  unfold St.add;simp only[frzs_eq']
  cases o.dst<;>rfl
 rw[←e2]at h2;exact Oper.wp_value hr (hk _ _ ⟨_,h2⟩)
theorem REff.newWin {P:Program}{o:Oper}{s:St}{nx0 id:Nat}{e:TypeId}{b w0 o0 l0:Nat}(hlt:isLate o.op=false)(hd:dstLt o s.n)
  (h:∀G dom ρ Z a w,SimR G dom ρ Z a w→Agr s Z nx0 o→∃(cells:Array Value),(execOp a.eval o).run P w= .ok (.value (.slice (some ⟨w.heap.size,0,none⟩) 1 1)) (w.alloc (.cells cells e))∧cells.size=1∧
   ∃u,cells[0]? =some u∧RepC ρ dom (okOf G Z.own ρ w) w (.own b w0 o0 l0) u):
  REff P o s nx0 id ⟨.one (.win id b 0 1),some (.wins e b 1 (fun _=>.own b w0 o0 l0)),[]⟩:=by
 refine⟨?_,fun h=>by rw[hlt]at h;cases h⟩;intro G dom ρ Z a w hs hid ha Q next hk;obtain⟨cells,hr,hsz,u,hu,hl⟩:=h G dom ρ Z a w hs ha;have hdb:dom b:=hl.1;have h1:=hs.newBlk hid (.wins e b 1 (fun _=>.own b w0 o0 l0)) cells e (fun j c hj=>by
  simp only[Bk.cell]at hj
  split at hj
  ·rename_i hj1
   obtain rfl:j=0:=by omega
   obtain rfl:=Option.some.inj hj;exact⟨u,hu,hl⟩
  cases hj)
 have h2:=h1.put (dst:=o.dst) (x:=.one (.win id b 0 1)) (v:=.slice (some ⟨w.heap.size,0,none⟩) 1 1) (fun d hh=>by have:=hd d hh;rw[←ha.n]at this;exact this)
  (by
   refine⟨.inl hdb,.inr rfl,by rw[sLs];exact O1 _,1,O1 _,.inl ⟨w.heap.size,0,0,by rw[sLs],rfl,.inr (by simp),?_⟩⟩
   have:rowSize (w.alloc (.cells cells e)) w.heap.size=cells.size:=by
    unfold rowSize;rw[show (w.alloc (.cells cells e)).heap[w.heap.size]? =some (.cells cells e)from heap_alloc_new w _]
   rw[this,hsz];exact O1 _)
 have e2:Z.add o.dst id ⟨.one (.win id b 0 1),some (.wins e b 1 (fun _=>.own b w0 o0 l0)),[]⟩=St.put {Z with own:=upd Z.own id ⟨.wins e b 1 (fun _=>.own b w0 o0 l0),true⟩} o.dst (.one (.win id b 0 1)):=by
  unfold St.add
  cases o.dst<;>rfl
 rw[←e2]at h2;exact Oper.wp_value hr (hk _ _ ⟨_,h2⟩)
theorem REff.newIm {P:Program}{o:Oper}{s:St}{nx0 id:Nat}{e:TypeId}{c:C}(ids:List Nat)(hlt:isLate o.op=false)(hd:dstLt o s.n)
  (h:∀G dom ρ Z a w,SimR G dom ρ Z a w→Agr s Z nx0 o→∃(cells:Array Value) (v:Value),(execOp a.eval o).run P w= .ok (.value v) (w.alloc (.cells cells e))∧
   RepI (okOf G (frz Z.own ids) ρ (w.alloc (.cells cells e))) (w.alloc (.cells cells e)) c v):
  REff P o s nx0 id ⟨.one c,none,ids⟩:=by
 refine⟨?_,fun h=>by rw[hlt]at h;cases h⟩;intro G dom ρ Z a w hs hid ha Q next hk;obtain⟨cells,v,hr,hl⟩:=h G dom ρ Z a w hs ha;refine Oper.wp_value hr (hk _ _ ⟨ρ,?_⟩);have e2:Z.add o.dst id ⟨.one c,none,ids⟩=St.put {Z with own:=frz Z.own ids} o.dst (.one c):=by
  unfold St.add;simp only[frzs_eq']
  cases o.dst<;>rfl
 rw[e2];have h1:=(hs.frz ids).grown (below_alloc w (.cells cells e));exact(h1.put (dst:=o.dst) (x:=.one c) (v:=v) (fun d hh=>by have:=hd d hh;rw[←ha.n]at this;exact this) (RepC.of_repI hl)).mono_dom (fun b hb=>Or.inl hb)
theorem run_equalIn_bool {P:Program}(w:World)(d:Nat){t:TypeId}(hu:P.underlying t=some .bool)(a b:Bool):(Op.equalIn (d+1) t (.bool a) (.bool b)).run P w= .ok (a==b) w:=by
 simp only[Op.equalIn,Sem.run_bind,run_underlying' hu,Q7,Sem.run_pure]
section
variable {P:Program}{T:Tab}(hT:TabOk P T){o:Oper}{s:St}{nx0 id:Nat}{K:Eff→Prop}
theorem sMove {x:Operand}(ho:o.op= .move x∨o.op= .assign x)(hd:dstLt o s.n)(h:K ⟨s.ev x,none,[]⟩):∃e,K e∧REff P o s nx0 id e:=by
 have hxm:x∈o.op.operands:=by rcases ho with ho|ho<;>rw [ho]<;>simp [Op.operands]
 refine⟨_,h,REff.pure hd fun G dom ρ Z a w hs ha=>⟨a.eval x,?_,?_⟩⟩
 ·unfold execOp
  rcases ho with ho|ho<;>rw [ho]<;>rfl
 have:=hs.ev x
 rw[ha.ev x hxm]at this;exact this
theorem sPick {c x y:Operand}(ho:o.op= .pick c x y)(hd:dstLt o s.n){t:Bool}(hc:s.ev c= .one (.bool t))(h:K ⟨if t then s.ev x else s.ev y,none,[]⟩):∃e,K e∧REff P o s nx0 id e:=by
 have hm:∀z,z=c∨z=x∨z=y→z∈o.op.operands:=by rw[ho];simp[Op.operands]
 refine⟨_,h,REff.pure hd fun G dom ρ Z a w hs ha=>⟨if t then a.eval x else a.eval y,?_,?_⟩⟩
 ·have hev:=hs.ev c;rw[ev_one ha (hm c (.inl rfl)) hc]at hev;have hev:a.eval c= .bool t:=hev;unfold execOp;rw[ho];simp only[hev,asBool,Sem.run_bind,Sem.run_pure,Q7]
 cases t
 ·have:=hs.ev y
  rw[ha.ev y (hm y (.inr (.inr rfl)))]at this;exact this
 have:=hs.ev x
 rw[ha.ev x (hm x (.inr (.inl rfl)))]at this;exact this
theorem kindOf_intE {P:Program}{d:TypeDesc}{k:IntKind}(h:kindOf P d= .int k):d= .int k:=by
 cases d<;>simp only[kindOf]at h
 case int k'=>cases h;rfl
 case struct fs=>split at h<;>cases h
 all_goals cases h
theorem RepL.intsE {ρ:Nat→Loc}{dom ok:Nat→Prop}{w:World}{k:IntKind}:∀{cs:List C} {xs:List Int} {vs:List Value},intsOf k cs=some xs→RepL ρ dom ok w cs vs→vs=xs.map (Value.int k)
 |[],xs,[],h,_=>by simp only[intsOf,Q6]at h;subst h;rfl
 |c::cs,xs,v::vs,h,hr=>by
  cases c with
  |int k' n=>
   simp only[intsOf]at h
   split at h
   ·rename_i hk
    subst hk;obtain⟨ys,hy,rfl⟩:=Option.map_eq_some_iff.1 h;have h1:v= .int k' n:=hr.1;rw[h1,RepL.intsE hy hr.2];rfl
   cases h
  |_=>simp[intsOf]at h
 |[],_,_::_,_,hr=>hr.elim
 |_::_,_,[],_,hr=>hr.elim
theorem eqItems_ints {P:Program}{w:World}{d:Nat}{e:TypeId}{k:IntKind}{dd:TypeDesc}(hu:P.underlying e=some dd)(hd:dd= .int k){vs us:Array Value}:∀(xs ys:List Int) (j:Nat),xs.length=ys.length→vs.toList.drop j=xs.map (Value.int k)→us.toList.drop j=ys.map (Value.int k)→
  (Op.eqItems (d+1) e 1 vs us (List.range' j xs.length)).run P w= .ok (decide (xs=ys)) w
 |[],[],j,_,_,_=>by simp[Op.eqItems]
 |x::xs,y::ys,j,hl,hx,hy=>by
  subst hd;have hag:(isAgg e).run P w= .ok false w:=by
   have:=run_isAgg (P:=P) (w:=w) (t:=e) hu (b:=false) (by rfl)
   exact this
  have part:∀{vs:Array Value} {z:Int} {zs:List Int},vs.toList.drop j=(z::zs).map (Value.int k)→(part e vs (j*1)).run P w= .ok (.int k z) w:=by
   intro vs z zs hv
   have:vs[j]? =some (.int k z):=by
    have:=congrArg (fun l:List Value=>l[0]?) hv
    simp only[List.getElem?_drop,Nat.add_zero,Array.getElem?_toList]at this
    simpa using this
   unfold Go.part;simp only[Sem.run_bind,hag,Q7,Bool.false_eq_true,↓reduceIte,Nat.mul_one,this,Sem.run_pure]
  rw[List.length_cons,List.range'_succ];simp only[Op.eqItems,Sem.run_bind,part hx,part hy,Q7,run_equalIn_int w d e k k x y hu];have ih:=eqItems_ints (w:=w) hu rfl (d:=d) (vs:=vs) (us:=us) xs ys (j+1) (by simpa using hl) (by rw[←List.drop_drop,hx];rfl) (by rw[←List.drop_drop,hy];rfl)
  by_cases hm:x=y
  ·subst hm
   simp[ih]
  simp[hm]
 |[],_::_,_,hl,_,_=>by simp at hl
 |_::_,[],_,hl,_,_=>by simp at hl
theorem guard_arr {P:Program}{t e:TypeId}{n:Nat}{k:IntKind}(hu:P.underlying t=some (.array n e))(he:P.underlying e=some (.int k)):P.eqGuardType P.depth t=false:=by
 have:∃d,P.depth=d+2:=⟨2*(P.types.size+Made.depth),by unfold Program.depth;rfl⟩
 obtain⟨d,hd⟩:=this;rw[hd];simp only[Program.eqGuardType,hu,he]
include hT in
theorem sBin {
       op:BinOp} {t:TypeId} {x y:Operand} {t':TypeId} (ho:o.op= .binOp op t x y t') (hd:dstLt o s.n) (h:rBin T s op t x y K):∃e,K e∧REff P o s nx0 id e:=by
 have hxm:x∈o.op.operands:=by rw[ho];simp[Op.operands]
 have hym:y∈o.op.operands:=by rw[ho];simp[Op.operands]
 unfold rBin at h
 split at h
 ·rename_i k a0 k' b0 hx hy
  obtain⟨c,_,hK,_⟩:=binI_run (P:=P) (w:=default) t x y h
  -- the same at every world
  have hall:∃c,K ⟨.one c,none,[]⟩∧∀w,∃v,(do eqGuard op t x y (.int k a0) (.int k' b0);Go.binOp op t (.int k a0) (.int k' b0):Sem Value).run P w= .ok v w∧∀ρ dom ok,RepC ρ dom ok w c v:=by
   have hc:∃c,binI op k a0 k' b0 (fun c'=>c'=c)∧K ⟨.one c,none,[]⟩:=by
    cases op<;>simp only[binI]at h⊢
    case quo=>exact⟨_,⟨h.1,h.2.1,rfl⟩,h.2.2⟩
    case rem=>exact⟨_,⟨h.1,h.2.1,rfl⟩,h.2.2⟩
    all_goals exact⟨_,⟨h.1,rfl⟩,h.2⟩
   obtain⟨c,h1,h2⟩:=hc;refine⟨c,h2,fun w=>?_⟩;obtain⟨c',v,rfl,hr,hv⟩:=binI_run (P:=P) (w:=w) t x y h1;exact⟨v,hr,hv⟩
  obtain⟨c,hK,hall⟩:=hall;refine⟨_,hK,REff.pure hd fun G dom ρ Z a w hs ha=>?_⟩;have hvx:=hs.ev x;rw[ev_one ha hxm hx]at hvx;have hvy:=hs.ev y;rw[ev_one ha hym hy]at hvy;have hvx:a.eval x= .int k a0:=hvx;have hvy:a.eval y= .int k' b0:=hvy;obtain⟨v,hr,hv⟩:=hall w;refine⟨v,?_,hv _ _ _⟩;unfold execOp;rw[ho];exact run_v (by rw[hvx,hvy];exact hr)
 ·rename_i a0 b0 hx hy
  cases hTt:T t with
  |none=>rw[hTt]at h;exact h.elim
  |some E=>
   rw[hTt]at h;simp only at h;obtain⟨i,d,z,hi,hu,_,hk,_⟩:=T_parts hT hTt
   split at h
   ·rename_i hEk
    rw[hEk]at hk;have hdb:d= .bool:=by
     cases d<;>simp only[kindOf]at hk
     case bool=>rfl
     case struct fs=>split at hk<;>cases hk
     all_goals cases hk
    subst hdb;have heq:∀w:World,(Op.equal t (.bool a0) (.bool b0)).run P w= .ok (a0==b0) w:=fun w=>by
     exact run_equalIn_bool w 9999 hu a0 b0
    have hg:∀(w:World),(eqGuard op t x y (.bool a0) (.bool b0)).run P w= .ok () w:=fun w=>by
     unfold eqGuard
     cases op<;>rfl
    split at h
    ·refine⟨_,h,REff.pure hd fun G dom ρ Z a w hs ha=>?_⟩;have hvx:=hs.ev x;rw[ev_one ha hxm hx]at hvx;have hvy:=hs.ev y;rw[ev_one ha hym hy]at hvy;have hvx:a.eval x= .bool a0:=hvx;have hvy:a.eval y= .bool b0:=hvy;refine⟨.bool (a0==b0),?_,rfl⟩;unfold execOp;rw[ho];refine run_v ?_;rw[hvx,hvy,Sem.run_bind,hg,Q7];simp only[Go.binOp,Sem.run_bind,heq,Q7,Sem.run_pure]
    ·refine⟨_,h,REff.pure hd fun G dom ρ Z a w hs ha=>?_⟩;have hvx:=hs.ev x;rw[ev_one ha hxm hx]at hvx;have hvy:=hs.ev y;rw[ev_one ha hym hy]at hvy;have hvx:a.eval x= .bool a0:=hvx;have hvy:a.eval y= .bool b0:=hvy;refine⟨.bool (a0 !=b0),?_,rfl⟩;unfold execOp;rw[ho];refine run_v ?_;rw[hvx,hvy,Sem.run_bind,hg,Q7];simp only[Go.binOp,Sem.run_bind,heq,Q7,Sem.run_pure];rfl
    exact h.elim
   exact h.elim
 ·rename_i a0 b0 hx hy
  have key:∃c,K ⟨.one c,none,[]⟩∧∀w,∃v,(do eqGuard op t x y (.string a0) (.string b0);Go.binOp op t (.string a0) (.string b0):Sem Value).run P w= .ok v w∧∀ρ dom ok,RepC ρ dom ok w c v:=by
   cases op<;>simp only[strI]at h<;>first|exact h.elim|skip
   case add=>
    refine⟨_,h.2,fun w=>⟨.string (a0++b0),?_,fun _ _ _=>rfl⟩⟩;have hn:¬(((a0.size+b0.size:Nat):Int)>IntKind.i64.max):=by
     have e:IntKind.i64.max=9223372036854775807:=by decide
     rw[e];omega
    have hg:(eqGuard .add t x y (.string a0) (.string b0)).run P w= .ok () w:=by unfold eqGuard;rfl
    rw[Sem.run_bind,hg,Q7];simp only[Go.binOp,Op.stringOp,hn,↓reduceIte,Sem.run_pure]
   case eql=>
    refine⟨_,h,fun w=>⟨.bool (strEq a0 b0),?_,fun _ _ _=>rfl⟩⟩;have hg:(eqGuard .eql t x y (.string a0) (.string b0)).run P w= .ok () w:=by unfold eqGuard;rfl
    rw[Sem.run_bind,hg,Q7];simp only[Go.binOp,Op.stringOp,Sem.run_pure,strEq]
   case neq=>
    refine⟨_,h,fun w=>⟨.bool (!strEq a0 b0),?_,fun _ _ _=>rfl⟩⟩;have hg:(eqGuard .neq t x y (.string a0) (.string b0)).run P w= .ok () w:=by unfold eqGuard;rfl
    rw[Sem.run_bind,hg,Q7];simp only[Go.binOp,Op.stringOp,Sem.run_pure,strEq]
  obtain⟨c,hK,hall⟩:=key;refine⟨_,hK,REff.pure hd fun G dom ρ Z a w hs ha=>?_⟩;have hvx:=hs.ev x;rw[ev_one ha hxm hx]at hvx;have hvy:=hs.ev y;rw[ev_one ha hym hy]at hvy;have hvx:a.eval x= .string a0:=hvx;have hvy:a.eval y= .string b0:=hvy;obtain⟨v,hr,hv⟩:=hall w;refine⟨v,?_,hv _ _ _⟩;unfold execOp;rw[ho];exact run_v (by rw[hvx,hvy];exact hr)
 ·rename_i cs0 ds0 hx hy
  unfold arrI at h
  split at h
  ·rename_i A hA
   split at h
   ·rename_i m e hk
    have hu:=T_arr hT hA hk
    split at h
    ·rename_i E hE
     obtain⟨ei,ed,ez,hei,heu,_,hek,hes,_⟩:=T_parts hT hE
     split at h
     ·rename_i k0 hEk
      have hed:ed= .int k0:=kindOf_intE (hek.symm.trans hEk)
      split at h
      ·rename_i xs ys hxs hys
       obtain⟨⟨hs1,hl1,hl2⟩,h⟩:=h;have hco:P.cellsOf e=1:=by unfold Program.cellsOf;rw[hei];exact hes.symm.trans hs1
       have key:∀(G:Ctx) (dom:Nat→Prop) (ρ:Nat→Loc) (Z:St) (a:Act) (w:World),SimR G dom ρ Z a w→Agr s Z nx0 o→∃vs us:Array Value,a.eval x= .agg vs∧a.eval y= .agg us∧(Op.equalIn 10000 t (.agg vs) (.agg us)).run P w= .ok (decide (xs=ys)) w:=by
        intro G dom ρ Z a w hs ha;have hvx:=hs.ev x;rw[ha.ev x hxm,hx]at hvx;have hvy:=hs.ev y;rw[ha.ev y hym,hy]at hvy;obtain⟨vs,hvx,hrx⟩:=hvx;obtain⟨us,hvy,hry⟩:=hvy;refine⟨vs,us,hvx,hvy,?_⟩;rw[run_equalIn_array w 9999 vs us hu hei,hco,List.range_eq_range',←hl1];exact eqItems_ints heu hed xs ys 0 (by omega) (RepL.intsE hxs hrx) (RepL.intsE hys hry)
       have hg:=guard_arr hu (heu.trans (congrArg some hed))
       split at h
       ·refine⟨_,h,REff.pure hd fun G dom ρ Z a w hs ha=>?_⟩;obtain⟨vs,us,e1,e2,e3⟩:=key G dom ρ Z a w hs ha;refine⟨.bool _,?_,rfl⟩;unfold execOp;rw[ho];refine run_v ?_;rw[e1,e2,Sem.run_bind,run_eqGuard_agg w _ t x y vs us hg,Q7,run_eql_struct w,e3];rfl
       ·refine⟨_,h,REff.pure hd fun G dom ρ Z a w hs ha=>?_⟩;obtain⟨vs,us,e1,e2,e3⟩:=key G dom ρ Z a w hs ha;refine⟨.bool _,?_,rfl⟩;unfold execOp;rw[ho];refine run_v ?_;rw[e1,e2,Sem.run_bind,run_eqGuard_agg w _ t x y vs us hg,Q7,run_neq_struct w,e3];rfl
       exact h.elim
      exact h.elim
     exact h.elim
    exact h.elim
   exact h.elim
  exact h.elim
 exact h.elim
theorem sUn {op:UnOp}{t:TypeId}{x:Operand}(ho:o.op= .unOp op t x)(hd:dstLt o s.n)(h:rUn s op x K):∃e,K e∧REff P o s nx0 id e:=by
 have hxm:x∈o.op.operands:=by rw[ho];simp[Op.operands]
 unfold rUn at h
 split at h
 ·rename_i b hx
  refine⟨_,h,REff.pure hd fun G dom ρ Z a w hs ha=>⟨.bool (!b),?_,rfl⟩⟩;have hvx:=hs.ev x;rw[ev_one ha hxm hx]at hvx;have hvx:a.eval x= .bool b:=hvx;unfold execOp;rw[ho];exact run_v (by rw[hvx];rfl)
 ·rename_i k n hx
  refine⟨_,h,REff.pure hd fun G dom ρ Z a w hs ha=>⟨.int k (k.wrap (0-n)),?_,rfl⟩⟩;have hvx:=hs.ev x;rw[ev_one ha hxm hx]at hvx;have hvx:a.eval x= .int k n:=hvx;unfold execOp;rw[ho];exact run_v (by rw[hvx];rfl)
 exact h.elim
include hT in
theorem sConvert {
         src dst:TypeId} {x:Operand} (ho:o.op= .convert src dst x) (hd:dstLt o s.n) (h:rConvert T s src dst x K):∃e,K e∧REff P o s nx0 id e:=by
 have hxm:x∈o.op.operands:=by rw[ho];simp[Op.operands]
 unfold rConvert at h
 split at h
 ·rename_i S D hS hD
  obtain⟨_,d1,_,_,hu1,_⟩:=T_parts hT hS;obtain⟨_,d2,_,_,hu2,_,hk2,_⟩:=T_parts hT hD
  split at h
  ·rename_i k hk
   rw[hk]at hk2
   have:d2= .int k:=by
    cases d2<;>simp only[kindOf]at hk2
    case int=>cases hk2;rfl
    case struct fs=>split at hk2<;>cases hk2
    all_goals cases hk2
   subst this
   split at h
   ·rename_i k' n hx
    refine⟨_,h,REff.pure hd fun G dom ρ Z a w hs ha=>⟨.int k (k.wrap n),?_,rfl⟩⟩;have hvx:=hs.ev x;rw[ev_one ha hxm hx]at hvx;have hvx:a.eval x= .int k' n:=hvx;unfold execOp;rw[ho];refine run_v ?_;rw[hvx];simp only[convert,Sem.run_bind,run_underlying' hu1,run_underlying' hu2,Q7]
    cases d1<;>rfl
   exact h.elim
  ·rename_i hk
   rw[hk]at hk2
   have:d2= .string:=by
    cases d2<;>simp only[kindOf]at hk2
    case string=>rfl
    case struct fs=>split at hk2<;>cases hk2
    all_goals cases hk2
   subst this
   split at h
   ·rename_i e hSk
    have hus:=T_slice hT hS hSk
    cases hTe:T e with
    |none=>rw[hTe]at h;exact h.elim
    |some E=>
     rw[hTe]at h;simp only at h;obtain⟨_,d3,_,_,hu3,_,hk3,_⟩:=T_parts hT hTe
     split at h
     ·rename_i k hEk
      obtain⟨rfl,h⟩:=h;rw[hEk]at hk3
      have:d3= .int .u8:=by
       cases d3<;>simp only[kindOf]at hk3
       case int=>cases hk3;rfl
       case struct fs=>split at hk3<;>cases hk3
       all_goals cases hk3
      subst this
      split at h
      ·rename_i k' xs hx
       obtain⟨rfl,h⟩:=h;refine⟨_,h,REff.pure hd fun G dom ρ Z a w hs ha=>⟨.string (strOfNums xs),?_,rfl⟩⟩;have hvx:=hs.ev x;rw[ev_one ha hxm hx]at hvx;obtain⟨ad,cap,hv,hcap,hr⟩:=hvx;unfold execOp;rw[ho];refine run_v ?_;rw[hv]
       rcases hr with h0|⟨g,o',rfl,_,hcell⟩
       ·have hxs:xs=[]:=List.eq_nil_of_length_eq_zero h0;subst hxs
        cases ad with
        |none=>exact run_convert_bytes_nil w src e hus hu3 _ _ dst hu2
        |some a0=>
         have hl:(loadCells a0 0).run P w= .ok (([]:List Int).map (Value.int .u8)).toArray w:=loadCells_run a0 [] (fun j u hj=>by simp at hj);rw[run_convert_bytes_string w src dst e _ _ cap hus hu3 hu2];exact run_bytesToString w a0 0 cap [] hl
       exact run_convert_bytes_arg w src e hus hu3 g o' xs.length cap xs rfl hcell dst hu2
      exact h.elim
     exact h.elim
   exact h.elim
  exact h.elim
 exact h.elim
include hT in
theorem sIndex {t:TypeId}{x i:Operand}(ho:o.op= .index t x i)(hd:dstLt o s.n)(h:rIndex T s t x i K):∃e,K e∧REff P o s nx0 id e:=by
 have hxm:x∈o.op.operands:=by rw[ho];simp[Op.operands]
 have him:i∈o.op.operands:=by rw[ho];simp[Op.operands]
 unfold rIndex at h
 cases hTt:T t with
 |none=>rw[hTt]at h;exact h.elim
 |some E=>
  rw[hTt]at h;simp only at h;obtain⟨_,d,_,_,hu,_,hk,_⟩:=T_parts hT hTt
  split at h
  ·rename_i hEk
   rw[hEk]at hk;have hds:d= .string:=by
    cases d<;>simp only[kindOf]at hk
    case string=>rfl
    case struct fs=>split at hk<;>cases hk
    all_goals cases hk
   subst hds
   split at h
   ·rename_i k n hi
    split at h
    ·rename_i b hx
     obtain⟨⟨h0,h1⟩,h⟩:=h;refine⟨_,h,REff.pure hd fun G dom ρ Z a w hs ha=>⟨.int .u8 (strAt b n.toNat),?_,rfl⟩⟩;have hvx:=hs.ev x;rw[ev_one ha hxm hx]at hvx;have hvi:=hs.ev i;rw[ev_one ha him hi]at hvi;have hvx:a.eval x= .string b:=hvx;have hvi:a.eval i= .int k n:=hvi;unfold execOp;rw[ho];refine run_v ?_;have hb:n.toNat<b.size:=by omega
     simp only[Instr.index,hvx,hvi,asIntOf,Sem.run_bind,Sem.run_pure,Q7,run_underlying' hu,if_pos h0,getElem?_pos b n.toNat hb,strAt,Option.getD_some]
    exact h.elim
   exact h.elim
  exact h.elim
include hT in
theorem sFieldAddr {t:TypeId}{x:Operand}{f:Nat}(ho:o.op= .fieldAddr t x f)(hd:dstLt o s.n)(h:rFieldAddr T s t x f K):∃e,K e∧REff P o s nx0 id e:=by
 have hxm:x∈o.op.operands:=by rw[ho];simp[Op.operands]
 unfold rFieldAddr at h
 cases hTt:T t with
 |none=>rw[hTt]at h;exact h.elim
 |some E=>
  rw[hTt]at h;simp only at h;obtain⟨i,d,z,hi,hu,_,hk,_⟩:=T_parts hT hTt
  split at h
  ·rename_i fs hfs
   rw[hfs]at hk;obtain⟨fields,rfl,hfl⟩:=kindOf_st hk.symm
   cases hf:fs[f]? with
   |none=>rw[hf]at h;exact h.elim
   |some p=>
    obtain⟨fo,fsz⟩:=p;rw[hf]at h;simp only at h;obtain⟨hpos,h⟩:=h;obtain⟨fd,fi,hfd,hfi,he⟩:=mapM_get _ _ hfl _ _ hf;simp only[Prod.mk.injEq]at he;obtain⟨he1,he2⟩:=he;have hfd':fields[f]? =some fd:=by simpa using hfd
    have hrun:∀(a:Act) (w:World) (g off:Nat),a.eval x= .pointer (some ⟨g,off,none⟩)→(execOp a.eval o).run P w= .ok (.value (.pointer (some ⟨g,off+fo,none⟩))) w:=by
     intro a w g off hev;unfold execOp;rw[ho];refine run_v ?_;simp only[Instr.fieldAt,Sem.run_bind,run_underlying' hu,Q7,hfd',hev,Instr.sureAddr,Sem.run_pure,fieldPlace,run_sizeOf hfi,Sem.run_ite];rw[if_neg (by omega)];simp only[Q7,←he1]
     have:(⟨g,off,none⟩:Addr).add fo=⟨g,off+fo,none⟩:=by unfold Addr.add;split<;>simp_all
     rw[this]
    split at h
    ·rename_i b off hx
     refine⟨_,h,REff.pure hd fun G dom ρ Z a w hs ha=>?_⟩;have hev:=hs.ev x;rw[ev_one ha hxm hx]at hev;obtain⟨h1,g,o',h2,hv⟩:=hev;exact⟨_,hrun a w g _ hv,h1,g,o',h2,by rw[Nat.add_assoc]⟩
    ·rename_i c wd ix off hx
     refine⟨_,h,REff.pure hd fun G dom ρ Z a w hs ha=>?_⟩;have hev:=hs.ev x;rw[ev_one ha hxm hx]at hev;obtain⟨g,o',n,cap,h1,h2,hv⟩:=hev;exact⟨_,hrun a w g _ hv,g,o',n,cap,h1,h2,by rw[Nat.add_assoc,Nat.add_assoc]⟩
    ·rename_i b wd ix off hx
     refine⟨_,h,REff.pure hd fun G dom ρ Z a w hs ha=>?_⟩;have hev:=hs.ev x;rw[ev_one ha hxm hx]at hev;obtain⟨h1,h2,g,o',h3,hv⟩:=hev;exact⟨_,hrun a w g _ hv,h1,h2,g,o',h3,by rw[Nat.add_assoc,Nat.add_assoc]⟩
    exact h.elim
  exact h.elim
include hT in
theorem sField {t:TypeId}{x:Operand}{f:Nat}(ho:o.op= .field t x f)(hd:dstLt o s.n)(h:rField T s t x f K):∃e,K e∧REff P o s nx0 id e:=by
 have hxm:x∈o.op.operands:=by rw[ho];simp[Op.operands]
 unfold rField at h
 cases hTt:T t with
 |none=>rw[hTt]at h;exact h.elim
 |some E=>
  rw[hTt]at h;simp only at h;obtain⟨d,hu,hk,hfl⟩:=T_fl hT hTt
  split at h
  ·rename_i fs hEk
   split at h
   ·rename_i fo fsz hf
    split at h
    ·rename_i cs hx
     obtain⟨hag,rfl,hlt,h⟩:=h;rw[hEk]at hk;obtain⟨fds,rfl,hmap⟩:=kindOf_st hk.symm;obtain⟨fld,i,hfld,hi,hp⟩:=mapM_get _ _ hmap f _ hf;simp only[Prod.mk.injEq]at hp;obtain⟨rfl,hsz⟩:=hp;have hnag:∃d',P.underlying fld.type=some d'∧(kindOf P d').agg=some false:=by
      rw[hfl]at hag;simp only[flOf,List.getElem?_map,hfld,Option.map_some,Q6]at hag
      cases hud:P.underlying fld.type with
      |none=>rw[hud]at hag;simp at hag
      |some d'=>
       rw[hud]at hag;refine⟨d',rfl,?_⟩;simp only at hag
       cases hkd:kindOf P d'<;>rw [hkd]at hag<;>simp [TyK.agg]at hag⊢
     obtain⟨d',hud,hagg⟩:=hnag;refine⟨_,h,REff.pure hd fun G dom ρ Z a w hs ha=>?_⟩;have hev:=hs.ev x;rw[ev_one ha hxm hx]at hev;obtain⟨vs,hv,hl⟩:=hev;obtain⟨u,hu2,hr⟩:=RepL.get hl fld.offset (cs.getD fld.offset .any) (by rw[X7,X8 hlt];rfl);refine⟨u,?_,hr⟩;unfold execOp;rw[ho];refine run_v ?_;rw[hv];have hfa:fds[f]? =some fld:=by simpa using hfld
     have hua:vs[fld.offset]? =some u:=by simpa using hu2
     simp only[Instr.field,Sem.run_bind,run_underlying' hu,Q7,hfa,part,asAgg,run_isAgg hud hagg,hua,Sem.run_pure,Bool.false_eq_true,↓reduceIte]
    exact h.elim
   exact h.elim
  exact h.elim
end
end Go.Eng
namespace Go.Eng
open Go
theorem add_lit' (g o j:Nat):(⟨g,o,none⟩:Addr).add j=⟨g,o+j,none⟩:=by unfold Addr.add;split<;>simp_all
theorem indexAt_run {P:Program}{w:World}{t e:TypeId}{i:TypeInfo}(ht:P.underlying t=some (.slice e))(he:P.info? e=some i)(k:IntKind)(n:Int)(g o len cap:Nat)(h0:0≤n)(h1:n<len):
  (Instr.indexAt t (.slice (some ⟨g,o,none⟩) len cap) (.int k n)).run P w= .ok (.pointer (some ⟨g,o+n.toNat*i.size,none⟩)) w:=by
 simp only[Instr.indexAt,asIntOf,Sem.run_bind,Sem.run_pure,Q7,run_underlying' ht,run_sizeOf he,Sem.run_ite];rw[if_pos ⟨h0,h1⟩];simp only[Q7,add_lit']
theorem indexAt_arr {P:Program}{w:World}{t e:TypeId}{i:TypeInfo}{m:Nat}(ht:P.underlying t=some (.array m e))(he:P.info? e=some i)(k:IntKind)(n:Int)(g o:Nat)(h0:0≤n)(h1:n<m):
  (Instr.indexAt t (.pointer (some ⟨g,o,none⟩)) (.int k n)).run P w= .ok (.pointer (some ⟨g,o+n.toNat*i.size,none⟩)) w:=by
 simp only[Instr.indexAt,asIntOf,Instr.sureAddr,Sem.run_bind,Sem.run_pure,Q7,run_underlying' ht,run_sizeOf he,Sem.run_ite];rw[if_pos ⟨h0,h1⟩];simp only[Q7,add_lit']
theorem sliceBound_run {P:Program}{w:World}(k:IntKind)(n:Int)(y:Nat)(c:BoundsCode)(h0:0≤n)(h1:n≤y):(Instr.sliceBound (.int k n) y c).run P w= .ok n.toNat w:=by
 simp only[Instr.sliceBound,asIntOf,Sem.run_bind,Sem.run_pure,Q7,Sem.run_ite];rw[if_pos ⟨h0,h1⟩]
def BndIs (v:Option Value)(d n:Int):Prop:=(v=none∧n=d)∨∃k,v=some (.int k n)
theorem sliceBounds_run {P:Program}{w:World}{lo hi:Option Value}{len cap:Nat}{l h:Int}(hlo:BndIs lo 0 l)(hhi:BndIs hi len h)(h0:0≤l)(h1:l≤h)(h2:h≤len)(h3:len≤cap):
  (Instr.sliceBounds true len cap lo hi none).run P w= .ok (l.toNat,h.toNat,cap) w:=by
 unfold Instr.sliceBounds;have hc:h≤(cap:Int):=by omega
 rcases hhi with⟨rfl,rfl⟩|⟨k,rfl⟩
 ·rcases hlo with⟨rfl,rfl⟩|⟨k',rfl⟩
  ·simp
  simp only[Sem.run_bind,Sem.run_pure,Q7,sliceBound_run k' l len _ h0 h1]
  simp
 rcases hlo with⟨rfl,rfl⟩|⟨k',rfl⟩
 ·simp only[Sem.run_bind,Sem.run_pure,Q7,↓reduceIte,sliceBound_run k h cap _ (by omega) hc]
  simp
 simp only[Sem.run_bind,Sem.run_pure,Q7,↓reduceIte,sliceBound_run k h cap _ (by omega) hc];rw[sliceBound_run k' l h.toNat _ h0 (by omega)]
 simp
theorem sliceBoundsS_run {P:Program}{w:World}{lo hi:Option Value}{len:Nat}{l h:Int}(hlo:BndIs lo 0 l)(hhi:BndIs hi len h)(h0:0≤l)(h1:l≤h)(h2:h≤len):
  (Instr.sliceBounds false len len lo hi none).run P w= .ok (l.toNat,h.toNat,len) w:=by
 unfold Instr.sliceBounds
 rcases hhi with⟨rfl,rfl⟩|⟨k,rfl⟩
 ·rcases hlo with⟨rfl,rfl⟩|⟨k',rfl⟩
  ·simp
  simp only[Sem.run_bind,Sem.run_pure,Q7,sliceBound_run k' l len _ h0 h1]
  simp
 rcases hlo with⟨rfl,rfl⟩|⟨k',rfl⟩
 ·simp only[Sem.run_bind,Sem.run_pure,Q7,sliceBound_run k h len _ (by omega) h2]
  simp
 simp only[Sem.run_bind,Sem.run_pure,Q7,sliceBound_run k h len _ (by omega) h2];rw[sliceBound_run k' l h.toNat _ h0 (by omega)]
 simp
theorem sliceAt_run {P:Program}{w:World}{t e:TypeId}{i:TypeInfo}(ht:P.underlying t=some (.slice e))(he:P.info? e=some i){lo hi:Option Value}{a:Option Addr}{len cap:Nat}{l h:Int}
  (hlo:BndIs lo 0 l) (hhi:BndIs hi len h) (h0:0≤l) (h1:l≤h) (h2:h≤len) (h3:len≤cap):
  (Instr.sliceAt t (.slice a len cap) lo hi none).run P w= .ok (.slice (if cap=l.toNat then a else a.map (·.add (l.toNat*i.size))) (h.toNat-l.toNat) (cap-l.toNat)) w:=by
 simp only[Instr.sliceAt,Instr.slice,Sem.run_bind,run_underlying' ht,Q7,sliceBounds_run hlo hhi h0 h1 h2 h3,run_sizeOf he,Sem.run_pure]
section
variable {P:Program}{T:Tab}(hT:TabOk P T){o:Oper}{s:St}{nx0 id:Nat}{K:Eff→Prop}
include hT in
theorem sIndexAddr {t:TypeId}{x i:Operand}(ho:o.op= .indexAddr t x i)(hd:dstLt o s.n)(h:rIndexAddr T s t x i K):∃e,K e∧REff P o s nx0 id e:=by
 have hxm:x∈o.op.operands:=by rw[ho];simp[Op.operands]
 have him:i∈o.op.operands:=by rw[ho];simp[Op.operands]
 unfold rIndexAddr at h
 cases hTt:T t with
 |none=>rw[hTt]at h;exact h.elim
 |some S=>
  rw[hTt]at h;simp only at h
  split at h
  ·rename_i e hSk
   have hu:=T_slice hT hTt hSk
   cases hTe:T e with
   |none=>rw[hTe]at h;exact h.elim
   |some E=>
    rw[hTe]at h;simp only at h;obtain⟨ei,ed,ez,hei,heu,_,hek,hes,_⟩:=T_parts hT hTe
    split at h
    ·rename_i k n hi
     have hrun:∀(a:Act) (w:World) (g o' len cap:Nat),a.eval x= .slice (some ⟨g,o',none⟩) len cap→a.eval i= .int k n→0≤n→n<len→(execOp a.eval o).run P w= .ok (.value (.pointer (some ⟨g,o'+n.toNat*E.size,none⟩))) w:=by
      intro a w g o' len cap hx hiv h0 h1;unfold execOp;rw[ho];refine run_v ?_;rw[hx,hiv,indexAt_run hu hei k n g o' len cap h0 h1,hes]
     split at h
     ·rename_i b wd off len hx
      obtain⟨hw,hpos,⟨h0,h1⟩,hK⟩:=h;refine⟨_,hK,REff.pure hd fun G dom ρ Z a w hs ha=>?_⟩;have hev:=hs.ev x;rw[ev_one ha hxm hx]at hev;have hiv:=hs.ev i;rw[ev_one ha him hi]at hiv;obtain⟨hdom,hle,cap,hcap,hr⟩:=hev
      rcases hr with⟨g,o',o'',haddr,hv,hoff,_⟩|⟨_,_,hl0,_⟩
      ·refine⟨_,hrun a w g o'' len cap hv hiv h0 h1,hdom,by omega,g,o',haddr,?_⟩
       have:o''=o'+off*wd:=by rcases hoff with hoff|hoff<;>omega
       rw[this,hw,Nat.add_mul,Nat.add_zero,Nat.add_assoc]
      omega
     ·rename_i b b2 off len hx
      obtain⟨hw,⟨h0,h1⟩,hK⟩:=h;refine⟨_,hK,REff.pure hd fun G dom ρ Z a w hs ha=>?_⟩;have hev:=hs.ev x;rw[ev_one ha hxm hx]at hev;have hiv:=hs.ev i;rw[ev_one ha him hi]at hiv;obtain⟨_,hdom,hle,cap,hcap,hr⟩:=hev
      rcases hr with⟨g,o',o'',haddr,hv,hoff,_⟩|⟨_,_,hl0,_⟩
      ·refine⟨_,hrun a w g o'' len cap hv hiv h0 h1,hdom,by omega,g,o',haddr,?_⟩
       have:o''=o'+off*1:=by rcases hoff with hoff|hoff<;>omega
       rw[this,←hw,Nat.add_mul,Nat.add_zero,Nat.add_assoc]
      omega
     ·rename_i k' xs hx
      obtain⟨hw,⟨h0,h1⟩,hK⟩:=h;refine⟨_,hK,REff.pure hd fun G dom ρ Z a w hs ha=>?_⟩;have hev:=hs.ev x;rw[ev_one ha hxm hx]at hev;have hiv:=hs.ev i;rw[ev_one ha him hi]at hiv;have hev':=hev;obtain⟨a',cap,hv,hcap,hr⟩:=hev
      rcases hr with hr|⟨g,o',rfl,hg,hcs⟩
      ·omega
      refine⟨_,hrun a w g o' xs.length cap hv hiv h0 h1,g,o',xs.length,cap,?_,by omega,by rw[←hw];rfl⟩;rw[hv]at hev';exact hev'
     ·rename_i wd n' f hx
      obtain⟨hw,hpos,⟨h0,h1⟩,hK⟩:=h;refine⟨_,hK,REff.pure hd fun G dom ρ Z a w hs ha=>?_⟩;have hev:=hs.ev x;rw[ev_one ha hxm hx]at hev;have hiv:=hs.ev i;rw[ev_one ha him hi]at hiv;have hev':=hev;obtain⟨a',cap,hv,hcap,hr⟩:=hev
      rcases hr with hr|⟨g,o',rfl,hg,hcs⟩
      ·omega
      refine⟨_,hrun a w g o' n' cap hv hiv h0 h1,g,o',n',cap,?_,by omega,by rw[hw];rfl⟩;rw[hv]at hev';exact hev'
     exact h.elim
    exact h.elim
  ·rename_i m e hSk
   have hu:=T_arr hT hTt hSk
   cases hTe:T e with
   |none=>rw[hTe]at h;exact h.elim
   |some E=>
    rw[hTe]at h;simp only at h;obtain⟨ei,ed,ez,hei,heu,_,hek,hes,_⟩:=T_parts hT hTe
    split at h
    ·rename_i k n hi
     split at h
     ·rename_i b off hx
      obtain⟨⟨h0,h1⟩,hK⟩:=h;refine⟨_,hK,REff.pure hd fun G dom ρ Z a w hs ha=>?_⟩;have hev:=hs.ev x;rw[ev_one ha hxm hx]at hev;have hiv:=hs.ev i;rw[ev_one ha him hi]at hiv;obtain⟨k1,g,o',k2,hv⟩:=hev;refine⟨_,?_,k1,g,o',k2,rfl⟩;unfold execOp;rw[ho];refine run_v ?_;rw[hv,show a.eval i= .int k n from hiv,indexAt_arr hu hei k n g _ h0 h1,hes,Nat.add_assoc]
     ·rename_i c wd j off hx
      obtain⟨⟨h0,h1⟩,hK⟩:=h;refine⟨_,hK,REff.pure hd fun G dom ρ Z a w hs ha=>?_⟩;have hev:=hs.ev x;rw[ev_one ha hxm hx]at hev;have hiv:=hs.ev i;rw[ev_one ha him hi]at hiv;obtain⟨g,o',n',cap,k1,k2,hv⟩:=hev;refine⟨_,?_,g,o',n',cap,k1,k2,rfl⟩;unfold execOp;rw[ho];refine run_v ?_;rw[hv,show a.eval i= .int k n from hiv,indexAt_arr hu hei k n g _ h0 h1,hes];simp only[Nat.add_assoc]
     ·rename_i b wd j off hx
      obtain⟨⟨h0,h1⟩,hK⟩:=h;refine⟨_,hK,REff.pure hd fun G dom ρ Z a w hs ha=>?_⟩;have hev:=hs.ev x;rw[ev_one ha hxm hx]at hev;have hiv:=hs.ev i;rw[ev_one ha him hi]at hiv;obtain⟨k1,k2,g,o',k3,hv⟩:=hev;refine⟨_,?_,k1,k2,g,o',k3,rfl⟩;unfold execOp;rw[ho];refine run_v ?_;rw[hv,show a.eval i= .int k n from hiv,indexAt_arr hu hei k n g _ h0 h1,hes];simp only[Nat.add_assoc]
     exact h.elim
    exact h.elim
  exact h.elim
theorem bnd_is {s Z:St}{x:Option Operand}{d:Int}{K:Int→Prop}(h:bnd s x d K):∃n,K n∧
  ∀(G:Ctx) (dom:Nat→Prop) (ρ:Nat→Loc) (Z:St) (a:Act) (w:World),SimR G dom ρ Z a w→(∀y,x=some y→Z.ev y=s.ev y)→BndIs (x.map a.eval) d n:=by
 unfold bnd at h
 cases x with
 |none=>exact⟨d,h,fun _ _ _ _ _ _ _ _=>.inl ⟨rfl,rfl⟩⟩
 |some y=>
  simp only at h
  split at h
  ·rename_i k n hy
   refine⟨n,h,fun G dom ρ Z a w hs he=>.inr ⟨k,?_⟩⟩
   have:=hs.ev y
   rw[he y rfl,hy]at this;exact congrArg some this
  exact h.elim
theorem sliceBounds3_run {P:Program}{w:World}{lo:Option Value}{len cap:Nat}{l h m:Int}{kh km:IntKind}(hlo:BndIs lo 0 l)(h0:0≤l)(h1:l≤h)(h2:h≤m)(h3:m≤cap):
  (Instr.sliceBounds true len cap lo (some (.int kh h)) (some (.int km m))).run P w= .ok (l.toNat,h.toNat,m.toNat) w:=by
 unfold Instr.sliceBounds;simp only[Sem.run_bind,↓reduceIte,sliceBound_run km m cap _ (by omega) h3,Q7,sliceBound_run kh h m.toNat _ (by omega) (by omega)]
 rcases hlo with⟨rfl,rfl⟩|⟨k',rfl⟩
 ·simp
 simp only[Sem.run_bind,Q7];rw[sliceBound_run k' l h.toNat _ h0 (by omega)]
 simp
include hT in
theorem sSlice3 {t:TypeId}{x m:Operand}{lo hi:Option Operand}(ho:o.op= .slice t x lo hi (some m))(hd:dstLt o s.n)(h:rSlice3 T s t x lo hi m K):∃e,K e∧REff P o s nx0 id e:=by
 have hxm:x∈o.op.operands:=by rw[ho];simp[Op.operands]
 have hmm:m∈o.op.operands:=by rw[ho];simp[Op.operands]
 have hlm:∀y,lo=some y→y∈o.op.operands:=fun y hy=>by rw[ho];simp[Op.operands,hy]
 have hhm:∀y,hi=some y→y∈o.op.operands:=fun y hy=>by rw[ho];simp[Op.operands,hy]
 unfold rSlice3 at h
 cases hTt:T t with
 |none=>rw[hTt]at h;exact h.elim
 |some S=>
  rw[hTt]at h;simp only at h
  split at h
  ·rename_i e hSk
   have hu:=T_slice hT hTt hSk
   cases hTe:T e with
   |none=>rw[hTe]at h;exact h.elim
   |some E=>
    rw[hTe]at h;simp only at h;obtain⟨ei,ed,ez,hei,heu,_,hek,hes,_⟩:=T_parts hT hTe
    split at h
    ·rename_i b wd off len hx
     obtain⟨hw,h⟩:=h
     cases hi with
     |none=>exact h.elim
     |some y=>
      simp only at h;obtain⟨l,h,hbl⟩:=bnd_is (Z:=s) h;obtain⟨hh,h,hbh⟩:=bnd_is (Z:=s) h;obtain⟨k,h,hbk⟩:=bnd_is (Z:=s) h;obtain⟨⟨h0,h1,h2,h3⟩,hK⟩:=h;refine⟨_,hK,REff.pure hd fun G dom ρ Z a w hs ha=>?_⟩;have hev:=hs.ev x;rw[ev_one ha hxm hx]at hev;obtain⟨hdom,hle,cap,hcap,hr⟩:=hev;have hL:=hbl G dom ρ Z a w hs (fun y hy=>ha.ev y (hlm y hy));have hH:=hbh G dom ρ Z a w hs (fun y hy=>ha.ev y (hhm y hy));have hM:=hbk G dom ρ Z a w hs (fun y hy=>ha.ev y (by obtain rfl:=Option.some.inj hy;exact hmm));obtain⟨kh,hH⟩:∃kh,a.eval y= .int kh hh:=by
       rcases hH with⟨h,_⟩|⟨k,h⟩
       ·cases h
       exact⟨k,Option.some.inj h⟩
      obtain⟨km,hM⟩:∃km,a.eval m= .int km k:=by
       rcases hM with⟨h,_⟩|⟨k,h⟩
       ·cases h
       exact⟨k,Option.some.inj h⟩
      have hrun:∀(ad:Option Addr),a.eval x= .slice ad len cap→
        (execOp a.eval o).run P w= .ok (.value (.slice (if k.toNat=l.toNat then ad else ad.map (·.add (l.toNat*E.size))) (hh.toNat-l.toNat) (k.toNat-l.toNat))) w:=by
       intro ad hx;unfold execOp;rw[ho];refine run_v ?_;rw[hx];simp only[Option.map_some,hH,hM];simp only[Instr.sliceAt,Instr.slice,Sem.run_bind,run_underlying' hu,Q7,sliceBounds3_run hL h0 h1 h2 (by omega:k≤(cap:Int)),run_sizeOf hei,Sem.run_pure,hes]
      rcases hr with⟨g,o',o'',haddr,hv,hoff,hroom⟩|⟨haddr,hv,hl0,hc0⟩
      ·have hrm:o'+(off+l.toNat+(k.toNat-l.toNat))*wd≤rowSize w g:=by
        refine O0 ?_ hroom
        have:(off+l.toNat+(k.toNat-l.toNat))*wd≤(off+cap)*wd:=O8 _ (by omega)
        omega
       refine⟨_,hrun _ hv,hdom,by omega,k.toNat-l.toNat,by omega,.inl ?_⟩
       by_cases hcl:k.toNat=l.toNat
       ·exact⟨g,o',o'',haddr,by rw[if_pos hcl,show (hh-l).toNat=hh.toNat-l.toNat by omega],.inl (by omega),hrm⟩
       refine⟨g,o',o''+l.toNat*E.size,haddr,?_,.inr ?_,hrm⟩
       ·rw[if_neg hcl,show (hh-l).toNat=hh.toNat-l.toNat by omega,Option.map_some,add_lit']
       have:o''=o'+off*wd:=by
        rcases hoff with hoff|hoff
        ·omega
        exact hoff
       rw[this,hw,Nat.add_mul,Nat.add_assoc]
      refine⟨_,hrun none (by rw[hv,hl0,hc0]),hdom,by omega,0,by omega,.inr ⟨haddr,?_,by omega,rfl⟩⟩;simp only[Option.map_none,ite_self]
      congr 1<;>omega
    exact h.elim
  exact h.elim
include hT in
theorem sSlice {
        t:TypeId} {x:Operand} {lo hi mx:Option Operand} (ho:o.op= .slice t x lo hi mx) (hd:dstLt o s.n) (h:rSlice T s t x lo hi mx K):∃e,K e∧REff P o s nx0 id e:=by
 have hxm:x∈o.op.operands:=by rw[ho];simp[Op.operands]
 have hlm:∀y,lo=some y→y∈o.op.operands:=fun y hy=>by rw[ho];simp[Op.operands,hy]
 have hhm:∀y,hi=some y→y∈o.op.operands:=fun y hy=>by rw[ho];simp[Op.operands,hy]
 cases mx with
 |some m=>exact sSlice3 hT ho hd h
 |none=>
 unfold rSlice at h;simp only at h
 cases hTt:T t with
 |none=>rw[hTt]at h;exact h.elim
 |some S=>
  rw[hTt]at h;simp only at h
  split at h
  ·rename_i e hSk
   have hu:=T_slice hT hTt hSk
   cases hTe:T e with
   |none=>rw[hTe]at h;exact h.elim
   |some E=>
    rw[hTe]at h;simp only at h;obtain⟨ei,ed,ez,hei,heu,_,hek,hes,_⟩:=T_parts hT hTe;have hrun:∀(a:Act) (w:World) (ad:Option Addr) (len cap:Nat) (l h:Int),a.eval x= .slice ad len cap→BndIs (lo.map a.eval) 0 l→BndIs (hi.map a.eval) len h→0≤l→l≤h→h≤len→len≤cap→
      (execOp a.eval o).run P w= .ok (.value (.slice (if cap=l.toNat then ad else ad.map (·.add (l.toNat*E.size))) (h.toNat-l.toNat) (cap-l.toNat))) w:=by
     intro a w ad len cap l h hx hl hh h0 h1 h2 h3;unfold execOp;rw[ho];refine run_v ?_;rw[hx,Option.map_none,sliceAt_run hu hei hl hh h0 h1 h2 h3,hes]
    split at h
    ·rename_i b wd off len hx
     obtain⟨hw,h⟩:=h;obtain⟨l,h,hbl⟩:=bnd_is (Z:=s) h;obtain⟨hh,h,hbh⟩:=bnd_is (Z:=s) h;obtain⟨⟨h0,h1,h2⟩,hK⟩:=h;refine⟨_,hK,REff.pure hd fun G dom ρ Z a w hs ha=>?_⟩;have hev:=hs.ev x;rw[ev_one ha hxm hx]at hev;obtain⟨hdom,hle,cap,hcap,hr⟩:=hev;have hL:=hbl G dom ρ Z a w hs (fun y hy=>ha.ev y (hlm y hy));have hH:=hbh G dom ρ Z a w hs (fun y hy=>ha.ev y (hhm y hy))
     rcases hr with⟨g,o',o'',haddr,hv,hoff,hroom⟩|⟨haddr,hv,hl0,hc0⟩
     ·refine⟨_,hrun a w _ len cap l hh hv hL hH h0 h1 h2 hcap,hdom,by omega,cap-l.toNat,by omega,.inl ?_⟩
      by_cases hcl:cap=l.toNat
      ·refine⟨g,o',o'',haddr,by rw[if_pos hcl,show (hh-l).toNat=hh.toNat-l.toNat by omega],.inl (by omega),?_⟩;rw[show off+l.toNat+(cap-l.toNat)=off+cap by omega];exact hroom
      refine⟨g,o',o''+l.toNat*E.size,haddr,?_,.inr ?_,?_⟩
      ·rw[if_neg hcl,show (hh-l).toNat=hh.toNat-l.toNat by omega,Option.map_some,add_lit']
      ·have:o''=o'+off*wd:=by
        rcases hoff with hoff|hoff
        ·omega
        exact hoff
       rw[this,hw,Nat.add_mul,Nat.add_assoc]
      rw[show off+l.toNat+(cap-l.toNat)=off+cap by omega];exact hroom
     refine⟨_,hrun a w none len cap l hh (by rw[hv,hl0,hc0]) hL hH h0 h1 h2 hcap,hdom,by omega,0,by omega,.inr ⟨haddr,?_,by omega,rfl⟩⟩;simp only[Option.map_none,ite_self]
     congr 1<;>omega
    ·rename_i b b2 off len hx
     obtain⟨hw,h⟩:=h;obtain⟨l,h,hbl⟩:=bnd_is (Z:=s) h;obtain⟨hh,h,hbh⟩:=bnd_is (Z:=s) h;obtain⟨⟨h0,h1,h2⟩,hK⟩:=h;refine⟨_,hK,REff.pure hd fun G dom ρ Z a w hs ha=>?_⟩;have hev:=hs.ev x;rw[ev_one ha hxm hx]at hev;obtain⟨hd2,hdom,hle,cap,hcap,hr⟩:=hev;have hL:=hbl G dom ρ Z a w hs (fun y hy=>ha.ev y (hlm y hy));have hH:=hbh G dom ρ Z a w hs (fun y hy=>ha.ev y (hhm y hy))
     rcases hr with⟨g,o',o'',haddr,hv,hoff,hroom⟩|⟨haddr,hv,hl0,hc0⟩
     ·refine⟨_,hrun a w _ len cap l hh hv hL hH h0 h1 h2 hcap,hd2,hdom,by omega,cap-l.toNat,by omega,.inl ?_⟩
      by_cases hcl:cap=l.toNat
      ·refine⟨g,o',o'',haddr,by rw[if_pos hcl,show (hh-l).toNat=hh.toNat-l.toNat by omega],.inl (by omega),?_⟩;rw[show off+l.toNat+(cap-l.toNat)=off+cap by omega];exact hroom
      refine⟨g,o',o''+l.toNat*E.size,haddr,?_,.inr ?_,?_⟩
      ·rw[if_neg hcl,show (hh-l).toNat=hh.toNat-l.toNat by omega,Option.map_some,add_lit']
      ·have:o''=o'+off*1:=by
        rcases hoff with hoff|hoff
        ·omega
        exact hoff
       rw[this,←hw,Nat.add_mul,Nat.add_assoc]
      rw[show off+l.toNat+(cap-l.toNat)=off+cap by omega];exact hroom
     refine⟨_,hrun a w none len cap l hh (by rw[hv,hl0,hc0]) hL hH h0 h1 h2 hcap,hd2,hdom,by omega,0,by omega,.inr ⟨haddr,?_,by omega,rfl⟩⟩;simp only[Option.map_none,ite_self]
     congr 1<;>omega
    ·rename_i k xs hx
     obtain⟨hw,h⟩:=h;obtain⟨l,h,hbl⟩:=bnd_is (Z:=s) h;obtain⟨hh,h,hbh⟩:=bnd_is (Z:=s) h;obtain⟨⟨h0,h1,h2⟩,hK⟩:=h;refine⟨_,hK,REff.pure hd fun G dom ρ Z a w hs ha=>?_⟩;have hev:=hs.ev x;rw[ev_one ha hxm hx]at hev;obtain⟨a',cap,hv,hcap,hr⟩:=hev;have hL:=hbl G dom ρ Z a w hs (fun y hy=>ha.ev y (hlm y hy));have hH:=hbh G dom ρ Z a w hs (fun y hy=>ha.ev y (hhm y hy));have hlen:((xs.drop l.toNat).take (hh-l).toNat).length=hh.toNat-l.toNat:=by simp;omega
     refine⟨_,hrun a w _ xs.length cap l hh hv hL hH h0 h1 h2 hcap,?_⟩;refine⟨_,cap-l.toNat,by rw[hlen],by omega,?_⟩
     rcases hr with hr|⟨g,o',rfl,hg,hcs⟩
     ·exact .inl (by omega)
     by_cases hz:hh.toNat-l.toNat=0
     ·exact .inl (by omega)
     refine .inr ⟨g,o'+l.toNat*E.size,by rw[if_neg (by omega),Option.map_some,add_lit'],hg,fun j hj=>?_⟩;rw[hlen]at hj
     have:=hcs (l.toNat+j) (by omega)
     rw[←hw,Nat.mul_one,Nat.add_assoc,this]
     congr 2
     simp only[X7,List.getElem?_take,List.getElem?_drop];rw[if_pos (by omega)]
    ·rename_i wd n f hx
     obtain⟨hw,h⟩:=h;obtain⟨l,h,hbl⟩:=bnd_is (Z:=s) h;obtain⟨hh,h,hbh⟩:=bnd_is (Z:=s) h;obtain⟨⟨h0,h1,h2⟩,hK⟩:=h;refine⟨_,hK,REff.pure hd fun G dom ρ Z a w hs ha=>?_⟩;have hev:=hs.ev x;rw[ev_one ha hxm hx]at hev;obtain⟨a',cap,hv,hcap,hr⟩:=hev;have hL:=hbl G dom ρ Z a w hs (fun y hy=>ha.ev y (hlm y hy));have hH:=hbh G dom ρ Z a w hs (fun y hy=>ha.ev y (hhm y hy));refine⟨_,hrun a w _ n cap l hh hv hL hH h0 h1 h2 hcap,?_⟩;refine⟨_,cap-l.toNat,by rw[show (hh-l).toNat=hh.toNat-l.toNat by omega],by omega,?_⟩
     rcases hr with hr|⟨g,o',rfl,hg,hcs⟩
     ·exact .inl (by omega)
     by_cases hz:hh.toNat-l.toNat=0
     ·exact .inl (by omega)
     refine .inr ⟨g,o'+l.toNat*E.size,by rw[if_neg (by omega),Option.map_some,add_lit'],hg,fun i j hi hj=>?_⟩;obtain⟨u,hu',hr⟩:=hcs (l.toNat+i) j (by omega) hj;refine⟨u,?_,hr⟩;rw[←hu',←hw,Nat.add_mul]
     congr 2
     omega
    ·rename_i hx
     obtain⟨l,h,hbl⟩:=bnd_is (Z:=s) h;obtain⟨hh,h,hbh⟩:=bnd_is (Z:=s) h;obtain⟨⟨rfl,rfl⟩,hK⟩:=h;refine⟨_,hK,REff.pure hd fun G dom ρ Z a w hs ha=>?_⟩;have hev:=hs.ev x;rw[ev_one ha hxm hx]at hev;have hv:a.eval x= .slice none 0 0:=hev;have hL:=hbl G dom ρ Z a w hs (fun y hy=>ha.ev y (hlm y hy));have hH:=hbh G dom ρ Z a w hs (fun y hy=>ha.ev y (hhm y hy));exact⟨_,hrun a w none 0 0 0 0 hv hL hH (Int.le_refl _) (Int.le_refl _) (Int.le_refl _) (O1 _),rfl⟩
    exact h.elim
  ·rename_i hSk
   have hu:=T_str hT hTt hSk
   split at h
   ·rename_i b hx
    obtain⟨l,h,hbl⟩:=bnd_is (Z:=s) h;obtain⟨hh,h,hbh⟩:=bnd_is (Z:=s) h;obtain⟨⟨h0,h1,h2⟩,hK⟩:=h;refine⟨_,hK,REff.pure hd fun G dom ρ Z a w hs ha=>?_⟩;have hev:=hs.ev x;rw[ev_one ha hxm hx]at hev;have hv:a.eval x= .string b:=hev;have hL:=hbl G dom ρ Z a w hs (fun y hy=>ha.ev y (hlm y hy));have hH:=hbh G dom ρ Z a w hs (fun y hy=>ha.ev y (hhm y hy));refine⟨.string (b.extract l.toNat hh.toNat),?_,rfl⟩;unfold execOp;rw[ho];refine run_v ?_;simp only[hv,Option.map_none,Instr.sliceAt,Instr.slice,Sem.run_bind,run_underlying' hu,Q7,sliceBoundsS_run hL hH h0 h1 h2,Sem.run_pure,Option.isSome_none,Bool.false_eq_true,↓reduceIte]
   exact h.elim
  exact h.elim
end
end Go.Eng
namespace Go.Eng
open Go
section aux
variable {ρ:Nat→Loc}{dom ok:Nat→Prop}{w:World}
theorem vwBk_sound {l:Loc}{B:Bk}{wd off len cap:Nat}{g o o':Nat}(ha:l.addr=some (g,o))(hr:RepBk ρ dom ok w l B)(hok:ok g)(hl:l.len=B.len)(hle:off+len≤l.len)(hc:len≤cap)(ho:cap=0∨o'=o+off*wd):
  RepI ok w (vwBk B wd off len) (.slice (some ⟨g,o',none⟩) len cap):=by
 have hany:RepI ok w .any (.slice (some ⟨g,o',none⟩) len cap):=rfl;unfold RepBk at hr;rw[ha]at hr;obtain⟨cur,e,hg,hcell⟩:=hr;rw[hl]at hle
 cases B with
 |var cs=>exact hany
 |wins e b2 n g=>exact hany
 |ints e' k xs=>
  simp only[vwBk]
  split
  ·rename_i hw
   subst hw;simp only[Bk.len]at hle;have hlen:((xs.drop off).take len).length=len:=by simp;omega
   refine⟨_,cap,by rw[hlen],by omega,?_⟩
   by_cases h0:len=0
   ·exact .inl (by omega)
   refine .inr ⟨g,o',rfl,hok,fun i hi=>?_⟩;rw[hlen]at hi
   have ho':o'=o+off*1:=by rcases ho with ho|ho<;>omega
   have hx:off+i<xs.length:=by omega
   obtain⟨u,hu,hr⟩:=hcell (off+i) (.int k (xs.getD (off+i) 0)) (by simp[Bk.cell,X8 hx]);rw[cell_of_row w g _ cur e (0,0) hg,ho',show o+off*1+i=o+(off+i) by omega,hu];have hr:u= .int k (xs.getD (off+i) 0):=hr;rw[hr]
   congr 2
   simp only[X7,List.getElem?_take,List.getElem?_drop];rw[if_pos hi]
  exact hany
 |rows e' w' n f=>
  simp only[vwBk]
  split
  ·rename_i hw
   subst hw;simp only[Bk.len]at hle;refine⟨_,cap,rfl,hc,?_⟩
   by_cases h0:len=0
   ·exact .inl h0
   refine .inr ⟨g,o',rfl,hok,fun i j hi hj=>?_⟩
   have ho':o'=o+off*w':=by rcases ho with ho|ho<;>omega
   have hlt:(off+i)*w'+j<n*w':=by
    have:(off+i+1)*w'≤n*w':=O8 _ (by omega)
    rw[Nat.add_mul (off+i)]at this;omega
   obtain⟨u,hu,hr⟩:=hcell ((off+i)*w'+j) (f (off+i) j) (by
    simp only[Bk.cell,if_pos hlt];rw[O6 (off+i) w',Nat.mul_add_div (by omega),Nat.div_eq_of_lt hj,Nat.mul_add_mod,O7 hj];simp)
   refine⟨u,?_,hr⟩;rw[cell_of_row w g _ cur e (0,0) hg,ho',←hu]
   congr 1
   rw[Nat.add_mul];omega
  exact hany
end aux
def okIds (G:Ctx)(own:List (Nat×Blk))(ρ:Nat→Loc)(w:World)(ids:List Nat)(g:Nat):Prop:=
 okOf G own ρ w g∨∃b∈ids,∃B o,lo own b=some B∧(ρ b).addr=some (g,o)
theorem Ext.of_imp {ok ok':Nat→Prop}{w:World}(h:∀g,ok g→ok' g):Ext ok ok' w w:=⟨fun g hg=>⟨h g hg,rfl⟩,fun _=>O1 _⟩
theorem okIds_frz {G:Ctx}{dom:Nat→Prop}{ρ:Nat→Loc}{s:St}{a:Act}{w:World}(hs:SimR G dom ρ s a w)(ids:List Nat){g:Nat}(h:okIds G s.own ρ w ids g):okOf G (frz s.own ids) ρ w g:=by
 rcases h with h3|⟨b,hbi,B,o',hl,ha'⟩
 ·exact okOf_frz h3
 obtain⟨_,_,_,h4⟩:=hs.own b B hl;obtain⟨h5,h6,_⟩:=h4 g o' ha';refine⟨h5,h6,fun b2 B2 hl2 hrw o2 ha2=>?_⟩;rw[lo_frz]at hl2
 cases hl3:lo s.own b2 with
 |none=>rw[hl3]at hl2;simp at hl2
 |some B3=>
  rw[hl3]at hl2;simp only[Option.map_some,Q6]at hl2
  by_cases hm:ids.contains b2=true
  ·rw[if_pos hm]at hl2;subst hl2;simp at hrw
  rw[if_neg hm]at hl2;subst hl2
  by_cases hbb:b2=b
  ·subst hbb;exact hm (by simpa using hbi)
  exact hs.inj b2 B3 b B hl3 hl hbb hrw g o2 o' ha2 ha'
section view
variable {G:Ctx}{dom:Nat→Prop}{ρ:Nat→Loc}{Z s:St}{a:Act}{w:World}{nx0:Nat}{o:Oper}
theorem plC_sound {ρ:Nat→Loc}{dom ok ok':Nat→Prop}{w:World}(hx:Ext ok ok' w w){c:C}{v:Value}(hr:RepC ρ dom ok w c v):RepI ok' w (plC c) v:=by
 have hone:v.oneCell'=true:=(RepC.plain hr).1
 cases c with
 |own b wd off len=>exact hone
 |win b b2 off len=>exact hone
 |ptr b off=>exact hone
 |eptr b wd i off=>exact hone
 |fn f n caps=>exact hone
 |any=>exact hone
 |bool b=>exact RepI.ext hx (.bool b) v hr
 |int k n=>exact RepI.ext hx (.int k n) v hr
 |str b=>exact RepI.ext hx (.str b) v hr
 |nil=>exact RepI.ext hx .nil v hr
 |ints k xs=>exact RepI.ext hx (.ints k xs) v hr
 |rows wd n f=>exact RepI.ext hx (.rows wd n f) v hr
 |elt c wd i off=>exact RepI.ext hx (.elt c wd i off) v hr
theorem vwW_sound (hs:SimR G dom ρ Z a w)(ha:Agr s Z nx0 o){b2:Nat}{ids:List Nat}(hb:b2<nx0)(hi:b2∈ids)(c:C)(v:Value)(hr:RepC ρ dom (okOf G Z.own ρ w) w c v):
  RepI (okIds G Z.own ρ w ids) w (vwW s.own b2 c) v:=by
 have hx:Ext (okOf G Z.own ρ w) (okIds G Z.own ρ w ids) w w:=Ext.of_imp fun g hg=>.inl hg;have hone:v.oneCell'=true:=(RepC.plain hr).1
 cases c with
 |own b wd off len=>
  simp only[vwW]
  split
  ·rename_i e
   subst e
   cases hl:lo s.own b with
   |none=>exact hone
   |some B=>
    simp only;obtain⟨rw_,hz⟩:=ha.blk hb hl;obtain⟨h1,h2,h3,h4⟩:=hs.own b _ hz;obtain⟨_,hle,cap,hc,hr⟩:=hr
    rcases hr with⟨g,o1,o2,haddr,rfl,hoff,_⟩|⟨haddr,rfl,hl0,hc0⟩
    ·have hs0:Same dom dom ρ ρ:=⟨fun _ h=>h,fun _ _=>rfl⟩;exact vwBk_sound (ρ:=ρ) (dom:=dom) haddr (RepBk.ext hx hs0 _ _ (fun _ _ _=>rfl) h3) (.inr ⟨b,hi,_,_,hz,haddr⟩) h2 hle hc hoff
    subst hl0
    cases hB:B.bk with
    |var cs=>rfl
    |wins e b2 n g=>rfl
    |ints e k xs=>
     simp only[vwBk]
     split
     ·exact⟨none,0,by simp,by simp,.inl (by simp)⟩
     rfl
    |rows e w' n f=>
     simp only[vwBk]
     split
     ·exact⟨none,0,rfl,O1 _,.inl rfl⟩
     rfl
  exact hone
 |win b b2 off len=>exact hone
 |ptr b off=>exact hone
 |eptr b wd i off=>exact hone
 |elt c wd i off=>exact hone
 |fn f n caps=>exact hone
 |any=>exact hone
 |bool b=>exact RepI.ext hx (.bool b) v hr
 |int k n=>exact RepI.ext hx (.int k n) v hr
 |str b=>exact RepI.ext hx (.str b) v hr
 |nil=>exact RepI.ext hx .nil v hr
 |ints k xs=>exact RepI.ext hx (.ints k xs) v hr
 |rows wd n f=>exact RepI.ext hx (.rows wd n f) v hr
theorem vwC_sound (hs:SimR G dom ρ Z a w)(ha:Agr s Z nx0 o)(c:C)(v:Value)(ids:List Nat)(hi:∀b∈idsC c,b<nx0→b∈ids)(hr:RepC ρ dom (okOf G Z.own ρ w) w c v):
  RepC loc0 dom0 (okIds G Z.own ρ w ids) w (vwC s.own nx0 c) v:=by
 have hx:Ext (okOf G Z.own ρ w) (okIds G Z.own ρ w ids) w w:=Ext.of_imp fun g hg=>.inl hg;have hone:v.oneCell'=true:=(RepC.plain hr).1
 cases c with
 |own b wd off len=>
  simp only[vwC]
  split
  ·rename_i hb
   cases hl:lo s.own b with
   |none=>exact hone
   |some B=>
    simp only;obtain⟨rw_,hz⟩:=ha.blk hb hl;obtain⟨h1,h2,h3,h4⟩:=hs.own b _ hz;obtain⟨_,hle,cap,hc,hr⟩:=hr;refine RepC.of_repI ?_
    rcases hr with⟨g,o1,o2,haddr,rfl,hoff,_⟩|⟨haddr,rfl,hl0,hc0⟩
    ·have hs0:Same dom dom ρ ρ:=⟨fun _ h=>h,fun _ _=>rfl⟩;exact vwBk_sound (ρ:=ρ) (dom:=dom) haddr (RepBk.ext hx hs0 _ _ (fun _ _ _=>rfl) h3) (.inr ⟨b,hi b (by simp[idsC]) hb,_,_,hz,haddr⟩) h2 hle hc hoff
    subst hl0
    cases hB:B.bk with
    |var cs=>rfl
    |wins e b2 n g=>rfl
    |ints e k xs=>
     simp only[vwBk]
     split
     ·exact⟨none,0,by simp,by simp,.inl (by simp)⟩
     rfl
    |rows e w' n f=>
     simp only[vwBk]
     split
     ·exact⟨none,0,rfl,O1 _,.inl rfl⟩
     rfl
  exact hone
 |win b b2 off len=>
  simp only[vwC]
  split
  ·rename_i hb
   split
   ·rename_i hb2
    cases hl:lo s.own b with
    |none=>exact hone
    |some B=>
     simp only;obtain⟨rw_,hz⟩:=ha.blk hb hl;obtain⟨h1,h2,h3,h4⟩:=hs.own b _ hz;obtain⟨_,_,hle,cap,hc,hr⟩:=hr
     cases hB:B.bk with
     |var cs=>exact hone
     |ints e k xs=>exact hone
     |rows e w' n f=>exact hone
     |wins e b3 n g=>
      simp only[vwBW]
      split
      ·rename_i e3
       subst e3;rw[hB]at h2 h3;refine RepC.of_repI ?_
       rcases hr with⟨g',o1,o2,haddr,rfl,hoff,_⟩|⟨haddr,rfl,hl0,hc0⟩
       ·refine⟨_,cap,rfl,hc,?_⟩
        by_cases h0:len=0
        ·exact .inl h0
        unfold RepBk at h3;rw[haddr]at h3;obtain⟨cur,e',hg,hcell⟩:=h3;refine .inr ⟨g',o2,rfl,.inr ⟨b,hi b (by simp[idsC]) hb,_,_,hz,haddr⟩,fun i j hil hj=>?_⟩;obtain rfl:j=0:=by omega
        have ho':o2=o1+off*1:=by rcases hoff with ho|ho<;>omega
        have hlt:off+i<n:=by
         have:(ρ b).len=n:=h2
         omega
        obtain⟨u,hu,hru⟩:=hcell (off+i) (g (off+i)) (by simp only[Bk.cell,if_pos hlt]);refine⟨u,by rw[cell_of_row w g' _ cur e' (0,0) hg,ho',←hu];congr 1;omega,?_⟩;exact vwW_sound hs ha hb2 (hi b3 (by simp[idsC]) hb2) (g (off+i)) u hru
       subst hl0;exact⟨none,0,rfl,O1 _,.inl rfl⟩
      exact hone
   exact hone
  exact hone
 |ptr b off=>
  simp only[vwC]
  split
  ·rename_i hb
   cases hl:lo s.own b with
   |none=>exact hone
   |some B=>
    simp only;obtain⟨rw_,hz⟩:=ha.blk hb hl;obtain⟨h1,h2,h3,h4⟩:=hs.own b _ hz;obtain⟨_,g,o1,haddr,rfl⟩:=hr
    cases hB:B.bk with
    |var cs=>
     simp only[vwP];rw[hB]at h3;unfold RepBk at h3;rw[haddr]at h3;obtain⟨cur,e,hg,hcell⟩:=h3;refine⟨g,o1,1,1,⟨_,1,rfl,O1 _,.inr ⟨g,o1,rfl,.inr ⟨b,hi b (by simp[idsC]) hb,_,_,hz,haddr⟩,fun i j hi hj=>?_⟩⟩,by omega,by rw[Nat.zero_mul,Nat.zero_add]⟩;obtain rfl:i=0:=by omega
     obtain⟨u,hu,hr⟩:=hcell j (cs.getD j .any) (by simp only[Bk.cell];rw[X7,X8 hj];rfl);refine⟨u,?_,plC_sound hx hr⟩;rw[cell_of_row w g _ cur e (0,0) hg,Nat.zero_mul,Nat.zero_add,hu]
    |ints e k xs=>exact hone
    |rows e w' n f=>exact hone
    |wins e b2 n g=>exact hone
  exact hone
 |eptr b wd i off=>exact hone
 |fn f n caps=>
  simp only[vwC]
  split
  ·rename_i hn
   subst hn;obtain⟨cs,hv,hcs,_⟩:=hr;exact⟨cs,hv,hcs,fun i hi=>absurd hi (O5 _)⟩
  exact hone
 |any=>exact hone
 |bool b=>exact RepC.of_repI (RepI.ext hx (.bool b) v hr)
 |int k n=>exact RepC.of_repI (RepI.ext hx (.int k n) v hr)
 |str b=>exact RepC.of_repI (RepI.ext hx (.str b) v hr)
 |nil=>exact RepC.of_repI (RepI.ext hx .nil v hr)
 |ints k xs=>exact RepC.of_repI (RepI.ext hx (.ints k xs) v hr)
 |rows wd n f=>exact RepC.of_repI (RepI.ext hx (.rows wd n f) v hr)
 |elt c wd i off=>exact RepC.of_repI (RepI.ext hx (.elt c wd i off) v hr)
theorem vwL_sound (hs:SimR G dom ρ Z a w)(ha:Agr s Z nx0 o)(ids:List Nat):∀(cs:List C) (vs:List Value),(∀b∈cs.flatMap idsC,b<nx0→b∈ids)→RepL ρ dom (okOf G Z.own ρ w) w cs vs→RepL loc0 dom0 (okIds G Z.own ρ w ids) w (cs.map (vwC s.own nx0)) vs
 |[],[],_,_=>trivial
 |c::cs,v::vs,hi,hr=>⟨vwC_sound hs ha c v ids (fun b hb=>hi b (by simp[hb])) hr.1,vwL_sound hs ha ids cs vs (fun b hb=>hi b (by rw[List.flatMap_cons];exact List.mem_append_right _ hb)) hr.2⟩
 |[],_::_,_,hr=>hr.elim
 |_::_,[],_,hr=>hr.elim
theorem vwV_sound (hs:SimR G dom ρ Z a w)(ha:Agr s Z nx0 o)(ids:List Nat)(x:V)(v:Value)(hi:∀b∈idsV x,b<nx0→b∈ids)(hr:RepV ρ dom (okOf G Z.own ρ w) w x v):
  RepV1 loc0 dom0 (okIds G Z.own ρ w ids) w (vwV s.own nx0 x) v:=by
 cases x with
 |one c=>exact vwC_sound hs ha c v ids hi hr
 |agg cs=>obtain⟨vs,rfl,hl⟩:=hr;exact⟨vs,rfl,vwL_sound hs ha ids cs _ hi hl⟩
 |tup xs=>trivial
 |unk=>trivial
end view
theorem scalarC_any {c:C}{v:Value}{ρ ρ':Nat→Loc}{dom dom' ok ok':Nat→Prop}{w:World}(hs:scalarC c=true)(h:RepC ρ dom ok w c v):RepC ρ' dom' ok' w c v:=by
 cases c<;>simp [scalarC]at hs<;>exact h
theorem scalarL_any {ρ ρ':Nat→Loc}{dom dom' ok ok':Nat→Prop}{w:World}:∀{cs:List C} {vs:List Value},cs.all scalarC=true→RepL ρ dom ok w cs vs→RepL ρ' dom' ok' w cs vs
 |[],[],_,_=>trivial
 |_::cs,_::vs,h,hr=>by
  simp only[List.all_cons,Bool.and_eq_true]at h;exact⟨scalarC_any h.1 hr.1,scalarL_any h.2 hr.2⟩
 |[],_::_,_,hr=>hr.elim
 |_::_,[],_,hr=>hr.elim
theorem scalarVL_any {ρ ρ':Nat→Loc}{dom dom' ok ok':Nat→Prop}{w:World}:∀{xs:List V} {vs:List Value},(xs.all fun|.one c=>scalarC c|.agg cs=>cs.all scalarC|.unk=>true|.tup _=>false)=true→RepVL ρ dom ok w xs vs→RepVL ρ' dom' ok' w xs vs
 |[],[],_,_=>trivial
 |x::xs,_::vs,h,hr=>by
  simp only[List.all_cons,Bool.and_eq_true]at h;refine⟨?_,scalarVL_any h.2 hr.2⟩
  cases x with
  |one c=>exact scalarC_any h.1 hr.1
  |agg cs=>obtain⟨us,hu,hl⟩:=hr.1;exact⟨us,hu,scalarL_any h.1 hl⟩
  |tup ys=>exact absurd h.1 (by simp)
  |unk=>trivial
 |[],_::_,_,hr=>hr.elim
 |_::_,[],_,hr=>hr.elim
theorem scalarV_any {x:V}{v:Value}{ρ ρ':Nat→Loc}{dom dom' ok ok':Nat→Prop}{w:World}(hs:scalarV x=true)(h:RepV ρ dom ok w x v):RepV ρ' dom' ok' w x v:=by
 cases x with
 |unk=>trivial
 |one c=>exact scalarC_any hs h
 |agg cs=>obtain⟨us,hu,hl⟩:=h;exact⟨us,hu,scalarL_any hs hl⟩
 |tup xs=>obtain⟨us,hu,hl⟩:=h;exact⟨us,hu,scalarVL_any hs hl⟩
theorem RepVL.map_eval {ρ:Nat→Loc}{dom ok:Nat→Prop}{w:World}{α:Type}(f:α→V)(g:α→Value):∀(l:List α),(∀x∈l,RepV1 ρ dom ok w (f x) (g x))→RepVL ρ dom ok w (l.map f) (l.map g)
 |[],_=>trivial
 |x::l,h=>⟨h x (by simp),RepVL.map_eval f g l (fun y hy=>h y (by simp[hy]))⟩
theorem RepVL.append {ρ:Nat→Loc}{dom ok:Nat→Prop}{w:World}:∀{xs ys:List V} {vs us:List Value},RepVL ρ dom ok w xs vs→RepVL ρ dom ok w ys us→RepVL ρ dom ok w (xs++ys) (vs++us)
 |[],_,[],_,_,h=>h
 |_::_,_,_::_,_,h,h'=>⟨h.1,RepVL.append h.2 h'⟩
 |[],_,_::_,_,h,_=>h.elim
 |_::_,_,[],_,h,_=>h.elim
theorem RepVL.of_range {ρ:Nat→Loc}{dom ok:Nat→Prop}{w:World}:∀(f:Nat→V) (vs:List Value),(∀i,i<vs.length→RepV1 ρ dom ok w (f i) (vs.getD i undef))→RepVL ρ dom ok w ((List.range vs.length).map f) vs
 |_,[],_=>trivial
 |f,v::vs,h=>by
  rw[List.length_cons,List.range_succ_eq_map,List.map_cons,List.map_map];exact⟨h 0 (by simp),RepVL.of_range (f∘Nat.succ) vs fun i hi=>h (i+1) (by simpa using hi)⟩
theorem RepC.of_repB {ρ:Nat→Loc}{dom ok:Nat→Prop}{w:World}{c:C}{v:Value}(h:RepB ρ dom ok w c v):RepC ρ dom ok w c v:=by
 cases c with
 |fn f n caps=>exact RepC.of_repI h
 |own b wd off len=>exact h
 |win b b2 off len=>exact h
 |ptr b off=>exact h
 |eptr b wd i off=>exact h
 |any=>exact h
 |bool b=>exact h
 |int k n=>exact h
 |str b=>exact h
 |nil=>exact h
 |ints k xs=>exact h
 |rows wd n f=>exact h
 |elt c wd i off=>exact h
theorem RepB.of_repC {ρ:Nat→Loc}{dom ok:Nat→Prop}{w:World}{c:C}{v:Value}(hn:∀f n caps,c≠ .fn f n caps)(h:RepC ρ dom ok w c v):RepB ρ dom ok w c v:=by
 cases c with
 |fn f n caps=>exact absurd rfl (hn f n caps)
 |own b wd off len=>exact h
 |win b b2 off len=>exact h
 |ptr b off=>exact h
 |eptr b wd i off=>exact h
 |any=>exact h
 |bool b=>exact h
 |int k n=>exact h
 |str b=>exact h
 |nil=>exact h
 |ints k xs=>exact h
 |rows wd n f=>exact h
 |elt c wd i off=>exact h
theorem vwG_sound {G:Ctx}{dom:Nat→Prop}{ρ:Nat→Loc}{Z s:St}{a:Act}{w:World}{nx0:Nat}{o:Oper}(hs:SimR G dom ρ Z a w)(ha:Agr s Z nx0 o)(ids:List Nat)(x:V)(v:Value)(hi:∀b∈idsG x,b<nx0→b∈ids)(hr:RepV ρ dom (okOf G Z.own ρ w) w x v):
  RepV1 loc0 dom0 (okIds G Z.own ρ w ids) w (vwG s.own nx0 x) v:=by
 by_cases hx:∃f n caps,x= .one (.fn f n caps)
 ·obtain⟨f,n,caps,rfl⟩:=hx;simp only[vwG]
  split
  ·rename_i h0
   subst h0;obtain⟨cs,rfl,h1,_⟩:=hr;exact⟨cs,rfl,h1,fun i hi=>absurd hi (O5 _)⟩
  obtain⟨cs,rfl,h1,h2⟩:=hr;refine⟨cs,rfl,h1,fun i hin=>?_⟩;have h3:=RepC.of_repB (h2 i hin);have hi':∀b∈idsC (caps i),b<nx0→b∈ids:=fun b hb=>hi b (by
   simp only[idsG];rw[if_neg (by omega)]
   split
   ·obtain rfl:i=0:=by omega
    exact hb
   exact List.mem_flatMap.2 ⟨i,List.mem_range.2 hin,hb⟩)
  have h4:=vwC_sound hs ha (caps i) _ ids hi' h3;have hone:=(RepC.plain h3).1;show RepB loc0 dom0 _ w (vwK s.own nx0 (caps i)) _
  revert h4
  cases hc:caps i with
  |fn f n c=>intro _;exact hone
  |own b wd off len=>
   intro h4;refine RepB.of_repC (fun f n c e=>?_) h4;simp only[vwK,vwC]at e
   split at e
   ·split at e
    ·rename_i B _;cases hB:B.bk<;>rw [hB]at e<;>simp only[vwBk]at e<;>(first|cases e|(split at e<;>cases e))
    cases e
   cases e
  |win b b2 off len=>
   intro h4;refine RepB.of_repC (fun f n c e=>?_) h4;simp only[vwK,vwC]at e
   split at e
   ·split at e
    ·split at e
     ·rename_i B _;cases hB:B.bk<;>rw [hB]at e<;>simp only[vwBW]at e<;>(first|cases e|(split at e<;>cases e))
     cases e
    cases e
   cases e
  |ptr b off=>
   intro h4;refine RepB.of_repC (fun f n c e=>?_) h4;simp only[vwK,vwC]at e
   split at e
   ·split at e
    ·rename_i B _;cases hB:B.bk<;>rw [hB]at e<;>simp only[vwP]at e<;>cases e
    cases e
   cases e
  |_=>intro h4;exact RepB.of_repC (fun f n c e=>by simp only[vwK,vwC]at e;cases e) h4
 have e1:vwG s.own nx0 x=vwV s.own nx0 x:=by
  unfold vwG
  split
  ·rename_i f n caps;exact absurd ⟨f,n,caps,rfl⟩ hx
  rfl
 have e2:idsG x=idsV x:=by
  unfold idsG
  split
  ·rename_i f n caps;exact absurd ⟨_,n,caps,rfl⟩ hx
  rfl
 rw[e1];rw[e2]at hi;exact vwV_sound hs ha ids x v hi hr
theorem callFunc_run {P:Program}{w:World}{f:FuncId}(h:Callable P f)(args:Array Value):(callFunc f args).run P w= .ok (.enter f args) w:=by
 obtain⟨fn,hf,hb,hn⟩:=h;unfold callFunc;simp only[Sem.run_bind,run_program,Q7,hf,hn,hb,Bool.false_eq_true,↓reduceIte,Sem.run_pure]
section
variable {P:Program}{T:Tab}(hT:TabOk P T){o:Oper}{s:St}{nx0 id:Nat}{K:Eff→Prop}
theorem sCall {c:Call}{g:Operand}(ho:o.op= .call c)(hc:c.callee= .value g)(hd:dstLt o s.n)(h:rCall P s nx0 id g c.args.toList K):∃e,K e∧REff P o s nx0 id e:=by
 have hgm:g∈o.op.operands:=by rw[ho];simp[Op.operands,Call.operands,hc]
 have ham:∀x∈c.args.toList,x∈o.op.operands:=fun x hx=>by rw[ho];simp only[Op.operands,Call.operands];exact Array.mem_append_right _ (by simpa using hx)
 unfold rCall at h
 split at h
 ·rename_i f n caps hg
  rcases h with⟨r,⟨hcall,hpure⟩,hK⟩|hF
  ·refine⟨_,hK,?_,fun h=>by rw[ho]at h;simp[isLate,hc]at h⟩;intro G dom ρ Z a w hs hid ha Q next hk;have hgv:=hs.ev g;rw[ev_one ha hgm hg]at hgv;obtain⟨cs,hgv,hcs,hcr⟩:=hgv;have hrun:(execOp a.eval o).run P w= .ok (.enter f (c.args.map a.eval++cs)) w:=by
    unfold execOp;rw[ho];simp only[resolve,hc,Sem.run_bind,hgv,Deferred.ofValue,Sem.run_pure,Q7,invoke]
    have:=callFunc_run (w:=w) hcall (c.args.map a.eval++cs)
    simpa using this
   unfold Oper.wp;rw[hrun,Oper.upon_enter]
   let ids:=((c.args.toList.map s.ev++capL n caps).map idsG).flatten.filter (fun b=>decide (b<nx0))
   have hlt:∀g,okIds G Z.own ρ w ids g→g<w.heap.size:=by
    rintro g (h1|⟨b,_,B,o',hl,ha'⟩)
    ·exact h1.1
    exact((hs.own b B hl).2.2.2 g o' ha').1
   have hids:∀x,x∈c.args.toList.map s.ev++capL n caps→∀b∈idsG x,b<nx0→b∈ids:=fun x hx b hb hlt=>List.mem_filter.2 ⟨List.mem_flatten.2 ⟨_,List.mem_map.2 ⟨x,hx,rfl⟩,hb⟩,by simpa using hlt⟩;have hargs:RepVL loc0 dom0 (okIds G Z.own ρ w ids) w ((c.args.toList.map s.ev++capL n caps).map (vwG s.own nx0)) (c.args.map a.eval++cs).toList:=by
    rw[Array.toList_append,Array.toList_map,List.map_append,List.map_map];refine RepVL.append (RepVL.map_eval (vwG s.own nx0∘s.ev) a.eval c.args.toList fun x hx=>?_) ?_
    ·have hev:=hs.ev x;rw[ha.ev x (ham x hx)]at hev;exact vwG_sound hs ha ids _ _ (hids _ (List.mem_append_left _ (List.mem_map.2 ⟨x,hx,rfl⟩))) hev
    have hn:n=cs.toList.length:=by simp[hcs]
    unfold capL at hids⊢;rw[hn,List.map_map];refine RepVL.of_range _ _ fun i hi=>?_;have hin:i<n:=by omega
    have h1:=hcr i hin;have h2:cs.toList.getD i undef=cs.getD i undef:=by simp[Array.getD_eq_getD_getElem?,X7]
    rw[h2];exact vwG_sound hs ha ids (.one (caps i)) _ (hids (.one (caps i)) (List.mem_append_right _ (List.mem_map.2 ⟨i,List.mem_range.2 hin,rfl⟩))) (RepC.of_repB h1)
   refine Calls.mono (hpure _ w _ hlt hargs) fun e w' he=>?_;obtain⟨v,rfl,hb,hr⟩:=he;refine hk v w' ?_;have h1:=hs.grown hb
   by_cases hsc:scalarV r=true
   ·rw[if_pos hsc,St.add_plain];exact⟨ρ,(h1.put (dst:=o.dst) (x:=r) (v:=v) (fun d hh=>by have:=hd d hh;rw[←ha.n]at this;exact this) (scalarV_any hsc hr)).mono_dom (fun b hb=>Or.inl hb)⟩
   rw[if_neg hsc];have h2:=h1.frz ids;have hok:∀g,(okIds G Z.own ρ w ids g∨(w.heap.size≤g∧g<w'.heap.size))→okOf G (frz Z.own ids) ρ w' g:=by
    rintro g ((h3|⟨b,hbi,B,o',hl,ha'⟩)|⟨h3,h4⟩)
    ·exact okOf_frz ⟨Nat.lt_of_lt_of_le h3.1 hb.size,h3.2⟩
    ·obtain⟨_,_,_,h4⟩:=hs.own b B hl;obtain⟨h5,h6,_⟩:=h4 g o' ha';refine⟨Nat.lt_of_lt_of_le h5 hb.size,h6,fun b2 B2 hl2 hrw o2 ha2=>?_⟩;rw[lo_frz]at hl2
     cases hl3:lo Z.own b2 with
     |none=>rw[hl3]at hl2;simp at hl2
     |some B3=>
      rw[hl3]at hl2;simp only[Option.map_some,Q6]at hl2
      by_cases hm:ids.contains b2=true
      ·rw[if_pos hm]at hl2;subst hl2;simp at hrw
      rw[if_neg hm]at hl2;subst hl2
      by_cases hbb:b2=b
      ·subst hbb;exact hm (by simpa using hbi)
      exact hs.inj b2 B3 b B hl3 hl hbb hrw g o2 o' ha2 ha'
    refine⟨h4,fun hf=>absurd (hs.wf _ hf) (by have:=hs.size;omega),fun b2 B2 hl2 _ o2 ha2=>?_⟩
    have:=(h2.own b2 B2 hl2).2.2.2 g o2 ha2
    rw[lo_frz]at hl2
    cases hl3:lo Z.own b2 with
    |none=>rw[hl3]at hl2;simp at hl2
    |some B3=>exact absurd ((hs.own b2 B3 hl3).2.2.2 g o2 ha2).1 (by omega)
   have hr':RepV ρ dom (okOf G (frz Z.own ids) ρ w') w' r v:=
    RepV.ext (dom:=dom0) (ρ:=loc0) (Ext.of_imp hok) ⟨fun b hb=>hb.elim,fun b hb=>hb.elim⟩ _ _ hr
   have h3:=(h2.put (dst:=o.dst) (x:=r) (v:=v) (fun d hh=>by have:=hd d hh;rw[←ha.n]at this;exact this) hr').mono_dom (dom':=fun b=>dom b∨b=id) (fun b hb=>Or.inl hb);refine⟨ρ,?_⟩;have e2:Z.add o.dst id ⟨r,none,ids⟩=St.put {Z with own:=frz Z.own ids} o.dst r∨ids=[]:=by
    cases hi:ids with
    |nil=>exact .inr rfl
    |cons x l=>left;cases o.dst<;>rfl
   rcases e2 with e2|e2
   ·show SimR G _ ρ (Z.add o.dst id ⟨r,none,ids⟩) _ w';rw[e2];exact h3
   show SimR G _ ρ (Z.add o.dst id ⟨r,none,ids⟩) _ w';rw[e2,St.add_plain];have hfe:∀l:List (Nat×Blk),frz l []=l:=by
    intro l
    induction l with
    |nil=>rfl
    |cons x l ih=>obtain⟨b,B⟩:=x;simp[frz,ih]
   rw[e2,hfe]at h3;exact h3
  have h3:∃(B:Bk) (x:V),K ⟨x,some B,((c.args.toList.map s.ev++capL n caps).map idsG).flatten.filter (fun b=>decide (b<nx0))⟩∧Callable P f∧∀(ok:Nat→Prop) (w:World) (vs:Array Value),(∀g,ok g→g<w.heap.size)→
    RepVL loc0 dom0 ok w ((c.args.toList.map s.ev++capL n caps).map (vwG s.own nx0)) vs.toList→Calls P f vs w fun e w'=>∃v l,e= .returned v∧Go.RowKit.Below w.heap.size w w'∧l.len=B.len∧
     (∀g o,l.addr=some (g,o)→w.heap.size≤g∧g<w'.heap.size)∧RepBk loc0 dom0 (fun g=>ok g∨(w.heap.size≤g∧g<w'.heap.size∧∀o,l.addr≠some (g,o))) w' l B∧
     ∀(ρ:Nat→Loc) (dom ok':Nat→Prop),ρ id=l→dom id→RepV ρ dom ok' w' x v:=by
   have key:∀{B:Bk} {l:Loc} {w':World} {v:Value},RepB (fun _=>l) (fun _=>True) (fun _=>False) w' (.own 0 B.wd 0 B.len) v→∀(ρ:Nat→Loc) (dom ok':Nat→Prop),ρ id=l→dom id→RepC ρ dom ok' w' (.own id B.wd 0 B.len) v:=by
    rintro B l w' v ⟨_,hv2,hv3⟩ ρ dom ok' hl hd;subst hl;exact⟨hd,hv2,hv3⟩
   rcases hF with⟨B,⟨hcall,_,hfresh⟩,hK⟩|⟨B,c',⟨hsc,hcall,_,hfresh⟩,hK⟩
   ·refine⟨B,_,hK,hcall,fun ok w vs h1 h2=>Calls.mono (hfresh ok w vs h1 h2) fun e w' he=>?_⟩;obtain⟨v,l,he,hb,hlen,hnew,hrep,hval⟩:=he;exact⟨v,l,he,hb,hlen,hnew,hrep,fun ρ dom ok' hl hd=>key hval ρ dom ok' hl hd⟩
   refine⟨B,_,hK,hcall,fun ok w vs h1 h2=>Calls.mono (hfresh ok w vs h1 h2) fun e w' he=>?_⟩;obtain⟨v,u,l,he,hb,hlen,hnew,hrep,hval,hu⟩:=he;refine⟨_,l,he,hb,hlen,hnew,hrep,fun ρ dom ok' hl hd=>⟨_,rfl,key hval ρ dom ok' hl hd,?_,trivial⟩⟩
   cases c'<;>first|exact hsc.elim|exact hu
  obtain⟨B,x,hK,hcall,hfresh⟩:=h3;refine⟨_,hK,?_,fun h=>by rw[ho]at h;simp[isLate,hc]at h⟩;intro G dom ρ Z a w hs hid ha Q next hk;have hgv:=hs.ev g;rw[ev_one ha hgm hg]at hgv;obtain⟨cs,hgv,hcs,hcr⟩:=hgv;have hrun:(execOp a.eval o).run P w= .ok (.enter f (c.args.map a.eval++cs)) w:=by
   unfold execOp;rw[ho];simp only[resolve,hc,Sem.run_bind,hgv,Deferred.ofValue,Sem.run_pure,Q7,invoke]
   have:=callFunc_run (w:=w) hcall (c.args.map a.eval++cs)
   simpa using this
  unfold Oper.wp;rw[hrun,Oper.upon_enter]
  let ids:=((c.args.toList.map s.ev++capL n caps).map idsG).flatten.filter (fun b=>decide (b<nx0))
  have hlt:∀g,okIds G Z.own ρ w ids g→g<w.heap.size:=by
   rintro g (h1|⟨b,_,B,o',hl,ha'⟩)
   ·exact h1.1
   exact((hs.own b B hl).2.2.2 g o' ha').1
  have hids:∀x,x∈c.args.toList.map s.ev++capL n caps→∀b∈idsG x,b<nx0→b∈ids:=fun x hx b hb hlt=>List.mem_filter.2 ⟨List.mem_flatten.2 ⟨_,List.mem_map.2 ⟨x,hx,rfl⟩,hb⟩,by simpa using hlt⟩;have hargs:RepVL loc0 dom0 (okIds G Z.own ρ w ids) w ((c.args.toList.map s.ev++capL n caps).map (vwG s.own nx0)) (c.args.map a.eval++cs).toList:=by
   rw[Array.toList_append,Array.toList_map,List.map_append,List.map_map];refine RepVL.append (RepVL.map_eval (vwG s.own nx0∘s.ev) a.eval c.args.toList fun x hx=>?_) ?_
   ·have hev:=hs.ev x;rw[ha.ev x (ham x hx)]at hev;exact vwG_sound hs ha ids _ _ (hids _ (List.mem_append_left _ (List.mem_map.2 ⟨x,hx,rfl⟩))) hev
   have hn:n=cs.toList.length:=by simp[hcs]
   unfold capL at hids⊢;rw[hn,List.map_map];refine RepVL.of_range _ _ fun i hi=>?_;have hin:i<n:=by omega
   have h1:=hcr i hin;have h2:cs.toList.getD i undef=cs.getD i undef:=by simp[Array.getD_eq_getD_getElem?,X7]
   rw[h2];exact vwG_sound hs ha ids (.one (caps i)) _ (hids (.one (caps i)) (List.mem_append_right _ (List.mem_map.2 ⟨i,List.mem_range.2 hin,rfl⟩))) (RepC.of_repB h1)
  refine Calls.mono (hfresh _ w _ hlt hargs) fun e w' he=>?_;obtain⟨v,l,rfl,hb,hlen,hnew,hrep,hval⟩:=he;refine hk v w' ?_;have h2:=hs.frz ids;have hok:∀g,(okIds G Z.own ρ w ids g∨(w.heap.size≤g∧g<w'.heap.size∧∀o,l.addr≠some (g,o)))→okOf G (upd (frz Z.own ids) id ⟨B,true⟩) (setLoc ρ id l) w' g:=by
   have step:∀g,g<w'.heap.size→¬G.forb g→(∀o,l.addr≠some (g,o))→(∀b2 B2,lo (frz Z.own ids) b2=some B2→B2.rw=true→∀o2,(ρ b2).addr≠some (g,o2))→okOf G (upd (frz Z.own ids) id ⟨B,true⟩) (setLoc ρ id l) w' g:=by
    intro g h1 h2 h3 h4;refine⟨h1,h2,fun b2 B2 hl2 hrw o2=>?_⟩;rw[lo_upd]at hl2
    by_cases hbi:b2=id
    ·subst hbi;rw[sLs];exact h3 o2
    rw[if_neg hbi]at hl2;rw[setLoc_ne _ _ hbi];exact h4 b2 B2 hl2 hrw o2
   rintro g ((h3|⟨b,hbi,B2,o',hl,ha'⟩)|⟨h3,h4,h5⟩)
   ·exact step g (Nat.lt_of_lt_of_le h3.1 hb.size) h3.2.1 (fun o he=>absurd h3.1 (by have:=(hnew g o he).1;omega)) (okOf_frz h3).2.2
   ·obtain⟨_,_,_,h4⟩:=hs.own b B2 hl;obtain⟨h5,h6,_⟩:=h4 g o' ha';refine step g (Nat.lt_of_lt_of_le h5 hb.size) h6 (fun o he=>absurd h5 (by have:=(hnew g o he).1;omega)) fun b2 B3 hl2 hrw o2 ha2=>?_;rw[lo_frz]at hl2
    cases hl3:lo Z.own b2 with
    |none=>rw[hl3]at hl2;simp at hl2
    |some B4=>
     rw[hl3]at hl2;simp only[Option.map_some,Q6]at hl2
     by_cases hm:ids.contains b2=true
     ·rw[if_pos hm]at hl2;subst hl2;simp at hrw
     rw[if_neg hm]at hl2;subst hl2
     by_cases hbb:b2=b
     ·subst hbb;exact hm (by simpa using hbi)
     exact hs.inj b2 B4 b B2 hl3 hl hbb hrw g o2 o' ha2 ha'
   refine step g h4 (fun hf=>absurd (hs.wf _ hf) (by have:=hs.size;omega)) h5 fun b2 B2 hl2 _ o2 ha2=>?_;rw[lo_frz]at hl2
   cases hl3:lo Z.own b2 with
   |none=>rw[hl3]at hl2;simp at hl2
   |some B3=>exact absurd ((hs.own b2 B3 hl3).2.2.2 g o2 ha2).1 (by omega)
  have hrep':RepBk (setLoc ρ id l) (fun b=>dom b∨b=id) (okOf G (upd (frz Z.own ids) id ⟨B,true⟩) (setLoc ρ id l) w') w' l B:=
   RepBk.ext (dom:=dom0) (ρ:=loc0) (Ext.of_imp hok) ⟨fun b hb=>hb.elim,fun b hb=>hb.elim⟩ _ _ (fun _ _ _=>rfl) hrep
  have h3:=h2.newBlk' hb hid B l hlen hnew hrep';have hval':RepV (setLoc ρ id l) (fun b=>dom b∨b=id) (okOf G (upd (frz Z.own ids) id ⟨B,true⟩) (setLoc ρ id l) w') w' x v:=hval _ _ _ (sLs ..) (.inr rfl);refine⟨setLoc ρ id l,?_⟩;have h4:=h3.put (dst:=o.dst) (x:=x) (v:=v) (fun d hh=>by have:=hd d hh;rw[←ha.n]at this;exact this) hval';have e2:Z.add o.dst id ⟨x,some B,ids⟩=St.put {Z with own:=upd (frz Z.own ids) id ⟨B,true⟩} o.dst x:=by
   unfold St.add;simp only
   have:frzs Z.own ids=frz Z.own ids:=by
    cases hi:ids with
    |nil=>
     have hfe:∀l:List (Nat×Blk),frz l []=l:=by
      intro l
      induction l with
      |nil=>rfl
      |cons x l ih=>obtain⟨b,B⟩:=x;simp[frz,ih]
     simp[frzs,hfe]
    |cons x l=>rfl
   rw[this]
   cases o.dst<;>rfl
  show SimR G _ _ (Z.add o.dst id ⟨x,some B,ids⟩) _ w';rw[e2];exact h4
 exact h.elim
end
end Go.Eng
namespace Go.Eng
open Go
theorem map_parts {s Z:St}{nx0:Nat}{o:Oper}{G:Ctx}{dom:Nat→Prop}{ρ:Nat→Loc}{a:Act}{w:World}(hs:SimR G dom ρ Z a w):∀(l:List (Nat×Operand)),(∀p∈l,Z.ev p.2=s.ev p.2)→
  RepP ρ dom (okOf G Z.own ρ w) w (l.map fun p=>(p.1,s.ev p.2)) (l.map fun p=>(p.1,a.eval p.2))
 |[],_=>trivial
 |p::l,h=>⟨rfl,by have:=hs.ev p.2;rw[h p (by simp)]at this;exact this,map_parts (nx0:=nx0) (o:=o) hs l (fun q hq=>h q (by simp[hq]))⟩
theorem map_partsV {s Z:St}{nx0:Nat}{o:Oper}{G:Ctx}{dom:Nat→Prop}{ρ:Nat→Loc}{a:Act}{w:World}(hs:SimR G dom ρ Z a w)(ha:Agr s Z nx0 o)(ids:List Nat):∀(l:List (Nat×Operand)),(∀p∈l,Z.ev p.2=s.ev p.2)→(∀p∈l,∀b∈idsV (s.ev p.2),b<nx0→b∈ids)→
  RepP loc0 dom0 (okOf G (frz Z.own ids) ρ w) w (l.map fun p=>(p.1,vwV s.own nx0 (s.ev p.2))) (l.map fun p=>(p.1,a.eval p.2))
 |[],_,_=>trivial
 |p::l,h,hi=>by
  refine⟨rfl,?_,map_partsV hs ha ids l (fun q hq=>h q (by simp[hq])) (fun q hq=>hi q (by simp[hq]))⟩;have hev:=hs.ev p.2;rw[h p (by simp)]at hev;have h1:=vwV_sound hs ha ids _ _ (hi p (by simp)) hev;have h2:=RepV1.ext (ρ:=loc0) (ρ':=loc0) (dom:=dom0) (dom':=dom0) (Ext.of_imp fun g hg=>okIds_frz hs ids hg) ⟨fun _ h=>h,fun _ _=>rfl⟩ _ _ h1
  revert h2
  cases hx:vwV s.own nx0 (s.ev p.2)with
  |one c=>exact fun h=>h
  |agg cs=>exact fun h=>h
  |tup xs=>exact fun h=>h.elim
  |unk=>exact fun _=>trivial
theorem RepI.of_loc0 {ok:Nat→Prop}{w:World}{c:C}{v:Value}(h:RepC loc0 dom0 ok w c v):RepI ok w c v:=by
 cases c with
 |own b wd off len=>exact h.1.elim
 |win b b2 off len=>exact h.1.elim
 |ptr b off=>exact h.1.elim
 |eptr b wd i off=>exact h.1.elim
 |fn f n caps=>
  obtain⟨cs,hv,hn,hcs⟩:=h;refine⟨cs,hv,hn,fun i hi=>?_⟩
  have:=hcs i hi
  unfold RepB at this
  cases hc:caps i with
  |own b wd off len=>rw[hc]at this;exact this.1.elim
  |win b b2 off len=>rw[hc]at this;exact this.1.elim
  |ptr b off=>rw[hc]at this;exact this.1.elim
  |eptr b wd i off=>rw[hc]at this;exact this.1.elim
  |_=>rw[hc]at this;exact this
 |_=>exact h
theorem zerosC_length (z:List C):∀n,(zerosC z n).length=n*z.length
 |0=>by simp[zerosC]
 |n+1=>by simp[zerosC,zerosC_length z n,Nat.add_mul];omega
theorem zerosC_get (z:List C):∀(n j:Nat),j<n*z.length→(zerosC z n)[j]? =z[j%z.length]?
 |0,j,h=>by simp at h
 |n+1,j,h=>by
  simp only[zerosC,List.getElem?_append]
  split
  ·rename_i hj;rw[O7 hj]
  rename_i hj
  rw[zerosC_get z n (j-z.length) (by rw[Nat.add_mul]at h;omega)]
  congr 1
  exact(Nat.mod_eq_sub_mod (by omega)).symm
theorem placesC_get (size:Nat):∀(n i j:Nat) p,(placesC size i n)[j]? =some p→p=((i+j)*size,size)
 |0,i,j,p,h=>by simp[placesC]at h
 |n+1,i,0,p,h=>by simp[placesC]at h;simp[←h]
 |n+1,i,j+1,p,h=>by
  have:=placesC_get size n (i+1) j p (by simpa[placesC]using h)
  rw[this,show i+1+j=i+(j+1) by omega]
theorem zeros_rep {ρ:Nat→Loc}{dom ok:Nat→Prop}{w:World}(z:Array Value)(n:Nat)(hz:0<z.size)(hall:z.toList.all Value.oneCell'=true):
  RepL ρ dom ok w (zerosC (z.toList.map cvC) n) ((Array.range (n*z.size)).map (fun i=>z[i%z.size]!)).toList:=by
 refine RepL.of_get ?_ ?_
 ·rw[zerosC_length];simp
 intro j c v hc hv;have hj:j<n*z.size:=by
  have:=(List.getElem?_eq_some_iff.1 hv).1
  simpa using this
 rw[zerosC_get _ _ _ (by simpa using hj)]at hc;simp only[List.length_map,Array.length_toList,List.getElem?_map]at hc;have hm:j%z.size<z.size:=Nat.mod_lt _ hz
 simp[hj]at hv
 rw[X8 (by simpa using hm)]at hc;simp only[Option.map_some,Q6,Array.getElem_toList]at hc;subst hc;have hz':z[j%z.size]! =z[j%z.size]:=by simp[hm]
 rw[←hv,hz'];exact cvC_rep _ (List.all_eq_true.1 hall _ (by simp))
theorem intsOf_get (k:IntKind):∀(cs:List C) (xs:List Int),intsOf k cs=some xs→cs=xs.map (C.int k)
 |[],xs,h=>by simp[intsOf]at h;subst h;rfl
 |c::cs,xs,h=>by
  cases c with
  |int k' n=>
   simp only[intsOf]at h
   split at h
   ·rename_i hk
    subst hk
    cases hr:intsOf k' cs with
    |none=>rw[hr]at h;simp at h
    |some ys=>
     rw[hr]at h;simp only[Option.map_some,Q6]at h;subst h;rw[intsOf_get k' cs ys hr];rfl
   simp at h
  |_=>simp[intsOf]at h
theorem fillC_length (fs:List (Nat×Nat)):∀(xs:List (Nat×V)) (cs out:List C),fillC fs cs xs=some out→out.length=cs.length
 |[],cs,out,h=>by simp[fillC]at h;rw[h]
 |(i,x)::xs,cs,out,h=>by
  simp only[fillC]at h
  split at h
  ·simp at h
  split at h
  ·rename_i hc
   rw[fillC_length fs xs _ out h,splice_length _ _ _ (by omega)]
  simp at h
section
variable {P:Program}{T:Tab}(hT:TabOk P T){o:Oper}{s:St}{nx0 id:Nat}{K:Eff→Prop}
include hT in
theorem sAlloc {e:TypeId}(ho:o.op= .alloc e)(hd:dstLt o s.n){E:Ty}(hE:T e=some E)(h:K ⟨.one (.ptr id 0),some (.var E.zero),[]⟩):∃f,K f∧REff P o s nx0 id f:=by
 obtain⟨i,d,z,hi,hu,hz,hk,_,_,hzc,hall⟩:=T_parts hT hE;refine⟨_,h,REff.newVar (e:=e) (by rw[ho];rfl) hd fun G dom ρ Z a w hs ha=>⟨z.cells,?_,?_⟩⟩
 ·unfold execOp;rw[ho];refine run_v ?_;simp only[Instr.alloc,newVar,newRow,Sem.run_bind,run_zeroValue hi hz,Q7,run_newObj,Sem.run_pure];rfl
 rw[hzc];exact cvC_repL _ hall
theorem sBox {e:TypeId}{x:Operand}(ho:o.op= .box e x)(hd:dstLt o s.n)(hx:(s.ev x).solid=true)(h:K ⟨.one (.ptr id 0),some (.var (cellsOf (s.ev x))),[]⟩):∃f,K f∧REff P o s nx0 id f:=by
 have hxm:x∈o.op.operands:=by rw[ho];simp[Op.operands]
 refine⟨_,h,REff.newVar (e:=e) (by rw[ho];rfl) hd fun G dom ρ Z a w hs ha=>⟨(a.eval x).cells,?_,?_⟩⟩
 ·unfold execOp;rw[ho];refine run_v ?_;simp only[Instr.box,newVar,newRow,Sem.run_bind,Q7,run_newObj,Sem.run_pure];rfl
 have hev:=hs.ev x;rw[ha.ev x hxm]at hev;exact RepV.cells hev hx
include hT in
theorem sBuild {t:TypeId}{parts:Array (Nat×Operand)}(ho:o.op= .build t parts)(hd:dstLt o s.n){E:Ty}(hE:T t=some E){fs:List (Nat×Nat)}(hfs:bldPl T E.k=some fs){cs:List C}
  (hf:fillC fs E.zero (parts.toList.map fun p=>(p.1,s.ev p.2))=some cs) (h:K ⟨.agg cs,none,[]⟩):∃f,K f∧REff P o s nx0 id f:=by
 obtain⟨i,d,z,hi,hu,hz,hk,_,_,hzc,hall⟩:=T_parts hT hE;have hpm:∀p∈parts.toList,p.2∈o.op.operands:=fun p hp=>by rw[ho];simp only[Op.operands];simpa using⟨p.1,by simpa using hp⟩
 refine⟨_,h,REff.pure hd fun G dom ρ Z a w hs ha=>?_⟩;have hparts:=map_parts (s:=s) (nx0:=nx0) (o:=o) hs parts.toList (fun p hp=>ha.ev p.2 (hpm p hp));have hzr:RepL ρ dom (okOf G Z.own ρ w) w E.zero z.cells.toList:=by rw[hzc];exact cvC_repL _ hall
 unfold bldPl at hfs
 split at hfs
 ·rename_i fs0 hfs0
  cases hfs
  rw[hfs0]at hk;obtain⟨fields,rfl,hfl⟩:=kindOf_st hk.symm;obtain⟨cells',h1,h2⟩:=fill_rep (place:=(fs.toArray[·]?)) (fs:=fs) (fun i p hp=>by simpa using hp) _ _ _ _ _ hparts hzr hf;refine⟨.agg cells',?_,cells',rfl,h2⟩;unfold execOp;rw[ho];refine run_v ?_;simp only[Instr.build,Sem.run_bind,run_zeroValue hi hz,run_underlying' hu,Q7];have hpl:(fields.mapM fun f=>do pure (f.offset,←sizeOf f.type):Sem (Array (Nat×Nat))).run P w= .ok fs.toArray w:=by
   have:=run_places (P:=P) w fields.toList fs hfl
   rw[Array.mapM_eq_mapM_toList];simp only[Sem.run_map];have e:(fields.toList.mapM fun f=>(do pure (f.offset,←sizeOf f.type):Sem (Nat×Nat)))=(fields.toList.mapM fun f=>Functor.map (Prod.mk f.offset) (sizeOf f.type)):=by
    congr 1
   rw[e,this];rfl
  rw[hpl];simp only[Q7]
  have hpe:(parts.map fun x=>match x with|(i,x)=>(i,a.eval x)).toList=parts.toList.map fun p=>(p.1,a.eval p.2):=by
   rw[Array.toList_map]
  rw[hpe,h1];rfl
 ·rename_i m e hfs0
  split at hfs
  ·rename_i F hF
   cases hfs
   obtain⟨ei,ed,ez,hei,_,_,_,hes,_⟩:=T_parts hT hF;have hu':=T_arr hT hE hfs0;rw[hu]at hu'
   cases hu'
   obtain⟨cells',h1,h2⟩:=fill_rep (place:=fun i=>some (i*F.size,F.size)) (fs:=placesC F.size 0 m) (fun i p hp=>by rw[placesC_get _ _ _ _ _ hp,Nat.zero_add]) _ _ _ _ _ hparts hzr hf;refine⟨.agg cells',?_,cells',rfl,h2⟩;unfold execOp;rw[ho];refine run_v ?_
   have hpe:(parts.map fun x=>match x with|(i,x)=>(i,a.eval x)).toList=parts.toList.map fun p=>(p.1,a.eval p.2):=by
    rw[Array.toList_map]
   rw[hes]at h1;simp only[Instr.build,Sem.run_bind,run_zeroValue hi hz,run_underlying' hu,Q7,run_sizeOf hei];rw[hpe,h1];rfl
  cases hfs
 cases hfs
theorem rows_cell {e:TypeId}{w n:Nat}{cs:List C}(hl:cs.length=n*w)(j:Nat)(c:C)(h:(Bk.rows e w n (fun i j=>cs.getD (i*w+j) .any)).cell j=some c):cs[j]? =some c:=by
 simp only[Bk.cell]at h
 split at h
 ·rename_i hj
  simp only[Q6]at h
  have:j/w*w+j%w=j:=by rw[O6];exact Nat.div_add_mod j w
  rw[this]at h;rw[X8 (by omega)];rw[X7,X8 (by omega)]at h
  simpa using h
 cases h
theorem ints_cell {e:TypeId}{k:IntKind}{xs:List Int}(j:Nat)(c:C)(h:(Bk.ints e k xs).cell j=some c):(xs.map (C.int k))[j]? =some c:=by
 simpa[Bk.cell]using h
theorem newSl_sound (hlt:isLate o.op=false)(hd:dstLt o s.n){E:Ty}{e:TypeId}{fz:Bool}{len:Nat}{cs:List C}{ids:List Nat}(hE:match E.k with|.int _=>E.size=1|_=>0<E.size)(hlen:cs.length=len*E.size)(h:newSl E e id fz len cs ids K)
  (hrun:∀G dom ρ Z a w,SimR G dom ρ Z a w→Agr s Z nx0 o→∃cells:Array Value,(execOp a.eval o).run P w= .ok (.value (.slice (some ⟨w.heap.size,0,none⟩) len len)) (w.alloc (.cells cells e))∧RepL loc0 dom0 (okOf G (frz Z.own ids) ρ w) w cs cells.toList):
  ∃f,K f∧REff P o s nx0 id f:=by
 have hget:∀{G:Ctx} {ρ:Nat→Loc} {Z:St} {w:World} {cells:Array Value},RepL loc0 dom0 (okOf G (frz Z.own ids) ρ w) w cs cells.toList→∀(j:Nat) c,cs[j]? =some c→∃u,cells[j]? =some u∧RepI (okOf G (frz Z.own ids) ρ w) w c u:=by
  intro G ρ Z w cells hl j c hj;obtain⟨u,hu,hr⟩:=RepL.get hl j c hj;exact⟨u,by simpa using hu,RepI.of_loc0 hr⟩
 have hsz:∀{G:Ctx} {ρ:Nat→Loc} {Z:St} {w:World} {cells:Array Value},RepL loc0 dom0 (okOf G (frz Z.own ids) ρ w) w cs cells.toList→cells.size=len*E.size:=by
  intro G ρ Z w cells hl
  have:=RepL.length hl
  simp only[Array.length_toList]at this;omega
 have gen:∀(E':Nat) (hE':E'=E.size) (h0:0<E.size),(if fz then K ⟨.one (.rows E' len (fun i j=>cs.getD (i*E'+j) .any)),none,ids⟩
   else K ⟨.one (.own id E' 0 len),some (.rows e E' len (fun i j=>cs.getD (i*E'+j) .any)),ids⟩)→∃f,K f∧REff P o s nx0 id f:=by
  intro E' hE' h0 h;subst hE'
  split at h
  ·refine⟨_,h,REff.newIm (e:=e) ids hlt hd fun G dom ρ Z a w hs ha=>?_⟩;obtain⟨cells,hr,hl⟩:=hrun G dom ρ Z a w hs ha;refine⟨cells,_,hr,some ⟨w.heap.size,0,none⟩,len,rfl,O1 _,.inr ⟨w.heap.size,0,rfl,(hs.frz ids).okNew,fun i j hi hj=>?_⟩⟩;have hlt:i*E.size+j<cs.length:=by
    have:(i+1)*E.size≤len*E.size:=O8 _ hi
    rw[Nat.add_mul]at this;omega
   obtain⟨u,hu,hr⟩:=hget hl (i*E.size+j) (cs.getD (i*E.size+j) .any) (by rw[X7,X8 hlt];rfl);refine⟨u,by rw[Nat.zero_add];simpa using hu,RepI.ext ⟨fun g hg=>⟨okOf_alloc hg,(below_alloc w _).block g hg.1⟩,fun g=>?_⟩ _ _ hr⟩
   by_cases hg:g<w.heap.size
   ·rw[rowSize_of_block ((below_alloc w _).block g hg)];exact O1 _
   rw[rowSize_lt hg];exact O2 _
  refine⟨_,h,REff.newRow (e:=e) ids hlt hd (fun cs=>by simp) (O1 _) fun G dom ρ Z a w hs ha=>?_⟩;obtain⟨cells,hr,hl⟩:=hrun G dom ρ Z a w hs ha;exact⟨cells,len,hr,O1 _,by rw[hsz hl];exact O1 _,fun j c hj=>hget hl j c (rows_cell hlen j c hj)⟩
 unfold newSl at h
 split at h
 ·rename_i k hk
  rw[hk]at hE;simp only at hE
  split at h
  ·rename_i xs hxs
   have hcs:=intsOf_get k cs xs hxs;have hxl:xs.length=len:=by rw[hcs]at hlen;simpa[hE]using hlen
   split at h
   ·refine⟨_,h,REff.newIm (e:=e) ids hlt hd fun G dom ρ Z a w hs ha=>?_⟩;obtain⟨cells,hr,hl⟩:=hrun G dom ρ Z a w hs ha;refine⟨cells,_,hr,some ⟨w.heap.size,0,none⟩,len,by rw[hxl],by omega,.inr ⟨w.heap.size,0,rfl,(hs.frz ids).okNew,fun i hi=>?_⟩⟩;obtain⟨u,hu,hr⟩:=hget hl i (.int k (xs.getD i 0)) (by rw[hcs];simp[X8 hi]);rw[Nat.zero_add,World.cell?_alloc_new,hu];exact congrArg some hr
   refine⟨_,h,REff.newRow (e:=e) ids hlt hd (fun cs=>by simp) (by simp[Bk.len,hxl]) fun G dom ρ Z a w hs ha=>?_⟩;obtain⟨cells,hr,hl⟩:=hrun G dom ρ Z a w hs ha;exact⟨cells,len,hr,O1 _,by rw[hsz hl,hE];exact O1 _,fun j c hj=>hget hl j c (by rw[hcs];exact ints_cell j c hj)⟩
  exact h.elim
 rename_i hne
 exact gen _ rfl (by split at hE<;>first|omega|exact hE) h
include hT in
theorem sBuildSlice {t:TypeId}{len:Nat}{parts:Array (Nat×Operand)}{fz:Bool}(ho:o.op= .buildSlice t len parts)(hd:dstLt o s.n)(h:rBuildSlice T s nx0 id fz t len parts K):∃f,K f∧REff P o s nx0 id f:=by
 have hpm:∀p∈parts.toList,p.2∈o.op.operands:=fun p hp=>by rw[ho];simp only[Op.operands];simpa using⟨p.1,by simpa using hp⟩
 unfold rBuildSlice at h
 cases hTt:T t with
 |none=>rw[hTt]at h;exact h.elim
 |some S=>
  rw[hTt]at h;simp only at h
  split at h
  ·rename_i e hSk
   have hu:=T_slice hT hTt hSk
   cases hTe:T e with
   |none=>rw[hTe]at h;exact h.elim
   |some E=>
    rw[hTe]at h;simp only at h;obtain⟨ei,ed,ez,hei,heu,hez,hek,hes,_,hzc,hall⟩:=T_parts hT hTe;obtain⟨hzl,hbig,hsize,h⟩:=h
    have hpos:0<E.size:=by split at hsize<;>omega
    have hzs:ez.cells.size=E.size:=by rw[←hzl,hzc];simp
    have hexe:∀(a:Act) (w:World) (cells':Array Value),Instr.fill (fun i=>some (i*E.size,E.size)) ((Array.range (len*ez.cells.size)).map (fun i=>ez.cells[i%ez.cells.size]!)) (parts.toList.map fun p=>(p.1,a.eval p.2))=some cells'→
      (execOp a.eval o).run P w= .ok (.value (.slice (some ⟨w.heap.size,0,none⟩) len len)) (w.alloc (.cells cells' e)):=by
     intro a w cells' h1;unfold execOp;rw[ho];refine run_v ?_;have hpe':(Array.map (fun x=>(x.fst,a.eval x.snd)) parts).toList=parts.toList.map fun p=>(p.1,a.eval p.2):=by
      rw[Array.toList_map]
     simp only[Instr.buildSlice,Sem.run_bind,run_underlying' hu,Q7,run_sizeOf hei,Sem.run_ite];rw[if_neg (by rw[←hes];omega)];simp only[Sem.run_pure,Q7]
     by_cases h0:len*ei.size=0
     ·rw[if_pos h0];have hr0:∀f:Nat→Value,Array.map f (Array.range 0)= #[]:=fun f=>by simp
      rw[hzs,hes,h0,hr0]at h1;simp only[h0,hr0,hpe',h1];rfl
     rw[if_neg h0];simp only[run_zeroValue hei hez,Q7];rw[hzs,hes]at h1;simp only[hpe',h1,hzs,hes];rfl
    split at h
    ·rename_i b w0 o0 l0 hq
     split at hq
     ·unfold oneOwn at hq
      split at hq
      ·rename_i b' w0' o0' l0' hf
       simp only[Q6,Prod.mk.injEq]at hq;obtain⟨rfl,rfl,rfl,rfl⟩:=hq;obtain⟨rfl,hE1,h⟩:=h;refine⟨_,h,REff.newWin (e:=e) (by rw[ho];rfl) hd fun G dom ρ Z a w hs ha=>?_⟩;have hparts:=map_parts (s:=s) (nx0:=nx0) (o:=o) hs parts.toList (fun p hp=>ha.ev p.2 (hpm p hp));have hzr:RepL ρ dom (okOf G Z.own ρ w) w (zerosC E.zero 1) ((Array.range (1*ez.cells.size)).map (fun i=>ez.cells[i%ez.cells.size]!)).toList:=by
        rw[hzc];exact zeros_rep ez.cells 1 (by omega) hall
       obtain⟨cells',h1,h2⟩:=fill_rep (place:=fun i=>some (i*E.size,E.size)) (fs:=placesC E.size 0 1) (fun i p hp=>by rw[placesC_get _ _ _ _ _ hp,Nat.zero_add]) _ _ _ _ _ hparts hzr hf;obtain⟨u,hu,hr⟩:=RepL.get h2 0 _ rfl;have hsz:=RepL.length h2;exact⟨cells',hexe a w cells' h1,by simpa using hsz.symm,u,by simpa using hu,hr⟩
      cases hq
     cases hq
    split at h
    ·rename_i cs hf
     have hlen:cs.length=len*E.size:=by rw[fillC_length _ _ _ _ hf,zerosC_length,hzl]
     refine newSl_sound (by rw[ho];rfl) hd hsize hlen h fun G dom ρ Z a w hs ha=>?_;have hparts:=map_partsV (s:=s) hs ha ((parts.toList.map fun p=>idsV (s.ev p.2)).flatten.filter (fun b=>decide (b<nx0))) parts.toList (fun p hp=>ha.ev p.2 (hpm p hp)) (fun p hp b hb hlt=>List.mem_filter.2 ⟨List.mem_flatten.2 ⟨_,List.mem_map.2 ⟨p,hp,rfl⟩,hb⟩,by simpa using hlt⟩);have hzr:RepL loc0 dom0 (okOf G (frz Z.own ((parts.toList.map fun p=>idsV (s.ev p.2)).flatten.filter (fun b=>decide (b<nx0)))) ρ w) w (zerosC E.zero len) ((Array.range (len*ez.cells.size)).map (fun i=>ez.cells[i%ez.cells.size]!)).toList:=by
      rw[hzc];exact zeros_rep ez.cells len (by omega) hall
     obtain⟨cells',h1,h2⟩:=fill_rep (place:=fun i=>some (i*E.size,E.size)) (fs:=placesC E.size 0 len) (fun i p hp=>by rw[placesC_get _ _ _ _ _ hp,Nat.zero_add]) _ _ _ _ _ hparts hzr hf;exact⟨cells',hexe a w cells' h1,h2⟩
    exact h.elim
  exact h.elim
end
end Go.Eng
