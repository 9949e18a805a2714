/-
  MatrixImage: for every input the law returns true, and each argument reads afterwards as it read before. No condition beyond the cells of the given rows.
  (Text 1 of 9; made by a program out of smaller texts.)
-/
import Derived.WalkKit
import Derived.Deep.LoopGhost
import Derived.Laws.BytesArg
set_option linter.unusedSimpArgs false
set_option linter.unusedVariables false
set_option maxHeartbeats 16000000
set_option maxRecDepth 10000
open Nat renaming reduceAdd→J1,reduceMul→J2,reduceSub→J3,reduceEqDiff→J4,reduceLT→J5,reduceLeDiff→J6,reduceBEq→J7,reduceDiv→J8,reduceMod→J9,reducePow→J0
open Int renaming reduceToNat→K1,reduceLE→K2,reduceLT→K3,reduceEq→K4,reducePow→K5,reduceSub→K6,reduceNeg→K7,natCast_add→X2,natCast_one→X3,natCast_zero→X4
open List renaming getD_cons_zero→X0,getD_cons_succ→X1,length_take→X5,length_append→X6,getD_eq_getElem?_getD→X7,getElem?_eq_getElem→X8
namespace Go.Eng
open Go
inductive C where
 |any
 |bool (b:Bool)
 |int (k:IntKind) (n:Int)
 |str (s:ByteArray)
 |nil
 |ints (k:IntKind) (xs:List Int)
 |rows (w n:Nat) (f:Nat→Nat→C)
 |own (b w off len:Nat)
 |win (b b2 off len:Nat)
 |ptr (b off:Nat)
 |elt (s:C) (w i off:Nat)
 |eptr (b w i off:Nat)
 |fn (f:FuncId) (n:Nat) (caps:Nat→C)
instance:Inhabited C:=⟨.any⟩
inductive V where
 |unk
 |one (c:C)
 |agg (cs:List C)
 |aF (vs:List V)
instance:Inhabited V:=⟨.unk⟩
inductive Bk where
 |var (cs:List C)
 |ints (e:TypeId) (k:IntKind) (xs:List Int)
 |rows (e:TypeId) (w n:Nat) (f:Nat→Nat→C)
 |wins (e:TypeId) (b2 n:Nat) (g:Nat→C)
def Bk.len:Bk→Nat
 |.var _=>1
 |.ints _ _ xs=>xs.length
 |.rows _ _ n _=>n
 |.wins _ _ n _=>n
def Bk.cell:Bk→Nat→Option C
 |.var cs,j=>cs[j]?
 |.ints _ k xs,j=>(xs[j]?).map (.int k)
 |.rows _ w n f,j=>if j<n*w then some (f (j/w) (j%w))else none
 |.wins _ _ n g,j=>if j<n then some (g j)else none
structure fA where
 bk:Bk
 rw:Bool
structure St where
 env:List (Nat×V)
 own:List (Nat×fA)
 nx:Nat
 n:Nat
def lk:List (Nat×V)→Nat→V
 |[],_=>.unk
 |(t',v)::r,t=>if t=t' then v else lk r t
def lo:List (Nat×fA)→Nat→Option fA
 |[],_=>none
 |(b',v)::r,b=>if b=b' then some v else lo r b
def dZ:List (Nat×fA)→Nat→fA→List (Nat×fA)
 |[],b,B=>[(b,B)]
 |(b',v)::r,b,B=>if b=b' then(b',B)::r else(b',v)::dZ r b B
def del:List (Nat×fA)→Nat→List (Nat×fA)
 |[],_=>[]
 |(b',v)::r,b=>if b=b' then del r b else(b',v)::del r b
def dF:List (Nat×fA)→List Nat→List (Nat×fA)
 |[],_=>[]
 |(b',v)::r,l=>(b',if l.contains b' then⟨v.bk,false⟩else v)::dF r l
theorem bX (l:List (Nat×fA))(b b':Nat)(B:fA):lo (dZ l b B) b'=if b'=b then some B else lo l b':=by
 induction l with
 |nil=>simp only[dZ,lo]
 |cons x r ih=>
  obtain⟨c,v⟩:=x;simp only[dZ]
  split
  ·rename_i h;subst h;simp only[lo];split<;>rfl
  rename_i h
  simp only[lo,ih]
  by_cases h1:b'=c
  ·subst h1;rw[if_pos rfl,if_neg (fun e=>h e.symm),if_pos rfl]
  rw[if_neg h1,if_neg h1]
theorem kj (l:List (Nat×fA))(b b':Nat):lo (del l b) b'=if b'=b then none else lo l b':=by
 induction l with
 |nil=>simp only[del,lo];split<;>rfl
 |cons x r ih=>
  obtain⟨c,v⟩:=x;simp only[del]
  split
  ·rename_i h;subst h;rw[ih];simp only[lo];split<;>rfl
  rename_i h
  simp only[lo,ih]
  by_cases h1:b'=c
  ·subst h1;rw[if_pos rfl,if_neg (fun e=>h e.symm),if_pos rfl]
  rw[if_neg h1,if_neg h1]
theorem fy (l:List (Nat×fA))(fs:List Nat)(b:Nat):lo (dF l fs) b=(lo l b).map fun v=>if fs.contains b then⟨v.bk,false⟩else v:=by
 induction l with
 |nil=>rfl
 |cons x r ih=>
  obtain⟨c,v⟩:=x;simp only[dF,lo]
  split
  ·rename_i h;subst h;rfl
  exact ih
def cd (w:World)(g:Nat):Nat:=
 match w.heap[g]? with
 |some (.cells c _ _)=>c.size
 |_=>0
def aO (ok:Nat→Prop)(w:World):C→Value→Prop
 |.any,v=>v.oneCell'=true
 |.bool b,v=>v= .bool b
 |.int k n,v=>v= .int k n
 |.str s,v=>v= .string s
 |.nil,v=>v= .slice none 0 0
 |.ints k xs,v=>∃a cap,v= .slice a xs.length cap∧xs.length≤cap∧(xs.length=0∨∃g o,a=some ⟨g,o,none⟩∧ok g∧∀i,i<xs.length→w.cell? ⟨g,o+i,none⟩=some (.int k (xs.getD i 0)))
 |.rows wd n f,v=>∃a cap,v= .slice a n cap∧n≤cap∧(n=0∨∃g o,a=some ⟨g,o,none⟩∧ok g∧∀i j,i<n→j<wd→∃u,w.cell? ⟨g,o+(i*wd+j),none⟩=some u∧aO ok w (f i j) u)
 |.elt s wd i off,v=>∃g o n cap,aO ok w s (.slice (some ⟨g,o,none⟩) n cap)∧i<n∧v= .pointer (some ⟨g,o+(i*wd+off),none⟩)
 |.fn f n caps,v=>∃cs:Array Value,v= .func (.func f) #[] cs∧cs.size=n∧∀i,i<n→aO ok w (caps i) (cs.getD i undef)
 |.own ..,_=>False
 |.win ..,_=>False
 |.ptr ..,_=>False
 |.eptr ..,_=>False
structure Loc where
 addr:Option (Nat×Nat)
 len:Nat
def ey (ρ:Nat→Loc)(dom ok:Nat→Prop)(w:World)(c:C)(v:Value):Prop:=
 match c with
 |.own b wd off len=>dom b∧off+len≤(ρ b).len∧∃cap,len≤cap∧
   (
    (∃g o o',(ρ b).addr=some (g,o)∧v= .slice (some ⟨g,o',none⟩) len cap∧(cap=0∨o'=o+off*wd)∧o+(off+cap)*wd≤cd w g)∨
    ((ρ b).addr=none∧v= .slice none 0 0∧len=0∧cap=0))
 |.win b b2 off len=>dom b2∧dom b∧off+len≤(ρ b).len∧∃cap,len≤cap∧
   (
    (∃g o o',(ρ b).addr=some (g,o)∧v= .slice (some ⟨g,o',none⟩) len cap∧(cap=0∨o'=o+off*1)∧o+(off+cap)*1≤cd w g)∨
    ((ρ b).addr=none∧v= .slice none 0 0∧len=0∧cap=0))
 |.ptr b off=>dom b∧∃g o,(ρ b).addr=some (g,o)∧v= .pointer (some ⟨g,o+off,none⟩)
 |.eptr b wd i off=>dom b∧i<(ρ b).len∧∃g o,(ρ b).addr=some (g,o)∧v= .pointer (some ⟨g,o+(i*wd+off),none⟩)
 |c=>aO ok w c v
def aA (ρ:Nat→Loc)(dom ok:Nat→Prop)(w:World)(c:C)(v:Value):Prop:=
 match c with
 |.fn f n caps=>∃cs:Array Value,v= .func (.func f) #[] cs∧cs.size=n∧∀i,i<n→ey ρ dom ok w (caps i) (cs.getD i undef)
 |c=>ey ρ dom ok w c v
def bI (ρ:Nat→Loc)(dom ok:Nat→Prop)(w:World):List C→List Value→Prop
 |[],[]=>True
 |c::cs,v::vs=>aA ρ dom ok w c v∧bI ρ dom ok w cs vs
 |_,_=>False
def dJ (ρ:Nat→Loc)(dom ok:Nat→Prop)(w:World):V→Value→Prop
 |.unk,_=>True
 |.one c,v=>aA ρ dom ok w c v
 |.agg cs,v=>∃vs:Array Value,v= .agg vs∧bI ρ dom ok w cs vs.toList
 |.aF _,_=>False
def a6 (ρ:Nat→Loc)(dom ok:Nat→Prop)(w:World):List V→List Value→Prop
 |[],[]=>True
 |c::cs,v::vs=>dJ ρ dom ok w c v∧a6 ρ dom ok w cs vs
 |_,_=>False
def bY (ρ:Nat→Loc)(dom ok:Nat→Prop)(w:World):V→Value→Prop
 |.aF xs,v=>∃vs:Array Value,v= .tuple vs∧a6 ρ dom ok w xs vs.toList
 |x,v=>dJ ρ dom ok w x v
def aL (ρ:Nat→Loc)(dom ok:Nat→Prop)(w:World)(l:Loc)(B:Bk):Prop:=
 match l.addr with
 |some (g,o)=>∃cur e,w.heap[g]? =some (.cells cur e (0,0))∧∀j c,B.cell j=some c→∃u,cur[o+j]? =some u∧
   (match B with|.var _=>aA ρ dom ok w c u|.wins .. =>aA ρ dom ok w c u|_=>aO ok w c u)
 |none=>∀j,B.cell j=none
structure Ctx where
 W0:World
 forb:Nat→Prop
 mine:Nat→Prop
 home:Option Loc:=none
def aE (G:Ctx)(own:List (Nat×fA))(ρ:Nat→Loc)(w:World)(g:Nat):Prop:=
 g<w.heap.size∧¬G.forb g∧∀b B,lo own b=some B→B.rw=true→∀o,(ρ b).addr≠some (g,o)
structure aR (G:Ctx) (dom:Nat→Prop) (ρ:Nat→Loc) (s:St) (a:Act) (w:World):Prop where
 hd:a.defers=[]
 hn:a.tmps.size=s.n
 env:∀t,bY ρ dom (aE G s.own ρ w) w (lk s.env t) (a.tmps.getD t undef)
 own:∀b B,lo s.own b=some B→dom b∧(ρ b).len=B.bk.len∧aL ρ dom (aE G s.own ρ w) w (ρ b) B.bk∧
  ∀g o,(ρ b).addr=some (g,o)→g<w.heap.size∧¬G.forb g∧(G.W0.heap.size≤g∨G.mine g)
 inj:∀b B b' B',lo s.own b=some B→lo s.own b'=some B'→b≠b'→B.rw=true→∀g o o',(ρ b).addr=some (g,o)→(ρ b').addr≠some (g,o')
 os:w.os=G.W0.os
 tape:w.tape=G.W0.tape
 output:w.output=G.W0.output
 size:G.W0.heap.size≤w.heap.size
 keep:∀k,k<G.W0.heap.size→¬G.mine k→w.heap[k]? =G.W0.heap[k]?
 wf:∀k,G.forb k→k<G.W0.heap.size
 home:∀l,G.home=some l→dom 0∧ρ 0=l
 room:∀g,cd G.W0 g≤cd w g
def u7 (G:Ctx)(dom:Nat→Prop)(s:St)(a:Act)(w:World):Prop:=∃ρ,aR G dom ρ s a w
def oL (G:Ctx)(s:St)(a:Act)(w:World):Prop:=u7 G (fun b=>b<s.nx) s a w
structure Ext (ok ok':Nat→Prop) (w w':World):Prop where
 block:∀g,ok g→ok' g∧w'.heap[g]? =w.heap[g]?
 room:∀g,cd w g≤cd w' g
theorem Ext.refl (ok:Nat→Prop)(w:World):Ext ok ok w w:=⟨fun _ h=>⟨h,rfl⟩,fun _=>Nat.le_refl _⟩
theorem aO.ext {ok ok':Nat→Prop}{w w':World}(h:Ext ok ok' w w'):∀(c:C) (v:Value),aO ok w c v→aO ok' w' c v:=by
 have hc:∀g o u,ok g→w.cell? ⟨g,o,none⟩=some u→w'.cell? ⟨g,o,none⟩=some u:=fun g o u hg hu=>by
  rw[World.cell?_of_block (w:=w) (h.block g hg).2];exact hu
 intro c
 induction c with
 |any=>intro v hv;exact hv
 |bool b=>intro v hv;exact hv
 |int k n=>intro v hv;exact hv
 |str s=>intro v hv;exact hv
 |nil=>intro v hv;exact hv
 |ints k xs=>
  rintro v ⟨a,cap,hv,hle,hr⟩;refine⟨a,cap,hv,hle,?_⟩
  rcases hr with hr|⟨g,o,ha,hg,R2⟩
  ·exact .inl hr
  exact .inr ⟨g,o,ha,(h.block g hg).1,fun i hi=>hc _ _ _ hg (R2 i hi)⟩
 |rows wd n f ih=>
  rintro v ⟨a,cap,hv,hle,hr⟩;refine⟨a,cap,hv,hle,?_⟩
  rcases hr with hr|⟨g,o,ha,hg,R2⟩
  ·exact .inl hr
  refine .inr ⟨g,o,ha,(h.block g hg).1,fun i j hi hj=>?_⟩;obtain⟨u,hu,hr⟩:=R2 i j hi hj;exact⟨u,hc _ _ _ hg hu,ih i j u hr⟩
 |own b wd off len=>intro v hv;exact hv.elim
 |win b b2 off len=>intro v hv;exact hv.elim
 |ptr b off=>intro v hv;exact hv.elim
 |elt s wd i off ih=>
  rintro v ⟨g,o,n,cap,hs,hi,hv⟩;exact⟨g,o,n,cap,ih _ hs,hi,hv⟩
 |eptr b wd i off=>intro v hv;exact hv.elim
 |fn f n caps ih=>
  rintro v ⟨cs,hv,hn,R2⟩;exact⟨cs,hv,hn,fun i hi=>ih i _ (R2 i hi)⟩
structure ig (dm dm':Nat→Prop) (ρ ρ':Nat→Loc):Prop where
 dom:∀b,dm b→dm' b
 loc:∀b,dm b→ρ' b=ρ b
theorem ey.ext {ok ok' dom dom':Nat→Prop}{ρ ρ':Nat→Loc}{w w':World}(h:Ext ok ok' w w')(hs:ig dom dom' ρ ρ')(c:C)(v:Value)(hr:ey ρ dom ok w c v):ey ρ' dom' ok' w' c v:=by
 cases c with
 |own b wd off len=>
  obtain⟨hd,hl,cap,hc,hr⟩:=hr;refine⟨hs.dom _ hd,by rw[hs.loc _ hd];exact hl,cap,hc,?_⟩;rw[hs.loc _ hd]
  rcases hr with⟨g,o,o',ha,hv,ho,hz⟩|hr
  ·exact .inl ⟨g,o,o',ha,hv,ho,Nat.le_trans hz (h.room g)⟩
  exact .inr hr
 |win b b2 off len=>
  obtain⟨UR,hd,hl,cap,hc,hr⟩:=hr;refine⟨hs.dom _ UR,hs.dom _ hd,by rw[hs.loc _ hd];exact hl,cap,hc,?_⟩;rw[hs.loc _ hd]
  rcases hr with⟨g,o,o',ha,hv,ho,hz⟩|hr
  ·exact .inl ⟨g,o,o',ha,hv,ho,Nat.le_trans hz (h.room g)⟩
  exact .inr hr
 |ptr b off=>
  obtain⟨hd,hr⟩:=hr;exact⟨hs.dom _ hd,by rw[hs.loc _ hd];exact hr⟩
 |eptr b wd i off=>
  obtain⟨hd,hi,hr⟩:=hr;exact⟨hs.dom _ hd,by rw[hs.loc _ hd];exact hi,by rw[hs.loc _ hd];exact hr⟩
 |_=>exact aO.ext h _ v hr
theorem aA.ext {ok ok' dom dom':Nat→Prop}{ρ ρ':Nat→Loc}{w w':World}(h:Ext ok ok' w w')(hs:ig dom dom' ρ ρ')(c:C)(v:Value)(hr:aA ρ dom ok w c v):aA ρ' dom' ok' w' c v:=by
 cases c with
 |fn f n caps=>
  obtain⟨cs,hv,hn,R2⟩:=hr;exact⟨cs,hv,hn,fun i hi=>ey.ext h hs _ _ (R2 i hi)⟩
 |any=>exact ey.ext h hs .any v hr
 |bool b=>exact ey.ext h hs (.bool b) v hr
 |int k n=>exact ey.ext h hs (.int k n) v hr
 |str s=>exact ey.ext h hs (.str s) v hr
 |nil=>exact ey.ext h hs .nil v hr
 |ints k xs=>exact ey.ext h hs (.ints k xs) v hr
 |rows wd n f=>exact ey.ext h hs (.rows wd n f) v hr
 |own b wd off len=>exact ey.ext h hs (.own b wd off len) v hr
 |win b b2 off len=>exact ey.ext h hs (.win b b2 off len) v hr
 |ptr b off=>exact ey.ext h hs (.ptr b off) v hr
 |elt s wd i off=>exact ey.ext h hs (.elt s wd i off) v hr
 |eptr b wd i off=>exact ey.ext h hs (.eptr b wd i off) v hr
theorem bI.ext {ok ok' dom dom':Nat→Prop}{ρ ρ':Nat→Loc}{w w':World}(h:Ext ok ok' w w')(hs:ig dom dom' ρ ρ'):∀(cs:List C) (vs:List Value),bI ρ dom ok w cs vs→bI ρ' dom' ok' w' cs vs
 |[],[],_=>trivial
 |_::cs,_::vs,hr=>⟨aA.ext h hs _ _ hr.1,bI.ext h hs cs vs hr.2⟩
 |[],_::_,hr=>hr.elim
 |_::_,[],hr=>hr.elim
theorem dJ.ext {ok ok' dom dom':Nat→Prop}{ρ ρ':Nat→Loc}{w w':World}(h:Ext ok ok' w w')(hs:ig dom dom' ρ ρ')(x:V)(v:Value)(hr:dJ ρ dom ok w x v):dJ ρ' dom' ok' w' x v:=by
 cases x with
 |unk=>trivial
 |one c=>exact aA.ext h hs _ _ hr
 |agg cs=>obtain⟨vs,hv,hl⟩:=hr;exact⟨vs,hv,bI.ext h hs _ _ hl⟩
 |aF xs=>exact hr.elim
theorem a6.ext {ok ok' dom dom':Nat→Prop}{ρ ρ':Nat→Loc}{w w':World}(h:Ext ok ok' w w')(hs:ig dom dom' ρ ρ'):∀(cs:List V) (vs:List Value),a6 ρ dom ok w cs vs→a6 ρ' dom' ok' w' cs vs
 |[],[],_=>trivial
 |_::cs,_::vs,hr=>⟨dJ.ext h hs _ _ hr.1,a6.ext h hs cs vs hr.2⟩
 |[],_::_,hr=>hr.elim
 |_::_,[],hr=>hr.elim
theorem bY.ext {ok ok' dom dom':Nat→Prop}{ρ ρ':Nat→Loc}{w w':World}(h:Ext ok ok' w w')(hs:ig dom dom' ρ ρ')(x:V)(v:Value)(hr:bY ρ dom ok w x v):bY ρ' dom' ok' w' x v:=by
 cases x with
 |unk=>trivial
 |one c=>exact dJ.ext h hs (.one c) _ hr
 |agg cs=>exact dJ.ext h hs (.agg cs) _ hr
 |aF xs=>obtain⟨vs,hv,hl⟩:=hr;exact⟨vs,hv,a6.ext h hs _ _ hl⟩
theorem aL.ext {ok ok' dom dom':Nat→Prop}{ρ ρ':Nat→Loc}{w w':World}(h:Ext ok ok' w w')(hs:ig dom dom' ρ ρ')(l:Loc)(B:Bk)
  (hb:∀g o,l.addr=some (g,o)→w'.heap[g]? =w.heap[g]?) (hr:aL ρ dom ok w l B):aL ρ' dom' ok' w' l B:=by
 unfold aL at*
 cases ha:l.addr with
 |none=>rw[ha]at hr;exact hr
 |some x=>
  obtain⟨g,o⟩:=x;rw[ha]at hr;obtain⟨cur,e,hg,hc⟩:=hr;refine⟨cur,e,by rw[hb g o ha];exact hg,fun j c hj=>?_⟩;obtain⟨u,hu,hr⟩:=hc j c hj;refine⟨u,hu,?_⟩
  cases B with
  |var cs=>exact aA.ext h hs _ _ hr
  |ints e k xs=>exact aO.ext h _ _ hr
  |rows e wd n f=>exact aO.ext h _ _ hr
  |wins e b2 n g=>exact aA.ext h hs _ _ hr
end Go.Eng
namespace Go.Eng
open Go
theorem DR (r:List (Nat×V))(t':Nat)(v:V)(t:Nat):lk ((t',v)::r) t=if t=t' then v else lk r t:=rfl
def St.put (s:St)(dst:Option Tmp)(v:V):St:=
 match dst with
 |some d=>{s with env:=(d,v)::s.env}
 |none=>s
theorem aR.put {G:Ctx}{dom:Nat→Prop}{ρ:Nat→Loc}{s:St}{a:Act}{w:World}(h:aR G dom ρ s a w){dst:Option Tmp}{x:V}{v:Value}
  (hd:∀d,dst=some d→d<s.n) (hv:bY ρ dom (aE G s.own ρ w) w x v):aR G dom ρ (s.put dst x) (a.put dst v) w:=by
 cases dst with
 |none=>exact h
 |some d=>
  have Ru:=hd d rfl
  refine{hd:=h.hd,hn:=by simpa[Act.put,St.put]using h.hn,env:=fun t=>?_,own:=h.own,inj:=h.inj,os:=h.os,tape:=h.tape,output:=h.output,size:=h.size,keep:=h.keep,wf:=h.wf,home:=h.home,room:=h.room}
  show bY ρ dom _ w (lk ((d,x)::s.env) t) ((a.tmps.setIfInBounds d v).getD t undef);rw[DR]
  by_cases ht:t=d
  ·subst ht;rw[if_pos rfl]
   have:(a.tmps.setIfInBounds t v).getD t undef=v:=by
    have hs:t<a.tmps.size:=by rw[h.hn];exact Ru
    simp[Array.getD,hs]
   rw[this];exact hv
  rw[if_neg ht]
  have:(a.tmps.setIfInBounds d v).getD t undef=a.tmps.getD t undef:=by
   simp only[Array.getD_eq_getD_getElem?];rw[Array.getElem?_setIfInBounds_ne (fun e=>ht e.symm)]
  rw[this];exact h.env t
theorem aR.rR {G:Ctx}{dom dom':Nat→Prop}{ρ ρ':Nat→Loc}{s:St}{a:Act}{w w':World}{own':List (Nat×fA)}(h:aR G dom ρ s a w)
  (hx:Ext (aE G s.own ρ w) (aE G own' ρ' w') w w') (hs:ig dom dom' ρ ρ')
  (Wf:∀b B,lo own' b=some B→dom' b∧(ρ' b).len=B.bk.len∧aL ρ' dom' (aE G own' ρ' w') w' (ρ' b) B.bk∧
   ∀g o,(ρ' b).addr=some (g,o)→g<w'.heap.size∧¬G.forb g∧(G.W0.heap.size≤g∨G.mine g))
  (W8:∀b B b' B',lo own' b=some B→lo own' b'=some B'→b≠b'→B.rw=true→∀g o o',(ρ' b).addr=some (g,o)→(ρ' b').addr≠some (g,o'))
  (VA:w'.os=w.os) (htape:w'.tape=w.tape) (Wg:w'.output=w.output) (Ts:w.heap.size≤w'.heap.size)
  (hkeep:∀k,k<G.W0.heap.size→¬G.mine k→w'.heap[k]? =w.heap[k]?):aR G dom' ρ' {s with own:=own'} a w':=
 {
  hd:=h.hd,hn:=h.hn,env:=fun t=>bY.ext hx hs _ _ (h.env t),own:=Wf,inj:=W8,os:=VA.trans h.os,tape:=htape.trans h.tape,output:=Wg.trans h.output,
  size:=Nat.le_trans h.size Ts,keep:=fun k hk hm=>(hkeep k hk hm).trans (h.keep k hk hm),wf:=h.wf,
  home:=fun l hl=>⟨hs.dom _ (h.home l hl).1,(hs.loc _ (h.home l hl).1).trans (h.home l hl).2⟩,room:=fun g=>Nat.le_trans (h.room g) (hx.room g)}
theorem kI {G:Ctx}{own:List (Nat×fA)}{ρ:Nat→Loc}{w:World}{fs:List Nat}{g:Nat}(h:aE G own ρ w g):aE G (dF own fs) ρ w g:=by
 refine⟨h.1,h.2.1,fun b B hb RN=>?_⟩;rw[fy]at hb
 cases hl:lo own b with
 |none=>rw[hl]at hb;simp at hb
 |some B0=>
  rw[hl]at hb;simp only[Option.map_some,Option.some.injEq]at hb;refine h.2.2 b B0 hl ?_
  split at hb
  ·subst hb;simp at RN
  subst hb;exact RN
theorem aR.dF {G:Ctx}{dom:Nat→Prop}{ρ:Nat→Loc}{s:St}{a:Act}{w:World}(h:aR G dom ρ s a w)(fs:List Nat):
  aR G dom ρ {s with own:=Eng.dF s.own fs} a w:=by
 have RF:Ext (aE G s.own ρ w) (aE G (Eng.dF s.own fs) ρ w) w w:=⟨fun g hg=>⟨kI hg,rfl⟩,fun _=>Nat.le_refl _⟩;have hs:ig dom dom ρ ρ:=⟨fun _ h=>h,fun _ _=>rfl⟩;refine h.rR RF hs ?_ ?_ rfl rfl rfl (Nat.le_refl _) (fun _ _ _=>rfl)
 ·intro b B hb;rw[fy]at hb
  cases hl:lo s.own b with
  |none=>rw[hl]at hb;simp at hb
  |some B0=>
   rw[hl]at hb;simp only[Option.map_some,Option.some.injEq]at hb
   have Yo:B.bk=B0.bk:=by split at hb<;>(subst hb;rfl)
   obtain⟨h1,h2,h3,h4⟩:=h.own b B0 hl;rw[Yo];exact⟨h1,h2,aL.ext RF hs _ _ (fun _ _ _=>rfl) h3,h4⟩
 intro b B b' B' hb Se RE RN g o o' hg;rw[fy]at hb Se
 cases hl:lo s.own b with
 |none=>rw[hl]at hb;simp at hb
 |some B0=>
  cases SC:lo s.own b' with
  |none=>rw[SC]at Se;simp at Se
  |some B1=>
   rw[hl]at hb;simp only[Option.map_some,Option.some.injEq]at hb;refine h.inj b B0 b' B1 hl SC RE ?_ g o o' hg
   split at hb
   ·subst hb;simp at RN
   subst hb;exact RN
theorem cL {w w':World}{g:Nat}(h:w'.heap[g]? =w.heap[g]?):cd w' g=cd w g:=by simp[cd,h]
theorem jH {w:World}{g:Nat}(h:¬g<w.heap.size):cd w g=0:=by simp[cd,Array.getElem?_eq_none (Nat.le_of_not_lt h)]
theorem aL.lt {ρ:Nat→Loc}{dom ok:Nat→Prop}{w:World}{l:Loc}{B:Bk}(h:aL ρ dom ok w l B){g o:Nat}(ha:l.addr=some (g,o)):g<w.heap.size:=by
 unfold aL at h;rw[ha]at h;obtain⟨cur,e,hg,_⟩:=h;exact(Array.getElem?_eq_some_iff.1 hg).1
theorem aR.grown {G:Ctx}{dom:Nat→Prop}{ρ:Nat→Loc}{s:St}{a:Act}{w w':World}(h:aR G dom ρ s a w)(hb:Go.RowKit.Below w.heap.size w w'):aR G dom ρ s a w':=by
 have RF:Ext (aE G s.own ρ w) (aE G s.own ρ w') w w':=
  ⟨fun g hg=>⟨⟨Nat.lt_of_lt_of_le hg.1 hb.size,hg.2⟩,hb.block g hg.1⟩,fun g=>by
   by_cases hg:g<w.heap.size
   ·rw[cL (hb.block g hg)];exact Nat.le_refl _
   rw[jH hg];exact Nat.zero_le _⟩
 have hs:ig dom dom ρ ρ:=⟨fun _ h=>h,fun _ _=>rfl⟩;refine h.rR (own':=s.own) RF hs ?_ h.inj hb.os hb.tape hb.output hb.size (fun k hk _=>hb.block k (Nat.lt_of_lt_of_le hk h.size));intro b B hl;obtain⟨h1,h2,h3,h4⟩:=h.own b B hl;exact⟨h1,h2,aL.ext RF hs _ _ (fun g o ha=>hb.block g (h4 g o ha).1) h3,fun g o ha=>⟨Nat.lt_of_lt_of_le (h4 g o ha).1 hb.size,(h4 g o ha).2⟩⟩
def aZ (ρ:Nat→Loc)(id:Nat)(l:Loc):Nat→Loc:=fun b=>if b=id then l else ρ b
theorem lZ (ρ:Nat→Loc)(id:Nat)(l:Loc):aZ ρ id l id=l:=if_pos rfl
theorem aU (ρ:Nat→Loc){id b:Nat}(l:Loc)(h:b≠id):aZ ρ id l b=ρ b:=if_neg h
theorem ie (w:World)(o:Obj):Go.RowKit.Below w.heap.size w (w.alloc o):=(Go.RowKit.Below.refl _ _).alloc (Nat.le_refl _) _
theorem ig.aZ {dom:Nat→Prop}(ρ:Nat→Loc){id:Nat}(l:Loc)(hid:¬dom id):ig dom (fun b=>dom b∨b=id) ρ (aZ ρ id l):=
 ⟨fun _ h=>.inl h,fun b hb=>aU ρ l (fun e=>hid (e▸hb))⟩
theorem aR.xV {G:Ctx}{dom:Nat→Prop}{ρ:Nat→Loc}{s:St}{a:Act}{w:World}(h:aR G dom ρ s a w){id:Nat}(hid:¬dom id)(B:Bk)(cells:Array Value)(e:TypeId)
  (Rx:∀j c,B.cell j=some c→∃u,cells[j]? =some u∧(match B with|.var _=>aA ρ dom (aE G s.own ρ w) w c u|.wins .. =>aA ρ dom (aE G s.own ρ w) w c u|_=>aO (aE G s.own ρ w) w c u)):
  aR G (fun b=>dom b∨b=id) (aZ ρ id ⟨some (w.heap.size,0),B.len⟩) {s with own:=dZ s.own id ⟨B,true⟩} a (w.alloc (.cells cells e)):=by
 have hb:=ie w (.cells cells e);have hs:=ig.aZ ρ ⟨some (w.heap.size,0),B.len⟩ hid;have RE:∀b B',lo s.own b=some B'→b≠id:=fun b B' hl e=>hid (e▸(h.own b B' hl).1);have RF:Ext (aE G s.own ρ w) (aE G (dZ s.own id ⟨B,true⟩) (Eng.aZ ρ id ⟨some (w.heap.size,0),B.len⟩) (w.alloc (.cells cells e))) w (w.alloc (.cells cells e)):=by
  refine⟨fun g hg=>⟨⟨Nat.lt_of_lt_of_le hg.1 hb.size,hg.2.1,fun b B' hl RN o=>?_⟩,hb.block g hg.1⟩,fun g=>?_⟩
  ·rw[bX]at hl
   by_cases RJ:b=id
   ·subst RJ;rw[lZ];intro he
    have:w.heap.size=g:=by simpa using congrArg (Option.map Prod.fst) he
    exact absurd hg.1 (by omega)
   rw[if_neg RJ]at hl;rw[aU _ _ RJ];exact hg.2.2 b B' hl RN o
  by_cases hg:g<w.heap.size
  ·rw[cL (hb.block g hg)];exact Nat.le_refl _
  rw[jH hg];exact Nat.zero_le _
 refine h.rR RF hs ?_ ?_ hb.os hb.tape hb.output hb.size (fun k hk _=>hb.block k (Nat.lt_of_lt_of_le hk h.size))
 ·intro b B' hl;rw[bX]at hl
  by_cases RJ:b=id
  ·subst RJ;rw[if_pos rfl]at hl;obtain rfl:=Option.some.inj hl;rw[lZ];refine⟨.inr rfl,rfl,?_,fun g o ha=>?_⟩
   ·unfold aL;refine⟨cells,e,heap_alloc_new w _,fun j c hj=>?_⟩;obtain⟨u,hu,hr⟩:=Rx j c hj;refine⟨u,by simpa using hu,?_⟩
    cases B with
    |var cs=>exact aA.ext RF hs _ _ hr
    |ints e k xs=>exact aO.ext RF _ _ hr
    |rows e wd n f=>exact aO.ext RF _ _ hr
    |wins e b2 n g=>exact aA.ext RF hs _ _ hr
   have:w.heap.size=g:=by simpa using congrArg (Option.map Prod.fst) ha
   subst this;exact⟨by simp,fun hf=>absurd (h.wf _ hf) (by have:=h.size;omega),.inl h.size⟩
  rw[if_neg RJ]at hl;rw[aU _ _ RJ];obtain⟨h1,h2,h3,h4⟩:=h.own b B' hl;exact⟨.inl h1,h2,aL.ext RF hs _ _ (fun g o ha=>hb.block g (h4 g o ha).1) h3,fun g o ha=>⟨Nat.lt_of_lt_of_le (h4 g o ha).1 hb.size,(h4 g o ha).2⟩⟩
 intro b B1 b' B2 hl SC SG RN g o o' ha;rw[bX]at hl SC
 by_cases RJ:b=id
 ·subst RJ;rw[if_neg (fun e=>SG e.symm)]at SC;rw[lZ]at ha;rw[aU _ _ (fun e=>SG e.symm)];have hg:w.heap.size=g:=by simpa using congrArg (Option.map Prod.fst) ha
  intro R8
  have:=((h.own b' B2 SC).2.2.2 g o' R8).1
  omega
 rw[if_neg RJ]at hl;rw[aU _ _ RJ]at ha
 by_cases Su:b'=id
 ·subst Su;rw[lZ];intro R8;have hg:w.heap.size=g:=by simpa using congrArg (Option.map Prod.fst) R8
  have:=((h.own b B1 hl).2.2.2 g o ha).1
  omega
 rw[if_neg Su]at SC;rw[aU _ _ Su];exact h.inj b B1 b' B2 hl SC SG RN g o o' ha
theorem aR.KM {G:Ctx}{dom:Nat→Prop}{ρ:Nat→Loc}{s:St}{a:Act}{w w':World}(h:aR G dom ρ s a w)(hb:Go.RowKit.Below w.heap.size w w'){id:Nat}(hid:¬dom id)(B:Bk)(l:Loc)(hlen:l.len=B.len)
  (Sl:∀g o,l.addr=some (g,o)→w.heap.size≤g∧g<w'.heap.size)
  (Rx:aL (aZ ρ id l) (fun b=>dom b∨b=id) (aE G (dZ s.own id ⟨B,true⟩) (aZ ρ id l) w') w' l B):
  aR G (fun b=>dom b∨b=id) (aZ ρ id l) {s with own:=dZ s.own id ⟨B,true⟩} a w':=by
 have hs:=ig.aZ ρ l hid;have RE:∀b B',lo s.own b=some B'→b≠id:=fun b B' hl e=>hid (e▸(h.own b B' hl).1);have RF:Ext (aE G s.own ρ w) (aE G (dZ s.own id ⟨B,true⟩) (Eng.aZ ρ id l) w') w w':=by
  refine⟨fun g hg=>⟨⟨Nat.lt_of_lt_of_le hg.1 hb.size,hg.2.1,fun b B' hl RN o=>?_⟩,hb.block g hg.1⟩,fun g=>?_⟩
  ·rw[bX]at hl
   by_cases RJ:b=id
   ·subst RJ;rw[lZ];intro he
    have:=(Sl g o he).1
    exact absurd hg.1 (by omega)
   rw[if_neg RJ]at hl;rw[aU _ _ RJ];exact hg.2.2 b B' hl RN o
  by_cases hg:g<w.heap.size
  ·rw[cL (hb.block g hg)];exact Nat.le_refl _
  rw[jH hg];exact Nat.zero_le _
 refine h.rR RF hs ?_ ?_ hb.os hb.tape hb.output hb.size (fun k hk _=>hb.block k (Nat.lt_of_lt_of_le hk h.size))
 ·intro b B' hl;rw[bX]at hl
  by_cases RJ:b=id
  ·subst RJ;rw[if_pos rfl]at hl;obtain rfl:=Option.some.inj hl;rw[lZ];refine⟨.inr rfl,hlen,Rx,fun g o ha=>?_⟩
   have:=Sl g o ha
   exact⟨this.2,fun hf=>absurd (h.wf _ hf) (by have:=h.size;omega),.inl (Nat.le_trans h.size this.1)⟩
  rw[if_neg RJ]at hl;rw[aU _ _ RJ];obtain⟨h1,h2,h3,h4⟩:=h.own b B' hl;exact⟨.inl h1,h2,aL.ext RF hs _ _ (fun g o ha=>hb.block g (h4 g o ha).1) h3,fun g o ha=>⟨Nat.lt_of_lt_of_le (h4 g o ha).1 hb.size,(h4 g o ha).2⟩⟩
 intro b B1 b' B2 hl SC SG RN g o o' ha;rw[bX]at hl SC
 by_cases RJ:b=id
 ·subst RJ;rw[if_neg (fun e=>SG e.symm)]at SC;rw[lZ]at ha;rw[aU _ _ (fun e=>SG e.symm)];have hg:=(Sl g o ha).1;intro R8
  have:=((h.own b' B2 SC).2.2.2 g o' R8).1
  omega
 rw[if_neg RJ]at hl;rw[aU _ _ RJ]at ha
 by_cases Su:b'=id
 ·subst Su;rw[lZ];intro R8;have hg:=(Sl g o' R8).1
  have:=((h.own b B1 hl).2.2.2 g o ha).1
  omega
 rw[if_neg Su]at SC;rw[aU _ _ Su];exact h.inj b B1 b' B2 hl SC SG RN g o o' ha
theorem aR.LL {G:Ctx}{dom:Nat→Prop}{ρ:Nat→Loc}{s:St}{a:Act}{w w':World}(h:aR G dom ρ s a w)(hb:Go.RowKit.Below w.heap.size w w'){i j:Nat}(hi:¬dom i)(hj:¬dom j)(US:i≠j)(Bi Bj:Bk)(li lj:Loc)
  (SN:li.len=Bi.len) (Yp:lj.len=Bj.len) (ZC:∀g o,li.addr=some (g,o)→w.heap.size≤g∧g<w'.heap.size) (ZD:∀g o,lj.addr=some (g,o)→w.heap.size≤g∧g<w'.heap.size)
  (hd:∀g o o',li.addr=some (g,o)→lj.addr≠some (g,o'))
  (W9:aL (aZ (aZ ρ i li) j lj) (fun b=>(dom b∨b=i)∨b=j) (aE G (dZ (dZ s.own i ⟨Bi,true⟩) j ⟨Bj,true⟩) (aZ (aZ ρ i li) j lj) w') w' li Bi)
  (Yq:aL (aZ (aZ ρ i li) j lj) (fun b=>(dom b∨b=i)∨b=j) (aE G (dZ (dZ s.own i ⟨Bi,true⟩) j ⟨Bj,true⟩) (aZ (aZ ρ i li) j lj) w') w' lj Bj):
  aR G (fun b=>(dom b∨b=i)∨b=j) (aZ (aZ ρ i li) j lj) {s with own:=dZ (dZ s.own i ⟨Bi,true⟩) j ⟨Bj,true⟩} a w':=by
 have hs:ig dom (fun b=>(dom b∨b=i)∨b=j) ρ (Eng.aZ (Eng.aZ ρ i li) j lj):=⟨fun b h=>.inl (.inl h),fun b Sc=>by
  have h1:b≠j:=fun e=>hj (e▸Sc);have h2:b≠i:=fun e=>hi (e▸Sc);rw[aU _ _ h1,aU _ _ h2]⟩
 have Vl:∀b B,lo (dZ (dZ s.own i ⟨Bi,true⟩) j ⟨Bj,true⟩) b=some B→(b=j∧B=⟨Bj,true⟩∧Eng.aZ (Eng.aZ ρ i li) j lj b=lj)∨(b=i∧B=⟨Bi,true⟩∧Eng.aZ (Eng.aZ ρ i li) j lj b=li)∨
   (b≠i∧b≠j∧lo s.own b=some B∧Eng.aZ (Eng.aZ ρ i li) j lj b=ρ b):=by
  intro b B hl;rw[bX]at hl
  by_cases h1:b=j
  ·subst h1;rw[if_pos rfl]at hl;exact .inl ⟨rfl,(Option.some.inj hl).symm,lZ ..⟩
  rw[if_neg h1,bX]at hl
  by_cases h2:b=i
  ·subst h2;rw[if_pos rfl]at hl;exact .inr (.inl ⟨rfl,(Option.some.inj hl).symm,by rw[aU _ _ h1,lZ]⟩)
  rw[if_neg h2]at hl;exact .inr (.inr ⟨h2,h1,hl,by rw[aU _ _ h1,aU _ _ h2]⟩)
 have RF:Ext (aE G s.own ρ w) (aE G (dZ (dZ s.own i ⟨Bi,true⟩) j ⟨Bj,true⟩) (Eng.aZ (Eng.aZ ρ i li) j lj) w') w w':=by
  refine⟨fun g hg=>⟨⟨Nat.lt_of_lt_of_le hg.1 hb.size,hg.2.1,fun b B' hl RN o he=>?_⟩,hb.block g hg.1⟩,fun g=>?_⟩
  ·rcases Vl b B' hl with⟨_,_,e⟩|⟨_,_,e⟩|⟨_,_,SC,e⟩
   ·rw[e]at he;exact absurd hg.1 (by have:=(ZD g o he).1;omega)
   ·rw[e]at he;exact absurd hg.1 (by have:=(ZC g o he).1;omega)
   rw[e]at he;exact hg.2.2 b B' SC RN o he
  by_cases hg:g<w.heap.size
  ·rw[cL (hb.block g hg)];exact Nat.le_refl _
  rw[jH hg];exact Nat.zero_le _
 refine h.rR RF hs ?_ ?_ hb.os hb.tape hb.output hb.size (fun k hk _=>hb.block k (Nat.lt_of_lt_of_le hk h.size))
 ·intro b B' hl
  rcases Vl b B' hl with⟨rfl,rfl,e⟩|⟨rfl,rfl,e⟩|⟨_,_,SC,e⟩
  ·rw[e];refine⟨.inr rfl,Yp,Yq,fun g o ha=>?_⟩
   have:=ZD g o ha
   exact⟨this.2,fun hf=>absurd (h.wf _ hf) (by have:=h.size;omega),.inl (Nat.le_trans h.size this.1)⟩
  ·rw[e];refine⟨.inl (.inr rfl),SN,W9,fun g o ha=>?_⟩
   have:=ZC g o ha
   exact⟨this.2,fun hf=>absurd (h.wf _ hf) (by have:=h.size;omega),.inl (Nat.le_trans h.size this.1)⟩
  rw[e];obtain⟨h1,h2,h3,h4⟩:=h.own b B' SC;exact⟨.inl (.inl h1),h2,aL.ext RF hs _ _ (fun g o ha=>hb.block g (h4 g o ha).1) h3,fun g o ha=>⟨Nat.lt_of_lt_of_le (h4 g o ha).1 hb.size,(h4 g o ha).2⟩⟩
 intro b B1 b' B2 hl SC RE RN g o o' ha R8
 rcases Vl b B1 hl with⟨rfl,rfl,e⟩|⟨rfl,rfl,e⟩|⟨_,_,SW,e⟩<;>rcases Vl b' B2 SC with⟨rfl,rfl,e'⟩|⟨rfl,rfl,e'⟩|⟨_,_,Rv,e'⟩<;>rw [e]at ha<;>rw [e']at R8
 ·exact RE rfl
 ·exact hd g o' o R8 ha
 ·exact absurd ((h.own b' B2 Rv).2.2.2 g o' R8).1 (by have:=(ZD g o ha).1;omega)
 ·exact hd g o o' ha R8
 ·exact RE rfl
 ·exact absurd ((h.own b' B2 Rv).2.2.2 g o' R8).1 (by have:=(ZC g o ha).1;omega)
 ·exact absurd ((h.own b B1 SW).2.2.2 g o ha).1 (by have:=(ZD g o' R8).1;omega)
 ·exact absurd ((h.own b B1 SW).2.2.2 g o ha).1 (by have:=(ZC g o' R8).1;omega)
 exact h.inj b B1 b' B2 SW Rv RE RN g o o' ha R8
theorem aR.H5 {G:Ctx}{dom:Nat→Prop}{ρ:Nat→Loc}{s:St}{a:Act}{w:World}(h:aR G dom ρ s a w){o:Obj}:aE G s.own ρ (w.alloc o) w.heap.size:=
 ⟨by simp,fun hf=>absurd (h.wf _ hf) (by have:=h.size;omega),fun b B hl _ o ha=>absurd ((h.own b B hl).2.2.2 _ _ ha).1 (by omega)⟩
theorem BG {G:Ctx}{own:List (Nat×fA)}{ρ:Nat→Loc}{w:World}{o:Obj}{g:Nat}(h:aE G own ρ w g):aE G own ρ (w.alloc o) g:=
 ⟨Nat.lt_of_lt_of_le h.1 (ie w o).size,h.2⟩
end Go.Eng
namespace Go.Eng
open Go
inductive DW where
 |int (k:IntKind)
 |bool
 |str
 |sl (e:TypeId)
 |st (fs:List (Nat×Nat))
 |arr (n:Nat) (e:TypeId)
 |fn
 |other
structure Ty where
 k:DW
 size:Nat
 bytes:Nat
 zero:List C
 fl:List Bool:=[]
def CP:Value→C
 |.int k n=>.int k n
 |.bool b=>.bool b
 |.string s=>.str s
 |.slice a n c=>match a,n,c with
  |none,0,0=>.nil
  |_,_,_=>.any
 |.func fn first captured=>match fn,first.size,captured.size with
  |.func f,0,0=>.fn f 0 (fun _=>.any)
  |_,_,_=>.any
 |_=>.any
def cv:Value→V
 |.agg cs=>if cs.toList.all Value.oneCell' then .agg (cs.toList.map CP)else .unk
 |.tuple _=>.unk
 |v=>.one (CP v)
def cK (P:Program):TypeDesc→DW
 |.int k=>.int k
 |.bool=>.bool
 |.string=>.str
 |.slice e=>.sl e
 |.struct fs=>match fs.toList.mapM (fun f=>(P.info? f.type).map fun i=>(f.offset,i.size))with
  |some pl=>.st pl
  |none=>.other
 |.func _ _ _=>.fn
 |.array n e=>.arr n e
 |_=>.other
theorem qV {P:Program}{d:TypeDesc}{pl:List (Nat×Nat)}(h:cK P d= .st pl):∃fs,d= .struct fs∧fs.toList.mapM (fun f=>(P.info? f.type).map fun i=>(f.offset,i.size))=some pl:=by
 cases d<;>simp only[cK]at h
 case struct fs=>
  refine⟨fs,rfl,?_⟩
  split at h
  ·rename_i pl' hp;cases h;exact hp
  cases h
 all_goals cases h
theorem tI {P:Program}:∀(fs:List Field) (pl:List (Nat×Nat)),fs.mapM (fun f=>(P.info? f.type).map fun i=>(f.offset,i.size))=some pl→
  ∀(j:Nat) p,pl[j]? =some p→∃f i,fs[j]? =some f∧P.info? f.type=some i∧p=(f.offset,i.size)
 |[],pl,h,j,p,hj=>by simp at h;subst h;simp at hj
 |f::fs,pl,h,j,p,hj=>by
  simp only[List.mapM_cons,Option.bind_eq_bind,Option.pure_def]at h
  cases hi:P.info? f.type with
  |none=>rw[hi]at h;simp at h
  |some i=>
   rw[hi]at h;simp only[Option.map_some,Option.bind_some]at h
   cases hr:fs.mapM (fun f=>(P.info? f.type).map fun i=>(f.offset,i.size))with
   |none=>rw[hr]at h;simp at h
   |some rest=>
    rw[hr]at h;simp only[Option.bind_some,Option.some.injEq]at h;subst h
    cases j with
    |zero=>simp at hj;exact⟨f,i,rfl,hi,hj.symm⟩
    |succ j=>exact tI fs rest hr j p (by simpa using hj)
def Og (P:Program):TypeDesc→List Bool
 |.struct fs=>fs.toList.map fun f=>match P.underlying f.type with
  |some d=>match(cK P d)with
   |.st _=>false
   |.arr _ _=>false
   |.other=>false
   |_=>true
  |none=>false
 |_=>[]
def dQ (P:Program)(t:TypeId):Option Ty:=
 match P.info? t,P.underlying t with
 |some i,some d=>match i.zero with
  |some z=>if z.cells.toList.all Value.oneCell' then some {k:=cK P d,size:=i.size,bytes:=i.bytes,zero:=z.cells.toList.map CP,fl:=Og P d}else none
  |none=>none
 |_,_=>none
class QH (P:Program) (t:TypeId) (T:outParam Ty):Prop where
 out:dQ P t=some T
theorem QH.parts {P:Program}{t:TypeId}{T:Ty}(h:QH P t T):∃i d z,P.info? t=some i∧P.underlying t=some d∧i.zero=some z∧T.k=cK P d∧T.size=i.size∧T.bytes=i.bytes∧T.zero=z.cells.toList.map CP∧z.cells.toList.all Value.oneCell'=true:=by
 have h:=h.out;unfold dQ at h
 cases hi:P.info? t with
 |none=>rw[hi]at h;simp at h
 |some i=>
  cases hu:P.underlying t with
  |none=>rw[hi,hu]at h;simp at h
  |some d=>
   cases hz:i.zero with
   |none=>rw[hi,hu]at h;simp[hz]at h
   |some z=>
    rw[hi,hu]at h;simp only[hz]at h
    split at h
    ·rename_i Rz
     simp only[Option.some.injEq]at h;subst h;exact⟨i,d,z,rfl,rfl,hz,rfl,rfl,rfl,rfl,Rz⟩
    cases h
section cv
variable {ρ:Nat→Loc}{dom ok:Nat→Prop}{w:World}
theorem zQ (v:Value)(h:v.oneCell'=true):aO ok w (CP v) v:=by
 cases v with
 |int k n=>rfl
 |bool b=>rfl
 |string s=>rfl
 |slice a n c=>
  simp only[CP]
  split
  ·rfl
  exact h
 |func fn first captured=>
  simp only[CP]
  split
  ·rename_i f h1 h2
   have h1:first= #[]:=Array.eq_empty_of_size_eq_zero (by assumption);have h2:captured= #[]:=Array.eq_empty_of_size_eq_zero (by assumption);subst h1;subst h2;exact⟨#[],rfl,rfl,fun i hi=>absurd hi (Nat.not_lt_zero _)⟩
  exact h
 |_=>exact h
theorem aA.bh {c:C}{v:Value}(h:aO ok w c v):aA ρ dom ok w c v:=by
 cases c with
 |own b wd off len=>exact h.elim
 |win b b2 off len=>exact h.elim
 |ptr b off=>exact h.elim
 |eptr b wd i off=>exact h.elim
 |fn f n caps=>
  obtain⟨cs,hv,hn,R2⟩:=h;refine⟨cs,hv,hn,fun i hi=>?_⟩
  have:=R2 i hi
  unfold ey
  cases hc:caps i with
  |own b wd off len=>rw[hc]at this;exact this.elim
  |win b b2 off len=>rw[hc]at this;exact this.elim
  |ptr b off=>rw[hc]at this;exact this.elim
  |eptr b wd i off=>rw[hc]at this;exact this.elim
  |_=>rw[hc]at this;exact this
 |_=>exact h
theorem yq (v:Value)(h:v.oneCell'=true):aA ρ dom ok w (CP v) v:=aA.bh (zQ v h)
theorem pr:∀vs:List Value,vs.all Value.oneCell'=true→bI ρ dom ok w (vs.map CP) vs
 |[],_=>trivial
 |v::vs,h=>by
  simp only[List.all_cons,Bool.and_eq_true]at h;exact⟨yq v h.1,pr vs h.2⟩
theorem Nv (v:Value):bY ρ dom ok w (cv v) v:=by
 by_cases hv:∃cs,v= .agg cs
 ·obtain⟨cs,rfl⟩:=hv;simp only[cv]
  split
  ·rename_i h;exact⟨cs,rfl,pr _ h⟩
  trivial
 by_cases ht:∃cs,v= .tuple cs
 ·obtain⟨cs,rfl⟩:=ht;trivial
 have e:cv v= .one (CP v)∧v.oneCell'=true:=by
  cases v with
  |agg cs=>exact absurd ⟨cs,rfl⟩ hv
  |tuple cs=>exact absurd ⟨cs,rfl⟩ ht
  |_=>exact⟨rfl,rfl⟩
 rw[e.1];exact yq v e.2
end cv
def St.ev (s:St):Operand→V
 |.tmp t=>lk s.env t
 |.const v=>cv v
 |.global _=>.one .any
 |.func f=>.one (.fn f 0 (fun _=>.any))
theorem aR.ev {G:Ctx}{dom:Nat→Prop}{ρ:Nat→Loc}{s:St}{a:Act}{w:World}(h:aR G dom ρ s a w)(x:Operand):
  bY ρ dom (aE G s.own ρ w) w (s.ev x) (a.eval x):=by
 cases x with
 |tmp t=>exact h.env t
 |const v=>exact Nv v
 |global g=>rfl
 |func f=>exact⟨#[],rfl,rfl,fun i hi=>absurd hi (Nat.not_lt_zero _)⟩
structure eJ where
 val:V
 vJ:Option Bk
 fz:List Nat
def uP (own:List (Nat×fA))(fz:List Nat):List (Nat×fA):=
 match fz with
 |[]=>own
 |_::_=>dF own fz
def St.add (s:St)(dst:Option Tmp)(id:Nat)(e:eJ):St:=
 match e.vJ with
 |some B=>{s.put dst e.val with own:=dZ (uP s.own e.fz) id ⟨B,true⟩}
 |none=>{s.put dst e.val with own:=uP s.own e.fz}
theorem St.add_plain (s:St)(dst:Option Tmp)(id:Nat)(v:V):s.add dst id ⟨v,none,[]⟩=s.put dst v:=by cases dst<;>rfl
structure gp (s Z:St) (nx0:Nat) (o:Oper):Prop where
 n:Z.n=s.n
 ev:∀x∈o.op.operands,Z.ev x=s.ev x
 own:∀b,b<nx0→(lo Z.own b).map (·.bk)=(lo s.own b).map (·.bk)
theorem gp.refl (s:St)(nx0:Nat)(o:Oper):gp s s nx0 o:=⟨rfl,fun _ _=>rfl,fun _ _=>rfl⟩
theorem gp.vJ {s Z:St}{nx0:Nat}{o:Oper}(h:gp s Z nx0 o){b:Nat}{B:fA}(hb:b<nx0)(hl:lo s.own b=some B):∃rw,lo Z.own b=some ⟨B.bk,rw⟩:=by
 have:=h.own b hb
 rw[hl]at this
 cases hz:lo Z.own b with
 |none=>rw[hz]at this;simp at this
 |some B'=>
  rw[hz]at this;simp only[Option.map_some,Option.some.injEq]at this;exact⟨B'.rw,by rw[←this]⟩
def iV:Op→Bool
 |.move _=>true
 |.nilCheck _=>true
 |.binOp _ _ _ _ _=>true
 |.convert _ _ _=>true
 |.fieldAddr _ _ _=>true
 |.indexAddr _ _ _=>true
 |.slice _ _ _ _ _=>true
 |.load _ _=>true
 |.extract _ _=>true
 |.pick _ _ _=>true
 |.call c=>match c.callee with
  |.builtin .len=>true
  |_=>false
 |_=>false
def Ll (P:Program)(o:Oper)(s:St)(nx0:Nat)(val:V):Prop:=
 ∀G dom ρ Z a w,aR G dom ρ Z a w→gp s Z nx0 o→∃v,(execOp a.eval o).run P w= .ok (.value v) w∧bY ρ dom (aE G Z.own ρ w) w val v
def a7 (P:Program)(o:Oper)(s:St)(nx0 id:Nat)(e:eJ):Prop:=
 (∀G dom ρ Z a w,aR G dom ρ Z a w→¬dom id→gp s Z nx0 o→∀Q next,
  (∀v w',u7 G (fun b=>dom b∨b=id) (Z.add o.dst id e) (a.put o.dst v) w'→next (a.put o.dst v) w')→o.wp P a w next Q)∧
 (iV o.op=true→e.vJ=none∧e.fz=[]∧Ll P o s nx0 e.val)
theorem Oper.cS {P:Program}{o:Oper}{a:Act}{w w':World}{v:Value}{next:Act→World→Prop}{Q:Exit→Act→World→Prop}
  (hr:(execOp a.eval o).run P w= .ok (.value v) w') (h:next (a.put o.dst v) w'):o.wp P a w next Q:=by
 unfold Oper.wp;rw[hr];exact h
theorem aR.cR {G:Ctx}{dom dom':Nat→Prop}{ρ:Nat→Loc}{s:St}{a:Act}{w:World}(h:aR G dom ρ s a w)(hd:∀b,dom b→dom' b):aR G dom' ρ s a w:=by
 have hx:=Ext.refl (aE G s.own ρ w) w;have hs:ig dom dom' ρ ρ:=⟨hd,fun _ _=>rfl⟩;exact h.rR (own':=s.own) hx hs (fun b B hl=>by
  obtain⟨h1,h2,h3,h4⟩:=h.own b B hl;exact⟨hd _ h1,h2,aL.ext hx hs _ _ (fun _ _ _=>rfl) h3,h4⟩) h.inj rfl rfl rfl (Nat.le_refl _) (fun _ _ _=>rfl)
def bU (o:Oper)(n:Nat):Prop:=∀d,o.dst=some d→d<n
theorem a7.pure {P:Program}{o:Oper}{s:St}{nx0 id:Nat}{val:V}(hd:bU o s.n)
  (h:∀G dom ρ Z a w,aR G dom ρ Z a w→gp s Z nx0 o→∃v,(execOp a.eval o).run P w= .ok (.value v) w∧bY ρ dom (aE G Z.own ρ w) w val v):
  a7 P o s nx0 id ⟨val,none,[]⟩:=by
 refine⟨?_,fun _=>⟨rfl,rfl,h⟩⟩;intro G dom ρ Z a w hs _ ha Q next hk;obtain⟨v,hr,hv⟩:=h G dom ρ Z a w hs ha;refine Oper.cS hr (hk v w ⟨ρ,?_⟩);rw[St.add_plain];exact(hs.put (dst:=o.dst) (fun d hh=>by rw[ha.n];exact hd d hh) hv).cR (fun b hb=>Or.inl hb)
end Go.Eng
namespace Go.Eng
open Go
def eZ (op:BinOp)(k:IntKind)(x y:Int):Int:=
 let a:=BitVec.ofInt k.bits x
 let b:=BitVec.ofInt k.bits y
 match op with
 |.and=>k.wrap (a&&&b).toNat
 |.or=>k.wrap (a|||b).toNat
 |.xor=>k.wrap (a^^^b).toNat
 |_=>k.wrap (a&&& ~~~b).toNat
def Eb (op:BinOp)(k:IntKind)(a:Int)(k':IntKind)(b:Int)(K:C→Prop):Prop:=
 match op with
 |.shl=>0≤b∧K (.int k (k.wrap (a*2^(min b.toNat k.bits))))
 |.shr=>0≤b∧K (.int k (a.fdiv (2^(min b.toNat k.bits))))
 |.add=>k=k'∧K (.int k (k.wrap (a+b)))
 |.sub=>k=k'∧K (.int k (k.wrap (a-b)))
 |.mul=>k=k'∧K (.int k (k.wrap (a*b)))
 |.quo=>k=k'∧b≠0∧K (.int k (k.wrap (a.tdiv b)))
 |.rem=>k=k'∧b≠0∧K (.int k (a.tmod b))
 |.eql=>k=k'∧K (.bool (decide (a=b)))
 |.neq=>k=k'∧K (.bool (decide (a≠b)))
 |.lss=>k=k'∧K (.bool (decide (a<b)))
 |.leq=>k=k'∧K (.bool (decide (a≤b)))
 |.gtr=>k=k'∧K (.bool (decide (b<a)))
 |.geq=>k=k'∧K (.bool (decide (b≤a)))
 |op=>k=k'∧K (.int k (eZ op k a b))
theorem zV {P:Program}{w:World}{op:BinOp}{k k':IntKind}{a b:Int}{K:C→Prop}(t:TypeId)(x y:Operand)(h:Eb op k a k' b K):
  ∃c v,K c∧(do eqGuard op t x y (.int k a) (.int k' b);Go.binOp op t (.int k a) (.int k' b):Sem Value).run P w= .ok v w∧∀ρ dom ok,aA ρ dom ok w c v:=by
 have hg:(eqGuard op t x y (.int k a) (.int k' b)).run P w= .ok () w:=by
  unfold eqGuard
  cases op<;>rfl
 rw[Sem.run_bind,hg,Result.andThen_ok]
 cases op<;>simp only[Eb]at h
 case shl=>exact⟨_,_,h.2,by simp only[Go.binOp,Op.shift];rw[if_neg (by omega)];rfl,fun _ _ _=>rfl⟩
 case shr=>exact⟨_,_,h.2,by simp only[Go.binOp,Op.shift];rw[if_neg (by omega)];rfl,fun _ _ _=>rfl⟩
 case quo=>
  obtain⟨rfl,h0,hk⟩:=h;exact⟨_,_,hk,by simp only[Go.binOp,Op.intDiv,ne_eq,not_true_eq_false,↓reduceIte];rw[if_neg h0];rfl,fun _ _ _=>rfl⟩
 case rem=>
  obtain⟨rfl,h0,hk⟩:=h;exact⟨_,_,hk,by simp only[Go.binOp,Op.intDiv,ne_eq,not_true_eq_false,↓reduceIte];rw[if_neg h0];rfl,fun _ _ _=>rfl⟩
 case eql=>
  obtain⟨rfl,hk⟩:=h;refine⟨_,_,hk,by simp only[Go.binOp,Op.intCmp,ne_eq,not_true_eq_false,↓reduceIte];rfl,fun _ _ _=>?_⟩;show Value.bool _=Value.bool _
  congr 1
 case neq=>
  obtain⟨rfl,hk⟩:=h;refine⟨_,_,hk,by simp only[Go.binOp,Op.intCmp,ne_eq,not_true_eq_false,↓reduceIte];rfl,fun _ _ _=>?_⟩;show Value.bool _=Value.bool _
  congr 1
  rw[Bool.eq_iff_iff];simp
 all_goals
  obtain⟨rfl,hk⟩:=h;exact⟨_,_,hk,by simp only[Go.binOp,Op.intArith,Op.intCmp,Op.intBits,ne_eq,not_true_eq_false,↓reduceIte];rfl,fun _ _ _=>rfl⟩
theorem au {P:Program}{w:World}{t:TypeId}{d:TypeDesc}(h:P.underlying t=some d):(underlying t).run P w= .ok d w:=by
 simp[underlying,h]
theorem run_typeInfo {P:Program}{w:World}{t:TypeId}{i:TypeInfo}(h:P.info? t=some i):(typeInfo t).run P w= .ok i w:=by
 simp[typeInfo,h]
theorem run_sizeOf {P:Program}{w:World}{t:TypeId}{i:TypeInfo}(h:P.info? t=some i):(sizeOf t).run P w= .ok i.size w:=by
 simp[sizeOf,run_typeInfo h]
theorem fK {P:Program}{w:World}{t:TypeId}{i:TypeInfo}{z:Value}(h:P.info? t=some i)(hz:i.zero=some z):(zeroValue t).run P w= .ok z w:=by
 simp[zeroValue,run_typeInfo h,hz]
def DW.agg:DW→Option Bool
 |.st _=>some true
 |.arr _ _=>some true
 |.other=>none
 |_=>some false
theorem qE {P:Program}{w:World}{t:TypeId}{d:TypeDesc}{b:Bool}(h:P.underlying t=some d)(hb:(cK P d).agg=some b):(isAgg t).run P w= .ok b w:=by
 unfold isAgg;rw[Sem.run_bind,au h,Result.andThen_ok]
 cases d<;>simp only[cK]at hb
 case struct fs=>split at hb<;>simp [DW.agg]at hb;subst hb;rfl
 case array=>simp[DW.agg]at hb;subst hb;rfl
 all_goals(simp[DW.agg]at hb;try(subst hb;rfl))
def OR (k:DW)(cs:List C):V:=
 match k with
 |.st _=>.agg cs
 |.arr _ _=>.agg cs
 |.other=>.unk
 |_=>match cs with
  |[c]=>.one c
  |_=>.unk
theorem j6 {P:Program}{w:World}(a:Addr):∀(n i:Nat) (acc:Array Value) (us:List Value),us.length=n→
  (∀j u,us[j]? =some u→w.cell? (a.add (i+j))=some u)→(loadCellsFrom a i n acc).run P w= .ok (acc++us.toArray) w
 |0,i,acc,us,hl,_=>by
  obtain rfl:us=[]:=List.eq_nil_of_length_eq_zero hl
  simp[loadCellsFrom]
 |n+1,i,acc,us,hl,hc=>by
  match us,hl,hc with
  |u::us,hl,hc=>
   have h0:=hc 0 u rfl;simp only[Nat.add_zero]at h0;simp only[loadCellsFrom,Sem.run_bind,run_load,h0,Result.andThen_ok];rw[j6 a n (i+1) _ us (by simpa using hl) (fun j u' hj=>by
    have:=hc (j+1) u' (by simpa using hj)
    rw[show i+1+j=i+(j+1) by omega];exact this)]
   simp
theorem kb {P:Program}{w:World}(a:Addr)(us:List Value)(hc:∀j u,us[j]? =some u→w.cell? (a.add j)=some u):
  (loadCells a us.length).run P w= .ok us.toArray w:=by
 unfold loadCells;rw[j6 a us.length 0 #[] us rfl (by simpa using hc)]
 simp
theorem bI.length {ρ:Nat→Loc}{dom ok:Nat→Prop}{w:World}:∀{cs:List C} {vs:List Value},bI ρ dom ok w cs vs→cs.length=vs.length
 |[],[],_=>rfl
 |_::cs,_::vs,h=>by simp[bI.length h.2]
 |[],_::_,h=>h.elim
 |_::_,[],h=>h.elim
theorem bI.get {ρ:Nat→Loc}{dom ok:Nat→Prop}{w:World}:∀{cs:List C} {vs:List Value},bI ρ dom ok w cs vs→∀(j:Nat) c,cs[j]? =some c→∃v,vs[j]? =some v∧aA ρ dom ok w c v
 |[],[],_,j,c,hj=>by simp at hj
 |c0::cs,v0::vs,h,0,c,hj=>by simp at hj;subst hj;exact⟨v0,rfl,h.1⟩
 |c0::cs,v0::vs,h,j+1,c,hj=>by simpa using bI.get h.2 j c (by simpa using hj)
 |[],_::_,h,_,_,_=>h.elim
 |_::_,[],h,_,_,_=>h.elim
theorem bI.AZ {ρ:Nat→Loc}{dom ok:Nat→Prop}{w:World}:∀{cs:List C} {vs:List Value},cs.length=vs.length→(∀(j:Nat) c v,cs[j]? =some c→vs[j]? =some v→aA ρ dom ok w c v)→bI ρ dom ok w cs vs
 |[],[],_,_=>trivial
 |c0::cs,v0::vs,h,hg=>⟨hg 0 c0 v0 rfl rfl,bI.AZ (by simpa using h) (fun j c v hc hv=>hg (j+1) c v (by simpa using hc) (by simpa using hv))⟩
 |[],_::_,h,_=>by simp at h
 |_::_,[],h,_=>by simp at h
theorem jS {P:Program}{ρ:Nat→Loc}{dom ok:Nat→Prop}{w:World}{t:TypeId}{i:TypeInfo}{d:TypeDesc}(hi:P.info? t=some i)(hu:P.underlying t=some d)
  (g o:Nat) (cs:List C) (hl:cs.length=i.size) (hk:(cK P d).agg=some true∨((cK P d).agg=some false∧i.size=1))
  (hc:∀j c,cs[j]? =some c→∃u,w.cell? ⟨g,o+j,none⟩=some u∧aA ρ dom ok w c u):
  ∃v,(loadVar t ⟨g,o,none⟩).run P w= .ok v w∧bY ρ dom ok w (OR (cK P d) cs) v:=by
 have key:∀(cs:List C) (o:Nat),(∀j c,cs[j]? =some c→∃u,w.cell? ⟨g,o+j,none⟩=some u∧aA ρ dom ok w c u)→
   ∃us:List Value,us.length=cs.length∧(∀j u,us[j]? =some u→w.cell? ⟨g,o+j,none⟩=some u)∧bI ρ dom ok w cs us:=by
  intro cs
  induction cs with
  |nil=>intro o _;exact⟨[],rfl,fun j u hj=>by simp at hj,trivial⟩
  |cons c cs ih=>
   intro o h;obtain⟨u,hu,hr⟩:=h 0 c rfl;obtain⟨us,h1,h2,h3⟩:=ih (o+1) (fun j c' hj=>by
    obtain⟨u',RP,Xa⟩:=h (j+1) c' (by simpa using hj);exact⟨u',by rw[show o+1+j=o+(j+1) by omega];exact RP,Xa⟩)
   refine⟨u::us,by simp[h1],fun j u' hj=>?_,hr,h3⟩
   cases j with
   |zero=>simp at hj;subst hj;exact hu
   |succ j=>have:=h2 j u' (by simpa using hj);rw[show o+1+j=o+(j+1) by omega]at this;exact this
 obtain⟨us,h1,h2,h3⟩:=key cs o hc
 have hadd:∀j,(⟨g,o,none⟩:Addr).add j=⟨g,o+j,none⟩:=fun j=>by unfold Addr.add;split<;>simp_all
 rcases hk with hk|⟨hk,h1s⟩
 ·refine⟨.agg us.toArray,?_,?_⟩
  ·unfold loadVar;rw[Sem.run_bind,qE hu hk,Result.andThen_ok];simp only[↓reduceIte,Sem.run_bind,run_sizeOf hi,Result.andThen_ok];rw[←hl,←h1,kb _ us (fun j u hj=>by rw[hadd];exact h2 j u hj)];rfl
  cases hd:cK P d<;>rw [hd]at hk<;>simp [DW.agg]at hk<;>exact ⟨us.toArray,rfl,h3⟩
 have Te:cs.length=1:=by omega
 match cs,us,Te,h1,h2,h3 with
 |[c],[u],_,_,h2,h3=>
  refine⟨u,?_,?_⟩
  ·unfold loadVar;rw[Sem.run_bind,qE hu hk,Result.andThen_ok]
   have:=h2 0 u rfl
   simp only[Nat.add_zero]at this;simp only[Bool.false_eq_true,↓reduceIte,run_load,this]
  cases hd:cK P d<;>rw [hd]at hk<;>simp [DW.agg]at hk<;>exact h3.1
end Go.Eng
namespace Go.Eng
open Go
def V.ob:V→Bool
 |.one _=>true
 |.agg _=>true
 |_=>false
def cellsOf:V→List C
 |.one c=>[c]
 |.agg cs=>cs
 |_=>[]
section
variable {ρ:Nat→Loc}{dom ok:Nat→Prop}{w:World}
theorem aO.plain {c:C}{v:Value}(h:aO ok w c v):v.oneCell'=true∧v.cells= #[v]:=by
 cases c with
 |any=>
  have h:v.oneCell'=true:=h;refine⟨h,?_⟩
  cases v<;>first|rfl|simp [Value.oneCell']at h
 |bool b=>cases h;exact⟨rfl,rfl⟩
 |int k n=>cases h;exact⟨rfl,rfl⟩
 |str s=>cases h;exact⟨rfl,rfl⟩
 |nil=>cases h;exact⟨rfl,rfl⟩
 |ints k xs=>obtain⟨a,cap,rfl,_⟩:=h;exact⟨rfl,rfl⟩
 |rows wd n f=>obtain⟨a,cap,rfl,_⟩:=h;exact⟨rfl,rfl⟩
 |own b wd off len=>exact h.elim
 |win b b2 off len=>exact h.elim
 |ptr b off=>exact h.elim
 |elt s wd i off=>obtain⟨g,o,n,cap,_,_,rfl⟩:=h;exact⟨rfl,rfl⟩
 |eptr b wd i off=>exact h.elim
 |fn f n caps=>obtain⟨cs,rfl,_⟩:=h;exact⟨rfl,rfl⟩
theorem aA.plain {c:C}{v:Value}(h:aA ρ dom ok w c v):v.oneCell'=true∧v.cells= #[v]:=by
 cases c with
 |own b wd off len=>
  obtain⟨_,_,cap,_,h⟩:=h
  rcases h with⟨g,o,o',_,rfl,_⟩|⟨_,rfl,_⟩<;>exact ⟨rfl,rfl⟩
 |win b b2 off len=>
  obtain⟨_,_,_,cap,_,h⟩:=h
  rcases h with⟨g,o,o',_,rfl,_⟩|⟨_,rfl,_⟩<;>exact ⟨rfl,rfl⟩
 |ptr b off=>obtain⟨_,g,o,_,rfl⟩:=h;exact⟨rfl,rfl⟩
 |eptr b wd i off=>obtain⟨_,_,g,o,_,rfl⟩:=h;exact⟨rfl,rfl⟩
 |fn f n caps=>obtain⟨cs,rfl,_⟩:=h;exact⟨rfl,rfl⟩
 |any=>exact aO.plain (ok:=ok) (w:=w) (c:=.any) h
 |bool b=>exact aO.plain (ok:=ok) (w:=w) (c:=.bool b) h
 |int k n=>exact aO.plain (ok:=ok) (w:=w) (c:=.int k n) h
 |str s=>exact aO.plain (ok:=ok) (w:=w) (c:=.str s) h
 |nil=>exact aO.plain (ok:=ok) (w:=w) (c:=.nil) h
 |ints k xs=>exact aO.plain (ok:=ok) (w:=w) (c:=.ints k xs) h
 |rows wd n f=>exact aO.plain (ok:=ok) (w:=w) (c:=.rows wd n f) h
 |elt s wd i off=>exact aO.plain (ok:=ok) (w:=w) (c:=.elt s wd i off) h
theorem bY.cells {x:V}{v:Value}(h:bY ρ dom ok w x v)(hx:x.ob=true):bI ρ dom ok w (cellsOf x) v.cells.toList:=by
 cases x with
 |one c=>
  have h':aA ρ dom ok w c v:=h;rw[(aA.plain h').2];exact⟨h',trivial⟩
 |agg cs=>obtain⟨vs,rfl,hl⟩:=h;exact hl
 |aF xs=>simp[V.ob]at hx
 |unk=>simp[V.ob]at hx
end
def lU (cs:List C)(off:Nat)(l:List C):List C:=cs.take off++(l++cs.drop (off+l.length))
theorem s8 (cs:List C)(off:Nat)(l:List C)(h:off+l.length≤cs.length)(j:Nat):
  (lU cs off l)[j]? =if off≤j∧j<off+l.length then l[j-off]? else cs[j]? :=by
 unfold lU;rw[List.getElem?_append,List.getElem?_append,X5]
 by_cases h1:j<off
 ·rw[if_pos (by omega),if_neg (by omega),List.getElem?_take,if_pos h1]
 rw[if_neg (by omega)]
 by_cases h2:j<off+l.length
 ·rw[if_pos (by omega),if_pos (by omega)]
  congr 1;omega
 rw[if_neg (by omega),if_neg (by omega),List.getElem?_drop]
 congr 1;omega
theorem n9 (cs:List C)(off:Nat)(l:List C)(h:off+l.length≤cs.length):(lU cs off l).length=cs.length:=by
 unfold lU;simp;omega
def jE (fs:List (Nat×Nat))(cells:List C):List (Nat×V)→Option (List C)
 |[]=>some cells
 |(i,x)::rest=>
  match fs[i]? with
  |none=>none
  |some (off,size)=>if x.ob=true∧(cellsOf x).length=size∧off+size≤cells.length then jE fs (lU cells off (cellsOf x)) rest else none
theorem AE (off:Nat):∀(l:List Value) (k:Nat) (cells:Array Value),off+k+l.length≤cells.size→
  ((l.zipIdx k).foldl (fun cs (p:Value×Nat)=>cs.setIfInBounds (off+p.2) p.1) cells).size=cells.size∧
  ∀m:Nat,((l.zipIdx k).foldl (fun cs (p:Value×Nat)=>cs.setIfInBounds (off+p.2) p.1) cells)[m]? =if off+k≤m∧m<off+k+l.length then l[m-(off+k)]? else cells[m]?
 |[],k,cells,_=>⟨rfl,fun m=>by rw[if_neg (by simp)];rfl⟩
 |v::l,k,cells,h=>by
  have ih:=AE off l (k+1) (cells.setIfInBounds (off+k) v) (by simp at h⊢;omega);rw[List.zipIdx_cons,List.foldl_cons];refine⟨by simpa using ih.1,fun m=>?_⟩;rw[ih.2 m];simp only[List.length_cons]at h⊢
  by_cases h1:off+k=m
  ·subst h1;have Ru:off+k<cells.size:=by omega
   rw[if_neg (by omega),if_pos (by omega)]
   simp[Ru]
  by_cases h2:off+(k+1)≤m∧m<off+(k+1)+l.length
  ·rw[if_pos h2,if_pos (by omega)];obtain⟨q,hq⟩:∃q,m=off+k+1+q:=⟨m-(off+k+1),by omega⟩;subst hq;rw[show off+k+1+q-(off+(k+1))=q by omega,show off+k+1+q-(off+k)=q+1 by omega,List.getElem?_cons_succ]
  rw[if_neg h2,if_neg (by omega),Array.getElem?_setIfInBounds_ne h1]
section
variable {ρ:Nat→Loc}{dom ok:Nat→Prop}{w:World}
def Li (ρ:Nat→Loc)(dom ok:Nat→Prop)(w:World):List (Nat×V)→List (Nat×Value)→Prop
 |[],[]=>True
 |(i,x)::xs,(j,v)::vs=>i=j∧bY ρ dom ok w x v∧Li ρ dom ok w xs vs
 |_,_=>False
theorem oR {place:Nat→Option (Nat×Nat)}{fs:List (Nat×Nat)}(hp:∀i p,fs[i]? =some p→place i=some p):∀(xs:List (Nat×V)) (vs:List (Nat×Value)) (cs:List C) (cells:Array Value) (out:List C),
  Li ρ dom ok w xs vs→bI ρ dom ok w cs cells.toList→jE fs cs xs=some out→∃cells',Instr.fill place cells vs=some cells'∧bI ρ dom ok w out cells'.toList
 |[],[],cs,cells,out,_,hl,hf=>by
  simp only[jE,Option.some.injEq]at hf;subst hf;exact⟨cells,rfl,hl⟩
 |(i,x)::xs,(j,v)::vs,cs,cells,out,hr,hl,hf=>by
  obtain⟨rfl,hx,hr⟩:=hr;simp only[jE]at hf
  cases hi:fs[i]? with
  |none=>rw[hi]at hf;simp at hf
  |some p=>
   obtain⟨off,size⟩:=p;rw[hi]at hf;simp only at hf
   split at hf
   ·rename_i hc
    obtain⟨hs,hn,hle⟩:=hc;have RV:=bY.cells hx hs;have hlen:=bI.length RV;have hlen2:=bI.length hl;simp only[Array.length_toList]at hlen hlen2;have Yr:=AE off v.cells.toList 0 cells (by simp;omega);simp only[Nat.add_zero]at Yr;have hfold:v.cells.zipIdx.foldl (fun cs (p:Value×Nat)=>cs.setIfInBounds (off+p.2) p.1) cells=(v.cells.toList.zipIdx 0).foldl (fun cs (p:Value×Nat)=>cs.setIfInBounds (off+p.2) p.1) cells:=by
     rw[←Array.foldl_toList,Array.toList_zipIdx]
    have Rx:bI ρ dom ok w (lU cs off (cellsOf x)) ((v.cells.toList.zipIdx 0).foldl (fun cs (p:Value×Nat)=>cs.setIfInBounds (off+p.2) p.1) cells).toList:=by
     refine bI.AZ ?_ ?_
     ·rw[n9 _ _ _ (by omega)];simp only[Array.length_toList,Yr.1];omega
     intro m c u hc hu;rw[s8 _ _ _ (by omega)]at hc;rw[Array.getElem?_toList,Yr.2 m]at hu;simp only[Array.length_toList]at hu
     by_cases hm:off≤m∧m<off+(cellsOf x).length
     ·rw[if_pos hm]at hc;rw[if_pos (by omega)]at hu;obtain⟨u',RP,Xa⟩:=bI.get RV _ _ hc;rw[RP]at hu;obtain rfl:=Option.some.inj hu;exact Xa
     rw[if_neg hm]at hc;rw[if_neg (by omega)]at hu;obtain⟨u',RP,Xa⟩:=bI.get hl _ _ hc;rw[Array.getElem?_toList,hu]at RP;obtain rfl:=Option.some.inj RP;exact Xa
    obtain⟨cells',h1,h2⟩:=oR hp xs vs _ _ out hr Rx hf;refine⟨cells',?_,h2⟩;simp only[Instr.fill,hp i _ hi];rw[if_neg (by simp;omega),hfold];exact h1
   simp at hf
 |[],_::_,_,_,_,h,_,_=>h.elim
 |_::_,[],_,_,_,h,_,_=>h.elim
end
end Go.Eng
namespace Go.Eng
open Go
abbrev fB:=Nat→Option Ty
def eH (P:Program)(T:fB):Prop:=∀t X,T t=some X→dQ P t=some X
def bm:Nat→Loc:=fun _=>⟨none,0⟩
def bn:Nat→Prop:=fun _=>False
def iF (P:Program)(f:FuncId):Prop:=∃fn,P.funcs[f]? =some fn∧fn.body.isNone=false∧(fn.name== "runtime.NumGoroutine")=false
def Pr (P:Program)(f:FuncId)(args:List V)(r:V):Prop:=
 iF P f∧∀(ok:Nat→Prop) (w:World) (vs:Array Value),(∀g,ok g→g<w.heap.size)→a6 bm bn ok w args vs.toList→
  Calls P f vs w fun e w'=>∃v,e= .returned v∧Go.RowKit.Below w.heap.size w w'∧bY bm bn (fun g=>ok g∨(w.heap.size≤g∧g<w'.heap.size)) w' r v
def Bk.flat:Bk→Prop
 |.var _=>False
 |.wins .. =>False
 |_=>True
def Bk.wd:Bk→Nat
 |.ints _ _ _=>1
 |.rows _ w _ _=>w
 |.var _=>0
 |.wins .. =>1
def l9:C→Prop
 |.bool _=>True
 |.int _ _=>True
 |_=>False
def Fr (P:Program)(f:FuncId)(args:List V)(B:Bk):Prop:=
 iF P f∧B.flat∧∀(ok:Nat→Prop) (w:World) (vs:Array Value),(∀g,ok g→g<w.heap.size)→a6 bm bn ok w args vs.toList→
  Calls P f vs w fun e w'=>∃v l,e= .returned v∧Go.RowKit.Below w.heap.size w w'∧l.len=B.len∧(∀g o,l.addr=some (g,o)→w.heap.size≤g∧g<w'.heap.size)∧
   aL bm bn (fun g=>ok g∨(w.heap.size≤g∧g<w'.heap.size∧∀o,l.addr≠some (g,o))) w' l B∧ey (fun _=>l) (fun _=>True) (fun _=>False) w' (.own 0 B.wd 0 B.len) v
def dG (P:Program)(f:FuncId)(args:List V)(B:Bk)(c:C):Prop:=
 l9 c∧iF P f∧B.flat∧∀(ok:Nat→Prop) (w:World) (vs:Array Value),(∀g,ok g→g<w.heap.size)→a6 bm bn ok w args vs.toList→
  Calls P f vs w fun e w'=>∃v u l,e= .returned (.tuple #[v,u])∧Go.RowKit.Below w.heap.size w w'∧l.len=B.len∧(∀g o,l.addr=some (g,o)→w.heap.size≤g∧g<w'.heap.size)∧
   aL bm bn (fun g=>ok g∨(w.heap.size≤g∧g<w'.heap.size∧∀o,l.addr≠some (g,o))) w' l B∧ey (fun _=>l) (fun _=>True) (fun _=>False) w' (.own 0 B.wd 0 B.len) v∧aA bm bn (fun _=>False) w' c u
def eG {α:Type}(p:α→Prop)(a:α):Prop:=p a
theorem Lg {α:Type}{p:α→Prop}{a:α}(h:p a):eG p a:=h
def bx (f:Nat→C):Nat→Nat→List C
 |_,0=>[]
 |off,n+1=>f off::bx f (off+1) n
def lB:C→Nat→Nat→C
 |.ints k xs,i,_=>.int k (xs.getD i 0)
 |.rows _ _ f,i,j=>f i j
 |_,_,_=>.any
def FN:C→Nat
 |.ints _ _=>1
 |.rows w _ _=>w
 |_=>0
def n7:Bk→Nat→Nat→C
 |.ints _ k xs,i,_=>.int k (xs.getD i 0)
 |.rows _ _ _ f,i,j=>f i j
 |.var _,_,_=>.any
 |.wins _ _ _ g,i,_=>g i
def Jb:Bk→Nat
 |.ints _ _ _=>1
 |.rows _ w _ _=>w
 |.var _=>0
 |.wins .. =>1
def gg (B:Bk)(wd off len:Nat):C:=
 match B with
 |.ints _ k xs=>if wd=1 then .ints k ((xs.drop off).take len)else .any
 |.rows _ w _ f=>if w=wd then .rows w len (fun i j=>f (off+i) j)else .any
 |.var _=>.any
 |.wins .. =>.any
def Pm:C→C
 |.own _ _ _ _=>.any
 |.win _ _ _ _=>.any
 |.ptr _ _=>.any
 |.eptr _ _ _ _=>.any
 |.fn _ _ _=>.any
 |c=>c
def P5 (B:Bk)(off:Nat):C:=
 match B with
 |.var cs=>.elt (.rows cs.length 1 (fun _ j=>Pm (cs.getD j .any))) cs.length 0 off
 |_=>.any
def PZ (own:List (Nat×fA))(b2:Nat):C→C
 |.own b w o l=>if b=b2 then(match lo own b with|some B=>gg B.bk w o l|none=>.any)else .any
 |.any=>.any
 |.bool b=>.bool b
 |.int k n=>.int k n
 |.str s=>.str s
 |.nil=>.nil
 |.ints k xs=>.ints k xs
 |.rows w n f=>.rows w n f
 |_=>.any
def LW (own:List (Nat×fA))(b2:Nat)(B:Bk)(off len:Nat):C:=
 match B with
 |.wins _ b3 _ g=>if b3=b2 then .rows 1 len (fun i _=>PZ own b2 (g (off+i)))else .any
 |_=>.any
def jZ (own:List (Nat×fA))(nx0:Nat):C→C
 |.own b wd off len=>if b<nx0 then(match lo own b with|some B=>gg B.bk wd off len|none=>.any)else .any
 |.win b b2 off len=>if b<nx0 then(if b2<nx0 then(match lo own b with|some B=>LW own b2 B.bk off len|none=>.any)else .any)else .any
 |.ptr b off=>if b<nx0 then(match lo own b with|some B=>P5 B.bk off|none=>.any)else .any
 |.eptr _ _ _ _=>.any
 |.fn f n _=>if n=0 then .fn f 0 (fun _=>.any)else .any
 |c=>c
def BQ (own:List (Nat×fA))(nx0:Nat):V→V
 |.one c=>.one (jZ own nx0 c)
 |.agg cs=>.agg (cs.map (jZ own nx0))
 |_=>.unk
def gz:C→List Nat
 |.own b _ _ _=>[b]
 |.win b b2 _ _=>[b,b2]
 |.ptr b _=>[b]
 |_=>[]
def kv:V→List Nat
 |.one c=>gz c
 |.agg cs=>cs.flatMap gz
 |_=>[]
def gj:C→Bool
 |.any=>true
 |.bool _=>true
 |.int _ _=>true
 |.str _=>true
 |.nil=>true
 |_=>false
def nv:V→Bool
 |.unk=>true
 |.one c=>gj c
 |.agg cs=>cs.all gj
 |.aF vs=>vs.all fun|.one c=>gj c|.agg cs=>cs.all gj|.unk=>true|.aF _=>false
def HN (E:Ty):Prop:=E.k.agg=some true∨(E.k.agg=some false∧E.size=1)
def zX (T:fB)(s:St)(nx0:Nat)(t:TypeId)(x:Operand)(K:eJ→Prop):Prop:=
 match T t with
 |some E=>match s.ev x with
  |.one (.ptr b off)=>b<nx0∧match lo s.own b with
   |some B=>match B.bk with
    |.var cs=>off+E.size≤cs.length∧HN E∧K ⟨OR E.k ((cs.drop off).take E.size),none,[]⟩
    |_=>False
   |none=>False
  |.one (.elt c wd i off)=>FN c=wd∧off+E.size≤wd∧HN E∧K ⟨OR E.k (bx (lB c i) off E.size),none,[]⟩
  |.one (.eptr b wd i off)=>b<nx0∧match lo s.own b with
   |some B=>Jb B.bk=wd∧off+E.size≤wd∧HN E∧K ⟨OR E.k (bx (n7 B.bk i) off E.size),none,[]⟩
   |none=>False
  |_=>False
 |none=>False
def lq (k:IntKind):List C→Option (List Int)
 |[]=>some []
 |.int k' n::r=>if k'=k then(lq k r).map (n:: ·)else none
 |_::_=>none
def eX (z:List C):Nat→List C
 |0=>[]
 |n+1=>z++eX z n
def gq (size:Nat):Nat→Nat→List (Nat×Nat)
 |_,0=>[]
 |i,n+1=>(i*size,size)::gq size (i+1) n
def CX (E:Ty)(e:TypeId)(id:Nat)(fz:Bool)(len:Nat)(cs:List C)(ids:List Nat)(K:eJ→Prop):Prop:=
 match E.k with
 |.int k=>match lq k cs with
  |some xs=>if fz then K ⟨.one (.ints k xs),none,ids⟩else K ⟨.one (.own id 1 0 len),some (.ints e k xs),ids⟩
  |none=>False
 |_=>if fz then K ⟨.one (.rows E.size len (fun i j=>cs.getD (i*E.size+j) .any)),none,ids⟩
  else K ⟨.one (.own id E.size 0 len),some (.rows e E.size len (fun i j=>cs.getD (i*E.size+j) .any)),ids⟩
def Mi (own:List (Nat×fA)):Bool:=match lo own 999 with
 |some ⟨.wins _ _ _ _,_⟩=>true
 |_=>false
def AJ:Option (List C)→Option (Nat×Nat×Nat×Nat)
 |some [.own b w o l]=>some (b,w,o,l)
 |_=>none
def iB (T:fB)(s:St)(nx0 id:Nat)(fz:Bool)(t:TypeId)(len:Nat)(parts:Array (Nat×Operand))(K:eJ→Prop):Prop:=
 match T t with
 |some S=>match S.k with
  |.sl e=>match T e with
   |some E=>E.zero.length=E.size∧len*E.size≤16777216∧(match E.k with|.int _=>E.size=1|_=>0<E.size)∧
     match(if Mi s.own then AJ (jE (gq E.size 0 len) (eX E.zero len) (parts.toList.map fun p=>(p.1,s.ev p.2)))else none)with
     |some (b,w,o,l)=>len=1∧E.size=1∧K ⟨.one (.win id b 0 1),some (.wins e b 1 (fun _=>.own b w o l)),[]⟩
     |none=>match jE (gq E.size 0 len) (eX E.zero len) (parts.toList.map fun p=>(p.1,BQ s.own nx0 (s.ev p.2)))with
      |some cs=>CX E e id fz len cs ((parts.toList.map fun p=>kv (s.ev p.2)).flatten.filter (fun b=>decide (b<nx0))) K
      |none=>False
   |none=>False
  |_=>False
 |none=>False
def jA (T:fB)(s:St)(id:Nat)(fz:Bool)(t:TypeId)(l c:Operand)(K:eJ→Prop):Prop:=
 match T t with
 |some S=>match S.k with
  |.sl e=>match T e with
   |some E=>match s.ev l,s.ev c with
    |.one (.int _ l),.one (.int _ c)=>E.zero.length=E.size∧0<E.size∧(0≤l∧l≤c∧c*E.bytes≤281474976710656∧c≤9223372036854775807)∧
     match E.k with
     |.int k=>E.zero=[.int k 0]∧if fz=true then(if k= .i64 then K ⟨.one (.ints k (List.replicate l.toNat 0)),none,[]⟩else K ⟨.one (.own id 1 0 l.toNat),some (.ints e k (List.replicate c.toNat 0)),[]⟩)else K ⟨.one (.own id 1 0 l.toNat),some (.ints e k (List.replicate c.toNat 0)),[]⟩
     |_=>K ⟨.one (.own id E.size 0 l.toNat),some (.rows e E.size c.toNat (fun _ j=>E.zero.getD j .any)),[]⟩
    |_,_=>False
   |none=>False
  |_=>False
 |none=>False
def so (s:St)(x:Option Operand)(d:Int)(K:Int→Prop):Prop:=
 match x with
 |none=>K d
 |some x=>match s.ev x with
  |.one (.int _ i)=>K i
  |_=>False
def sB (T:fB)(s:St)(t:TypeId)(x:Operand)(lo hi:Option Operand)(m:Operand)(K:eJ→Prop):Prop:=
 match T t with
 |some S=>match S.k with
  |.sl e=>match T e with
   |some E=>match s.ev x with
    |.one (.own b wd off len)=>wd=E.size∧match hi with
     |some y=>so s lo 0 fun l=>so s (some y) len fun h=>so s (some m) len fun k=>(0≤l∧l≤h∧h≤k∧k≤len)∧K ⟨.one (.own b wd (off+l.toNat) (h-l).toNat),none,[]⟩
     |none=>False
    |_=>False
   |none=>False
  |_=>False
 |none=>False
def uj (T:fB)(s:St)(t:TypeId)(x:Operand)(lo hi mx:Option Operand)(K:eJ→Prop):Prop:=
 match mx with
 |some m=>sB T s t x lo hi m K
 |none=>match T t with
 |some S=>match S.k with
  |.sl e=>match T e with
   |some E=>match s.ev x with
    |.one (.own b wd off len)=>wd=E.size∧so s lo 0 fun l=>so s hi len fun h=>(0≤l∧l≤h∧h≤len)∧K ⟨.one (.own b wd (off+l.toNat) (h-l).toNat),none,[]⟩
    |.one (.win b b2 off len)=>1=E.size∧so s lo 0 fun l=>so s hi len fun h=>(0≤l∧l≤h∧h≤len)∧K ⟨.one (.win b b2 (off+l.toNat) (h-l).toNat),none,[]⟩
    |.one (.ints k xs)=>1=E.size∧so s lo 0 fun l=>so s hi xs.length fun h=>(0≤l∧l≤h∧h≤xs.length)∧K ⟨.one (.ints k ((xs.drop l.toNat).take (h-l).toNat)),none,[]⟩
    |.one (.rows wd n f)=>wd=E.size∧so s lo 0 fun l=>so s hi n fun h=>(0≤l∧l≤h∧h≤n)∧K ⟨.one (.rows wd (h-l).toNat (fun i j=>f (l.toNat+i) j)),none,[]⟩
    |.one .nil=>so s lo 0 fun l=>so s hi 0 fun h=>(l=0∧h=0)∧K ⟨.one .nil,none,[]⟩
    |_=>False
   |none=>False
  |.str=>match s.ev x with
   |.one (.str b)=>so s lo 0 fun l=>so s hi b.size fun h=>(0≤l∧l≤h∧h≤b.size)∧K ⟨.one (.str (b.extract l.toNat h.toNat)),none,[]⟩
   |_=>False
  |_=>False
 |none=>False
def jF (T:fB)(s:St)(t:TypeId)(x:Operand)(f:Nat)(K:eJ→Prop):Prop:=
 match T t with
 |some E=>match E.k with
  |.st fs=>match fs[f]? with
   |some (fo,fsz)=>0<fsz∧match s.ev x with
    |.one (.ptr b off)=>K ⟨.one (.ptr b (off+fo)),none,[]⟩
    |.one (.elt c wd i off)=>K ⟨.one (.elt c wd i (off+fo)),none,[]⟩
    |.one (.eptr b wd i off)=>K ⟨.one (.eptr b wd i (off+fo)),none,[]⟩
    |_=>False
   |none=>False
  |_=>False
 |none=>False
def jo (T:fB)(s:St)(t:TypeId)(x i:Operand)(K:eJ→Prop):Prop:=
 match T t with
 |some S=>match S.k with
  |.sl e=>match T e with
   |some E=>match s.ev i with
    |.one (.int _ i)=>match s.ev x with
     |.one (.own b wd off len)=>wd=E.size∧0<E.size∧(0≤i∧i<len)∧K ⟨.one (.eptr b wd (off+i.toNat) 0),none,[]⟩
     |.one (.win b _ off len)=>1=E.size∧(0≤i∧i<len)∧K ⟨.one (.eptr b 1 (off+i.toNat) 0),none,[]⟩
     |.one (.ints k xs)=>1=E.size∧(0≤i∧i<xs.length)∧K ⟨.one (.elt (.ints k xs) 1 i.toNat 0),none,[]⟩
     |.one (.rows wd n f)=>wd=E.size∧0<E.size∧(0≤i∧i<n)∧K ⟨.one (.elt (.rows wd n f) wd i.toNat 0),none,[]⟩
     |_=>False
    |_=>False
   |none=>False
  |.arr n e=>match T e with
   |some E=>match s.ev i with
    |.one (.int _ i)=>match s.ev x with
     |.one (.ptr b off)=>(0≤i∧i<n)∧K ⟨.one (.ptr b (off+i.toNat*E.size)),none,[]⟩
     |_=>False
    |_=>False
   |none=>False
  |_=>False
 |none=>False
def vo (a b:ByteArray):Bool:=a.toList==b.toList
def H2 (b:ByteArray)(i:Nat):Int:=((b[i]?.getD 0).toNat:Int)
def me (T:fB)(s:St)(src dst:TypeId)(x:Operand)(K:eJ→Prop):Prop:=
 match T src,T dst with
 |some S,some D=>match D.k with
  |.int k=>match s.ev x with
   |.one (.int _ n)=>K ⟨.one (.int k (k.wrap n)),none,[]⟩
   |_=>False
  |.str=>match S.k with
   |.sl e=>match T e with
    |some E=>match E.k with
     |.int k=>k= .u8∧match s.ev x with
      |.one (.ints k' xs)=>k'= .u8∧K ⟨.one (.str (strOfNums xs)),none,[]⟩
      |_=>False
     |_=>False
    |none=>False
   |_=>False
  |_=>False
 |_,_=>False
def ui (T:fB)(s:St)(t:TypeId)(x i:Operand)(K:eJ→Prop):Prop:=
 match T t with
 |some E=>match E.k with
  |.str=>match s.ev i with
   |.one (.int _ i)=>match s.ev x with
    |.one (.str b)=>(0≤i∧i<b.size)∧K ⟨.one (.int .u8 (H2 b i.toNat)),none,[]⟩
    |_=>False
   |_=>False
  |_=>False
 |none=>False
def MM (op:BinOp)(a b:ByteArray)(K:C→Prop):Prop:=
 match op with
 |.add=>((a.size+b.size:Nat):Int)≤9223372036854775807∧K (.str (a++b))
 |.eql=>K (.bool (vo a b))
 |.neq=>K (.bool (!vo a b))
 |_=>False
def IU (T:fB)(s:St)(op:BinOp)(t:TypeId)(x y:Operand)(K:eJ→Prop):Prop:=
 match s.ev x,s.ev y with
 |.one (.int k a),.one (.int k' b)=>Eb op k a k' b fun c=>K ⟨.one c,none,[]⟩
 |.one (.bool a),.one (.bool b)=>match T t with
  |some E=>match E.k with
   |.bool=>match op with
    |.eql=>K ⟨.one (.bool (a==b)),none,[]⟩
    |.neq=>K ⟨.one (.bool (a !=b)),none,[]⟩
    |_=>False
   |_=>False
  |none=>False
 |.one (.str a),.one (.str b)=>MM op a b fun c=>K ⟨.one c,none,[]⟩
 |_,_=>False
def Pa (s:St)(op:UnOp)(x:Operand)(K:eJ→Prop):Prop:=
 match op,s.ev x with
 |.not,.one (.bool b)=>K ⟨.one (.bool (!b)),none,[]⟩
 |.neg,.one (.int k n)=>K ⟨.one (.int k (k.wrap (0-n))),none,[]⟩
 |_,_=>False
def iR:C→Option Nat
 |.own _ _ _ len=>some len
 |.win _ _ _ len=>some len
 |.ints _ xs=>some xs.length
 |.rows _ n _=>some n
 |.nil=>some 0
 |_=>none
def MK:V→V→Option V
 |.one (.int k x),.one (.int _ y)=>some (.one (.int k (if x<y then y else x)))
 |_,_=>none
def mM (T:fB)(s:St)(b:Builtin)(args:List Operand)(tys:List TypeId)(K:eJ→Prop):Prop:=
 match b,args,tys with
 |.len,[x],[t]=>match T t with
  |some E=>match E.k with
   |.sl _=>match s.ev x with
    |.one c=>match iR c with
     |some n=>K ⟨.one (.int .i64 n),none,[]⟩
     |none=>False
    |_=>False
   |.str=>match s.ev x with
    |.one (.str b)=>K ⟨.one (.int .i64 b.size),none,[]⟩
    |_=>False
   |_=>False
  |none=>False
 |.max,[x,y],_=>match MK (s.ev x) (s.ev y)with
  |some v=>K ⟨v,none,[]⟩
  |none=>False
 |_,_,_=>False
def sM (T:fB)(s:St)(t:TypeId)(x:Operand)(f:Nat)(K:eJ→Prop):Prop:=
 match T t with
 |some E=>match E.k with
  |.st fs=>match fs[f]? with
   |some (fo,fsz)=>match s.ev x with
    |.agg cs=>E.fl[f]? =some true∧fsz=1∧fo<cs.length∧K ⟨.one (cs.getD fo .any),none,[]⟩
    |_=>False
   |none=>False
  |_=>False
 |none=>False
def rH:V→Bool
 |.one c=>match c with
  |.fn _ _ _=>false
  |_=>true
 |_=>false
def DD:V→C
 |.one c=>c
 |_=>.any
def mP (n:Nat)(caps:Nat→C):List V:=(List.range n).map fun i=>.one (caps i)
def NM (own:List (Nat×fA))(nx0:Nat):C→C
 |.fn _ _ _=>.any
 |c=>jZ own nx0 c
def DK (own:List (Nat×fA))(nx0:Nat):V→V
 |.one (.fn f n caps)=>.one (if n=0 then .fn f 0 (fun _=>.any)else .fn f n (fun i=>NM own nx0 (caps i)))
 |x=>BQ own nx0 x
def pe:V→List Nat
 |.one (.fn _ n caps)=>if n=0 then[]else if n=1 then gz (caps 0)else(List.range n).flatMap fun i=>gz (caps i)
 |x=>kv x
def wu (P:Program)(s:St)(nx0 id:Nat)(g:Operand)(args:List Operand)(K:eJ→Prop):Prop:=
 match s.ev g with
 |.one (.fn f n caps)=>((∃r,Pr P f ((args.map s.ev++mP n caps).map (DK s.own nx0)) r∧
   eG K ⟨r,none,if nv r then[]else((args.map s.ev++mP n caps).map pe).flatten.filter (fun b=>decide (b<nx0))⟩)∨
   (∃B,Fr P f ((args.map s.ev++mP n caps).map (DK s.own nx0)) B∧eG K ⟨.one (.own id B.wd 0 B.len),some B,((args.map s.ev++mP n caps).map pe).flatten.filter (fun b=>decide (b<nx0))⟩)∨
   (∃B c,dG P f ((args.map s.ev++mP n caps).map (DK s.own nx0)) B c∧eG K ⟨.aF [.one (.own id B.wd 0 B.len),.one c],some B,((args.map s.ev++mP n caps).map pe).flatten.filter (fun b=>decide (b<nx0))⟩))
 |_=>False
def eI (T:fB)(P:Program)(op:Op)(s:St)(nx0 id:Nat)(fz:Bool)(K:eJ→Prop):Prop:=
 match op with
 |.move x=>K ⟨s.ev x,none,[]⟩
 |.assign x=>K ⟨s.ev x,none,[]⟩
 |.pick c a b=>match s.ev c with
  |.one (.bool t)=>K ⟨if t then s.ev a else s.ev b,none,[]⟩
  |_=>False
 |.alloc e=>match T e with
  |some E=>K ⟨.one (.ptr id 0),some (.var E.zero),[]⟩
  |none=>False
 |.box _ x=>(s.ev x).ob=true∧K ⟨.one (.ptr id 0),some (.var (cellsOf (s.ev x))),[]⟩
 |.build t parts=>match T t with
  |some E=>match E.k with
   |.st fs=>match jE fs E.zero (parts.toList.map fun p=>(p.1,s.ev p.2))with
    |some cs=>K ⟨.agg cs,none,[]⟩
    |none=>False
   |_=>False
  |none=>False
 |.buildSlice t len parts=>iB T s nx0 id fz t len parts K
 |.field t x f=>sM T s t x f K
 |.load t x=>zX T s nx0 t x K
 |.binOp op t x y _=>IU T s op t x y K
 |.unOp op _ x=>Pa s op x K
 |.convert src dst x=>me T s src dst x K
 |.makeSlice t l c=>jA T s id fz t l c K
 |.slice t x lo hi mx=>uj T s t x lo hi mx K
 |.fieldAddr t x f=>jF T s t x f K
 |.indexAddr t x i=>jo T s t x i K
 |.index t x i=>ui T s t x i K
 |.extract x i=>match s.ev x with
  |.aF vs=>match vs[i]? with
   |some v=>K ⟨v,none,[]⟩
   |none=>False
  |_=>False
 |.nilCheck x=>match s.ev x with
  |.one (.ptr b off)=>K ⟨.one (.ptr b off),none,[]⟩
  |.one (.elt c wd i off)=>K ⟨.one (.elt c wd i off),none,[]⟩
  |.one (.eptr b wd i off)=>K ⟨.one (.eptr b wd i off),none,[]⟩
  |_=>False
 |.makeFunc fn first captured=>match fn,first.size with
  |.func f,0=>(captured.toList.all fun x=>rH (s.ev x))=true∧K ⟨.one (.fn f captured.size (fun i=>DD ((captured.toList.map s.ev).getD i .unk))),none,[]⟩
  |_,_=>False
 |.call c=>match c.callee with
  |.builtin b=>mM T s b c.args.toList c.argTypes.toList K
  |.value g=>wu P s nx0 id g c.args.toList K
  |.invoke _ _=>False
 |_=>False
end Go.Eng
namespace Go.Eng
open Go
theorem dT {P:Program}{x:Sem Value}{w w':World}{v:Value}(h:x.run P w= .ok v w'):(do pure (Next.value (←x)):Sem Next).run P w= .ok (.value v) w':=by
 rw[Sem.run_bind,h];rfl
theorem aY {s Z:St}{nx0:Nat}{o:Oper}(ha:gp s Z nx0 o){x:Operand}(hx:x∈o.op.operands){X:V}(h:s.ev x=X):Z.ev x=X:=(ha.ev x hx).trans h
section
variable {P:Program}{T:fB}(hT:eH P T){o:Oper}{s:St}{nx0 id:Nat}{K:eJ→Prop}
include hT
theorem bD {t:TypeId}{E:Ty}(h:T t=some E):∃i d z,P.info? t=some i∧P.underlying t=some d∧i.zero=some z∧E.k=cK P d∧E.size=i.size∧E.bytes=i.bytes∧E.zero=z.cells.toList.map CP∧z.cells.toList.all Value.oneCell'=true:=
 QH.parts ⟨hT t E h⟩
theorem Qa {t:TypeId}{E:Ty}(h:T t=some E):∃d,P.underlying t=some d∧E.k=cK P d∧E.fl=Og P d:=by
 have h:=hT t E h;unfold dQ at h
 cases hi:P.info? t with
 |none=>rw[hi]at h;simp at h
 |some i=>
  cases hu:P.underlying t with
  |none=>rw[hi,hu]at h;simp at h
  |some d=>
   cases hz:i.zero with
   |none=>rw[hi,hu]at h;simp[hz]at h
   |some z=>
    rw[hi,hu]at h;simp only[hz]at h
    split at h
    ·simp only[Option.some.injEq]at h;subst h;exact⟨d,rfl,rfl,rfl⟩
    cases h
theorem fk {t e:TypeId}{S:Ty}(h:T t=some S)(hk:S.k= .sl e):P.underlying t=some (.slice e):=by
 obtain⟨i,d,z,_,hu,_,TN,_⟩:=bD hT h;rw[hk]at TN;rw[hu]
 cases d<;>simp only[cK]at TN
 case slice=>cases TN;rfl
 case struct fs=>split at TN<;>cases TN
 all_goals cases TN
theorem OT {t e:TypeId}{n:Nat}{S:Ty}(h:T t=some S)(hk:S.k= .arr n e):P.underlying t=some (.array n e):=by
 obtain⟨i,d,z,_,hu,_,TN,_⟩:=bD hT h;rw[hk]at TN;rw[hu]
 cases d<;>simp only[cK]at TN
 case array=>cases TN;rfl
 case struct fs=>split at TN<;>cases TN
 all_goals cases TN
theorem PN {t:TypeId}{S:Ty}(h:T t=some S)(hk:S.k= .str):P.underlying t=some .string:=by
 obtain⟨i,d,z,_,hu,_,TN,_⟩:=bD hT h;rw[hk]at TN;rw[hu]
 cases d<;>simp only[cK]at TN
 case string=>rfl
 case struct fs=>split at TN<;>cases TN
 all_goals cases TN
theorem O9 {t:TypeId}{x:Operand}(ho:o.op= .load t x)(hd:bU o s.n)(h:zX T s nx0 t x K):∃e,K e∧a7 P o s nx0 id e:=by
 have Sb:x∈o.op.operands:=by rw[ho];simp[Op.operands]
 have RB:∀(a:Act) (w:World) (g off:Nat) (v:Value),a.eval x= .pointer (some ⟨g,off,none⟩)→(loadVar t ⟨g,off,none⟩).run P w= .ok v w→(execOp a.eval o).run P w= .ok (.value v) w:=by
  intro a w g off v he hl;unfold execOp;rw[ho];refine dT ?_;simp only[Instr.loadAt,he,Instr.sureAddr,Sem.run_bind,Sem.run_pure,Result.andThen_ok];exact hl
 unfold zX at h
 cases RL:T t with
 |none=>rw[RL]at h;exact h.elim
 |some E=>
  rw[RL]at h;simp only at h;obtain⟨i,d,z,hi,hu,_,hk,Sx,_⟩:=bD hT RL;have Xb:HN E→(cK P d).agg=some true∨((cK P d).agg=some false∧i.size=1):=fun hh=>by rw[←hk,←Sx];exact hh
  split at h
  ·-- a variable's block
   rename_i b off hx
   obtain⟨hb,h⟩:=h
   cases RS:lo s.own b with
   |none=>rw[RS]at h;exact h.elim
   |some B=>
    rw[RS]at h;simp only at h
    split at h
    ·rename_i cs Yo
     obtain⟨hle,WH,hK⟩:=h;refine⟨_,hK,a7.pure hd fun G dom ρ Z a w hs ha=>?_⟩;obtain⟨rw_,hz⟩:=ha.vJ hb RS;obtain⟨_,_,Rx,_⟩:=hs.own b _ hz;have RA:=hs.ev x;rw[aY ha Sb hx]at RA;obtain⟨_,g,o',Rt,RI⟩:=RA;unfold aL at Rx;rw[Rt]at Rx;obtain⟨cur,e,hg,hc⟩:=Rx;simp only[Yo]at hc;obtain⟨v,hv,hr⟩:=jS (P:=P) (t:=t) hi hu g (o'+off) ((cs.drop off).take E.size) (by rw[←Sx];simp;omega) (Xb WH) (fun j c hj=>by
      rw[List.getElem?_take]at hj
      split at hj
      ·rw[List.getElem?_drop]at hj;obtain⟨u,RP,hr⟩:=hc (off+j) c hj;exact⟨u,by rw[cell_of_row w g _ cur e (0,0) hg,Nat.add_assoc];exact RP,hr⟩
      simp at hj)
     exact⟨v,RB a w _ _ v RI hv,by rw[hk];exact hr⟩
    exact h.elim
  ·-- an element of what only is looked at
   rename_i c wd ix off hx
   obtain⟨hw,hle,WH,hK⟩:=h;refine⟨_,hK,a7.pure hd fun G dom ρ Z a w hs ha=>?_⟩;have RA:=hs.ev x;rw[aY ha Sb hx]at RA;obtain⟨g,o',n,cap,Tt,Tf,RI⟩:=RA;have RV:∀j,j<wd→∃u,w.cell? ⟨g,o'+(ix*wd+j),none⟩=some u∧aO (aE G Z.own ρ w) w (lB c ix j) u:=by
    intro j hj
    cases c with
    |ints k xs=>
     obtain⟨a',cap',he,_,hr⟩:=Tt;simp only[Value.slice.injEq]at he;obtain⟨rfl,rfl,rfl⟩:=he;simp only[FN]at hw;subst hw
     rcases hr with hr|⟨g',o'',he,_,R2⟩
     ·omega
     simp only[Option.some.injEq,Addr.mk.injEq,and_true]at he;obtain⟨rfl,rfl⟩:=he;refine⟨_,?_,rfl⟩
     have:=R2 ix Tf
     rw[show ix*1+j=ix by omega];exact this
    |rows wd' n' f=>
     obtain⟨a',cap',he,_,hr⟩:=Tt;simp only[Value.slice.injEq]at he;obtain⟨rfl,rfl,rfl⟩:=he;simp only[FN]at hw;subst hw
     rcases hr with hr|⟨g',o'',he,_,R2⟩
     ·omega
     simp only[Option.some.injEq,Addr.mk.injEq,and_true]at he;obtain⟨rfl,rfl⟩:=he;exact R2 ix j Tf hj
    |_=>simp only[FN]at hw;omega
   have UT:∀(n Sh j:Nat) c',(bx (lB c ix) Sh n)[j]? =some c'→j<n∧c'=lB c ix (Sh+j):=by
    intro n
    induction n with
    |zero=>intro Sh j c' hj;simp[bx]at hj
    |succ n ih=>
     intro Sh j c' hj
     cases j with
     |zero=>simp[bx]at hj;exact⟨by omega,hj.symm⟩
     |succ j=>
      obtain⟨h1,h2⟩:=ih (Sh+1) j c' (by simpa[bx]using hj);exact⟨by omega,by rw[h2,show Sh+1+j=Sh+(j+1) by omega]⟩
   have hlen:∀n Sh,(bx (lB c ix) Sh n).length=n:=by
    intro n
    induction n with
    |zero=>intro _;rfl
    |succ n ih=>intro Sh;simp[bx,ih]
   obtain⟨v,hv,hr⟩:=jS (P:=P) (ρ:=ρ) (dom:=dom) (ok:=aE G Z.own ρ w) (w:=w) (t:=t) hi hu g (o'+(ix*wd+off)) (bx (lB c ix) off E.size) (by rw[hlen,Sx]) (Xb WH) (fun j c' hj=>by
    obtain⟨h1,rfl⟩:=UT _ _ _ _ hj;obtain⟨u,RP,hr⟩:=RV (off+j) (by omega);exact⟨u,by rw[show o'+(ix*wd+off)+j=o'+(ix*wd+(off+j)) by omega];exact RP,aA.bh hr⟩)
   exact⟨v,RB a w _ _ v RI hv,by rw[hk];exact hr⟩
  ·-- an element of a slice of the frame's own
   rename_i b wd ix off hx
   obtain⟨hb,h⟩:=h
   cases RS:lo s.own b with
   |none=>rw[RS]at h;exact h.elim
   |some B=>
    rw[RS]at h;simp only at h;obtain⟨hw,hle,WH,hK⟩:=h;refine⟨_,hK,a7.pure hd fun G dom ρ Z a w hs ha=>?_⟩;obtain⟨rw_,hz⟩:=ha.vJ hb RS;obtain⟨_,hlenρ,Rx,_⟩:=hs.own b _ hz;have RA:=hs.ev x;rw[aY ha Sb hx]at RA;obtain⟨_,Tf,g,o',Rt,RI⟩:=RA;unfold aL at Rx;rw[Rt]at Rx;obtain⟨cur,e,hg,hc⟩:=Rx;rw[hlenρ]at Tf;simp only at hc Tf;have RV:∀j,j<wd→∃u,w.cell? ⟨g,o'+(ix*wd+j),none⟩=some u∧aA ρ dom (aE G Z.own ρ w) w (n7 B.bk ix j) u:=by
     intro j hj;rw[cell_of_row w g _ cur e (0,0) hg]
     cases hB:B.bk with
     |var cs=>rw[hB]at hw;simp only[Jb]at hw;omega
     |ints e' k xs=>
      rw[hB]at hc hw Tf;simp only[Jb]at hw;subst hw;simp only[Bk.len]at Tf;obtain⟨u,RP,hr⟩:=hc ix (.int k (xs.getD ix 0)) (by simp[Bk.cell,X8 Tf]);exact⟨u,by rw[show ix*1+j=ix by omega];exact RP,aA.bh hr⟩
     |wins e' b2 n' g'=>
      rw[hB]at hc hw Tf;simp only[Jb]at hw;subst hw;simp only[Bk.len]at Tf;obtain⟨u,RP,hr⟩:=hc ix (g' ix) (by simp only[Bk.cell,if_pos Tf]);exact⟨u,by rw[show ix*1+j=ix by omega];exact RP,hr⟩
     |rows e' wd' n' f=>
      rw[hB]at hc hw Tf;simp only[Jb]at hw;subst hw;simp only[Bk.len]at Tf;have Ru:ix*wd'+j<n'*wd':=by
       have:(ix+1)*wd'≤n'*wd':=Nat.mul_le_mul_right _ Tf
       rw[Nat.add_mul]at this;omega
      obtain⟨u,RP,hr⟩:=hc (ix*wd'+j) (f ix j) (by
       simp only[Bk.cell,if_pos Ru];rw[Nat.mul_comm ix wd',Nat.mul_add_div (by omega),Nat.div_eq_of_lt hj,Nat.mul_add_mod,Nat.mod_eq_of_lt hj];simp)
      exact⟨u,RP,aA.bh hr⟩
    have UT:∀(n Sh j:Nat) c',(bx (n7 B.bk ix) Sh n)[j]? =some c'→j<n∧c'=n7 B.bk ix (Sh+j):=by
     intro n
     induction n with
     |zero=>intro Sh j c' hj;simp[bx]at hj
     |succ n ih=>
      intro Sh j c' hj
      cases j with
      |zero=>simp[bx]at hj;exact⟨by omega,hj.symm⟩
      |succ j=>
       obtain⟨h1,h2⟩:=ih (Sh+1) j c' (by simpa[bx]using hj);exact⟨by omega,by rw[h2,show Sh+1+j=Sh+(j+1) by omega]⟩
    have hlen:∀n Sh,(bx (n7 B.bk ix) Sh n).length=n:=by
     intro n
     induction n with
     |zero=>intro _;rfl
     |succ n ih=>intro Sh;simp[bx,ih]
    obtain⟨v,hv,hr⟩:=jS (P:=P) (ρ:=ρ) (dom:=dom) (ok:=aE G Z.own ρ w) (w:=w) (t:=t) hi hu g (o'+(ix*wd+off)) (bx (n7 B.bk ix) off E.size) (by rw[hlen,Sx]) (Xb WH) (fun j c' hj=>by
     obtain⟨h1,rfl⟩:=UT _ _ _ _ hj;obtain⟨u,RP,hr⟩:=RV (off+j) (by omega);exact⟨u,by rw[show o'+(ix*wd+off)+j=o'+(ix*wd+(off+j)) by omega];exact RP,hr⟩)
    exact⟨v,RB a w _ _ v RI hv,by rw[hk];exact hr⟩
  exact h.elim
end
end Go.Eng
namespace Go.Eng
open Go
theorem a7.newVar {P:Program}{o:Oper}{s:St}{nx0 id:Nat}{e:TypeId}{cs:List C}(Ru:iV o.op=false)(hd:bU o s.n)
  (h:∀G dom ρ Z a w,aR G dom ρ Z a w→gp s Z nx0 o→∃cells:Array Value,(execOp a.eval o).run P w= .ok (.value (.pointer (some ⟨w.heap.size,0,none⟩))) (w.alloc (.cells cells e))∧bI ρ dom (aE G Z.own ρ w) w cs cells.toList):
  a7 P o s nx0 id ⟨.one (.ptr id 0),some (.var cs),[]⟩:=by
 refine⟨?_,fun h=>by rw[Ru]at h;cases h⟩;intro G dom ρ Z a w hs hid ha Q next hk;obtain⟨cells,hr,hl⟩:=h G dom ρ Z a w hs ha;have h1:=hs.xV hid (.var cs) cells e (fun j c hj=>by
  obtain⟨u,hu,hr⟩:=bI.get hl j c (by simpa[Bk.cell]using hj);exact⟨u,by simpa using hu,hr⟩)
 have h2:=h1.put (dst:=o.dst) (x:=.one (.ptr id 0)) (v:=.pointer (some ⟨w.heap.size,0,none⟩)) (fun d hh=>by have:=hd d hh;rw[←ha.n]at this;exact this)
  (by exact⟨.inr rfl,w.heap.size,0,by rw[lZ],rfl⟩)
 have e2:Z.add o.dst id ⟨.one (.ptr id 0),some (.var cs),[]⟩=St.put {Z with own:=dZ Z.own id ⟨.var cs,true⟩} o.dst (.one (.ptr id 0)):=by
  cases o.dst<;>rfl
 rw[←e2]at h2;exact Oper.cS hr (hk _ _ ⟨_,h2⟩)
theorem Gv (l:List (Nat×fA)):dF l []=l:=by
 induction l with
 |nil=>rfl
 |cons x l ih=>obtain⟨b,B⟩:=x;simp[dF,ih]
theorem Ah (l:List (Nat×fA))(ids:List Nat):uP l ids=dF l ids:=by
 cases ids with
 |nil=>exact(Gv l).symm
 |cons x ids=>rfl
theorem a7.newRow {P:Program}{o:Oper}{s:St}{nx0 id:Nat}{e:TypeId}{B:Bk}{wd len:Nat}(ids:List Nat)(Ru:iV o.op=false)(hd:bU o s.n)(hB:∀cs,B≠ .var cs)(hlen:len≤B.len)
  (h:∀G dom ρ Z a w,aR G dom ρ Z a w→gp s Z nx0 o→∃(cells:Array Value) (cap:Nat),(execOp a.eval o).run P w= .ok (.value (.slice (some ⟨w.heap.size,0,none⟩) len cap)) (w.alloc (.cells cells e))∧len≤cap∧cap*wd≤cells.size∧
   ∀j c,B.cell j=some c→∃u,cells[j]? =some u∧aO (aE G (dF Z.own ids) ρ w) w c u):
  a7 P o s nx0 id ⟨.one (.own id wd 0 len),some B,ids⟩:=by
 refine⟨?_,fun h=>by rw[Ru]at h;cases h⟩;intro G dom ρ Z a w hs hid ha Q next hk;obtain⟨cells,cap,hr,RY,Sx,hl⟩:=h G dom ρ Z a w hs ha;have h1:=(hs.dF ids).xV hid B cells e (fun j c hj=>by
  obtain⟨u,hu,hr⟩:=hl j c hj;refine⟨u,hu,?_⟩
  cases B with
  |var cs=>exact absurd rfl (hB cs)
  |ints e k xs=>exact hr
  |rows e w n f=>exact hr
  |wins e b2 n g=>exact aA.bh hr)
 have h2:=h1.put (dst:=o.dst) (x:=.one (.own id wd 0 len)) (v:=.slice (some ⟨w.heap.size,0,none⟩) len cap) (fun d hh=>by have:=hd d hh;rw[←ha.n]at this;exact this)
  (by
   refine⟨.inr rfl,by rw[lZ];simpa using hlen,cap,RY,.inl ⟨w.heap.size,0,0,by rw[lZ],rfl,.inr (by simp),?_⟩⟩
   have:cd (w.alloc (.cells cells e)) w.heap.size=cells.size:=by
    unfold cd;rw[show (w.alloc (.cells cells e)).heap[w.heap.size]? =some (.cells cells e)from heap_alloc_new w _]
   rw[this];simpa using Sx)
 have e2:Z.add o.dst id ⟨.one (.own id wd 0 len),some B,ids⟩=St.put {Z with own:=dZ (dF Z.own ids) id ⟨B,true⟩} o.dst (.one (.own id wd 0 len)):=by
  unfold St.add;simp only[Ah]
  cases o.dst<;>rfl
 rw[←e2]at h2;exact Oper.cS hr (hk _ _ ⟨_,h2⟩)
theorem a7.Ol {P:Program}{o:Oper}{s:St}{nx0 id:Nat}{e:TypeId}{b w0 o0 l0:Nat}(Ru:iV o.op=false)(hd:bU o s.n)
  (h:∀G dom ρ Z a w,aR G dom ρ Z a w→gp s Z nx0 o→∃(cells:Array Value),(execOp a.eval o).run P w= .ok (.value (.slice (some ⟨w.heap.size,0,none⟩) 1 1)) (w.alloc (.cells cells e))∧cells.size=1∧
   ∃u,cells[0]? =some u∧aA ρ dom (aE G Z.own ρ w) w (.own b w0 o0 l0) u):
  a7 P o s nx0 id ⟨.one (.win id b 0 1),some (.wins e b 1 (fun _=>.own b w0 o0 l0)),[]⟩:=by
 refine⟨?_,fun h=>by rw[Ru]at h;cases h⟩;intro G dom ρ Z a w hs hid ha Q next hk;obtain⟨cells,hr,Sx,u,hu,hl⟩:=h G dom ρ Z a w hs ha;have WI:dom b:=hl.1;have h1:=hs.xV hid (.wins e b 1 (fun _=>.own b w0 o0 l0)) cells e (fun j c hj=>by
  simp only[Bk.cell]at hj
  split at hj
  ·rename_i hj1
   obtain rfl:j=0:=by omega
   obtain rfl:=Option.some.inj hj;exact⟨u,hu,hl⟩
  cases hj)
 have h2:=h1.put (dst:=o.dst) (x:=.one (.win id b 0 1)) (v:=.slice (some ⟨w.heap.size,0,none⟩) 1 1) (fun d hh=>by have:=hd d hh;rw[←ha.n]at this;exact this)
  (by
   refine⟨.inl WI,.inr rfl,by rw[lZ];exact Nat.le_refl _,1,Nat.le_refl _,.inl ⟨w.heap.size,0,0,by rw[lZ],rfl,.inr (by simp),?_⟩⟩
   have:cd (w.alloc (.cells cells e)) w.heap.size=cells.size:=by
    unfold cd;rw[show (w.alloc (.cells cells e)).heap[w.heap.size]? =some (.cells cells e)from heap_alloc_new w _]
   rw[this,Sx];exact Nat.le_refl _)
 have e2:Z.add o.dst id ⟨.one (.win id b 0 1),some (.wins e b 1 (fun _=>.own b w0 o0 l0)),[]⟩=St.put {Z with own:=dZ Z.own id ⟨.wins e b 1 (fun _=>.own b w0 o0 l0),true⟩} o.dst (.one (.win id b 0 1)):=by
  unfold St.add
  cases o.dst<;>rfl
 rw[←e2]at h2;exact Oper.cS hr (hk _ _ ⟨_,h2⟩)
theorem a7.FP {P:Program}{o:Oper}{s:St}{nx0 id:Nat}{e:TypeId}{c:C}(ids:List Nat)(Ru:iV o.op=false)(hd:bU o s.n)
  (h:∀G dom ρ Z a w,aR G dom ρ Z a w→gp s Z nx0 o→∃(cells:Array Value) (v:Value),(execOp a.eval o).run P w= .ok (.value v) (w.alloc (.cells cells e))∧
   aO (aE G (dF Z.own ids) ρ (w.alloc (.cells cells e))) (w.alloc (.cells cells e)) c v):
  a7 P o s nx0 id ⟨.one c,none,ids⟩:=by
 refine⟨?_,fun h=>by rw[Ru]at h;cases h⟩;intro G dom ρ Z a w hs hid ha Q next hk;obtain⟨cells,v,hr,hl⟩:=h G dom ρ Z a w hs ha;refine Oper.cS hr (hk _ _ ⟨ρ,?_⟩);have e2:Z.add o.dst id ⟨.one c,none,ids⟩=St.put {Z with own:=dF Z.own ids} o.dst (.one c):=by
  unfold St.add;simp only[Ah]
  cases o.dst<;>rfl
 rw[e2];have h1:=(hs.dF ids).grown (ie w (.cells cells e));exact(h1.put (dst:=o.dst) (x:=.one c) (v:=v) (fun d hh=>by have:=hd d hh;rw[←ha.n]at this;exact this) (aA.bh hl)).cR (fun b hb=>Or.inl hb)
theorem run_equalIn_bool {P:Program}(w:World)(d:Nat){t:TypeId}(hu:P.underlying t=some .bool)(a b:Bool):(Op.equalIn (d+1) t (.bool a) (.bool b)).run P w= .ok (a==b) w:=by
 simp only[Op.equalIn,Sem.run_bind,au hu,Result.andThen_ok,Sem.run_pure]
section
variable {P:Program}{T:fB}(hT:eH P T){o:Oper}{s:St}{nx0 id:Nat}{K:eJ→Prop}
theorem MG {x:Operand}(ho:o.op= .move x∨o.op= .assign x)(hd:bU o s.n)(h:K ⟨s.ev x,none,[]⟩):∃e,K e∧a7 P o s nx0 id e:=by
 have Sb:x∈o.op.operands:=by rcases ho with ho|ho<;>rw [ho]<;>simp [Op.operands]
 refine⟨_,h,a7.pure hd fun G dom ρ Z a w hs ha=>⟨a.eval x,?_,?_⟩⟩
 ·unfold execOp
  rcases ho with ho|ho<;>rw [ho]<;>rfl
 have:=hs.ev x
 rw[ha.ev x Sb]at this;exact this
theorem Pw {c x y:Operand}(ho:o.op= .pick c x y)(hd:bU o s.n){t:Bool}(hc:s.ev c= .one (.bool t))(h:K ⟨if t then s.ev x else s.ev y,none,[]⟩):∃e,K e∧a7 P o s nx0 id e:=by
 have hm:∀z,z=c∨z=x∨z=y→z∈o.op.operands:=by rw[ho];simp[Op.operands]
 refine⟨_,h,a7.pure hd fun G dom ρ Z a w hs ha=>⟨if t then a.eval x else a.eval y,?_,?_⟩⟩
 ·have RA:=hs.ev c;rw[aY ha (hm c (.inl rfl)) hc]at RA;have RA:a.eval c= .bool t:=RA;unfold execOp;rw[ho];simp only[RA,asBool,Sem.run_bind,Sem.run_pure,Result.andThen_ok]
 cases t
 ·have:=hs.ev y
  rw[ha.ev y (hm y (.inr (.inr rfl)))]at this;exact this
 have:=hs.ev x
 rw[ha.ev x (hm x (.inr (.inl rfl)))]at this;exact this
include hT in
theorem Qh {op:BinOp}{t:TypeId}{x y:Operand}{t':TypeId}(ho:o.op= .binOp op t x y t')(hd:bU o s.n)(h:IU T s op t x y K):∃e,K e∧a7 P o s nx0 id e:=by
 have Sb:x∈o.op.operands:=by rw[ho];simp[Op.operands]
 have XO:y∈o.op.operands:=by rw[ho];simp[Op.operands]
 unfold IU at h
 split at h
 ·rename_i k a0 k' b0 hx hy
  obtain⟨c,_,hK,_⟩:=zV (P:=P) (w:=default) t x y h
  -- the same at every world
  have Rz:∃c,K ⟨.one c,none,[]⟩∧∀w,∃v,(do eqGuard op t x y (.int k a0) (.int k' b0);Go.binOp op t (.int k a0) (.int k' b0):Sem Value).run P w= .ok v w∧∀ρ dom ok,aA ρ dom ok w c v:=by
   have hc:∃c,Eb op k a0 k' b0 (fun c'=>c'=c)∧K ⟨.one c,none,[]⟩:=by
    cases op<;>simp only[Eb]at h⊢
    case quo=>exact⟨_,⟨h.1,h.2.1,rfl⟩,h.2.2⟩
    case rem=>exact⟨_,⟨h.1,h.2.1,rfl⟩,h.2.2⟩
    all_goals exact⟨_,⟨h.1,rfl⟩,h.2⟩
   obtain⟨c,h1,h2⟩:=hc;refine⟨c,h2,fun w=>?_⟩;obtain⟨c',v,rfl,hr,hv⟩:=zV (P:=P) (w:=w) t x y h1;exact⟨v,hr,hv⟩
  obtain⟨c,hK,Rz⟩:=Rz;refine⟨_,hK,a7.pure hd fun G dom ρ Z a w hs ha=>?_⟩;have R3:=hs.ev x;rw[aY ha Sb hx]at R3;have Ta:=hs.ev y;rw[aY ha XO hy]at Ta;have R3:a.eval x= .int k a0:=R3;have Ta:a.eval y= .int k' b0:=Ta;obtain⟨v,hr,hv⟩:=Rz w;refine⟨v,?_,hv _ _ _⟩;unfold execOp;rw[ho];exact dT (by rw[R3,Ta];exact hr)
 ·rename_i a0 b0 hx hy
  cases RL:T t with
  |none=>rw[RL]at h;exact h.elim
  |some E=>
   rw[RL]at h;simp only at h;obtain⟨i,d,z,hi,hu,_,hk,_⟩:=bD hT RL
   split at h
   ·rename_i UG
    rw[UG]at hk;have WI:d= .bool:=by
     cases d<;>simp only[cK]at hk
     case bool=>rfl
     case struct fs=>split at hk<;>cases hk
     all_goals cases hk
    subst WI;have heq:∀w:World,(Op.equal t (.bool a0) (.bool b0)).run P w= .ok (a0==b0) w:=fun w=>by
     exact run_equalIn_bool w 9999 hu a0 b0
    have hg:∀(w:World),(eqGuard op t x y (.bool a0) (.bool b0)).run P w= .ok () w:=fun w=>by
     unfold eqGuard
     cases op<;>rfl
    split at h
    ·refine⟨_,h,a7.pure hd fun G dom ρ Z a w hs ha=>?_⟩;have R3:=hs.ev x;rw[aY ha Sb hx]at R3;have Ta:=hs.ev y;rw[aY ha XO hy]at Ta;have R3:a.eval x= .bool a0:=R3;have Ta:a.eval y= .bool b0:=Ta;refine⟨.bool (a0==b0),?_,rfl⟩;unfold execOp;rw[ho];refine dT ?_;rw[R3,Ta,Sem.run_bind,hg,Result.andThen_ok];simp only[Go.binOp,Sem.run_bind,heq,Result.andThen_ok,Sem.run_pure]
    ·refine⟨_,h,a7.pure hd fun G dom ρ Z a w hs ha=>?_⟩;have R3:=hs.ev x;rw[aY ha Sb hx]at R3;have Ta:=hs.ev y;rw[aY ha XO hy]at Ta;have R3:a.eval x= .bool a0:=R3;have Ta:a.eval y= .bool b0:=Ta;refine⟨.bool (a0 !=b0),?_,rfl⟩;unfold execOp;rw[ho];refine dT ?_;rw[R3,Ta,Sem.run_bind,hg,Result.andThen_ok];simp only[Go.binOp,Sem.run_bind,heq,Result.andThen_ok,Sem.run_pure];rfl
    exact h.elim
   exact h.elim
 ·rename_i a0 b0 hx hy
  have key:∃c,K ⟨.one c,none,[]⟩∧∀w,∃v,(do eqGuard op t x y (.string a0) (.string b0);Go.binOp op t (.string a0) (.string b0):Sem Value).run P w= .ok v w∧∀ρ dom ok,aA ρ dom ok w c v:=by
   cases op<;>simp only[MM]at h<;>first|exact h.elim|skip
   case add=>
    refine⟨_,h.2,fun w=>⟨.string (a0++b0),?_,fun _ _ _=>rfl⟩⟩;have hn:¬(((a0.size+b0.size:Nat):Int)>IntKind.i64.max):=by
     have e:IntKind.i64.max=9223372036854775807:=by decide
     rw[e];omega
    have hg:(eqGuard .add t x y (.string a0) (.string b0)).run P w= .ok () w:=by unfold eqGuard;rfl
    rw[Sem.run_bind,hg,Result.andThen_ok];simp only[Go.binOp,Op.stringOp,hn,↓reduceIte,Sem.run_pure]
   case eql=>
    refine⟨_,h,fun w=>⟨.bool (vo a0 b0),?_,fun _ _ _=>rfl⟩⟩;have hg:(eqGuard .eql t x y (.string a0) (.string b0)).run P w= .ok () w:=by unfold eqGuard;rfl
    rw[Sem.run_bind,hg,Result.andThen_ok];simp only[Go.binOp,Op.stringOp,Sem.run_pure,vo]
   case neq=>
    refine⟨_,h,fun w=>⟨.bool (!vo a0 b0),?_,fun _ _ _=>rfl⟩⟩;have hg:(eqGuard .neq t x y (.string a0) (.string b0)).run P w= .ok () w:=by unfold eqGuard;rfl
    rw[Sem.run_bind,hg,Result.andThen_ok];simp only[Go.binOp,Op.stringOp,Sem.run_pure,vo]
  obtain⟨c,hK,Rz⟩:=key;refine⟨_,hK,a7.pure hd fun G dom ρ Z a w hs ha=>?_⟩;have R3:=hs.ev x;rw[aY ha Sb hx]at R3;have Ta:=hs.ev y;rw[aY ha XO hy]at Ta;have R3:a.eval x= .string a0:=R3;have Ta:a.eval y= .string b0:=Ta;obtain⟨v,hr,hv⟩:=Rz w;refine⟨v,?_,hv _ _ _⟩;unfold execOp;rw[ho];exact dT (by rw[R3,Ta];exact hr)
 exact h.elim
theorem Q3 {op:UnOp}{t:TypeId}{x:Operand}(ho:o.op= .unOp op t x)(hd:bU o s.n)(h:Pa s op x K):∃e,K e∧a7 P o s nx0 id e:=by
 have Sb:x∈o.op.operands:=by rw[ho];simp[Op.operands]
 unfold Pa at h
 split at h
 ·rename_i b hx
  refine⟨_,h,a7.pure hd fun G dom ρ Z a w hs ha=>⟨.bool (!b),?_,rfl⟩⟩;have R3:=hs.ev x;rw[aY ha Sb hx]at R3;have R3:a.eval x= .bool b:=R3;unfold execOp;rw[ho];exact dT (by rw[R3];rfl)
 ·rename_i k n hx
  refine⟨_,h,a7.pure hd fun G dom ρ Z a w hs ha=>⟨.int k (k.wrap (0-n)),?_,rfl⟩⟩;have R3:=hs.ev x;rw[aY ha Sb hx]at R3;have R3:a.eval x= .int k n:=R3;unfold execOp;rw[ho];exact dT (by rw[R3];rfl)
 exact h.elim
include hT in
theorem F3 {
         src dst:TypeId} {x:Operand} (ho:o.op= .convert src dst x) (hd:bU o s.n) (h:me T s src dst x K):∃e,K e∧a7 P o s nx0 id e:=by
 have Sb:x∈o.op.operands:=by rw[ho];simp[Op.operands]
 unfold me at h
 split at h
 ·rename_i S D hS hD
  obtain⟨_,d1,_,_,Wh,_⟩:=bD hT hS;obtain⟨_,d2,_,_,SD,_,SX,_⟩:=bD hT hD
  split at h
  ·rename_i k hk
   rw[hk]at SX
   have:d2= .int k:=by
    cases d2<;>simp only[cK]at SX
    case int=>cases SX;rfl
    case struct fs=>split at SX<;>cases SX
    all_goals cases SX
   subst this
   split at h
   ·rename_i k' n hx
    refine⟨_,h,a7.pure hd fun G dom ρ Z a w hs ha=>⟨.int k (k.wrap n),?_,rfl⟩⟩;have R3:=hs.ev x;rw[aY ha Sb hx]at R3;have R3:a.eval x= .int k' n:=R3;unfold execOp;rw[ho];refine dT ?_;rw[R3];simp only[convert,Sem.run_bind,au Wh,au SD,Result.andThen_ok]
    cases d1<;>rfl
   exact h.elim
  ·rename_i hk
   rw[hk]at SX
   have:d2= .string:=by
    cases d2<;>simp only[cK]at SX
    case string=>rfl
    case struct fs=>split at SX<;>cases SX
    all_goals cases SX
   subst this
   split at h
   ·rename_i e TO
    have TY:=fk hT hS TO
    cases Sr:T e with
    |none=>rw[Sr]at h;exact h.elim
    |some E=>
     rw[Sr]at h;simp only at h;obtain⟨_,d3,_,_,Z9,_,Ug,_⟩:=bD hT Sr
     split at h
     ·rename_i k UG
      obtain⟨rfl,h⟩:=h;rw[UG]at Ug
      have:d3= .int .u8:=by
       cases d3<;>simp only[cK]at Ug
       case int=>cases Ug;rfl
       case struct fs=>split at Ug<;>cases Ug
       all_goals cases Ug
      subst this
      split at h
      ·rename_i k' xs hx
       obtain⟨rfl,h⟩:=h;refine⟨_,h,a7.pure hd fun G dom ρ Z a w hs ha=>⟨.string (strOfNums xs),?_,rfl⟩⟩;have R3:=hs.ev x;rw[aY ha Sb hx]at R3;obtain⟨ad,cap,hv,RY,hr⟩:=R3;unfold execOp;rw[ho];refine dT ?_;rw[hv]
       rcases hr with h0|⟨g,o',rfl,_,RQ⟩
       ·have UA:xs=[]:=List.eq_nil_of_length_eq_zero h0;subst UA
        cases ad with
        |none=>exact run_convert_bytes_nil w src e TY Z9 _ _ dst SD
        |some a0=>
         have hl:(loadCells a0 0).run P w= .ok (([]:List Int).map (Value.int .u8)).toArray w:=kb a0 [] (fun j u hj=>by simp at hj);rw[run_convert_bytes_string w src dst e _ _ cap TY Z9 SD];exact run_bytesToString w a0 0 cap [] hl
       exact run_convert_bytes_arg w src e TY Z9 g o' xs.length cap xs rfl RQ dst SD
      exact h.elim
     exact h.elim
   exact h.elim
  exact h.elim
 exact h.elim
include hT in
theorem BD {t:TypeId}{x i:Operand}(ho:o.op= .index t x i)(hd:bU o s.n)(h:ui T s t x i K):∃e,K e∧a7 P o s nx0 id e:=by
 have Sb:x∈o.op.operands:=by rw[ho];simp[Op.operands]
 have Xc:i∈o.op.operands:=by rw[ho];simp[Op.operands]
 unfold ui at h
 cases RL:T t with
 |none=>rw[RL]at h;exact h.elim
 |some E=>
  rw[RL]at h;simp only at h;obtain⟨_,d,_,_,hu,_,hk,_⟩:=bD hT RL
  split at h
  ·rename_i UG
   rw[UG]at hk;have hds:d= .string:=by
    cases d<;>simp only[cK]at hk
    case string=>rfl
    case struct fs=>split at hk<;>cases hk
    all_goals cases hk
   subst hds
   split at h
   ·rename_i k n hi
    split at h
    ·rename_i b hx
     obtain⟨⟨h0,h1⟩,h⟩:=h;refine⟨_,h,a7.pure hd fun G dom ρ Z a w hs ha=>⟨.int .u8 (H2 b n.toNat),?_,rfl⟩⟩;have R3:=hs.ev x;rw[aY ha Sb hx]at R3;have XP:=hs.ev i;rw[aY ha Xc hi]at XP;have R3:a.eval x= .string b:=R3;have XP:a.eval i= .int k n:=XP;unfold execOp;rw[ho];refine dT ?_;have hb:n.toNat<b.size:=by omega
     simp only[Instr.index,R3,XP,asIntOf,Sem.run_bind,Sem.run_pure,Result.andThen_ok,au hu,if_pos h0,getElem?_pos b n.toNat hb,H2,Option.getD_some]
    exact h.elim
   exact h.elim
  exact h.elim
include hT in
theorem Ch {t:TypeId}{x:Operand}{f:Nat}(ho:o.op= .fieldAddr t x f)(hd:bU o s.n)(h:jF T s t x f K):∃e,K e∧a7 P o s nx0 id e:=by
 have Sb:x∈o.op.operands:=by rw[ho];simp[Op.operands]
 unfold jF at h
 cases RL:T t with
 |none=>rw[RL]at h;exact h.elim
 |some E=>
  rw[RL]at h;simp only at h;obtain⟨i,d,z,hi,hu,_,hk,_⟩:=bD hT RL
  split at h
  ·rename_i fs Ys
   rw[Ys]at hk;obtain⟨fields,rfl,UU⟩:=qV hk.symm
   cases hf:fs[f]? with
   |none=>rw[hf]at h;exact h.elim
   |some p=>
    obtain⟨fo,fsz⟩:=p;rw[hf]at h;simp only at h;obtain⟨RR,h⟩:=h;obtain⟨fd,fi,hfd,Vm,he⟩:=tI _ _ UU _ _ hf;simp only[Prod.mk.injEq]at he;obtain⟨he1,Yt⟩:=he;have hfd':fields[f]? =some fd:=by simpa using hfd
    have RB:∀(a:Act) (w:World) (g off:Nat),a.eval x= .pointer (some ⟨g,off,none⟩)→(execOp a.eval o).run P w= .ok (.value (.pointer (some ⟨g,off+fo,none⟩))) w:=by
     intro a w g off RA;unfold execOp;rw[ho];refine dT ?_;simp only[Instr.fieldAt,Sem.run_bind,au hu,Result.andThen_ok,hfd',RA,Instr.sureAddr,Sem.run_pure,fieldPlace,run_sizeOf Vm,Sem.run_ite];rw[if_neg (by omega)];simp only[Result.andThen_ok,←he1]
     have:(⟨g,off,none⟩:Addr).add fo=⟨g,off+fo,none⟩:=by unfold Addr.add;split<;>simp_all
     rw[this]
    split at h
    ·rename_i b off hx
     refine⟨_,h,a7.pure hd fun G dom ρ Z a w hs ha=>?_⟩;have RA:=hs.ev x;rw[aY ha Sb hx]at RA;obtain⟨h1,g,o',h2,hv⟩:=RA;exact⟨_,RB a w g _ hv,h1,g,o',h2,by rw[Nat.add_assoc]⟩
    ·rename_i c wd ix off hx
     refine⟨_,h,a7.pure hd fun G dom ρ Z a w hs ha=>?_⟩;have RA:=hs.ev x;rw[aY ha Sb hx]at RA;obtain⟨g,o',n,cap,h1,h2,hv⟩:=RA;exact⟨_,RB a w g _ hv,g,o',n,cap,h1,h2,by rw[Nat.add_assoc,Nat.add_assoc]⟩
    ·rename_i b wd ix off hx
     refine⟨_,h,a7.pure hd fun G dom ρ Z a w hs ha=>?_⟩;have RA:=hs.ev x;rw[aY ha Sb hx]at RA;obtain⟨h1,h2,g,o',h3,hv⟩:=RA;exact⟨_,RB a w g _ hv,h1,h2,g,o',h3,by rw[Nat.add_assoc,Nat.add_assoc]⟩
    exact h.elim
  exact h.elim
include hT in
theorem Nt {t:TypeId}{x:Operand}{f:Nat}(ho:o.op= .field t x f)(hd:bU o s.n)(h:sM T s t x f K):∃e,K e∧a7 P o s nx0 id e:=by
 have Sb:x∈o.op.operands:=by rw[ho];simp[Op.operands]
 unfold sM at h
 cases RL:T t with
 |none=>rw[RL]at h;exact h.elim
 |some E=>
  rw[RL]at h;simp only at h;obtain⟨d,hu,hk,UU⟩:=Qa hT RL
  split at h
  ·rename_i fs UG
   split at h
   ·rename_i fo fsz hf
    split at h
    ·rename_i cs hx
     obtain⟨SY,rfl,Ru,h⟩:=h;rw[UG]at hk;obtain⟨fds,rfl,Xd⟩:=qV hk.symm;obtain⟨fld,i,Yu,hi,hp⟩:=tI _ _ Xd f _ hf;simp only[Prod.mk.injEq]at hp;obtain⟨rfl,Sx⟩:=hp;have hnag:∃d',P.underlying fld.type=some d'∧(cK P d').agg=some false:=by
      rw[UU]at SY;simp only[Og,List.getElem?_map,Yu,Option.map_some,Option.some.injEq]at SY
      cases ZE:P.underlying fld.type with
      |none=>rw[ZE]at SY;simp at SY
      |some d'=>
       rw[ZE]at SY;refine⟨d',rfl,?_⟩;simp only at SY
       cases TN:cK P d'<;>rw [TN]at SY<;>simp [DW.agg]at SY⊢
     obtain⟨d',ZE,hagg⟩:=hnag;refine⟨_,h,a7.pure hd fun G dom ρ Z a w hs ha=>?_⟩;have RA:=hs.ev x;rw[aY ha Sb hx]at RA;obtain⟨vs,hv,hl⟩:=RA;obtain⟨u,SD,hr⟩:=bI.get hl fld.offset (cs.getD fld.offset .any) (by rw[X7,X8 Ru];rfl);refine⟨u,?_,hr⟩;unfold execOp;rw[ho];refine dT ?_;rw[hv];have Xe:fds[f]? =some fld:=by simpa using Yu
     have hua:vs[fld.offset]? =some u:=by simpa using SD
     simp only[Instr.field,Sem.run_bind,au hu,Result.andThen_ok,Xe,part,asAgg,qE ZE hagg,hua,Sem.run_pure,Bool.false_eq_true,↓reduceIte]
    exact h.elim
   exact h.elim
  exact h.elim
end
end Go.Eng
namespace Go.Eng
open Go
theorem fa (g o j:Nat):(⟨g,o,none⟩:Addr).add j=⟨g,o+j,none⟩:=by unfold Addr.add;split<;>simp_all
theorem zW {P:Program}{w:World}{t e:TypeId}{i:TypeInfo}(ht:P.underlying t=some (.slice e))(he:P.info? e=some i)(k:IntKind)(n:Int)(g o len cap:Nat)(h0:0≤n)(h1:n<len):
  (Instr.indexAt t (.slice (some ⟨g,o,none⟩) len cap) (.int k n)).run P w= .ok (.pointer (some ⟨g,o+n.toNat*i.size,none⟩)) w:=by
 simp only[Instr.indexAt,asIntOf,Sem.run_bind,Sem.run_pure,Result.andThen_ok,au ht,run_sizeOf he,Sem.run_ite];rw[if_pos ⟨h0,h1⟩];simp only[Result.andThen_ok,fa]
theorem yQ {P:Program}{w:World}{t e:TypeId}{i:TypeInfo}{m:Nat}(ht:P.underlying t=some (.array m e))(he:P.info? e=some i)(k:IntKind)(n:Int)(g o:Nat)(h0:0≤n)(h1:n<m):
  (Instr.indexAt t (.pointer (some ⟨g,o,none⟩)) (.int k n)).run P w= .ok (.pointer (some ⟨g,o+n.toNat*i.size,none⟩)) w:=by
 simp only[Instr.indexAt,asIntOf,Instr.sureAddr,Sem.run_bind,Sem.run_pure,Result.andThen_ok,au ht,run_sizeOf he,Sem.run_ite];rw[if_pos ⟨h0,h1⟩];simp only[Result.andThen_ok,fa]
theorem bt {P:Program}{w:World}(k:IntKind)(n:Int)(y:Nat)(c:BoundsCode)(h0:0≤n)(h1:n≤y):(Instr.sliceBound (.int k n) y c).run P w= .ok n.toNat w:=by
 simp only[Instr.sliceBound,asIntOf,Sem.run_bind,Sem.run_pure,Result.andThen_ok,Sem.run_ite];rw[if_pos ⟨h0,h1⟩]
def oh (v:Option Value)(d n:Int):Prop:=(v=none∧n=d)∨∃k,v=some (.int k n)
theorem rU {P:Program}{w:World}{lo hi:Option Value}{len cap:Nat}{l h:Int}(RS:oh lo 0 l)(TZ:oh hi len h)(h0:0≤l)(h1:l≤h)(h2:h≤len)(h3:len≤cap):
  (Instr.sliceBounds true len cap lo hi none).run P w= .ok (l.toNat,h.toNat,cap) w:=by
 unfold Instr.sliceBounds;have hc:h≤(cap:Int):=by omega
 rcases TZ with⟨rfl,rfl⟩|⟨k,rfl⟩
 ·rcases RS with⟨rfl,rfl⟩|⟨k',rfl⟩
  ·simp
  simp only[Sem.run_bind,Sem.run_pure,Result.andThen_ok,bt k' l len _ h0 h1]
  simp
 rcases RS with⟨rfl,rfl⟩|⟨k',rfl⟩
 ·simp only[Sem.run_bind,Sem.run_pure,Result.andThen_ok,↓reduceIte,bt k h cap _ (by omega) hc]
  simp
 simp only[Sem.run_bind,Sem.run_pure,Result.andThen_ok,↓reduceIte,bt k h cap _ (by omega) hc];rw[bt k' l h.toNat _ h0 (by omega)]
 simp
theorem rk {P:Program}{w:World}{lo hi:Option Value}{len:Nat}{l h:Int}(RS:oh lo 0 l)(TZ:oh hi len h)(h0:0≤l)(h1:l≤h)(h2:h≤len):
  (Instr.sliceBounds false len len lo hi none).run P w= .ok (l.toNat,h.toNat,len) w:=by
 unfold Instr.sliceBounds
 rcases TZ with⟨rfl,rfl⟩|⟨k,rfl⟩
 ·rcases RS with⟨rfl,rfl⟩|⟨k',rfl⟩
  ·simp
  simp only[Sem.run_bind,Sem.run_pure,Result.andThen_ok,bt k' l len _ h0 h1]
  simp
 rcases RS with⟨rfl,rfl⟩|⟨k',rfl⟩
 ·simp only[Sem.run_bind,Sem.run_pure,Result.andThen_ok,bt k h len _ (by omega) h2]
  simp
 simp only[Sem.run_bind,Sem.run_pure,Result.andThen_ok,bt k h len _ (by omega) h2];rw[bt k' l h.toNat _ h0 (by omega)]
 simp
theorem Aa {P:Program}{w:World}{t e:TypeId}{i:TypeInfo}(ht:P.underlying t=some (.slice e))(he:P.info? e=some i){lo hi:Option Value}{a:Option Addr}{len cap:Nat}{l h:Int}
  (RS:oh lo 0 l) (TZ:oh hi len h) (h0:0≤l) (h1:l≤h) (h2:h≤len) (h3:len≤cap):
  (Instr.sliceAt t (.slice a len cap) lo hi none).run P w= .ok (.slice (if cap=l.toNat then a else a.map (·.add (l.toNat*i.size))) (h.toNat-l.toNat) (cap-l.toNat)) w:=by
 simp only[Instr.sliceAt,Instr.slice,Sem.run_bind,au ht,Result.andThen_ok,rU RS TZ h0 h1 h2 h3,run_sizeOf he,Sem.run_pure]
section
variable {P:Program}{T:fB}(hT:eH P T){o:Oper}{s:St}{nx0 id:Nat}{K:eJ→Prop}
include hT in
theorem Cx {t:TypeId}{x i:Operand}(ho:o.op= .indexAddr t x i)(hd:bU o s.n)(h:jo T s t x i K):∃e,K e∧a7 P o s nx0 id e:=by
 have Sb:x∈o.op.operands:=by rw[ho];simp[Op.operands]
 have Xc:i∈o.op.operands:=by rw[ho];simp[Op.operands]
 unfold jo at h
 cases RL:T t with
 |none=>rw[RL]at h;exact h.elim
 |some S=>
  rw[RL]at h;simp only at h
  split at h
  ·rename_i e TO
   have hu:=fk hT RL TO
   cases Sr:T e with
   |none=>rw[Sr]at h;exact h.elim
   |some E=>
    rw[Sr]at h;simp only at h;obtain⟨ei,ed,ez,S2,WJ,_,WK,Tu,_⟩:=bD hT Sr
    split at h
    ·rename_i k n hi
     have RB:∀(a:Act) (w:World) (g o' len cap:Nat),a.eval x= .slice (some ⟨g,o',none⟩) len cap→a.eval i= .int k n→0≤n→n<len→(execOp a.eval o).run P w= .ok (.value (.pointer (some ⟨g,o'+n.toNat*E.size,none⟩))) w:=by
      intro a w g o' len cap hx UB h0 h1;unfold execOp;rw[ho];refine dT ?_;rw[hx,UB,zW hu S2 k n g o' len cap h0 h1,Tu]
     split at h
     ·rename_i b wd off len hx
      obtain⟨hw,RR,⟨h0,h1⟩,hK⟩:=h;refine⟨_,hK,a7.pure hd fun G dom ρ Z a w hs ha=>?_⟩;have RA:=hs.ev x;rw[aY ha Sb hx]at RA;have UB:=hs.ev i;rw[aY ha Xc hi]at UB;obtain⟨SH,hle,cap,RY,hr⟩:=RA
      rcases hr with⟨g,o',o'',Rt,hv,RX,_⟩|⟨_,_,Tl,_⟩
      ·refine⟨_,RB a w g o'' len cap hv UB h0 h1,SH,by omega,g,o',Rt,?_⟩
       have:o''=o'+off*wd:=by rcases RX with RX|RX<;>omega
       rw[this,hw,Nat.add_mul,Nat.add_zero,Nat.add_assoc]
      omega
     ·rename_i b b2 off len hx
      obtain⟨hw,⟨h0,h1⟩,hK⟩:=h;refine⟨_,hK,a7.pure hd fun G dom ρ Z a w hs ha=>?_⟩;have RA:=hs.ev x;rw[aY ha Sb hx]at RA;have UB:=hs.ev i;rw[aY ha Xc hi]at UB;obtain⟨_,SH,hle,cap,RY,hr⟩:=RA
      rcases hr with⟨g,o',o'',Rt,hv,RX,_⟩|⟨_,_,Tl,_⟩
      ·refine⟨_,RB a w g o'' len cap hv UB h0 h1,SH,by omega,g,o',Rt,?_⟩
       have:o''=o'+off*1:=by rcases RX with RX|RX<;>omega
       rw[this,←hw,Nat.add_mul,Nat.add_zero,Nat.add_assoc]
      omega
     ·rename_i k' xs hx
      obtain⟨hw,⟨h0,h1⟩,hK⟩:=h;refine⟨_,hK,a7.pure hd fun G dom ρ Z a w hs ha=>?_⟩;have RA:=hs.ev x;rw[aY ha Sb hx]at RA;have UB:=hs.ev i;rw[aY ha Xc hi]at UB;have VB:=RA;obtain⟨a',cap,hv,RY,hr⟩:=RA
      rcases hr with hr|⟨g,o',rfl,hg,R2⟩
      ·omega
      refine⟨_,RB a w g o' xs.length cap hv UB h0 h1,g,o',xs.length,cap,?_,by omega,by rw[←hw];rfl⟩;rw[hv]at VB;exact VB
     ·rename_i wd n' f hx
      obtain⟨hw,RR,⟨h0,h1⟩,hK⟩:=h;refine⟨_,hK,a7.pure hd fun G dom ρ Z a w hs ha=>?_⟩;have RA:=hs.ev x;rw[aY ha Sb hx]at RA;have UB:=hs.ev i;rw[aY ha Xc hi]at UB;have VB:=RA;obtain⟨a',cap,hv,RY,hr⟩:=RA
      rcases hr with hr|⟨g,o',rfl,hg,R2⟩
      ·omega
      refine⟨_,RB a w g o' n' cap hv UB h0 h1,g,o',n',cap,?_,by omega,by rw[hw];rfl⟩;rw[hv]at VB;exact VB
     exact h.elim
    exact h.elim
  ·rename_i m e TO
   have hu:=OT hT RL TO
   cases Sr:T e with
   |none=>rw[Sr]at h;exact h.elim
   |some E=>
    rw[Sr]at h;simp only at h;obtain⟨ei,ed,ez,S2,WJ,_,WK,Tu,_⟩:=bD hT Sr
    split at h
    ·rename_i k n hi
     split at h
     ·rename_i b off hx
      obtain⟨⟨h0,h1⟩,hK⟩:=h;refine⟨_,hK,a7.pure hd fun G dom ρ Z a w hs ha=>?_⟩;have RA:=hs.ev x;rw[aY ha Sb hx]at RA;have UB:=hs.ev i;rw[aY ha Xc hi]at UB;obtain⟨k1,g,o',k2,hv⟩:=RA;refine⟨_,?_,k1,g,o',k2,rfl⟩;unfold execOp;rw[ho];refine dT ?_;rw[hv,show a.eval i= .int k n from UB,yQ hu S2 k n g _ h0 h1,Tu,Nat.add_assoc]
     exact h.elim
    exact h.elim
  exact h.elim
theorem fP {s Z:St}{x:Option Operand}{d:Int}{K:Int→Prop}(h:so s x d K):∃n,K n∧
  ∀(G:Ctx) (dom:Nat→Prop) (ρ:Nat→Loc) (Z:St) (a:Act) (w:World),aR G dom ρ Z a w→(∀y,x=some y→Z.ev y=s.ev y)→oh (x.map a.eval) d n:=by
 unfold so at h
 cases x with
 |none=>exact⟨d,h,fun _ _ _ _ _ _ _ _=>.inl ⟨rfl,rfl⟩⟩
 |some y=>
  simp only at h
  split at h
  ·rename_i k n hy
   refine⟨n,h,fun G dom ρ Z a w hs he=>.inr ⟨k,?_⟩⟩
   have:=hs.ev y
   rw[he y rfl,hy]at this;exact congrArg some this
  exact h.elim
theorem qz {P:Program}{w:World}{lo:Option Value}{len cap:Nat}{l h m:Int}{kh km:IntKind}(RS:oh lo 0 l)(h0:0≤l)(h1:l≤h)(h2:h≤m)(h3:m≤cap):
  (Instr.sliceBounds true len cap lo (some (.int kh h)) (some (.int km m))).run P w= .ok (l.toNat,h.toNat,m.toNat) w:=by
 unfold Instr.sliceBounds;simp only[Sem.run_bind,↓reduceIte,bt km m cap _ (by omega) h3,Result.andThen_ok,bt kh h m.toNat _ (by omega) (by omega)]
 rcases RS with⟨rfl,rfl⟩|⟨k',rfl⟩
 ·simp
 simp only[Sem.run_bind,Result.andThen_ok];rw[bt k' l h.toNat _ h0 (by omega)]
 simp
include hT in
theorem Jk {t:TypeId}{x m:Operand}{lo hi:Option Operand}(ho:o.op= .slice t x lo hi (some m))(hd:bU o s.n)(h:sB T s t x lo hi m K):∃e,K e∧a7 P o s nx0 id e:=by
 have Sb:x∈o.op.operands:=by rw[ho];simp[Op.operands]
 have Yv:m∈o.op.operands:=by rw[ho];simp[Op.operands]
 have Tm:∀y,lo=some y→y∈o.op.operands:=fun y hy=>by rw[ho];simp[Op.operands,hy]
 have WM:∀y,hi=some y→y∈o.op.operands:=fun y hy=>by rw[ho];simp[Op.operands,hy]
 unfold sB at h
 cases RL:T t with
 |none=>rw[RL]at h;exact h.elim
 |some S=>
  rw[RL]at h;simp only at h
  split at h
  ·rename_i e TO
   have hu:=fk hT RL TO
   cases Sr:T e with
   |none=>rw[Sr]at h;exact h.elim
   |some E=>
    rw[Sr]at h;simp only at h;obtain⟨ei,ed,ez,S2,WJ,_,WK,Tu,_⟩:=bD hT Sr
    split at h
    ·rename_i b wd off len hx
     obtain⟨hw,h⟩:=h
     cases hi with
     |none=>exact h.elim
     |some y=>
      simp only at h;obtain⟨l,h,Uh⟩:=fP (Z:=s) h;obtain⟨hh,h,U4⟩:=fP (Z:=s) h;obtain⟨k,h,Yo⟩:=fP (Z:=s) h;obtain⟨⟨h0,h1,h2,h3⟩,hK⟩:=h;refine⟨_,hK,a7.pure hd fun G dom ρ Z a w hs ha=>?_⟩;have RA:=hs.ev x;rw[aY ha Sb hx]at RA;obtain⟨SH,hle,cap,RY,hr⟩:=RA;have hL:=Uh G dom ρ Z a w hs (fun y hy=>ha.ev y (Tm y hy));have hH:=U4 G dom ρ Z a w hs (fun y hy=>ha.ev y (WM y hy));have hM:=Yo G dom ρ Z a w hs (fun y hy=>ha.ev y (by obtain rfl:=Option.some.inj hy;exact Yv));obtain⟨kh,hH⟩:∃kh,a.eval y= .int kh hh:=by
       rcases hH with⟨h,_⟩|⟨k,h⟩
       ·cases h
       exact⟨k,Option.some.inj h⟩
      obtain⟨km,hM⟩:∃km,a.eval m= .int km k:=by
       rcases hM with⟨h,_⟩|⟨k,h⟩
       ·cases h
       exact⟨k,Option.some.inj h⟩
      have RB:∀(ad:Option Addr),a.eval x= .slice ad len cap→
        (execOp a.eval o).run P w= .ok (.value (.slice (if k.toNat=l.toNat then ad else ad.map (·.add (l.toNat*E.size))) (hh.toNat-l.toNat) (k.toNat-l.toNat))) w:=by
       intro ad hx;unfold execOp;rw[ho];refine dT ?_;rw[hx];simp only[Option.map_some,hH,hM];simp only[Instr.sliceAt,Instr.slice,Sem.run_bind,au hu,Result.andThen_ok,qz hL h0 h1 h2 (by omega:k≤(cap:Int)),run_sizeOf S2,Sem.run_pure,Tu]
      rcases hr with⟨g,o',o'',Rt,hv,RX,Sf⟩|⟨Rt,hv,Tl,SI⟩
      ·have hrm:o'+(off+l.toNat+(k.toNat-l.toNat))*wd≤cd w g:=by
        refine Nat.le_trans ?_ Sf
        have:(off+l.toNat+(k.toNat-l.toNat))*wd≤(off+cap)*wd:=Nat.mul_le_mul_right _ (by omega)
        omega
       refine⟨_,RB _ hv,SH,by omega,k.toNat-l.toNat,by omega,.inl ?_⟩
       by_cases Te:k.toNat=l.toNat
       ·exact⟨g,o',o'',Rt,by rw[if_pos Te,show (hh-l).toNat=hh.toNat-l.toNat by omega],.inl (by omega),hrm⟩
       refine⟨g,o',o''+l.toNat*E.size,Rt,?_,.inr ?_,hrm⟩
       ·rw[if_neg Te,show (hh-l).toNat=hh.toNat-l.toNat by omega,Option.map_some,fa]
       have:o''=o'+off*wd:=by
        rcases RX with RX|RX
        ·omega
        exact RX
       rw[this,hw,Nat.add_mul,Nat.add_assoc]
      refine⟨_,RB none (by rw[hv,Tl,SI]),SH,by omega,0,by omega,.inr ⟨Rt,?_,by omega,rfl⟩⟩;simp only[Option.map_none,ite_self]
      congr 1<;>omega
    exact h.elim
  exact h.elim
include hT in
theorem NH {
        t:TypeId} {x:Operand} {lo hi mx:Option Operand} (ho:o.op= .slice t x lo hi mx) (hd:bU o s.n) (h:uj T s t x lo hi mx K):∃e,K e∧a7 P o s nx0 id e:=by
 have Sb:x∈o.op.operands:=by rw[ho];simp[Op.operands]
 have Tm:∀y,lo=some y→y∈o.op.operands:=fun y hy=>by rw[ho];simp[Op.operands,hy]
 have WM:∀y,hi=some y→y∈o.op.operands:=fun y hy=>by rw[ho];simp[Op.operands,hy]
 cases mx with
 |some m=>exact Jk hT ho hd h
 |none=>
 unfold uj at h;simp only at h
 cases RL:T t with
 |none=>rw[RL]at h;exact h.elim
 |some S=>
  rw[RL]at h;simp only at h
  split at h
  ·rename_i e TO
   have hu:=fk hT RL TO
   cases Sr:T e with
   |none=>rw[Sr]at h;exact h.elim
   |some E=>
    rw[Sr]at h;simp only at h;obtain⟨ei,ed,ez,S2,WJ,_,WK,Tu,_⟩:=bD hT Sr;have RB:∀(a:Act) (w:World) (ad:Option Addr) (len cap:Nat) (l h:Int),a.eval x= .slice ad len cap→oh (lo.map a.eval) 0 l→oh (hi.map a.eval) len h→0≤l→l≤h→h≤len→len≤cap→
      (execOp a.eval o).run P w= .ok (.value (.slice (if cap=l.toNat then ad else ad.map (·.add (l.toNat*E.size))) (h.toNat-l.toNat) (cap-l.toNat))) w:=by
     intro a w ad len cap l h hx hl hh h0 h1 h2 h3;unfold execOp;rw[ho];refine dT ?_;rw[hx,Option.map_none,Aa hu S2 hl hh h0 h1 h2 h3,Tu]
    split at h
    ·rename_i b wd off len hx
     obtain⟨hw,h⟩:=h;obtain⟨l,h,Uh⟩:=fP (Z:=s) h;obtain⟨hh,h,U4⟩:=fP (Z:=s) h;obtain⟨⟨h0,h1,h2⟩,hK⟩:=h;refine⟨_,hK,a7.pure hd fun G dom ρ Z a w hs ha=>?_⟩;have RA:=hs.ev x;rw[aY ha Sb hx]at RA;obtain⟨SH,hle,cap,RY,hr⟩:=RA;have hL:=Uh G dom ρ Z a w hs (fun y hy=>ha.ev y (Tm y hy));have hH:=U4 G dom ρ Z a w hs (fun y hy=>ha.ev y (WM y hy))
     rcases hr with⟨g,o',o'',Rt,hv,RX,Sf⟩|⟨Rt,hv,Tl,SI⟩
     ·refine⟨_,RB a w _ len cap l hh hv hL hH h0 h1 h2 RY,SH,by omega,cap-l.toNat,by omega,.inl ?_⟩
      by_cases Te:cap=l.toNat
      ·refine⟨g,o',o'',Rt,by rw[if_pos Te,show (hh-l).toNat=hh.toNat-l.toNat by omega],.inl (by omega),?_⟩;rw[show off+l.toNat+(cap-l.toNat)=off+cap by omega];exact Sf
      refine⟨g,o',o''+l.toNat*E.size,Rt,?_,.inr ?_,?_⟩
      ·rw[if_neg Te,show (hh-l).toNat=hh.toNat-l.toNat by omega,Option.map_some,fa]
      ·have:o''=o'+off*wd:=by
        rcases RX with RX|RX
        ·omega
        exact RX
       rw[this,hw,Nat.add_mul,Nat.add_assoc]
      rw[show off+l.toNat+(cap-l.toNat)=off+cap by omega];exact Sf
     refine⟨_,RB a w none len cap l hh (by rw[hv,Tl,SI]) hL hH h0 h1 h2 RY,SH,by omega,0,by omega,.inr ⟨Rt,?_,by omega,rfl⟩⟩;simp only[Option.map_none,ite_self]
     congr 1<;>omega
    ·rename_i b b2 off len hx
     obtain⟨hw,h⟩:=h;obtain⟨l,h,Uh⟩:=fP (Z:=s) h;obtain⟨hh,h,U4⟩:=fP (Z:=s) h;obtain⟨⟨h0,h1,h2⟩,hK⟩:=h;refine⟨_,hK,a7.pure hd fun G dom ρ Z a w hs ha=>?_⟩;have RA:=hs.ev x;rw[aY ha Sb hx]at RA;obtain⟨UR,SH,hle,cap,RY,hr⟩:=RA;have hL:=Uh G dom ρ Z a w hs (fun y hy=>ha.ev y (Tm y hy));have hH:=U4 G dom ρ Z a w hs (fun y hy=>ha.ev y (WM y hy))
     rcases hr with⟨g,o',o'',Rt,hv,RX,Sf⟩|⟨Rt,hv,Tl,SI⟩
     ·refine⟨_,RB a w _ len cap l hh hv hL hH h0 h1 h2 RY,UR,SH,by omega,cap-l.toNat,by omega,.inl ?_⟩
      by_cases Te:cap=l.toNat
      ·refine⟨g,o',o'',Rt,by rw[if_pos Te,show (hh-l).toNat=hh.toNat-l.toNat by omega],.inl (by omega),?_⟩;rw[show off+l.toNat+(cap-l.toNat)=off+cap by omega];exact Sf
      refine⟨g,o',o''+l.toNat*E.size,Rt,?_,.inr ?_,?_⟩
      ·rw[if_neg Te,show (hh-l).toNat=hh.toNat-l.toNat by omega,Option.map_some,fa]
      ·have:o''=o'+off*1:=by
        rcases RX with RX|RX
        ·omega
        exact RX
       rw[this,←hw,Nat.add_mul,Nat.add_assoc]
      rw[show off+l.toNat+(cap-l.toNat)=off+cap by omega];exact Sf
     refine⟨_,RB a w none len cap l hh (by rw[hv,Tl,SI]) hL hH h0 h1 h2 RY,UR,SH,by omega,0,by omega,.inr ⟨Rt,?_,by omega,rfl⟩⟩;simp only[Option.map_none,ite_self]
     congr 1<;>omega
    ·rename_i k xs hx
     obtain⟨hw,h⟩:=h;obtain⟨l,h,Uh⟩:=fP (Z:=s) h;obtain⟨hh,h,U4⟩:=fP (Z:=s) h;obtain⟨⟨h0,h1,h2⟩,hK⟩:=h;refine⟨_,hK,a7.pure hd fun G dom ρ Z a w hs ha=>?_⟩;have RA:=hs.ev x;rw[aY ha Sb hx]at RA;obtain⟨a',cap,hv,RY,hr⟩:=RA;have hL:=Uh G dom ρ Z a w hs (fun y hy=>ha.ev y (Tm y hy));have hH:=U4 G dom ρ Z a w hs (fun y hy=>ha.ev y (WM y hy));have hlen:((xs.drop l.toNat).take (hh-l).toNat).length=hh.toNat-l.toNat:=by simp;omega
     refine⟨_,RB a w _ xs.length cap l hh hv hL hH h0 h1 h2 RY,?_⟩;refine⟨_,cap-l.toNat,by rw[hlen],by omega,?_⟩
     rcases hr with hr|⟨g,o',rfl,hg,R2⟩
     ·exact .inl (by omega)
     by_cases hz:hh.toNat-l.toNat=0
     ·exact .inl (by omega)
     refine .inr ⟨g,o'+l.toNat*E.size,by rw[if_neg (by omega),Option.map_some,fa],hg,fun j hj=>?_⟩;rw[hlen]at hj
     have:=R2 (l.toNat+j) (by omega)
     rw[←hw,Nat.mul_one,Nat.add_assoc,this]
     congr 2
     simp only[X7,List.getElem?_take,List.getElem?_drop];rw[if_pos (by omega)]
    ·rename_i wd n f hx
     obtain⟨hw,h⟩:=h;obtain⟨l,h,Uh⟩:=fP (Z:=s) h;obtain⟨hh,h,U4⟩:=fP (Z:=s) h;obtain⟨⟨h0,h1,h2⟩,hK⟩:=h;refine⟨_,hK,a7.pure hd fun G dom ρ Z a w hs ha=>?_⟩;have RA:=hs.ev x;rw[aY ha Sb hx]at RA;obtain⟨a',cap,hv,RY,hr⟩:=RA;have hL:=Uh G dom ρ Z a w hs (fun y hy=>ha.ev y (Tm y hy));have hH:=U4 G dom ρ Z a w hs (fun y hy=>ha.ev y (WM y hy));refine⟨_,RB a w _ n cap l hh hv hL hH h0 h1 h2 RY,?_⟩;refine⟨_,cap-l.toNat,by rw[show (hh-l).toNat=hh.toNat-l.toNat by omega],by omega,?_⟩
     rcases hr with hr|⟨g,o',rfl,hg,R2⟩
     ·exact .inl (by omega)
     by_cases hz:hh.toNat-l.toNat=0
     ·exact .inl (by omega)
     refine .inr ⟨g,o'+l.toNat*E.size,by rw[if_neg (by omega),Option.map_some,fa],hg,fun i j hi hj=>?_⟩;obtain⟨u,RP,hr⟩:=R2 (l.toNat+i) j (by omega) hj;refine⟨u,?_,hr⟩;rw[←RP,←hw,Nat.add_mul]
     congr 2
     omega
    ·rename_i hx
     obtain⟨l,h,Uh⟩:=fP (Z:=s) h;obtain⟨hh,h,U4⟩:=fP (Z:=s) h;obtain⟨⟨rfl,rfl⟩,hK⟩:=h;refine⟨_,hK,a7.pure hd fun G dom ρ Z a w hs ha=>?_⟩;have RA:=hs.ev x;rw[aY ha Sb hx]at RA;have hv:a.eval x= .slice none 0 0:=RA;have hL:=Uh G dom ρ Z a w hs (fun y hy=>ha.ev y (Tm y hy));have hH:=U4 G dom ρ Z a w hs (fun y hy=>ha.ev y (WM y hy));exact⟨_,RB a w none 0 0 0 0 hv hL hH (Int.le_refl _) (Int.le_refl _) (Int.le_refl _) (Nat.le_refl _),rfl⟩
    exact h.elim
  ·rename_i TO
   have hu:=PN hT RL TO
   split at h
   ·rename_i b hx
    obtain⟨l,h,Uh⟩:=fP (Z:=s) h;obtain⟨hh,h,U4⟩:=fP (Z:=s) h;obtain⟨⟨h0,h1,h2⟩,hK⟩:=h;refine⟨_,hK,a7.pure hd fun G dom ρ Z a w hs ha=>?_⟩;have RA:=hs.ev x;rw[aY ha Sb hx]at RA;have hv:a.eval x= .string b:=RA;have hL:=Uh G dom ρ Z a w hs (fun y hy=>ha.ev y (Tm y hy));have hH:=U4 G dom ρ Z a w hs (fun y hy=>ha.ev y (WM y hy));refine⟨.string (b.extract l.toNat hh.toNat),?_,rfl⟩;unfold execOp;rw[ho];refine dT ?_;simp only[hv,Option.map_none,Instr.sliceAt,Instr.slice,Sem.run_bind,au hu,Result.andThen_ok,rk hL hH h0 h1 h2,Sem.run_pure,Option.isSome_none,Bool.false_eq_true,↓reduceIte]
   exact h.elim
  exact h.elim
end
end Go.Eng
namespace Go.Eng
open Go
section aux
variable {ρ:Nat→Loc}{dom ok:Nat→Prop}{w:World}
theorem lP {l:Loc}{B:Bk}{wd off len cap:Nat}{g o o':Nat}(ha:l.addr=some (g,o))(hr:aL ρ dom ok w l B)(RW:ok g)(hl:l.len=B.len)(hle:off+len≤l.len)(hc:len≤cap)(ho:cap=0∨o'=o+off*wd):
  aO ok w (gg B wd off len) (.slice (some ⟨g,o',none⟩) len cap):=by
 have Wi:aO ok w .any (.slice (some ⟨g,o',none⟩) len cap):=rfl;unfold aL at hr;rw[ha]at hr;obtain⟨cur,e,hg,RQ⟩:=hr;rw[hl]at hle
 cases B with
 |var cs=>exact Wi
 |wins e b2 n g=>exact Wi
 |ints e' k xs=>
  simp only[gg]
  split
  ·rename_i hw
   subst hw;simp only[Bk.len]at hle;have hlen:((xs.drop off).take len).length=len:=by simp;omega
   refine⟨_,cap,by rw[hlen],by omega,?_⟩
   by_cases h0:len=0
   ·exact .inl (by omega)
   refine .inr ⟨g,o',rfl,RW,fun i hi=>?_⟩;rw[hlen]at hi
   have SE:o'=o+off*1:=by rcases ho with ho|ho<;>omega
   have hx:off+i<xs.length:=by omega
   obtain⟨u,hu,hr⟩:=RQ (off+i) (.int k (xs.getD (off+i) 0)) (by simp[Bk.cell,X8 hx]);rw[cell_of_row w g _ cur e (0,0) hg,SE,show o+off*1+i=o+(off+i) by omega,hu];have hr:u= .int k (xs.getD (off+i) 0):=hr;rw[hr]
   congr 2
   simp only[X7,List.getElem?_take,List.getElem?_drop];rw[if_pos hi]
  exact Wi
 |rows e' w' n f=>
  simp only[gg]
  split
  ·rename_i hw
   subst hw;simp only[Bk.len]at hle;refine⟨_,cap,rfl,hc,?_⟩
   by_cases h0:len=0
   ·exact .inl h0
   refine .inr ⟨g,o',rfl,RW,fun i j hi hj=>?_⟩
   have SE:o'=o+off*w':=by rcases ho with ho|ho<;>omega
   have Ru:(off+i)*w'+j<n*w':=by
    have:(off+i+1)*w'≤n*w':=Nat.mul_le_mul_right _ (by omega)
    rw[Nat.add_mul (off+i)]at this;omega
   obtain⟨u,hu,hr⟩:=RQ ((off+i)*w'+j) (f (off+i) j) (by
    simp only[Bk.cell,if_pos Ru];rw[Nat.mul_comm (off+i) w',Nat.mul_add_div (by omega),Nat.div_eq_of_lt hj,Nat.mul_add_mod,Nat.mod_eq_of_lt hj];simp)
   refine⟨u,?_,hr⟩;rw[cell_of_row w g _ cur e (0,0) hg,SE,←hu]
   congr 1
   rw[Nat.add_mul];omega
  exact Wi
end aux
def cU (G:Ctx)(own:List (Nat×fA))(ρ:Nat→Loc)(w:World)(ids:List Nat)(g:Nat):Prop:=
 aE G own ρ w g∨∃b∈ids,∃B o,lo own b=some B∧(ρ b).addr=some (g,o)
theorem Ext.du {ok ok':Nat→Prop}{w:World}(h:∀g,ok g→ok' g):Ext ok ok' w w:=⟨fun g hg=>⟨h g hg,rfl⟩,fun _=>Nat.le_refl _⟩
theorem wk {G:Ctx}{dom:Nat→Prop}{ρ:Nat→Loc}{s:St}{a:Act}{w:World}(hs:aR G dom ρ s a w)(ids:List Nat){g:Nat}(h:cU G s.own ρ w ids g):aE G (dF s.own ids) ρ w g:=by
 rcases h with h3|⟨b,RJ,B,o',hl,R8⟩
 ·exact kI h3
 obtain⟨_,_,_,h4⟩:=hs.own b B hl;obtain⟨h5,h6,_⟩:=h4 g o' R8;refine⟨h5,h6,fun b2 B2 Rv RN o2 RT=>?_⟩;rw[fy]at Rv
 cases R7:lo s.own b2 with
 |none=>rw[R7]at Rv;simp at Rv
 |some B3=>
  rw[R7]at Rv;simp only[Option.map_some,Option.some.injEq]at Rv
  by_cases hm:ids.contains b2=true
  ·rw[if_pos hm]at Rv;subst Rv;simp at RN
  rw[if_neg hm]at Rv;subst Rv
  by_cases TP:b2=b
  ·subst TP;exact hm (by simpa using RJ)
  exact hs.inj b2 B3 b B R7 hl TP RN g o2 o' RT R8
section view
variable {G:Ctx}{dom:Nat→Prop}{ρ:Nat→Loc}{Z s:St}{a:Act}{w:World}{nx0:Nat}{o:Oper}
theorem EE {ρ:Nat→Loc}{dom ok ok':Nat→Prop}{w:World}(hx:Ext ok ok' w w){c:C}{v:Value}(hr:aA ρ dom ok w c v):aO ok' w (Pm c) v:=by
 have RH:v.oneCell'=true:=(aA.plain hr).1
 cases c with
 |own b wd off len=>exact RH
 |win b b2 off len=>exact RH
 |ptr b off=>exact RH
 |eptr b wd i off=>exact RH
 |fn f n caps=>exact RH
 |any=>exact RH
 |bool b=>exact aO.ext hx (.bool b) v hr
 |int k n=>exact aO.ext hx (.int k n) v hr
 |str b=>exact aO.ext hx (.str b) v hr
 |nil=>exact aO.ext hx .nil v hr
 |ints k xs=>exact aO.ext hx (.ints k xs) v hr
 |rows wd n f=>exact aO.ext hx (.rows wd n f) v hr
 |elt c wd i off=>exact aO.ext hx (.elt c wd i off) v hr
theorem D3 (hs:aR G dom ρ Z a w)(ha:gp s Z nx0 o){b2:Nat}{ids:List Nat}(hb:b2<nx0)(hi:b2∈ids)(c:C)(v:Value)(hr:aA ρ dom (aE G Z.own ρ w) w c v):
  aO (cU G Z.own ρ w ids) w (PZ s.own b2 c) v:=by
 have hx:Ext (aE G Z.own ρ w) (cU G Z.own ρ w ids) w w:=Ext.du fun g hg=>.inl hg;have RH:v.oneCell'=true:=(aA.plain hr).1
 cases c with
 |own b wd off len=>
  simp only[PZ]
  split
  ·rename_i e
   subst e
   cases hl:lo s.own b with
   |none=>exact RH
   |some B=>
    simp only;obtain⟨rw_,hz⟩:=ha.vJ hb hl;obtain⟨h1,h2,h3,h4⟩:=hs.own b _ hz;obtain⟨_,hle,cap,hc,hr⟩:=hr
    rcases hr with⟨g,o1,o2,Rt,rfl,RX,_⟩|⟨Rt,rfl,Tl,SI⟩
    ·have Xf:ig dom dom ρ ρ:=⟨fun _ h=>h,fun _ _=>rfl⟩;exact lP (ρ:=ρ) (dom:=dom) Rt (aL.ext hx Xf _ _ (fun _ _ _=>rfl) h3) (.inr ⟨b,hi,_,_,hz,Rt⟩) h2 hle hc RX
    subst Tl
    cases hB:B.bk with
    |var cs=>rfl
    |wins e b2 n g=>rfl
    |ints e k xs=>
     simp only[gg]
     split
     ·exact⟨none,0,by simp,by simp,.inl (by simp)⟩
     rfl
    |rows e w' n f=>
     simp only[gg]
     split
     ·exact⟨none,0,rfl,Nat.le_refl _,.inl rfl⟩
     rfl
  exact RH
 |win b b2 off len=>exact RH
 |ptr b off=>exact RH
 |eptr b wd i off=>exact RH
 |elt c wd i off=>exact RH
 |fn f n caps=>exact RH
 |any=>exact RH
 |bool b=>exact aO.ext hx (.bool b) v hr
 |int k n=>exact aO.ext hx (.int k n) v hr
 |str b=>exact aO.ext hx (.str b) v hr
 |nil=>exact aO.ext hx .nil v hr
 |ints k xs=>exact aO.ext hx (.ints k xs) v hr
 |rows wd n f=>exact aO.ext hx (.rows wd n f) v hr
theorem np (hs:aR G dom ρ Z a w)(ha:gp s Z nx0 o)(c:C)(v:Value)(ids:List Nat)(hi:∀b∈gz c,b<nx0→b∈ids)(hr:aA ρ dom (aE G Z.own ρ w) w c v):
  aA bm bn (cU G Z.own ρ w ids) w (jZ s.own nx0 c) v:=by
 have hx:Ext (aE G Z.own ρ w) (cU G Z.own ρ w ids) w w:=Ext.du fun g hg=>.inl hg;have RH:v.oneCell'=true:=(aA.plain hr).1
 cases c with
 |own b wd off len=>
  simp only[jZ]
  split
  ·rename_i hb
   cases hl:lo s.own b with
   |none=>exact RH
   |some B=>
    simp only;obtain⟨rw_,hz⟩:=ha.vJ hb hl;obtain⟨h1,h2,h3,h4⟩:=hs.own b _ hz;obtain⟨_,hle,cap,hc,hr⟩:=hr;refine aA.bh ?_
    rcases hr with⟨g,o1,o2,Rt,rfl,RX,_⟩|⟨Rt,rfl,Tl,SI⟩
    ·have Xf:ig dom dom ρ ρ:=⟨fun _ h=>h,fun _ _=>rfl⟩;exact lP (ρ:=ρ) (dom:=dom) Rt (aL.ext hx Xf _ _ (fun _ _ _=>rfl) h3) (.inr ⟨b,hi b (by simp[gz]) hb,_,_,hz,Rt⟩) h2 hle hc RX
    subst Tl
    cases hB:B.bk with
    |var cs=>rfl
    |wins e b2 n g=>rfl
    |ints e k xs=>
     simp only[gg]
     split
     ·exact⟨none,0,by simp,by simp,.inl (by simp)⟩
     rfl
    |rows e w' n f=>
     simp only[gg]
     split
     ·exact⟨none,0,rfl,Nat.le_refl _,.inl rfl⟩
     rfl
  exact RH
 |win b b2 off len=>
  simp only[jZ]
  split
  ·rename_i hb
   split
   ·rename_i Sc
    cases hl:lo s.own b with
    |none=>exact RH
    |some B=>
     simp only;obtain⟨rw_,hz⟩:=ha.vJ hb hl;obtain⟨h1,h2,h3,h4⟩:=hs.own b _ hz;obtain⟨_,_,hle,cap,hc,hr⟩:=hr
     cases hB:B.bk with
     |var cs=>exact RH
     |ints e k xs=>exact RH
     |rows e w' n f=>exact RH
     |wins e b3 n g=>
      simp only[LW]
      split
      ·rename_i e3
       subst e3;rw[hB]at h2 h3;refine aA.bh ?_
       rcases hr with⟨g',o1,o2,Rt,rfl,RX,_⟩|⟨Rt,rfl,Tl,SI⟩
       ·refine⟨_,cap,rfl,hc,?_⟩
        by_cases h0:len=0
        ·exact .inl h0
        unfold aL at h3;rw[Rt]at h3;obtain⟨cur,e',hg,RQ⟩:=h3;refine .inr ⟨g',o2,rfl,.inr ⟨b,hi b (by simp[gz]) hb,_,_,hz,Rt⟩,fun i j RG hj=>?_⟩;obtain rfl:j=0:=by omega
        have SE:o2=o1+off*1:=by rcases RX with ho|ho<;>omega
        have Ru:off+i<n:=by
         have:(ρ b).len=n:=h2
         omega
        obtain⟨u,hu,Yw⟩:=RQ (off+i) (g (off+i)) (by simp only[Bk.cell,if_pos Ru]);refine⟨u,by rw[cell_of_row w g' _ cur e' (0,0) hg,SE,←hu];congr 1;omega,?_⟩;exact D3 hs ha Sc (hi b3 (by simp[gz]) Sc) (g (off+i)) u Yw
       subst Tl;exact⟨none,0,rfl,Nat.le_refl _,.inl rfl⟩
      exact RH
   exact RH
  exact RH
 |ptr b off=>
  simp only[jZ]
  split
  ·rename_i hb
   cases hl:lo s.own b with
   |none=>exact RH
   |some B=>
    simp only;obtain⟨rw_,hz⟩:=ha.vJ hb hl;obtain⟨h1,h2,h3,h4⟩:=hs.own b _ hz;obtain⟨_,g,o1,Rt,rfl⟩:=hr
    cases hB:B.bk with
    |var cs=>
     simp only[P5];rw[hB]at h3;unfold aL at h3;rw[Rt]at h3;obtain⟨cur,e,hg,RQ⟩:=h3;refine⟨g,o1,1,1,⟨_,1,rfl,Nat.le_refl _,.inr ⟨g,o1,rfl,.inr ⟨b,hi b (by simp[gz]) hb,_,_,hz,Rt⟩,fun i j hi hj=>?_⟩⟩,by omega,by rw[Nat.zero_mul,Nat.zero_add]⟩;obtain rfl:i=0:=by omega
     obtain⟨u,hu,hr⟩:=RQ j (cs.getD j .any) (by simp only[Bk.cell];rw[X7,X8 hj];rfl);refine⟨u,?_,EE hx hr⟩;rw[cell_of_row w g _ cur e (0,0) hg,Nat.zero_mul,Nat.zero_add,hu]
    |ints e k xs=>exact RH
    |rows e w' n f=>exact RH
    |wins e b2 n g=>exact RH
  exact RH
 |eptr b wd i off=>exact RH
 |fn f n caps=>
  simp only[jZ]
  split
  ·rename_i hn
   subst hn;obtain⟨cs,hv,R2,_⟩:=hr;exact⟨cs,hv,R2,fun i hi=>absurd hi (Nat.not_lt_zero _)⟩
  exact RH
 |any=>exact RH
 |bool b=>exact aA.bh (aO.ext hx (.bool b) v hr)
 |int k n=>exact aA.bh (aO.ext hx (.int k n) v hr)
 |str b=>exact aA.bh (aO.ext hx (.str b) v hr)
 |nil=>exact aA.bh (aO.ext hx .nil v hr)
 |ints k xs=>exact aA.bh (aO.ext hx (.ints k xs) v hr)
 |rows wd n f=>exact aA.bh (aO.ext hx (.rows wd n f) v hr)
 |elt c wd i off=>exact aA.bh (aO.ext hx (.elt c wd i off) v hr)
theorem p9 (hs:aR G dom ρ Z a w)(ha:gp s Z nx0 o)(ids:List Nat):∀(cs:List C) (vs:List Value),(∀b∈cs.flatMap gz,b<nx0→b∈ids)→bI ρ dom (aE G Z.own ρ w) w cs vs→bI bm bn (cU G Z.own ρ w ids) w (cs.map (jZ s.own nx0)) vs
 |[],[],_,_=>trivial
 |c::cs,v::vs,hi,hr=>⟨np hs ha c v ids (fun b hb=>hi b (by simp[hb])) hr.1,p9 hs ha ids cs vs (fun b hb=>hi b (by rw[List.flatMap_cons];exact List.mem_append_right _ hb)) hr.2⟩
 |[],_::_,_,hr=>hr.elim
 |_::_,[],_,hr=>hr.elim
theorem nL (hs:aR G dom ρ Z a w)(ha:gp s Z nx0 o)(ids:List Nat)(x:V)(v:Value)(hi:∀b∈kv x,b<nx0→b∈ids)(hr:bY ρ dom (aE G Z.own ρ w) w x v):
  dJ bm bn (cU G Z.own ρ w ids) w (BQ s.own nx0 x) v:=by
 cases x with
 |one c=>exact np hs ha c v ids hi hr
 |agg cs=>obtain⟨vs,rfl,hl⟩:=hr;exact⟨vs,rfl,p9 hs ha ids cs _ hi hl⟩
 |aF xs=>trivial
 |unk=>trivial
end view
theorem j9 {c:C}{v:Value}{ρ ρ':Nat→Loc}{dom dom' ok ok':Nat→Prop}{w:World}(hs:gj c=true)(h:aA ρ dom ok w c v):aA ρ' dom' ok' w c v:=by
 cases c<;>simp [gj]at hs<;>exact h
theorem my {ρ ρ':Nat→Loc}{dom dom' ok ok':Nat→Prop}{w:World}:∀{cs:List C} {vs:List Value},cs.all gj=true→bI ρ dom ok w cs vs→bI ρ' dom' ok' w cs vs
 |[],[],_,_=>trivial
 |_::cs,_::vs,h,hr=>by
  simp only[List.all_cons,Bool.and_eq_true]at h;exact⟨j9 h.1 hr.1,my h.2 hr.2⟩
 |[],_::_,_,hr=>hr.elim
 |_::_,[],_,hr=>hr.elim
theorem pf {ρ ρ':Nat→Loc}{dom dom' ok ok':Nat→Prop}{w:World}:∀{xs:List V} {vs:List Value},(xs.all fun|.one c=>gj c|.agg cs=>cs.all gj|.unk=>true|.aF _=>false)=true→a6 ρ dom ok w xs vs→a6 ρ' dom' ok' w xs vs
 |[],[],_,_=>trivial
 |x::xs,_::vs,h,hr=>by
  simp only[List.all_cons,Bool.and_eq_true]at h;refine⟨?_,pf h.2 hr.2⟩
  cases x with
  |one c=>exact j9 h.1 hr.1
  |agg cs=>obtain⟨us,hu,hl⟩:=hr.1;exact⟨us,hu,my h.1 hl⟩
  |aF ys=>exact absurd h.1 (by simp)
  |unk=>trivial
 |[],_::_,_,hr=>hr.elim
 |_::_,[],_,hr=>hr.elim
theorem y6 {x:V}{v:Value}{ρ ρ':Nat→Loc}{dom dom' ok ok':Nat→Prop}{w:World}(hs:nv x=true)(h:bY ρ dom ok w x v):bY ρ' dom' ok' w x v:=by
 cases x with
 |unk=>trivial
 |one c=>exact j9 hs h
 |agg cs=>obtain⟨us,hu,hl⟩:=h;exact⟨us,hu,my hs hl⟩
 |aF xs=>obtain⟨us,hu,hl⟩:=h;exact⟨us,hu,pf hs hl⟩
theorem a6.mc {ρ:Nat→Loc}{dom ok:Nat→Prop}{w:World}{α:Type}(f:α→V)(g:α→Value):∀(l:List α),(∀x∈l,dJ ρ dom ok w (f x) (g x))→a6 ρ dom ok w (l.map f) (l.map g)
 |[],_=>trivial
 |x::l,h=>⟨h x (by simp),a6.mc f g l (fun y hy=>h y (by simp[hy]))⟩
theorem a6.append {ρ:Nat→Loc}{dom ok:Nat→Prop}{w:World}:∀{xs ys:List V} {vs us:List Value},a6 ρ dom ok w xs vs→a6 ρ dom ok w ys us→a6 ρ dom ok w (xs++ys) (vs++us)
 |[],_,[],_,_,h=>h
 |_::_,_,_::_,_,h,h'=>⟨h.1,a6.append h.2 h'⟩
 |[],_,_::_,_,h,_=>h.elim
 |_::_,_,[],_,h,_=>h.elim
theorem a6.uB {ρ:Nat→Loc}{dom ok:Nat→Prop}{w:World}:∀(f:Nat→V) (vs:List Value),(∀i,i<vs.length→dJ ρ dom ok w (f i) (vs.getD i undef))→a6 ρ dom ok w ((List.range vs.length).map f) vs
 |_,[],_=>trivial
 |f,v::vs,h=>by
  rw[List.length_cons,List.range_succ_eq_map,List.map_cons,List.map_map];exact⟨h 0 (by simp),a6.uB (f∘Nat.succ) vs fun i hi=>h (i+1) (by simpa using hi)⟩
theorem aA.xA {ρ:Nat→Loc}{dom ok:Nat→Prop}{w:World}{c:C}{v:Value}(h:ey ρ dom ok w c v):aA ρ dom ok w c v:=by
 cases c with
 |fn f n caps=>exact aA.bh h
 |own b wd off len=>exact h
 |win b b2 off len=>exact h
 |ptr b off=>exact h
 |eptr b wd i off=>exact h
 |any=>exact h
 |bool b=>exact h
 |int k n=>exact h
 |str b=>exact h
 |nil=>exact h
 |ints k xs=>exact h
 |rows wd n f=>exact h
 |elt c wd i off=>exact h
theorem ey.pZ {ρ:Nat→Loc}{dom ok:Nat→Prop}{w:World}{c:C}{v:Value}(hn:∀f n caps,c≠ .fn f n caps)(h:aA ρ dom ok w c v):ey ρ dom ok w c v:=by
 cases c with
 |fn f n caps=>exact absurd rfl (hn f n caps)
 |own b wd off len=>exact h
 |win b b2 off len=>exact h
 |ptr b off=>exact h
 |eptr b wd i off=>exact h
 |any=>exact h
 |bool b=>exact h
 |int k n=>exact h
 |str b=>exact h
 |nil=>exact h
 |ints k xs=>exact h
 |rows wd n f=>exact h
 |elt c wd i off=>exact h
theorem nr {G:Ctx}{dom:Nat→Prop}{ρ:Nat→Loc}{Z s:St}{a:Act}{w:World}{nx0:Nat}{o:Oper}(hs:aR G dom ρ Z a w)(ha:gp s Z nx0 o)(ids:List Nat)(x:V)(v:Value)(hi:∀b∈pe x,b<nx0→b∈ids)(hr:bY ρ dom (aE G Z.own ρ w) w x v):
  dJ bm bn (cU G Z.own ρ w ids) w (DK s.own nx0 x) v:=by
 by_cases hx:∃f n caps,x= .one (.fn f n caps)
 ·obtain⟨f,n,caps,rfl⟩:=hx;simp only[DK]
  split
  ·rename_i h0
   subst h0;obtain⟨cs,rfl,h1,_⟩:=hr;exact⟨cs,rfl,h1,fun i hi=>absurd hi (Nat.not_lt_zero _)⟩
  obtain⟨cs,rfl,h1,h2⟩:=hr;refine⟨cs,rfl,h1,fun i R6=>?_⟩;have h3:=aA.xA (h2 i R6);have SQ:∀b∈gz (caps i),b<nx0→b∈ids:=fun b hb=>hi b (by
   simp only[pe];rw[if_neg (by omega)]
   split
   ·obtain rfl:i=0:=by omega
    exact hb
   exact List.mem_flatMap.2 ⟨i,List.mem_range.2 R6,hb⟩)
  have h4:=np hs ha (caps i) _ ids SQ h3;have RH:=(aA.plain h3).1;show ey bm bn _ w (NM s.own nx0 (caps i)) _
  revert h4
  cases hc:caps i with
  |fn f n c=>intro _;exact RH
  |own b wd off len=>
   intro h4;refine ey.pZ (fun f n c e=>?_) h4;simp only[NM,jZ]at e
   split at e
   ·split at e
    ·rename_i B _;cases hB:B.bk<;>rw [hB]at e<;>simp only[gg]at e<;>(first|cases e|(split at e<;>cases e))
    cases e
   cases e
  |win b b2 off len=>
   intro h4;refine ey.pZ (fun f n c e=>?_) h4;simp only[NM,jZ]at e
   split at e
   ·split at e
    ·split at e
     ·rename_i B _;cases hB:B.bk<;>rw [hB]at e<;>simp only[LW]at e<;>(first|cases e|(split at e<;>cases e))
     cases e
    cases e
   cases e
  |ptr b off=>
   intro h4;refine ey.pZ (fun f n c e=>?_) h4;simp only[NM,jZ]at e
   split at e
   ·split at e
    ·rename_i B _;cases hB:B.bk<;>rw [hB]at e<;>simp only[P5]at e<;>cases e
    cases e
   cases e
  |_=>intro h4;exact ey.pZ (fun f n c e=>by simp only[NM,jZ]at e;cases e) h4
 have e1:DK s.own nx0 x=BQ s.own nx0 x:=by
  unfold DK
  split
  ·rename_i f n caps;exact absurd ⟨f,n,caps,rfl⟩ hx
  rfl
 have e2:pe x=kv x:=by
  unfold pe
  split
  ·rename_i f n caps;exact absurd ⟨_,n,caps,rfl⟩ hx
  rfl
 rw[e1];rw[e2]at hi;exact nL hs ha ids x v hi hr
theorem kX {P:Program}{w:World}{f:FuncId}(h:iF P f)(args:Array Value):(callFunc f args).run P w= .ok (.enter f args) w:=by
 obtain⟨fn,hf,hb,hn⟩:=h;unfold callFunc;simp only[Sem.run_bind,run_program,Result.andThen_ok,hf,hn,hb,Bool.false_eq_true,↓reduceIte,Sem.run_pure]
section
variable {P:Program}{T:fB}(hT:eH P T){o:Oper}{s:St}{nx0 id:Nat}{K:eJ→Prop}
theorem PJ {c:Call}{g:Operand}(ho:o.op= .call c)(hc:c.callee= .value g)(hd:bU o s.n)(h:wu P s nx0 id g c.args.toList K):∃e,K e∧a7 P o s nx0 id e:=by
 have UW:g∈o.op.operands:=by rw[ho];simp[Op.operands,Call.operands,hc]
 have XQ:∀x∈c.args.toList,x∈o.op.operands:=fun x hx=>by rw[ho];simp only[Op.operands,Call.operands];exact Array.mem_append_right _ (by simpa using hx)
 unfold wu at h
 split at h
 ·rename_i f n caps hg
  rcases h with⟨r,⟨Ss,hpure⟩,hK⟩|hF
  ·refine⟨_,hK,?_,fun h=>by rw[ho]at h;simp[iV,hc]at h⟩;intro G dom ρ Z a w hs hid ha Q next hk;have UX:=hs.ev g;rw[aY ha UW hg]at UX;obtain⟨cs,UX,R2,Yx⟩:=UX;have RB:(execOp a.eval o).run P w= .ok (.enter f (c.args.map a.eval++cs)) w:=by
    unfold execOp;rw[ho];simp only[resolve,hc,Sem.run_bind,UX,Deferred.ofValue,Sem.run_pure,Result.andThen_ok,invoke]
    have:=kX (w:=w) Ss (c.args.map a.eval++cs)
    simpa using this
   unfold Oper.wp;rw[RB,Oper.upon_enter]
   let ids:=((c.args.toList.map s.ev++mP n caps).map pe).flatten.filter (fun b=>decide (b<nx0))
   have Ru:∀g,cU G Z.own ρ w ids g→g<w.heap.size:=by
    rintro g (h1|⟨b,_,B,o',hl,R8⟩)
    ·exact h1.1
    exact((hs.own b B hl).2.2.2 g o' R8).1
   have SJ:∀x,x∈c.args.toList.map s.ev++mP n caps→∀b∈pe x,b<nx0→b∈ids:=fun x hx b hb Ru=>List.mem_filter.2 ⟨List.mem_flatten.2 ⟨_,List.mem_map.2 ⟨x,hx,rfl⟩,hb⟩,by simpa using Ru⟩;have Ry:a6 bm bn (cU G Z.own ρ w ids) w ((c.args.toList.map s.ev++mP n caps).map (DK s.own nx0)) (c.args.map a.eval++cs).toList:=by
    rw[Array.toList_append,Array.toList_map,List.map_append,List.map_map];refine a6.append (a6.mc (DK s.own nx0∘s.ev) a.eval c.args.toList fun x hx=>?_) ?_
    ·have RA:=hs.ev x;rw[ha.ev x (XQ x hx)]at RA;exact nr hs ha ids _ _ (SJ _ (List.mem_append_left _ (List.mem_map.2 ⟨x,hx,rfl⟩))) RA
    have hn:n=cs.toList.length:=by simp[R2]
    unfold mP at SJ⊢;rw[hn,List.map_map];refine a6.uB _ _ fun i hi=>?_;have R6:i<n:=by omega
    have h1:=Yx i R6;have h2:cs.toList.getD i undef=cs.getD i undef:=by simp[Array.getD_eq_getD_getElem?,X7]
    rw[h2];exact nr hs ha ids (.one (caps i)) _ (SJ (.one (caps i)) (List.mem_append_right _ (List.mem_map.2 ⟨i,List.mem_range.2 R6,rfl⟩))) (aA.xA h1)
   refine Calls.mono (hpure _ w _ Ru Ry) fun e w' he=>?_;obtain⟨v,rfl,hb,hr⟩:=he;refine hk v w' ?_;have h1:=hs.grown hb
   by_cases Wj:nv r=true
   ·rw[if_pos Wj,St.add_plain];exact⟨ρ,(h1.put (dst:=o.dst) (x:=r) (v:=v) (fun d hh=>by have:=hd d hh;rw[←ha.n]at this;exact this) (y6 Wj hr)).cR (fun b hb=>Or.inl hb)⟩
   rw[if_neg Wj];have h2:=h1.dF ids;have RW:∀g,(cU G Z.own ρ w ids g∨(w.heap.size≤g∧g<w'.heap.size))→aE G (dF Z.own ids) ρ w' g:=by
    rintro g ((h3|⟨b,RJ,B,o',hl,R8⟩)|⟨h3,h4⟩)
    ·exact kI ⟨Nat.lt_of_lt_of_le h3.1 hb.size,h3.2⟩
    ·obtain⟨_,_,_,h4⟩:=hs.own b B hl;obtain⟨h5,h6,_⟩:=h4 g o' R8;refine⟨Nat.lt_of_lt_of_le h5 hb.size,h6,fun b2 B2 Rv RN o2 RT=>?_⟩;rw[fy]at Rv
     cases R7:lo Z.own b2 with
     |none=>rw[R7]at Rv;simp at Rv
     |some B3=>
      rw[R7]at Rv;simp only[Option.map_some,Option.some.injEq]at Rv
      by_cases hm:ids.contains b2=true
      ·rw[if_pos hm]at Rv;subst Rv;simp at RN
      rw[if_neg hm]at Rv;subst Rv
      by_cases TP:b2=b
      ·subst TP;exact hm (by simpa using RJ)
      exact hs.inj b2 B3 b B R7 hl TP RN g o2 o' RT R8
    refine⟨h4,fun hf=>absurd (hs.wf _ hf) (by have:=hs.size;omega),fun b2 B2 Rv _ o2 RT=>?_⟩
    have:=(h2.own b2 B2 Rv).2.2.2 g o2 RT
    rw[fy]at Rv
    cases R7:lo Z.own b2 with
    |none=>rw[R7]at Rv;simp at Rv
    |some B3=>exact absurd ((hs.own b2 B3 R7).2.2.2 g o2 RT).1 (by omega)
   have Xa:bY ρ dom (aE G (dF Z.own ids) ρ w') w' r v:=
    bY.ext (dom:=bn) (ρ:=bm) (Ext.du RW) ⟨fun b hb=>hb.elim,fun b hb=>hb.elim⟩ _ _ hr
   have h3:=(h2.put (dst:=o.dst) (x:=r) (v:=v) (fun d hh=>by have:=hd d hh;rw[←ha.n]at this;exact this) Xa).cR (dom':=fun b=>dom b∨b=id) (fun b hb=>Or.inl hb);refine⟨ρ,?_⟩;have e2:Z.add o.dst id ⟨r,none,ids⟩=St.put {Z with own:=dF Z.own ids} o.dst r∨ids=[]:=by
    cases hi:ids with
    |nil=>exact .inr rfl
    |cons x l=>left;cases o.dst<;>rfl
   rcases e2 with e2|e2
   ·show aR G _ ρ (Z.add o.dst id ⟨r,none,ids⟩) _ w';rw[e2];exact h3
   show aR G _ ρ (Z.add o.dst id ⟨r,none,ids⟩) _ w';rw[e2,St.add_plain];have hfe:∀l:List (Nat×fA),dF l []=l:=by
    intro l
    induction l with
    |nil=>rfl
    |cons x l ih=>obtain⟨b,B⟩:=x;simp[dF,ih]
   rw[e2,hfe]at h3;exact h3
  have h3:∃(B:Bk) (x:V),K ⟨x,some B,((c.args.toList.map s.ev++mP n caps).map pe).flatten.filter (fun b=>decide (b<nx0))⟩∧iF P f∧∀(ok:Nat→Prop) (w:World) (vs:Array Value),(∀g,ok g→g<w.heap.size)→
    a6 bm bn ok w ((c.args.toList.map s.ev++mP n caps).map (DK s.own nx0)) vs.toList→Calls P f vs w fun e w'=>∃v l,e= .returned v∧Go.RowKit.Below w.heap.size w w'∧l.len=B.len∧
     (∀g o,l.addr=some (g,o)→w.heap.size≤g∧g<w'.heap.size)∧aL bm bn (fun g=>ok g∨(w.heap.size≤g∧g<w'.heap.size∧∀o,l.addr≠some (g,o))) w' l B∧
     ∀(ρ:Nat→Loc) (dom ok':Nat→Prop),ρ id=l→dom id→bY ρ dom ok' w' x v:=by
   have key:∀{B:Bk} {l:Loc} {w':World} {v:Value},ey (fun _=>l) (fun _=>True) (fun _=>False) w' (.own 0 B.wd 0 B.len) v→∀(ρ:Nat→Loc) (dom ok':Nat→Prop),ρ id=l→dom id→aA ρ dom ok' w' (.own id B.wd 0 B.len) v:=by
    rintro B l w' v ⟨_,TF,hv3⟩ ρ dom ok' hl hd;subst hl;exact⟨hd,TF,hv3⟩
   rcases hF with⟨B,⟨Ss,_,Tv⟩,hK⟩|⟨B,c',⟨Wj,Ss,_,Tv⟩,hK⟩
   ·refine⟨B,_,hK,Ss,fun ok w vs h1 h2=>Calls.mono (Tv ok w vs h1 h2) fun e w' he=>?_⟩;obtain⟨v,l,he,hb,hlen,Sl,Rx,RI⟩:=he;exact⟨v,l,he,hb,hlen,Sl,Rx,fun ρ dom ok' hl hd=>key RI ρ dom ok' hl hd⟩
   refine⟨B,_,hK,Ss,fun ok w vs h1 h2=>Calls.mono (Tv ok w vs h1 h2) fun e w' he=>?_⟩;obtain⟨v,u,l,he,hb,hlen,Sl,Rx,RI,hu⟩:=he;refine⟨_,l,he,hb,hlen,Sl,Rx,fun ρ dom ok' hl hd=>⟨_,rfl,key RI ρ dom ok' hl hd,?_,trivial⟩⟩
   cases c'<;>first|exact Wj.elim|exact hu
  obtain⟨B,x,hK,Ss,Tv⟩:=h3;refine⟨_,hK,?_,fun h=>by rw[ho]at h;simp[iV,hc]at h⟩;intro G dom ρ Z a w hs hid ha Q next hk;have UX:=hs.ev g;rw[aY ha UW hg]at UX;obtain⟨cs,UX,R2,Yx⟩:=UX;have RB:(execOp a.eval o).run P w= .ok (.enter f (c.args.map a.eval++cs)) w:=by
   unfold execOp;rw[ho];simp only[resolve,hc,Sem.run_bind,UX,Deferred.ofValue,Sem.run_pure,Result.andThen_ok,invoke]
   have:=kX (w:=w) Ss (c.args.map a.eval++cs)
   simpa using this
  unfold Oper.wp;rw[RB,Oper.upon_enter]
  let ids:=((c.args.toList.map s.ev++mP n caps).map pe).flatten.filter (fun b=>decide (b<nx0))
  have Ru:∀g,cU G Z.own ρ w ids g→g<w.heap.size:=by
   rintro g (h1|⟨b,_,B,o',hl,R8⟩)
   ·exact h1.1
   exact((hs.own b B hl).2.2.2 g o' R8).1
  have SJ:∀x,x∈c.args.toList.map s.ev++mP n caps→∀b∈pe x,b<nx0→b∈ids:=fun x hx b hb Ru=>List.mem_filter.2 ⟨List.mem_flatten.2 ⟨_,List.mem_map.2 ⟨x,hx,rfl⟩,hb⟩,by simpa using Ru⟩;have Ry:a6 bm bn (cU G Z.own ρ w ids) w ((c.args.toList.map s.ev++mP n caps).map (DK s.own nx0)) (c.args.map a.eval++cs).toList:=by
   rw[Array.toList_append,Array.toList_map,List.map_append,List.map_map];refine a6.append (a6.mc (DK s.own nx0∘s.ev) a.eval c.args.toList fun x hx=>?_) ?_
   ·have RA:=hs.ev x;rw[ha.ev x (XQ x hx)]at RA;exact nr hs ha ids _ _ (SJ _ (List.mem_append_left _ (List.mem_map.2 ⟨x,hx,rfl⟩))) RA
   have hn:n=cs.toList.length:=by simp[R2]
   unfold mP at SJ⊢;rw[hn,List.map_map];refine a6.uB _ _ fun i hi=>?_;have R6:i<n:=by omega
   have h1:=Yx i R6;have h2:cs.toList.getD i undef=cs.getD i undef:=by simp[Array.getD_eq_getD_getElem?,X7]
   rw[h2];exact nr hs ha ids (.one (caps i)) _ (SJ (.one (caps i)) (List.mem_append_right _ (List.mem_map.2 ⟨i,List.mem_range.2 R6,rfl⟩))) (aA.xA h1)
  refine Calls.mono (Tv _ w _ Ru Ry) fun e w' he=>?_;obtain⟨v,l,rfl,hb,hlen,Sl,Rx,RI⟩:=he;refine hk v w' ?_;have h2:=hs.dF ids;have RW:∀g,(cU G Z.own ρ w ids g∨(w.heap.size≤g∧g<w'.heap.size∧∀o,l.addr≠some (g,o)))→aE G (dZ (dF Z.own ids) id ⟨B,true⟩) (aZ ρ id l) w' g:=by
   have step:∀g,g<w'.heap.size→¬G.forb g→(∀o,l.addr≠some (g,o))→(∀b2 B2,lo (dF Z.own ids) b2=some B2→B2.rw=true→∀o2,(ρ b2).addr≠some (g,o2))→aE G (dZ (dF Z.own ids) id ⟨B,true⟩) (aZ ρ id l) w' g:=by
    intro g h1 h2 h3 h4;refine⟨h1,h2,fun b2 B2 Rv RN o2=>?_⟩;rw[bX]at Rv
    by_cases RJ:b2=id
    ·subst RJ;rw[lZ];exact h3 o2
    rw[if_neg RJ]at Rv;rw[aU _ _ RJ];exact h4 b2 B2 Rv RN o2
   rintro g ((h3|⟨b,RJ,B2,o',hl,R8⟩)|⟨h3,h4,h5⟩)
   ·exact step g (Nat.lt_of_lt_of_le h3.1 hb.size) h3.2.1 (fun o he=>absurd h3.1 (by have:=(Sl g o he).1;omega)) (kI h3).2.2
   ·obtain⟨_,_,_,h4⟩:=hs.own b B2 hl;obtain⟨h5,h6,_⟩:=h4 g o' R8;refine step g (Nat.lt_of_lt_of_le h5 hb.size) h6 (fun o he=>absurd h5 (by have:=(Sl g o he).1;omega)) fun b2 B3 Rv RN o2 RT=>?_;rw[fy]at Rv
    cases R7:lo Z.own b2 with
    |none=>rw[R7]at Rv;simp at Rv
    |some B4=>
     rw[R7]at Rv;simp only[Option.map_some,Option.some.injEq]at Rv
     by_cases hm:ids.contains b2=true
     ·rw[if_pos hm]at Rv;subst Rv;simp at RN
     rw[if_neg hm]at Rv;subst Rv
     by_cases TP:b2=b
     ·subst TP;exact hm (by simpa using RJ)
     exact hs.inj b2 B4 b B2 R7 hl TP RN g o2 o' RT R8
   refine step g h4 (fun hf=>absurd (hs.wf _ hf) (by have:=hs.size;omega)) h5 fun b2 B2 Rv _ o2 RT=>?_;rw[fy]at Rv
   cases R7:lo Z.own b2 with
   |none=>rw[R7]at Rv;simp at Rv
   |some B3=>exact absurd ((hs.own b2 B3 R7).2.2.2 g o2 RT).1 (by omega)
  have VC:aL (aZ ρ id l) (fun b=>dom b∨b=id) (aE G (dZ (dF Z.own ids) id ⟨B,true⟩) (aZ ρ id l) w') w' l B:=
   aL.ext (dom:=bn) (ρ:=bm) (Ext.du RW) ⟨fun b hb=>hb.elim,fun b hb=>hb.elim⟩ _ _ (fun _ _ _=>rfl) Rx
  have h3:=h2.KM hb hid B l hlen Sl VC;have VD:bY (aZ ρ id l) (fun b=>dom b∨b=id) (aE G (dZ (dF Z.own ids) id ⟨B,true⟩) (aZ ρ id l) w') w' x v:=RI _ _ _ (lZ ..) (.inr rfl);refine⟨aZ ρ id l,?_⟩;have h4:=h3.put (dst:=o.dst) (x:=x) (v:=v) (fun d hh=>by have:=hd d hh;rw[←ha.n]at this;exact this) VD;have e2:Z.add o.dst id ⟨x,some B,ids⟩=St.put {Z with own:=dZ (dF Z.own ids) id ⟨B,true⟩} o.dst x:=by
   unfold St.add;simp only
   have:uP Z.own ids=dF Z.own ids:=by
    cases hi:ids with
    |nil=>
     have hfe:∀l:List (Nat×fA),dF l []=l:=by
      intro l
      induction l with
      |nil=>rfl
      |cons x l ih=>obtain⟨b,B⟩:=x;simp[dF,ih]
     simp[uP,hfe]
    |cons x l=>rfl
   rw[this]
   cases o.dst<;>rfl
  show aR G _ _ (Z.add o.dst id ⟨x,some B,ids⟩) _ w';rw[e2];exact h4
 exact h.elim
end
end Go.Eng
namespace Go.Eng
open Go
theorem ra {s Z:St}{nx0:Nat}{o:Oper}{G:Ctx}{dom:Nat→Prop}{ρ:Nat→Loc}{a:Act}{w:World}(hs:aR G dom ρ Z a w):∀(l:List (Nat×Operand)),(∀p∈l,Z.ev p.2=s.ev p.2)→
  Li ρ dom (aE G Z.own ρ w) w (l.map fun p=>(p.1,s.ev p.2)) (l.map fun p=>(p.1,a.eval p.2))
 |[],_=>trivial
 |p::l,h=>⟨rfl,by have:=hs.ev p.2;rw[h p (by simp)]at this;exact this,ra (nx0:=nx0) (o:=o) hs l (fun q hq=>h q (by simp[hq]))⟩
theorem tY {s Z:St}{nx0:Nat}{o:Oper}{G:Ctx}{dom:Nat→Prop}{ρ:Nat→Loc}{a:Act}{w:World}(hs:aR G dom ρ Z a w)(ha:gp s Z nx0 o)(ids:List Nat):∀(l:List (Nat×Operand)),(∀p∈l,Z.ev p.2=s.ev p.2)→(∀p∈l,∀b∈kv (s.ev p.2),b<nx0→b∈ids)→
  Li bm bn (aE G (dF Z.own ids) ρ w) w (l.map fun p=>(p.1,BQ s.own nx0 (s.ev p.2))) (l.map fun p=>(p.1,a.eval p.2))
 |[],_,_=>trivial
 |p::l,h,hi=>by
  refine⟨rfl,?_,tY hs ha ids l (fun q hq=>h q (by simp[hq])) (fun q hq=>hi q (by simp[hq]))⟩;have RA:=hs.ev p.2;rw[h p (by simp)]at RA;have h1:=nL hs ha ids _ _ (hi p (by simp)) RA;have h2:=dJ.ext (ρ:=bm) (ρ':=bm) (dom:=bn) (dom':=bn) (Ext.du fun g hg=>wk hs ids hg) ⟨fun _ h=>h,fun _ _=>rfl⟩ _ _ h1
  revert h2
  cases hx:BQ s.own nx0 (s.ev p.2)with
  |one c=>exact fun h=>h
  |agg cs=>exact fun h=>h
  |aF xs=>exact fun h=>h.elim
  |unk=>exact fun _=>trivial
theorem aO.dV {ok:Nat→Prop}{w:World}{c:C}{v:Value}(h:aA bm bn ok w c v):aO ok w c v:=by
 cases c with
 |own b wd off len=>exact h.1.elim
 |win b b2 off len=>exact h.1.elim
 |ptr b off=>exact h.1.elim
 |eptr b wd i off=>exact h.1.elim
 |fn f n caps=>
  obtain⟨cs,hv,hn,R2⟩:=h;refine⟨cs,hv,hn,fun i hi=>?_⟩
  have:=R2 i hi
  unfold ey at this
  cases hc:caps i with
  |own b wd off len=>rw[hc]at this;exact this.1.elim
  |win b b2 off len=>rw[hc]at this;exact this.1.elim
  |ptr b off=>rw[hc]at this;exact this.1.elim
  |eptr b wd i off=>rw[hc]at this;exact this.1.elim
  |_=>rw[hc]at this;exact this
 |_=>exact h
theorem kq (z:List C):∀n,(eX z n).length=n*z.length
 |0=>by simp[eX]
 |n+1=>by simp[eX,kq z n,Nat.add_mul];omega
theorem oF (z:List C):∀(n j:Nat),j<n*z.length→(eX z n)[j]? =z[j%z.length]?
 |0,j,h=>by simp at h
 |n+1,j,h=>by
  simp only[eX,List.getElem?_append]
  split
  ·rename_i hj;rw[Nat.mod_eq_of_lt hj]
  rename_i hj
  rw[oF z n (j-z.length) (by rw[Nat.add_mul]at h;omega)]
  congr 1
  exact(Nat.mod_eq_sub_mod (by omega)).symm
theorem mz (size:Nat):∀(n i j:Nat) p,(gq size i n)[j]? =some p→p=((i+j)*size,size)
 |0,i,j,p,h=>by simp[gq]at h
 |n+1,i,0,p,h=>by simp[gq]at h;simp[←h]
 |n+1,i,j+1,p,h=>by
  have:=mz size n (i+1) j p (by simpa[gq]using h)
  rw[this,show i+1+j=i+(j+1) by omega]
theorem kA {ρ:Nat→Loc}{dom ok:Nat→Prop}{w:World}(z:Array Value)(n:Nat)(hz:0<z.size)(Rz:z.toList.all Value.oneCell'=true):
  bI ρ dom ok w (eX (z.toList.map CP) n) ((Array.range (n*z.size)).map (fun i=>z[i%z.size]!)).toList:=by
 refine bI.AZ ?_ ?_
 ·rw[kq];simp
 intro j c v hc hv;have hj:j<n*z.size:=by
  have:=(List.getElem?_eq_some_iff.1 hv).1
  simpa using this
 rw[oF _ _ _ (by simpa using hj)]at hc;simp only[List.length_map,Array.length_toList,List.getElem?_map]at hc;have hm:j%z.size<z.size:=Nat.mod_lt _ hz
 simp[hj]at hv
 rw[X8 (by simpa using hm)]at hc;simp only[Option.map_some,Option.some.injEq,Array.getElem_toList]at hc;subst hc;have ZF:z[j%z.size]! =z[j%z.size]:=by simp[hm]
 rw[←hv,ZF];exact yq _ (List.all_eq_true.1 Rz _ (by simp))
theorem th (k:IntKind):∀(cs:List C) (xs:List Int),lq k cs=some xs→cs=xs.map (C.int k)
 |[],xs,h=>by simp[lq]at h;subst h;rfl
 |c::cs,xs,h=>by
  cases c with
  |int k' n=>
   simp only[lq]at h
   split at h
   ·rename_i hk
    subst hk
    cases hr:lq k' cs with
    |none=>rw[hr]at h;simp at h
    |some ys=>
     rw[hr]at h;simp only[Option.map_some,Option.some.injEq]at h;subst h;rw[th k' cs ys hr];rfl
   simp at h
  |_=>simp[lq]at h
theorem oW (fs:List (Nat×Nat)):∀(xs:List (Nat×V)) (cs out:List C),jE fs cs xs=some out→out.length=cs.length
 |[],cs,out,h=>by simp[jE]at h;rw[h]
 |(i,x)::xs,cs,out,h=>by
  simp only[jE]at h
  split at h
  ·simp at h
  split at h
  ·rename_i hc
   rw[oW fs xs _ out h,n9 _ _ _ (by omega)]
  simp at h
section
variable {P:Program}{T:fB}(hT:eH P T){o:Oper}{s:St}{nx0 id:Nat}{K:eJ→Prop}
include hT in
theorem NT {e:TypeId}(ho:o.op= .alloc e)(hd:bU o s.n){E:Ty}(hE:T e=some E)(h:K ⟨.one (.ptr id 0),some (.var E.zero),[]⟩):∃f,K f∧a7 P o s nx0 id f:=by
 obtain⟨i,d,z,hi,hu,hz,hk,_,_,Tn,Rz⟩:=bD hT hE;refine⟨_,h,a7.newVar (e:=e) (by rw[ho];rfl) hd fun G dom ρ Z a w hs ha=>⟨z.cells,?_,?_⟩⟩
 ·unfold execOp;rw[ho];refine dT ?_;simp only[Instr.alloc,newVar,newRow,Sem.run_bind,fK hi hz,Result.andThen_ok,run_newObj,Sem.run_pure];rfl
 rw[Tn];exact pr _ Rz
theorem Qs {e:TypeId}{x:Operand}(ho:o.op= .box e x)(hd:bU o s.n)(hx:(s.ev x).ob=true)(h:K ⟨.one (.ptr id 0),some (.var (cellsOf (s.ev x))),[]⟩):∃f,K f∧a7 P o s nx0 id f:=by
 have Sb:x∈o.op.operands:=by rw[ho];simp[Op.operands]
 refine⟨_,h,a7.newVar (e:=e) (by rw[ho];rfl) hd fun G dom ρ Z a w hs ha=>⟨(a.eval x).cells,?_,?_⟩⟩
 ·unfold execOp;rw[ho];refine dT ?_;simp only[Instr.box,newVar,newRow,Sem.run_bind,Result.andThen_ok,run_newObj,Sem.run_pure];rfl
 have RA:=hs.ev x;rw[ha.ev x Sb]at RA;exact bY.cells RA hx
include hT in
theorem Ot {t:TypeId}{parts:Array (Nat×Operand)}(ho:o.op= .build t parts)(hd:bU o s.n){E:Ty}(hE:T t=some E){fs:List (Nat×Nat)}(Ys:E.k= .st fs){cs:List C}
  (hf:jE fs E.zero (parts.toList.map fun p=>(p.1,s.ev p.2))=some cs) (h:K ⟨.agg cs,none,[]⟩):∃f,K f∧a7 P o s nx0 id f:=by
 obtain⟨i,d,z,hi,hu,hz,hk,_,_,Tn,Rz⟩:=bD hT hE;rw[Ys]at hk;obtain⟨fields,rfl,UU⟩:=qV hk.symm;have XR:∀p∈parts.toList,p.2∈o.op.operands:=fun p hp=>by rw[ho];simp only[Op.operands];simpa using⟨p.1,by simpa using hp⟩
 refine⟨_,h,a7.pure hd fun G dom ρ Z a w hs ha=>?_⟩;have Tx:=ra (s:=s) (nx0:=nx0) (o:=o) hs parts.toList (fun p hp=>ha.ev p.2 (XR p hp));have UY:bI ρ dom (aE G Z.own ρ w) w E.zero z.cells.toList:=by rw[Tn];exact pr _ Rz
 obtain⟨cells',h1,h2⟩:=oR (place:=(fs.toArray[·]?)) (fs:=fs) (fun i p hp=>by simpa using hp) _ _ _ _ _ Tx UY hf;refine⟨.agg cells',?_,cells',rfl,h2⟩;unfold execOp;rw[ho];refine dT ?_;simp only[Instr.build,Sem.run_bind,fK hi hz,au hu,Result.andThen_ok];have TR:(fields.mapM fun f=>do pure (f.offset,←sizeOf f.type):Sem (Array (Nat×Nat))).run P w= .ok fs.toArray w:=by
  have:=run_places (P:=P) w fields.toList fs UU
  rw[Array.mapM_eq_mapM_toList];simp only[Sem.run_map];have e:(fields.toList.mapM fun f=>(do pure (f.offset,←sizeOf f.type):Sem (Nat×Nat)))=(fields.toList.mapM fun f=>Functor.map (Prod.mk f.offset) (sizeOf f.type)):=by
   congr 1
  rw[e,this];rfl
 rw[TR];simp only[Result.andThen_ok]
 have Ui:(parts.map fun x=>match x with|(i,x)=>(i,a.eval x)).toList=parts.toList.map fun p=>(p.1,a.eval p.2):=by
  rw[Array.toList_map]
 rw[Ui,h1];rfl
theorem DZ {e:TypeId}{w n:Nat}{cs:List C}(hl:cs.length=n*w)(j:Nat)(c:C)(h:(Bk.rows e w n (fun i j=>cs.getD (i*w+j) .any)).cell j=some c):cs[j]? =some c:=by
 simp only[Bk.cell]at h
 split at h
 ·rename_i hj
  simp only[Option.some.injEq]at h
  have:j/w*w+j%w=j:=by rw[Nat.mul_comm];exact Nat.div_add_mod j w
  rw[this]at h;rw[X8 (by omega)];rw[X7,X8 (by omega)]at h
  simpa using h
 cases h
theorem vQ {e:TypeId}{k:IntKind}{xs:List Int}(j:Nat)(c:C)(h:(Bk.ints e k xs).cell j=some c):(xs.map (C.int k))[j]? =some c:=by
 simpa[Bk.cell]using h
theorem z7 (Ru:iV o.op=false)(hd:bU o s.n){E:Ty}{e:TypeId}{fz:Bool}{len:Nat}{cs:List C}{ids:List Nat}(hE:match E.k with|.int _=>E.size=1|_=>0<E.size)(hlen:cs.length=len*E.size)(h:CX E e id fz len cs ids K)
  (RB:∀G dom ρ Z a w,aR G dom ρ Z a w→gp s Z nx0 o→∃cells:Array Value,(execOp a.eval o).run P w= .ok (.value (.slice (some ⟨w.heap.size,0,none⟩) len len)) (w.alloc (.cells cells e))∧bI bm bn (aE G (dF Z.own ids) ρ w) w cs cells.toList):
  ∃f,K f∧a7 P o s nx0 id f:=by
 have UH:∀{G:Ctx} {ρ:Nat→Loc} {Z:St} {w:World} {cells:Array Value},bI bm bn (aE G (dF Z.own ids) ρ w) w cs cells.toList→∀(j:Nat) c,cs[j]? =some c→∃u,cells[j]? =some u∧aO (aE G (dF Z.own ids) ρ w) w c u:=by
  intro G ρ Z w cells hl j c hj;obtain⟨u,hu,hr⟩:=bI.get hl j c hj;exact⟨u,by simpa using hu,aO.dV hr⟩
 have Sx:∀{G:Ctx} {ρ:Nat→Loc} {Z:St} {w:World} {cells:Array Value},bI bm bn (aE G (dF Z.own ids) ρ w) w cs cells.toList→cells.size=len*E.size:=by
  intro G ρ Z w cells hl
  have:=bI.length hl
  simp only[Array.length_toList]at this;omega
 have gen:∀(E':Nat) (hE':E'=E.size) (h0:0<E.size),(if fz then K ⟨.one (.rows E' len (fun i j=>cs.getD (i*E'+j) .any)),none,ids⟩
   else K ⟨.one (.own id E' 0 len),some (.rows e E' len (fun i j=>cs.getD (i*E'+j) .any)),ids⟩)→∃f,K f∧a7 P o s nx0 id f:=by
  intro E' hE' h0 h;subst hE'
  split at h
  ·refine⟨_,h,a7.FP (e:=e) ids Ru hd fun G dom ρ Z a w hs ha=>?_⟩;obtain⟨cells,hr,hl⟩:=RB G dom ρ Z a w hs ha;refine⟨cells,_,hr,some ⟨w.heap.size,0,none⟩,len,rfl,Nat.le_refl _,.inr ⟨w.heap.size,0,rfl,(hs.dF ids).H5,fun i j hi hj=>?_⟩⟩;have Ru:i*E.size+j<cs.length:=by
    have:(i+1)*E.size≤len*E.size:=Nat.mul_le_mul_right _ hi
    rw[Nat.add_mul]at this;omega
   obtain⟨u,hu,hr⟩:=UH hl (i*E.size+j) (cs.getD (i*E.size+j) .any) (by rw[X7,X8 Ru];rfl);refine⟨u,by rw[Nat.zero_add];simpa using hu,aO.ext ⟨fun g hg=>⟨BG hg,(ie w _).block g hg.1⟩,fun g=>?_⟩ _ _ hr⟩
   by_cases hg:g<w.heap.size
   ·rw[cL ((ie w _).block g hg)];exact Nat.le_refl _
   rw[jH hg];exact Nat.zero_le _
  refine⟨_,h,a7.newRow (e:=e) ids Ru hd (fun cs=>by simp) (Nat.le_refl _) fun G dom ρ Z a w hs ha=>?_⟩;obtain⟨cells,hr,hl⟩:=RB G dom ρ Z a w hs ha;exact⟨cells,len,hr,Nat.le_refl _,by rw[Sx hl];exact Nat.le_refl _,fun j c hj=>UH hl j c (DZ hlen j c hj)⟩
 unfold CX at h
 split at h
 ·rename_i k hk
  rw[hk]at hE;simp only at hE
  split at h
  ·rename_i xs UA
   have R2:=th k cs xs UA;have U5:xs.length=len:=by rw[R2]at hlen;simpa[hE]using hlen
   split at h
   ·refine⟨_,h,a7.FP (e:=e) ids Ru hd fun G dom ρ Z a w hs ha=>?_⟩;obtain⟨cells,hr,hl⟩:=RB G dom ρ Z a w hs ha;refine⟨cells,_,hr,some ⟨w.heap.size,0,none⟩,len,by rw[U5],by omega,.inr ⟨w.heap.size,0,rfl,(hs.dF ids).H5,fun i hi=>?_⟩⟩;obtain⟨u,hu,hr⟩:=UH hl i (.int k (xs.getD i 0)) (by rw[R2];simp[X8 hi]);rw[Nat.zero_add,World.cell?_alloc_new,hu];exact congrArg some hr
   refine⟨_,h,a7.newRow (e:=e) ids Ru hd (fun cs=>by simp) (by simp[Bk.len,U5]) fun G dom ρ Z a w hs ha=>?_⟩;obtain⟨cells,hr,hl⟩:=RB G dom ρ Z a w hs ha;exact⟨cells,len,hr,Nat.le_refl _,by rw[Sx hl,hE];exact Nat.le_refl _,fun j c hj=>UH hl j c (by rw[R2];exact vQ j c hj)⟩
  exact h.elim
 rename_i RE
 exact gen _ rfl (by split at hE<;>first|omega|exact hE) h
include hT in
theorem Ag {t:TypeId}{len:Nat}{parts:Array (Nat×Operand)}{fz:Bool}(ho:o.op= .buildSlice t len parts)(hd:bU o s.n)(h:iB T s nx0 id fz t len parts K):∃f,K f∧a7 P o s nx0 id f:=by
 have XR:∀p∈parts.toList,p.2∈o.op.operands:=fun p hp=>by rw[ho];simp only[Op.operands];simpa using⟨p.1,by simpa using hp⟩
 unfold iB at h
 cases RL:T t with
 |none=>rw[RL]at h;exact h.elim
 |some S=>
  rw[RL]at h;simp only at h
  split at h
  ·rename_i e TO
   have hu:=fk hT RL TO
   cases Sr:T e with
   |none=>rw[Sr]at h;exact h.elim
   |some E=>
    rw[Sr]at h;simp only at h;obtain⟨ei,ed,ez,S2,WJ,U6,WK,Tu,_,Tn,Rz⟩:=bD hT Sr;obtain⟨SF,Yy,Ts,h⟩:=h
    have RR:0<E.size:=by split at Ts<;>omega
    have Sy:ez.cells.size=E.size:=by rw[←SF,Tn];simp
    have Yz:∀(a:Act) (w:World) (cells':Array Value),Instr.fill (fun i=>some (i*E.size,E.size)) ((Array.range (len*ez.cells.size)).map (fun i=>ez.cells[i%ez.cells.size]!)) (parts.toList.map fun p=>(p.1,a.eval p.2))=some cells'→
      (execOp a.eval o).run P w= .ok (.value (.slice (some ⟨w.heap.size,0,none⟩) len len)) (w.alloc (.cells cells' e)):=by
     intro a w cells' h1;unfold execOp;rw[ho];refine dT ?_;have YA:(Array.map (fun x=>(x.fst,a.eval x.snd)) parts).toList=parts.toList.map fun p=>(p.1,a.eval p.2):=by
      rw[Array.toList_map]
     simp only[Instr.buildSlice,Sem.run_bind,au hu,Result.andThen_ok,run_sizeOf S2,Sem.run_ite];rw[if_neg (by rw[←Tu];omega)];simp only[Sem.run_pure,Result.andThen_ok]
     by_cases h0:len*ei.size=0
     ·rw[if_pos h0];have SZ:∀f:Nat→Value,Array.map f (Array.range 0)= #[]:=fun f=>by simp
      rw[Sy,Tu,h0,SZ]at h1;simp only[h0,SZ,YA,h1];rfl
     rw[if_neg h0];simp only[fK S2 U6,Result.andThen_ok];rw[Sy,Tu]at h1;simp only[YA,h1,Sy,Tu];rfl
    split at h
    ·rename_i b w0 o0 l0 hq
     split at hq
     ·unfold AJ at hq
      split at hq
      ·rename_i b' w0' o0' l0' hf
       simp only[Option.some.injEq,Prod.mk.injEq]at hq;obtain⟨rfl,rfl,rfl,rfl⟩:=hq;obtain⟨rfl,UC,h⟩:=h;refine⟨_,h,a7.Ol (e:=e) (by rw[ho];rfl) hd fun G dom ρ Z a w hs ha=>?_⟩;have Tx:=ra (s:=s) (nx0:=nx0) (o:=o) hs parts.toList (fun p hp=>ha.ev p.2 (XR p hp));have UY:bI ρ dom (aE G Z.own ρ w) w (eX E.zero 1) ((Array.range (1*ez.cells.size)).map (fun i=>ez.cells[i%ez.cells.size]!)).toList:=by
        rw[Tn];exact kA ez.cells 1 (by omega) Rz
       obtain⟨cells',h1,h2⟩:=oR (place:=fun i=>some (i*E.size,E.size)) (fs:=gq E.size 0 1) (fun i p hp=>by rw[mz _ _ _ _ _ hp,Nat.zero_add]) _ _ _ _ _ Tx UY hf;obtain⟨u,hu,hr⟩:=bI.get h2 0 _ rfl;have Sx:=bI.length h2;exact⟨cells',Yz a w cells' h1,by simpa using Sx.symm,u,by simpa using hu,hr⟩
      cases hq
     cases hq
    split at h
    ·rename_i cs hf
     have hlen:cs.length=len*E.size:=by rw[oW _ _ _ _ hf,kq,SF]
     refine z7 (by rw[ho];rfl) hd Ts hlen h fun G dom ρ Z a w hs ha=>?_;have Tx:=tY (s:=s) hs ha ((parts.toList.map fun p=>kv (s.ev p.2)).flatten.filter (fun b=>decide (b<nx0))) parts.toList (fun p hp=>ha.ev p.2 (XR p hp)) (fun p hp b hb Ru=>List.mem_filter.2 ⟨List.mem_flatten.2 ⟨_,List.mem_map.2 ⟨p,hp,rfl⟩,hb⟩,by simpa using Ru⟩);have UY:bI bm bn (aE G (dF Z.own ((parts.toList.map fun p=>kv (s.ev p.2)).flatten.filter (fun b=>decide (b<nx0)))) ρ w) w (eX E.zero len) ((Array.range (len*ez.cells.size)).map (fun i=>ez.cells[i%ez.cells.size]!)).toList:=by
      rw[Tn];exact kA ez.cells len (by omega) Rz
     obtain⟨cells',h1,h2⟩:=oR (place:=fun i=>some (i*E.size,E.size)) (fs:=gq E.size 0 len) (fun i p hp=>by rw[mz _ _ _ _ _ hp,Nat.zero_add]) _ _ _ _ _ Tx UY hf;exact⟨cells',Yz a w cells' h1,h2⟩
    exact h.elim
  exact h.elim
end
end Go.Eng
namespace Go.Eng
open Go
theorem wG {n:Int}(h0:0≤n)(h1:n≤9223372036854775807):IntKind.i64.wrap n=n:=by
 have h2:n% (2^64:Int)=n:=Int.emod_eq_of_lt h0 (by omega);have e:IntKind.i64.wrap n=if(true&&decide (n% (2^64:Int)≥2^63))=true then n% (2^64:Int)-2^64 else n% (2^64:Int):=rfl
 rw[e,h2,if_neg (by simp;omega)]
theorem a6.get {ρ:Nat→Loc}{dom ok:Nat→Prop}{w:World}:∀{xs:List V} {vs:List Value},a6 ρ dom ok w xs vs→∀(j:Nat) x,xs[j]? =some x→∃v,vs[j]? =some v∧dJ ρ dom ok w x v
 |[],[],_,j,x,hj=>by simp at hj
 |x0::xs,v0::vs,h,0,x,hj=>by simp at hj;subst hj;exact⟨v0,rfl,h.1⟩
 |x0::xs,v0::vs,h,j+1,x,hj=>by simpa using a6.get h.2 j x (by simpa using hj)
 |[],_::_,h,_,_,_=>h.elim
 |_::_,[],h,_,_,_=>h.elim
theorem bY.vV {ρ:Nat→Loc}{dom ok:Nat→Prop}{w:World}{x:V}{v:Value}(h:dJ ρ dom ok w x v):bY ρ dom ok w x v:=by
 cases x with
 |unk=>trivial
 |one c=>exact h
 |agg cs=>exact h
 |aF xs=>exact h.elim
section
variable {P:Program}{T:fB}(hT:eH P T){o:Oper}{s:St}{nx0 id:Nat}{K:eJ→Prop}
include hT in
theorem BR {
          t:TypeId} {l c:Operand} {fz:Bool} (ho:o.op= .makeSlice t l c) (hd:bU o s.n) (h:jA T s id fz t l c K):∃f,K f∧a7 P o s nx0 id f:=by
 have Tm:l∈o.op.operands:=by rw[ho];simp[Op.operands]
 have XS:c∈o.op.operands:=by rw[ho];simp[Op.operands]
 unfold jA at h
 cases RL:T t with
 |none=>rw[RL]at h;exact h.elim
 |some S=>
  rw[RL]at h;simp only at h
  split at h
  ·rename_i e TO
   have hu:=fk hT RL TO
   cases Sr:T e with
   |none=>rw[Sr]at h;exact h.elim
   |some E=>
    rw[Sr]at h;simp only at h;obtain⟨ei,ed,ez,S2,WJ,U6,WK,Tu,YB,Tn,Rz⟩:=bD hT Sr
    split at h
    ·rename_i kl ln kc cn hl hc
     obtain⟨SF,RR,⟨h0,h1,h2,h3⟩,h⟩:=h;have Sy:ez.cells.size=E.size:=by rw[←SF,Tn];simp
     have RB:∀(G:Ctx) (dom:Nat→Prop) (ρ:Nat→Loc) (Z:St) (a:Act) (w:World),aR G dom ρ Z a w→gp s Z nx0 o→
       (execOp a.eval o).run P w= .ok (.value (.slice (some ⟨w.heap.size,0,none⟩) ln.toNat cn.toNat)) (w.alloc (.cells ((Array.range (cn.toNat*ez.cells.size)).map (fun i=>ez.cells[i%ez.cells.size]!)) e)):=by
      intro G dom ρ Z a w hs ha;have ZG:=hs.ev l;rw[aY ha Tm hl]at ZG;have XT:=hs.ev c;rw[aY ha XS hc]at XT;have ZG:a.eval l= .int kl ln:=ZG;have XT:a.eval c= .int kc cn:=XT;unfold execOp;rw[ho];refine dT ?_;have YC:IntKind.i64.wrap ln=ln:=wG h0 (by omega);have hwc:IntKind.i64.wrap cn=cn:=wG (by omega) h3;have Yy:¬((ei.bytes:Int)*cn>2^48):=by rw[←YB,Int.mul_comm];omega
      have hbigb:decide ((ei.bytes:Int)*cn>2^48)=false:=by simpa using Yy
      have hneg:decide (cn<0)=false:=by simp;omega
      have hneg2:decide (ln<0)=false:=by simp;omega
      have hneg3:decide (ln>cn)=false:=by simp;omega
      simp only[Instr.makeSlice,Sem.run_bind,au hu,Result.andThen_ok,ZG,XT,asInt,asIntOf,Sem.run_pure,run_typeInfo S2,YC,hwc,hneg,hneg2,hneg3,hbigb,Bool.or_self,Bool.false_eq_true,↓reduceIte,run_askRoom,run_sizeOf S2,Sem.run_ite,ite_self];rw[←Tu,←Sy]
      by_cases hz:cn.toNat*ez.cells.size=0
      ·rw[if_pos hz];have SZ:∀f:Nat→Value,Array.map f (Array.range 0)= #[]:=fun f=>by simp
       simp only[hz,SZ];rfl
      rw[if_neg hz];simp only[fK S2 U6,Result.andThen_ok];rfl
     have YD:((Array.range (cn.toNat*ez.cells.size)).map (fun i=>ez.cells[i%ez.cells.size]!)).size=cn.toNat*ez.cells.size:=by simp
     split at h
     ·rename_i k hk
      obtain⟨hz,hK⟩:=h;have UC:E.size=1:=by rw[←SF,hz];rfl
      have key:∀{hK':K ⟨.one (.own id 1 0 ln.toNat),some (.ints e k (List.replicate cn.toNat 0)),[]⟩},∃f,K f∧a7 P o s nx0 id f:=by
       intro hK;refine⟨_,hK,a7.newRow (e:=e) [] (by rw[ho];rfl) hd (fun cs=>by simp) (by simp[Bk.len];omega) fun G dom ρ Z a w hs ha=>?_⟩;refine⟨_,cn.toNat,RB G dom ρ Z a w hs ha,by omega,by rw[YD,Sy,UC];exact Nat.le_refl _,fun j c' hj=>?_⟩;have UY:=kA (ρ:=bm) (dom:=bn) (ok:=aE G (dF Z.own []) ρ w) (w:=w) ez.cells cn.toNat (by omega) Rz;rw[←Tn,hz]at UY;have XU:=vQ j c' hj
       have:(eX [C.int k 0] cn.toNat)=(List.replicate cn.toNat (0:Int)).map (C.int k):=by
        generalize cn.toNat=n
        induction n with
        |zero=>rfl
        |succ n ih=>simp[eX,ih,List.replicate_succ]
       rw[←this]at XU;obtain⟨u,RP,hr⟩:=bI.get UY j c' XU;exact⟨u,by rw[←Array.getElem?_toList];exact RP,aO.dV hr⟩
      split at hK
      ·split at hK
       ·have hzr0:∀{ok:Nat→Prop} {w:World},bI bm bn ok w ((List.replicate cn.toNat (0:Int)).map (C.int k)) ((Array.range (cn.toNat*ez.cells.size)).map (fun i=>ez.cells[i%ez.cells.size]!)).toList:=by
         intro ok w;have UY:=kA (ρ:=bm) (dom:=bn) (ok:=ok) (w:=w) ez.cells cn.toNat (by omega) Rz;rw[←Tn,hz]at UY
         have:(eX [C.int k 0] cn.toNat)=(List.replicate cn.toNat (0:Int)).map (C.int k):=by
          generalize cn.toNat=n
          induction n with
          |zero=>rfl
          |succ n ih=>simp[eX,ih,List.replicate_succ]
         rw[←this];exact UY
        refine⟨_,hK,a7.FP (e:=e) [] (by rw[ho];rfl) hd fun G dom ρ Z a w hs ha=>?_⟩;refine⟨_,_,RB G dom ρ Z a w hs ha,some ⟨w.heap.size,0,none⟩,cn.toNat,by simp,by simp;omega,.inr ⟨w.heap.size,0,rfl,(hs.dF []).H5,fun i hi=>?_⟩⟩;simp only[List.length_replicate]at hi;obtain⟨u,hu,hr⟩:=bI.get (hzr0 (ok:=fun _=>True) (w:=w)) i (.int k 0) (by rw[List.getElem?_map,List.getElem?_replicate,if_pos (by omega)];rfl);have hr:u= .int k 0:=hr;rw[Nat.zero_add,World.cell?_alloc_new,←Array.getElem?_toList,hu,hr]
        simp[X7,hi]
       exact key (hK':=hK)
      exact key (hK':=hK)
     refine⟨_,h,a7.newRow (e:=e) [] (by rw[ho];rfl) hd (fun cs=>by simp) (by simp[Bk.len];omega) fun G dom ρ Z a w hs ha=>?_⟩;refine⟨_,cn.toNat,RB G dom ρ Z a w hs ha,by omega,by rw[YD,Sy];exact Nat.le_refl _,fun j c' hj=>?_⟩;have UY:=kA (ρ:=bm) (dom:=bn) (ok:=aE G (dF Z.own []) ρ w) (w:=w) ez.cells cn.toNat (by omega) Rz;rw[←Tn]at UY;simp only[Bk.cell]at hj
     split at hj
     ·rename_i Ru
      simp only[Option.some.injEq]at hj;have hg:=oF E.zero cn.toNat j (by rw[SF];exact Ru);rw[SF]at hg;have hm:j%E.size<E.zero.length:=by rw[SF];exact Nat.mod_lt _ RR
      rw[X7,X8 hm]at hj;rw[X8 hm]at hg;obtain⟨u,RP,hr⟩:=bI.get UY j _ hg;simp only[Option.getD_some]at hj;rw[←hj];exact⟨u,by rw[←Array.getElem?_toList];exact RP,aO.dV hr⟩
     cases hj
    exact h.elim
  exact h.elim
theorem CK {ρ:Nat→Loc}{dom ok:Nat→Prop}{w:World}{c:C}{n:Nat}{v:Value}(hl:iR c=some n)(h:aA ρ dom ok w c v):∃a cap,v= .slice a n cap∧n≤cap∧(c= .nil→cap=0):=by
 cases c with
 |own b wd off len=>
  simp only[iR,Option.some.injEq]at hl;subst hl;obtain⟨_,_,cap,hc,h⟩:=h
  rcases h with⟨g,o,o',_,rfl,_⟩|⟨_,rfl,h1,h2⟩
  ·exact⟨_,cap,rfl,hc,fun e=>by cases e⟩
  exact⟨none,0,by rw[h1],by omega,fun e=>by cases e⟩
 |win b b2 off len=>
  simp only[iR,Option.some.injEq]at hl;subst hl;obtain⟨_,_,_,cap,hc,h⟩:=h
  rcases h with⟨g,o,o',_,rfl,_⟩|⟨_,rfl,h1,h2⟩
  ·exact⟨_,cap,rfl,hc,fun e=>by cases e⟩
  exact⟨none,0,by rw[h1],by omega,fun e=>by cases e⟩
 |ints k xs=>simp only[iR,Option.some.injEq]at hl;subst hl;obtain⟨a,cap,rfl,hc,_⟩:=h;exact⟨a,cap,rfl,hc,fun e=>by cases e⟩
 |rows wd n' f=>simp only[iR,Option.some.injEq]at hl;subst hl;obtain⟨a,cap,rfl,hc,_⟩:=h;exact⟨a,cap,rfl,hc,fun e=>by cases e⟩
 |nil=>simp only[iR,Option.some.injEq]at hl;subst hl;exact⟨none,0,h,Nat.le_refl _,fun _=>rfl⟩
 |_=>simp[iR]at hl
include hT in
theorem FM {c:Call}{b:Builtin}(ho:o.op= .call c)(hc:c.callee= .builtin b)(hd:bU o s.n)(h:mM T s b c.args.toList c.argTypes.toList K):∃f,K f∧a7 P o s nx0 id f:=by
 have XQ:∀x∈c.args.toList,x∈o.op.operands:=fun x hx=>by rw[ho];simp only[Op.operands,Call.operands];exact Array.mem_append_right _ (by simpa using hx)
 have hex:∀(a:Act) (w:World) (v:Value),(match b with
    |.len=>Builtin.len_ c.argTypes o.type (c.args.map a.eval)
    |.max=>Builtin.max_ c.argTypes o.type (c.args.map a.eval)
    |_=>stuck "").run P w= .ok v w→(execOp a.eval o).run P w= .ok (.value v) w:=by
  intro a w v hv;unfold execOp;rw[ho];simp only[resolve,hc,Sem.run_bind,Sem.run_pure,Result.andThen_ok,invoke,Go.builtin]
  cases b<;>simp only at hv<;>first|exact dT hv|(simp at hv;done)
 unfold mM at h
 split at h
 ·-- len
  rename_i x t Ry Si
  have Sb:x∈o.op.operands:=XQ x (by rw[Ry];simp);have ea:c.args= #[x]:=Array.toList_inj.1 Ry;have et:c.argTypes= #[t]:=Array.toList_inj.1 Si
  cases RL:T t with
  |none=>rw[RL]at h;exact h.elim
  |some E=>
   rw[RL]at h;simp only at h
   split at h
   ·rename_i e UG
    have hu:=fk hT RL UG
    split at h
    ·rename_i cc hx
     split at h
     ·rename_i n hl
      refine⟨_,h,a7.pure hd fun G dom ρ Z a w hs ha=>⟨.int .i64 n,?_,rfl⟩⟩;have RA:=hs.ev x;rw[aY ha Sb hx]at RA;obtain⟨ad,cap,hv,_,_⟩:=CK hl RA;refine hex a w _ ?_;simp only[ea,et,Builtin.len_,hv,List.map_toArray,List.map_cons,List.map_nil,List.getElem?_toArray,List.getElem?_cons_zero,Sem.run_bind,au hu,Result.andThen_ok,Sem.run_pure];rfl
     exact h.elim
    exact h.elim
   ·rename_i UG
    obtain⟨_,d,_,_,hu,_,hk,_⟩:=bD hT RL;rw[UG]at hk;have WI:d= .string:=by
     cases d<;>simp only[cK]at hk
     case string=>rfl
     case struct fs=>split at hk<;>cases hk
     all_goals cases hk
    subst WI
    split at h
    ·rename_i bs hx
     refine⟨_,h,a7.pure hd fun G dom ρ Z a w hs ha=>⟨.int .i64 bs.size,?_,rfl⟩⟩;have RA:=hs.ev x;rw[aY ha Sb hx]at RA;have hv:a.eval x= .string bs:=RA;refine hex a w _ ?_;simp only[ea,et,Builtin.len_,hv,List.map_toArray,List.map_cons,List.map_nil,List.getElem?_toArray,List.getElem?_cons_zero,Sem.run_bind,au hu,Result.andThen_ok,Sem.run_pure];rfl
    exact h.elim
   exact h.elim
 ·-- max
  rename_i x y Ry
  have Sb:x∈o.op.operands:=XQ x (by rw[Ry];simp);have XO:y∈o.op.operands:=XQ y (by rw[Ry];simp);have ea:c.args= #[x,y]:=Array.toList_inj.1 Ry
  split at h
  ·rename_i v hv
   unfold MK at hv
   split at hv
   ·rename_i k x0 k' y0 hx hy
    simp only[Option.some.injEq]at hv;subst hv;refine⟨_,h,a7.pure hd fun G dom ρ Z a w hs ha=>⟨.int k (if x0<y0 then y0 else x0),?_,rfl⟩⟩;have R3:=hs.ev x;rw[aY ha Sb hx]at R3;have Ta:=hs.ev y;rw[aY ha XO hy]at Ta;have R3:a.eval x= .int k x0:=R3;have Ta:a.eval y= .int k' y0:=Ta;refine hex a w _ ?_;simp only[ea,Builtin.max_,R3,Ta,List.map_toArray,List.map_cons,List.map_nil,List.foldlM_cons,List.foldlM_nil,Builtin.max2,Sem.run_bind,Sem.run_pure,Result.andThen_ok]
   cases hv
  exact h.elim
 exact h.elim
theorem fW (hT:eH P T){fz:Bool}(hd:bU o s.n)(h:eI T P o.op s nx0 id fz K):∃f,K f∧a7 P o s nx0 id f:=by
 cases ho:o.op with
 |move x=>rw[ho]at h;exact MG (.inl ho) hd h
 |assign x=>rw[ho]at h;exact MG (.inr ho) hd h
 |pick c a b=>
  rw[ho]at h;simp only[eI]at h
  split at h
  ·rename_i t ht;exact Pw ho hd ht h
  exact h.elim
 |alloc e=>
  rw[ho]at h;simp only[eI]at h
  split at h
  ·rename_i E hE;exact NT hT ho hd hE h
  exact h.elim
 |box e x=>rw[ho]at h;exact Qs ho hd h.1 h.2
 |build t parts=>
  rw[ho]at h;simp only[eI]at h
  split at h
  ·rename_i E hE
   split at h
   ·rename_i fs Ys
    split at h
    ·rename_i cs hf;exact Ot hT ho hd hE Ys hf h
    exact h.elim
   exact h.elim
  exact h.elim
 |buildSlice t len parts=>rw[ho]at h;exact Ag hT ho hd h
 |load t x=>rw[ho]at h;exact O9 hT ho hd h
 |binOp op t x y t'=>rw[ho]at h;exact Qh hT ho hd h
 |unOp op t x=>rw[ho]at h;exact Q3 ho hd h
 |convert src dst x=>rw[ho]at h;exact F3 hT ho hd h
 |makeSlice t l c=>rw[ho]at h;exact BR hT ho hd h
 |slice t x lo hi mx=>rw[ho]at h;exact NH hT ho hd h
 |fieldAddr t x f=>rw[ho]at h;exact Ch hT ho hd h
 |indexAddr t x i=>rw[ho]at h;exact Cx hT ho hd h
 |index t x i=>rw[ho]at h;exact BD hT ho hd h
 |extract x i=>
  have Sb:x∈o.op.operands:=by rw[ho];simp[Op.operands]
  rw[ho]at h;simp only[eI]at h
  split at h
  ·rename_i vs hx
   split at h
   ·rename_i v hv
    refine⟨_,h,a7.pure hd fun G dom ρ Z a w hs ha=>?_⟩;have RA:=hs.ev x;rw[aY ha Sb hx]at RA;obtain⟨us,TY,hl⟩:=RA;obtain⟨u,hu,hr⟩:=a6.get hl _ _ hv;refine⟨u,?_,bY.vV hr⟩;unfold execOp;rw[ho];refine dT ?_;rw[Array.getElem?_toList]at hu;simp only[TY,Instr.extract,hu,Sem.run_pure]
   exact h.elim
  exact h.elim
 |nilCheck x=>
  have Sb:x∈o.op.operands:=by rw[ho];simp[Op.operands]
  rw[ho]at h;simp only[eI]at h;have key:∀(c:C),s.ev x= .one c→(∀ρ dom ok w v,aA ρ dom ok w c v→∃ad,v= .pointer (some ad))→K ⟨.one c,none,[]⟩→∃f,K f∧a7 P o s nx0 id f:=by
   intro c hx hp hK;refine⟨_,hK,a7.pure hd fun G dom ρ Z a w hs ha=>?_⟩;have RA:=hs.ev x;rw[aY ha Sb hx]at RA;obtain⟨ad,hv⟩:=hp _ _ _ _ _ RA;refine⟨a.eval x,?_,RA⟩;unfold execOp;rw[ho];simp only[hv];rfl
  split at h
  ·rename_i b off hx
   exact key _ hx (fun _ _ _ _ _ hr=>by obtain⟨_,g,o,_,hv⟩:=hr;exact⟨_,hv⟩) h
  ·rename_i c wd i off hx
   exact key _ hx (fun _ _ _ _ _ hr=>by obtain⟨g,o,_,_,_,_,hv⟩:=hr;exact⟨_,hv⟩) h
  ·rename_i b wd i off hx
   exact key _ hx (fun _ _ _ _ _ hr=>by obtain⟨_,_,g,o,_,hv⟩:=hr;exact⟨_,hv⟩) h
  exact h.elim
 |field t x f=>rw[ho]at h;exact Nt hT ho hd h
 |makeFunc fn first captured=>
  rw[ho]at h;simp only[eI]at h
  split at h
  ·rename_i f hf
   obtain⟨RY,h⟩:=h;have e1:first= #[]:=Array.eq_empty_of_size_eq_zero hf;have XS:∀x∈captured.toList,x∈o.op.operands:=fun x hx=>by rw[ho];simp only[Op.operands];exact Array.mem_append_right _ (by simpa using hx)
   refine⟨_,h,a7.pure hd fun G dom ρ Z a w hs ha=>⟨.func (.func f) #[] (captured.map a.eval),?_,⟨captured.map a.eval,rfl,by simp,fun i hi=>?_⟩⟩⟩
   ·unfold execOp;rw[ho,e1];refine dT ?_
    simp[Instr.makeFunc]
   have hx:captured.toList[i]? =some captured[i]:=by simp[hi]
   have hm:captured[i]∈captured.toList:=List.mem_of_getElem? hx;have h1:rH (s.ev captured[i])=true:=List.all_eq_true.1 RY _ hm;have e2:(captured.toList.map s.ev).getD i .unk=s.ev captured[i]:=by
    rw[X7,List.getElem?_map,hx];rfl
   have e3:(captured.map a.eval).getD i undef=a.eval captured[i]:=by
    simp[Array.getD_eq_getD_getElem?,hi]
   show ey ρ dom _ w (DD ((captured.toList.map s.ev).getD i .unk)) ((captured.map a.eval).getD i undef);rw[e2,e3];have RA:=hs.ev captured[i];rw[ha.ev _ (XS _ hm)]at RA
   cases hv:s.ev captured[i]with
   |one c=>
    rw[hv]at RA h1;refine ey.pZ (fun f n cs hc=>?_) RA;have hc:c= .fn f n cs:=hc;rw[hc]at h1
    simp[rH]at h1
   |agg cs=>rw[hv]at h1;simp[rH]at h1
   |aF cs=>rw[hv]at h1;simp[rH]at h1
   |unk=>rw[hv]at h1;simp[rH]at h1
  exact h.elim
 |call c=>
  rw[ho]at h;simp only[eI]at h
  split at h
  ·rename_i b hb;exact FM hT ho hb hd h
  ·rename_i g hg;exact PJ ho hg hd h
  exact h.elim
 |_=>rw[ho]at h;exact h.elim
end
end Go.Eng
