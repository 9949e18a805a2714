/-
  MatrixDeterminant: for every input the law returns true, and each argument reads afterwards as it read before. No condition beyond the given row's own cells.
  (Text 3 of 9; made by a program out of smaller texts.)
-/
import Derived.Test.YtchkplkghknabaaGreatProg
import Derived.KernelRfl
import Derived.IntWalk
import Derived.Test.YtchkplkghknabaaGreatP2
set_option linter.unusedSimpArgs false
set_option linter.unusedVariables false
set_option maxHeartbeats 16000000
set_option maxRecDepth 10000
open Nat renaming reduceAdd→J1,reduceMul→J2,reduceSub→J3,reduceEqDiff→J4,reduceLT→J5,reduceLeDiff→J6,reduceBEq→J7,reduceDiv→J8,reduceMod→J9,reducePow→J0
open Int renaming reduceToNat→K1,reduceLE→K2,reduceLT→K3,reduceEq→K4,reducePow→K5,reduceSub→K6,reduceNeg→K7,natCast_add→X2,natCast_one→X3,natCast_zero→X4
open List renaming getD_cons_zero→X0,getD_cons_succ→X1,length_take→X5,length_append→X6,getD_eq_getElem?_getD→X7,getElem?_eq_getElem→X8
namespace Go.Eng
open Go
def w9:Value→Bool
 |.slice a _ _=>match a with
  |none=>true
  |some _=>false
 |_=>false
def qT:Operand→Bool
 |.const v=>w9 v
 |_=>false
def wg:BinOp→Bool
 |.eql=>true
 |_=>false
def rR:Op→Bool
 |.store _ _ _=>true
 |.binOp op _ _ y _=>wg op&&qT y
 |.call c=>match c.callee with
  |.builtin b=>match b with
   |.append=>true
   |.cap=>true
   |.clear=>true
   |.copy=>true
   |_=>false
  |_=>false
 |_=>false
def cX:Op→Bool
 |.call c=>match c.callee with
  |.value _=>true
  |_=>false
 |_=>false
def orM (A B:Prop):Prop:=A∨B
def qG:Op→Bool
 |.assign _=>true
 |op=>rR op
def yQ (d:Tmp):Operand→Bool
 |.tmp t=>t==d
 |_=>false
def My (d:Tmp)(o:Op):Bool:=
 match o with
 |.convert _ _ x=>yQ d x
 |_=>false
def aQ (d:Option Tmp)(os:List Oper):Bool:=
 match d with
 |none=>false
 |some d=>os.any fun o=>My d o.op||match o.op with
  |.call c=>match c.callee with
   |.value _=>c.args.toList.any (yQ d)
   |_=>false
  |.build _ ps=>ps.toList.any fun p=>yQ d p.2
  |.buildSlice _ _ ps=>ps.toList.any fun p=>yQ d p.2
  |_=>false
def uG (i:Nat)(os:List Oper):Bool:=os.any fun o=>match o.guard with
 |some (g,_)=>g==i
 |none=>false
def GX (T:fH)(s:St)(dst:Option Tmp)(t:TypeId)(x:Operand)(K:St→Prop):Prop:=
 match T t with
 |some E=>match E.k with
  |.sl _=>match s.ev x with
   |.one c=>match iC c with
    |some n=>∀m:Nat,n≤m→(c= .nil→m=0)→eI K (s.put dst (.one (.int .i64 m)))
    |none=>False
   |_=>False
  |_=>False
 |none=>False
def N8 (T:fH)(t:TypeId):Prop:=
 match T t with
 |some S=>(match S.k with
  |.sl _=>True
  |_=>False)
 |none=>False
theorem OG {T:fH}{P:Program}(hT:eJ P T){t:TypeId}(h:N8 T t):∃e,P.underlying t=some (.slice e):=by
 unfold N8 at h
 cases RV:T t with
 |none=>rw[RV]at h;exact h.elim
 |some S=>
  rw[RV]at h;simp only at h
  split at h
  ·rename_i e hk
   exact⟨e,fm hT RV hk⟩
  exact h.elim
def F6 (T:fH)(s:St)(dst:Option Tmp)(t:TypeId)(x:Operand)(K:St→Prop):Prop:=
 match T t with
 |some E=>match E.k with
  |.sl _=>match s.ev x with
   |.one c=>match iC c with
    |some n=>∀b:Bool,(0<n→b=false)→eI K (s.put dst (.one (.bool b)))
    |none=>False
   |_=>False
  |_=>False
 |none=>False
def AR (T:fH)(op:Op)(dst:Option Tmp)(s:St)(K:St→Prop):Prop:=
 match op with
 |.store t x y=>dst=none∧tE T s t x y K
 |.binOp op t x y _=>wg op=true∧qT y=true∧F6 T s dst t x K
 |.call c=>match c.callee with
  |.builtin b=>match b,c.args.toList,c.argTypes.toList with
   |.append,[x,y],[t,t']=>N8 T t'∧pq T s dst t x y K
   |.cap,[x],[t]=>GX T s dst t x K
   |.clear,[x],[t]=>ug T s dst t x K
   |.copy,[x,y],[t,t']=>N8 T t'∧y8 T s dst t x y K
   |_,_,_=>False
  |_=>False
 |_=>False
def bQ (u:Bool)(e:eK)(K:eK→Prop):Prop:=
 if u then(match e.val with
  |.one (.bool b)=>(b=true→eI K ⟨.one (.bool true),e.vX,e.fz⟩)∧(b=false→eI K ⟨.one (.bool false),e.vX,e.fz⟩)
  |_=>False)
 else K e
def after (s:St)(dst:Option Tmp)(e:eK):St:={s.add dst s.nx e with nx:=s.nx+1}
def dX (u:Bool)(i:Nat)(dst:Option Tmp)(gd:List (Nat×Tmp)):List (Nat×Tmp):=
 if u then(match dst with
  |some d=>(i,d)::gd
  |none=>gd)else gd
def gb:List (Nat×Tmp)→Nat→Option Tmp
 |[],_=>none
 |(i',t)::r,i=>if i=i' then some t else gb r i
def guarded (s:St)(gd:List (Nat×Tmp))(g:Option (Nat×Bool))(A B:Prop):Prop:=
 match g with
 |none=>A
 |some (g,want)=>match gb gd g with
  |some t=>match gv (lk s.env t)with
   |some b=>if b=some want then A else B
   |none=>False
  |none=>False
def pG (dst:Option Tmp)(n:Nat):Prop:=
 match dst with
 |none=>True
 |some d=>d<n
def uJ (nx0:Nat):List Nat→Prop
 |[]=>True
 |b::r=>b<nx0∧uJ nx0 r
def oW (T:fH)(P:Program):Nat→List Oper→List (Nat×Tmp)→St→(St→Prop)→Prop
 |_,[],_,s,K=>K s
 |i,o::os,gd,s,K=>
  pG o.dst s.n∧guarded s gd o.guard
   (
    if rR o.op then AR T o.op o.dst s (fun s'=>oW T P (i+1) os gd s' K)
    else if cX o.op then orM (eL T P o.op s s.nx s.nx (aQ o.dst os) (fun e=>bQ (uG i os) e fun e'=>oW T P (i+1) os (dX (uG i os) i o.dst gd) (after s o.dst e') K)) (nZ P o.op o.dst s (fun s'=>oW T P (i+1) os gd s' K))
    else eL T P o.op s s.nx s.nx (aQ o.dst os) (fun e=>bQ (uG i os) e fun e'=>oW T P (i+1) os (dX (uG i os) i o.dst gd) (after s o.dst e') K))
   (oW T P (i+1) os (dX (uG i os) i o.dst gd) (s.put o.dst (.aB [])) K)
def uL (T:fH)(P:Program)(nx0 len:Nat):Nat→List Oper→List (Nat×Tmp)→St→(St→Prop)→Prop
 |_,[],_,s,K=>K {s with nx:=nx0+len}
 |i,o::os,gd,s,K=>
  if qG o.op then oW T P i (o::os) gd {s with nx:=nx0+len} K
  else pG o.dst s.n∧guarded s gd o.guard
   (if cX o.op then orM (eL T P o.op s nx0 (nx0+i) (aQ o.dst os) (fun e=>uJ nx0 e.fz∧bQ (uG i os) e fun e'=>uL T P nx0 len (i+1) os (dX (uG i os) i o.dst gd) (s.add o.dst (nx0+i) e') K)) False else eL T P o.op s nx0 (nx0+i) (aQ o.dst os) (fun e=>uJ nx0 e.fz∧bQ (uG i os) e fun e'=>uL T P nx0 len (i+1) os (dX (uG i os) i o.dst gd) (s.add o.dst (nx0+i) e') K))
   (uL T P nx0 len (i+1) os (dX (uG i os) i o.dst gd) (s.put o.dst (.aB [])) K)
def fZ (T:fH)(P:Program)(nx0 len:Nat)(ws:WL):Nat→List Oper→List (Nat×Tmp)→St→(St→Prop)→Prop
 |_,[],_,s,K=>K {s with nx:=nx0+len}
 |i,o::os,gd,s,K=>
  if iI ws i then fZ T P nx0 len ws (i+1) os gd s K
  else pG o.dst s.n∧guarded s gd o.guard
   (if cX o.op then orM (eL T P o.op s nx0 (nx0+i) (aQ o.dst os) (fun e=>uJ nx0 e.fz∧bQ (uG i os) e fun e'=>fZ T P nx0 len ws (i+1) os (dX (uG i os) i o.dst gd) (s.add o.dst (nx0+i) e') K)) False else eL T P o.op s nx0 (nx0+i) (aQ o.dst os) (fun e=>uJ nx0 e.fz∧bQ (uG i os) e fun e'=>fZ T P nx0 len ws (i+1) os (dX (uG i os) i o.dst gd) (s.add o.dst (nx0+i) e') K))
   (fZ T P nx0 len ws (i+1) os (dX (uG i os) i o.dst gd) (s.put o.dst (.aB [])) K)
def vY (T:fH)(P:Program)(os:List Oper)(o:Oper)(d:Nat)(s:St):Prop:=match o.guard with
 |none=>eL T P o.op s s.nx s.nx false (fun e=>e.val=lk s.env d)
 |some (g,want)=>match(os[g]?).bind (·.dst)with
  |some t=>match gv (lk s.env t)with
   |some b=>if b=some want then eL T P o.op s s.nx s.nx false (fun e=>e.val=lk s.env d)else lk s.env d= .aB []
   |none=>False
  |none=>False
def prom (T:fH)(P:Program)(os:List Oper):List Nat→St→Prop
 |[],_=>True
 |j::r,s=>(match os[j]? with
  |some o=>match o.dst with
   |some d=>d<s.n∧vY T P os o d s
   |none=>False
  |none=>False)∧prom T P os r s
def tF (T:fH)(P:Program)(o:Oper)(os:List Oper)(s:St)(K:St→Prop):Prop:=
 if rR o.op then AR T o.op o.dst s K
 else if cX o.op then orM (eL T P o.op s s.nx s.nx (aQ o.dst os) (fun e=>K (after s o.dst e))) (nZ P o.op o.dst s K)
 else eL T P o.op s s.nx s.nx (aQ o.dst os) (fun e=>K (after s o.dst e))
def EJ (T:fH)(P:Program)(os:List Oper)(i:Nat)(pd:List Nat)(s:St)(K:St→Prop):Prop:=match os[i]? with
  |some o=>pG o.dst s.n∧tF T P o os s (fun s'=>prom T P os pd s'∧K s')
  |none=>False
def iE (T:fH)(P:Program)(os:List Oper):WL→St→(St→Prop)→Prop
 |.nil,s,K=>K s
 |.cons i pd sub .nil,s,K=>EJ T P os i pd s (fun s'=>iE T P os sub s' K)
 |.cons i pd sub (.cons i' pd' sub' alt'),s,K=>EJ T P os i pd s (fun s'=>iE T P os sub s' K)∧iE T P os (.cons i' pd' sub' alt') s K
 |.cons _ _ _ (.opt _ _ _ _),_,_=>False
 |.opt _ _ _ _,_,_=>False
structure Kp where
 ks:List Nat
 ms:List (Nat×WL)
def l9:List (Nat×WL)→Nat→Option WL
 |[],_=>none
 |(i,ws)::r,id=>if id=i then some ws else l9 r id
def gc (keep:List Nat)(s:St):St:={s with env:=keep.map fun t=>(t,lk s.env t)}
def ow (T:fH)(P:Program)(m:Option WL)(os:List Oper)(s:St)(K:St→Prop):Prop:=
 match m with
 |none=>uL T P s.nx os.length 0 os [] s K
 |some (.opt q d t1 t2)=>fZ T P s.nx os.length t1 0 os [] s (fun s'=>iE T P os t1 s' K∧iE T P os t2 (PU d (s.nx+q) s') K)
 |some ws=>fZ T P s.nx os.length ws 0 os [] s (fun s'=>iE T P os ws s' K)
def gX (T:fH)(P:Program)(ms:List (Nat×WL))(id:Nat)(draw:Bool)(os:List Oper)(s:St)(K:St→Prop):Prop:=
 if draw then ow T P (l9 ms id) os s K else oW T P 0 os [] s K
def Sub (s s':St):Prop:=∀G a w,ot G s a w→ot G s' a w
def vc (T:fH)(P:Program)(keep:Kp):Code→St→(Exit→St→Prop)→Prop
 |.skip,s,Q=>Q .normal s
 |.region id ops draw,s,Q=>gX T P keep.ms id draw ops.toList s (fun s'=>Q .normal (gc keep.ks s'))
 |.seq a b,s,Q=>vc T P keep a s (fun e s'=>match e with
  |.normal=>vc T P keep b s' Q
  |e=>Q e s')
 |.cond c a b,s,Q=>match s.ev c with
  |.one (.bool t)=>(t=true→eI (fun s=>vc T P keep a s Q) s)∧(t=false→eI (fun s=>vc T P keep b s Q) s)
  |_=>False
 |.block id c,s,Q=>vc T P keep c s (fun e s'=>match e with
  |.exit id'=>if id'=id then Q .normal s' else Q (.exit id') s'
  |e=>Q e s')
 |.loop c,s,Q=>∃(ι:Type) (I:ι→St) (m:ι→Nat) (x0:ι),Sub s (I x0)∧∀x,eI (fun s=>vc T P keep c s (fun e s'=>match e with
  |.normal=>∃y,Sub s' (I y)∧m y<m x
  |e=>Q e s')) (I x)
 |.exit id,s,Q=>Q (.exit id) s
 |.ret,s,Q=>Q .ret s
 |_,_,_=>False
theorem Il.mono {P:Program}{ops:Array Oper}{o:Oper}{s:St}{K K':St→Prop}(h:Il P ops o s K)(hk:∀s',K s'→K' s'):Il P ops o s K':=by
 unfold Il at*
 have hw:ml P o s K→ml P o s K':=fun h G a w hs Q next hn=>h G a w hs Q next (fun s' a' w' h1 h2=>hn s' a' w' (hk s' h1) h2)
 split at h
 ·exact hw h
 obtain⟨t,b,h1,h2,h3,h4⟩:=h;exact⟨t,b,h1,h2,fun e=>hw (h3 e),fun e=>hk _ (h4 e)⟩
def zS (ops:Array Oper)(gd:List (Nat×Tmp)):Prop:=∀g t,gb gd g=some t→bq ops g=some t
theorem zS.set {ops:Array Oper}{gd:List (Nat×Tmp)}(h:zS ops gd){i:Nat}{o:Oper}(ho:ops[i]? =some o)(u:Bool):zS ops (dX u i o.dst gd):=by
 unfold dX
 split
 ·cases hd:o.dst with
  |none=>exact h
  |some d=>
   intro g t hg;simp only[gb]at hg
   split at hg
   ·rename_i TK
    subst TK;simp only[Option.some.injEq]at hg;subst hg;unfold bq;rw[ho];exact hd
   exact h g t hg
 exact h
theorem jg {u:Bool}{e:eK}{K:eK→Prop}(h:bQ u e K):K e:=by
 unfold bQ at h
 split at h
 ·split at h
  ·rename_i b hb
   obtain⟨v,bl,fz⟩:=e;simp only at hb;subst hb
   cases b
   ·exact h.2 rfl
   exact h.1 rfl
  exact h.elim
 exact h
section
variable {T:fH}{P:Program}(hT:eJ P T)
include hT
theorem qf {o:Oper}{s:St}{K:St→Prop}{c:Call}(ho:o.op= .call c)(TC:c.callee= .builtin .cap){x:Operand}(RH:c.args= #[x]){t:TypeId}(Sv:c.argTypes= #[t])(SW:bT o s.n)(h:GX T s o.dst t x K):ml P o s K:=by
 unfold GX at h
 cases RV:T t with
 |none=>rw[RV]at h;exact h.elim
 |some E=>
  rw[RV]at h;simp only at h
  split at h
  ·rename_i e UI
   have hu:=fm hT RV UI
   split at h
   ·rename_i cc hx
    split at h
    ·rename_i n hl
     intro G a w RL Q next hk;obtain⟨ρ,hs⟩:=RL;have RJ:=hs.ev x;rw[hx]at RJ;obtain⟨ad,cap,hv,hc,hn⟩:=DK hl RJ;have hr:(execOp a.eval o).run P w= .ok (.value (.int .i64 cap)) w:=by
      unfold execOp;rw[ho];simp only[resolve,TC,Sem.run_bind,Sem.run_pure,Result.andThen_ok,invoke,Go.builtin,RH,Sv];simp only[Builtin.cap_,hv,List.map_toArray,List.map_cons,List.map_nil,List.getElem?_toArray,List.getElem?_cons_zero,Sem.run_bind,av hu,Result.andThen_ok,Sem.run_pure];rfl
     refine Oper.cQ hr (hk _ _ _ (h cap hc hn) ⟨ρ,?_⟩);have h1:=hs.put (dst:=o.dst) (x:=.one (.int .i64 cap)) (v:=.int .i64 cap) SW rfl
     cases hd:o.dst with
     |none=>rw[hd]at h1;exact h1
     |some d=>rw[hd]at h1;exact h1
    exact h.elim
   exact h.elim
  exact h.elim
omit hT in
theorem Eg {ρ:Nat→Loc}{dom ok:Nat→Prop}{w:World}{c:C}{n:Nat}{v:Value}(hl:iC c=some n)(h:aC ρ dom ok w c v):∃a cap,v= .slice a n cap∧(0<n→∃ad,a=some ad):=by
 cases c with
 |own b wd off len=>
  simp only[iC,Option.some.injEq]at hl;subst hl;obtain⟨_,_,cap,_,hr⟩:=h
  rcases hr with⟨g,o1,o2,_,hv,_⟩|⟨_,hv,h0,_⟩
  ·exact⟨_,_,hv,fun _=>⟨_,rfl⟩⟩
  exact⟨none,0,by rw[hv,h0],fun hp=>by omega⟩
 |win b b2 off len=>
  simp only[iC,Option.some.injEq]at hl;subst hl;obtain⟨_,_,_,cap,_,hr⟩:=h
  rcases hr with⟨g,o1,o2,_,hv,_⟩|⟨_,hv,h0,_⟩
  ·exact⟨_,_,hv,fun _=>⟨_,rfl⟩⟩
  exact⟨none,0,by rw[hv,h0],fun hp=>by omega⟩
 |ints k xs=>
  simp only[iC,Option.some.injEq]at hl;subst hl;obtain⟨a,cap,hv,_,hr⟩:=h
  rcases hr with hr|⟨g,o,ha,_⟩
  ·exact⟨a,cap,hv,fun hp=>by omega⟩
  exact⟨a,cap,hv,fun _=>⟨_,ha⟩⟩
 |rows wd m f=>
  simp only[iC,Option.some.injEq]at hl;subst hl;obtain⟨a,cap,hv,_,hr⟩:=h
  rcases hr with hr|⟨g,o,ha,_⟩
  ·exact⟨a,cap,hv,fun hp=>by omega⟩
  exact⟨a,cap,hv,fun _=>⟨_,ha⟩⟩
 |nil=>
  simp only[iC,Option.some.injEq]at hl;subst hl;exact⟨none,0,h,fun hp=>by omega⟩
 |any=>simp[iC]at hl
 |bool b=>simp[iC]at hl
 |int k n=>simp[iC]at hl
 |str b=>simp[iC]at hl
 |ptr b off=>simp[iC]at hl
 |eptr b wd i off=>simp[iC]at hl
 |elt c wd i off=>simp[iC]at hl
 |fn f n caps=>simp[iC]at hl
omit hT in
theorem rQ (w:World)(d:Nat){t e:TypeId}(hu:P.underlying t=some (.slice e))(ad:Option Addr)(n cap l c0:Nat):(Op.equalIn (d+1) t (.slice ad n cap) (.slice none l c0)).run P w= .ok ad.isNone w:=by
 cases ad<;>simp only[Op.equalIn,Sem.run_bind,av hu,Result.andThen_ok,Sem.run_pure,Option.isNone]
theorem Qv {
       o:Oper} {s:St} {K:St→Prop} {op:BinOp} {t t':TypeId} {x y:Operand} (ho:o.op= .binOp op t x y t') (Ux:wg op=true) (hy:qT y=true) (SW:bT o s.n) (h:F6 T s o.dst t x K):ml P o s K:=by
 have Ux:op= .eql:=by cases op<;>simp [wg]at Ux⊢
 subst Ux;have Uu:∃l c,y= .const (.slice none l c):=by
  cases y<;>simp [qT]at hy
  rename_i v
  cases v<;>simp [w9]at hy
  rename_i a l c
  cases a<;>simp at hy
  exact⟨l,c,rfl⟩
 obtain⟨l,c0,rfl⟩:=Uu;unfold F6 at h
 cases RV:T t with
 |none=>rw[RV]at h;exact h.elim
 |some E=>
  rw[RV]at h;simp only at h
  split at h
  ·rename_i e UI
   have hu:=fm hT RV UI
   split at h
   ·rename_i cc hx
    split at h
    ·rename_i n hl
     intro G a w RL Q next hk;obtain⟨ρ,hs⟩:=RL;have RJ:=hs.ev x;rw[hx]at RJ;obtain⟨ad,cap,hv,hn⟩:=Eg hl RJ;have hr:(execOp a.eval o).run P w= .ok (.value (.bool ad.isNone)) w:=by
      unfold execOp;rw[ho];refine dW ?_;have Vg:a.eval (.const (.slice none l c0))= .slice none l c0:=rfl;rw[hv,Vg];have hg:(eqGuard .eql t x (.const (.slice none l c0)) (.slice ad n cap) (.slice none l c0)).run P w= .ok () w:=by
       unfold eqGuard;rfl
      have he:(Op.equal t (.slice ad n cap) (.slice none l c0)).run P w= .ok ad.isNone w:=by
       exact rQ w 9999 hu ad n cap l c0
      rw[Sem.run_bind,hg,Result.andThen_ok];simp only[Go.binOp,Sem.run_bind,he,Result.andThen_ok,Sem.run_pure]
     refine Oper.cQ hr (hk _ _ _ (h ad.isNone (fun hp=>by obtain⟨x,rfl⟩:=hn hp;rfl)) ⟨ρ,?_⟩);have h1:=hs.put (dst:=o.dst) (x:=.one (.bool ad.isNone)) (v:=.bool ad.isNone) SW rfl
     cases hd:o.dst with
     |none=>rw[hd]at h1;exact h1
     |some d=>rw[hd]at h1;exact h1
    exact h.elim
   exact h.elim
  exact h.elim
theorem vf {o:Oper}{s:St}{K:St→Prop}(SW:bT o s.n)(h:AR T o.op o.dst s K):ml P o s K:=by
 unfold AR at h
 split at h
 ·rename_i t x y ho
  exact N5 hT ho h.1 h.2
 ·rename_i op t x y t' ho
  exact Qv hT ho h.1 h.2.1 SW h.2.2
 ·rename_i c ho
  split at h
  ·rename_i b hb
   split at h
   ·rename_i x y t t' Sn RH Sv
    obtain⟨U1,h⟩:=h;obtain⟨e',he'⟩:=OG hT U1;exact Kz hT ho hb (Array.toList_inj.1 RH) (Array.toList_inj.1 Sv) he' SW h
   ·rename_i x t Sn RH Sv
    exact qf hT ho hb (Array.toList_inj.1 RH) (Array.toList_inj.1 Sv) SW h
   ·rename_i x t Sn RH Sv
    exact MV hT ho hb (Array.toList_inj.1 RH) (Array.toList_inj.1 Sv) SW h
   ·rename_i x y t t' Sn RH Sv
    exact Pk hT ho hb (Array.toList_inj.1 RH) (Array.toList_inj.1 Sv) SW h.2
   exact h.elim
  exact h.elim
 exact h.elim
omit hT in
theorem r8 {o:Oper}{n:Nat}(h:pG o.dst n):bT o n:=fun d hd=>by rw[hd]at h;exact h
theorem gF {ops:Array Oper}:∀(os:List Oper) (i:Nat) (gd:List (Nat×Tmp)) (s:St) (K:St→Prop),ops.toList.drop i=os→zS ops gd→oW T P i os gd s K→uQ P ops os s K
 |[],_,_,_,_,_,_,h=>h
 |o::os,i,gd,s,K,Sb,TL,h=>by
  simp only[oW]at h;obtain⟨hd,h⟩:=h;have Sy:=r8 hd;have ho:ops[i]? =some o:=by
   have:(ops.toList.drop i)[0]? =some o:=by rw[Sb];rfl
   rw[List.getElem?_drop]at this
   simpa using this
  have Sk:ops.toList.drop (i+1)=os:=by
   rw[←List.drop_drop,Sb];rfl
  have taken:(if rR o.op then AR T o.op o.dst s (fun s'=>oW T P (i+1) os gd s' K)
    else if cX o.op then orM (eL T P o.op s s.nx s.nx (aQ o.dst os) (fun e=>bQ (uG i os) e fun e'=>oW T P (i+1) os (dX (uG i os) i o.dst gd) (after s o.dst e') K)) (nZ P o.op o.dst s (fun s'=>oW T P (i+1) os gd s' K))
    else eL T P o.op s s.nx s.nx (aQ o.dst os) (fun e=>bQ (uG i os) e fun e'=>oW T P (i+1) os (dX (uG i os) i o.dst gd) (after s o.dst e') K))→ml P o s (fun s'=>uQ P ops os s' K):=by
   intro h
   split at h
   ·have:=vf hT Sy h
    intro G a w hs Q next hn;exact this G a w hs Q next (fun s' a' w' h1 h2=>hn s' a' w' (gF os (i+1) gd s' K Sk TL h1) h2)
   split at h
   ·rcases h with h|h
    ·obtain⟨e,hK,S2⟩:=fW hT Sy h;exact S2.P4 (gF os (i+1) _ _ K Sk (TL.set ho _) (jg hK))
    have:=IA Sy h
    intro G a w hs Q next hn;exact this G a w hs Q next (fun s' a' w' h1 h2=>hn s' a' w' (gF os (i+1) gd s' K Sk TL h1) h2)
   obtain⟨e,hK,S2⟩:=fW hT Sy h;exact S2.P4 (gF os (i+1) _ _ K Sk (TL.set ho _) (jg hK))
  refine⟨Sy,?_⟩;unfold Il;unfold guarded at h
  cases hg:o.guard with
  |none=>rw[hg]at h;exact taken h
  |some gw=>
   obtain⟨g,want⟩:=gw;rw[hg]at h;simp only at h
   cases Up:gb gd g with
   |none=>rw[Up]at h;exact h.elim
   |some t=>
    rw[Up]at h;simp only at h
    split at h
    ·rename_i b hb
     refine⟨t,b,TL g t Up,hb,fun e=>?_,fun e=>?_⟩
     ·rw[if_pos e]at h;exact taken h
     rw[if_neg e]at h;exact gF os (i+1) _ _ K Sk (TL.set ho _) h
    exact h.elim
theorem BD {o:Oper}{os:List Oper}{s:St}{K:St→Prop}(hd:bT o s.n)(h:tF T P o os s K):ml P o s K:=by
 unfold tF at h
 split at h
 ·exact vf hT hd h
 split at h
 ·rcases h with h|h
  ·obtain⟨e,hK,S2⟩:=fW hT hd h;exact S2.P4 hK
  exact IA hd h
 obtain⟨e,hK,S2⟩:=fW hT hd h;exact S2.P4 hK
theorem uE {ops:Array Oper}{s:St}:∀(pd:List Nat),(∀j∈pd,∃o,ops[j]? =some o∧iq o.op=true)→prom T P ops.toList pd s→Promise P ops s pd
 |[],_,_=>fun j hj=>by cases hj
 |i::r,hl,h=>by
  simp only[prom]at h;obtain⟨h1,h2⟩:=h;intro j hj
  rcases List.mem_cons.1 hj with rfl|hj
  ·obtain⟨o,ho,VR⟩:=hl j (by simp);rw[Array.getElem?_toList,ho]at h1;simp only at h1
   cases hd:o.dst with
   |none=>rw[hd]at h1;exact h1.elim
   |some d=>
    rw[hd]at h1;obtain⟨SW,h1⟩:=h1;have doit:eL T P o.op s s.nx s.nx false (fun e=>e.val=lk s.env d)→Ji P o s s.nx (lk s.env d):=fun h1=>by
     obtain⟨e,he,S2⟩:=fW hT (fun d' ZQ=>by rw[hd]at ZQ;obtain rfl:=Option.some.inj ZQ;exact SW) h1;have he:e.val=lk s.env d:=he;rw[←he];exact(S2.2 VR).2.2
    refine⟨o,d,ho,hd,?_,SW⟩;unfold vY at h1;unfold Ij
    split at h1
    ·rename_i hg;(try rw[hg]);exact doit h1
    rename_i g want hg
    try rw[hg]
    split at h1
    ·rename_i t ht
     split at h1
     ·rename_i b hb
      refine⟨t,b,?_,hb,?_⟩
      ·unfold bq;rw[←Array.getElem?_toList];exact ht
      split at h1
      ·rename_i SH;rw[if_pos SH];exact doit h1
      rename_i SH;rw[if_neg SH];exact h1
     exact h1.elim
    exact h1.elim
  exact uE r (fun j hj=>hl j (by simp[hj])) h2 j hj
theorem te {ops:Array Oper}{ws:WL}{ex:Option Nat}{pre:List Nat}{i:Nat}{pd:List Nat}{sub:WL}{s:St}{K K':St→Prop}(h1:Pc ops ws ex pre i pd sub)(h:EJ T P ops.toList i pd s K)(hK:∀s',K s'→K' s'):Ff P ops i pd s K':=by
 simp only[EJ,Array.getElem?_toList]at h;obtain⟨o,ho,_,_,Ux⟩:=h1.op;rw[ho]at h;obtain⟨hd,h⟩:=h;have Sy:bT o s.n:=r8 hd;refine⟨o,ho,Sy,fun G a w hs Q next hk=>BD hT Sy h G a w hs Q next fun s' a' w' k1 k2=>hk s' a' w' ⟨?_,hK _ k1.2⟩ k2⟩;exact uE hT pd (fun j hj=>by obtain⟨oj,d,_,k1,k2,_⟩:=Ux j hj;exact⟨oj,k1,k2⟩) k1.1
theorem gG {ops:Array Oper}{ws:WL}{ex:Option Nat}:∀(t:WL) (pre:List Nat) (s:St) (K:St→Prop),lW ops ws ex pre t=true→iE T P ops.toList t s K→lQ P ops t s K
 |.nil,_,_,_,_,h=>h
 |.opt _ _ _ _,_,_,_,_,h=>h.elim
 |.cons _ _ _ (.opt _ _ _ _),_,_,_,_,h=>by rw[iE]at h;exact h.elim
 |.cons i pd sub .nil,pre,s,K,hg,h=>by
  obtain⟨h1,_⟩:=iZ hg;rw[iE]at h;rw[lQ];exact te hT h1 h fun s' k=>gG sub (i::pre) s' K h1.sub k
 |.cons i pd sub (.cons i' pd' sub' alt'),pre,s,K,hg,h=>by
  obtain⟨h1,h2⟩:=iZ hg;rw[iE]at h;rw[lQ];exact⟨te hT h1 h.1 fun s' k=>gG sub (i::pre) s' K h1.sub k,gG (.cons i' pd' sub' alt') pre s K h2 h.2⟩
def GI (P:Program)(ops:Array Oper)(ws:WL)(σ:St)(es:Nat→eK)(k:Nat):Prop:=
 (∀j,∀b∈(es j).fz,b<σ.nx)∧(∀(j:Nat) o,j<k→bF ws j=true→ops[j]? =some o→k9 P ops σ.nx j o (aK σ σ.nx ops es (bF ws) j) (es j))∧
  ∀(j:Nat) o,j<k→bF ws j=true→ops[j]? =some o→jE o.op=true→(es j).fz=[]
omit hT in
theorem Nf {op:Op}{s:St}{nx0 id:Nat}{fz:Bool}{K:eK→Prop}(ha:jE op=true)(h:eL T P op s nx0 id fz K):eL T P op s nx0 id fz (fun e=>K e∧e.fz=[]):=by
 cases op<;>simp only[jE,Bool.false_eq_true]at ha
 simp only[eL]at h⊢
 split at h
 ·exact⟨h,trivial⟩
 exact h.elim
def mH (os:List Oper):Nat:=(os.takeWhile fun o=>!qG o.op).length
omit hT in
theorem xQ {nx0:Nat}:∀{l:List Nat},uJ nx0 l→∀b∈l,b<nx0
 |[],_,b,hb=>by simp at hb
 |x::r,h,b,hb=>by
  rcases List.mem_cons.1 hb with rfl|hb
  ·exact h.1
  exact xQ h.2 b hb
omit hT in
theorem Ab {σ:St}{nx0:Nat}{ops:Array Oper}{e e':Nat→eK}{L:Nat→Bool}:∀k,(∀j,j<k→e j=e' j)→aK σ nx0 ops e L k=aK σ nx0 ops e' L k:=by
 intro k
 induction k with
 |zero=>intro _;rfl
 |succ k ih=>intro h;simp only[aK,ih (fun j hj=>h j (by omega)),h k (by omega)]
def Laid (P:Program)(ops:Array Oper)(σ:St)(es:Nat→eK)(k:Nat):Prop:=
 (∀j,∀b∈(es j).fz,b<σ.nx)∧∀(j:Nat) o,j<k→ops[j]? =some o→k9 P ops σ.nx j o (aK σ σ.nx ops es (fun _=>true) j) (es j)
theorem wG {ops:Array Oper}{σ:St}:∀(os:List Oper) (i:Nat) (gd:List (Nat×Tmp)) (s:St) (K:St→Prop) (es:Nat→eK),ops.toList.drop i=os→zS ops gd→s=aK σ σ.nx ops es (fun _=>true) i→
  Laid P ops σ es i→uL T P σ.nx ops.size i os gd s K→
  ∃es',Laid P ops σ es' (i+mH os)∧uQ P ops (ops.toList.drop (i+mH os)) {aK σ σ.nx ops es' (fun _=>true) (i+mH os)with nx:=σ.nx+ops.size} K
 |[],i,gd,s,K,es,Sb,TL,hs,hl,h=>by
  refine⟨es,hl,?_⟩;simp only[mH,List.takeWhile_nil,List.length_nil,Nat.add_zero,Sb];rw[←hs];exact h
 |o::os,i,gd,s,K,es,Sb,TL,hs,hl,h=>by
  simp only[uL]at h;have ho:ops[i]? =some o:=by
   have:(ops.toList.drop i)[0]? =some o:=by rw[Sb];rfl
   rw[List.getElem?_drop]at this
   simpa using this
  have Sk:ops.toList.drop (i+1)=os:=by
   rw[←List.drop_drop,Sb];rfl
  by_cases U3:qG o.op=true
  ·rw[if_pos U3]at h;have hn:mH (o::os)=0:=by simp[mH,List.takeWhile_cons,U3]
   rw[hn,Nat.add_zero,Sb];refine⟨es,hl,?_⟩
   have:=gF hT (ops:=ops) (o::os) i gd _ K Sb TL h
   rw[hs]at this;exact this
  rw[if_neg U3]at h;obtain⟨hd,h⟩:=h;have Sy:=r8 hd;have hn:mH (o::os)=mH os+1:=by simp[mH,List.takeWhile_cons,U3]
  rw[hn,show i+(mH os+1)=i+1+mH os by omega]
  -- one more laid down
  have more:∀(e:eK) (gd':List (Nat×Tmp)),zS ops gd'→(∀b∈e.fz,b<σ.nx)→k9 P ops σ.nx i o s e→uL T P σ.nx ops.size (i+1) os gd' (s.add o.dst (σ.nx+i) e) K→
    ∃es',Laid P ops σ es' (i+1+mH os)∧uQ P ops (ops.toList.drop (i+1+mH os)) {aK σ σ.nx ops es' (fun _=>true) (i+1+mH os)with nx:=σ.nx+ops.size} K:=by
   intro e gd' XB Tf RW hv;have SL:∀j,j<i→es j=(fun j=>if j=i then e else es j) j:=fun j hj=>by simp only;rw[if_neg (by omega)]
   have Uf:∀j,j≤i→aK σ σ.nx ops (fun j=>if j=i then e else es j) (fun _=>true) j=aK σ σ.nx ops es (fun _=>true) j:=fun j hj=>(Ab j (fun m hm=>SL m (by omega))).symm;refine wG os (i+1) gd' (s.add o.dst (σ.nx+i) e) K (fun j=>if j=i then e else es j) Sk XB ?_ ⟨fun j b hb=>?_,fun j o' hj SO=>?_⟩ hv
   ·simp only[aK,if_true];rw[Uf i (Nat.le_refl _),←hs]
    have:bq ops i=o.dst:=by unfold bq;rw[ho];rfl
    rw[this]
   ·simp only at hb
    split at hb
    ·exact Tf b hb
    exact hl.1 j b hb
   rw[Uf j (by omega)]
   by_cases To:j=i
   ·subst To;rw[ho]at SO;obtain rfl:=Option.some.inj SO;simp only[if_true];rw[←hs];exact RW
   simp only[To,if_false];exact hl.2 j o' (by omega) SO
  have taken:(if cX o.op then orM (eL T P o.op s σ.nx (σ.nx+i) (aQ o.dst os) (fun e=>uJ σ.nx e.fz∧bQ (uG i os) e fun e'=>uL T P σ.nx ops.size (i+1) os (dX (uG i os) i o.dst gd) (s.add o.dst (σ.nx+i) e') K)) False else eL T P o.op s σ.nx (σ.nx+i) (aQ o.dst os) (fun e=>uJ σ.nx e.fz∧bQ (uG i os) e fun e'=>uL T P σ.nx ops.size (i+1) os (dX (uG i os) i o.dst gd) (s.add o.dst (σ.nx+i) e') K))→
    ∃e,a6 P o s σ.nx (σ.nx+i) e∧(∀b∈e.fz,b<σ.nx)∧uL T P σ.nx ops.size (i+1) os (dX (uG i os) i o.dst gd) (s.add o.dst (σ.nx+i) e) K:=by
   intro h;have h:eL T P o.op s σ.nx (σ.nx+i) (aQ o.dst os) (fun e=>uJ σ.nx e.fz∧bQ (uG i os) e fun e'=>uL T P σ.nx ops.size (i+1) os (dX (uG i os) i o.dst gd) (s.add o.dst (σ.nx+i) e') K):=by
    split at h
    ·rcases h with h|h
     ·exact h
     exact h.elim
    exact h
   obtain⟨e,hK,S2⟩:=fW hT Sy h;exact⟨e,S2,xQ hK.1,jg hK.2⟩
  unfold guarded at h
  cases hg:o.guard with
  |none=>
   rw[hg]at h;obtain⟨e,S2,Tf,hv⟩:=taken h;exact more e _ (TL.set ho _) Tf ⟨Sy,by rw[hg];exact S2⟩ hv
  |some gw=>
   obtain⟨g,want⟩:=gw;rw[hg]at h;simp only at h
   cases Up:gb gd g with
   |none=>rw[Up]at h;exact h.elim
   |some t=>
    rw[Up]at h;simp only at h
    split at h
    ·rename_i b hb
     by_cases SH:b=some want
     ·rw[if_pos SH]at h;obtain⟨e,S2,Tf,hv⟩:=taken h;exact more e _ (TL.set ho _) Tf ⟨Sy,by rw[hg];exact⟨t,b,TL g t Up,hb,by rw[if_pos SH];exact S2⟩⟩ hv
     rw[if_neg SH]at h;refine more eK.skip (dX (uG i os) i o.dst gd) (TL.set ho _) (fun b hb=>by simp[eK.skip]at hb) ⟨Sy,by rw[hg];exact⟨t,b,TL g t Up,hb,by rw[if_neg SH]⟩⟩ ?_;unfold eK.skip;rw[St.add_plain];exact h
    exact h.elim
theorem kO {ops:Array Oper}{σ:St}{ws:WL}:∀(os:List Oper) (i:Nat) (gd:List (Nat×Tmp)) (s:St) (K:St→Prop) (es:Nat→eK),i≤ops.size→ops.toList.drop i=os→zS ops gd→s=aK σ σ.nx ops es (bF ws) i→
  GI P ops ws σ es i→fZ T P σ.nx ops.size ws i os gd s K→
  ∃es',GI P ops ws σ es' ops.size∧K (tS σ ops es' ws)
 |[],i,gd,s,K,es,hi,Sb,TL,hs,hl,h=>by
  have:i=ops.size:=by
   have:=List.drop_eq_nil_iff.1 Sb
   simp at this;omega
  subst this;refine⟨es,hl,?_⟩;unfold tS;rw[←hs];exact h
 |o::os,i,gd,s,K,es,hi,Sb,TL,hs,hl,h=>by
  simp only[fZ]at h;have ho:ops[i]? =some o:=by
   have:(ops.toList.drop i)[0]? =some o:=by rw[Sb];rfl
   rw[List.getElem?_drop]at this
   simpa using this
  have RE:=(Array.getElem?_eq_some_iff.1 ho).1;have Sk:ops.toList.drop (i+1)=os:=by
   rw[←List.drop_drop,Sb];rfl
  by_cases hw:iI ws i=true
  ·rw[if_pos hw]at h;have hnR:bF ws i=false:=by simp[bF,hw]
   refine kO os (i+1) gd s K es (by omega) Sk TL ?_ ⟨hl.1,fun j o' hj hR SO=>?_,fun j o' hj hR SO=>?_⟩ h
   ·simp only[aK,hnR,Bool.false_eq_true,if_false];exact hs
   ·by_cases To:j=i
    ·rw[To,hnR]at hR;cases hR
    exact hl.2.1 j o' (by omega) hR SO
   by_cases To:j=i
   ·rw[To,hnR]at hR;cases hR
   exact hl.2.2 j o' (by omega) hR SO
  rw[if_neg hw]at h;have hR:bF ws i=true:=by simp[bF,hw]
  obtain⟨hd,h⟩:=h;have Sy:=r8 hd;have more:∀(e:eK) (gd':List (Nat×Tmp)),zS ops gd'→(∀b∈e.fz,b<σ.nx)→(jE o.op=true→e.fz=[])→k9 P ops σ.nx i o s e→fZ T P σ.nx ops.size ws (i+1) os gd' (s.add o.dst (σ.nx+i) e) K→
    ∃es',GI P ops ws σ es' ops.size∧K (tS σ ops es' ws):=by
   intro e gd' XB Tf Xm RW hv;have SL:∀j,j<i→es j=(fun j=>if j=i then e else es j) j:=fun j hj=>by simp only;rw[if_neg (by omega)]
   have Uf:∀j,j≤i→aK σ σ.nx ops (fun j=>if j=i then e else es j) (bF ws) j=aK σ σ.nx ops es (bF ws) j:=fun j hj=>(Ab j (fun m hm=>SL m (by omega))).symm;refine kO os (i+1) gd' (s.add o.dst (σ.nx+i) e) K (fun j=>if j=i then e else es j) (by omega) Sk XB ?_ ⟨fun j b hb=>?_,fun j o' hj hRj SO=>?_,fun j o' hj hRj SO=>?_⟩ hv
   ·simp only[aK,hR,if_true];rw[Uf i (Nat.le_refl _),←hs]
    have:bq ops i=o.dst:=by unfold bq;rw[ho];rfl
    rw[this]
   ·simp only at hb
    split at hb
    ·exact Tf b hb
    exact hl.1 j b hb
   ·rw[Uf j (by omega)]
    by_cases To:j=i
    ·subst To;rw[ho]at SO;obtain rfl:=Option.some.inj SO;simp only[if_true];rw[←hs];exact RW
    simp only[To,if_false];exact hl.2.1 j o' (by omega) hRj SO
   by_cases To:j=i
   ·subst To;rw[ho]at SO;obtain rfl:=Option.some.inj SO;simp only[if_true];exact Xm
   simp only[To,if_false];exact hl.2.2 j o' (by omega) hRj SO
  have taken:(if cX o.op then orM (eL T P o.op s σ.nx (σ.nx+i) (aQ o.dst os) (fun e=>uJ σ.nx e.fz∧bQ (uG i os) e fun e'=>fZ T P σ.nx ops.size ws (i+1) os (dX (uG i os) i o.dst gd) (s.add o.dst (σ.nx+i) e') K)) False else eL T P o.op s σ.nx (σ.nx+i) (aQ o.dst os) (fun e=>uJ σ.nx e.fz∧bQ (uG i os) e fun e'=>fZ T P σ.nx ops.size ws (i+1) os (dX (uG i os) i o.dst gd) (s.add o.dst (σ.nx+i) e') K))→
    ∃e,a6 P o s σ.nx (σ.nx+i) e∧(∀b∈e.fz,b<σ.nx)∧(jE o.op=true→e.fz=[])∧fZ T P σ.nx ops.size ws (i+1) os (dX (uG i os) i o.dst gd) (s.add o.dst (σ.nx+i) e) K:=by
   intro h;have h:eL T P o.op s σ.nx (σ.nx+i) (aQ o.dst os) (fun e=>uJ σ.nx e.fz∧bQ (uG i os) e fun e'=>fZ T P σ.nx ops.size ws (i+1) os (dX (uG i os) i o.dst gd) (s.add o.dst (σ.nx+i) e') K):=by
    split at h
    ·rcases h with h|h
     ·exact h
     exact h.elim
    exact h
   by_cases ha:jE o.op=true
   ·obtain⟨e,hK,S2⟩:=fW hT Sy (Nf ha h);exact⟨e,S2,xQ hK.1.1,fun _=>hK.2,jg hK.1.2⟩
   obtain⟨e,hK,S2⟩:=fW hT Sy h;exact⟨e,S2,xQ hK.1,fun h=>absurd h ha,jg hK.2⟩
  unfold guarded at h
  cases hg:o.guard with
  |none=>
   rw[hg]at h;obtain⟨e,S2,Tf,Xm,hv⟩:=taken h;exact more e _ (TL.set ho _) Tf Xm ⟨Sy,by rw[hg];exact S2⟩ hv
  |some gw=>
   obtain⟨g,want⟩:=gw;rw[hg]at h;simp only at h
   cases Up:gb gd g with
   |none=>rw[Up]at h;exact h.elim
   |some t=>
    rw[Up]at h;simp only at h
    split at h
    ·rename_i b hb
     by_cases SH:b=some want
     ·rw[if_pos SH]at h;obtain⟨e,S2,Tf,Xm,hv⟩:=taken h;exact more e _ (TL.set ho _) Tf Xm ⟨Sy,by rw[hg];exact⟨t,b,TL g t Up,hb,by rw[if_pos SH];exact S2⟩⟩ hv
     rw[if_neg SH]at h;refine more eK.skip (dX (uG i os) i o.dst gd) (TL.set ho _) (fun b hb=>by simp[eK.skip]at hb) (fun _=>rfl) ⟨Sy,by rw[hg];exact⟨t,b,TL g t Up,hb,by rw[if_neg SH]⟩⟩ ?_;unfold eK.skip;rw[St.add_plain];exact h
    exact h.elim
end
def codeOk (kp:Kp):Code→Bool
 |.region id ops draw=>!draw||(match l9 kp.ms id with
  |none=>tH ops (mH ops.toList)
  |some ws=>OV ops ws)
 |.seq a b=>codeOk kp a&&codeOk kp b
 |.cond _ a b=>codeOk kp a&&codeOk kp b
 |.block _ c=>codeOk kp c
 |.loop c=>codeOk kp c
 |.skip=>true
 |.exit _=>true
 |.ret=>true
 |_=>false
theorem sP {T:fH}{P:Program}(hT:eJ P T)(hm:P.follows .mixedOrders=true){id:Nat}{ops:Array Oper}{draw:Bool}{kp:Kp}(RY:codeOk kp (.region id ops draw)=true){s:St}{K:St→Prop}(h:gX T P kp.ms id draw ops.toList s K)
  {G:Ctx} {a:Act} {w:World} (hs:ot G s a w):(Code.region id ops draw).wp P (fun e a w=>e= .normal∧∃s',K s'∧ot G s' a w) a w:=by
 unfold gX at h
 cases draw with
 |false=>
  simp only[Bool.false_eq_true,if_false]at h;have hW:=gF hT (ops:=ops) ops.toList 0 [] s K (by simp) (fun g t hg=>by simp[gb]at hg) h;refine wp_region ?_;have key:∀(os:List Oper) (i:Nat) (s:St) (a:Act) (w:World),ops.toList.drop i=os→uQ P ops os s K→ot G s a w→wpOps P ops (fun e a w=>e= .normal∧∃s',K s'∧ot G s' a w) (List.range' i os.length) a w:=by
   intro os
   induction os with
   |nil=>intro i s a w _ hW hs;exact⟨rfl,s,hW,hs⟩
   |cons o os ih=>
    intro i s a w Sb hW hs;have ho:ops[i]? =some o:=by
     have:(ops.toList.drop i)[0]? =some o:=by rw[Sb];rfl
     rw[List.getElem?_drop]at this
     simpa using this
    have Sk:ops.toList.drop (i+1)=os:=by
     rw[←List.drop_drop,Sb];rfl
    rw[List.length_cons,List.range'_succ,wpOps_cons];exact Il.step ho hW.2 hW.1 hs fun s' a' w' h1 h2=>ih (i+1) s' a' w' Sk h1 h2
  have:=key ops.toList 0 s a w (by simp) hW hs
  rw[List.range_eq_range']
  simpa using this
 |true=>
  simp only[if_true]at h;have Uy:(match l9 kp.ms id with
   |none=>tH ops (mH ops.toList)
   |some ws=>OV ops ws)=true:=by simpa[codeOk]using RY
  have SJ:ops.toList.length=ops.size:=by simp
  unfold ow at h;rw[SJ]at h
  cases hmd:l9 kp.ms id with
  |some ws=>
   rw[hmd]at h Uy;simp only at Uy;obtain⟨ρ,hr⟩:=hs;have VY:∀(es:Nat→eK) (wt:WL) k,aK s s.nx ops es (fun j=>bF wt j&&(Array.replicate ops.size false).getD j false) k=s:=by
    intro es wt k
    induction k with
    |zero=>rfl
    |succ k ih=>
     simp only[aK];rw[if_neg (by simp[Array.getD]),ih]
   have YS:iB ops (Array.replicate ops.size false)≤ops.size:=by
    unfold iB
    have:=List.countP_le_length (p:=fun i=>!(Array.replicate ops.size false).getD i false) (l:=List.range ops.size)
    simpa using this
   have VZ:∀(es:Nat→eK) (wt:WL) (ex:Option Nat),ou P G ops wt ex True s es K (Array.replicate ops.size false) a w.drew:=fun es wt ex=>by
    refine⟨by simp,fun i hi=>by simp[Array.getD]at hi,.inl ⟨trivial,fun i hi=>by simp[Array.getD]at hi,ρ,?_⟩⟩;rw[VY];have h1:aR G (fun b=>b<s.nx) ρ s a w.drew:=hr.drew;exact h1.cR (fun b hb=>Or.inl hb)
   refine wp_region_any hm ?_;have plain:(∀q d t1 t2,ws≠ .opt q d t1 t2)→wpAny P .any ops (fun e a w=>e= .normal∧∃s',K s'∧ot G s' a w) ops.size (Array.replicate ops.size false) a w.drew:=fun Yd=>by
    have Yf:Fg ops ws=true∧jY ops ws [] ws=true∧lW ops ws none [] ws=true:=by
     cases ws with
     |opt q d t1 t2=>exact absurd rfl (Yd q d t1 t2)
     |nil=>simpa[OV,and_assoc]using Uy
     |cons _ _ _ _=>simpa[OV,and_assoc]using Uy
    have h':fZ T P s.nx ops.size ws 0 ops.toList [] s (fun s'=>iE T P ops.toList ws s' K):=by
     cases ws with
     |opt q d t1 t2=>exact absurd rfl (Yd q d t1 t2)
     |nil=>exact h
     |cons _ _ _ _=>exact h
    have hg:=sH Yf.1;obtain⟨es,hl,hW⟩:=kO hT (ops:=ops) (σ:=s) (ws:=ws) ops.toList 0 [] s _ (fun _=>eK.skip) (Nat.zero_le _) (by simp) (fun g t hg=>by simp[gb]at hg) rfl ⟨fun j b hb=>by simp[eK.skip]at hb,fun j o hj=>by omega,fun j o hj=>by omega⟩ h';have V0:=gG hT (ops:=ops) ws [] _ K Yf.2.2 hW;exact kJ (ex:=none) (F:=True) hg (fun _=>Yf.2.1) (fun _=>Yf.2.2) hl.1 (fun _ i o hR ho=>hl.2.1 i o (Array.getElem?_eq_some_iff.1 ho).1 hR ho) (fun _=>V0) (fun _ q hq=>by cases hq) (fun s' a' w' h1 h2=>⟨rfl,s',h1,h2⟩) (fun ch a a' w h=>by cases h.1) ops.size _ a _ (VZ es ws none) YS
   cases ws with
   |nil=>exact plain fun _ _ _ _ e=>by cases e
   |cons _ _ _ _=>exact plain fun _ _ _ _ e=>by cases e
   |opt q d t1 t2=>
    have hk:=JF Uy;obtain⟨es,hl,hW1,hW2⟩:=kO hT (ops:=ops) (σ:=s) (ws:=t1) ops.toList 0 [] s _ (fun _=>eK.skip) (Nat.zero_le _) (by simp) (fun g t hg=>by simp[gb]at hg) rfl ⟨fun j b hb=>by simp[eK.skip]at hb,fun j o hj=>by omega,fun j o hj=>by omega⟩ h;obtain⟨oq,hoq,_,haq⟩:=hk.al;exact xU hk hl.1 (hl.2.2 q oq hk.qs hk.qR hoq haq) (fun i o hR ho=>hl.2.1 i o (Array.getElem?_eq_some_iff.1 ho).1 hR ho) (gG hT (ops:=ops) t1 [] _ K hk.w1 hW1) (gG hT (ops:=ops) t2 [] _ K hk.w2 hW2)
     (fun s' a' w' h1 h2=>⟨rfl,s',h1,h2⟩) (fun ch a a' w h=>by cases h.1) ops.size _ a _ (VZ es t1 (some q)) YS
  |none=>
  rw[hmd]at h Uy;simp only at h Uy;have hck':tH ops (mH ops.toList)=true:=Uy;obtain⟨es,hl,hW⟩:=wG hT (ops:=ops) (σ:=s) ops.toList 0 [] s K (fun _=>eK.skip) (by simp) (fun g t hg=>by simp[gb]at hg) rfl ⟨fun j b hb=>by simp[eK.skip]at hb,fun j o hj=>by omega⟩ h;rw[Nat.zero_add]at hl hW;refine wp_region_any hm ?_;obtain⟨ρ,hr⟩:=hs;have VY:∀k,aK s s.nx ops es (fun j=>(Array.replicate ops.size false).getD j false) k=s:=by
   intro k
   induction k with
   |zero=>rfl
   |succ k ih=>
    simp only[aK];rw[if_neg (by simp[Array.getD]),ih]
  refine zG (AB hck') hl.1 hl.2 hW (fun s' a' w' h1 h2=>⟨rfl,s',h1,h2⟩) ops.size _ a _ ⟨by simp,fun i hi=>by simp[Array.getD]at hi,.inl ⟨fun i hi=>by simp[Array.getD]at hi,ρ,?_⟩⟩ ?_
  ·rw[VY];have h1:aR G (fun b=>b<s.nx) ρ s a w.drew:=hr.drew;exact h1.cR (fun b hb=>Or.inl hb)
  unfold iB
  have:=List.countP_le_length (p:=fun i=>!(Array.replicate ops.size false).getD i false) (l:=List.range ops.size)
  simpa using this
theorem OY (keep:List Nat)(s:St)(t:Nat):lk (gc keep s).env t=if t∈keep then lk s.env t else .unk:=by
 simp only[gc]
 induction keep with
 |nil=>simp[lk]
 |cons x r ih=>
  simp only[List.map_cons,lk,List.mem_cons]
  by_cases h:t=x
  ·subst h;simp
  rw[if_neg h,ih]
  simp[h]
theorem Nv (keep:List Nat)(s:St):Sub s (gc keep s):=by
 rintro G a w ⟨ρ,h⟩;refine⟨ρ,{hd:=h.hd,hn:=h.hn,env:=fun t=>?_,own:=h.own,inj:=h.inj,os:=h.os,tape:=h.tape,output:=h.output,size:=h.size,keep:=h.keep,wf:=h.wf,home:=h.home,room:=h.room}⟩;rw[OY]
 split
 ·exact h.env t
 trivial
theorem mm {T:fH}{P:Program}(hT:eJ P T)(hm:P.follows .mixedOrders=true)(keep:Kp):∀(c:Code),codeOk keep c=true→∀(s:St) (Q:Exit→St→Prop),vc T P keep c s Q→∀(G:Ctx) (a:Act) (w:World),ot G s a w→
  c.wp P (fun e a w=>∃s',Q e s'∧ot G s' a w) a w:=by
 intro c
 induction c with
 |skip=>intro _ s Q h G a w hs;exact wp_skip ⟨s,h,hs⟩
 |region id ops draw=>
  intro RY s Q h G a w hs;refine wp_mono (sP hT hm RY h hs) ?_;rintro e a w ⟨rfl,s',h1,h2⟩;exact⟨_,h1,Nv keep.ks s' G a w h2⟩
 |seq x y ihx ihy=>
  intro RY s Q h G a w hs;simp only[codeOk,Bool.and_eq_true]at RY;refine wp_seq (wp_mono (ihx RY.1 s _ h G a w hs) ?_);rintro e a w ⟨s',h1,h2⟩
  cases e with
  |normal=>exact ihy RY.2 s' Q h1 G a w h2
  |_=>exact⟨s',h1,h2⟩
 |cond c x y ihx ihy=>
  intro RY s Q h G a w hs;simp only[codeOk,Bool.and_eq_true]at RY;simp only[vc]at h
  split at h
  ·rename_i t ht
   have RJ:a.eval c= .bool t:=by
    obtain⟨ρ,hr⟩:=hs
    have:=hr.ev c
    rw[ht]at this;exact this
   exact wp_cond_split RJ (fun e=>ihx RY.1 s Q (h.1 e) G a w hs) (fun e=>ihy RY.2 s Q (h.2 e) G a w hs)
  exact h.elim
 |block id c ih=>
  intro RY s Q h G a w hs;refine wp_block (wp_mono (ih RY s _ h G a w hs) ?_);rintro e a w ⟨s',h1,h2⟩
  cases e with
  |exit id'=>
   simp only[Exit.inBlock];simp only at h1
   split
   ·rename_i he;rw[if_pos he]at h1;exact⟨s',h1,h2⟩
   rename_i he;rw[if_neg he]at h1;exact⟨s',h1,h2⟩
  |_=>exact⟨s',h1,h2⟩
 |loop c ih=>
  intro RY s Q h G a w hs;obtain⟨ι,I,m,x0,V1,hround⟩:=h;refine wp_loop_ghost (fun n a w=>∃x,m x=n∧ot G (I x) a w) (m x0) ⟨x0,rfl,V1 G a w hs⟩ ?_;rintro n a w ⟨x,rfl,hx⟩;refine wp_mono (ih RY (I x) _ (hround x) G a w hx) ?_;rintro e a w ⟨s',h1,h2⟩
  cases e with
  |normal=>
   obtain⟨y,hy,RE⟩:=h1;exact⟨m y,RE,y,rfl,hy G a w h2⟩
  |_=>exact⟨s',h1,h2⟩
 |exit id=>intro _ s Q h G a w hs;exact wp_exit ⟨s,h,hs⟩
 |ret=>intro _ s Q h G a w hs;exact wp_ret ⟨s,h,hs⟩
 |_=>intro RY;simp[codeOk]at RY
end Go.Eng
namespace Go.Eng
open Go
def eO:Nat→List V→List (Nat×V)
 |_,[]=>[]
 |i,v::r=>(i,v)::eO (i+1) r
def iS (args:List V)(n:Nat):St:={env:=eO 0 args,own:=[],nx:=1,n:=n}
def fB (x y:V):Prop:=∀ok w v,b6 bg bm ok w x v→b6 bg bm ok w y v
theorem fB.refl (x:V):fB x x:=fun _ _ _ h=>h
theorem Ve {x y:V}(h:x=y):fB x y:=h▸fB.refl x
def Jy (E:Ty):Bool:=
 match E.k.agg with
 |some true=>true
 |some false=>E.size==1
 |none=>false
def Ie (
     T:fH) (s:St):ResultVar→Option V
 |.tmp t=>some (Bq s.own s.nx (lk s.env t))
 |.cell a t=>match T t with
  |some E=>match lk s.env a with
   |.one (.ptr b off)=>match lo s.own b with
    |some B=>match B.bk with
     |.var cs=>if off=0∧cs.length=E.size∧Jy E=true then some (Bq s.own s.nx (OS E.k cs))else none
     |_=>none
    |none=>none
   |_=>none
  |none=>none
def uC (T:fH)(s:St):List ResultVar→Option (List V)
 |[]=>some []
 |r::rs=>match Ie T s r,uC T s rs with
  |some v,some vs=>some (v::vs)
  |_,_=>none
def AX:List V→V
 |[v]=>v
 |vs=>.aB vs
def bX {α:Type}(x:Option α)(K:α→Prop):Prop:=
 match x with
 |some a=>K a
 |none=>False
theorem ov {α:Type}(a:α)(K:α→Prop):bX (some a) K=K a:=rfl
def K8 (T:fH)(rs:List ResultVar)(R:V→Prop):Exit→St→Prop
 |.ret,s=>bX (uC T s rs) fun vs=>R (AX vs)
 |.normal,s=>bX (uC T s rs) fun vs=>R (AX vs)
 |_,_=>False
theorem Li {E:Ty}(h:Jy E=true):E.k.agg=some true∨(E.k.agg=some false∧E.size=1):=by
 unfold Jy at h
 cases ha:E.k.agg with
 |none=>rw[ha]at h;cases h
 |some b=>cases b with
  |true=>exact .inl rfl
  |false=>rw[ha]at h;exact .inr ⟨rfl,by simpa using h⟩
def vz (G:Ctx)(w:World)(g:Nat):Prop:=g<w.heap.size∧¬G.forb g
theorem Fq {G:Ctx}{dom:Nat→Prop}{ρ:Nat→Loc}{s:St}{a:Act}{w:World}(hs:aR G dom ρ s a w){ids:List Nat}{g:Nat}(h:cS G s.own ρ w ids g):vz G w g:=by
 rcases h with h|⟨b,_,B,o,hl,ha⟩
 ·exact⟨h.1,h.2.1⟩
 have:=(hs.own b B hl).2.2.2 g o ha
 exact⟨this.1,this.2.1⟩
theorem AI {G:Ctx}{dom:Nat→Prop}{ρ:Nat→Loc}{s:St}{a:Act}{w:World}(hs:aR G dom ρ s a w){x:V}{v:Value}(h:b6 ρ dom (aG G s.own ρ w) w x v):dM bg bm (vz G w) w (Bq s.own s.nx x) v:=by
 have o:Oper:=default;have h1:=nG hs (gN.refl s s.nx o) (kv x) x v (fun b hb _=>hb) h;exact dM.ext (Ext.dA fun g hg=>Fq hs hg) ⟨fun b hb=>hb.elim,fun b hb=>hb.elim⟩ _ _ h1
def Di (tmps:Array Value)(r:ResultVar):Sem Value:=
 match r with
 |.tmp t=>pure (tmps.getD t undef)
 |.cell a t=>do loadVar t (←asAddr (tmps.getD a undef))
theorem HE {P:Program}{T:fH}(hT:eJ P T){G:Ctx}{dom:Nat→Prop}{ρ:Nat→Loc}{s:St}{a:Act}{w:World}(hs:aR G dom ρ s a w){r:ResultVar}{x:V}(h:Ie T s r=some x):
  ∃v,(Di a.tmps r).run P w= .ok v w∧dM bg bm (vz G w) w x v:=by
 cases r with
 |tmp t=>
  simp only[Ie,Option.some.injEq]at h;subst h;exact⟨_,rfl,AI hs (hs.env t)⟩
 |cell ad t=>
  simp only[Ie]at h
  cases RV:T t with
  |none=>rw[RV]at h;cases h
  |some E=>
   rw[RV]at h;simp only at h;obtain⟨i,d,z,hi,hu,_,hk,SJ,_⟩:=bB hT RV
   split at h
   ·rename_i b off hx
    cases R2:lo s.own b with
    |none=>rw[R2]at h;cases h
    |some B=>
     rw[R2]at h;simp only at h
     split at h
     ·rename_i cs hB
      split at h
      ·rename_i hc
       obtain⟨rfl,hlen,hld0⟩:=hc;simp only[Option.some.injEq]at h;subst h;have RJ:=hs.env ad;rw[hx]at RJ;obtain⟨_,g,o',RD,RQ⟩:=RJ;obtain⟨_,_,RG,_⟩:=hs.own b B R2;unfold aL at RG;rw[RD]at RG;obtain⟨cur,e,hg,R0⟩:=RG;rw[hB]at R0;simp only at R0;have WS:=Li hld0;rw[hk]at WS;obtain⟨v,hv,hr⟩:=jO (P:=P) (t:=t) hi hu g (o'+0) cs (by omega) (by
        rcases WS with h|⟨h1,h2⟩
        ·exact .inl h
        ·exact .inr ⟨h1,by omega⟩) (fun j c hj=>by
        obtain⟨u,RZ,hr⟩:=R0 j c (by simpa[Bk.cell]using hj);exact⟨u,by rw[cell_of_row w g _ cur e (0,0) hg];exact RZ,hr⟩)
       rw[←hk]at hr;refine⟨v,?_,AI hs hr⟩;simp only[Di,Sem.run_bind];have VH:a.tmps.getD ad undef= .pointer (some ⟨g,o'+0,none⟩):=RQ;rw[VH];exact hv
      cases h
     cases h
   cases h
theorem yU {P:Program}{T:fH}(hT:eJ P T){G:Ctx}{dom:Nat→Prop}{ρ:Nat→Loc}{s:St}{a:Act}{w:World}(hs:aR G dom ρ s a w):∀(rs:List ResultVar) (xs:List V),uC T s rs=some xs→
  ∃vs,(rs.mapM (Di a.tmps)).run P w= .ok vs w∧a7 bg bm (vz G w) w xs vs
 |[],xs,h=>by
  simp only[uC,Option.some.injEq]at h;subst h;exact⟨[],rfl,trivial⟩
 |r::rs,xs,h=>by
  simp only[uC]at h
  split at h
  ·rename_i x xs' hx UD
   simp only[Option.some.injEq]at h;subst h;obtain⟨v,hv,hr⟩:=HE hT hs hx;obtain⟨vs,Sd,S3⟩:=yU hT hs rs xs' UD;refine⟨v::vs,?_,hr,S3⟩;rw[List.mapM_cons];simp only[Sem.run_bind,hv,Result.andThen_ok,Sd,Sem.run_pure]
  cases h
theorem nJ:∀(args:List V) (i t:Nat),lk (eO i args) t=if i≤t∧t<i+args.length then args.getD (t-i) .unk else .unk
 |[],i,t=>by simp[eO,lk]
 |v::r,i,t=>by
  simp only[eO,lk,List.length_cons]
  by_cases h:t=i
  ·subst h;rw[if_pos rfl,if_pos (by omega)];simp
  rw[if_neg h,nJ r (i+1) t]
  by_cases h2:i+1≤t∧t<i+1+r.length
  ·rw[if_pos h2,if_pos (by omega)];obtain⟨q,hq⟩:∃q,t=i+1+q:=⟨t-(i+1),by omega⟩;subst hq;rw[show i+1+q-(i+1)=q by omega,show i+1+q-i=q+1 by omega]
   simp
  rw[if_neg h2,if_neg (by omega)]
theorem a7.length {ρ:Nat→Loc}{dom ok:Nat→Prop}{w:World}:∀{xs:List V} {vs:List Value},a7 ρ dom ok w xs vs→xs.length=vs.length
 |[],[],_=>rfl
 |_::xs,_::vs,h=>by simp[a7.length h.2]
 |[],_::_,h=>h.elim
 |_::_,[],h=>h.elim
theorem pv {P:Program}{T:fH}(hT:eJ P T)(hm:P.follows .mixedOrders=true){f:FuncId}{fn:Func}{c:Code}(hf:P.funcs[f]? =some fn)(hb:fn.body=some c)(hn:(fn.name== "runtime.NumGoroutine")=false)
  (args:List V) (RH:args.length≤fn.ntmps) (keep:Kp) (RY:codeOk keep c=true) (r:V)
  (h:vc T P keep c (iS args fn.ntmps) (K8 T fn.results.toList (fun x=>fB x r))):Pr P f args r:=by
 refine⟨⟨fn,hf,by rw[hb];rfl,hn⟩,fun ok w vs R6 Sd=>?_⟩;have hlen:=a7.length Sd;simp only[Array.length_toList]at hlen
 let G:Ctx:={W0:=w,forb:=fun g=>g<w.heap.size∧¬ok g,mine:=fun _=>False}
 let a0:Act:={tmps:=vs++Array.replicate (fn.ntmps-vs.size) undef,defers:=[]}
 have Vh:∀g,ok g→aG G [] bg w g:=fun g hg=>⟨R6 g hg,fun hf=>hf.2 hg,fun b B hl=>by cases hl⟩;have RL:ot G (iS args fn.ntmps) a0 w:=by
  refine⟨bg,{hd:=rfl,hn:=?_,env:=fun t=>?_,own:=fun b B hl=>(by cases hl),inj:=fun b B b' B' hl=>(by cases hl),os:=rfl,tape:=rfl,output:=rfl,size:=Nat.le_refl _,keep:=fun _ _ _=>rfl,wf:=fun k hk=>hk.1,home:=fun l hl=>(by cases hl),room:=fun _=>Nat.le_refl _}⟩
  ·simp[a0,iS];omega
  simp only[iS,nJ]
  split
  ·rename_i ht
   simp only[Nat.sub_zero,Nat.zero_add]at ht⊢;have hx:args[t]? =some (args.getD t .unk):=by
    rw[X7,X8 ht.2];rfl
   obtain⟨v,hv,hr⟩:=a7.get Sd t _ hx;have YT:a0.tmps.getD t undef=v:=by
    rw[Array.getElem?_toList]at hv;have RE:=(Array.getElem?_eq_some_iff.1 hv).1;simp only[a0,Array.getD_eq_getD_getElem?];rw[Array.getElem?_append_left RE,hv];rfl
   rw[YT];exact b6.v5 (dM.ext (Ext.dA Vh) ⟨fun b hb=>hb.elim,fun b hb=>hb.elim⟩ _ _ hr)
  trivial
 refine calls_of_wp hf hb (wp_mono (mm hT hm keep c RY _ _ h G a0 w RL) ?_);rintro e a w' ⟨s',hq,ρ,hs⟩;have fin:bX (uC T s' fn.results.toList) (fun vs=>fB (AX vs) r)→a.defers=[]∧∃v,(results fn a.tmps).run P w'= .ok v w'∧∃u,Ending.returned v= .returned u∧Go.RowKit.Below w.heap.size w w'∧b6 bg bm (fun g=>ok g∨(w.heap.size≤g∧g<w'.heap.size)) w' r u:=by
  intro hq;unfold bX at hq
  split at hq
  ·rename_i xs UD
   obtain⟨us,T6,RG⟩:=yU hT hs _ _ UD;refine⟨hs.hd,?_⟩;have Vf:∀g,vz G w' g→ok g∨(w.heap.size≤g∧g<w'.heap.size):=fun g hg=>by
    by_cases XC:g<w.heap.size
    ·by_cases TF:ok g
     ·exact .inl TF
     exact absurd ⟨XC,TF⟩ hg.2
    exact .inr ⟨by omega,hg.1⟩
   have S5:Go.RowKit.Below w.heap.size w w':=⟨hs.os,hs.tape,hs.output,hs.size,fun k hk=>hs.keep k hk (fun hf=>hf)⟩;have Xl:(fn.results.mapM fun
     |.tmp t=>pure (a.tmps.getD t undef)
     |.cell ad t=>do loadVar t (←asAddr (a.tmps.getD ad undef)):Sem (Array Value)).run P w'= .ok us.toArray w':=by
    have e:(fun r:ResultVar=>(match r with
     |.tmp t=>pure (a.tmps.getD t undef)
     |.cell ad t=>do loadVar t (←asAddr (a.tmps.getD ad undef)):Sem Value))=Di a.tmps:=by
     funext r;cases r<;>rfl
    have e2:=congrArg (fun g=>(fn.results.mapM g).run P w') e;refine e2.trans ?_;rw[Array.mapM_eq_mapM_toList,Sem.run_map,T6];rfl
   have SY:(results fn a.tmps).run P w'= .ok (if h:us.toArray.size=1 then us.toArray[0]else .tuple us.toArray) w':=by
    unfold results;rw[Sem.run_bind];refine Eq.trans (congrArg (fun x=>Result.andThen x _) Xl) ?_;rfl
   refine⟨_,SY,_,rfl,S5,?_⟩;have RM:b6 bg bm (fun g=>ok g∨(w.heap.size≤g∧g<w'.heap.size)) w' (AX xs) (if h:us.toArray.size=1 then us.toArray[0]else .tuple us.toArray):=by
    have hx:Ext (vz G w') (fun g=>ok g∨(w.heap.size≤g∧g<w'.heap.size)) w' w':=Ext.dA Vf;have SL:hC bm bm bg bg:=⟨fun _ h=>h,fun _ _=>rfl⟩;have RF:=a7.length RG
    match xs,us,RG,RF with
    |[x],[u],RG,_=>
     rw[dif_pos (by simp)];exact b6.v5 (dM.ext hx SL _ _ RG.1)
    |[],[],_,_=>
     rw[dif_neg (by simp)];exact⟨#[],rfl,trivial⟩
    |x::y::xs,u::v::us,RG,_=>
     rw[dif_neg (by simp)];exact⟨_,rfl,a7.ext hx SL _ _ (by simpa using RG)⟩
   exact hq _ _ _ RM
  exact hq.elim
 cases e with
 |normal=>exact fin hq
 |ret=>exact fin hq
 |_=>exact hq.elim
end Go.Eng
namespace Go.Eng
open Go
def rU:List (Nat×Option Nat)→Nat→Option Nat
 |[],b=>some b
 |(b',x)::r,b=>if b=b' then x else rU r b
def Pz:C→Bool
 |.elt _ _ _ _=>true
 |_=>false
def Y2 (rn:List (Nat×Option Nat))(nx:Nat)(c:C)(c':C):Prop:=
 match c' with
 |.any=>True
 |.own b' w' o' l'=>b'<nx∧match c with
  |.own b w o l=>rU rn b'=some b∧w=w'∧o=o'∧l=l'
  |.nil=>rU rn b'=none∧o'=0∧l'=0
  |.win b _ o l=>rU rn b'=some b∧w'=1∧o=o'∧l=l'
  |_=>False
 |.win b' YU o' l'=>b'<nx∧YU<nx∧match c with
  |.own b w o l=>rU rn b'=some b∧w=1∧o=o'∧l=l'
  |.win b _ o l=>rU rn b'=some b∧o=o'∧l=l'
  |_=>False
 |.ptr b' o'=>b'<nx∧match c with
  |.ptr b o=>rU rn b'=some b∧o=o'
  |_=>False
 |.int k' n'=>match c with
  |.int k n=>k=k'∧n=n'
  |_=>False
 |.bool b'=>match c with
  |.bool b=>b=b'
  |_=>False
 |.str s'=>match c with
  |.str s=>s=s'
  |_=>False
 |.nil=>match c with
  |.nil=>True
  |_=>False
 |.ints k' xs'=>match c with
  |.ints k xs=>k=k'∧xs=xs'
  |.nil=>xs'=[]
  |_=>False
 |.rows w' n' f'=>match c with
  |.rows w n f=>w=w'∧n=n'∧∀i j,i<n→j<w→f i j=f' i j
  |.nil=>n'=0
  |_=>False
 |.fn f' n' caps'=>match c with
  |.fn f n caps=>f=f'∧((n=0∧n'=0)∨(n=1∧n'=1∧Pz (caps 0)=true∧caps 0=caps' 0))
  |_=>False
 |.elt s' w' i' o'=>match c with
  |.elt s w i o=>s=s'∧w=w'∧i=i'∧o=o'
  |_=>False
 |_=>False
def Y3 (rn:List (Nat×Option Nat))(nx:Nat):List C→List C→Prop
 |[],[]=>True
 |c::cs,c'::cs'=>Y2 rn nx c c'∧Y3 rn nx cs cs'
 |_,_=>False
def Y1 (rn:List (Nat×Option Nat))(nx:Nat)(x x':V):Prop:=
 match x' with
 |.unk=>True
 |.one c'=>match x with
  |.one c=>Y2 rn nx c c'
  |_=>False
 |.agg cs'=>match x with
  |.agg cs=>Y3 rn nx cs cs'
  |_=>False
 |.aB _=>False
def Ee:C→Bool
 |.nil=>true
 |.ints _ _=>true
 |.rows _ _ _=>true
 |_=>false
theorem sV {ρ:Nat→Loc}{dom ok:Nat→Prop}{w:World}{c:C}{v:Value}(hc:Ee c=true)(h:aC ρ dom ok w c v):aP ok w c v:=by
 cases c<;>simp [Ee]at hc<;>exact h
def Y5 (rn:List (Nat×Option Nat))(nx:Nat)(B B':Bk):Prop:=
 match B' with
 |.var cs'=>match B with
  |.var cs=>Y3 rn nx cs cs'
  |_=>False
 |.ints _ k' xs'=>match B with
  |.ints _ k xs=>k=k'∧xs=xs'
  |_=>False
 |.rows _ w' n' f'=>match B with
  |.rows _ w n f=>w=w'∧n=n'∧∀i j,i<n→j<w→f i j=f' i j
  |.wins _ _ n g=>w'=1∧n=n'∧∀i,i<n→Ee (g i)=true∧g i=f' i 0
  |_=>False
 |.wins _ _ n' g'=>match B with
  |.wins _ _ n g=>n=n'∧∀i,i<n→Y2 rn nx (g i) (g' i)
  |.rows _ w n f=>w=1∧n=n'∧∀i,i<n→Y2 rn nx (f i 0) (g' i)
  |_=>False
def Y7:Bk→Prop
 |.var _=>False
 |.ints _ _ xs=>xs=[]
 |.rows _ _ n _=>n=0
 |.wins _ _ n _=>n=0
def Y0 (rn:List (Nat×Option Nat))(nx:Nat)(env:List (Nat×V)):List (Nat×V)→Prop
 |[]=>True
 |(t,x')::r=>Y1 rn nx (lk env t) x'∧Y0 rn nx env r
def Y4 (rn:List (Nat×Option Nat))(nx:Nat)(own:List (Nat×fA)):List (Nat×fA)→Prop
 |[]=>True
 |(b',B')::r=>(b'<nx∧match rU rn b' with
  |none=>Y7 B'.bk
  |some b=>match lo own b with
   |some B=>(B'.rw=true→B.rw=true)∧Y5 rn nx B.bk B'.bk
   |none=>False)∧Y4 rn nx own r
def Y6 (rn:List (Nat×Option Nat)):List (Nat×fA)→Prop
 |[]=>True
 |(b',_)::r=>(∀p∈r,p.1=b'∨rU rn p.1=none∨rU rn p.1≠rU rn b')∧Y6 rn r
section
variable {rn:List (Nat×Option Nat)}{nx:Nat}{ρ ρ':Nat→Loc}{dom ok ok':Nat→Prop}{w:World}
def bP (rn:List (Nat×Option Nat))(ρ:Nat→Loc)(b':Nat):Loc:=
 match rU rn b' with
 |some b=>ρ b
 |none=>⟨none,0⟩
theorem Ay {wd n:Nat}{f f':Nat→Nat→C}{v:Value}(h:∀i j,i<n→j<wd→f i j=f' i j)(hr:aP ok w (.rows wd n f) v):aP ok w (.rows wd n f') v:=by
 obtain⟨a,cap,hv,hc,hr⟩:=hr;refine⟨a,cap,hv,hc,?_⟩
 rcases hr with hr|⟨g,o,ha,hg,Sc⟩
 ·exact .inl hr
 refine .inr ⟨g,o,ha,hg,fun i j hi hj=>?_⟩;rw[←h i j hi hj];exact Sc i j hi hj
theorem jm (hx:Ext ok ok' w w){c c':C}{v:Value}(h:Y2 rn nx c c')(hr:aC ρ dom ok w c v):aC (bP rn ρ) (fun b=>b<nx) ok' w c' v:=by
 cases c' with
 |any=>exact(aC.plain hr).1
 |own b' w' o' l'=>
  obtain⟨hb,h⟩:=h
  cases c with
  |own b wd o l=>
   obtain⟨h1,rfl,rfl,rfl⟩:=h;obtain⟨_,h2,cap,h3,h4⟩:=hr;have e:bP rn ρ b'=ρ b:=by unfold bP;rw[h1]
   exact⟨hb,by rw[e];exact h2,cap,h3,by rw[e];exact h4⟩
  |nil=>
   obtain⟨h1,rfl,rfl⟩:=h;have e:bP rn ρ b'=⟨none,0⟩:=by unfold bP;rw[h1]
   exact⟨hb,by rw[e];simp,0,Nat.le_refl _,.inr ⟨by rw[e],hr,rfl,rfl⟩⟩
  |win b b2 o l=>
   obtain⟨h1,rfl,rfl,rfl⟩:=h;obtain⟨_,_,h2,cap,h3,h4⟩:=hr;have e:bP rn ρ b'=ρ b:=by unfold bP;rw[h1]
   exact⟨hb,by rw[e];exact h2,cap,h3,by rw[e];exact h4⟩
  |_=>exact h.elim
 |win b' YU o' l'=>
  obtain⟨hb,Sn,h⟩:=h
  cases c with
  |own b wd o l=>
   obtain⟨h1,rfl,rfl,rfl⟩:=h;obtain⟨_,h2,cap,h3,h4⟩:=hr;have e:bP rn ρ b'=ρ b:=by unfold bP;rw[h1]
   exact⟨Sn,hb,by rw[e];exact h2,cap,h3,by rw[e];exact h4⟩
  |win b b2 o l=>
   obtain⟨h1,rfl,rfl⟩:=h;obtain⟨_,_,h2,cap,h3,h4⟩:=hr;have e:bP rn ρ b'=ρ b:=by unfold bP;rw[h1]
   exact⟨Sn,hb,by rw[e];exact h2,cap,h3,by rw[e];exact h4⟩
  |_=>exact h.elim
 |ptr b' o'=>
  obtain⟨hb,h⟩:=h
  cases c with
  |ptr b o=>
   obtain⟨h1,rfl⟩:=h;obtain⟨_,g,o1,h2,h3⟩:=hr;have e:bP rn ρ b'=ρ b:=by unfold bP;rw[h1]
   exact⟨hb,g,o1,by rw[e];exact h2,h3⟩
  |_=>exact h.elim
 |int k' n'=>
  cases c with
  |int k n=>obtain⟨rfl,rfl⟩:=h;exact hr
  |_=>exact h.elim
 |bool b'=>
  cases c with
  |bool b=>cases h;exact hr
  |_=>exact h.elim
 |str s'=>
  cases c with
  |str s=>cases h;exact hr
  |_=>exact h.elim
 |nil=>
  cases c with
  |nil=>exact hr
  |_=>exact h.elim
 |ints k' xs'=>
  cases c with
  |ints k xs=>obtain⟨rfl,rfl⟩:=h;exact aP.ext hx (.ints k xs) v hr
  |nil=>cases h;exact⟨none,0,hr,Nat.le_refl _,.inl rfl⟩
  |_=>exact h.elim
 |rows w' n' f'=>
  cases c with
  |rows wd n f=>
   obtain⟨rfl,rfl,hf⟩:=h;exact aP.ext hx (.rows wd n f') v (Ay hf hr)
  |nil=>cases h;exact⟨none,0,hr,Nat.le_refl _,.inl rfl⟩
  |_=>exact h.elim
 |fn f' n' caps'=>
  cases c with
  |fn f n caps=>
   obtain⟨rfl,⟨rfl,rfl⟩|⟨rfl,rfl,h1,h2⟩⟩:=h
   ·obtain⟨cs,hv,hn,_⟩:=hr;exact⟨cs,hv,hn,fun i hi=>absurd hi (Nat.not_lt_zero _)⟩
   obtain⟨cs,hv,hn,hc⟩:=hr;refine⟨cs,hv,hn,fun i hi=>?_⟩;obtain rfl:i=0:=by omega
   have h3:=hc 0 hi;rw[←h2]
   cases U0:caps 0 with
   |elt s w i o=>rw[U0]at h3;exact aP.ext hx (.elt s w i o) _ h3
   |_=>rw[U0]at h1;cases h1
  |_=>exact h.elim
 |elt s' w' i' o'=>
  cases c with
  |elt s w i o=>obtain⟨rfl,rfl,rfl,rfl⟩:=h;exact aP.ext hx (.elt s w i o) v hr
  |_=>exact h.elim
 |eptr b wd i off=>exact h.elim
theorem tZ (hx:Ext ok ok' w w):∀{cs cs':List C} {vs:List Value},Y3 rn nx cs cs'→bG ρ dom ok w cs vs→bG (bP rn ρ) (fun b=>b<nx) ok' w cs' vs
 |[],[],[],_,_=>trivial
 |c::cs,c'::cs',v::vs,h,hr=>⟨jm hx h.1 hr.1,tZ hx h.2 hr.2⟩
 |[],_::_,_,h,_=>h.elim
 |_::_,[],_,h,_=>h.elim
 |[],[],_::_,_,hr=>hr.elim
 |_::_,_::_,[],_,hr=>hr.elim
theorem uH (hx:Ext ok ok' w w){x x':V}{v:Value}(h:Y1 rn nx x x')(hr:b6 ρ dom ok w x v):b6 (bP rn ρ) (fun b=>b<nx) ok' w x' v:=by
 cases x' with
 |unk=>trivial
 |one c'=>
  cases x with
  |one c=>exact jm hx h hr
  |_=>exact h.elim
 |agg cs'=>
  cases x with
  |agg cs=>obtain⟨vs,hv,hl⟩:=hr;exact⟨vs,hv,tZ hx h hl⟩
  |_=>exact h.elim
 |aB xs=>exact h.elim
theorem s7:∀{cs cs':List C},Y3 rn nx cs cs'→∀(j:Nat) c',cs'[j]? =some c'→∃c,cs[j]? =some c∧Y2 rn nx c c'
 |[],[],_,j,c',hj=>by simp at hj
 |c::cs,c0::cs',h,0,c',hj=>by simp at hj;subst hj;exact⟨c,rfl,h.1⟩
 |c::cs,c0::cs',h,j+1,c',hj=>by simpa using s7 h.2 j c' (by simpa using hj)
 |[],_::_,h,_,_,_=>h.elim
 |_::_,[],h,_,_,_=>h.elim
theorem zo {B B':Bk}(h:Y5 rn nx B B'):B'.len=B.len:=by
 cases B' with
 |var cs'=>cases B<;>first|rfl|exact h.elim
 |ints e' k' xs'=>
  cases B with
  |ints e k xs=>obtain⟨_,rfl⟩:=h;rfl
  |_=>exact h.elim
 |rows e' w' n' f'=>
  cases B with
  |rows e wd n f=>obtain⟨_,rfl,_⟩:=h;rfl
  |wins e b2 n g=>obtain⟨_,rfl,_⟩:=h;rfl
  |_=>exact h.elim
 |wins e' YU n' g'=>
  cases B with
  |rows e wd n f=>obtain⟨_,rfl,_⟩:=h;rfl
  |wins e b2 n g=>obtain⟨rfl,_⟩:=h;rfl
  |_=>exact h.elim
theorem tJ (hx:Ext ok ok' w w){B B':Bk}{l:Loc}(h:Y5 rn nx B B')(hr:aL ρ dom ok w l B):aL (bP rn ρ) (fun b=>b<nx) ok' w l B':=by
 unfold aL at*
 cases ha:l.addr with
 |none=>
  rw[ha]at hr;simp only at hr⊢;intro j
  cases B' with
  |var cs'=>
   cases B with
   |var cs=>
    cases hj:(Bk.var cs').cell j with
    |none=>rfl
    |some c'=>
     obtain⟨c,hc,_⟩:=s7 h j c' hj
     have:=hr j
     simp only[Bk.cell]at this;rw[hc]at this;cases this
   |_=>exact h.elim
  |ints e' k' xs'=>
   cases B with
   |ints e k xs=>obtain⟨rfl,rfl⟩:=h;exact hr j
   |_=>exact h.elim
  |rows e' w' n' f'=>
   cases B with
   |rows e wd n f=>
    obtain⟨rfl,rfl,_⟩:=h
    have:=hr j
    simp only[Bk.cell]at this⊢
    split
    ·rename_i RE;rw[if_pos RE]at this;cases this
    rfl
   |wins e b2 n g=>
    obtain⟨rfl,rfl,_⟩:=h
    have:=hr j
    simp only[Bk.cell,Nat.mul_one]at this⊢
    split
    ·rename_i RE;rw[if_pos RE]at this;cases this
    rfl
   |_=>exact h.elim
  |wins e' YU n' g'=>
   cases B with
   |rows e wd n f=>
    obtain⟨rfl,rfl,_⟩:=h
    have:=hr j
    simp only[Bk.cell,Nat.mul_one]at this⊢
    split
    ·rename_i RE;rw[if_pos RE]at this;cases this
    rfl
   |wins e b2 n g=>
    obtain⟨rfl,_⟩:=h
    have:=hr j
    simp only[Bk.cell]at this⊢
    split
    ·rename_i RE;rw[if_pos RE]at this;cases this
    rfl
   |_=>exact h.elim
 |some p=>
  obtain⟨g,o⟩:=p;rw[ha]at hr;simp only at hr⊢;obtain⟨cur,e,hg,hc⟩:=hr;refine⟨cur,e,hg,fun j c' hj=>?_⟩
  cases B' with
  |var cs'=>
   cases B with
   |var cs=>
    obtain⟨c,hcj,Yz⟩:=s7 h j c' hj;obtain⟨u,hu,hr⟩:=hc j c hcj;exact⟨u,hu,jm hx Yz hr⟩
   |_=>exact h.elim
  |ints e' k' xs'=>
   cases B with
   |ints e k xs=>
    obtain⟨rfl,rfl⟩:=h;obtain⟨u,hu,hr⟩:=hc j c' hj;exact⟨u,hu,aP.ext hx _ _ hr⟩
   |_=>exact h.elim
  |rows e' w' n' f'=>
   cases B with
   |rows e wd n f=>
    obtain⟨rfl,rfl,hf⟩:=h;simp only[Bk.cell]at hj
    split at hj
    ·rename_i RE
     simp only[Option.some.injEq]at hj
     have TT:0<wd:=by rcases Nat.eq_zero_or_pos wd with h0|h0;(subst h0;simp at RE);exact h0
     have h1:j/wd<n:=by rw[Nat.div_lt_iff_lt_mul TT];exact RE
     obtain⟨u,hu,hr⟩:=hc j (f (j/wd) (j%wd)) (by simp only[Bk.cell,if_pos RE]);rw[hf _ _ h1 (Nat.mod_lt _ TT),hj]at hr;exact⟨u,hu,aP.ext hx _ _ hr⟩
    cases hj
   |wins e b2 n g=>
    obtain⟨rfl,rfl,hf⟩:=h;simp only[Bk.cell,Nat.mul_one,Nat.div_one,Nat.mod_one]at hj
    split at hj
    ·rename_i RE
     simp only[Option.some.injEq]at hj;obtain⟨u,hu,hr⟩:=hc j (g j) (by simp only[Bk.cell,if_pos RE]);obtain⟨f1,f2⟩:=hf j RE;have hr:=sV f1 hr;rw[f2,hj]at hr;exact⟨u,hu,aP.ext hx _ _ hr⟩
    cases hj
   |_=>exact h.elim
  |wins e' YU n' g'=>
   cases B with
   |rows e wd n f=>
    obtain⟨rfl,rfl,hf⟩:=h;simp only[Bk.cell]at hj
    split at hj
    ·rename_i RE
     simp only[Option.some.injEq]at hj;obtain⟨u,hu,hr⟩:=hc j (f j 0) (by simp only[Bk.cell,Nat.mul_one,if_pos RE,Nat.div_one,Nat.mod_one])
     have:=jm (ρ:=ρ) (dom:=dom) hx (hf j RE) (aC.bh hr)
     rw[hj]at this;exact⟨u,hu,this⟩
    cases hj
   |wins e b2 n g=>
    obtain⟨rfl,hf⟩:=h;simp only[Bk.cell]at hj
    split at hj
    ·rename_i RE
     simp only[Option.some.injEq]at hj;obtain⟨u,hu,hr⟩:=hc j (g j) (by simp only[Bk.cell,if_pos RE])
     have:=jm hx (hf j RE) hr
     rw[hj]at this;exact⟨u,hu,this⟩
    cases hj
   |_=>exact h.elim
theorem BK {env env':List (Nat×V)}(h:Y0 rn nx env env')(t:Nat):Y1 rn nx (lk env t) (lk env' t):=by
 induction env' with
 |nil=>trivial
 |cons p r ih=>
  obtain⟨t',x'⟩:=p;simp only[lk]
  split
  ·rename_i he;subst he;exact h.1
  exact ih h.2
theorem lD {own own':List (Nat×fA)}(h:Y4 rn nx own own'){b':Nat}{B':fA}(hl:lo own' b'=some B'):b'<nx∧((rU rn b'=none∧Y7 B'.bk)∨∃b B,rU rn b'=some b∧lo own b=some B∧(B'.rw=true→B.rw=true)∧Y5 rn nx B.bk B'.bk):=by
 induction own' with
 |nil=>cases hl
 |cons p r ih=>
  obtain⟨c,v⟩:=p;simp only[lo]at hl
  split at hl
  ·rename_i he
   subst he;obtain rfl:=Option.some.inj hl;obtain⟨h1,h2⟩:=h.1;refine⟨h1,?_⟩
   split at h2
   ·rename_i hr;exact .inl ⟨hr,h2⟩
   rename_i b hr
   split at h2
   ·rename_i B hB;exact .inr ⟨b,B,hr,hB,h2⟩
   exact h2.elim
  exact ih h.2 hl
theorem HS {own:List (Nat×fA)}{b:Nat}{B:fA}(h:lo own b=some B):∃p∈own,p.1=b:=by
 induction own with
 |nil=>cases h
 |cons p r ih=>
  obtain⟨c,v⟩:=p;simp only[lo]at h
  split at h
  ·rename_i he;exact⟨(c,v),by simp,he.symm⟩
  obtain⟨q,hq,he⟩:=ih h;exact⟨q,by simp[hq],he⟩
theorem Ex {own:List (Nat×fA)}(h:Y6 rn own){b1 b2:Nat}(h1:∃p∈own,p.1=b1)(h2:∃p∈own,p.1=b2)(RT:b1≠b2)(hr:rU rn b1=rU rn b2):rU rn b1=none:=by
 induction own with
 |nil=>obtain⟨p,hp,_⟩:=h1;simp at hp
 |cons q r ih=>
  obtain⟨p1,Ug,rfl⟩:=h1;obtain⟨p2,TH,rfl⟩:=h2
  rcases List.mem_cons.1 Ug with e1|ZT
  ·rcases List.mem_cons.1 TH with e2|Yg
   ·exact absurd (by rw[e1,e2]) RT
   rcases h.1 p2 Yg with h3|h3|h3
   ·exact absurd (by rw[h3,e1]) RT
   ·rw[hr];exact h3
   exact absurd (by rw[←hr,e1]) h3
  rcases List.mem_cons.1 TH with e2|Yg
  ·rcases h.1 p1 ZT with h3|h3|h3
   ·exact absurd (by rw[h3,e2]) RT
   ·exact h3
   exact absurd (by rw[hr,e2]) h3
  exact ih h.2 ⟨p1,ZT,rfl⟩ ⟨p2,Yg,rfl⟩
end
theorem Sub.of (rn:List (Nat×Option Nat)){s s':St}(hz:rU rn 0=some 0∧0<s'.nx)(hn:s.n=s'.n)(he:Y0 rn s'.nx s.env s'.env)(ho:Y4 rn s'.nx s.own s'.own)(ha:Y6 rn s'.own):Sub s s':=by
 rintro G a w ⟨ρ,h⟩;have Xf:∀b1 B1 b2 B2,lo s'.own b1=some B1→lo s'.own b2=some B2→b1≠b2→∀c,rU rn b1=some c→rU rn b2≠some c:=by
  intro b1 B1 b2 B2 h1 h2 RT c hc Vi
  have:=Ex ha (HS h1) (HS h2) RT (hc.trans Vi.symm)
  rw[hc]at this;cases this
 have R6:∀g,aG G s.own ρ w g→aG G s'.own (bP rn ρ) w g:=fun g hg=>⟨hg.1,hg.2.1,fun b' B' hl RX o S6=>by
  obtain⟨_,hc⟩:=lD ho hl
  rcases hc with⟨hr,_⟩|⟨b,B,hr,R2,YV,_⟩
  ·unfold bP at S6;rw[hr]at S6;cases S6
  unfold bP at S6;rw[hr]at S6;exact hg.2.2 b B R2 (YV RX) o S6⟩
 have hx:Ext (aG G s.own ρ w) (aG G s'.own (bP rn ρ) w) w w:=Ext.dA R6;refine⟨bP rn ρ,{hd:=h.hd,hn:=h.hn.trans hn,env:=fun t=>uH hx (BK he t) (h.env t),own:=fun b' B' hl=>?_,inj:=fun b1 B1 b2 B2 h1 h2 RT RX g o o' S6=>?_,os:=h.os,tape:=h.tape,output:=h.output,size:=h.size,keep:=h.keep,wf:=h.wf,home:=fun l hl=>⟨hz.2,by unfold bP;rw[hz.1];exact(h.home l hl).2⟩,room:=h.room}⟩
 ·obtain⟨RE,hc⟩:=lD ho hl
  rcases hc with⟨hr,Te⟩|⟨b,B,hr,R2,YV,hbr⟩
  ·have e:bP rn ρ b'=⟨none,0⟩:=by unfold bP;rw[hr]
   rw[e];refine⟨RE,?_,?_,fun g o S6=>by cases S6⟩
   ·cases hB:B'.bk with
    |var cs=>rw[hB]at Te;exact Te.elim
    |ints e k xs=>rw[hB]at Te;have Te:xs=[]:=Te;subst Te;rfl
    |rows e wd n f=>rw[hB]at Te;have Te:n=0:=Te;subst Te;rfl
    |wins e b2 n g=>rw[hB]at Te;have Te:n=0:=Te;subst Te;rfl
   unfold aL;intro j
   cases hB:B'.bk with
   |var cs=>rw[hB]at Te;exact Te.elim
   |ints e k xs=>rw[hB]at Te;have Te:xs=[]:=Te;subst Te;simp[Bk.cell]
   |rows e wd n f=>rw[hB]at Te;have Te:n=0:=Te;subst Te;simp[Bk.cell]
   |wins e b2 n g=>rw[hB]at Te;have Te:n=0:=Te;subst Te;simp[Bk.cell]
  have e:bP rn ρ b'=ρ b:=by unfold bP;rw[hr]
  obtain⟨_,h2,h3,h4⟩:=h.own b B R2;rw[e];exact⟨RE,by rw[h2,zo hbr],tJ hx hbr h3,h4⟩
 obtain⟨_,UZ⟩:=lD ho h1;obtain⟨_,Vi⟩:=lD ho h2
 rcases UZ with⟨Uc,_⟩|⟨c1,D1,Uc,S7,Xx,_⟩
 ·unfold bP at S6;rw[Uc]at S6;cases S6
 rcases Vi with⟨Vb,_⟩|⟨c2,D2,Vb,RF,_,_⟩
 ·unfold bP;rw[Vb];simp
 unfold bP at S6⊢;rw[Uc]at S6;rw[Vb];refine h.inj c1 D1 c2 D2 S7 RF (fun e=>?_) (Xx RX) g o o' S6;subst e;exact Xf b1 B1 b2 B2 h1 h2 RT c1 Uc Vb
theorem Sub.trans {s1 s2 s3:St}(h:Sub s1 s2)(k:Sub s2 s3):Sub s1 s3:=fun G a w hs=>k G a w (h G a w hs)
def ui (b3:Nat)(B:Bk):C→C
 |.own b w o l=>if b=b3 then ga B w o l else .own b w o l
 |.any=>.any
 |.bool b=>.bool b
 |.int k n=>.int k n
 |.str s=>.str s
 |.nil=>.nil
 |.ints k xs=>.ints k xs
 |.rows w n f=>.rows w n f
 |.win b b2 o l=>.win b b2 o l
 |.ptr b o=>.ptr b o
 |.elt c w i o=>.elt c w i o
 |.eptr b w i o=>.eptr b w i o
 |.fn f n caps=>.fn f n caps
theorem Sub.ui {
         s:St} (b b3:Nat) {e:TypeId} {b2 n:Nat} {g:Nat→C} {r:Bool} {B3:fA} (hl:lo s.own b=some ⟨.wins e b2 n g,r⟩) (Si:lo s.own b3=some B3) (RT:b≠b3):
  Sub s {s with own:=eD (dJ s.own [b3]) b ⟨.wins e b2 n (fun i=>Eng.ui b3 B3.bk (g i)),r⟩}:=by
 rintro G a w ⟨ρ,h⟩;have h2:=h.dJ [b3];have hlb:lo (dJ s.own [b3]) b=some ⟨.wins e b2 n g,r⟩:=by
  rw[fy,hl]
  simp[RT]
 have XD:lo (dJ s.own [b3]) b3=some ⟨B3.bk,false⟩:=by
  rw[fy,Si]
  simp
 have Vn:∀c C,lo (eD (dJ s.own [b3]) b ⟨.wins e b2 n (fun i=>Eng.ui b3 B3.bk (g i)),r⟩) c=some C→∃C',lo (dJ s.own [b3]) c=some C'∧C'.rw=C.rw∧(c=b∨(c≠b∧C'=C)):=by
  intro c C hc;rw[b7]at hc
  by_cases e1:c=b
  ·subst e1;rw[if_pos rfl]at hc;obtain rfl:=Option.some.inj hc;exact⟨_,hlb,rfl,.inl rfl⟩
  rw[if_neg e1]at hc;exact⟨C,hc,rfl,.inr ⟨e1,rfl⟩⟩
 have R6:∀g',aG G (dJ s.own [b3]) ρ w g'→aG G (eD (dJ s.own [b3]) b ⟨.wins e b2 n (fun i=>Eng.ui b3 B3.bk (g i)),r⟩) ρ w g':=fun g' hg=>⟨hg.1,hg.2.1,fun c C hc RX o=>by
  obtain⟨C',h1,h3,_⟩:=Vn c C hc;exact hg.2.2 c C' h1 (h3.trans RX) o⟩
 have RN:Ext (aG G (dJ s.own [b3]) ρ w) (aG G (eD (dJ s.own [b3]) b ⟨.wins e b2 n (fun i=>Eng.ui b3 B3.bk (g i)),r⟩) ρ w) w w:=Ext.dA R6;have hs:hC (fun b=>b<s.nx) (fun b=>b<s.nx) ρ ρ:=⟨fun _ h=>h,fun _ _=>rfl⟩;refine⟨ρ,h2.rY RN hs (fun c C hc=>?_) (fun c C c' C' hc W8 hn RX=>?_) rfl rfl rfl (Nat.le_refl _) fun _ _ _=>rfl⟩
 ·obtain⟨C',h1,h3,h4⟩:=Vn c C hc;obtain⟨k1,k2,k3,k4⟩:=h2.own c C' h1
  rcases h4 with rfl|⟨e1,rfl⟩
  ·rw[hlb]at h1;obtain rfl:=Option.some.inj h1;rw[b7,if_pos rfl]at hc;obtain rfl:=Option.some.inj hc;refine⟨k1,k2,?_,k4⟩;unfold aL at k3⊢
   cases ha:(ρ c).addr with
   |none=>
    rw[ha]at k3;intro j
    have:=k3 j
    simp only[Bk.cell]at this⊢
    split at this
    ·cases this
    rename_i hj;rw[if_neg hj]
   |some x=>
    obtain⟨g1,o1⟩:=x;rw[ha]at k3;obtain⟨cur,e4,hg4,WD⟩:=k3;refine⟨cur,e4,hg4,fun j cc hj=>?_⟩;simp only[Bk.cell]at hj WD
    split at hj
    ·rename_i Sf
     obtain⟨u,Wn,SN⟩:=WD j (g j) (if_pos Sf);obtain rfl:=Option.some.inj hj;refine⟨u,Wn,?_⟩;have keep:aC ρ (fun b=>b<s.nx) (aG G (eD (dJ s.own [b3]) c ⟨.wins e b2 n (fun i=>Eng.ui b3 B3.bk (g i)),r⟩) ρ w) w (g j) u:=aC.ext RN hs _ _ SN;show aC _ _ _ w (Eng.ui b3 B3.bk (g j)) u
     generalize g j=cj at SN keep
     cases cj with
     |own b' wd o l=>
      simp only[Eng.ui]
      by_cases hb:b'=b3
      ·rw[if_pos hb];subst hb;obtain⟨m1,m2,m3,m4⟩:=h2.own b' _ XD;obtain⟨_,hle,cap,R8,hv⟩:=SN;refine aC.bh ?_
       rcases hv with⟨g5,o5,o6,RD,rfl,R7,_⟩|⟨RD,rfl,Tr,SU⟩
       ·have hokg:aG G (eD (dJ s.own [b']) c ⟨.wins e b2 n (fun i=>Eng.ui b' B3.bk (g i)),r⟩) ρ w g5:=by
         refine⟨(m4 g5 o5 RD).1,(m4 g5 o5 RD).2.1,fun c2 C2 Vi XE o7 he=>?_⟩;obtain⟨C3,h5,h6,_⟩:=Vn c2 C2 Vi;have hne2:c2≠b':=fun e=>by
          subst e;rw[XD]at h5;obtain rfl:=Option.some.inj h5;rw[←h6]at XE;cases XE
         exact h2.inj c2 C3 b' _ h5 XD hne2 (h6.trans XE) g5 o7 o5 he RD
        exact lq (ρ:=ρ) (dom:=fun b=>b<s.nx) RD (aL.ext RN hs _ _ (fun _ _ _=>rfl) m3) hokg m2 hle R8 R7
       subst Tr
       cases hB:B3.bk with
       |var cs=>rfl
       |wins e b2 n g=>rfl
       |ints e k xs=>
        simp only[ga]
        split
        ·exact⟨none,0,by simp,by simp,.inl (by simp)⟩
        rfl
       |rows e w' n f=>
        simp only[ga]
        split
        ·exact⟨none,0,rfl,Nat.le_refl _,.inl rfl⟩
        rfl
      rw[if_neg hb];exact keep
     |_=>exact keep
    cases hj
  exact⟨k1,k2,aL.ext RN hs _ _ (fun _ _ _=>rfl) k3,k4⟩
 obtain⟨D,h1,h3,_⟩:=Vn c C hc;obtain⟨D',h1',_,_⟩:=Vn c' C' W8;exact h2.inj c D c' D' h1 h1' hn (h3.trans RX)
end Go.Eng
namespace Go.Eng
open Go
section
variable {T:fH}{P:Program}{kp:Kp}{e:List (Nat×V)}{o:List (Nat×fA)}{x n:Nat}{Q:Exit→St→Prop}{K:St→Prop}{KE:eK→Prop}
theorem LU:vc T P kp .skip ⟨e,o,x,n⟩ Q=Q .normal ⟨e,o,x,n⟩:=rfl
theorem Ek {id:Nat}{ops:Array Oper}{d:Bool}:vc T P kp (.region id ops d) ⟨e,o,x,n⟩ Q=gX T P kp.ms id d ops.toList ⟨e,o,x,n⟩ (fun s'=>Q .normal (gc kp.ks s')):=rfl
def Ju (T:fH)(P:Program)(kp:Kp)(b:Code)(Q:Exit→St→Prop):Exit→St→Prop:=fun e s'=>match e with
  |.normal=>vc T P kp b s' Q
  |e=>Q e s'
theorem NA {a b:Code}:vc T P kp (.seq a b) ⟨e,o,x,n⟩ Q=vc T P kp a ⟨e,o,x,n⟩ (Ju T P kp b Q):=rfl
theorem zC {b:Code}:Ju T P kp b Q .normal ⟨e,o,x,n⟩=vc T P kp b ⟨e,o,x,n⟩ Q:=rfl
theorem Hi {b:Code}:Ju T P kp b Q .ret ⟨e,o,x,n⟩=Q .ret ⟨e,o,x,n⟩:=rfl
theorem FC {b:Code}{id:Nat}:Ju T P kp b Q (.exit id) ⟨e,o,x,n⟩=Q (.exit id) ⟨e,o,x,n⟩:=rfl
def MQ (v:V)(A B:St→Prop)(s:St):Prop:=match v with
 |.one (.bool t)=>(t=true→eI A s)∧(t=false→eI B s)
 |_=>False
theorem BG {t:Bool}{A B:St→Prop}{s:St}:MQ (.one (.bool t)) A B s=((t=true→eI A s)∧(t=false→eI B s)):=rfl
theorem LM {α:Type}{A:α→Prop}{s:α}:(True→eI A s)=A s:=by simp only[true_imp_iff];rfl
theorem KD {α:Type}{A:α→Prop}{s:α}:(False→eI A s)=True:=by simp only[false_imp_iff]
theorem L1 {c:Operand}{a b:Code}:vc T P kp (.cond c a b) ⟨e,o,x,n⟩ Q=MQ (St.ev ⟨e,o,x,n⟩ c) (fun s=>vc T P kp a s Q) (fun s=>vc T P kp b s Q) ⟨e,o,x,n⟩:=rfl
def yl (id:Nat)(Q:Exit→St→Prop):Exit→St→Prop:=fun e s'=>match e with
  |.exit id'=>if id'=id then Q .normal s' else Q (.exit id') s'
  |e=>Q e s'
theorem Hj {id:Nat}{c:Code}:vc T P kp (.block id c) ⟨e,o,x,n⟩ Q=vc T P kp c ⟨e,o,x,n⟩ (yl id Q):=rfl
theorem uP {id:Nat}:yl id Q .normal ⟨e,o,x,n⟩=Q .normal ⟨e,o,x,n⟩:=rfl
theorem B9 {id:Nat}:yl id Q .ret ⟨e,o,x,n⟩=Q .ret ⟨e,o,x,n⟩:=rfl
theorem yZ {id id':Nat}:yl id Q (.exit id') ⟨e,o,x,n⟩=if id'=id then Q .normal ⟨e,o,x,n⟩else Q (.exit id') ⟨e,o,x,n⟩:=rfl
def zh {ι:Type}(I:ι→St)(m:ι→Nat)(k:Nat)(Q:Exit→St→Prop):Exit→St→Prop:=fun e s'=>match e with
  |.normal=>∃y,Sub s' (I y)∧m y<k
  |e=>Q e s'
def Mz (T:fH)(P:Program)(kp:Kp)(c:Code)(Q:Exit→St→Prop)(s:St):Prop:=
 ∃(ι:Type) (I:ι→St) (m:ι→Nat) (x0:ι),Sub s (I x0)∧∀x,vc T P kp c (I x) (zh I m (m x) Q)
theorem Jg {c:Code}:vc T P kp (.loop c) ⟨e,o,x,n⟩ Q=Mz T P kp c Q ⟨e,o,x,n⟩:=rfl
theorem Lk {c:Code}{s:St}{ι:Type}(I:ι→St)(m:ι→Nat)(x0:ι)(h0:Sub s (I x0))(h:∀x,vc T P kp c (I x) (zh I m (m x) Q)):Mz T P kp c Q s:=⟨ι,I,m,x0,h0,h⟩
theorem EA {ι:Type}{I:ι→St}{m:ι→Nat}{k:Nat}:zh I m k Q .ret ⟨e,o,x,n⟩=Q .ret ⟨e,o,x,n⟩:=rfl
theorem A2 {ι:Type}{I:ι→St}{m:ι→Nat}{k id:Nat}:zh I m k Q (.exit id) ⟨e,o,x,n⟩=Q (.exit id) ⟨e,o,x,n⟩:=rfl
theorem Lq {ι:Type}{I:ι→St}{m:ι→Nat}{k:Nat}{s:St}(y:ι)(h:Sub s (I y))(h1:m y<k):zh I m k Q .normal s:=⟨y,h,h1⟩
theorem L3 {id:Nat}:vc T P kp (.exit id) ⟨e,o,x,n⟩ Q=Q (.exit id) ⟨e,o,x,n⟩:=rfl
theorem M5:vc T P kp .ret ⟨e,o,x,n⟩ Q=Q .ret ⟨e,o,x,n⟩:=rfl
theorem A1 {ms:List (Nat×WL)}{id:Nat}{os:List Oper}:gX T P ms id true os ⟨e,o,x,n⟩ K=ow T P (l9 ms id) os ⟨e,o,x,n⟩ K:=by simp only[gX,if_true]
theorem zT {os:List Oper}:ow T P none os ⟨e,o,x,n⟩ K=uL T P x os.length 0 os [] ⟨e,o,x,n⟩ K:=rfl
theorem CJ {os:List Oper}:ow T P (some .nil) os ⟨e,o,x,n⟩ K=fZ T P x os.length .nil 0 os [] ⟨e,o,x,n⟩ (fun s'=>iE T P os .nil s' K):=rfl
theorem zd {i:Nat}{pd:List Nat}{r al:WL}{os:List Oper}:ow T P (some (.cons i pd r al)) os ⟨e,o,x,n⟩ K=fZ T P x os.length (.cons i pd r al) 0 os [] ⟨e,o,x,n⟩ (fun s'=>iE T P os (.cons i pd r al) s' K):=rfl
theorem CS {q d:Nat}{t1 t2:WL}{os:List Oper}:ow T P (some (.opt q d t1 t2)) os ⟨e,o,x,n⟩ K=fZ T P x os.length t1 0 os [] ⟨e,o,x,n⟩ (fun s'=>iE T P os t1 s' K∧iE T P os t2 (PU d (x+q) s') K):=rfl
theorem NN {d id:Nat}:PU d id ⟨e,o,x,n⟩=⟨I2 e d,del o id,x,n⟩:=rfl
theorem BE {ms:List (Nat×WL)}{id:Nat}{os:List Oper}:gX T P ms id false os ⟨e,o,x,n⟩ K=oW T P 0 os [] ⟨e,o,x,n⟩ K:=by simp only[gX,Bool.false_eq_true,if_false]
def tU (T:fH)(P:Program)(i:Nat)(os:List Oper)(gd:List (Nat×Tmp))(dst:Option Tmp)(op:Op)(K:St→Prop)(s:St):Prop:=
 if rR op then AR T op dst s (fun s'=>oW T P (i+1) os gd s' K)
 else if cX op then orM (eL T P op s s.nx s.nx (aQ dst os) (fun e=>bQ (uG i os) e fun e'=>oW T P (i+1) os (dX (uG i os) i dst gd) (after s dst e') K)) (nZ P op dst s (fun s'=>oW T P (i+1) os gd s' K))
 else eL T P op s s.nx s.nx (aQ dst os) (fun e=>bQ (uG i os) e fun e'=>oW T P (i+1) os (dX (uG i os) i dst gd) (after s dst e') K)
def qe (v:Option V)(want:Bool)(A B:St→Prop)(s:St):Prop:=
 match v.bind gv with
 |some b=>if b=some want then A s else B s
 |none=>False
theorem KT {i:Nat}{gd:List (Nat×Tmp)}:oW T P i [] gd ⟨e,o,x,n⟩ K=K ⟨e,o,x,n⟩:=rfl
theorem I0 {i:Nat}{gd:List (Nat×Tmp)}{dst:Option Tmp}{op:Op}{ty:TypeId}{pos:String}{af:Array Edge}{os:List Oper}:
  oW T P i (⟨dst,op,ty,pos,af,none⟩::os) gd ⟨e,o,x,n⟩ K=(pG dst n∧tU T P i os gd dst op K ⟨e,o,x,n⟩):=rfl
theorem Gf {i g:Nat}{want:Bool}{gd:List (Nat×Tmp)}{dst:Option Tmp}{op:Op}{ty:TypeId}{pos:String}{af:Array Edge}{os:List Oper}:
  oW T P i (⟨dst,op,ty,pos,af,some (g,want)⟩::os) gd ⟨e,o,x,n⟩ K=(pG dst n∧qe ((gb gd g).map (lk e)) want (tU T P i os gd dst op K) (fun s=>oW T P (i+1) os (dX (uG i os) i dst gd) (s.put dst (.aB [])) K) ⟨e,o,x,n⟩):=by
 simp only[oW,guarded,qe]
 cases gb gd g with
 |none=>rfl
 |some t=>rfl
def vF (T:fH)(P:Program)(nx0 len:Nat)(i:Nat)(os:List Oper)(gd:List (Nat×Tmp))(dst:Option Tmp)(op:Op)(K:St→Prop)(s:St):Prop:=
 if cX op then orM (eL T P op s nx0 (nx0+i) (aQ dst os) (fun e=>uJ nx0 e.fz∧bQ (uG i os) e fun e'=>uL T P nx0 len (i+1) os (dX (uG i os) i dst gd) (s.add dst (nx0+i) e') K)) False else eL T P op s nx0 (nx0+i) (aQ dst os) (fun e=>uJ nx0 e.fz∧bQ (uG i os) e fun e'=>uL T P nx0 len (i+1) os (dX (uG i os) i dst gd) (s.add dst (nx0+i) e') K)
theorem JT {nx0 len i:Nat}{gd:List (Nat×Tmp)}:uL T P nx0 len i [] gd ⟨e,o,x,n⟩ K=K ⟨e,o,nx0+len,n⟩:=rfl
def pR (l:Bool)(A B:St→Prop)(s:St):Prop:=if l then A s else B s
theorem Ls {A B:St→Prop}{s:St}:pR true A B s=A s:=rfl
theorem KC {A B:St→Prop}{s:St}:pR false A B s=B s:=rfl
def FV (s:St)(m:Nat):St:={s with nx:=m}
theorem Ha {m:Nat}:FV ⟨e,o,x,n⟩ m=⟨e,o,m,n⟩:=rfl
theorem Gy {nx0 len i:Nat}{gd:List (Nat×Tmp)}{dst:Option Tmp}{op:Op}{ty:TypeId}{pos:String}{af:Array Edge}{os:List Oper}:
  uL T P nx0 len i (⟨dst,op,ty,pos,af,none⟩::os) gd ⟨e,o,x,n⟩ K=pR (qG op) (fun s=>oW T P i (⟨dst,op,ty,pos,af,none⟩::os) gd (FV s (nx0+len)) K) (fun s=>pG dst n∧vF T P nx0 len i os gd dst op K s) ⟨e,o,x,n⟩:=rfl
theorem Hh {nx0 len i g:Nat}{want:Bool}{gd:List (Nat×Tmp)}{dst:Option Tmp}{op:Op}{ty:TypeId}{pos:String}{af:Array Edge}{os:List Oper}:
  uL T P nx0 len i (⟨dst,op,ty,pos,af,some (g,want)⟩::os) gd ⟨e,o,x,n⟩ K=pR (qG op) (fun s=>oW T P i (⟨dst,op,ty,pos,af,some (g,want)⟩::os) gd (FV s (nx0+len)) K)
   (fun s=>pG dst n∧qe ((gb gd g).map (lk s.env)) want (vF T P nx0 len i os gd dst op K) (fun s=>uL T P nx0 len (i+1) os (dX (uG i os) i dst gd) (s.put dst (.aB [])) K) s) ⟨e,o,x,n⟩:=by
 simp only[uL,guarded,qe,pR]
 cases gb gd g with
 |none=>rfl
 |some t=>rfl
def stepG (T:fH)(P:Program)(nx0 len:Nat)(ws:WL)(i:Nat)(os:List Oper)(gd:List (Nat×Tmp))(dst:Option Tmp)(op:Op)(K:St→Prop)(s:St):Prop:=
 if cX op then orM (eL T P op s nx0 (nx0+i) (aQ dst os) (fun e=>uJ nx0 e.fz∧bQ (uG i os) e fun e'=>fZ T P nx0 len ws (i+1) os (dX (uG i os) i dst gd) (s.add dst (nx0+i) e') K)) False else eL T P op s nx0 (nx0+i) (aQ dst os) (fun e=>uJ nx0 e.fz∧bQ (uG i os) e fun e'=>fZ T P nx0 len ws (i+1) os (dX (uG i os) i dst gd) (s.add dst (nx0+i) e') K)
theorem F3 {nx0 len i:Nat}{ws:WL}{gd:List (Nat×Tmp)}:fZ T P nx0 len ws i [] gd ⟨e,o,x,n⟩ K=K ⟨e,o,nx0+len,n⟩:=rfl
theorem EG {nx0 len i:Nat}{ws:WL}{gd:List (Nat×Tmp)}{dst:Option Tmp}{op:Op}{ty:TypeId}{pos:String}{af:Array Edge}{os:List Oper}:
  fZ T P nx0 len ws i (⟨dst,op,ty,pos,af,none⟩::os) gd ⟨e,o,x,n⟩ K=pR (iI ws i) (fun s=>fZ T P nx0 len ws (i+1) os gd s K) (fun s=>pG dst n∧stepG T P nx0 len ws i os gd dst op K s) ⟨e,o,x,n⟩:=by
 simp only[fZ,guarded,pR,stepG]
theorem Fi {nx0 len i g:Nat}{want:Bool}{ws:WL}{gd:List (Nat×Tmp)}{dst:Option Tmp}{op:Op}{ty:TypeId}{pos:String}{af:Array Edge}{os:List Oper}:
  fZ T P nx0 len ws i (⟨dst,op,ty,pos,af,some (g,want)⟩::os) gd ⟨e,o,x,n⟩ K=pR (iI ws i) (fun s=>fZ T P nx0 len ws (i+1) os gd s K)
   (fun s=>pG dst n∧qe ((gb gd g).map (lk s.env)) want (stepG T P nx0 len ws i os gd dst op K) (fun s=>fZ T P nx0 len ws (i+1) os (dX (uG i os) i dst gd) (s.put dst (.aB [])) K) s) ⟨e,o,x,n⟩:=by
 simp only[fZ,pR]
 congr 1
 simp only[guarded,qe,stepG]
 cases gb gd g with
 |none=>rfl
 |some t=>rfl
theorem KZ {nx0 len i:Nat}{ws:WL}{os:List Oper}{gd:List (Nat×Tmp)}{dst:Option Tmp}{op:Op}(h1:cX op=true):stepG T P nx0 len ws i os gd dst op K ⟨e,o,x,n⟩=
 orM (eL T P op ⟨e,o,x,n⟩ nx0 (nx0+i) (aQ dst os) (fun e'=>uJ nx0 e'.fz∧bQ (uG i os) e' fun e''=>fZ T P nx0 len ws (i+1) os (dX (uG i os) i dst gd) (St.add ⟨e,o,x,n⟩ dst (nx0+i) e'') K)) False:=by
 unfold stepG;rw[if_pos h1]
theorem KK {nx0 len i:Nat}{ws:WL}{os:List Oper}{gd:List (Nat×Tmp)}{dst:Option Tmp}{op:Op}(h1:cX op=false):stepG T P nx0 len ws i os gd dst op K ⟨e,o,x,n⟩=
 eL T P op ⟨e,o,x,n⟩ nx0 (nx0+i) (aQ dst os) (fun e'=>uJ nx0 e'.fz∧bQ (uG i os) e' fun e''=>fZ T P nx0 len ws (i+1) os (dX (uG i os) i dst gd) (St.add ⟨e,o,x,n⟩ dst (nx0+i) e'') K):=by
 unfold stepG;rw[if_neg (by rw[h1];simp)]
theorem GZ {os:List Oper}:iE T P os .nil ⟨e,o,x,n⟩ K=K ⟨e,o,x,n⟩:=by rw[iE]
theorem F2 {os:List Oper}{i:Nat}{pd:List Nat}{r:WL}:iE T P os (.cons i pd r .nil) ⟨e,o,x,n⟩ K=bX os[i]? (fun p=>pG p.dst n∧tF T P p os ⟨e,o,x,n⟩ (fun s'=>prom T P os pd s'∧iE T P os r s' K)):=by
 rw[iE,EJ]
 cases os[i]? <;>rfl
theorem EI {os:List Oper}{i j:Nat}{pd pd':List Nat}{r r' al:WL}:iE T P os (.cons i pd r (.cons j pd' r' al)) ⟨e,o,x,n⟩ K=(bX os[i]? (fun p=>pG p.dst n∧tF T P p os ⟨e,o,x,n⟩ (fun s'=>prom T P os pd s'∧iE T P os r s' K))∧iE T P os (.cons j pd' r' al) ⟨e,o,x,n⟩ K):=by
 rw[iE,EJ]
 cases os[i]? <;>rfl
theorem M1 {os:List Oper}{dst:Option Tmp}{op:Op}{ty:TypeId}{pos:String}{af:Array Edge}{g:Option (Nat×Bool)}(h:rR op=true):tF T P ⟨dst,op,ty,pos,af,g⟩ os ⟨e,o,x,n⟩ K=AR T op dst ⟨e,o,x,n⟩ K:=by
 unfold tF;exact if_pos h
theorem Oz {os:List Oper}{dst:Option Tmp}{op:Op}{ty:TypeId}{pos:String}{af:Array Edge}{g:Option (Nat×Bool)}(h:rR op=false)(h1:cX op=true):tF T P ⟨dst,op,ty,pos,af,g⟩ os ⟨e,o,x,n⟩ K=
  orM (eL T P op ⟨e,o,x,n⟩ x x (aQ dst os) (fun e'=>K (after ⟨e,o,x,n⟩ dst e'))) (nZ P op dst ⟨e,o,x,n⟩ K):=by
 unfold tF;simp only[h,h1,Bool.false_eq_true,if_false,if_true]
theorem NJ {os:List Oper}{dst:Option Tmp}{op:Op}{ty:TypeId}{pos:String}{af:Array Edge}{g:Option (Nat×Bool)}(h:rR op=false)(h1:cX op=false):tF T P ⟨dst,op,ty,pos,af,g⟩ os ⟨e,o,x,n⟩ K=
  eL T P op ⟨e,o,x,n⟩ x x (aQ dst os) (fun e'=>K (after ⟨e,o,x,n⟩ dst e')):=by
 unfold tF;simp only[h,h1,Bool.false_eq_true,if_false]
theorem IV {os:List Oper}{s:St}:prom T P os [] s=True:=rfl
theorem EV {os:List Oper}{j:Nat}{r:List Nat}:prom T P os (j::r) ⟨e,o,x,n⟩=(bX os[j]? (fun p=>bX p.dst fun d=>d<n∧vY T P os p d ⟨e,o,x,n⟩)∧prom T P os r ⟨e,o,x,n⟩):=by
 simp only[prom]
 cases os[j]? with
 |none=>rfl
 |some p=>cases h:p.dst<;>simp only[bX,h]
theorem JN {os:List Oper}{d:Nat}{dst:Option Tmp}{op:Op}{ty:TypeId}{pos:String}{af:Array Edge}:vY T P os ⟨dst,op,ty,pos,af,none⟩ d ⟨e,o,x,n⟩=eL T P op ⟨e,o,x,n⟩ x x false (fun e'=>e'.val=lk e d):=rfl
theorem Kh {os:List Oper}{d g:Nat}{want:Bool}{dst:Option Tmp}{op:Op}{ty:TypeId}{pos:String}{af:Array Edge}:vY T P os ⟨dst,op,ty,pos,af,some (g,want)⟩ d ⟨e,o,x,n⟩=
  bX os[g]? (fun p=>bX p.dst fun t=>qe (some (lk e t)) want (fun _=>eL T P op ⟨e,o,x,n⟩ x x false (fun e'=>e'.val=lk e d)) (fun _=>lk e d= .aB []) ⟨e,o,x,n⟩):=by
 unfold vY;simp only[qe,Option.bind_some]
 cases os[g]? with
 |none=>rfl
 |some p=>
  simp only[Option.bind_some,bX]
  cases p.dst with
  |none=>rfl
  |some t=>first|(simp only[bX];done)|(simp only[bX];cases gv (lk e t)<;>rfl)
theorem LJ {A B:St→Prop}{s:St}:qe (some (.one (.bool true))) true A B s=A s:=rfl
theorem OJ {o:List (Nat×fA)}:uO o []=o:=rfl
theorem NL {A B:St→Prop}{s:St}{w:Bool}:qe (some (.aB [])) w A B s=B s:=rfl
theorem KV {A B:St→Prop}{s:St}:qe (some (.one (.bool true))) false A B s=B s:=rfl
theorem KX {A B:St→Prop}{s:St}:qe (some (.one (.bool false))) true A B s=B s:=rfl
theorem La {A B:St→Prop}{s:St}:qe (some (.one (.bool false))) false A B s=A s:=rfl
theorem LZ {i:Nat}{os:List Oper}{gd:List (Nat×Tmp)}{dst:Option Tmp}{op:Op}(h:rR op=true):tU T P i os gd dst op K ⟨e,o,x,n⟩=AR T op dst ⟨e,o,x,n⟩ (fun s'=>oW T P (i+1) os gd s' K):=if_pos h
theorem KY {i:Nat}{os:List Oper}{gd:List (Nat×Tmp)}{dst:Option Tmp}{op:Op}(h:rR op=false)(h1:cX op=true):tU T P i os gd dst op K ⟨e,o,x,n⟩=
 orM (eL T P op ⟨e,o,x,n⟩ x x (aQ dst os) (fun e'=>bQ (uG i os) e' fun e''=>oW T P (i+1) os (dX (uG i os) i dst gd) (after ⟨e,o,x,n⟩ dst e'') K)) (nZ P op dst ⟨e,o,x,n⟩ (fun s'=>oW T P (i+1) os gd s' K)):=by
 unfold tU;rw[h,h1];rfl
theorem LY {i:Nat}{os:List Oper}{gd:List (Nat×Tmp)}{dst:Option Tmp}{op:Op}(h:rR op=false)(h1:cX op=false):tU T P i os gd dst op K ⟨e,o,x,n⟩=
 eL T P op ⟨e,o,x,n⟩ x x (aQ dst os) (fun e'=>bQ (uG i os) e' fun e''=>oW T P (i+1) os (dX (uG i os) i dst gd) (after ⟨e,o,x,n⟩ dst e'') K):=by
 unfold tU;rw[h,h1];rfl
theorem Jk {nx0 len i:Nat}{os:List Oper}{gd:List (Nat×Tmp)}{dst:Option Tmp}{op:Op}(h1:cX op=true):vF T P nx0 len i os gd dst op K ⟨e,o,x,n⟩=
 orM (eL T P op ⟨e,o,x,n⟩ nx0 (nx0+i) (aQ dst os) (fun e'=>uJ nx0 e'.fz∧bQ (uG i os) e' fun e''=>uL T P nx0 len (i+1) os (dX (uG i os) i dst gd) (St.add ⟨e,o,x,n⟩ dst (nx0+i) e'') K)) False:=by
 unfold vF;rw[h1];rfl
theorem Jf {nx0 len i:Nat}{os:List Oper}{gd:List (Nat×Tmp)}{dst:Option Tmp}{op:Op}(h1:cX op=false):vF T P nx0 len i os gd dst op K ⟨e,o,x,n⟩=
 eL T P op ⟨e,o,x,n⟩ nx0 (nx0+i) (aQ dst os) (fun e'=>uJ nx0 e'.fz∧bQ (uG i os) e' fun e''=>uL T P nx0 len (i+1) os (dX (uG i os) i dst gd) (St.add ⟨e,o,x,n⟩ dst (nx0+i) e'') K):=by
 unfold vF;rw[h1];rfl
theorem HL {v:V}{b:Option Bk}{f:List Nat}:bQ false ⟨v,b,f⟩ KE=KE ⟨v,b,f⟩:=rfl
theorem Gq {t:Bool}{b:Option Bk}{f:List Nat}:bQ true ⟨.one (.bool t),b,f⟩ KE=((t=true→eI KE ⟨.one (.bool true),b,f⟩)∧(t=false→eI KE ⟨.one (.bool false),b,f⟩)):=rfl
theorem Gn {d:Nat}{v:V}:St.put ⟨e,o,x,n⟩ (some d) v=⟨(d,v)::e,o,x,n⟩:=rfl
theorem IN {v:V}:St.put ⟨e,o,x,n⟩ none v=⟨e,o,x,n⟩:=rfl
theorem BZ {d:Nat}{v:V}:after ⟨e,o,x,n⟩ (some d) ⟨v,none,[]⟩=⟨(d,v)::e,o,x+1,n⟩:=rfl
theorem B7 {v:V}:after ⟨e,o,x,n⟩ none ⟨v,none,[]⟩=⟨e,o,x+1,n⟩:=rfl
theorem IE {d b:Nat}{v:V}{l:List Nat}:after ⟨e,o,x,n⟩ (some d) ⟨v,none,b::l⟩=⟨(d,v)::e,dJ o (b::l),x+1,n⟩:=rfl
theorem Fw {d:Nat}{v:V}{B:Bk}:after ⟨e,o,x,n⟩ (some d) ⟨v,some B,[]⟩=⟨(d,v)::e,eD o x ⟨B,true⟩,x+1,n⟩:=rfl
theorem Hn {d b:Nat}{v:V}{l:List Nat}{B:Bk}:after ⟨e,o,x,n⟩ (some d) ⟨v,some B,b::l⟩=⟨(d,v)::e,eD (dJ o (b::l)) x ⟨B,true⟩,x+1,n⟩:=rfl
theorem Oi {d b id:Nat}{v:V}{l:List Nat}{B:Bk}:St.add ⟨e,o,x,n⟩ (some d) id ⟨v,some B,b::l⟩=⟨(d,v)::e,eD (dJ o (b::l)) id ⟨B,true⟩,x,n⟩:=rfl
theorem G4 {d id:Nat}{v:V}:St.add ⟨e,o,x,n⟩ (some d) id ⟨v,none,[]⟩=⟨(d,v)::e,o,x,n⟩:=rfl
theorem F8 {id:Nat}{v:V}:St.add ⟨e,o,x,n⟩ none id ⟨v,none,[]⟩=⟨e,o,x,n⟩:=rfl
theorem Nm {d b id:Nat}{v:V}{l:List Nat}:St.add ⟨e,o,x,n⟩ (some d) id ⟨v,none,b::l⟩=⟨(d,v)::e,dJ o (b::l),x,n⟩:=rfl
theorem L5 {d id:Nat}{v:V}{B:Bk}:St.add ⟨e,o,x,n⟩ (some d) id ⟨v,some B,[]⟩=⟨(d,v)::e,eD o id ⟨B,true⟩,x,n⟩:=rfl
theorem P0 {ks:List Nat}:gc ks ⟨e,o,x,n⟩=⟨ks.map (fun t=>(t,lk e t)),o,x,n⟩:=rfl
theorem Om {t:Nat}:St.ev ⟨e,o,x,n⟩ (.tmp t)=lk e t:=rfl
theorem GO {v:Value}:St.ev ⟨e,o,x,n⟩ (.const v)=cv v:=rfl
theorem Lx {f:Nat}:St.ev ⟨e,o,x,n⟩ (.func f)= .one (.fn f 0 (fun _=>.any)):=rfl
theorem Ol {k:IntKind}{i:Int}:cv (.int k i)= .one (.int k i):=rfl
theorem LR {b:Bool}:cv (.bool b)= .one (.bool b):=rfl
theorem OC:cv (.slice none 0 0)= .one .nil:=rfl
theorem Nh {b:ByteArray}:cv (.string b)= .one (.str b):=rfl
theorem H2 {a:Operand}{nx id:Nat}{fz:Bool}:eL T P (.move a) ⟨e,o,x,n⟩ nx id fz KE=KE ⟨St.ev ⟨e,o,x,n⟩ a,none,[]⟩:=rfl
theorem AT {a:Operand}{nx id:Nat}{fz:Bool}:eL T P (.assign a) ⟨e,o,x,n⟩ nx id fz KE=KE ⟨St.ev ⟨e,o,x,n⟩ a,none,[]⟩:=rfl
def HN (t a b:V):Option V:=match t with
 |.one (.bool t)=>some (if t then a else b)
 |_=>none
theorem Jj {a b:V}:HN (.one (.bool true)) a b=some a:=rfl
theorem LD {a b:V}:HN (.one (.bool false)) a b=some b:=rfl
theorem FN {c a b:Operand}{nx id:Nat}{fz:Bool}:eL T P (.pick c a b) ⟨e,o,x,n⟩ nx id fz KE=bX (HN (St.ev ⟨e,o,x,n⟩ c) (St.ev ⟨e,o,x,n⟩ a) (St.ev ⟨e,o,x,n⟩ b)) (fun v=>KE ⟨v,none,[]⟩):=by
 simp only[eL]
 cases St.ev ⟨e,o,x,n⟩ c with
 |one c=>cases c<;>rfl
 |_=>rfl
theorem EB {t:Nat}{nx id:Nat}{fz:Bool}:eL T P (.alloc t) ⟨e,o,x,n⟩ nx id fz KE=bX (T t) (fun E=>KE ⟨.one (.ptr id 0),some (.var E.zero),[]⟩):=by
 simp only[eL];cases T t<;>rfl
theorem Jz {t:Nat}{a:Operand}{nx id:Nat}{fz:Bool}:eL T P (.box t a) ⟨e,o,x,n⟩ nx id fz KE=((St.ev ⟨e,o,x,n⟩ a).n7=true∧KE ⟨.one (.ptr id 0),some (.var (cellsOf (St.ev ⟨e,o,x,n⟩ a))),[]⟩):=rfl
def Og:Et→Option (List (Nat×Nat))
 |.st fs=>some fs
 |_=>none
theorem Fj {t:Nat}{ps:Array (Nat×Operand)}{nx id:Nat}{fz:Bool}:eL T P (.build t ps) ⟨e,o,x,n⟩ nx id fz KE=bX (T t) (fun E=>bX (Og E.k) fun fs=>bX (jn fs E.zero (ps.toList.map fun p=>(p.1,St.ev ⟨e,o,x,n⟩ p.2))) fun cs=>KE ⟨.agg cs,none,[]⟩):=by
 simp only[eL]
 cases T t with
 |none=>rfl
 |some E=>
  simp only[ov]
  cases E.k with
  |st fs=>simp only[Og,ov];cases jn fs E.zero (ps.toList.map fun p=>(p.1,St.ev ⟨e,o,x,n⟩ p.2))<;>rfl
  |_=>rfl
theorem uq {t l:Nat}{ps:Array (Nat×Operand)}{nx id:Nat}{fz:Bool}:eL T P (.buildSlice t l ps) ⟨e,o,x,n⟩ nx id fz KE=gZ T ⟨e,o,x,n⟩ nx id fz t l ps KE:=rfl
theorem HM {t:Nat}{a:Operand}{nx id:Nat}{fz:Bool}:eL T P (.load t a) ⟨e,o,x,n⟩ nx id fz KE=yJ T ⟨e,o,x,n⟩ nx t a KE:=rfl
theorem JW {op:BinOp}{t t':Nat}{a b:Operand}{nx id:Nat}{fz:Bool}:eL T P (.binOp op t a b t') ⟨e,o,x,n⟩ nx id fz KE=H0 T ⟨e,o,x,n⟩ op t a b KE:=rfl
theorem OB {op:UnOp}{t:Nat}{a:Operand}{nx id:Nat}{fz:Bool}:eL T P (.unOp op t a) ⟨e,o,x,n⟩ nx id fz KE=Pp ⟨e,o,x,n⟩ op a KE:=rfl
theorem FL {t t':Nat}{a:Operand}{nx id:Nat}{fz:Bool}:eL T P (.convert t t' a) ⟨e,o,x,n⟩ nx id fz KE=mI T ⟨e,o,x,n⟩ t t' a KE:=rfl
theorem IC {t:Nat}{a b:Operand}{nx id:Nat}{fz:Bool}:eL T P (.makeSlice t a b) ⟨e,o,x,n⟩ nx id fz KE=jw T ⟨e,o,x,n⟩ id fz t a b KE:=rfl
theorem Eo {t:Nat}{a:Operand}{lo hi mx:Option Operand}{nx id:Nat}{fz:Bool}:eL T P (.slice t a lo hi mx) ⟨e,o,x,n⟩ nx id fz KE=ud T ⟨e,o,x,n⟩ t a lo hi mx KE:=rfl
theorem ED {t f:Nat}{a:Operand}{nx id:Nat}{fz:Bool}:eL T P (.fieldAddr t a f) ⟨e,o,x,n⟩ nx id fz KE=jk T ⟨e,o,x,n⟩ t a f KE:=rfl
theorem Bd {t f:Nat}{a:Operand}{nx id:Nat}{fz:Bool}:eL T P (.field t a f) ⟨e,o,x,n⟩ nx id fz KE=s9 T ⟨e,o,x,n⟩ t a f KE:=rfl
theorem xJ {f:FuncId}{cs:Array Operand}{nx id:Nat}{fz:Bool}:eL T P (.makeFunc (.func f) #[] cs) ⟨e,o,x,n⟩ nx id fz KE=((cs.toList.all fun a=>rM (St.ev ⟨e,o,x,n⟩ a))=true∧KE ⟨.one (.fn f cs.toList.length (fun i=>DS ((cs.toList.map (St.ev ⟨e,o,x,n⟩)).getD i .unk))),none,[]⟩):=rfl
theorem EC {t:Nat}{a b:Operand}{nx id:Nat}{fz:Bool}:eL T P (.indexAddr t a b) ⟨e,o,x,n⟩ nx id fz KE=ji T ⟨e,o,x,n⟩ t a b KE:=rfl
theorem A9 {t:Nat}{a b:Operand}{nx id:Nat}{fz:Bool}:eL T P (.index t a b) ⟨e,o,x,n⟩ nx id fz KE=uz T ⟨e,o,x,n⟩ t a b KE:=rfl
def Au (v:V)(i:Nat):Option V:=match v with
 |.aB vs=>vs[i]?
 |_=>none
theorem Kw {v:V}{vs:List V}:Au (.aB (v::vs)) 0=some v:=rfl
theorem Js {v u:V}{vs:List V}:Au (.aB (v::u::vs)) 1=some u:=rfl
theorem KB {v u t:V}{vs:List V}:Au (.aB (v::u::t::vs)) 2=some t:=rfl
theorem zx {i:Nat}{a:Operand}{nx id:Nat}{fz:Bool}:eL T P (.extract a i) ⟨e,o,x,n⟩ nx id fz KE=bX (Au (St.ev ⟨e,o,x,n⟩ a) i) (fun v=>KE ⟨v,none,[]⟩):=by
 simp only[eL,Au]
 cases St.ev ⟨e,o,x,n⟩ a with
 |aB vs=>simp only;cases vs[i]? <;>rfl
 |_=>rfl
theorem Eu {g:Operand}{az:Array Operand}{ts:Array TypeId}{nx id:Nat}{fz:Bool}:eL T P (.call ⟨.value g,az,ts⟩) ⟨e,o,x,n⟩ nx id fz KE=v7 P ⟨e,o,x,n⟩ nx id g az.toList KE:=rfl
theorem Fy {b:Builtin}{az:Array Operand}{ts:Array TypeId}{nx id:Nat}{fz:Bool}:eL T P (.call ⟨.builtin b,az,ts⟩) ⟨e,o,x,n⟩ nx id fz KE=mf T ⟨e,o,x,n⟩ b az.toList ts.toList KE:=rfl
def OE:V→Option FuncId
 |.one (.fn f 0 _)=>some f
 |_=>none
def cK (P:Program)(f:FuncId)(args:List V)(ids:List Nat)(id:Nat)(KE:eK→Prop):Prop:=(∃r,Pr P f args r∧eI KE ⟨r,none,if nq r then[]else ids⟩)∨(∃B,Fr P f args B∧eI KE ⟨.one (.own id B.wd 0 B.len),some B,ids⟩)∨(∃B c,dL P f args B c∧eI KE ⟨.aB [.one (.own id B.wd 0 B.len),.one c],some B,ids⟩)
theorem Cg {f:FuncId}{args:List V}{ids:List Nat}{id:Nat}{r:V}{M:Prop}(h:Pr P f args r)(hk:KE ⟨r,none,if nq r then[]else ids⟩):orM (cK P f args ids id KE) M:=.inl (.inl ⟨r,h,hk⟩)
theorem cK.fresh {f:FuncId}{args:List V}{ids:List Nat}{id:Nat}{B:Bk}{M:Prop}(h:Fr P f args B)(hk:KE ⟨.one (.own id B.wd 0 B.len),some B,ids⟩):orM (cK P f args ids id KE) M:=.inl (.inr (.inl ⟨B,h,hk⟩))
theorem cK.Cz {f:FuncId}{args:List V}{ids:List Nat}{id:Nat}{B:Bk}{c:C}{M:Prop}(h:dL P f args B c)(hk:KE ⟨.aB [.one (.own id B.wd 0 B.len),.one c],some B,ids⟩):orM (cK P f args ids id KE) M:=.inl (.inr (.inr ⟨B,c,h,hk⟩))
theorem Cm {f:FuncId}{raw:List V}{s:St}{dst:Option Tmp}{A:Prop}(b:Nat){B:Bk}{R:V→Bk→Prop}(hl:lo s.own b=some ⟨B,true⟩)(hp:B.plain)(h:Mc P f (raw.map (I3 b s.own s.nx)) B R)
  (hk:∀r B',R r B'→B'.len=B.len→K (OO s dst b raw r B')):orM A (wJ P f raw s dst K):=.inr (.inl ⟨b,B,R,hl,hp,h,hk⟩)
theorem cK.NV {f:FuncId}{raw:List V}{s:St}{dst:Option Tmp}{A:Prop}{n:Nat}{g:Nat→Nat→C}{B:Bk}{c:Option C}(h:ub P f (raw.map (Bq s.own s.nx)) n g B c)
  (hk:K (OR s dst raw n g B c)):orM A (wJ P f raw s dst K):=.inr (.inr ⟨n,g,B,c,h,hk⟩)
def vN:V→Option (FuncId×List V)
 |.one (.fn f n cs)=>some (f,lZ n cs)
 |_=>none
theorem Kx {f:FuncId}{c:Nat→C}:vN (.one (.fn f 0 c))=some (f,[]):=rfl
theorem LW {f:FuncId}{c:Nat→C}:vN (.one (.fn f 1 c))=some (f,[.one (c 0)]):=rfl
theorem JD {f:FuncId}{c:Nat→C}:vN (.one (.fn f 2 c))=some (f,[.one (c 0),.one (c 1)]):=rfl
theorem Ly {f:FuncId}{c:Nat→C}:vN (.one (.fn f 3 c))=some (f,[.one (c 0),.one (c 1),.one (c 2)]):=rfl
theorem IX {g:Operand}{az:List Operand}{nx id:Nat}:v7 P ⟨e,o,x,n⟩ nx id g az KE=bX (vN (St.ev ⟨e,o,x,n⟩ g)) (fun f=>cK P f.1 ((az.map (St.ev ⟨e,o,x,n⟩)++f.2).map (DI o nx)) (((az.map (St.ev ⟨e,o,x,n⟩)++f.2).map o8).flatten.filter (fun b=>decide (b<nx))) id KE):=by
 unfold v7 vN
 cases St.ev ⟨e,o,x,n⟩ g with
 |one c=>cases c<;>rfl
 |agg cs=>rfl
 |aB cs=>rfl
 |unk=>rfl
theorem Ix {g:Operand}{az:Array Operand}{ts:Array TypeId}{d:Option Tmp}:nZ P (.call ⟨.value g,az,ts⟩) d ⟨e,o,x,n⟩ K=bX (OE (St.ev ⟨e,o,x,n⟩ g)) (fun f=>wJ P f (az.toList.map (St.ev ⟨e,o,x,n⟩)) ⟨e,o,x,n⟩ d K):=by
 unfold nZ OE
 cases h:St.ev ⟨e,o,x,n⟩ g with
 |one c=>cases c with
  |fn f m caps=>cases m with
   |zero=>simp only[h,true_and];rfl
   |succ m=>simp[bX,h]
  |_=>simp only[h];rfl
 |_=>simp only[h];rfl
theorem JJ {f:FuncId}{c:Nat→C}:OE (.one (.fn f 0 c))=some f:=rfl
theorem ET {t:Nat}{a b:Operand}:AR T (.store t a b) none ⟨e,o,x,n⟩ K=tE T ⟨e,o,x,n⟩ t a b K:=by simp only[AR,true_and]
theorem CN {a b:Operand}{t t':Nat}{d:Option Tmp}:AR T (.call ⟨.builtin .append,#[a,b],#[t,t']⟩) d ⟨e,o,x,n⟩ K=(N8 T t'∧pq T ⟨e,o,x,n⟩ d t a b K):=by
 rfl
theorem Fo {a:Operand}{t:Nat}{d:Option Tmp}:AR T (.call ⟨.builtin .clear,#[a],#[t]⟩) d ⟨e,o,x,n⟩ K=ug T ⟨e,o,x,n⟩ d t a K:=rfl
theorem Ip {a b:Operand}{t t':Nat}{d:Option Tmp}:AR T (.call ⟨.builtin .copy,#[a,b],#[t,t']⟩) d ⟨e,o,x,n⟩ K=(N8 T t'∧y8 T ⟨e,o,x,n⟩ d t a b K):=rfl
theorem LK {t t':Nat}{a:Operand}{d:Option Tmp}{l c:Nat}:AR T (.binOp .eql t a (.const (.slice none l c)) t') d ⟨e,o,x,n⟩ K=F6 T ⟨e,o,x,n⟩ d t a K:=by simp only[AR,wg,qT,w9,true_and]
theorem Je {a:Operand}{t:Nat}{d:Option Tmp}:AR T (.call ⟨.builtin .cap,#[a],#[t]⟩) d ⟨e,o,x,n⟩ K=GX T ⟨e,o,x,n⟩ d t a K:=rfl
theorem GF {rs:List ResultVar}{R:V→Prop}:K8 T rs R .ret ⟨e,o,x,n⟩=bX (uC T ⟨e,o,x,n⟩ rs) fun vs=>R (AX vs):=rfl
theorem zv {rs:List ResultVar}{R:V→Prop}:K8 T rs R .normal ⟨e,o,x,n⟩=bX (uC T ⟨e,o,x,n⟩ rs) fun vs=>R (AX vs):=rfl
end
set_option linter.defProp false in
def vcs:=And.intro @LU (And.intro @Ek (And.intro @NA (And.intro @zC (And.intro @Hi (And.intro @FC (And.intro @BG (And.intro @L1 (And.intro @Hj (And.intro @uP
 (And.intro @B9 (And.intro @yZ (And.intro @Jg (And.intro @EA (And.intro @A2 (And.intro @L3 (And.intro @M5 (And.intro @A1 (And.intro @BE (And.intro @zT (And.intro @CJ (And.intro @zd (And.intro @CS (And.intro @NN (And.intro @F3 (And.intro @EG (And.intro @Fi (And.intro @KZ (And.intro @KK (And.intro @GZ (And.intro @F2 (And.intro @EI (And.intro @JN (And.intro @Kh (And.intro @M1 (And.intro @Oz (And.intro @NJ (And.intro @IV (And.intro @EV (And.intro @KT
 (And.intro @I0 (And.intro @Gf (And.intro @JT (And.intro @Ls (And.intro @KC (And.intro @Ha (And.intro @Gy (And.intro @Hh (And.intro @LJ (And.intro @KV
 (And.intro @OJ (And.intro @NL (And.intro @KX (And.intro @La (And.intro @LZ (And.intro @KY (And.intro @LY (And.intro @Jk (And.intro @Jf (And.intro @Ix (And.intro @HL (And.intro @Gq (And.intro @Gn (And.intro @IN (And.intro @BZ (And.intro @B7
 (And.intro @IE (And.intro @Fw (And.intro @G4 (And.intro @F8 (And.intro @Nm (And.intro @Hn (And.intro @Oi (And.intro @L5 (And.intro @P0 (And.intro @Om (And.intro @GO (And.intro @Lx
 (And.intro @Ol (And.intro @LR (And.intro @OC (And.intro @Nh (And.intro @H2 (And.intro @AT (And.intro @Jj (And.intro @LD (And.intro @FN (And.intro @EB
 (And.intro @Jz (And.intro @Fj (And.intro @uq (And.intro @HM (And.intro @JW (And.intro @OB (And.intro @FL (And.intro @IC (And.intro @Eo (And.intro @ED
 (And.intro @A9 (And.intro @EC (And.intro @Kw (And.intro @Js (And.intro @KB (And.intro @zx (And.intro @Eu (And.intro @Fy (And.intro @IX (And.intro @JJ (And.intro @ET
 (And.intro @CN (And.intro @LK (And.intro @Fo (And.intro @Ip (And.intro @Bd (And.intro @xJ (And.intro @Kx (And.intro @LW (And.intro @JD (And.intro @Ly (And.intro @Je (And.intro @GF (And.intro @zv @ov)))))))))))))))))))))))))))))))))))))))))))))))))))))))))))))))))))))))))))))))))))))))))))))))))))))))))))))))))))))))))
set_option linter.defProp false in
def Q7:=And.intro @sd.eq_def (And.intro @uz.eq_def (And.intro @Na.eq_def (And.intro @gZ.eq_def (And.intro @yJ.eq_def (And.intro @H0.eq_def (And.intro @Pp.eq_def (And.intro @mI.eq_def (And.intro @jw.eq_def (And.intro @ud.eq_def (And.intro @jk.eq_def
 (And.intro @ji.eq_def (And.intro @mf.eq_def (And.intro @tE.eq_def (And.intro @N8.eq_def (And.intro @pq.eq_def (And.intro @GX.eq_def (And.intro @sk.eq_def (And.intro @Dd.eq_def (And.intro @F6.eq_def (And.intro @ug.eq_def (And.intro @y8.eq_def (And.intro @s9.eq_def @Ew.eq_def))))))))))))))))))))
))
set_option linter.defProp false in
def QN:=And.intro @Pz.eq_def (And.intro @ui.eq_def (And.intro @lk.eq_1 (And.intro @lk.eq_2 (And.intro @lo.eq_1 (And.intro @lo.eq_2 (And.intro @eD.eq_1 (And.intro @eD.eq_2 (And.intro @del.eq_1 (And.intro @del.eq_2 (And.intro @dJ.eq_1 (And.intro @dJ.eq_2
 (And.intro @gb.eq_1 (And.intro @gb.eq_2 (And.intro @uJ.eq_1 (And.intro @uJ.eq_2 (And.intro @bz.eq_1 (And.intro @bz.eq_2 (And.intro @eR.eq_1 (And.intro @eR.eq_2 (And.intro @gm.eq_1
 (And.intro @gm.eq_2 (And.intro @jn.eq_1 (And.intro @jn.eq_2 (And.intro @uC.eq_1 (And.intro @uC.eq_2 (And.intro @eO.eq_1 (And.intro @eO.eq_2 (And.intro @lH.eq_1 (And.intro @lH.eq_2
 (And.intro @iS.eq_1 (And.intro @pG.eq_def (And.intro @rR.eq_def (And.intro @iI.eq_1 (And.intro @iI.eq_2 (And.intro @l9.eq_1 (And.intro @l9.eq_2 (And.intro @I2.eq_1 (And.intro @I2.eq_2 (And.intro @w9.eq_def (And.intro @qT.eq_def (And.intro @wg.eq_def (And.intro @rM.eq_def (And.intro @DS.eq_def (And.intro @Py.eq_def (And.intro @P3.eq_def (And.intro @GK.eq_def (And.intro @qG.eq_def (And.intro @cX.eq_def (And.intro @OO.eq_1 (And.intro (And.intro @OR.eq_1 (And.intro @GW.eq_1 (And.intro @GW.eq_2 (And.intro @Mm.eq_def (And.intro @BL.eq_def (And.intro @C9.eq_def (And.intro @tA.eq_def (And.intro @HJ.eq_def (And.intro @mJ.eq_1 (And.intro @mJ.eq_2 @oB.eq_def)))))))))) (And.intro @Gs.eq_1 (And.intro @I3.eq_def (And.intro @Mw.eq_def (And.intro @uA.eq_def (And.intro @DE.eq_def (And.intro @L0.eq_1 (And.intro @Bk.wd.eq_def (And.intro @Bk.len.eq_def (And.intro @Bk.plain.eq_def (And.intro @yQ.eq_def (And.intro @aQ.eq_def (And.intro @My.eq_def (And.intro @uG.eq_def (And.intro @dX.eq_def (And.intro
 @iC.eq_def (And.intro @OS.eq_def (And.intro @cellsOf.eq_def (And.intro @V.n7.eq_def (And.intro @Bq.eq_def (And.intro @DI.eq_def (And.intro @o8.eq_def (And.intro @No.eq_def (And.intro @P8.eq_def (And.intro @Kc.eq_def (And.intro @xL.eq_def (And.intro @P1.eq_def (And.intro @rG.eq_def (And.intro @jM.eq_def (And.intro @ga.eq_def (And.intro @kv.eq_def (And.intro @gr.eq_def (And.intro
 @nq.eq_def (And.intro @gp.eq_def (And.intro @kX.eq_def (And.intro @HU.eq_def (And.intro @n9.eq_def (And.intro @Kd.eq_def (And.intro @Hm.eq_1 (And.intro @Et.agg.eq_def (And.intro @MR.eq_def
 (And.intro @yP.eq_def (And.intro @hO.eq_def (And.intro @g8.eq_def (And.intro @kT.eq_1 (And.intro @Ie.eq_def (And.intro @AX.eq_def (And.intro @Jy.eq_def (And.intro @Og.eq_def (And.intro
 @Nat.zero_add (And.intro @Nat.add_zero (And.intro @decide_true (And.intro @decide_false (And.intro @true_and (And.intro @and_true (And.intro @Bool.or_false (And.intro @Bool.false_or (And.intro @Bool.or_true (And.intro
 @Bool.true_or (And.intro @Bool.and_true (And.intro @Bool.true_and (And.intro @Bool.false_and (And.intro @Bool.and_false (And.intro @Bool.not_true (And.intro @Bool.not_false (And.intro @or_false (And.intro @or_true
 (And.intro @false_or (@true_or))))))))))))))))))))))))))))))))))))))))))))))))))))))))))))))))))))))))))))))))))))))))))))))))))))))))))))
))))))))))
end Go.Eng
namespace Go.Eng
open Go
def Y9 (v' v:V)(r:List (Nat×Option Nat)):List (Nat×Option Nat):=
 match v' with
 |.one (.own b' _ _ _)=>match v with
  |.one (.own b _ _ _)=>(b',some b)::r
  |.one .nil=>(b',none)::r
  |_=>r
 |.one (.ptr b' _)=>match v with
  |.one (.ptr b _)=>(b',some b)::r
  |_=>r
 |.one (.win b' c' _ _)=>match v with
  |.one (.win b c _ _)=>(b',some b)::(c',some c)::r
  |.one (.own b _ _ _)=>(b',some b)::r
  |_=>r
 |_=>r
def Y8 (env:List (Nat×V)):List (Nat×V)→List (Nat×Option Nat)
 |[]=>[]
 |(t,v')::r=>Y9 v' (lk env t) (Y8 env r)
theorem Sa {e e':List (Nat×V)}{o o':List (Nat×fA)}{x x' n:Nat}(h:(rU (Y8 e e') 0=some 0∧0<x')∧Y0 (Y8 e e') x' e e'∧Y4 (Y8 e e') x' o o'∧Y6 (Y8 e e') o'):Sub ⟨e,o,x,n⟩ ⟨e',o',x',n⟩:=
 Sub.of (Y8 e e') h.1 rfl h.2.1 h.2.2.1 h.2.2.2
def aY:List V→List V→Prop
 |[],[]=>True
 |x::xs,y::ys=>Y1 [] 0 x y∧aY xs ys
 |_,_=>False
def cU (x y:V):Prop:=
 match y with
 |.aB ys=>match x with
  |.aB xs=>aY xs ys
  |_=>False
 |_=>Y1 [] 0 x y
theorem sC {x y:V}(h:Y1 [] 0 x y)(ok:Nat→Prop)(w:World)(v:Value)(hr:b6 bg bm ok w x v):b6 bg bm ok w y v:=by
 have h1:=uH (ok':=ok) (Ext.refl ok w) h hr;have e:(fun b=>b<0)=bm:=by funext b;simp[bm]
 have e2:bP [] bg=bg:=by funext b;rfl
 rw[e,e2]at h1;exact h1
theorem Va {
      x y:V} (h:cU x y):fB x y:=by
 intro ok w v hr
 cases y with
 |aB ys=>
  cases x with
  |aB xs=>
   obtain⟨vs,hv,hl⟩:=hr;refine⟨vs,hv,?_⟩;have key:∀(xs ys:List V) (vs:List Value),aY xs ys→a7 bg bm ok w xs vs→a7 bg bm ok w ys vs:=by
    intro xs
    induction xs with
    |nil=>
     intro ys vs h hl
     cases ys with
     |nil=>exact hl
     |cons y ys=>exact h.elim
    |cons x xs ih=>
     intro ys vs h hl
     cases ys with
     |nil=>exact h.elim
     |cons y ys=>
      cases vs with
      |nil=>exact hl.elim
      |cons v vs=>
       refine⟨?_,ih ys vs h.2 hl.2⟩;have h1:=h.1;have hx:∀t,x≠ .aB t:=by
        intro t ht
        have:=hl.1
        rw[ht]at this;exact this
       have hy:∀t,y≠ .aB t:=by
        intro t ht;rw[ht]at h1;exact h1
       have h2:b6 bg bm ok w x v:=by
        cases x with
        |aB t=>exact absurd rfl (hx t)
        |_=>exact hl.1
       have h3:=sC h1 ok w v h2
       cases y with
       |aB t=>exact absurd rfl (hy t)
       |_=>exact h3
   exact key xs ys vs.toList h hl
  |_=>exact h.elim
 |unk=>exact sC (by cases x<;>exact h) ok w v hr
 |one c=>exact sC (by cases x<;>exact h) ok w v hr
 |agg cs=>exact sC (by cases x<;>exact h) ok w v hr
end Go.Eng
namespace Go.Eng
open Go
def kQ (s:St)(B:Bk)(x:V):Prop:=
 match x with
 |.one (.own b wd off len)=>off=0∧wd=B.wd∧len=B.len∧bX (lo s.own b) fun B'=>B'.rw=true∧Y5 [] 0 B'.bk B
 |.one .nil=>Y7 B
 |_=>False
def IW (rs:List ResultVar)(B:Bk):Exit→St→Prop
 |.ret,s=>match rs with
  |[.tmp t]=>kQ s B (lk s.env t)
  |_=>False
 |.normal,s=>match rs with
  |[.tmp t]=>kQ s B (lk s.env t)
  |_=>False
 |_,_=>False
def Fh (B' B:Bk):Prop:=
 match B with
 |.ints _ k xs=>match B' with
  |.ints _ k' xs'=>k'=k∧xs'.take xs.length=xs
  |_=>False
 |.rows _ w n f=>match B' with
  |.rows _ w' n' f'=>w'=w∧n≤n'∧∀i j,i<n→j<w→f' i j=f i j
  |.wins _ _ n' g=>w=1∧n≤n'∧∀i,i<n→Ee (g i)=true∧g i=f i 0
  |_=>False
 |.var _=>False
 |.wins .. =>False
def Gl (rs:List ResultVar)(B:Bk)(c:C):Exit→St→Prop
 |.ret,s=>match rs with
  |[.tmp t,.tmp u]=>kQ s B (lk s.env t)∧lk s.env u= .one c
  |_=>False
 |.normal,s=>match rs with
  |[.tmp t,.tmp u]=>kQ s B (lk s.env t)∧lk s.env u= .one c
  |_=>False
 |_,_=>False
theorem Iu {rs:List ResultVar}{B:Bk}{c:C}{e:Exit}{s:St}(h:Gl rs B c e s):(e= .normal∨e= .ret)∧∃t u,rs=[.tmp t,.tmp u]∧kQ s B (lk s.env t)∧lk s.env u= .one c:=by
 unfold Gl at h
 split at h
 ·split at h
  ·exact⟨.inr rfl,_,_,rfl,h⟩
  exact h.elim
 ·split at h
  ·exact⟨.inl rfl,_,_,rfl,h⟩
  exact h.elim
 exact h.elim
def l7 (s:St)(B:Bk)(x:V):Prop:=
 match x with
 |.one (.own b wd off len)=>off=0∧wd=B.wd∧len=B.len∧bX (lo s.own b) fun B'=>B'.rw=true∧Fh B'.bk B
 |.one .nil=>Y7 B
 |_=>False
theorem H8 {B' B:Bk}(hB:B.flat)(h:Y5 [] 0 B' B):Fh B' B:=by
 cases B with
 |var cs=>exact hB.elim
 |wins e b2 n g=>exact hB.elim
 |ints e k xs=>
  cases B' with
  |ints e' k' xs'=>obtain⟨rfl,rfl⟩:=h;exact⟨rfl,List.take_length⟩
  |_=>exact h.elim
 |rows e w n f=>
  cases B' with
  |rows e' w' n' f'=>obtain⟨rfl,rfl,h⟩:=h;exact⟨rfl,Nat.le_refl _,h⟩
  |wins e' b2 n' g=>obtain⟨rfl,rfl,h⟩:=h;exact⟨rfl,Nat.le_refl _,h⟩
  |_=>exact h.elim
theorem Aw {s:St}{B:Bk}{x:V}(hB:B.flat)(h:kQ s B x):l7 s B x:=by
 unfold kQ at h;unfold l7
 split at h
 ·obtain⟨h1,h2,h3,h4⟩:=h;refine⟨h1,h2,h3,?_⟩;unfold bX at h4⊢
  split at h4
  ·exact⟨h4.1,H8 hB h4.2⟩
  exact h4.elim
 ·exact h
 exact h.elim
theorem v9 {B' B:Bk}(h:Fh B' B)(j:Nat)(c:C)(hc:B.cell j=some c):B'.cell j=some c:=by
 cases B with
 |var cs=>exact h.elim
 |wins e b2 n g=>exact h.elim
 |ints e k xs=>
  cases B' with
  |ints e' k' xs'=>
   obtain⟨rfl,h⟩:=h;simp only[Bk.cell]at hc⊢;rw[←h,List.getElem?_take]at hc
   split at hc
   ·exact hc
   cases hc
  |_=>exact h.elim
 |rows e w n f=>
  cases B' with
  |rows e' w' n' f'=>
   obtain⟨rfl,hn,h⟩:=h;simp only[Bk.cell]at hc⊢
   split at hc
   ·rename_i RE
    have hw:0<w':=Nat.pos_of_ne_zero fun h0=>by subst h0;simp at RE
    have h1:j/w'<n:=by rw[Nat.div_lt_iff_lt_mul hw];exact RE
    rw[if_pos (Nat.lt_of_lt_of_le RE (Nat.mul_le_mul_right _ hn)),h _ _ h1 (Nat.mod_lt _ hw)];exact hc
   cases hc
  |wins e' b2 n' g=>
   obtain⟨rfl,hn,h⟩:=h;simp only[Bk.cell,Nat.mul_one,Nat.div_one,Nat.mod_one]at hc⊢
   split at hc
   ·rename_i RE
    rw[if_pos (by omega),(h j RE).2];exact hc
   cases hc
  |_=>exact h.elim
theorem Er {B' B:Bk}(h:Fh B' B):B.flat∧∀cs,B'≠ .var cs:=by
 cases B<;>cases B'<;>first|exact h.elim|exact ⟨trivial,fun _ e=>by cases e⟩
theorem Hw {B:Bk}{e:TypeId}{b2 n:Nat}{g:Nat→C}(h:Fh (.wins e b2 n g) B){j:Nat}{c:C}(hc:B.cell j=some c):Ee c=true:=by
 cases B with
 |rows e w n f=>
  obtain⟨rfl,hn,h⟩:=h;simp only[Bk.cell,Nat.mul_one,Nat.div_one,Nat.mod_one]at hc
  split at hc
  ·rename_i RE
   obtain⟨h1,h2⟩:=h j RE;rw[h2]at h1;obtain rfl:=Option.some.inj hc;exact h1
  cases hc
 |_=>exact h.elim
theorem Bk.oz {B:Bk}(h:B.flat):B.plain:=by cases B<;>first|exact h.elim|trivial
theorem results_tmp {P:Program}{fn:Func}{t:Tmp}(h:fn.results.toList=[.tmp t])(tmps:Array Value)(w:World):(results fn tmps).run P w= .ok (tmps.getD t undef) w:=by
 have:fn.results= #[.tmp t]:=Array.toList_inj.1 h
 unfold results;rw[this]
 simp[Sem.run_bind,Sem.run_pure]
def Qs (rs:List ResultVar)(B:Bk):Exit→St→Prop
 |.ret,s=>match rs with
  |[.tmp t]=>l7 s B (lk s.env t)
  |_=>False
 |.normal,s=>match rs with
  |[.tmp t]=>l7 s B (lk s.env t)
  |_=>False
 |_,_=>False
theorem Hz {rs:List ResultVar}{B:Bk}{e:Exit}{s:St}(h:IW rs B e s):(e= .normal∨e= .ret)∧∃t,rs=[.tmp t]∧kQ s B (lk s.env t):=by
 unfold IW at h
 split at h
 ·split at h
  ·exact⟨.inr rfl,_,rfl,h⟩
  exact h.elim
 ·split at h
  ·exact⟨.inl rfl,_,rfl,h⟩
  exact h.elim
 exact h.elim
def MG (b2:Nat)(c:C)(g:Nat→C):Prop:=(∃wd o l,c= .own b2 wd o l∧∀b,g b= .own b wd o l)∨(Ee c=true∧∀b,g b=c)
def Fv (s:St)(n:Nat)(g:Nat→Nat→C)(B:Bk)(x:V):Prop:=
 match x with
 |.one (.win b b2 off len)=>off=0∧len=n∧b≠b2∧bX (lo s.own b) (fun W=>W.rw=true∧match W.bk with
   |.wins _ _ n' g'=>n'=n∧∀i,i<n→MG b2 (g' i) (fun b=>g b i)
   |_=>False)∧bX (lo s.own b2) fun B'=>B'.rw=true∧Y5 [] 0 B'.bk B
 |_=>False
theorem ue {w w':World}{ok:Nat→Prop}{ρ:Nat→Loc}{s':St}{a:Act}{t:Tmp}{B:Bk}(hB:B.flat)
  (hs:aR {W0:=w,forb:=fun g=>g<w.heap.size∧¬ok g,mine:=fun _=>False} (fun b=>b<s'.nx) ρ s' a w') (Uh:l7 s' B (lk s'.env t)):
  ∃l:Loc,l.len=B.len∧(∀g o,l.addr=some (g,o)→w.heap.size≤g∧g<w'.heap.size)∧
   aL bg bm (fun g=>ok g∨(w.heap.size≤g∧g<w'.heap.size∧∀o,l.addr≠some (g,o))) w' l B∧eE (fun _=>l) (fun _=>True) (fun _=>False) w' (.own 0 B.wd 0 B.len) (a.tmps.getD t undef):=by
 have RJ:=hs.env t;unfold l7 at Uh
 split at Uh
 ·rename_i b wd off len hx
  obtain⟨rfl,rfl,rfl,h4⟩:=Uh
  cases R2:lo s'.own b with
  |none=>rw[R2]at h4;exact h4.elim
  |some B'=>
   rw[R2]at h4;obtain⟨h5,h6⟩:=h4;obtain⟨hd,Ww,Vu,WZ⟩:=hs.own b B' R2;rw[hx]at RJ;obtain⟨_,h7,h8⟩:=RJ;refine⟨⟨(ρ b).addr,B.len⟩,rfl,fun g o ha=>?_,?_,trivial,(by simp),h8⟩
   ·obtain⟨h9,_,TW⟩:=WZ g o ha
    rcases TW with TW|TW
    ·exact⟨TW,h9⟩
    exact TW.elim
   have h9:aL ρ (fun b=>b<s'.nx) (aG {W0:=w,forb:=fun g=>g<w.heap.size∧¬ok g,mine:=fun _=>False} s'.own ρ w') w' ⟨(ρ b).addr,B.len⟩ B:=by
    unfold aL at Vu⊢;simp only
    cases ha:(ρ b).addr with
    |none=>
     rw[ha]at Vu;intro j
     cases hc:B.cell j with
     |none=>rfl
     |some c=>exact absurd (Vu j) (by simp[v9 h6 j c hc])
    |some x=>
     obtain⟨g,o⟩:=x;rw[ha]at Vu;obtain⟨cur,e,hg,hc⟩:=Vu;refine⟨cur,e,hg,fun j c hj=>?_⟩;obtain⟨u,hu,hr⟩:=hc j c (v9 h6 j c hj);refine⟨u,hu,?_⟩;obtain⟨hf2,Yt⟩:=Er h6;have hrI:aP (aG {W0:=w,forb:=fun g=>g<w.heap.size∧¬ok g,mine:=fun _=>False} s'.own ρ w') w' c u:=by
      cases Sl:B'.bk with
      |var cs=>exact absurd Sl (Yt cs)
      |ints e' k' xs'=>rw[Sl]at hr;exact hr
      |rows e' w'' n' f'=>rw[Sl]at hr;exact hr
      |wins e' b2 n' g'=>rw[Sl]at hr h6;exact sV (Hw h6 hj) hr
     cases B with
     |var cs=>exact hf2.elim
     |wins e b2 n g=>exact hf2.elim
     |ints e k xs=>exact hrI
     |rows e w2 n f=>exact hrI
   refine h9.gx (Bk.oz hB) fun g hg=>?_
   by_cases XC:g<w.heap.size
   ·by_cases TF:ok g
    ·exact .inl TF
    exact absurd ⟨XC,TF⟩ hg.2.1
   exact .inr ⟨by omega,hg.1,fun o ha=>hg.2.2 b B' R2 h5 o ha⟩
 ·rename_i hx
  rw[hx]at RJ;have RJ:a.tmps.getD t undef= .slice none 0 0:=RJ;have XF:B.len=0:=by
   cases B with
   |var cs=>exact Uh.elim
   |ints e k xs=>have:xs=[]:=Uh;subst this;rfl
   |rows e wd n f=>have:n=0:=Uh;subst this;rfl
   |wins e b2 n g=>exact hB.elim
  have hBc:∀j,B.cell j=none:=by
   intro j
   cases B with
   |var cs=>exact Uh.elim
   |ints e k xs=>have:xs=[]:=Uh;subst this;simp[Bk.cell]
   |rows e wd n f=>have:n=0:=Uh;subst this;simp[Bk.cell]
   |wins e b2 n g=>exact hB.elim
  have RQ:eE (fun _=>(⟨none,0⟩:Loc)) (fun _=>True) (fun _=>False) w' (.own 0 B.wd 0 B.len) (a.tmps.getD t undef):=by
   rw[XF];exact⟨trivial,Nat.le_refl _,0,Nat.le_refl _,.inr ⟨rfl,RJ,rfl,rfl⟩⟩
  exact⟨⟨none,0⟩,XF.symm,fun g o ha=>absurd ha (by simp),hBc,RQ⟩
 exact Uh.elim
theorem xg {w:World}{ok:Nat→Prop}{args:List V}{n:Nat}(RH:args.length≤n){vs:Array Value}(R6:∀g,ok g→g<w.heap.size)(Sd:a7 bg bm ok w args vs.toList):
  ot {W0:=w,forb:=fun g=>g<w.heap.size∧¬ok g,mine:=fun _=>False} (iS args n) {tmps:=vs++Array.replicate (n-vs.size) undef,defers:=[]} w:=by
 have hlen:=a7.length Sd;simp only[Array.length_toList]at hlen
 let G:Ctx:={W0:=w,forb:=fun g=>g<w.heap.size∧¬ok g,mine:=fun _=>False}
 let a0:Act:={tmps:=vs++Array.replicate (n-vs.size) undef,defers:=[]}
 have Vh:∀g,ok g→aG G [] bg w g:=fun g hg=>⟨R6 g hg,fun hf=>hf.2 hg,fun b B hl=>by cases hl⟩;show ot G (iS args n) a0 w;refine⟨bg,{hd:=rfl,hn:=?_,env:=fun t=>?_,own:=fun b B hl=>(by cases hl),inj:=fun b B b' B' hl=>(by cases hl),os:=rfl,tape:=rfl,output:=rfl,size:=Nat.le_refl _,keep:=fun _ _ _=>rfl,wf:=fun k hk=>hk.1,home:=fun l hl=>(by cases hl),room:=fun _=>Nat.le_refl _}⟩
 ·simp[a0,iS];omega
 simp only[iS,nJ]
 split
 ·rename_i ht
  simp only[Nat.sub_zero,Nat.zero_add]at ht⊢;have hx:args[t]? =some (args.getD t .unk):=by
   rw[X7,X8 ht.2];rfl
  obtain⟨v,hv,hr⟩:=a7.get Sd t _ hx;have YT:a0.tmps.getD t undef=v:=by
   rw[Array.getElem?_toList]at hv;have RE:=(Array.getElem?_eq_some_iff.1 hv).1;simp only[a0,Array.getD_eq_getD_getElem?];rw[Array.getElem?_append_left RE,hv];rfl
  rw[YT];exact b6.v5 (dM.ext (Ext.dA Vh) ⟨fun b hb=>hb.elim,fun b hb=>hb.elim⟩ _ _ hr)
 trivial
theorem xz {P:Program}{T:fH}(hT:eJ P T)(hm:P.follows .mixedOrders=true){f:FuncId}{fn:Func}{c:Code}(hf:P.funcs[f]? =some fn)(hb:fn.body=some c)(hn:(fn.name== "runtime.NumGoroutine")=false)
  (args:List V) (RH:args.length≤fn.ntmps) (keep:Kp) (RY:codeOk keep c=true) (B:Bk) (hB:B.flat)
  (RET:Exit→St→Prop) (hret:∀e s,RET e s→(e= .normal∨e= .ret)∧∃t,fn.results.toList=[.tmp t]∧l7 s B (lk s.env t))
  (h:vc T P keep c (iS args fn.ntmps) RET):Fr P f args B:=by
 refine⟨⟨fn,hf,by rw[hb];rfl,hn⟩,hB,fun ok w vs R6 Sd=>?_⟩
 let G:Ctx:={W0:=w,forb:=fun g=>g<w.heap.size∧¬ok g,mine:=fun _=>False}
 have RL:=xg RH R6 Sd;refine calls_of_wp hf hb (wp_mono (mm hT hm keep c RY _ _ h G _ w RL) ?_);rintro e a w' ⟨s',hq,ρ,hs⟩;obtain⟨he,t,S3,Uh⟩:=hret _ _ hq;have SY:=results_tmp (P:=P) S3 a.tmps w';have S5:Go.RowKit.Below w.heap.size w w':=⟨hs.os,hs.tape,hs.output,hs.size,fun k hk=>hs.keep k hk (fun hf=>hf)⟩;obtain⟨l,h1,h2,h3,h4⟩:=ue hB hs Uh;have fin:a.defers=[]∧∃v,(results fn a.tmps).run P w'= .ok v w'∧∃u l,Ending.returned v= .returned u∧Go.RowKit.Below w.heap.size w w'∧l.len=B.len∧(∀g o,l.addr=some (g,o)→w.heap.size≤g∧g<w'.heap.size)∧
   aL bg bm (fun g=>ok g∨(w.heap.size≤g∧g<w'.heap.size∧∀o,l.addr≠some (g,o))) w' l B∧eE (fun _=>l) (fun _=>True) (fun _=>False) w' (.own 0 B.wd 0 B.len) u:=
  ⟨hs.hd,_,SY,_,l,rfl,S5,h1,h2,h3,h4⟩
 rcases he with rfl|rfl
 ·exact fin
 exact fin
theorem xp {P:Program}{T:fH}(hT:eJ P T)(hm:P.follows .mixedOrders=true){f:FuncId}{fn:Func}{c:Code}(hf:P.funcs[f]? =some fn)(hb:fn.body=some c)(hn:(fn.name== "runtime.NumGoroutine")=false)
  (args:List V) (RH:args.length≤fn.ntmps) (keep:Kp) (RY:codeOk keep c=true) (B:Bk) (c0:C) (hB:B.flat) (SU:me c0)
  (h:vc T P keep c (iS args fn.ntmps) (Gl fn.results.toList B c0)):dL P f args B c0:=by
 refine⟨SU,⟨fn,hf,by rw[hb];rfl,hn⟩,hB,fun ok w vs R6 Sd=>?_⟩
 let G:Ctx:={W0:=w,forb:=fun g=>g<w.heap.size∧¬ok g,mine:=fun _=>False}
 have RL:=xg RH R6 Sd;refine calls_of_wp hf hb (wp_mono (mm hT hm keep c RY _ _ h G _ w RL) ?_);rintro e a w' ⟨s',hq,ρ,hs⟩;obtain⟨he,t,u,S3,Uh,hu⟩:=Iu hq;have S5:Go.RowKit.Below w.heap.size w w':=⟨hs.os,hs.tape,hs.output,hs.size,fun k hk=>hs.keep k hk (fun hf=>hf)⟩;obtain⟨l,h1,h2,h3,h4⟩:=ue hB hs (Aw hB Uh);have SY:(results fn a.tmps).run P w'= .ok (.tuple #[a.tmps.getD t undef,a.tmps.getD u undef]) w':=by
  have:fn.results= #[.tmp t,.tmp u]:=Array.toList_inj.1 S3
  unfold results;rw[this]
  simp[Sem.run_bind,Sem.run_pure]
 have YN:aC bg bm (fun _=>False) w' c0 (a.tmps.getD u undef):=by
  have:=hs.env u
  rw[hu]at this
  cases c0<;>first|exact SU.elim|exact this
 have fin:a.defers=[]∧∃v,(results fn a.tmps).run P w'= .ok v w'∧∃x y l,Ending.returned v= .returned (.tuple #[x,y])∧Go.RowKit.Below w.heap.size w w'∧l.len=B.len∧(∀g o,l.addr=some (g,o)→w.heap.size≤g∧g<w'.heap.size)∧
   aL bg bm (fun g=>ok g∨(w.heap.size≤g∧g<w'.heap.size∧∀o,l.addr≠some (g,o))) w' l B∧eE (fun _=>l) (fun _=>True) (fun _=>False) w' (.own 0 B.wd 0 B.len) x∧aC bg bm (fun _=>False) w' c0 y:=
  ⟨hs.hd,_,SY,_,_,l,rfl,S5,h1,h2,h3,h4,YN⟩
 rcases he with rfl|rfl
 ·exact fin
 exact fin
def OK (rs:List ResultVar)(n:Nat)(g:Nat→Nat→C)(B:Bk)(c:Option C):Exit→St→Prop
 |.ret,s=>match rs,c with
  |[.tmp t,.tmp u],some c=>Fv s n g B (lk s.env t)∧lk s.env u= .one c
  |[.tmp t],none=>Fv s n g B (lk s.env t)
  |_,_=>False
 |.normal,s=>match rs,c with
  |[.tmp t,.tmp u],some c=>Fv s n g B (lk s.env t)∧lk s.env u= .one c
  |[.tmp t],none=>Fv s n g B (lk s.env t)
  |_,_=>False
 |_,_=>False
theorem HR {rs:List ResultVar}{n:Nat}{g:Nat→Nat→C}{B:Bk}{c:Option C}{e:Exit}{s:St}(h:OK rs n g B c e s):(e= .normal∨e= .ret)∧∃t,Fv s n g B (lk s.env t)∧((∃u c',c=some c'∧rs=[.tmp t,.tmp u]∧lk s.env u= .one c')∨(c=none∧rs=[.tmp t])):=by
 unfold OK at h
 split at h
 ·split at h
  ·exact⟨.inr rfl,_,h.1,.inl ⟨_,_,rfl,rfl,h.2⟩⟩
  ·exact⟨.inr rfl,_,h,.inr ⟨rfl,rfl⟩⟩
  exact h.elim
 ·split at h
  ·exact⟨.inl rfl,_,h.1,.inl ⟨_,_,rfl,rfl,h.2⟩⟩
  ·exact⟨.inl rfl,_,h,.inr ⟨rfl,rfl⟩⟩
  exact h.elim
 exact h.elim
theorem wL {P:Program}{T:fH}(hT:eJ P T)(hm:P.follows .mixedOrders=true){f:FuncId}{fn:Func}{c:Code}(hf:P.funcs[f]? =some fn)(hb:fn.body=some c)(hn:(fn.name== "runtime.NumGoroutine")=false)
  (args:List V) (RH:args.length≤fn.ntmps) (keep:Kp) (RY:codeOk keep c=true) (n:Nat) (g0:Nat→Nat→C) (B:Bk) (c0:Option C) (hB:B.flat) (SU:∀c',c0=some c'→me c')
  (h:vc T P keep c (iS args fn.ntmps) (OK fn.results.toList n g0 B c0)):ub P f args n g0 B c0:=by
 refine⟨SU,⟨fn,hf,by rw[hb];rfl,hn⟩,hB,fun ok w vs R6 Sd=>?_⟩
 let G:Ctx:={W0:=w,forb:=fun g=>g<w.heap.size∧¬ok g,mine:=fun _=>False}
 have RL:=xg RH R6 Sd;refine calls_of_wp hf hb (wp_mono (mm hT hm keep c RY _ _ h G _ w RL) ?_);rintro e a w' ⟨s',hq,ρ,hs⟩;obtain⟨he,t,Uh,S3⟩:=HR hq;have S5:Go.RowKit.Below w.heap.size w w':=⟨hs.os,hs.tape,hs.output,hs.size,fun k hk=>hs.keep k hk (fun hf=>hf)⟩;have RJ:=hs.env t;unfold Fv at Uh
 split at Uh
 rotate_left
 ·exact Uh.elim
 rename_i b b2 off len hx
 obtain⟨rfl,rfl,RT,h4,h5⟩:=Uh
 cases R2:lo s'.own b with
 |none=>rw[R2]at h4;exact h4.elim
 |some W=>
  cases Vj:lo s'.own b2 with
  |none=>rw[Vj]at h5;exact h5.elim
  |some B'=>
   rw[R2]at h4;rw[Vj]at h5;obtain⟨h6,h7⟩:=h4;obtain⟨h8,h9⟩:=h5;obtain⟨Vw,S7,Uc,hg1⟩:=hs.own b W R2;obtain⟨UR,RF,Vb,hg2⟩:=hs.own b2 B' Vj;have hfW:∃e3 b3 n3 g3,W.bk= .wins e3 b3 n3 g3∧n3=len∧∀i,i<len→MG b2 (g3 i) (fun b=>g0 b i):=by
    cases hW:W.bk with
    |wins e3 b3 n3 g3=>rw[hW]at h7;exact⟨e3,b3,n3,g3,rfl,h7.1,h7.2⟩
    |_=>rw[hW]at h7;exact h7.elim
   obtain⟨e3,b3,n3,g3,hW,rfl,Yf⟩:=hfW;obtain⟨u,SY,YN⟩:∃u,(results fn a.tmps).run P w'= .ok (yD c0 (a.tmps.getD t undef) u) w'∧∀c',c0=some c'→aC bg bm (fun _=>False) w' c' u:=by
    rcases S3 with⟨u,c',rfl,S3,hu⟩|⟨rfl,S3⟩
    ·refine⟨a.tmps.getD u undef,?_,fun c'' e=>?_⟩
     ·have:fn.results= #[.tmp t,.tmp u]:=Array.toList_inj.1 S3
      unfold results;rw[this]
      simp[Sem.run_bind,Sem.run_pure,yD]
     obtain rfl:=Option.some.inj e
     have:=hs.env u
     rw[hu]at this;have Wp:=SU c' rfl
     cases c'<;>first|exact Wp.elim|exact this
    refine⟨undef,?_,fun c'' e=>by cases e⟩
    have:fn.results= #[.tmp t]:=Array.toList_inj.1 S3
    unfold results;rw[this]
    simp[Sem.run_bind,Sem.run_pure,yD]
   rw[hx]at RJ;rw[hW]at Uc S7;have S7:(ρ b).len=n3:=S7;have hl2':(ρ b2).len=B.len:=by rw[RF];exact(zo h9).symm
   have YW:∀g,aG G s'.own ρ w' g→(ok g∨(w.heap.size≤g∧g<w'.heap.size∧∀o,(ρ b).addr≠some (g,o)∧(ρ b2).addr≠some (g,o))):=fun g hg=>by
    by_cases XC:g<w.heap.size
    ·by_cases TF:ok g
     ·exact .inl TF
     exact absurd ⟨XC,TF⟩ hg.2.1
    exact .inr ⟨by omega,hg.1,fun o=>⟨fun ha=>hg.2.2 b W R2 h6 o ha,fun ha=>hg.2.2 b2 B' Vj h8 o ha⟩⟩
   have Vu:aL bg bm (fun g=>ok g∨(w.heap.size≤g∧g<w'.heap.size∧∀o,(ρ b).addr≠some (g,o)∧(ρ b2).addr≠some (g,o))) w' (ρ b2) B:=by
    exact aL.gx (Bk.oz hB) YW (tJ (ok':=aG G s'.own ρ w') (Ext.refl _ _) h9 Vb)
   have new:∀c B,lo s'.own c=some B→∀g o,(ρ c).addr=some (g,o)→w.heap.size≤g∧g<w'.heap.size:=fun c B hc g o ha=>by
    obtain⟨k1,_,k2⟩:=(hs.own c B hc).2.2.2 g o ha
    rcases k2 with k2|k2
    ·exact⟨k2,k1⟩
    exact k2.elim
   have fin:a.defers=[]∧∃v,(results fn a.tmps).run P w'= .ok v w'∧∃x y l1 l2,Ending.returned v= .returned (yD c0 x y)∧Go.RowKit.Below w.heap.size w w'∧l1.len=n3∧l2.len=B.len∧
     (∀g o,l1.addr=some (g,o)→w.heap.size≤g∧g<w'.heap.size)∧(∀g o,l2.addr=some (g,o)→w.heap.size≤g∧g<w'.heap.size)∧(∀g o o',l1.addr=some (g,o)→l2.addr≠some (g,o'))∧
     aL bg bm (fun g=>ok g∨(w.heap.size≤g∧g<w'.heap.size∧∀o,l1.addr≠some (g,o)∧l2.addr≠some (g,o))) w' l2 B∧
     (∀(ρ:Nat→Loc) (dom ok':Nat→Prop) (b b2:Nat),ρ b=l1→ρ b2=l2→dom b→dom b2→(∀g,(ok g∨(w.heap.size≤g∧g<w'.heap.size∧∀o,l1.addr≠some (g,o)∧l2.addr≠some (g,o)))→ok' g)→
      aL ρ dom ok' w' l1 (.wins 0 b2 n3 (g0 b2))∧aC ρ dom ok' w' (.win b b2 0 n3) x)∧∀c',c0=some c'→aC bg bm (fun _=>False) w' c' y:=by
    refine⟨hs.hd,_,SY,_,_,ρ b,ρ b2,rfl,S5,S7,hl2',new b W R2,new b2 B' Vj,fun g o o' ha=>hs.inj b W b2 B' R2 Vj RT h6 g o o' ha,Vu,fun ρ' dom ok' c c2 e1 e2 d1 d2 hok2=>⟨?_,?_⟩,YN⟩
    ·unfold aL at Uc⊢
     cases ha:(ρ b).addr with
     |none=>
      rw[ha]at Uc;intro j
      have:=Uc j
      simp only[Bk.cell]at this⊢
      split at this
      ·cases this
      rename_i hj;rw[if_neg hj]
     |some x=>
      obtain⟨g,o⟩:=x;rw[ha]at Uc;obtain⟨cur,e4,hg4,WD⟩:=Uc;refine⟨cur,e4,hg4,fun j cc hj=>?_⟩;simp only[Bk.cell]at hj WD
      split at hj
      ·rename_i Sf
       obtain⟨uu,Wn,SN⟩:=WD j (g3 j) (if_pos Sf);refine⟨uu,Wn,?_⟩;obtain rfl:=Option.some.inj hj
       rcases Yf j Sf with⟨wd,o1,l1,k0,k1⟩|⟨k0,k1⟩
       ·rw[k0]at SN;obtain⟨_,k2⟩:=SN;show aC ρ' dom ok' w' (g0 c2 j) uu;rw[show g0 c2 j=_ from k1 c2];exact⟨d2,by rw[e2];exact k2⟩
       show aC ρ' dom ok' w' (g0 c2 j) uu;rw[show g0 c2 j=_ from k1 c2];exact aC.bh (aP.ext (Ext.dA fun g hg=>hok2 g (YW g hg)) _ _ (sV k0 SN))
      cases hj
    obtain⟨_,_,k2⟩:=RJ;exact⟨d2,d1,by rw[e1];exact k2⟩
   rcases he with rfl|rfl
   ·exact fin
   exact fin
theorem Az {P:Program}{T:fH}(hT:eJ P T)(hm:P.follows .mixedOrders=true){f:FuncId}{fn:Func}{c:Code}(hf:P.funcs[f]? =some fn)(hb:fn.body=some c)(hn:(fn.name== "runtime.NumGoroutine")=false)
  (args:List V) (RH:args.length≤fn.ntmps) (keep:Kp) (RY:codeOk keep c=true) (B:Bk) (hB:B.flat)
  (h:vc T P keep c (iS args fn.ntmps) (IW fn.results.toList B)):Fr P f args B:=
 xz hT hm hf hb hn args RH keep RY B hB _ (fun _ _ hr=>by obtain⟨h1,t,h2,h3⟩:=Hz hr;exact⟨h1,t,h2,Aw hB h3⟩) h
def Cb (s:St):List ResultVar→Option V
 |[]=>some (.aB [])
 |[.tmp t]=>some (I3 0 s.own s.nx (lk s.env t))
 |[.tmp t,.tmp u]=>some (.aB [I3 0 s.own s.nx (lk s.env t),I3 0 s.own s.nx (lk s.env u)])
 |_=>none
def Hf (rs:List ResultVar)(R:V→Bk→Prop):Exit→St→Prop
 |.ret,s=>bX (lo s.own 0) fun B'=>B'.rw=true∧B'.bk.plain∧bX (Cb s rs) fun r=>R r B'.bk
 |.normal,s=>bX (lo s.own 0) fun B'=>B'.rw=true∧B'.bk.plain∧bX (Cb s rs) fun r=>R r B'.bk
 |_,_=>False
def iM (args:List V)(B:Bk)(n:Nat):St:={env:=eO 0 args,own:=[(0,⟨B,true⟩)],nx:=1,n:=n}
theorem I5 {rs:List ResultVar}{R:V→Bk→Prop}{e:Exit}{s:St}(h:Hf rs R e s):(e= .normal∨e= .ret)∧∃B' r,lo s.own 0=some B'∧B'.rw=true∧B'.bk.plain∧Cb s rs=some r∧R r B'.bk:=by
 have key:(bX (lo s.own 0) fun B'=>B'.rw=true∧B'.bk.plain∧bX (Cb s rs) fun r=>R r B'.bk)→∃B' r,lo s.own 0=some B'∧B'.rw=true∧B'.bk.plain∧Cb s rs=some r∧R r B'.bk:=by
  intro h;unfold bX at h
  split at h
  ·rename_i B' hB
   obtain⟨h1,h2,h3⟩:=h
   split at h3
   ·rename_i r hr;exact⟨B',r,hB,h1,h2,hr,h3⟩
   exact h3.elim
  exact h.elim
 unfold Hf at h
 split at h
 ·exact⟨.inr rfl,key h⟩
 ·exact⟨.inl rfl,key h⟩
 exact h.elim
theorem E5 {P:Program}{T:fH}(hT:eJ P T)(hm:P.follows .mixedOrders=true){f:FuncId}{fn:Func}{c:Code}(hf:P.funcs[f]? =some fn)(hb:fn.body=some c)(hn:(fn.name== "runtime.NumGoroutine")=false)
  (args:List V) (RH:args.length≤fn.ntmps) (keep:Kp) (RY:codeOk keep c=true) (B:Bk) (hBp:B.plain) (R:V→Bk→Prop)
  (h:vc T P keep c (iM args B fn.ntmps) (Hf fn.results.toList R)):Mc P f args B R:=by
 refine⟨⟨fn,hf,by rw[hb];rfl,hn⟩,fun ok w vs l R6 Ww Wy Vu Sd=>?_⟩;have hlen:=a7.length Sd;simp only[Array.length_toList]at hlen
 let G:Ctx:={W0:=w,forb:=fun g=>g<w.heap.size∧¬ok g∧∀o,l.addr≠some (g,o),mine:=fun g=>∃o,l.addr=some (g,o),home:=some l}
 let a0:Act:={tmps:=vs++Array.replicate (fn.ntmps-vs.size) undef,defers:=[]}
 have Vh:∀g,ok g→aG G [(0,⟨B,true⟩)] (fun _=>l) w g:=fun g hg=>⟨R6 g hg,fun hf=>hf.2.1 hg,fun b B2 hl RX o ha=>(Wy g o ha).2 hg⟩;have RL:ot G (iM args B fn.ntmps) a0 w:=by
  refine⟨fun _=>l,{hd:=rfl,hn:=?_,env:=fun t=>?_,own:=fun b B2 hl=>?_,inj:=fun b B1 b' B' hl SE RT=>?_,os:=rfl,tape:=rfl,output:=rfl,size:=Nat.le_refl _,keep:=fun _ _ _=>rfl,wf:=fun k hk=>hk.1,home:=fun l' hl=>?_,room:=fun _=>Nat.le_refl _}⟩
  ·simp[a0,iM];omega
  ·simp only[iM,nJ]
   split
   ·rename_i ht
    simp only[Nat.sub_zero,Nat.zero_add]at ht⊢;have hx:args[t]? =some (args.getD t .unk):=by
     rw[X7,X8 ht.2];rfl
    obtain⟨v,hv,hr⟩:=a7.get Sd t _ hx;have YT:a0.tmps.getD t undef=v:=by
     rw[Array.getElem?_toList]at hv;have RE:=(Array.getElem?_eq_some_iff.1 hv).1;simp only[a0,Array.getD_eq_getD_getElem?];rw[Array.getElem?_append_left RE,hv];rfl
    rw[YT];exact b6.v5 (dM.ext (Ext.dA Vh) ⟨fun b hb=>by omega,fun b hb=>rfl⟩ _ _ hr)
   trivial
  ·simp only[iM,lo]at hl
   split at hl
   ·rename_i XG
    subst XG;obtain rfl:=Option.some.inj hl;refine⟨by simp[iM],Ww,Vu.gx hBp Vh,fun g o ha=>⟨(Wy g o ha).1,fun hf=>hf.2.2 o ha,.inr ⟨o,ha⟩⟩⟩
   cases hl
  ·simp only[iM,lo]at hl SE
   split at hl
   ·split at SE
    ·rename_i h1 h2;exact absurd (h1.trans h2.symm) RT
    cases SE
   cases hl
  exact⟨by simp[iM],(Option.some.inj hl)⟩
 refine calls_of_wp hf hb (wp_mono (mm hT hm keep c RY _ _ h G _ w RL) ?_);rintro e a w' ⟨s',hq,ρ,hs⟩;obtain⟨he,B',r,R2,RX,TS,SY,hR⟩:=I5 hq;obtain⟨ZU,hρ0⟩:=hs.home l rfl;obtain⟨_,hlB',Wz,hgB'⟩:=hs.own 0 B' R2;have hmb:yf l w w':=⟨hs.os,hs.tape,hs.output,hs.size,fun k hk Yd=>hs.keep k hk (fun hf=>by obtain⟨o,ho⟩:=hf;exact Yd o ho),hs.room⟩;have RO:∀g,g<w'.heap.size→¬G.forb g→(∀o,l.addr≠some (g,o))→FJ ok w w' g:=fun g h1 h2 h3=>by
  by_cases XC:g<w.heap.size
  ·by_cases TF:ok g
   ·exact .inl TF
   exact absurd ⟨XC,TF,h3⟩ h2
  exact .inr ⟨by omega,h1⟩
 have YX:∀ids,0∉ids→∀g,cS G s'.own ρ w' ids g→FJ ok w w' g:=by
  rintro ids SV g (h1|⟨b1,Uq,B1,o',S7,Sj⟩)
  ·exact RO g h1.1 h1.2.1 fun o ha=>h1.2.2 0 B' R2 RX o (by rw[hρ0];exact ha)
  obtain⟨_,_,_,h4⟩:=hs.own b1 B1 S7;obtain⟨h5,h6,_⟩:=h4 g o' Sj;exact RO g h5 h6 fun o ha=>hs.inj 0 B' b1 B1 R2 S7 (fun e=>SV (e▸Uq)) RX g o o' (by rw[hρ0];exact ha) Sj
 have Vf:∃v,(results fn a.tmps).run P w'= .ok v w'∧b6 (fun _=>l) (fun b=>b=0) (FJ ok w w') w' r v:=by
  have hmu:∀t,dM (fun _=>l) (fun b=>b=0) (FJ ok w w') w' (I3 0 s'.own s'.nx (lk s'.env t)) (a.tmps.getD t undef):=by
   intro t;have h1:=vC hs 0 ((kv (lk s'.env t)).filter (fun b=>b !=0)) (lk s'.env t) _ (fun b hb RT=>List.mem_filter.2 ⟨hb,by simpa using RT⟩) (hs.env t);rw[hρ0]at h1;exact dM.ext (Ext.dA (YX _ (by simp))) ⟨fun _ h=>h,fun _ _=>rfl⟩ _ _ h1
  unfold Cb at SY
  split at SY
  ·rename_i S3
   obtain rfl:=Option.some.inj SY
   have:fn.results= #[]:=Array.toList_inj.1 S3
   refine⟨.tuple #[],?_,#[],rfl,trivial⟩;unfold results;rw[this]
   simp[Sem.run_bind,Sem.run_pure]
  ·rename_i t S3
   obtain rfl:=Option.some.inj SY;exact⟨_,results_tmp S3 a.tmps w',b6.v5 (hmu t)⟩
  ·rename_i t u S3
   obtain rfl:=Option.some.inj SY
   have:fn.results= #[.tmp t,.tmp u]:=Array.toList_inj.1 S3
   refine⟨.tuple #[a.tmps.getD t undef,a.tmps.getD u undef],?_,_,rfl,hmu t,hmu u,trivial⟩;unfold results;rw[this]
   simp[Sem.run_bind,Sem.run_pure]
  cases SY
 obtain⟨v,RK,RQ⟩:=Vf;have hfinal:aL bg bm (FJ ok w w') w' l B'.bk:=by
  rw[hρ0]at Wz;exact Wz.gx TS fun g hg=>YX [] (by simp) g (.inl hg)
 have hB'len:B'.bk.len=B.len:=by rw[←hlB',hρ0,Ww]
 have fin:a.defers=[]∧∃v,(results fn a.tmps).run P w'= .ok v w'∧∃u r B2,Ending.returned v= .returned u∧R r B2∧B2.plain∧B2.len=B.len∧yf l w w'∧aL bg bm (FJ ok w w') w' l B2∧b6 (fun _=>l) (fun b=>b=0) (FJ ok w w') w' r u:=
  ⟨hs.hd,v,RK,v,r,B'.bk,rfl,hR,TS,hB'len,hmb,hfinal,RQ⟩
 rcases he with rfl|rfl
 ·exact fin
 exact fin
set_option linter.defProp false in
def QP:=And.intro @List.contains_cons.{0} (And.intro @List.contains_nil.{0} (And.intro @beq_self_eq_true.{0} (And.intro @bne_self_eq_false.{0} (And.intro @bne_iff_ne.{0} (And.intro @List.take_length.{0} (And.intro @List.toList_toArray.{0} (And.intro @List.map_nil.{0,0} (And.intro @List.map_cons.{0,0} (And.intro @List.flatten_nil.{0} (And.intro @List.flatten_cons.{0} (And.intro @List.filter_nil.{0} (And.intro @List.filter_cons.{0} (And.intro @List.nil_append.{0} (And.intro @List.cons_append.{0} (And.intro @List.append_nil.{0} (And.intro @List.any_nil.{0} (And.intro @List.any_cons.{0} (And.intro @List.all_nil.{0} (And.intro @List.all_cons.{0} (And.intro @List.take_zero.{0} (And.intro @List.take_succ_cons.{0} (And.intro @List.take_nil.{0} (And.intro @List.drop_zero.{0} (And.intro @List.drop_succ_cons.{0} (And.intro @List.drop_nil.{0} (And.intro @List.getElem?_cons_zero.{0} (And.intro @List.getElem?_cons_succ.{0} (And.intro @List.getD_cons_zero.{0} (And.intro @List.getD_cons_succ.{0} (And.intro @List.length_cons.{0} (And.intro @List.length_nil.{0} (And.intro @List.flatMap_cons.{0,0} (And.intro @List.flatMap_nil.{0,0} (And.intro @Option.map_some.{0,0} (And.intro @Option.map_none.{0,0} (And.intro @eq_self.{1} (And.intro @Bool.false_eq_true (And.intro @Int.toNat_natCast (And.intro @decide_eq_true_eq (And.intro @decide_eq_false_iff_not (And.intro @ne_eq.{1} (And.intro @not_true_eq_false (And.intro @not_false_eq_true (And.intro @Classical.not_not (And.intro @LM (And.intro @KD (And.intro @Bool.true_eq_false (And.intro @Int.sub_zero (And.intro @Int.zero_add (@Int.add_zero))))))))))))))))))))))))))))))))))))))))))))))))))
set_option linter.defProp false in
def Rg:=And.intro @Gl.eq_def (And.intro @IW.eq_def (And.intro @kQ.eq_def (And.intro @Qs.eq_def (And.intro @l7.eq_def (And.intro @Fh.eq_def (And.intro @Hf.eq_def (@Cb.eq_def)))))))
set_option linter.defProp false in
def Rk:=And.intro @Option.some.injEq.{0} (And.intro @List.not_mem_nil.{0} (And.intro @false_imp_iff (And.intro @List.forall_mem_cons.{0} (And.intro @implies_true.{1} (@implies_true.{0})))))
end Go.Eng
namespace Go.Eng
open Go
theorem yR {w w':World}{ok:Nat→Prop}{l:Loc}{B:Bk}{v:Value}(hf:B.flat)(Sx:∀g o,l.addr=some (g,o)→w.heap.size≤g∧g<w'.heap.size)
  (hl:l.len=B.len) (RG:aL bg bm (fun g=>ok g∨(w.heap.size≤g∧g<w'.heap.size∧∀o,l.addr≠some (g,o))) w' l B) (RQ:eE (fun _=>l) (fun _=>True) (fun _=>False) w' (.own 0 B.wd 0 B.len) v):
  aC bg bm (fun g=>ok g∨(w.heap.size≤g∧g<w'.heap.size)) w' (ga B B.wd 0 B.len) v:=by
 obtain⟨_,hle,cap,R8,hv⟩:=RQ;have VG:aL bg bm (fun g=>ok g∨(w.heap.size≤g∧g<w'.heap.size)) w' l B:=RG.gx (Bk.oz hf) fun g hg=>by
  rcases hg with hg|⟨h1,h2,_⟩
  ·exact .inl hg
  exact .inr ⟨h1,h2⟩
 refine aC.bh ?_
 rcases hv with⟨g,o,o',ha,rfl,ho,_⟩|⟨_,rfl,h0,_⟩
 ·exact lq ha VG (.inr (Sx g o ha)) hl hle R8 ho
 cases B with
 |var cs=>exact hf.elim
 |wins e b2 n g=>exact hf.elim
 |ints e k xs=>
  simp only[Bk.len]at h0;simp only[ga,Bk.wd,if_true,Bk.len];exact⟨none,0,by simp[h0],by simp[h0],.inl (by simp[h0])⟩
 |rows e w n f=>
  simp only[Bk.len]at h0;subst h0;simp only[ga,Bk.wd,if_true,Bk.len];exact⟨none,0,rfl,Nat.le_refl _,.inl rfl⟩
theorem Fr.view {P:Program}{f:FuncId}{args:List V}{B:Bk}(h:Fr P f args B):Pr P f args (.one (ga B B.wd 0 B.len)):=by
 obtain⟨hc,hf,h⟩:=h;refine⟨hc,fun ok w vs R6 Sd=>Calls.mono (h ok w vs R6 Sd) fun e w' he=>?_⟩;obtain⟨v,l,rfl,hb,hl,Sx,RG,RQ⟩:=he;exact⟨v,rfl,hb,yR hf Sx hl RG RQ⟩
theorem Fr.ints {P:Program}{f:FuncId}{args:List V}{e:TypeId}{k:IntKind}{xs:List Int}(h:Fr P f args (.ints e k xs)):Pr P f args (.one (.ints k xs)):=by
 have h1:=h.view;simp only[ga,Bk.wd,Bk.len,if_true,List.drop_zero,List.take_length]at h1;exact h1
theorem Fr.rows {P:Program}{f:FuncId}{args:List V}{e:TypeId}{w n:Nat}{g:Nat→Nat→C}(h:Fr P f args (.rows e w n g)):Pr P f args (.one (.rows w n g)):=by
 have h1:=h.view;simp only[ga,Bk.wd,Bk.len,if_true,Nat.zero_add]at h1;exact h1
end Go.Eng
namespace Go.Eng
open Go
def ua (x y:V):Prop:=∀ok w v,dM bg bm ok w x v→dM bg bm ok w y v
theorem ua.refl (x:V):ua x x:=fun _ _ _ h=>h
theorem ua.On {x y:C}(h:fB (.one x) (.one y)):ua (.one x) (.one y):=fun ok w v hr=>h ok w v hr
def xr:List V→List V→Prop
 |[],[]=>True
 |x::xs,y::ys=>ua x y∧xr xs ys
 |_,_=>False
theorem xr.rep {ok:Nat→Prop}{w:World}:∀{xs ys:List V} {vs:List Value},xr xs ys→a7 bg bm ok w xs vs→a7 bg bm ok w ys vs
 |[],[],_,_,h=>h
 |x::xs,y::ys,[],_,h=>h.elim
 |x::xs,y::ys,v::vs,ha,h=>⟨ha.1 ok w v h.1,xr.rep ha.2 h.2⟩
 |[],_::_,_,ha,_=>ha.elim
 |_::_,[],_,ha,_=>ha.elim
theorem Pr.args {P:Program}{f:FuncId}{xs ys:List V}{r:V}(h:Pr P f ys r)(ha:xr xs ys):Pr P f xs r:=
 ⟨h.1,fun ok w vs R6 Sd=>h.2 ok w vs R6 (ha.rep Sd)⟩
theorem Pr.A3 {P:Program}{f:FuncId}{x y:C}{r:V}(h:Pr P f [.one y] r)(ha:fB (.one x) (.one y)):Pr P f [.one x] r:=
 h.args ⟨.On ha,trivial⟩
def dB (c c':C):Prop:=∀ok w v,aP ok w c v→aP ok w c' v
theorem dB.refl (c:C):dB c c:=fun _ _ _ h=>h
theorem dB.of_eq {c c':C}(h:c=c'):dB c c':=h▸dB.refl c
theorem dB.zl (k:IntKind):dB .nil (.ints k []):=fun ok w v h=>⟨none,0,h,Nat.le_refl _,.inl rfl⟩
theorem dB.pN (wd:Nat)(f:Nat→Nat→C):dB .nil (.rows wd 0 f):=fun ok w v h=>⟨none,0,h,Nat.le_refl _,.inl rfl⟩
theorem dB.rows {wd n n':Nat}{f g:Nat→Nat→C}(hn:n=n')(h:∀i j,i<n→j<wd→dB (f i j) (g i j)):dB (.rows wd n f) (.rows wd n' g):=by
 subst hn;rintro ok w v ⟨a,cap,hv,hle,hr⟩;refine⟨a,cap,hv,hle,?_⟩
 rcases hr with hr|⟨b,o,ha,hg,Sc⟩
 ·exact .inl hr
 refine .inr ⟨b,o,ha,hg,fun i j hi hj=>?_⟩;obtain⟨u,hu,hr⟩:=Sc i j hi hj;exact⟨u,hu,h i j hi hj ok w u hr⟩
theorem ua.cell {c c':C}(h:dB c c'):ua (.one c) (.one c'):=fun ok w v hr=>aC.bh (h ok w v (aP.dZ hr))
theorem Pr.L9 {P:Program}{f:FuncId}{x y:C}{r:V}(h:Pr P f [.one y] r)(ha:dB x y):Pr P f [.one x] r:=
 h.args ⟨.cell ha,trivial⟩
theorem Pr.tz {P:Program}{f:FuncId}{x y x' y':C}{r:V}(h:Pr P f [.one y,.one y'] r)(ha:dB x y)(Sj:dB x' y'):Pr P f [.one x,.one x'] r:=
 h.args ⟨.cell ha,.cell Sj,trivial⟩
theorem Pr.res {P:Program}{f:FuncId}{xs:List V}{r r':V}(h:Pr P f xs r)(hr:fB r r'):Pr P f xs r':=
 ⟨h.1,fun ok w vs R6 Sd=>Calls.mono (h.2 ok w vs R6 Sd) fun _ _ ⟨v,he,hb,hv⟩=>⟨v,he,hb,hr _ _ _ hv⟩⟩
open Go
theorem dL.rows {P:Program}{f:FuncId}{args:List V}{e:TypeId}{w n:Nat}{g:Nat→Nat→C}{c:C}(h:dL P f args (.rows e w n g) c):Pr P f args (.aB [.one (.rows w n g),.one c]):=by
 obtain⟨hs,hc,hf,h⟩:=h;refine⟨hc,fun ok w vs R6 Sd=>Calls.mono (h ok w vs R6 Sd) fun e w' he=>?_⟩;obtain⟨v,u,l,rfl,hb,hl,Sx,RG,RQ,hu⟩:=he;have h1:=yR hf Sx hl RG RQ;simp only[ga,Bk.wd,Bk.len,if_true,Nat.zero_add]at h1;refine⟨_,rfl,hb,_,rfl,h1,?_,trivial⟩
 cases c<;>first|exact hs.elim|exact hu
theorem dL.args {P:Program}{f:FuncId}{xs ys:List V}{B:Bk}{c:C}(h:dL P f ys B c)(ha:xr xs ys):dL P f xs B c:=
 ⟨h.1,h.2.1,h.2.2.1,fun ok w vs R6 Sd=>h.2.2.2 ok w vs R6 (ha.rep Sd)⟩
end Go.Eng
namespace Go.Proofs.YtchkplkghknabaaGreat
open Go.Proofs.Tryz
open Go Go.Eng
def T:Nat→Option Ty
 |2=>some ⟨.int .i64,1,8,[.int .i64 0],[]⟩
 |3=>some ⟨.int .i64,1,8,[.int .i64 0],[]⟩
 |4=>some ⟨.bool,1,1,[.bool false],[]⟩
 |5=>some ⟨.int .u8,1,1,[.int .u8 0],[]⟩
 |9=>some ⟨.str,1,16,[.str ⟨#[]⟩],[]⟩
 |22=>some ⟨.sl 98,1,24,[.nil],[]⟩
 |23=>some ⟨.sl 98,1,24,[.nil],[]⟩
 |24=>some ⟨.sl 5,1,24,[.nil],[]⟩
 |25=>some ⟨.st [(0,1),(1,1),(2,1)],3,56,[.nil,.nil,.int .u8 0],[true,true,true]⟩
 |26=>some ⟨.st [(0,1),(1,1),(2,1)],3,56,[.nil,.nil,.int .u8 0],[true,true,true]⟩
 |28=>some ⟨.sl 32,1,24,[.nil],[]⟩
 |32=>some ⟨.sl 37,1,24,[.nil],[]⟩
 |34=>some ⟨.sl 35,1,24,[.nil],[]⟩
 |35=>some ⟨.sl 62,1,24,[.nil],[]⟩
 |36=>some ⟨.st [(0,1),(1,1)],2,48,[.nil,.nil],[true,true]⟩
 |37=>some ⟨.st [(0,1),(1,1)],2,48,[.nil,.nil],[true,true]⟩
 |39=>some ⟨.int .i64,1,8,[.int .i64 0],[]⟩
 |48=>some ⟨.sl 3,1,24,[.nil],[]⟩
 |58=>some ⟨.sl 147,1,24,[.nil],[]⟩
 |59=>some ⟨.st [(0,1),(1,1)],2,32,[.bool false,.nil],[true,true]⟩
 |60=>some ⟨.st [(0,1),(1,1)],2,32,[.bool false,.nil],[true,true]⟩
 |61=>some ⟨.st [(0,2),(2,2)],4,64,[.bool false,.nil,.bool false,.nil],[false,false]⟩
 |62=>some ⟨.st [(0,2),(2,2)],4,64,[.bool false,.nil,.bool false,.nil],[false,false]⟩
 |75=>some ⟨.st [(0,1),(1,1),(2,2)],4,96,[.nil,.nil,.nil,.nil],[true,true,false]⟩
 |76=>some ⟨.st [(0,1),(1,1),(2,2)],4,96,[.nil,.nil,.nil,.nil],[true,true,false]⟩
 |86=>some ⟨.sl 2,1,24,[.nil],[]⟩
 |96=>some ⟨.int .i8,1,1,[.int .i8 0],[]⟩
 |97=>some ⟨.st [(0,1),(1,1),(2,1),(3,1),(4,1)],5,5,[.int .u8 0,.int .u8 0,.int .u8 0,.int .i8 0,.int .u8 0],[true,true,true,true,true]⟩
 |98=>some ⟨.st [(0,1),(1,1),(2,1),(3,1),(4,1)],5,5,[.int .u8 0,.int .u8 0,.int .u8 0,.int .i8 0,.int .u8 0],[true,true,true,true,true]⟩
 |104=>some ⟨.st [(0,1)],1,8,[.int .i64 0],[true]⟩
 |105=>some ⟨.st [(0,1)],1,8,[.int .i64 0],[true]⟩
 |124=>some ⟨.int .u64,1,8,[.int .u64 0],[]⟩
 |147=>some ⟨.int .u32,1,4,[.int .u32 0],[]⟩
 |148=>some ⟨.int .u64,1,8,[.int .u64 0],[]⟩
 |154=>some ⟨.st [(0,1),(1,1)],2,48,[.nil,.nil],[true,true]⟩
 |155=>some ⟨.st [(0,1),(1,1)],2,48,[.nil,.nil],[true,true]⟩
 |_=>none
theorem T2:dV prog 2=some ⟨.int .i64,1,8,[.int .i64 0],[]⟩:=by kernel_rfl
theorem T3:dV prog 3=some ⟨.int .i64,1,8,[.int .i64 0],[]⟩:=by kernel_rfl
theorem T4:dV prog 4=some ⟨.bool,1,1,[.bool false],[]⟩:=by kernel_rfl
theorem T5:dV prog 5=some ⟨.int .u8,1,1,[.int .u8 0],[]⟩:=by kernel_rfl
theorem T9:dV prog 9=some ⟨.str,1,16,[.str ⟨#[]⟩],[]⟩:=by kernel_rfl
theorem RC:dV prog 22=some ⟨.sl 98,1,24,[.nil],[]⟩:=by kernel_rfl
theorem QZ:dV prog 23=some ⟨.sl 98,1,24,[.nil],[]⟩:=by kernel_rfl
theorem Rt:dV prog 24=some ⟨.sl 5,1,24,[.nil],[]⟩:=by kernel_rfl
theorem Rh:dV prog 25=some ⟨.st [(0,1),(1,1),(2,1)],3,56,[.nil,.nil,.int .u8 0],[true,true,true]⟩:=by kernel_rfl
theorem Rn:dV prog 26=some ⟨.st [(0,1),(1,1),(2,1)],3,56,[.nil,.nil,.int .u8 0],[true,true,true]⟩:=by kernel_rfl
theorem Q0:dV prog 28=some ⟨.sl 32,1,24,[.nil],[]⟩:=by kernel_rfl
theorem Ri:dV prog 32=some ⟨.sl 37,1,24,[.nil],[]⟩:=by kernel_rfl
theorem Rz:dV prog 34=some ⟨.sl 35,1,24,[.nil],[]⟩:=by kernel_rfl
theorem Rm:dV prog 35=some ⟨.sl 62,1,24,[.nil],[]⟩:=by kernel_rfl
theorem Q9:dV prog 36=some ⟨.st [(0,1),(1,1)],2,48,[.nil,.nil],[true,true]⟩:=by kernel_rfl
theorem Q1:dV prog 37=some ⟨.st [(0,1),(1,1)],2,48,[.nil,.nil],[true,true]⟩:=by kernel_rfl
theorem Q4:dV prog 39=some ⟨.int .i64,1,8,[.int .i64 0],[]⟩:=by kernel_rfl
theorem Ry:dV prog 48=some ⟨.sl 3,1,24,[.nil],[]⟩:=by kernel_rfl
theorem Rw:dV prog 58=some ⟨.sl 147,1,24,[.nil],[]⟩:=by kernel_rfl
theorem Q5:dV prog 59=some ⟨.st [(0,1),(1,1)],2,32,[.bool false,.nil],[true,true]⟩:=by kernel_rfl
theorem Rq:dV prog 60=some ⟨.st [(0,1),(1,1)],2,32,[.bool false,.nil],[true,true]⟩:=by kernel_rfl
theorem Rr:dV prog 61=some ⟨.st [(0,2),(2,2)],4,64,[.bool false,.nil,.bool false,.nil],[false,false]⟩:=by kernel_rfl
theorem Ro:dV prog 62=some ⟨.st [(0,2),(2,2)],4,64,[.bool false,.nil,.bool false,.nil],[false,false]⟩:=by kernel_rfl
theorem Rv:dV prog 75=some ⟨.st [(0,1),(1,1),(2,2)],4,96,[.nil,.nil,.nil,.nil],[true,true,false]⟩:=by kernel_rfl
theorem Rj:dV prog 76=some ⟨.st [(0,1),(1,1),(2,2)],4,96,[.nil,.nil,.nil,.nil],[true,true,false]⟩:=by kernel_rfl
theorem Q2:dV prog 86=some ⟨.sl 2,1,24,[.nil],[]⟩:=by kernel_rfl
theorem Rx:dV prog 96=some ⟨.int .i8,1,1,[.int .i8 0],[]⟩:=by kernel_rfl
theorem Rb:dV prog 97=some ⟨.st [(0,1),(1,1),(2,1),(3,1),(4,1)],5,5,[.int .u8 0,.int .u8 0,.int .u8 0,.int .i8 0,.int .u8 0],[true,true,true,true,true]⟩:=by kernel_rfl
theorem RB:dV prog 98=some ⟨.st [(0,1),(1,1),(2,1),(3,1),(4,1)],5,5,[.int .u8 0,.int .u8 0,.int .u8 0,.int .i8 0,.int .u8 0],[true,true,true,true,true]⟩:=by kernel_rfl
theorem Qe:dV prog 104=some ⟨.st [(0,1)],1,8,[.int .i64 0],[true]⟩:=by kernel_rfl
theorem Ql:dV prog 105=some ⟨.st [(0,1)],1,8,[.int .i64 0],[true]⟩:=by kernel_rfl
theorem QL:dV prog 124=some ⟨.int .u64,1,8,[.int .u64 0],[]⟩:=by kernel_rfl
theorem Qw:dV prog 147=some ⟨.int .u32,1,4,[.int .u32 0],[]⟩:=by kernel_rfl
theorem Qh:dV prog 148=some ⟨.int .u64,1,8,[.int .u64 0],[]⟩:=by kernel_rfl
theorem Qx:dV prog 154=some ⟨.st [(0,1),(1,1)],2,48,[.nil,.nil],[true,true]⟩:=by kernel_rfl
theorem Qi:dV prog 155=some ⟨.st [(0,1),(1,1)],2,48,[.nil,.nil],[true,true]⟩:=by kernel_rfl
theorem Bz:eJ prog T:=by
 intro t X h;unfold T at h
 split at h
 ·cases h;exact T2
 ·cases h;exact T3
 ·cases h;exact T4
 ·cases h;exact T5
 ·cases h;exact T9
 ·cases h;exact RC
 ·cases h;exact QZ
 ·cases h;exact Rt
 ·cases h;exact Rh
 ·cases h;exact Rn
 ·cases h;exact Q0
 ·cases h;exact Ri
 ·cases h;exact Rz
 ·cases h;exact Rm
 ·cases h;exact Q9
 ·cases h;exact Q1
 ·cases h;exact Q4
 ·cases h;exact Ry
 ·cases h;exact Rw
 ·cases h;exact Q5
 ·cases h;exact Rq
 ·cases h;exact Rr
 ·cases h;exact Ro
 ·cases h;exact Rv
 ·cases h;exact Rj
 ·cases h;exact Q2
 ·cases h;exact Rx
 ·cases h;exact Rb
 ·cases h;exact RB
 ·cases h;exact Qe
 ·cases h;exact Ql
 ·cases h;exact QL
 ·cases h;exact Qw
 ·cases h;exact Qh
 ·cases h;exact Qx
 ·cases h;exact Qi
 cases h
theorem mixed:prog.follows .mixedOrders=true:=by kernel_rfl
theorem pw {f:FuncId}{fn:Func}(hf:prog.funcs[f]? =some fn)(k:Kp){args:List V}{r:V}(h:vc T prog k (Option.get! fn.body) (iS args fn.ntmps) (K8 T fn.results.toList (fun x=>fB x r)))(hb:fn.body=some (Option.get! fn.body):=by rfl)(hn:(fn.name== "runtime.NumGoroutine")=false:=by decide)(ha:args.length≤fn.ntmps:=by exact Nat.le_of_ble_eq_true rfl)(hk:codeOk k (Option.get! fn.body)=true:=by kernel_rfl):Pr prog f args r:=pv Bz mixed hf hb hn args ha k hk r h
theorem fw {f:FuncId}{fn:Func}(hf:prog.funcs[f]? =some fn)(k:Kp){args:List V}{B:Bk}(h:vc T prog k (Option.get! fn.body) (iS args fn.ntmps) (IW fn.results.toList B))(hb:fn.body=some (Option.get! fn.body):=by rfl)(hn:(fn.name== "runtime.NumGoroutine")=false:=by decide)(ha:args.length≤fn.ntmps:=by exact Nat.le_of_ble_eq_true rfl)(hk:codeOk k (Option.get! fn.body)=true:=by kernel_rfl)(hB:B.flat:=by exact trivial):Fr prog f args B:=Az Bz mixed hf hb hn args ha k hk B hB h
theorem tw {f:FuncId}{fn:Func}(hf:prog.funcs[f]? =some fn)(k:Kp){args:List V}{B:Bk}{c:C}(h:vc T prog k (Option.get! fn.body) (iS args fn.ntmps) (Gl fn.results.toList B c))(hb:fn.body=some (Option.get! fn.body):=by rfl)(hn:(fn.name== "runtime.NumGoroutine")=false:=by decide)(ha:args.length≤fn.ntmps:=by exact Nat.le_of_ble_eq_true rfl)(hk:codeOk k (Option.get! fn.body)=true:=by kernel_rfl)(hB:B.flat:=by exact trivial)(hc:me c:=by exact trivial):dL prog f args B c:=xp Bz mixed hf hb hn args ha k hk B c hB hc h
theorem mw {f:FuncId}{fn:Func}(hf:prog.funcs[f]? =some fn)(k:Kp){args:List V}{B:Bk}{R:V→Bk→Prop}(h:vc T prog k (Option.get! fn.body) (iM args B fn.ntmps) (Hf fn.results.toList R))(hb:fn.body=some (Option.get! fn.body):=by rfl)(hn:(fn.name== "runtime.NumGoroutine")=false:=by decide)(ha:args.length≤fn.ntmps:=by exact Nat.le_of_ble_eq_true rfl)(hk:codeOk k (Option.get! fn.body)=true:=by kernel_rfl)(hB:B.plain:=by exact trivial):Mc prog f args B R:=E5 Bz mixed hf hb hn args ha k hk B hB R h
end Go.Proofs.YtchkplkghknabaaGreat
namespace Go.Eng
def BB:Nat:=4294967296
def val:List Int→Nat
 |[]=>0
 |x::xs=>x.toNat+BB*val xs
def bI (xs:List Int):Prop:=∀x∈xs,0≤x∧x<4294967296
def aj (n:Nat):List Int:=if h:n=0 then[]else((n%BB:Nat):Int)::aj (n/BB)
termination_by n
decreasing_by exact Nat.div_lt_self (by omega) (by decide)
theorem bp:aj 0=[]:=by unfold aj;simp
theorem iR {n:Nat}(h:0<n):aj n=((n%BB:Nat):Int)::aj (n/BB):=by
 rw[aj];rw[dif_neg (by omega)]
theorem bI.nil:bI []:=fun _ h=>by simp at h
theorem bI.cons {x:Int}{xs:List Int}(hx:0≤x∧x<4294967296)(h:bI xs):bI (x::xs):=fun y hy=>by
 rcases List.mem_cons.1 hy with rfl|hy
 ·exact hx
 exact h y hy
theorem bI.tail {x:Int}{xs:List Int}(h:bI (x::xs)):bI xs:=fun y hy=>h y (by simp[hy])
theorem bI.head {x:Int}{xs:List Int}(h:bI (x::xs)):0≤x∧x<4294967296:=h x (by simp)
theorem bI.append {xs ys:List Int}(h:bI xs)(h':bI ys):bI (xs++ys):=fun y hy=>by
 rcases List.mem_append.1 hy with hy|hy
 ·exact h y hy
 exact h' y hy
theorem bI.take {xs:List Int}(h:bI xs)(i:Nat):bI (xs.take i):=fun y hy=>h y (List.mem_of_mem_take hy)
theorem bI.drop {xs:List Int}(h:bI xs)(i:Nat):bI (xs.drop i):=fun y hy=>h y (List.mem_of_mem_drop hy)
theorem bI.getD {xs:List Int}(h:bI xs)(i:Nat):0≤xs.getD i 0∧xs.getD i 0<4294967296:=by
 rw[X7]
 cases hi:xs[i]? with
 |none=>simp
 |some x=>exact h x (List.mem_of_getElem? hi)
theorem bI.set {xs:List Int}(h:bI xs)(i:Nat){x:Int}(hx:0≤x∧x<4294967296):bI (xs.set i x):=fun y hy=>by
 rcases List.mem_or_eq_of_mem_set hy with hy|rfl
 ·exact h y hy
 exact hx
theorem bI.replicate (n:Nat):bI (List.replicate n 0):=fun y hy=>by
 rw[(List.mem_replicate.1 hy).2];decide
theorem bI.one {x:Int}(h:0≤x∧x<4294967296):bI [x]:=bI.cons h bI.nil
theorem bI.aj:∀(n:Nat),bI (aj n):=by
 intro n
 induction n using Nat.strongRecOn with
 |_ n ih=>
  by_cases h:n=0
  ·subst h;rw[bp];exact bI.nil
  rw[iR (by omega)]
  have:n%BB<4294967296:=Nat.mod_lt n (show BB>0 by decide)
  exact bI.cons ⟨by omega,by omega⟩ (ih _ (Nat.div_lt_self (by omega) (by decide)))
theorem gH:∀(n:Nat),val (aj n)=n:=by
 intro n
 induction n using Nat.strongRecOn with
 |_ n ih=>
  by_cases h:n=0
  ·subst h;rw[bp];rfl
  rw[iR (by omega)];simp only[val];rw[ih _ (Nat.div_lt_self (by omega) (by decide))]
  have:=Nat.mod_add_div n BB
  omega
theorem fe:∀(xs ys:List Int),val (xs++ys)=val xs+BB^xs.length*val ys
 |[],ys=>by simp[val]
 |x::xs,ys=>by
  simp only[List.cons_append,val,fe xs ys,List.length_cons,Nat.pow_succ];rw[Nat.mul_add,Nat.mul_comm (BB^xs.length) BB,Nat.mul_assoc];omega
theorem j3:∀{xs:List Int},bI xs→val xs<BB^xs.length
 |[],_=>by simp[val]
 |x::xs,h=>by
  have h1:=j3 h.tail;have h2:=h.head;simp only[val,List.length_cons,Nat.pow_succ]
  have:BB*(val xs+1)≤BB*BB^xs.length:=Nat.mul_le_mul_left _ h1
  rw[Nat.mul_comm (BB^xs.length) BB];have h3:x.toNat<BB:=by unfold BB;omega
  rw[Nat.mul_add]at this;omega
theorem cL:∀(n:Nat),val (List.replicate n 0)=0
 |0=>rfl
 |n+1=>by simp[List.replicate_succ,val,cL n]
theorem dy:∀{xs:List Int},bI xs→∀i,xs.getD i 0=((val xs/BB^i%BB:Nat):Int)
 |[],_,i=>by simp[val]
 |x::xs,h,0=>by
  have h2:=h.head;have h3:x.toNat<BB:=by unfold BB;omega
  simp only[X0,val,Nat.pow_zero,Nat.div_one,Nat.add_mul_mod_self_left,Nat.mod_eq_of_lt h3];omega
 |x::xs,h,i+1=>by
  have h2:=h.head;have h3:x.toNat<BB:=by unfold BB;omega
  simp only[X1,val];rw[dy h.tail i,Nat.pow_succ,Nat.mul_comm (BB^i) BB,←Nat.div_div_eq_div_mul,Nat.add_mul_div_left _ _ (by decide:0<BB),Nat.div_eq_of_lt h3,Nat.zero_add]
theorem uv {xs:List Int}(h:bI xs)(i:Nat):val (xs.take i)=val xs%BB^i:=by
 by_cases hi:i≤xs.length
 ·have e:=fe (xs.take i) (xs.drop i);rw[List.take_append_drop,X5,Nat.min_eq_left hi]at e;have hl:=j3 (h.take i);rw[X5,Nat.min_eq_left hi]at hl;rw[e,Nat.add_mul_mod_self_left,Nat.mod_eq_of_lt hl]
 rw[List.take_of_length_le (by omega),Nat.mod_eq_of_lt];exact Nat.lt_of_lt_of_le (j3 h) (Nat.pow_le_pow_right (by decide) (by omega))
theorem ij {xs:List Int}(h:bI xs)(i:Nat):val (xs.drop i)=val xs/BB^i:=by
 by_cases hi:i≤xs.length
 ·have e:=fe (xs.take i) (xs.drop i);rw[List.take_append_drop,X5,Nat.min_eq_left hi]at e;have hl:=j3 (h.take i);rw[X5,Nat.min_eq_left hi]at hl;rw[e,Nat.add_mul_div_left _ _ (Nat.pow_pos (by decide)),Nat.div_eq_of_lt hl,Nat.zero_add]
 rw[List.drop_of_length_le (by omega),Nat.div_eq_of_lt];rfl;exact Nat.lt_of_lt_of_le (j3 h) (Nat.pow_le_pow_right (by decide) (by omega))
theorem dP:∀{xs:List Int} {i:Nat} {x:Int},i<xs.length→val (xs.set i x)+BB^i*(xs.getD i 0).toNat=val xs+BB^i*x.toNat
 |[],i,x,h=>by simp at h
 |y::ys,0,x,_=>by simp[val];omega
 |y::ys,i+1,x,h=>by
  have:=dP (xs:=ys) (i:=i) (x:=x) (by simpa using h)
  simp only[List.set_cons_succ,val,X1,Nat.pow_succ];rw[Nat.mul_comm (BB^i) BB,Nat.mul_assoc,Nat.mul_assoc];have h2:BB*(val (ys.set i x)+BB^i*(ys.getD i 0).toNat)=BB*(val ys+BB^i*x.toNat):=by rw[this]
  rw[Nat.mul_add,Nat.mul_add]at h2;omega
theorem bY:∀{xs:List Int},bI xs→(xs=[]∨xs.getD (xs.length-1) 0≠0)→aj (val xs)=xs
 |[],_,_=>bp
 |[x],h,hl=>by
  have h2:=h.head;have hx:x≠0:=by simpa using hl
  have h3:x.toNat<BB:=by unfold BB;omega
  simp only[val,Nat.mul_zero,Nat.add_zero];rw[iR (by omega),Nat.mod_eq_of_lt h3,Nat.div_eq_of_lt h3,bp]
  congr 1;omega
 |x::y::ys,h,hl=>by
  have h2:=h.head;have h3:x.toNat<BB:=by unfold BB;omega
  have ih:=bY h.tail (.inr (by
   rcases hl with hl|hl
   ·cases hl
   simpa using hl))
  have R1:0<val (y::ys):=by
   rcases Nat.eq_zero_or_pos (val (y::ys))with h0|h0
   ·rw[h0,bp]at ih;cases ih
   exact h0
  have e:val (x::y::ys)=x.toNat+BB*val (y::ys):=rfl;have hp:0<val (x::y::ys):=by
   rw[e]
   have:0<BB*val (y::ys):=Nat.mul_pos (by decide) R1
   omega
  rw[iR hp,e,Nat.add_mul_mod_self_left,Nat.mod_eq_of_lt h3,Nat.add_mul_div_left _ _ (by decide:0<BB),Nat.div_eq_of_lt h3,Nat.zero_add,ih]
  congr 1;omega
theorem pK {xs:List Int}(h:bI xs)(hl:xs.length=0∨BB^(xs.length-1)≤val xs):aj (val xs)=xs:=by
 refine bY h ?_
 rcases hl with hl|hl
 ·exact .inl (List.length_eq_zero_iff.1 hl)
 by_cases hn:xs=[]
 ·exact .inl hn
 refine .inr fun h0=>?_;have hp:0<xs.length:=List.length_pos_iff.2 hn;rw[dy h]at h0;have hv:=j3 h;have h1:val xs/BB^(xs.length-1)<BB:=by
  rw[Nat.div_lt_iff_lt_mul (Nat.pow_pos (by decide)),Nat.mul_comm,←Nat.pow_succ,show (xs.length-1).succ=xs.length by omega];exact hv
 rw[Nat.mod_eq_of_lt h1]at h0;have h2:1≤val xs/BB^(xs.length-1):=by
  rw[Nat.le_div_iff_mul_le (Nat.pow_pos (by decide))];omega
 omega
def nl (n:Nat):Nat:=(aj n).length
theorem dY (n:Nat):(aj n).length=nl n:=rfl
theorem tQ (n:Nat):(aj n).take (nl n)=aj n:=List.take_length
theorem iD:nl 0=0:=by unfold nl;rw[bp];rfl
theorem aD:∀{k n:Nat},n<BB^k→nl n≤k
 |0,n,h=>by
  have:n=0:=by simpa using h
  subst this;rw[iD];omega
 |k+1,n,h=>by
  by_cases h0:n=0
  ·subst h0;rw[iD];omega
  unfold nl;rw[iR (by omega)]
  have:nl (n/BB)≤k:=aD (by rw[Nat.div_lt_iff_lt_mul (by decide),←Nat.pow_succ];exact h)
  unfold nl at this;simp only[List.length_cons];omega
theorem cC (n:Nat):n<BB^nl n:=by
 have:=j3 (bI.aj n)
 rw[gH]at this;exact this
theorem cF {k n:Nat}:nl n≤k↔n<BB^k:=
 ⟨fun h=>Nat.lt_of_lt_of_le (cC n) (Nat.pow_le_pow_right (by decide) h),aD⟩
theorem bf {m n:Nat}(h:m≤n):nl m≤nl n:=aD (Nat.lt_of_le_of_lt h (cC n))
theorem eH {n:Nat}:0<nl n↔0<n:=by
 constructor
 ·intro h
  rcases Nat.eq_zero_or_pos n with h0|h0
  ·subst h0;rw[iD]at h;omega
  exact h0
 intro h
 rcases Nat.eq_zero_or_pos (nl n)with h0|h0
 ·have:=cC n
  rw[h0]at this;simp at this;omega
 exact h0
theorem fT {n:Nat}:nl n=0↔n=0:=by
 have:=eH (n:=n);omega
theorem tT {n:Nat}(h:0<n):BB^(nl n-1)≤n:=by
 rcases Nat.lt_or_ge n (BB^(nl n-1))with h1|h1
 ·have:=aD h1
  have:=eH.2 h
  omega
 exact h1
theorem jy (m n:Nat):nl (m*n)≤nl m+nl n:=by
 apply aD
 rw[Nat.pow_add];exact Nat.mul_lt_mul'' (cC m) (cC n)
theorem tx (m n:Nat):nl (m+n)≤max (nl m) (nl n)+1:=by
 apply aD
 rw[Nat.pow_succ];have h1:m<BB^max (nl m) (nl n):=cF.1 (Nat.le_max_left _ _);have h2:n<BB^max (nl m) (nl n):=cF.1 (Nat.le_max_right _ _);have h3:BB^max (nl m) (nl n)*2≤BB^max (nl m) (nl n)*BB:=Nat.mul_le_mul_left _ (by decide);omega
open Go
theorem wI (i:Nat)(h:i+1<9223372036854775808):IntKind.i64.wrap ((i:Int)+1)=((i+1:Nat):Int):=by rw[Go.IntWalk.i64_in _ (by omega)];omega
set_option linter.defProp false in
def vx:=And.intro vcs (And.intro Q7 (And.intro QN (And.intro QP (And.intro Rg (And.intro @dY (And.intro @tQ (And.intro @Nat.min_def (And.intro @IntKind.bits.eq_1 (And.intro @IntKind.bits.eq_2 (And.intro @IntKind.bits.eq_3 (And.intro @IntKind.bits.eq_4 (And.intro @IntKind.bits.eq_5 (And.intro @IntKind.bits.eq_6 (And.intro @IntKind.bits.eq_7 (@IntKind.bits.eq_8)))))))))))))))
set_option linter.defProp false in
def rx:=And.intro QN (And.intro QP (And.intro Rk (And.intro @dY (@tQ))))
set_option linter.defProp false in
def ry:=And.intro rx (And.intro @Y0.eq_1 (And.intro @Y0.eq_2 (And.intro @Y1.eq_def (And.intro @Y2.eq_def (And.intro @Y3.eq_1 (And.intro @Y3.eq_2 (And.intro @Y3.eq_3 (And.intro @Y4.eq_1 (And.intro @Y4.eq_2 (And.intro @Y5.eq_def (And.intro @Y6.eq_1 (And.intro @Y6.eq_2 (And.intro @Y7.eq_def (And.intro @rU.eq_1 (@rU.eq_2)))))))))))))))
set_option linter.defProp false in
def rz:=And.intro @Y8.eq_1 (And.intro @Y8.eq_2 (And.intro @Y9.eq_def (And.intro @X2 (And.intro @X3 (@X4)))))
set_option linter.defProp false in
def iz:=And.intro @iS.eq_1 (And.intro @iM.eq_def (And.intro @eO.eq_1 (And.intro @eO.eq_2 (@Option.get!.eq_1.{0}))))
end Go.Eng
namespace Go.Proofs.YtchkplkghknabaaGreat
open Go.Proofs.Tryz
open Go Go.Eng
theorem uo {ys:List Int}(h:bI ys)(h0:0<ys.length)(hl:ys.getD (ys.length-1) 0=0):val (ys.take (ys.length-1))=val ys:=by
 have e:=fe (ys.take (ys.length-1)) (ys.drop (ys.length-1));rw[List.take_append_drop]at e;have h1:ys.drop (ys.length-1)=[0]:=by
  rw[X7,X8 (by omega)]at hl;rw[List.drop_eq_getElem_cons (by omega),List.drop_of_length_le (by omega)]
  simpa using hl
 rw[h1]at e
 simp[val]at e
 exact e.symm
theorem du (xs:List Int)(hr:bI xs)(hx:xs.length<2^62):Pr prog 185 [.one (.ints .u32 xs)] (.one (.ints .u32 (aj (val xs)))):=by
 refine pw func185 ⟨[0,2,14],[]⟩ ?_;simp only[Tryz.f185,ntmps185,iz,seval];simp only[vx,T,seval];refine Lk (fun ys:{l:List Int//l.length<2^62∧bI l∧val l=val xs}=>⟨[(0,.one (.ints .u32 ys))],[],3,21⟩) (fun ys=>ys.1.length) ⟨xs,hx,hr,rfl⟩ ?_ (fun⟨ys,hy,WE,Uu⟩=>?_)
 ·refine Sa ?_;simp only[ry,seval,rz]
 simp only[vx,T,seval];refine⟨fun h=>Lg ?_,fun h=>Lg ?_⟩
 ·simp only[vx,T,seval];rw[IntWalk.i64_in _ (by omega)];refine⟨by omega,?_⟩;refine⟨fun h=>Lg ?_,fun h=>Lg ?_⟩
  ·simp only[vx,T,seval];rw[IntWalk.i64_in _ (by omega)];refine⟨by omega,Lq ⟨ys.take (ys.length-1),by simp;omega,WE.take _,?_⟩ ?_ ?_⟩
   ·rw[uo WE (by omega) (by rw[show ys.length-1=((ys.length:Int)-1).toNat by omega];exact h),Uu]
   ·refine Sa ?_;simp only[ry,seval,rz];rw[show ((ys.length:Int)-1).toNat=ys.length-1 by omega]
   simp;omega
  simp only[vx,T,seval];refine Ve ?_;rw[←Uu,bY WE (.inr (by rw[show ys.length-1=((ys.length:Int)-1).toNat by omega];exact h))]
 simp only[vx,T,seval];refine Ve ?_;rw[←Uu,bY WE (.inl (List.length_eq_zero_iff.1 (by omega)))]
theorem bH (xs:List Int)(hr:bI xs)(hx:xs.length<2^62):Pr prog 126 [.one (.ints .u32 xs)] (.one (.ints .u32 (aj (val xs)))):=by
 refine pw func126 ⟨[0,2,14],[]⟩ ?_;simp only[Tryz.f126,ntmps126,iz,seval];simp only[vx,T,seval];refine Lk (fun ys:{l:List Int//l.length<2^62∧bI l∧val l=val xs}=>⟨[(0,.one (.ints .u32 ys))],[],3,21⟩) (fun ys=>ys.1.length) ⟨xs,hx,hr,rfl⟩ ?_ (fun⟨ys,hy,WE,Uu⟩=>?_)
 ·refine Sa ?_;simp only[ry,seval,rz]
 simp only[vx,T,seval];refine⟨fun h=>Lg ?_,fun h=>Lg ?_⟩
 ·simp only[vx,T,seval];rw[IntWalk.i64_in _ (by omega)];refine⟨by omega,?_⟩;refine⟨fun h=>Lg ?_,fun h=>Lg ?_⟩
  ·simp only[vx,T,seval];rw[IntWalk.i64_in _ (by omega)];refine⟨by omega,Lq ⟨ys.take (ys.length-1),by simp;omega,WE.take _,?_⟩ ?_ ?_⟩
   ·rw[uo WE (by omega) (by rw[show ys.length-1=((ys.length:Int)-1).toNat by omega];exact h),Uu]
   ·refine Sa ?_;simp only[ry,seval,rz];rw[show ((ys.length:Int)-1).toNat=ys.length-1 by omega]
   simp;omega
  simp only[vx,T,seval];refine Ve ?_;rw[←Uu,bY WE (.inr (by rw[show ys.length-1=((ys.length:Int)-1).toNat by omega];exact h))]
 simp only[vx,T,seval];refine Ve ?_;rw[←Uu,bY WE (.inl (List.length_eq_zero_iff.1 (by omega)))]
theorem wF (n:Nat):bI [IntKind.u32.wrap n,IntKind.u32.wrap ((n:Int).fdiv 4294967296)]:=by
 refine bI.cons ?_ (bI.one ?_)<;>(rw[IntKind.wrap_u32];omega)
theorem vG {n:Nat}(hn:n<2^64):val [IntKind.u32.wrap n,IntKind.u32.wrap ((n:Int).fdiv 4294967296)]=n:=by
 simp only[val,IntKind.wrap_u32,BB];rw[Int.fdiv_eq_ediv_of_nonneg _ (by decide)];have h1:((n:Int)%4294967296).toNat=n%4294967296:=by omega
 have h2:((n:Int)/4294967296%4294967296).toNat=n/4294967296:=by omega
 rw[h1,h2];omega
theorem dj (n:Nat)(hn:n<2^64):Pr prog 149 [.one (.int .u64 n)] (.one (.ints .u32 (aj n))):=by
 refine pw func149 ⟨[0,2],[]⟩ ?_;simp only[Tryz.f149,ntmps149,iz,seval];simp only[vx,T,seval];refine Cg (du _ (wF n) (by simp)) ?_;rw[vG hn];simp only[vx,T,seval];refine Va ?_;simp only[cU,aY,ry,seval]
theorem ie (n:Nat)(hn:n<2^64):Pr prog 92 [.one (.int .u64 n)] (.one (.ints .u32 (aj n))):=by
 refine pw func92 ⟨[0,2],[]⟩ ?_;simp only[Tryz.f92,ntmps92,iz,seval];simp only[vx,T,seval];refine Cg (bH _ (wF n) (by simp)) ?_;rw[vG hn];simp only[vx,T,seval];refine Va ?_;simp only[cU,aY,ry,seval]
theorem jq {n:Nat}(h:(nl n:Int)=0):n=0:=fT.1 (by omega)
theorem uW {n:Nat}(h:¬(nl n:Int)=0):0<n:=eH.1 (by omega)
theorem yb (b:Bool)(xs:List Int)(hr:bI xs)(hx:xs.length<2^62):Pr prog 148 [.one (.bool b),.one (.ints .u32 xs)] (.agg [.bool (b&&decide (0<val xs)),.ints .u32 (aj (val xs))]):=by
 refine pw func148 ⟨[0,1,4,9],[]⟩ ?_;simp only[Tryz.f148,ntmps148,iz,seval];simp only[vx,T,seval];refine Cg (du xs hr hx) ?_;simp only[vx,T,seval];refine⟨fun h=>Lg ?_,fun h=>Lg ?_⟩
 ·simp only[vx,T,seval];have h0:=jq h;refine Va ?_;simp only[cU,aY,ry,seval,h0,bp,Nat.lt_irrefl]
 simp only[vx,T,seval];have h0:=uW h;refine Va ?_;simp only[cU,aY,ry,seval,h0]
theorem pF (b:Bool)(xs:List Int)(hr:bI xs)(hx:xs.length<2^62):Pr prog 91 [.one (.bool b),.one (.ints .u32 xs)] (.agg [.bool (b&&decide (0<val xs)),.ints .u32 (aj (val xs))]):=by
 refine pw func91 ⟨[0,1,4],[]⟩ ?_;simp only[Tryz.f91,ntmps91,iz,seval];simp only[vx,T,seval];refine Cg (bH xs hr hx) ?_;simp only[vx,T,seval];refine⟨fun h0=>Lg ?_,fun h0=>Lg ?_⟩
 ·subst h0;simp only[vx,T,seval]
  by_cases h:0<val xs
  ·have h1:=eH.2 h;refine Va ?_;simp only[cU,aY,ry,seval,h,decide_true,Bool.true_and,Int.natCast_pos,h1]
  have h1:val xs=0:=by omega
  refine Va ?_;simp only[cU,aY,ry,seval,h1,bp,iD,Nat.lt_irrefl,X4,Int.lt_irrefl]
 subst h0;simp only[vx,T,seval];refine Va ?_;simp only[cU,aY,ry,seval]
open Go Go.Eng
def eX (x y:Int):Int:=if x<y then-1 else if y<x then 1 else 0
theorem gJ {x y:Int}(h:x<y):eX x y= -1:=if_pos h
theorem iK {x y:Int}(h:y<x):eX x y=1:=by unfold eX;rw[if_neg (by omega),if_pos h]
theorem oU {x y:Int}(h:x=y):eX x y=0:=by unfold eX;rw[if_neg (by omega),if_neg (by omega)]
theorem lG (n i:Nat):(aj n).getD i 0=((n/BB^i%BB:Nat):Int):=by
 rw[dy (bI.aj n),gH]
theorem pf {m n i:Nat}(h:m/BB^(i+1)=n/BB^(i+1))(hd:m/BB^i%BB<n/BB^i%BB):m<n:=by
 have e:∀x:Nat,x/BB^(i+1)=x/BB^i/BB:=fun x=>by rw[Nat.pow_succ,Nat.div_div_eq_div_mul]
 rw[e,e]at h;have h1:=Nat.div_add_mod (m/BB^i) BB;have h2:=Nat.div_add_mod (n/BB^i) BB;rw[h]at h1
 rcases Nat.lt_or_ge m n with h3|h3
 ·exact h3
 have:=Nat.div_le_div_right (c:=BB^i) h3
 omega
theorem zP {m n i:Nat}(h:m/BB^(i+1)=n/BB^(i+1))(hd:m/BB^i%BB=n/BB^i%BB):m/BB^i=n/BB^i:=by
 have e:∀x:Nat,x/BB^(i+1)=x/BB^i/BB:=fun x=>by rw[Nat.pow_succ,Nat.div_div_eq_div_mul]
 rw[e,e]at h;have h1:=Nat.div_add_mod (m/BB^i) BB;have h2:=Nat.div_add_mod (n/BB^i) BB;rw[h,hd]at h1;omega
theorem lE {m k:Nat}(h:nl m≤k):m/BB^k=0:=Nat.div_eq_of_lt (cF.1 h)
theorem mv (x:Int):Pr prog 241 [.one (.int .i64 x)] (.one (.bool false)):=by
 refine pw func241 ⟨[0,2],[]⟩ ?_;simp only[Tryz.f241,ntmps241,iz,seval];simp only[vx,T,seval];refine Va ?_;simp only[cU,aY,ry,seval,not_true_eq_false,decide_false]
theorem ko (x y:Int):Pr prog 225 [.one (.int .i64 x),.one (.int .i64 y)] (.one (.int .i64 (eX x y))):=by
 refine pw func225 ⟨[0,1,4,5,6,11,12,13,16,19],[]⟩ ?_;simp only[Tryz.f225,ntmps225,iz,seval];simp only[vx,T,seval];refine Cg (mv _) ?_;simp only[vx,T,seval];refine Cg (mv _) ?_;simp only[vx,T,seval];refine⟨fun h=>Lg ?_,fun h=>Lg ?_⟩
 ·simp only[vx,T,seval];refine Va ?_;simp only[cU,aY,ry,seval,gJ h]
 simp only[vx,T,seval];refine⟨fun h'=>Lg ?_,fun h'=>Lg ?_⟩
 ·simp only[vx,T,seval];refine Va ?_;simp only[cU,aY,ry,seval,iK h']
 simp only[vx,T,seval];refine Va ?_;simp only[cU,aY,ry,seval,oU (show x=y by omega)]
theorem mq (x:Int):Pr prog 251 [.one (.int .u32 x)] (.one (.bool false)):=by
 refine pw func251 ⟨[0,2],[]⟩ ?_;simp only[Tryz.f251,ntmps251,iz,seval];simp only[vx,T,seval];refine Va ?_;simp only[cU,aY,ry,seval,not_true_eq_false,decide_false]
theorem qq (x y:Int):Pr prog 242 [.one (.int .u32 x),.one (.int .u32 y)] (.one (.int .i64 (eX x y))):=by
 refine pw func242 ⟨[0,1,4,5,6,11,12,13,16,19],[]⟩ ?_;simp only[Tryz.f242,ntmps242,iz,seval];simp only[vx,T,seval];refine Cg (mq _) ?_;simp only[vx,T,seval];refine Cg (mq _) ?_;simp only[vx,T,seval];refine⟨fun h=>Lg ?_,fun h=>Lg ?_⟩
 ·simp only[vx,T,seval];refine Va ?_;simp only[cU,aY,ry,seval,gJ h]
 simp only[vx,T,seval];refine⟨fun h'=>Lg ?_,fun h'=>Lg ?_⟩
 ·simp only[vx,T,seval];refine Va ?_;simp only[cU,aY,ry,seval,iK h']
 simp only[vx,T,seval];refine Va ?_;simp only[cU,aY,ry,seval,oU (show x=y by omega)]
theorem DL {m n:Nat}(h:¬(nl m:Int)=nl n):eX (nl m) (nl n)=eX m n:=by
 rcases Nat.lt_trichotomy m n with h1|h1|h1
 ·have:=bf (Nat.le_of_lt h1)
  rw[gJ (by omega),gJ (by omega)]
 ·subst h1;exact absurd rfl h
 have:=bf (Nat.le_of_lt h1)
 rw[iK (by omega),iK (by omega)]
theorem gL (m n:Nat)(hm:nl m<2^62)(hn:nl n<2^62):Pr prog 226 [.one (.ints .u32 (aj m)),.one (.ints .u32 (aj n))] (.one (.int .i64 (eX m n))):=by
 refine pw func226 ⟨[0,1,4,5,10,20,31],[]⟩ ?_;simp only[Tryz.f226,ntmps226,iz,seval];simp only[vx,T,seval];refine⟨fun h=>Lg ?_,fun h=>Lg ?_⟩
 ·simp only[vx,T,seval];refine Cg (ko _ _) ?_;simp only[vx,T,seval];refine Va ?_;simp only[cU,aY,ry,seval,DL h]
 simp only[vx,T,seval];rw[IntWalk.i64_in _ (by omega)];refine Lk (fun i:{i:Nat//i≤nl m∧m/BB^i=n/BB^i}=>⟨[(0,.one (.ints .u32 (aj m))),(1,.one (.ints .u32 (aj n))),(5,.one (.int .i64 ((i.1:Int)-1)))],[],3,41⟩) (fun i=>i.1) ⟨nl m,Nat.le_refl _,by rw[lE (Nat.le_refl _),lE (by omega)]⟩ ?_ (fun⟨i,hi,hd⟩=>?_)
 ·refine Sa ?_;simp only[ry,seval,rz]
 simp only[vx,T,seval];refine⟨fun Wh=>Lg ?_,fun Wh=>Lg ?_⟩
 ·obtain⟨j,rfl⟩:∃j,i=j+1:=⟨i-1,by omega⟩;simp only[show ((j+1:Nat):Int)-1=(j:Int) by omega,Int.toNat_natCast]at Wh⊢;simp only[vx,T,seval];refine⟨by omega,by omega,?_⟩;refine⟨fun UP=>Lg ?_,fun UP=>Lg ?_⟩
  ·simp only[vx,T,seval];refine⟨by omega,by omega,Cg (qq _ _) ?_⟩;simp only[vx,T,seval];simp only[lG]at UP⊢;refine Ve ?_
   rcases Nat.lt_or_ge (m/BB^j%BB) (n/BB^j%BB)with h1|h1
   ·rw[gJ (by omega),gJ (by have:=pf hd h1;omega)]
   rw[iK (by omega),iK (by have:=pf (m:=n) (n:=m) hd.symm (by omega);omega)]
  simp only[vx,T,seval];simp only[lG]at UP;rw[IntWalk.i64_in _ (by omega)];refine Lq ⟨j,by omega,zP hd (by omega)⟩ ?_ ?_
  ·refine Sa ?_;simp only[ry,seval,rz]
  simp
 have h0:i=0:=by omega
 subst h0;simp only[vx,T,seval];have h0:m=n:=by simpa using hd
 refine Va ?_;simp only[cU,aY,ry,seval,oU (show(m:Int)=n by omega)]
theorem fL (m n:Nat)(hm:nl m<2^62)(hn:nl n<2^62):Pr prog 161 [.one (.ints .u32 (aj m)),.one (.ints .u32 (aj n))] (.one (.int .i64 (eX m n))):=by
 refine pw func161 ⟨[0,1,4,5,10,15,20,31,40],[]⟩ ?_;simp only[Tryz.f161,ntmps161,iz,seval];simp only[vx,T,seval];refine⟨fun h=>Lg ?_,fun h=>Lg ?_⟩
 ·simp only[vx,T,seval];rw[←DL h];refine⟨fun h1=>Lg ?_,fun h1=>Lg ?_⟩
  ·simp only[vx,T,seval];refine Va ?_;simp only[cU,aY,ry,seval,gJ h1]
  simp only[vx,T,seval];refine Va ?_;simp only[cU,aY,ry,seval,iK (show(nl n:Int)<nl m by omega)]
 simp only[vx,T,seval];rw[IntWalk.i64_in _ (by omega)];refine Lk (fun i:{i:Nat//i≤nl m∧m/BB^i=n/BB^i}=>⟨[(0,.one (.ints .u32 (aj m))),(1,.one (.ints .u32 (aj n))),(5,.one (.int .i64 ((i.1:Int)-1)))],[],3,41⟩) (fun i=>i.1) ⟨nl m,Nat.le_refl _,by rw[lE (Nat.le_refl _),lE (by omega)]⟩ ?_ (fun⟨i,hi,hd⟩=>?_)
 ·refine Sa ?_;simp only[ry,seval,rz]
 simp only[vx,T,seval];refine⟨fun Wh=>Lg ?_,fun Wh=>Lg ?_⟩
 ·obtain⟨j,rfl⟩:∃j,i=j+1:=⟨i-1,by omega⟩;simp only[show ((j+1:Nat):Int)-1=(j:Int) by omega,Int.toNat_natCast]at Wh⊢;simp only[vx,T,seval];refine⟨by omega,by omega,?_⟩;refine⟨fun UP=>Lg ?_,fun UP=>Lg ?_⟩
  ·simp only[vx,T,seval];simp only[lG]at UP;have RE:(m:Int)<n:=by have:=pf hd (show m/BB^j%BB<n/BB^j%BB by omega);omega
   refine Va ?_;simp only[cU,aY,ry,seval,gJ RE]
  simp only[vx,T,seval];refine⟨by omega,by omega,?_⟩;refine⟨fun V3=>Lg ?_,fun V3=>Lg ?_⟩
  ·simp only[vx,T,seval];simp only[lG]at V3;have RE:(n:Int)<m:=by have:=pf (m:=n) (n:=m) hd.symm (show n/BB^j%BB<m/BB^j%BB by omega);omega
   refine Va ?_;simp only[cU,aY,ry,seval,iK RE]
  simp only[vx,T,seval];simp only[lG]at UP V3;rw[IntWalk.i64_in _ (by omega)];refine Lq ⟨j,by omega,zP hd (by omega)⟩ ?_ ?_
  ·refine Sa ?_;simp only[ry,seval,rz]
  simp
 have h0:i=0:=by omega
 subst h0;simp only[vx,T,seval];have h0:m=n:=by simpa using hd
 refine Va ?_;simp only[cU,aY,ry,seval,oU (show(m:Int)=n by omega)]
open Go Go.Eng
theorem CK {P v c A B' s x y:Nat}(h:v+P*c=A+B')(hs:s=c+x+y):(v+P*(s%BB))+(P*BB)*(s/BB)=(A+P*x)+(B'+P*y):=by
 have h1:P*s=P*(BB*(s/BB))+P*(s%BB):=by rw[←Nat.mul_add,Nat.div_add_mod]
 have h2:(P*BB)*(s/BB)=P*(BB*(s/BB)):=Nat.mul_assoc _ _ _;have h3:P*s=P*c+P*x+P*y:=by rw[hs,Nat.mul_add,Nat.mul_add]
 omega
theorem eZ (x i:Nat):x%BB^(i+1)=x%BB^i+BB^i*(x/BB^i%BB):=Nat.mod_pow_succ
theorem gP {x k:Nat}(h:nl x≤k):x%BB^k=x:=Nat.mod_eq_of_lt (cF.1 h)
theorem iW {x k:Nat}(h:nl x≤k):x/BB^k%BB=0:=by rw[lE h];rfl
theorem aA (s:Nat):IntKind.u32.wrap (s:Int)=((s%BB:Nat):Int):=by
 rw[IntKind.wrap_u32,Int.natCast_emod];rfl
theorem aI (s:Nat):(s:Int).fdiv 4294967296=((s/BB:Nat):Int):=by
 rw[Int.fdiv_eq_ediv_of_nonneg _ (by decide),Int.natCast_ediv];rfl
theorem bc (s:Nat):s%BB<4294967296:=Nat.mod_lt _ (by decide)
theorem bI.digit (s:Nat):bI [((s%BB:Nat):Int)]:=bI.one ⟨by omega,by have:=bc s;omega⟩
theorem val_one (x:Nat):val [(x:Int)]=x:=by simp[val]
structure cV (a b i:Nat) (os:List Int) (c:Nat):Prop where
 le:i≤nl a
 inr:bI (os.take i)
 len:i≤os.length
 eq:val (os.take i)+BB^i*c=a%BB^i+b%BB^i
 c:c≤1
theorem cV.step {a b i:Nat}{os:List Int}{c s:Nat}(h:cV a b i os c)(hi:i<nl a)(hs:s=c+a/BB^i%BB+b/BB^i%BB):cV a b (i+1) (os.take i++[((s%BB:Nat):Int)]) (s/BB):=by
 have hlen:(os.take i).length=i:=by have:=h.len;simp;omega
 have ht:(os.take i++[((s%BB:Nat):Int)]).take (i+1)=os.take i++[((s%BB:Nat):Int)]:=List.take_of_length_le (by rw[X6,hlen];simp);refine⟨hi,?_,?_,?_,?_⟩
 ·rw[ht];exact h.inr.append (bI.digit s)
 ·rw[X6,hlen];simp
 ·rw[ht,fe,hlen,val_one,eZ a,eZ b,Nat.pow_succ];exact CK h.eq hs
 have h1:=bc (a/BB^i);have h2:=bc (b/BB^i);have h3:=h.c
 have:s/BB<2:=by rw[Nat.div_lt_iff_lt_mul (by decide)];unfold BB at*;omega
 omega
theorem cV.sum {a b:Nat}{os:List Int}{c:Nat}(hb:nl b≤nl a)(h:cV a b (nl a) os c):val (os.take (nl a))+BB^nl a*c=a+b:=by
 have:=h.eq
 rw[gP (Nat.le_refl _),gP hb]at this;exact this
theorem cV.Pg {a b:Nat}{os:List Int}(hb:nl b≤nl a)(h:cV a b (nl a) os 0):os.take (nl a)=aj (a+b):=by
 have hs:=h.sum hb;have hlen:(os.take (nl a)).length=nl a:=by have:=h.len;simp;omega
 simp only[Nat.mul_zero,Nat.add_zero]at hs;rw[←hs]
 refine(pK h.inr ?_).symm
 rw[hlen,hs]
 rcases Nat.eq_zero_or_pos a with h0|h0
 ·left;subst h0;exact iD
 right;have:=tT h0;omega
theorem cV.O3 {a b:Nat}{os:List Int}{c:Nat}(hb:nl b≤nl a)(h:cV a b (nl a) os c)(hc:0<c):os.take (nl a)++[((c%BB:Nat):Int)]=aj (a+b):=by
 have hs:=h.sum hb;have hlen:(os.take (nl a)).length=nl a:=by have:=h.len;simp;omega
 have h1:c=1:=by have:=h.c;omega
 subst h1;have e:val (os.take (nl a)++[((1%BB:Nat):Int)])=a+b:=by rw[fe,val_one,hlen];exact hs
 rw[←e]
 refine(pK (h.inr.append (bI.digit 1)) (.inr ?_)).symm
 rw[e,X6,hlen,←hs]
 simp
theorem vB (swap:Bool)(a b:Nat)(Tp:nl b≤nl a)(WA:swap=true→nl b<nl a)(ha:nl a<2^44):Pr prog 246 [.one (.ints .u32 (aj (if swap then b else a))),.one (.ints .u32 (aj (if swap then a else b)))] (.one (.ints .u32 (aj (a+b)))):=by
 refine pw func246 ⟨[0,1,4,5,6,7,8,13,20,21,22,23,34,51],[]⟩ ?_;simp only[Tryz.f246,ntmps246,iz,seval]
 cases swap
 case' false=>have RE:((nl a:Int)<nl b)=False:=by simp;omega
 case' true=>have RE:((nl b:Int)<nl a)=True:=by have:=WA rfl;simp;omega
 all_goals
  simp only[vx,T,seval,RE];rw[IntWalk.i64_in _ (by omega)];refine⟨⟨by omega,by omega,by omega⟩,Lk (fun i:{i:Nat×List Int×Nat//cV a b i.1 i.2.1 i.2.2}=>⟨[(0,.one (.ints .u32 (aj a))),(1,.one (.ints .u32 (aj b))),(5,.one (.own 1 1 0 i.1.1)),(6,.one (.int .u64 i.1.2.2)),(20,.one (.ints .u32 (aj a))),(21,.one (.int .i64 (nl a))),(22,.one (.int .i64 i.1.1))],[(1,⟨.ints 147 .u32 i.1.2.1,true⟩)],3,58⟩) (fun i=>nl a-i.1.1) ⟨(0,List.replicate ((nl a:Int)+1).toNat 0,0),Nat.zero_le _,bI.nil,Nat.zero_le _,by simp[val,Nat.mod_one],Nat.zero_le _⟩ ?_ (fun⟨⟨i,os,c⟩,hi⟩=>?_)⟩
  ·refine Sa ?_;simp only[ry,seval,rz]
  have h1:=hi.le;have h2:=hi.len;have h3:=hi.c;simp only at h1 h2 h3;simp only[vx,T,seval];refine⟨fun h=>Lg ?_,fun h=>Lg ?_⟩
  ·simp only[vx,T,seval];refine⟨⟨by omega,by omega⟩,?_⟩;have hlen:(os.take i).length=i:=by simp;omega
   have hx:=bc (a/BB^i);have hy:=bc (b/BB^i)
   simp(disch:=omega) only[lG,←X2,←Int.natCast_mul,Int.toNat_natCast,IntWalk.i64_in,IntWalk.u64_in,aA,aI,true_and,and_true]
   refine⟨fun h'=>Lg ?_,fun h'=>Lg ?_⟩
   ·simp only[vx,T,seval];refine⟨⟨by omega,by omega⟩,?_⟩
    simp(disch:=omega) only[lG,←X2,←Int.natCast_mul,Int.toNat_natCast,IntWalk.i64_in,IntWalk.u64_in,aA,aI,true_and,and_true,hlen,X6]
    refine⟨by omega,Lq ⟨(i+1,_,_),hi.step (by omega) rfl⟩ ?_ ?_⟩
    ·refine Sa ?_;simp only[ry,seval,rz,hlen,X6]
    simp only;omega
   simp only[vx,T,seval];have WG:=iW (x:=b) (k:=i) (by omega)
   simp(disch:=omega) only[lG,←X2,←Int.natCast_mul,Int.toNat_natCast,IntWalk.i64_in,IntWalk.u64_in,aA,aI,true_and,and_true,hlen,X6]
   refine⟨by omega,Lq ⟨(i+1,_,_),hi.step (s:=c+a/BB^i%BB) (by omega) (by rw[WG];rfl)⟩ ?_ ?_⟩
   ·refine Sa ?_;simp only[ry,seval,rz,hlen,X6]
   simp only;omega
  simp only[vx,T,seval];have Tg:i=nl a:=by omega
  subst Tg;refine⟨fun h'=>Lg ?_,fun h'=>Lg ?_⟩
  ·simp only[vx,T,seval];simp only[aA];refine⟨by simp;omega,?_⟩;have Vw:=hi.O3 Tp (by simp only;omega);refine Va ?_;simp only[cU,aY,ry,seval,Vw]
  simp only[vx,T,seval];have SU:c=0:=by omega
  subst SU;have ZU:=hi.Pg Tp;refine Va ?_;simp only[cU,aY,ry,seval,ZU]
end Go.Proofs.YtchkplkghknabaaGreat
