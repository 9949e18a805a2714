/-
  MatrixInvalid: for every input the law returns true, and each argument reads afterwards as it read before. No condition beyond the cells of the given rows.
  (Text 3 of 9; made by a program out of smaller texts.)
-/
import Derived.Test.YtgcmkdgpaibpeaaGreatProg
import Derived.KernelRfl
import Derived.IntWalk
import Derived.Test.YtgcmkdgpaibpeaaGreatP2
set_option linter.unusedSimpArgs false
set_option linter.unusedVariables false
set_option maxHeartbeats 16000000
set_option maxRecDepth 10000
open Nat renaming reduceAdd→J1,reduceMul→J2,reduceSub→J3,reduceEqDiff→J4,reduceLT→J5,reduceLeDiff→J6,reduceBEq→J7,reduceDiv→J8,reduceMod→J9,reducePow→J0
open Int renaming reduceToNat→K1,reduceLE→K2,reduceLT→K3,reduceEq→K4,reducePow→K5,reduceSub→K6,reduceNeg→K7,natCast_add→X2,natCast_one→X3,natCast_zero→X4
open List renaming getD_cons_zero→X0,getD_cons_succ→X1,length_take→X5,length_append→X6,getD_eq_getElem?_getD→X7,getElem?_eq_getElem→X8
/-
  THE ENGINE, PART S: a function's text as a proposition that can be reckoned; and that it says enough.
-/
namespace Go.Eng
open Go
def xc:Value→Bool
 |.slice a _ _=>match a with
  |none=>true
  |some _=>false
 |_=>false
def qQ:Operand→Bool
 |.const v=>xc v
 |_=>false
def vu:BinOp→Bool
 |.eql=>true
 |_=>false
def rW:Op→Bool
 |.store _ _ _=>true
 |.binOp op _ _ y _=>vu op&&qQ y
 |.call c=>match c.callee with
  |.builtin b=>match b with
   |.append=>true
   |.cap=>true
   |.clear=>true
   |.copy=>true
   |_=>false
  |_=>false
 |_=>false
def cY:Op→Bool
 |.call c=>match c.callee with
  |.value _=>true
  |_=>false
 |_=>false
def orM (A B:Prop):Prop:=A∨B
def re:Op→Bool
 |.assign _=>true
 |op=>rW op
def zX (d:Tmp):Operand→Bool
 |.tmp t=>t==d
 |_=>false
def Me (d:Tmp)(o:Op):Bool:=
 match o with
 |.convert _ _ x=>zX d x
 |_=>false
def aQ (d:Option Tmp)(os:List Oper):Bool:=
 match d with
 |none=>false
 |some d=>os.any fun o=>Me d o.op||match o.op with
  |.call c=>match c.callee with
   |.value _=>c.args.toList.any (zX d)
   |_=>false
  |.build _ ps=>ps.toList.any fun p=>zX d p.2
  |.buildSlice _ _ ps=>ps.toList.any fun p=>zX d p.2
  |_=>false
def uG (i:Nat)(os:List Oper):Bool:=os.any fun o=>match o.guard with
 |some (g,_)=>g==i
 |none=>false
def FM (T:fD)(s:St)(dst:Option Tmp)(t:TypeId)(x:Operand)(K:St→Prop):Prop:=
 match T t with
 |some E=>match E.k with
  |.sl _=>match s.ev x with
   |.one c=>match iG c with
    |some n=>∀m:Nat,n≤m→(c= .nil→m=0)→eE K (s.put dst (.one (.int .i64 m)))
    |none=>False
   |_=>False
  |_=>False
 |none=>False
def NW (T:fD)(t:TypeId):Prop:=
 match T t with
 |some S=>(match S.k with
  |.sl _=>True
  |_=>False)
 |none=>False
theorem MB {T:fD}{P:Program}(hT:eD P T){t:TypeId}(h:NW T t):∃e,P.underlying t=some (.slice e):=by
 unfold NW at h
 cases hTt:T t with
 |none=>rw[hTt]at h;exact h.elim
 |some S=>
  rw[hTt]at h;simp only at h
  split at h
  ·rename_i e hk
   exact⟨e,ff hT hTt hk⟩
  exact h.elim
def Ig (T:fD)(s:St)(dst:Option Tmp)(t:TypeId)(x:Operand)(K:St→Prop):Prop:=
 match T t with
 |some E=>match E.k with
  |.sl _=>match s.ev x with
   |.one c=>match iG c with
    |some n=>∀b:Bool,(0<n→b=false)→eE K (s.put dst (.one (.bool b)))
    |none=>False
   |_=>False
  |_=>False
 |none=>False
def Au (T:fD)(op:Op)(dst:Option Tmp)(s:St)(K:St→Prop):Prop:=
 match op with
 |.store t x y=>dst=none∧tf T s t x y K
 |.binOp op t x y _=>vu op=true∧qQ y=true∧Ig T s dst t x K
 |.call c=>match c.callee with
  |.builtin b=>match b,c.args.toList,c.argTypes.toList with
   |.append,[x,y],[t,t']=>NW T t'∧pK T s dst t x y K
   |.cap,[x],[t]=>FM T s dst t x K
   |.clear,[x],[t]=>te T s dst t x K
   |.copy,[x,y],[t,t']=>NW T t'∧yC T s dst t x y K
   |_,_,_=>False
  |_=>False
 |_=>False
def bQ (u:Bool)(e:eG)(K:eG→Prop):Prop:=
 if u then(match e.val with
  |.one (.bool b)=>(b=true→eE K ⟨.one (.bool true),e.vN,e.fz⟩)∧(b=false→eE K ⟨.one (.bool false),e.vN,e.fz⟩)
  |_=>False)
 else K e
def after (s:St)(dst:Option Tmp)(e:eG):St:={s.add dst s.nx e with nx:=s.nx+1}
def dV (u:Bool)(i:Nat)(dst:Option Tmp)(gd:List (Nat×Tmp)):List (Nat×Tmp):=
 if u then(match dst with
  |some d=>(i,d)::gd
  |none=>gd)else gd
def fW:List (Nat×Tmp)→Nat→Option Tmp
 |[],_=>none
 |(i',t)::r,i=>if i=i' then some t else fW r i
def guarded (s:St)(gd:List (Nat×Tmp))(g:Option (Nat×Bool))(A B:Prop):Prop:=
 match g with
 |none=>A
 |some (g,want)=>match fW gd g with
  |some t=>match gv (lk s.env t)with
   |some b=>if b=some want then A else B
   |none=>False
  |none=>False
def pe (dst:Option Tmp)(n:Nat):Prop:=
 match dst with
 |none=>True
 |some d=>d<n
def uD (nx0:Nat):List Nat→Prop
 |[]=>True
 |b::r=>b<nx0∧uD nx0 r
def pU (T:fD)(P:Program):Nat→List Oper→List (Nat×Tmp)→St→(St→Prop)→Prop
 |_,[],_,s,K=>K s
 |i,o::os,gd,s,K=>
  pe o.dst s.n∧guarded s gd o.guard
   (
    if rW o.op then Au T o.op o.dst s (fun s'=>pU T P (i+1) os gd s' K)
    else if cY o.op then orM (eF T P o.op s s.nx s.nx (aQ o.dst os) (fun e=>bQ (uG i os) e fun e'=>pU T P (i+1) os (dV (uG i os) i o.dst gd) (after s o.dst e') K)) (om P o.op o.dst s (fun s'=>pU T P (i+1) os gd s' K))
    else eF T P o.op s s.nx s.nx (aQ o.dst os) (fun e=>bQ (uG i os) e fun e'=>pU T P (i+1) os (dV (uG i os) i o.dst gd) (after s o.dst e') K))
   (pU T P (i+1) os (dV (uG i os) i o.dst gd) (s.put o.dst (.aA [])) K)
def uQ (T:fD)(P:Program)(nx0 len:Nat):Nat→List Oper→List (Nat×Tmp)→St→(St→Prop)→Prop
 |_,[],_,s,K=>K {s with nx:=nx0+len}
 |i,o::os,gd,s,K=>
  if re o.op then pU T P i (o::os) gd {s with nx:=nx0+len} K
  else pe o.dst s.n∧guarded s gd o.guard
   (if cY o.op then orM (eF T P o.op s nx0 (nx0+i) (aQ o.dst os) (fun e=>uD nx0 e.fz∧bQ (uG i os) e fun e'=>uQ T P nx0 len (i+1) os (dV (uG i os) i o.dst gd) (s.add o.dst (nx0+i) e') K)) False else eF T P o.op s nx0 (nx0+i) (aQ o.dst os) (fun e=>uD nx0 e.fz∧bQ (uG i os) e fun e'=>uQ T P nx0 len (i+1) os (dV (uG i os) i o.dst gd) (s.add o.dst (nx0+i) e') K))
   (uQ T P nx0 len (i+1) os (dV (uG i os) i o.dst gd) (s.put o.dst (.aA [])) K)
def gh (T:fD)(P:Program)(nx0 len:Nat)(ws:WL):Nat→List Oper→List (Nat×Tmp)→St→(St→Prop)→Prop
 |_,[],_,s,K=>K {s with nx:=nx0+len}
 |i,o::os,gd,s,K=>
  if iL ws i then gh T P nx0 len ws (i+1) os gd s K
  else pe o.dst s.n∧guarded s gd o.guard
   (if cY o.op then orM (eF T P o.op s nx0 (nx0+i) (aQ o.dst os) (fun e=>uD nx0 e.fz∧bQ (uG i os) e fun e'=>gh T P nx0 len ws (i+1) os (dV (uG i os) i o.dst gd) (s.add o.dst (nx0+i) e') K)) False else eF T P o.op s nx0 (nx0+i) (aQ o.dst os) (fun e=>uD nx0 e.fz∧bQ (uG i os) e fun e'=>gh T P nx0 len ws (i+1) os (dV (uG i os) i o.dst gd) (s.add o.dst (nx0+i) e') K))
   (gh T P nx0 len ws (i+1) os (dV (uG i os) i o.dst gd) (s.put o.dst (.aA [])) K)
def wH (T:fD)(P:Program)(os:List Oper)(o:Oper)(d:Nat)(s:St):Prop:=match o.guard with
 |none=>eF T P o.op s s.nx s.nx false (fun e=>e.val=lk s.env d)
 |some (g,want)=>match(os[g]?).bind (·.dst)with
  |some t=>match gv (lk s.env t)with
   |some b=>if b=some want then eF T P o.op s s.nx s.nx false (fun e=>e.val=lk s.env d)else lk s.env d= .aA []
   |none=>False
  |none=>False
def prom (T:fD)(P:Program)(os:List Oper):List Nat→St→Prop
 |[],_=>True
 |j::r,s=>(match os[j]? with
  |some o=>match o.dst with
   |some d=>d<s.n∧wH T P os o d s
   |none=>False
  |none=>False)∧prom T P os r s
def sW (T:fD)(P:Program)(o:Oper)(os:List Oper)(s:St)(K:St→Prop):Prop:=
 if rW o.op then Au T o.op o.dst s K
 else if cY o.op then orM (eF T P o.op s s.nx s.nx (aQ o.dst os) (fun e=>K (after s o.dst e))) (om P o.op o.dst s K)
 else eF T P o.op s s.nx s.nx (aQ o.dst os) (fun e=>K (after s o.dst e))
def Ex (T:fD)(P:Program)(os:List Oper)(i:Nat)(pd:List Nat)(s:St)(K:St→Prop):Prop:=match os[i]? with
  |some o=>pe o.dst s.n∧sW T P o os s (fun s'=>prom T P os pd s'∧K s')
  |none=>False
def iK (T:fD)(P:Program)(os:List Oper):WL→St→(St→Prop)→Prop
 |.nil,s,K=>K s
 |.cons i pd sub .nil,s,K=>Ex T P os i pd s (fun s'=>iK T P os sub s' K)
 |.cons i pd sub (.cons i' pd' sub' alt'),s,K=>Ex T P os i pd s (fun s'=>iK T P os sub s' K)∧iK T P os (.cons i' pd' sub' alt') s K
 |.cons _ _ _ (.opt _ _ _ _),_,_=>False
 |.opt _ _ _ _,_,_=>False
structure Kp where
 ks:List Nat
 ms:List (Nat×WL)
def mq:List (Nat×WL)→Nat→Option WL
 |[],_=>none
 |(i,ws)::r,id=>if id=i then some ws else mq r id
def gc (keep:List Nat)(s:St):St:={s with env:=keep.map fun t=>(t,lk s.env t)}
def oH (T:fD)(P:Program)(m:Option WL)(os:List Oper)(s:St)(K:St→Prop):Prop:=
 match m with
 |none=>uQ T P s.nx os.length 0 os [] s K
 |some (.opt q d t1 t2)=>gh T P s.nx os.length t1 0 os [] s (fun s'=>iK T P os t1 s' K∧iK T P os t2 (Om d (s.nx+q) s') K)
 |some ws=>gh T P s.nx os.length ws 0 os [] s (fun s'=>iK T P os ws s' K)
def ie (T:fD)(P:Program)(ms:List (Nat×WL))(id:Nat)(draw:Bool)(os:List Oper)(s:St)(K:St→Prop):Prop:=
 if draw then oH T P (mq ms id) os s K else pU T P 0 os [] s K
def Sub (s s':St):Prop:=∀G a w,oI G s a w→oI G s' a w
def vc (T:fD)(P:Program)(keep:Kp):Code→St→(Exit→St→Prop)→Prop
 |.skip,s,Q=>Q .normal s
 |.region id ops draw,s,Q=>ie T P keep.ms id draw ops.toList s (fun s'=>Q .normal (gc keep.ks s'))
 |.seq a b,s,Q=>vc T P keep a s (fun e s'=>match e with
  |.normal=>vc T P keep b s' Q
  |e=>Q e s')
 |.cond c a b,s,Q=>match s.ev c with
  |.one (.bool t)=>(t=true→eE (fun s=>vc T P keep a s Q) s)∧(t=false→eE (fun s=>vc T P keep b s Q) s)
  |_=>False
 |.block id c,s,Q=>vc T P keep c s (fun e s'=>match e with
  |.exit id'=>if id'=id then Q .normal s' else Q (.exit id') s'
  |e=>Q e s')
 |.loop c,s,Q=>∃(ι:Type) (I:ι→St) (m:ι→Nat) (x0:ι),Sub s (I x0)∧∀x,eE (fun s=>vc T P keep c s (fun e s'=>match e with
  |.normal=>∃y,Sub s' (I y)∧m y<m x
  |e=>Q e s')) (I x)
 |.exit id,s,Q=>Q (.exit id) s
 |.ret,s,Q=>Q .ret s
 |_,_,_=>False
theorem HA.mono {P:Program}{ops:Array Oper}{o:Oper}{s:St}{K K':St→Prop}(h:HA P ops o s K)(hk:∀s',K s'→K' s'):HA P ops o s K':=by
 unfold HA at*
 have hw:mv P o s K→mv P o s K':=fun h G a w hs Q next hn=>h G a w hs Q next (fun s' a' w' h1 h2=>hn s' a' w' (hk s' h1) h2)
 split at h
 ·exact hw h
 obtain⟨t,b,h1,h2,h3,h4⟩:=h;exact⟨t,b,h1,h2,fun e=>hw (h3 e),fun e=>hk _ (h4 e)⟩
def zY (ops:Array Oper)(gd:List (Nat×Tmp)):Prop:=∀g t,fW gd g=some t→br ops g=some t
theorem zY.set {ops:Array Oper}{gd:List (Nat×Tmp)}(h:zY ops gd){i:Nat}{o:Oper}(ho:ops[i]? =some o)(u:Bool):zY ops (dV u i o.dst gd):=by
 unfold dV
 split
 ·cases hd:o.dst with
  |none=>exact h
  |some d=>
   intro g t hg;simp only[fW]at hg
   split at hg
   ·rename_i hgi
    subst hgi;simp only[Option.some.injEq]at hg;subst hg;unfold br;rw[ho];exact hd
   exact h g t hg
 exact h
theorem jC {u:Bool}{e:eG}{K:eG→Prop}(h:bQ u e K):K e:=by
 unfold bQ at h
 split at h
 ·split at h
  ·rename_i b hb
   obtain⟨v,bl,fz⟩:=e;simp only at hb;subst hb
   cases b
   ·exact h.2 rfl
   exact h.1 rfl
  exact h.elim
 exact h
section
variable {T:fD}{P:Program}(hT:eD P T)
include hT
theorem qH {o:Oper}{s:St}{K:St→Prop}{c:Call}(ho:o.op= .call c)(hcal:c.callee= .builtin .cap){x:Operand}(hargs:c.args= #[x]){t:TypeId}(htys:c.argTypes= #[t])(hdn:bT o s.n)(h:FM T s o.dst t x K):mv P o s K:=by
 unfold FM at h
 cases hTt:T t with
 |none=>rw[hTt]at h;exact h.elim
 |some E=>
  rw[hTt]at h;simp only at h
  split at h
  ·rename_i e hEk
   have hu:=ff hT hTt hEk
   split at h
   ·rename_i cc hx
    split at h
    ·rename_i n hl
     intro G a w hsim Q next hk;obtain⟨ρ,hs⟩:=hsim;have hev:=hs.ev x;rw[hx]at hev;obtain⟨ad,cap,hv,hc,hn⟩:=Dc hl hev;have hr:(execOp a.eval o).run P w= .ok (.value (.int .i64 cap)) w:=by
      unfold execOp;rw[ho];simp only[resolve,hcal,Sem.run_bind,Sem.run_pure,Result.andThen_ok,invoke,Go.builtin,hargs,htys];simp only[Builtin.cap_,hv,List.map_toArray,List.map_cons,List.map_nil,List.getElem?_toArray,List.getElem?_cons_zero,Sem.run_bind,av hu,Result.andThen_ok,Sem.run_pure];rfl
     refine Oper.cS hr (hk _ _ _ (h cap hc hn) ⟨ρ,?_⟩);have h1:=hs.put (dst:=o.dst) (x:=.one (.int .i64 cap)) (v:=.int .i64 cap) hdn rfl
     cases hd:o.dst with
     |none=>rw[hd]at h1;exact h1
     |some d=>rw[hd]at h1;exact h1
    exact h.elim
   exact h.elim
  exact h.elim
omit hT in
theorem E9 {ρ:Nat→Loc}{dom ok:Nat→Prop}{w:World}{c:C}{n:Nat}{v:Value}(hl:iG c=some n)(h:aB ρ dom ok w c v):∃a cap,v= .slice a n cap∧(0<n→∃ad,a=some ad):=by
 cases c with
 |own b wd off len=>
  simp only[iG,Option.some.injEq]at hl;subst hl;obtain⟨_,_,cap,_,hr⟩:=h
  rcases hr with⟨g,o1,o2,_,hv,_⟩|⟨_,hv,h0,_⟩
  ·exact⟨_,_,hv,fun _=>⟨_,rfl⟩⟩
  exact⟨none,0,by rw[hv,h0],fun hp=>by omega⟩
 |win b b2 off len=>
  simp only[iG,Option.some.injEq]at hl;subst hl;obtain⟨_,_,_,cap,_,hr⟩:=h
  rcases hr with⟨g,o1,o2,_,hv,_⟩|⟨_,hv,h0,_⟩
  ·exact⟨_,_,hv,fun _=>⟨_,rfl⟩⟩
  exact⟨none,0,by rw[hv,h0],fun hp=>by omega⟩
 |ints k xs=>
  simp only[iG,Option.some.injEq]at hl;subst hl;obtain⟨a,cap,hv,_,hr⟩:=h
  rcases hr with hr|⟨g,o,ha,_⟩
  ·exact⟨a,cap,hv,fun hp=>by omega⟩
  exact⟨a,cap,hv,fun _=>⟨_,ha⟩⟩
 |rows wd m f=>
  simp only[iG,Option.some.injEq]at hl;subst hl;obtain⟨a,cap,hv,_,hr⟩:=h
  rcases hr with hr|⟨g,o,ha,_⟩
  ·exact⟨a,cap,hv,fun hp=>by omega⟩
  exact⟨a,cap,hv,fun _=>⟨_,ha⟩⟩
 |nil=>
  simp only[iG,Option.some.injEq]at hl;subst hl;exact⟨none,0,h,fun hp=>by omega⟩
 |any=>simp[iG]at hl
 |bool b=>simp[iG]at hl
 |int k n=>simp[iG]at hl
 |str b=>simp[iG]at hl
 |ptr b off=>simp[iG]at hl
 |eptr b wd i off=>simp[iG]at hl
 |elt c wd i off=>simp[iG]at hl
 |fn f n caps=>simp[iG]at hl
omit hT in
theorem rR (w:World)(d:Nat){t e:TypeId}(hu:P.underlying t=some (.slice e))(ad:Option Addr)(n cap l c0:Nat):(Op.equalIn (d+1) t (.slice ad n cap) (.slice none l c0)).run P w= .ok ad.isNone w:=by
 cases ad<;>simp only[Op.equalIn,Sem.run_bind,av hu,Result.andThen_ok,Sem.run_pure,Option.isNone]
theorem PI {
       o:Oper} {s:St} {K:St→Prop} {op:BinOp} {t t':TypeId} {x y:Operand} (ho:o.op= .binOp op t x y t') (hop:vu op=true) (hy:qQ y=true) (hdn:bT o s.n) (h:Ig T s o.dst t x K):mv P o s K:=by
 have hop:op= .eql:=by cases op<;>simp [vu]at hop⊢
 subst hop;have hyv:∃l c,y= .const (.slice none l c):=by
  cases y<;>simp [qQ]at hy
  rename_i v
  cases v<;>simp [xc]at hy
  rename_i a l c
  cases a<;>simp at hy
  exact⟨l,c,rfl⟩
 obtain⟨l,c0,rfl⟩:=hyv;unfold Ig at h
 cases hTt:T t with
 |none=>rw[hTt]at h;exact h.elim
 |some E=>
  rw[hTt]at h;simp only at h
  split at h
  ·rename_i e hEk
   have hu:=ff hT hTt hEk
   split at h
   ·rename_i cc hx
    split at h
    ·rename_i n hl
     intro G a w hsim Q next hk;obtain⟨ρ,hs⟩:=hsim;have hev:=hs.ev x;rw[hx]at hev;obtain⟨ad,cap,hv,hn⟩:=E9 hl hev;have hr:(execOp a.eval o).run P w= .ok (.value (.bool ad.isNone)) w:=by
      unfold execOp;rw[ho];refine dS ?_;have hce:a.eval (.const (.slice none l c0))= .slice none l c0:=rfl;rw[hv,hce];have hg:(eqGuard .eql t x (.const (.slice none l c0)) (.slice ad n cap) (.slice none l c0)).run P w= .ok () w:=by
       unfold eqGuard;rfl
      have he:(Op.equal t (.slice ad n cap) (.slice none l c0)).run P w= .ok ad.isNone w:=by
       exact rR w 9999 hu ad n cap l c0
      rw[Sem.run_bind,hg,Result.andThen_ok];simp only[Go.binOp,Sem.run_bind,he,Result.andThen_ok,Sem.run_pure]
     refine Oper.cS hr (hk _ _ _ (h ad.isNone (fun hp=>by obtain⟨x,rfl⟩:=hn hp;rfl)) ⟨ρ,?_⟩);have h1:=hs.put (dst:=o.dst) (x:=.one (.bool ad.isNone)) (v:=.bool ad.isNone) hdn rfl
     cases hd:o.dst with
     |none=>rw[hd]at h1;exact h1
     |some d=>rw[hd]at h1;exact h1
    exact h.elim
   exact h.elim
  exact h.elim
theorem vS {o:Oper}{s:St}{K:St→Prop}(hdn:bT o s.n)(h:Au T o.op o.dst s K):mv P o s K:=by
 unfold Au at h
 split at h
 ·rename_i t x y ho
  exact Nm hT ho h.1 h.2
 ·rename_i op t x y t' ho
  exact PI hT ho h.1 h.2.1 hdn h.2.2
 ·rename_i c ho
  split at h
  ·rename_i b hb
   split at h
   ·rename_i x y t t' hb2 hargs htys
    obtain⟨hsl,h⟩:=h;obtain⟨e',he'⟩:=MB hT hsl;exact Lt hT ho hb (Array.toList_inj.1 hargs) (Array.toList_inj.1 htys) he' hdn h
   ·rename_i x t hb2 hargs htys
    exact qH hT ho hb (Array.toList_inj.1 hargs) (Array.toList_inj.1 htys) hdn h
   ·rename_i x t hb2 hargs htys
    exact NR hT ho hb (Array.toList_inj.1 hargs) (Array.toList_inj.1 htys) hdn h
   ·rename_i x y t t' hb2 hargs htys
    exact OG hT ho hb (Array.toList_inj.1 hargs) (Array.toList_inj.1 htys) hdn h.2
   exact h.elim
  exact h.elim
 exact h.elim
omit hT in
theorem sE {o:Oper}{n:Nat}(h:pe o.dst n):bT o n:=fun d hd=>by rw[hd]at h;exact h
theorem gI {ops:Array Oper}:∀(os:List Oper) (i:Nat) (gd:List (Nat×Tmp)) (s:St) (K:St→Prop),ops.toList.drop i=os→zY ops gd→pU T P i os gd s K→uU P ops os s K
 |[],_,_,_,_,_,_,h=>h
 |o::os,i,gd,s,K,hdrop,hgd,h=>by
  simp only[pU]at h;obtain⟨hd,h⟩:=h;have hdl:=sE hd;have ho:ops[i]? =some o:=by
   have:(ops.toList.drop i)[0]? =some o:=by rw[hdrop];rfl
   rw[List.getElem?_drop]at this
   simpa using this
  have hdrop':ops.toList.drop (i+1)=os:=by
   rw[←List.drop_drop,hdrop];rfl
  have taken:(if rW o.op then Au T o.op o.dst s (fun s'=>pU T P (i+1) os gd s' K)
    else if cY o.op then orM (eF T P o.op s s.nx s.nx (aQ o.dst os) (fun e=>bQ (uG i os) e fun e'=>pU T P (i+1) os (dV (uG i os) i o.dst gd) (after s o.dst e') K)) (om P o.op o.dst s (fun s'=>pU T P (i+1) os gd s' K))
    else eF T P o.op s s.nx s.nx (aQ o.dst os) (fun e=>bQ (uG i os) e fun e'=>pU T P (i+1) os (dV (uG i os) i o.dst gd) (after s o.dst e') K))→mv P o s (fun s'=>uU P ops os s' K):=by
   intro h
   split at h
   ·have:=vS hT hdl h
    intro G a w hs Q next hn;exact this G a w hs Q next (fun s' a' w' h1 h2=>hn s' a' w' (gI os (i+1) gd s' K hdrop' hgd h1) h2)
   split at h
   ·rcases h with h|h
    ·obtain⟨e,hK,hre⟩:=fO hT hdl h;exact hre.Pu (gI os (i+1) _ _ K hdrop' (hgd.set ho _) (jC hK))
    have:=FK hdl h
    intro G a w hs Q next hn;exact this G a w hs Q next (fun s' a' w' h1 h2=>hn s' a' w' (gI os (i+1) gd s' K hdrop' hgd h1) h2)
   obtain⟨e,hK,hre⟩:=fO hT hdl h;exact hre.Pu (gI os (i+1) _ _ K hdrop' (hgd.set ho _) (jC hK))
  refine⟨hdl,?_⟩;unfold HA;unfold guarded at h
  cases hg:o.guard with
  |none=>rw[hg]at h;exact taken h
  |some gw=>
   obtain⟨g,want⟩:=gw;rw[hg]at h;simp only at h
   cases hgl:fW gd g with
   |none=>rw[hgl]at h;exact h.elim
   |some t=>
    rw[hgl]at h;simp only at h
    split at h
    ·rename_i b hb
     refine⟨t,b,hgd g t hgl,hb,fun e=>?_,fun e=>?_⟩
     ·rw[if_pos e]at h;exact taken h
     rw[if_neg e]at h;exact gI os (i+1) _ _ K hdrop' (hgd.set ho _) h
    exact h.elim
theorem Cu {o:Oper}{os:List Oper}{s:St}{K:St→Prop}(hd:bT o s.n)(h:sW T P o os s K):mv P o s K:=by
 unfold sW at h
 split at h
 ·exact vS hT hd h
 split at h
 ·rcases h with h|h
  ·obtain⟨e,hK,hre⟩:=fO hT hd h;exact hre.Pu hK
  exact FK hd h
 obtain⟨e,hK,hre⟩:=fO hT hd h;exact hre.Pu hK
theorem tL {ops:Array Oper}{s:St}:∀(pd:List Nat),(∀j∈pd,∃o,ops[j]? =some o∧iD o.op=true)→prom T P ops.toList pd s→Promise P ops s pd
 |[],_,_=>fun j hj=>by cases hj
 |i::r,hl,h=>by
  simp only[prom]at h;obtain⟨h1,h2⟩:=h;intro j hj
  rcases List.mem_cons.1 hj with rfl|hj
  ·obtain⟨o,ho,hlate⟩:=hl j (by simp);rw[Array.getElem?_toList,ho]at h1;simp only at h1
   cases hd:o.dst with
   |none=>rw[hd]at h1;exact h1.elim
   |some d=>
    rw[hd]at h1;obtain⟨hdn,h1⟩:=h1;have doit:eF T P o.op s s.nx s.nx false (fun e=>e.val=lk s.env d)→Lz P o s s.nx (lk s.env d):=fun h1=>by
     obtain⟨e,he,hre⟩:=fO hT (fun d' hd'=>by rw[hd]at hd';obtain rfl:=Option.some.inj hd';exact hdn) h1;have he:e.val=lk s.env d:=he;rw[←he];exact(hre.2 hlate).2.2
    refine⟨o,d,ho,hd,?_,hdn⟩;unfold wH at h1;unfold G9
    split at h1
    ·rename_i hg;(try rw[hg]);exact doit h1
    rename_i g want hg
    try rw[hg]
    split at h1
    ·rename_i t ht
     split at h1
     ·rename_i b hb
      refine⟨t,b,?_,hb,?_⟩
      ·unfold br;rw[←Array.getElem?_toList];exact ht
      split at h1
      ·rename_i hbw;rw[if_pos hbw];exact doit h1
      rename_i hbw;rw[if_neg hbw];exact h1
     exact h1.elim
    exact h1.elim
  exact tL r (fun j hj=>hl j (by simp[hj])) h2 j hj
theorem uy {ops:Array Oper}{ws:WL}{ex:Option Nat}{pre:List Nat}{i:Nat}{pd:List Nat}{sub:WL}{s:St}{K K':St→Prop}(h1:Pb ops ws ex pre i pd sub)(h:Ex T P ops.toList i pd s K)(hK:∀s',K s'→K' s'):EF P ops i pd s K':=by
 simp only[Ex,Array.getElem?_toList]at h;obtain⟨o,ho,_,_,hop⟩:=h1.op;rw[ho]at h;obtain⟨hd,h⟩:=h;have hdl:bT o s.n:=sE hd;refine⟨o,ho,hdl,fun G a w hs Q next hk=>Cu hT hdl h G a w hs Q next fun s' a' w' k1 k2=>hk s' a' w' ⟨?_,hK _ k1.2⟩ k2⟩;exact tL hT pd (fun j hj=>by obtain⟨oj,d,_,k1,k2,_⟩:=hop j hj;exact⟨oj,k1,k2⟩) k1.1
theorem gF {ops:Array Oper}{ws:WL}{ex:Option Nat}:∀(t:WL) (pre:List Nat) (s:St) (K:St→Prop),mm ops ws ex pre t=true→iK T P ops.toList t s K→lT P ops t s K
 |.nil,_,_,_,_,h=>h
 |.opt _ _ _ _,_,_,_,_,h=>h.elim
 |.cons _ _ _ (.opt _ _ _ _),_,_,_,_,h=>by rw[iK]at h;exact h.elim
 |.cons i pd sub .nil,pre,s,K,hg,h=>by
  obtain⟨h1,_⟩:=jg hg;rw[iK]at h;rw[lT];exact uy hT h1 h fun s' k=>gF sub (i::pre) s' K h1.sub k
 |.cons i pd sub (.cons i' pd' sub' alt'),pre,s,K,hg,h=>by
  obtain⟨h1,h2⟩:=jg hg;rw[iK]at h;rw[lT];exact⟨uy hT h1 h.1 fun s' k=>gF sub (i::pre) s' K h1.sub k,gF (.cons i' pd' sub' alt') pre s K h2 h.2⟩
def Gp (P:Program)(ops:Array Oper)(ws:WL)(σ:St)(es:Nat→eG)(k:Nat):Prop:=
 (∀j,∀b∈(es j).fz,b<σ.nx)∧(∀(j:Nat) o,j<k→bG ws j=true→ops[j]? =some o→kX P ops σ.nx j o (aK σ σ.nx ops es (bG ws) j) (es j))∧
  ∀(j:Nat) o,j<k→bG ws j=true→ops[j]? =some o→jW o.op=true→(es j).fz=[]
omit hT in
theorem NL {op:Op}{s:St}{nx0 id:Nat}{fz:Bool}{K:eG→Prop}(ha:jW op=true)(h:eF T P op s nx0 id fz K):eF T P op s nx0 id fz (fun e=>K e∧e.fz=[]):=by
 cases op<;>simp only[jW,Bool.false_eq_true]at ha
 simp only[eF]at h⊢
 split at h
 ·exact⟨h,trivial⟩
 exact h.elim
def mQ (os:List Oper):Nat:=(os.takeWhile fun o=>!re o.op).length
omit hT in
theorem wK {nx0:Nat}:∀{l:List Nat},uD nx0 l→∀b∈l,b<nx0
 |[],_,b,hb=>by simp at hb
 |x::r,h,b,hb=>by
  rcases List.mem_cons.1 hb with rfl|hb
  ·exact h.1
  exact wK h.2 b hb
omit hT in
theorem zG {σ:St}{nx0:Nat}{ops:Array Oper}{e e':Nat→eG}{L:Nat→Bool}:∀k,(∀j,j<k→e j=e' j)→aK σ nx0 ops e L k=aK σ nx0 ops e' L k:=by
 intro k
 induction k with
 |zero=>intro _;rfl
 |succ k ih=>intro h;simp only[aK,ih (fun j hj=>h j (by omega)),h k (by omega)]
def Laid (P:Program)(ops:Array Oper)(σ:St)(es:Nat→eG)(k:Nat):Prop:=
 (∀j,∀b∈(es j).fz,b<σ.nx)∧∀(j:Nat) o,j<k→ops[j]? =some o→kX P ops σ.nx j o (aK σ σ.nx ops es (fun _=>true) j) (es j)
theorem wD {ops:Array Oper}{σ:St}:∀(os:List Oper) (i:Nat) (gd:List (Nat×Tmp)) (s:St) (K:St→Prop) (es:Nat→eG),ops.toList.drop i=os→zY ops gd→s=aK σ σ.nx ops es (fun _=>true) i→
  Laid P ops σ es i→uQ T P σ.nx ops.size i os gd s K→
  ∃es',Laid P ops σ es' (i+mQ os)∧uU P ops (ops.toList.drop (i+mQ os)) {aK σ σ.nx ops es' (fun _=>true) (i+mQ os)with nx:=σ.nx+ops.size} K
 |[],i,gd,s,K,es,hdrop,hgd,hs,hl,h=>by
  refine⟨es,hl,?_⟩;simp only[mQ,List.takeWhile_nil,List.length_nil,Nat.add_zero,hdrop];rw[←hs];exact h
 |o::os,i,gd,s,K,es,hdrop,hgd,hs,hl,h=>by
  simp only[uQ]at h;have ho:ops[i]? =some o:=by
   have:(ops.toList.drop i)[0]? =some o:=by rw[hdrop];rfl
   rw[List.getElem?_drop]at this
   simpa using this
  have hdrop':ops.toList.drop (i+1)=os:=by
   rw[←List.drop_drop,hdrop];rfl
  by_cases hlast:re o.op=true
  ·rw[if_pos hlast]at h;have hn:mQ (o::os)=0:=by simp[mQ,List.takeWhile_cons,hlast]
   rw[hn,Nat.add_zero,hdrop];refine⟨es,hl,?_⟩
   have:=gI hT (ops:=ops) (o::os) i gd _ K hdrop hgd h
   rw[hs]at this;exact this
  rw[if_neg hlast]at h;obtain⟨hd,h⟩:=h;have hdl:=sE hd;have hn:mQ (o::os)=mQ os+1:=by simp[mQ,List.takeWhile_cons,hlast]
  rw[hn,show i+(mQ os+1)=i+1+mQ os by omega]
  -- one more laid down
  have more:∀(e:eG) (gd':List (Nat×Tmp)),zY ops gd'→(∀b∈e.fz,b<σ.nx)→kX P ops σ.nx i o s e→uQ T P σ.nx ops.size (i+1) os gd' (s.add o.dst (σ.nx+i) e) K→
    ∃es',Laid P ops σ es' (i+1+mQ os)∧uU P ops (ops.toList.drop (i+1+mQ os)) {aK σ σ.nx ops es' (fun _=>true) (i+1+mQ os)with nx:=σ.nx+ops.size} K:=by
   intro e gd' hgd' hfz hst hv;have hsame:∀j,j<i→es j=(fun j=>if j=i then e else es j) j:=fun j hj=>by simp only;rw[if_neg (by omega)]
   have hacc:∀j,j≤i→aK σ σ.nx ops (fun j=>if j=i then e else es j) (fun _=>true) j=aK σ σ.nx ops es (fun _=>true) j:=fun j hj=>(zG j (fun m hm=>hsame m (by omega))).symm;refine wD os (i+1) gd' (s.add o.dst (σ.nx+i) e) K (fun j=>if j=i then e else es j) hdrop' hgd' ?_ ⟨fun j b hb=>?_,fun j o' hj ho'=>?_⟩ hv
   ·simp only[aK,if_true];rw[hacc i (Nat.le_refl _),←hs]
    have:br ops i=o.dst:=by unfold br;rw[ho];rfl
    rw[this]
   ·simp only at hb
    split at hb
    ·exact hfz b hb
    exact hl.1 j b hb
   rw[hacc j (by omega)]
   by_cases hji:j=i
   ·subst hji;rw[ho]at ho';obtain rfl:=Option.some.inj ho';simp only[if_true];rw[←hs];exact hst
   simp only[hji,if_false];exact hl.2 j o' (by omega) ho'
  have taken:(if cY o.op then orM (eF T P o.op s σ.nx (σ.nx+i) (aQ o.dst os) (fun e=>uD σ.nx e.fz∧bQ (uG i os) e fun e'=>uQ T P σ.nx ops.size (i+1) os (dV (uG i os) i o.dst gd) (s.add o.dst (σ.nx+i) e') K)) False else eF T P o.op s σ.nx (σ.nx+i) (aQ o.dst os) (fun e=>uD σ.nx e.fz∧bQ (uG i os) e fun e'=>uQ T P σ.nx ops.size (i+1) os (dV (uG i os) i o.dst gd) (s.add o.dst (σ.nx+i) e') K))→
    ∃e,a7 P o s σ.nx (σ.nx+i) e∧(∀b∈e.fz,b<σ.nx)∧uQ T P σ.nx ops.size (i+1) os (dV (uG i os) i o.dst gd) (s.add o.dst (σ.nx+i) e) K:=by
   intro h;have h:eF T P o.op s σ.nx (σ.nx+i) (aQ o.dst os) (fun e=>uD σ.nx e.fz∧bQ (uG i os) e fun e'=>uQ T P σ.nx ops.size (i+1) os (dV (uG i os) i o.dst gd) (s.add o.dst (σ.nx+i) e') K):=by
    split at h
    ·rcases h with h|h
     ·exact h
     exact h.elim
    exact h
   obtain⟨e,hK,hre⟩:=fO hT hdl h;exact⟨e,hre,wK hK.1,jC hK.2⟩
  unfold guarded at h
  cases hg:o.guard with
  |none=>
   rw[hg]at h;obtain⟨e,hre,hfz,hv⟩:=taken h;exact more e _ (hgd.set ho _) hfz ⟨hdl,by rw[hg];exact hre⟩ hv
  |some gw=>
   obtain⟨g,want⟩:=gw;rw[hg]at h;simp only at h
   cases hgl:fW gd g with
   |none=>rw[hgl]at h;exact h.elim
   |some t=>
    rw[hgl]at h;simp only at h
    split at h
    ·rename_i b hb
     by_cases hbw:b=some want
     ·rw[if_pos hbw]at h;obtain⟨e,hre,hfz,hv⟩:=taken h;exact more e _ (hgd.set ho _) hfz ⟨hdl,by rw[hg];exact⟨t,b,hgd g t hgl,hb,by rw[if_pos hbw];exact hre⟩⟩ hv
     rw[if_neg hbw]at h;refine more eG.skip (dV (uG i os) i o.dst gd) (hgd.set ho _) (fun b hb=>by simp[eG.skip]at hb) ⟨hdl,by rw[hg];exact⟨t,b,hgd g t hgl,hb,by rw[if_neg hbw]⟩⟩ ?_;unfold eG.skip;rw[St.add_plain];exact h
    exact h.elim
theorem lF {ops:Array Oper}{σ:St}{ws:WL}:∀(os:List Oper) (i:Nat) (gd:List (Nat×Tmp)) (s:St) (K:St→Prop) (es:Nat→eG),i≤ops.size→ops.toList.drop i=os→zY ops gd→s=aK σ σ.nx ops es (bG ws) i→
  Gp P ops ws σ es i→gh T P σ.nx ops.size ws i os gd s K→
  ∃es',Gp P ops ws σ es' ops.size∧K (tG σ ops es' ws)
 |[],i,gd,s,K,es,hi,hdrop,hgd,hs,hl,h=>by
  have:i=ops.size:=by
   have:=List.drop_eq_nil_iff.1 hdrop
   simp at this;omega
  subst this;refine⟨es,hl,?_⟩;unfold tG;rw[←hs];exact h
 |o::os,i,gd,s,K,es,hi,hdrop,hgd,hs,hl,h=>by
  simp only[gh]at h;have ho:ops[i]? =some o:=by
   have:(ops.toList.drop i)[0]? =some o:=by rw[hdrop];rfl
   rw[List.getElem?_drop]at this
   simpa using this
  have hlt:=(Array.getElem?_eq_some_iff.1 ho).1;have hdrop':ops.toList.drop (i+1)=os:=by
   rw[←List.drop_drop,hdrop];rfl
  by_cases hw:iL ws i=true
  ·rw[if_pos hw]at h;have hnR:bG ws i=false:=by simp[bG,hw]
   refine lF os (i+1) gd s K es (by omega) hdrop' hgd ?_ ⟨hl.1,fun j o' hj hR ho'=>?_,fun j o' hj hR ho'=>?_⟩ h
   ·simp only[aK,hnR,Bool.false_eq_true,if_false];exact hs
   ·by_cases hji:j=i
    ·rw[hji,hnR]at hR;cases hR
    exact hl.2.1 j o' (by omega) hR ho'
   by_cases hji:j=i
   ·rw[hji,hnR]at hR;cases hR
   exact hl.2.2 j o' (by omega) hR ho'
  rw[if_neg hw]at h;have hR:bG ws i=true:=by simp[bG,hw]
  obtain⟨hd,h⟩:=h;have hdl:=sE hd;have more:∀(e:eG) (gd':List (Nat×Tmp)),zY ops gd'→(∀b∈e.fz,b<σ.nx)→(jW o.op=true→e.fz=[])→kX P ops σ.nx i o s e→gh T P σ.nx ops.size ws (i+1) os gd' (s.add o.dst (σ.nx+i) e) K→
    ∃es',Gp P ops ws σ es' ops.size∧K (tG σ ops es' ws):=by
   intro e gd' hgd' hfz hfa hst hv;have hsame:∀j,j<i→es j=(fun j=>if j=i then e else es j) j:=fun j hj=>by simp only;rw[if_neg (by omega)]
   have hacc:∀j,j≤i→aK σ σ.nx ops (fun j=>if j=i then e else es j) (bG ws) j=aK σ σ.nx ops es (bG ws) j:=fun j hj=>(zG j (fun m hm=>hsame m (by omega))).symm;refine lF os (i+1) gd' (s.add o.dst (σ.nx+i) e) K (fun j=>if j=i then e else es j) (by omega) hdrop' hgd' ?_ ⟨fun j b hb=>?_,fun j o' hj hRj ho'=>?_,fun j o' hj hRj ho'=>?_⟩ hv
   ·simp only[aK,hR,if_true];rw[hacc i (Nat.le_refl _),←hs]
    have:br ops i=o.dst:=by unfold br;rw[ho];rfl
    rw[this]
   ·simp only at hb
    split at hb
    ·exact hfz b hb
    exact hl.1 j b hb
   ·rw[hacc j (by omega)]
    by_cases hji:j=i
    ·subst hji;rw[ho]at ho';obtain rfl:=Option.some.inj ho';simp only[if_true];rw[←hs];exact hst
    simp only[hji,if_false];exact hl.2.1 j o' (by omega) hRj ho'
   by_cases hji:j=i
   ·subst hji;rw[ho]at ho';obtain rfl:=Option.some.inj ho';simp only[if_true];exact hfa
   simp only[hji,if_false];exact hl.2.2 j o' (by omega) hRj ho'
  have taken:(if cY o.op then orM (eF T P o.op s σ.nx (σ.nx+i) (aQ o.dst os) (fun e=>uD σ.nx e.fz∧bQ (uG i os) e fun e'=>gh T P σ.nx ops.size ws (i+1) os (dV (uG i os) i o.dst gd) (s.add o.dst (σ.nx+i) e') K)) False else eF T P o.op s σ.nx (σ.nx+i) (aQ o.dst os) (fun e=>uD σ.nx e.fz∧bQ (uG i os) e fun e'=>gh T P σ.nx ops.size ws (i+1) os (dV (uG i os) i o.dst gd) (s.add o.dst (σ.nx+i) e') K))→
    ∃e,a7 P o s σ.nx (σ.nx+i) e∧(∀b∈e.fz,b<σ.nx)∧(jW o.op=true→e.fz=[])∧gh T P σ.nx ops.size ws (i+1) os (dV (uG i os) i o.dst gd) (s.add o.dst (σ.nx+i) e) K:=by
   intro h;have h:eF T P o.op s σ.nx (σ.nx+i) (aQ o.dst os) (fun e=>uD σ.nx e.fz∧bQ (uG i os) e fun e'=>gh T P σ.nx ops.size ws (i+1) os (dV (uG i os) i o.dst gd) (s.add o.dst (σ.nx+i) e') K):=by
    split at h
    ·rcases h with h|h
     ·exact h
     exact h.elim
    exact h
   by_cases ha:jW o.op=true
   ·obtain⟨e,hK,hre⟩:=fO hT hdl (NL ha h);exact⟨e,hre,wK hK.1.1,fun _=>hK.2,jC hK.1.2⟩
   obtain⟨e,hK,hre⟩:=fO hT hdl h;exact⟨e,hre,wK hK.1,fun h=>absurd h ha,jC hK.2⟩
  unfold guarded at h
  cases hg:o.guard with
  |none=>
   rw[hg]at h;obtain⟨e,hre,hfz,hfa,hv⟩:=taken h;exact more e _ (hgd.set ho _) hfz hfa ⟨hdl,by rw[hg];exact hre⟩ hv
  |some gw=>
   obtain⟨g,want⟩:=gw;rw[hg]at h;simp only at h
   cases hgl:fW gd g with
   |none=>rw[hgl]at h;exact h.elim
   |some t=>
    rw[hgl]at h;simp only at h
    split at h
    ·rename_i b hb
     by_cases hbw:b=some want
     ·rw[if_pos hbw]at h;obtain⟨e,hre,hfz,hfa,hv⟩:=taken h;exact more e _ (hgd.set ho _) hfz hfa ⟨hdl,by rw[hg];exact⟨t,b,hgd g t hgl,hb,by rw[if_pos hbw];exact hre⟩⟩ hv
     rw[if_neg hbw]at h;refine more eG.skip (dV (uG i os) i o.dst gd) (hgd.set ho _) (fun b hb=>by simp[eG.skip]at hb) (fun _=>rfl) ⟨hdl,by rw[hg];exact⟨t,b,hgd g t hgl,hb,by rw[if_neg hbw]⟩⟩ ?_;unfold eG.skip;rw[St.add_plain];exact h
    exact h.elim
end
def codeOk (kp:Kp):Code→Bool
 |.region id ops draw=>!draw||(match mq kp.ms id with
  |none=>tx ops (mQ ops.toList)
  |some ws=>Ob ops ws)
 |.seq a b=>codeOk kp a&&codeOk kp b
 |.cond _ a b=>codeOk kp a&&codeOk kp b
 |.block _ c=>codeOk kp c
 |.loop c=>codeOk kp c
 |.skip=>true
 |.exit _=>true
 |.ret=>true
 |_=>false
theorem s6 {T:fD}{P:Program}(hT:eD P T)(hm:P.follows .mixedOrders=true){id:Nat}{ops:Array Oper}{draw:Bool}{kp:Kp}(hck:codeOk kp (.region id ops draw)=true){s:St}{K:St→Prop}(h:ie T P kp.ms id draw ops.toList s K)
  {G:Ctx} {a:Act} {w:World} (hs:oI G s a w):(Code.region id ops draw).wp P (fun e a w=>e= .normal∧∃s',K s'∧oI G s' a w) a w:=by
 unfold ie at h
 cases draw with
 |false=>
  simp only[Bool.false_eq_true,if_false]at h;have hW:=gI hT (ops:=ops) ops.toList 0 [] s K (by simp) (fun g t hg=>by simp[fW]at hg) h;refine wp_region ?_;have key:∀(os:List Oper) (i:Nat) (s:St) (a:Act) (w:World),ops.toList.drop i=os→uU P ops os s K→oI G s a w→wpOps P ops (fun e a w=>e= .normal∧∃s',K s'∧oI G s' a w) (List.range' i os.length) a w:=by
   intro os
   induction os with
   |nil=>intro i s a w _ hW hs;exact⟨rfl,s,hW,hs⟩
   |cons o os ih=>
    intro i s a w hdrop hW hs;have ho:ops[i]? =some o:=by
     have:(ops.toList.drop i)[0]? =some o:=by rw[hdrop];rfl
     rw[List.getElem?_drop]at this
     simpa using this
    have hdrop':ops.toList.drop (i+1)=os:=by
     rw[←List.drop_drop,hdrop];rfl
    rw[List.length_cons,List.range'_succ,wpOps_cons];exact HA.step ho hW.2 hW.1 hs fun s' a' w' h1 h2=>ih (i+1) s' a' w' hdrop' h1 h2
  have:=key ops.toList 0 s a w (by simp) hW hs
  rw[List.range_eq_range']
  simpa using this
 |true=>
  simp only[if_true]at h;have hck0:(match mq kp.ms id with
   |none=>tx ops (mQ ops.toList)
   |some ws=>Ob ops ws)=true:=by simpa[codeOk]using hck
  have hsz:ops.toList.length=ops.size:=by simp
  unfold oH at h;rw[hsz]at h
  cases hmd:mq kp.ms id with
  |some ws=>
   rw[hmd]at h hck0;simp only at hck0;obtain⟨ρ,hr⟩:=hs;have hacc0:∀(es:Nat→eG) (wt:WL) k,aK s s.nx ops es (fun j=>bG wt j&&(Array.replicate ops.size false).getD j false) k=s:=by
    intro es wt k
    induction k with
    |zero=>rfl
    |succ k ih=>
     simp only[aK];rw[if_neg (by simp[Array.getD]),ih]
   have hcnt:iF ops (Array.replicate ops.size false)≤ops.size:=by
    unfold iF
    have:=List.countP_le_length (p:=fun i=>!(Array.replicate ops.size false).getD i false) (l:=List.range ops.size)
    simpa using this
   have hstart:∀(es:Nat→eG) (wt:WL) (ex:Option Nat),oP P G ops wt ex True s es K (Array.replicate ops.size false) a w.drew:=fun es wt ex=>by
    refine⟨by simp,fun i hi=>by simp[Array.getD]at hi,.inl ⟨trivial,fun i hi=>by simp[Array.getD]at hi,ρ,?_⟩⟩;rw[hacc0];have h1:aR G (fun b=>b<s.nx) ρ s a w.drew:=hr.drew;exact h1.cR (fun b hb=>Or.inl hb)
   refine wp_region_any hm ?_;have plain:(∀q d t1 t2,ws≠ .opt q d t1 t2)→wpAny P .any ops (fun e a w=>e= .normal∧∃s',K s'∧oI G s' a w) ops.size (Array.replicate ops.size false) a w.drew:=fun hno=>by
    have hg3:D8 ops ws=true∧kf ops ws [] ws=true∧mm ops ws none [] ws=true:=by
     cases ws with
     |opt q d t1 t2=>exact absurd rfl (hno q d t1 t2)
     |nil=>simpa[Ob,and_assoc]using hck0
     |cons _ _ _ _=>simpa[Ob,and_assoc]using hck0
    have h':gh T P s.nx ops.size ws 0 ops.toList [] s (fun s'=>iK T P ops.toList ws s' K):=by
     cases ws with
     |opt q d t1 t2=>exact absurd rfl (hno q d t1 t2)
     |nil=>exact h
     |cons _ _ _ _=>exact h
    have hg:=tA hg3.1;obtain⟨es,hl,hW⟩:=lF hT (ops:=ops) (σ:=s) (ws:=ws) ops.toList 0 [] s _ (fun _=>eG.skip) (Nat.zero_le _) (by simp) (fun g t hg=>by simp[fW]at hg) rfl ⟨fun j b hb=>by simp[eG.skip]at hb,fun j o hj=>by omega,fun j o hj=>by omega⟩ h';have hW':=gF hT (ops:=ops) ws [] _ K hg3.2.2 hW;exact kW (ex:=none) (F:=True) hg (fun _=>hg3.2.1) (fun _=>hg3.2.2) hl.1 (fun _ i o hR ho=>hl.2.1 i o (Array.getElem?_eq_some_iff.1 ho).1 hR ho) (fun _=>hW') (fun _ q hq=>by cases hq) (fun s' a' w' h1 h2=>⟨rfl,s',h1,h2⟩) (fun ch a a' w h=>by cases h.1) ops.size _ a _ (hstart es ws none) hcnt
   cases ws with
   |nil=>exact plain fun _ _ _ _ e=>by cases e
   |cons _ _ _ _=>exact plain fun _ _ _ _ e=>by cases e
   |opt q d t1 t2=>
    have hk:=Ll hck0;obtain⟨es,hl,hW1,hW2⟩:=lF hT (ops:=ops) (σ:=s) (ws:=t1) ops.toList 0 [] s _ (fun _=>eG.skip) (Nat.zero_le _) (by simp) (fun g t hg=>by simp[fW]at hg) rfl ⟨fun j b hb=>by simp[eG.skip]at hb,fun j o hj=>by omega,fun j o hj=>by omega⟩ h;obtain⟨oq,hoq,_,haq⟩:=hk.al;exact xT hk hl.1 (hl.2.2 q oq hk.qs hk.qR hoq haq) (fun i o hR ho=>hl.2.1 i o (Array.getElem?_eq_some_iff.1 ho).1 hR ho) (gF hT (ops:=ops) t1 [] _ K hk.w1 hW1) (gF hT (ops:=ops) t2 [] _ K hk.w2 hW2)
     (fun s' a' w' h1 h2=>⟨rfl,s',h1,h2⟩) (fun ch a a' w h=>by cases h.1) ops.size _ a _ (hstart es t1 (some q)) hcnt
  |none=>
  rw[hmd]at h hck0;simp only at h hck0;have hck':tx ops (mQ ops.toList)=true:=hck0;obtain⟨es,hl,hW⟩:=wD hT (ops:=ops) (σ:=s) ops.toList 0 [] s K (fun _=>eG.skip) (by simp) (fun g t hg=>by simp[fW]at hg) rfl ⟨fun j b hb=>by simp[eG.skip]at hb,fun j o hj=>by omega⟩ h;rw[Nat.zero_add]at hl hW;refine wp_region_any hm ?_;obtain⟨ρ,hr⟩:=hs;have hacc0:∀k,aK s s.nx ops es (fun j=>(Array.replicate ops.size false).getD j false) k=s:=by
   intro k
   induction k with
   |zero=>rfl
   |succ k ih=>
    simp only[aK];rw[if_neg (by simp[Array.getD]),ih]
  refine zd (zO hck') hl.1 hl.2 hW (fun s' a' w' h1 h2=>⟨rfl,s',h1,h2⟩) ops.size _ a _ ⟨by simp,fun i hi=>by simp[Array.getD]at hi,.inl ⟨fun i hi=>by simp[Array.getD]at hi,ρ,?_⟩⟩ ?_
  ·rw[hacc0];have h1:aR G (fun b=>b<s.nx) ρ s a w.drew:=hr.drew;exact h1.cR (fun b hb=>Or.inl hb)
  unfold iF
  have:=List.countP_le_length (p:=fun i=>!(Array.replicate ops.size false).getD i false) (l:=List.range ops.size)
  simpa using this
theorem OC (keep:List Nat)(s:St)(t:Nat):lk (gc keep s).env t=if t∈keep then lk s.env t else .unk:=by
 simp only[gc]
 induction keep with
 |nil=>simp[lk]
 |cons x r ih=>
  simp only[List.map_cons,lk,List.mem_cons]
  by_cases h:t=x
  ·subst h;simp
  rw[if_neg h,ih]
  simp[h]
theorem Ni (keep:List Nat)(s:St):Sub s (gc keep s):=by
 rintro G a w ⟨ρ,h⟩;refine⟨ρ,{hd:=h.hd,hn:=h.hn,env:=fun t=>?_,own:=h.own,inj:=h.inj,os:=h.os,tape:=h.tape,output:=h.output,size:=h.size,keep:=h.keep,wf:=h.wf,home:=h.home,room:=h.room}⟩;rw[OC]
 split
 ·exact h.env t
 trivial
theorem mV {T:fD}{P:Program}(hT:eD P T)(hm:P.follows .mixedOrders=true)(keep:Kp):∀(c:Code),codeOk keep c=true→∀(s:St) (Q:Exit→St→Prop),vc T P keep c s Q→∀(G:Ctx) (a:Act) (w:World),oI G s a w→
  c.wp P (fun e a w=>∃s',Q e s'∧oI G s' a w) a w:=by
 intro c
 induction c with
 |skip=>intro _ s Q h G a w hs;exact wp_skip ⟨s,h,hs⟩
 |region id ops draw=>
  intro hck s Q h G a w hs;refine wp_mono (s6 hT hm hck h hs) ?_;rintro e a w ⟨rfl,s',h1,h2⟩;exact⟨_,h1,Ni keep.ks s' G a w h2⟩
 |seq x y ihx ihy=>
  intro hck s Q h G a w hs;simp only[codeOk,Bool.and_eq_true]at hck;refine wp_seq (wp_mono (ihx hck.1 s _ h G a w hs) ?_);rintro e a w ⟨s',h1,h2⟩
  cases e with
  |normal=>exact ihy hck.2 s' Q h1 G a w h2
  |_=>exact⟨s',h1,h2⟩
 |cond c x y ihx ihy=>
  intro hck s Q h G a w hs;simp only[codeOk,Bool.and_eq_true]at hck;simp only[vc]at h
  split at h
  ·rename_i t ht
   have hev:a.eval c= .bool t:=by
    obtain⟨ρ,hr⟩:=hs
    have:=hr.ev c
    rw[ht]at this;exact this
   exact wp_cond_split hev (fun e=>ihx hck.1 s Q (h.1 e) G a w hs) (fun e=>ihy hck.2 s Q (h.2 e) G a w hs)
  exact h.elim
 |block id c ih=>
  intro hck s Q h G a w hs;refine wp_block (wp_mono (ih hck s _ h G a w hs) ?_);rintro e a w ⟨s',h1,h2⟩
  cases e with
  |exit id'=>
   simp only[Exit.inBlock];simp only at h1
   split
   ·rename_i he;rw[if_pos he]at h1;exact⟨s',h1,h2⟩
   rename_i he;rw[if_neg he]at h1;exact⟨s',h1,h2⟩
  |_=>exact⟨s',h1,h2⟩
 |loop c ih=>
  intro hck s Q h G a w hs;obtain⟨ι,I,m,x0,hsub,hround⟩:=h;refine wp_loop_ghost (fun n a w=>∃x,m x=n∧oI G (I x) a w) (m x0) ⟨x0,rfl,hsub G a w hs⟩ ?_;rintro n a w ⟨x,rfl,hx⟩;refine wp_mono (ih hck (I x) _ (hround x) G a w hx) ?_;rintro e a w ⟨s',h1,h2⟩
  cases e with
  |normal=>
   obtain⟨y,hy,hlt⟩:=h1;exact⟨m y,hlt,y,rfl,hy G a w h2⟩
  |_=>exact⟨s',h1,h2⟩
 |exit id=>intro _ s Q h G a w hs;exact wp_exit ⟨s,h,hs⟩
 |ret=>intro _ s Q h G a w hs;exact wp_ret ⟨s,h,hs⟩
 |_=>intro hck;simp[codeOk]at hck
end Go.Eng
/-
  THE ENGINE, PART U: from a function's text to its contract; and one state for another.
-/
namespace Go.Eng
open Go
def eO:Nat→List V→List (Nat×V)
 |_,[]=>[]
 |i,v::r=>(i,v)::eO (i+1) r
def iS (args:List V)(n:Nat):St:={env:=eO 0 args,own:=[],nx:=1,n:=n}
def fP (x y:V):Prop:=∀ok w v,bZ bg bn ok w x v→bZ bg bn ok w y v
theorem fP.refl (x:V):fP x x:=fun _ _ _ h=>h
theorem Ve {x y:V}(h:x=y):fP x y:=h▸fP.refl x
def K9 (E:Ty):Bool:=
 match E.k.agg with
 |some true=>true
 |some false=>E.size==1
 |none=>false
def FI (
     T:fD) (s:St):ResultVar→Option V
 |.tmp t=>some (Bv s.own s.nx (lk s.env t))
 |.cell a t=>match T t with
  |some E=>match lk s.env a with
   |.one (.ptr b off)=>match lo s.own b with
    |some B=>match B.bk with
     |.var cs=>if off=0∧cs.length=E.size∧K9 E=true then some (Bv s.own s.nx (Oa E.k cs))else none
     |_=>none
    |none=>none
   |_=>none
  |none=>none
def tY (T:fD)(s:St):List ResultVar→Option (List V)
 |[]=>some []
 |r::rs=>match FI T s r,tY T s rs with
  |some v,some vs=>some (v::vs)
  |_,_=>none
def B9:List V→V
 |[v]=>v
 |vs=>.aA vs
def b7 {α:Type}(x:Option α)(K:α→Prop):Prop:=
 match x with
 |some a=>K a
 |none=>False
theorem oG {α:Type}(a:α)(K:α→Prop):b7 (some a) K=K a:=rfl
def Kz (T:fD)(rs:List ResultVar)(R:V→Prop):Exit→St→Prop
 |.ret,s=>b7 (tY T s rs) fun vs=>R (B9 vs)
 |.normal,s=>b7 (tY T s rs) fun vs=>R (B9 vs)
 |_,_=>False
theorem LH {E:Ty}(h:K9 E=true):E.k.agg=some true∨(E.k.agg=some false∧E.size=1):=by
 unfold K9 at h
 cases ha:E.k.agg with
 |none=>rw[ha]at h;cases h
 |some b=>cases b with
  |true=>exact .inl rfl
  |false=>rw[ha]at h;exact .inr ⟨rfl,by simpa using h⟩
def vd (G:Ctx)(w:World)(g:Nat):Prop:=g<w.heap.size∧¬G.forb g
theorem Eh {G:Ctx}{dom:Nat→Prop}{ρ:Nat→Loc}{s:St}{a:Act}{w:World}(hs:aR G dom ρ s a w){ids:List Nat}{g:Nat}(h:cU G s.own ρ w ids g):vd G w g:=by
 rcases h with h|⟨b,_,B,o,hl,ha⟩
 ·exact⟨h.1,h.2.1⟩
 have:=(hs.own b B hl).2.2.2 g o ha
 exact⟨this.1,this.2.1⟩
theorem yq {G:Ctx}{dom:Nat→Prop}{ρ:Nat→Loc}{s:St}{a:Act}{w:World}(hs:aR G dom ρ s a w){x:V}{v:Value}(h:bZ ρ dom (aF G s.own ρ w) w x v):dJ bg bn (vd G w) w (Bv s.own s.nx x) v:=by
 have o:Oper:=default;have h1:=nO hs (iX.refl s s.nx o) (ky x) x v (fun b hb _=>hb) h;exact dJ.ext (Ext.dx fun g hg=>Eh hs hg) ⟨fun b hb=>hb.elim,fun b hb=>hb.elim⟩ _ _ h1
def DE (tmps:Array Value)(r:ResultVar):Sem Value:=
 match r with
 |.tmp t=>pure (tmps.getD t undef)
 |.cell a t=>do loadVar t (←asAddr (tmps.getD a undef))
theorem H6 {P:Program}{T:fD}(hT:eD P T){G:Ctx}{dom:Nat→Prop}{ρ:Nat→Loc}{s:St}{a:Act}{w:World}(hs:aR G dom ρ s a w){r:ResultVar}{x:V}(h:FI T s r=some x):
  ∃v,(DE a.tmps r).run P w= .ok v w∧dJ bg bn (vd G w) w x v:=by
 cases r with
 |tmp t=>
  simp only[FI,Option.some.injEq]at h;subst h;exact⟨_,rfl,yq hs (hs.env t)⟩
 |cell ad t=>
  simp only[FI]at h
  cases hTt:T t with
  |none=>rw[hTt]at h;cases h
  |some E=>
   rw[hTt]at h;simp only at h;obtain⟨i,d,z,hi,hu,_,hk,hsz,_⟩:=bD hT hTt
   split at h
   ·rename_i b off hx
    cases hlo:lo s.own b with
    |none=>rw[hlo]at h;cases h
    |some B=>
     rw[hlo]at h;simp only at h
     split at h
     ·rename_i cs hB
      split at h
      ·rename_i hc
       obtain⟨rfl,hlen,hld0⟩:=hc;simp only[Option.some.injEq]at h;subst h;have hev:=hs.env ad;rw[hx]at hev;obtain⟨_,g,o',haddr,hval⟩:=hev;obtain⟨_,_,hrep,_⟩:=hs.own b B hlo;unfold aL at hrep;rw[haddr]at hrep;obtain⟨cur,e,hg,hcell⟩:=hrep;rw[hB]at hcell;simp only at hcell;have hld:=LH hld0;rw[hk]at hld;obtain⟨v,hv,hr⟩:=jS (P:=P) (t:=t) hi hu g (o'+0) cs (by omega) (by
        rcases hld with h|⟨h1,h2⟩
        ·exact .inl h
        ·exact .inr ⟨h1,by omega⟩) (fun j c hj=>by
        obtain⟨u,hu',hr⟩:=hcell j c (by simpa[Bk.cell]using hj);exact⟨u,by rw[cell_of_row w g _ cur e (0,0) hg];exact hu',hr⟩)
       rw[←hk]at hr;refine⟨v,?_,yq hs hr⟩;simp only[DE,Sem.run_bind];have hval':a.tmps.getD ad undef= .pointer (some ⟨g,o'+0,none⟩):=hval;rw[hval'];exact hv
      cases h
     cases h
   cases h
theorem z8 {P:Program}{T:fD}(hT:eD P T){G:Ctx}{dom:Nat→Prop}{ρ:Nat→Loc}{s:St}{a:Act}{w:World}(hs:aR G dom ρ s a w):∀(rs:List ResultVar) (xs:List V),tY T s rs=some xs→
  ∃vs,(rs.mapM (DE a.tmps)).run P w= .ok vs w∧a6 bg bn (vd G w) w xs vs
 |[],xs,h=>by
  simp only[tY,Option.some.injEq]at h;subst h;exact⟨[],rfl,trivial⟩
 |r::rs,xs,h=>by
  simp only[tY]at h
  split at h
  ·rename_i x xs' hx hxs
   simp only[Option.some.injEq]at h;subst h;obtain⟨v,hv,hr⟩:=H6 hT hs hx;obtain⟨vs,hvs,hrs⟩:=z8 hT hs rs xs' hxs;refine⟨v::vs,?_,hr,hrs⟩;rw[List.mapM_cons];simp only[Sem.run_bind,hv,Result.andThen_ok,hvs,Sem.run_pure]
  cases h
theorem nh:∀(args:List V) (i t:Nat),lk (eO i args) t=if i≤t∧t<i+args.length then args.getD (t-i) .unk else .unk
 |[],i,t=>by simp[eO,lk]
 |v::r,i,t=>by
  simp only[eO,lk,List.length_cons]
  by_cases h:t=i
  ·subst h;rw[if_pos rfl,if_pos (by omega)];simp
  rw[if_neg h,nh r (i+1) t]
  by_cases h2:i+1≤t∧t<i+1+r.length
  ·rw[if_pos h2,if_pos (by omega)];obtain⟨q,hq⟩:∃q,t=i+1+q:=⟨t-(i+1),by omega⟩;subst hq;rw[show i+1+q-(i+1)=q by omega,show i+1+q-i=q+1 by omega]
   simp
  rw[if_neg h2,if_neg (by omega)]
theorem a6.length {ρ:Nat→Loc}{dom ok:Nat→Prop}{w:World}:∀{xs:List V} {vs:List Value},a6 ρ dom ok w xs vs→xs.length=vs.length
 |[],[],_=>rfl
 |_::xs,_::vs,h=>by simp[a6.length h.2]
 |[],_::_,h=>h.elim
 |_::_,[],h=>h.elim
theorem pv {P:Program}{T:fD}(hT:eD P T)(hm:P.follows .mixedOrders=true){f:FuncId}{fn:Func}{c:Code}(hf:P.funcs[f]? =some fn)(hb:fn.body=some c)(hn:(fn.name== "runtime.NumGoroutine")=false)
  (args:List V) (hargs:args.length≤fn.ntmps) (keep:Kp) (hck:codeOk keep c=true) (r:V)
  (h:vc T P keep c (iS args fn.ntmps) (Kz T fn.results.toList (fun x=>fP x r))):Pr P f args r:=by
 refine⟨⟨fn,hf,by rw[hb];rfl,hn⟩,fun ok w vs hok hvs=>?_⟩;have hlen:=a6.length hvs;simp only[Array.length_toList]at hlen
 let G:Ctx:={W0:=w,forb:=fun g=>g<w.heap.size∧¬ok g,mine:=fun _=>False}
 let a0:Act:={tmps:=vs++Array.replicate (fn.ntmps-vs.size) undef,defers:=[]}
 have hokG:∀g,ok g→aF G [] bg w g:=fun g hg=>⟨hok g hg,fun hf=>hf.2 hg,fun b B hl=>by cases hl⟩;have hsim:oI G (iS args fn.ntmps) a0 w:=by
  refine⟨bg,{hd:=rfl,hn:=?_,env:=fun t=>?_,own:=fun b B hl=>(by cases hl),inj:=fun b B b' B' hl=>(by cases hl),os:=rfl,tape:=rfl,output:=rfl,size:=Nat.le_refl _,keep:=fun _ _ _=>rfl,wf:=fun k hk=>hk.1,home:=fun l hl=>(by cases hl),room:=fun _=>Nat.le_refl _}⟩
  ·simp[a0,iS];omega
  simp only[iS,nh]
  split
  ·rename_i ht
   simp only[Nat.sub_zero,Nat.zero_add]at ht⊢;have hx:args[t]? =some (args.getD t .unk):=by
    rw[X7,X8 ht.2];rfl
   obtain⟨v,hv,hr⟩:=a6.get hvs t _ hx;have hv':a0.tmps.getD t undef=v:=by
    rw[Array.getElem?_toList]at hv;have hlt:=(Array.getElem?_eq_some_iff.1 hv).1;simp only[a0,Array.getD_eq_getD_getElem?];rw[Array.getElem?_append_left hlt,hv];rfl
   rw[hv'];exact bZ.we (dJ.ext (Ext.dx hokG) ⟨fun b hb=>hb.elim,fun b hb=>hb.elim⟩ _ _ hr)
  trivial
 refine calls_of_wp hf hb (wp_mono (mV hT hm keep c hck _ _ h G a0 w hsim) ?_);rintro e a w' ⟨s',hq,ρ,hs⟩;have fin:b7 (tY T s' fn.results.toList) (fun vs=>fP (B9 vs) r)→a.defers=[]∧∃v,(results fn a.tmps).run P w'= .ok v w'∧∃u,Ending.returned v= .returned u∧Go.RowKit.Below w.heap.size w w'∧bZ bg bn (fun g=>ok g∨(w.heap.size≤g∧g<w'.heap.size)) w' r u:=by
  intro hq;unfold b7 at hq
  split at hq
  ·rename_i xs hxs
   obtain⟨us,hus,hrep⟩:=z8 hT hs _ _ hxs;refine⟨hs.hd,?_⟩;have hend:∀g,vd G w' g→ok g∨(w.heap.size≤g∧g<w'.heap.size):=fun g hg=>by
    by_cases hgs:g<w.heap.size
    ·by_cases hok':ok g
     ·exact .inl hok'
     exact absurd ⟨hgs,hok'⟩ hg.2
    exact .inr ⟨by omega,hg.1⟩
   have hbelow:Go.RowKit.Below w.heap.size w w':=⟨hs.os,hs.tape,hs.output,hs.size,fun k hk=>hs.keep k hk (fun hf=>hf)⟩;have hmap:(fn.results.mapM fun
     |.tmp t=>pure (a.tmps.getD t undef)
     |.cell ad t=>do loadVar t (←asAddr (a.tmps.getD ad undef)):Sem (Array Value)).run P w'= .ok us.toArray w':=by
    have e:(fun r:ResultVar=>(match r with
     |.tmp t=>pure (a.tmps.getD t undef)
     |.cell ad t=>do loadVar t (←asAddr (a.tmps.getD ad undef)):Sem Value))=DE a.tmps:=by
     funext r;cases r<;>rfl
    have e2:=congrArg (fun g=>(fn.results.mapM g).run P w') e;refine e2.trans ?_;rw[Array.mapM_eq_mapM_toList,Sem.run_map,hus];rfl
   have hres:(results fn a.tmps).run P w'= .ok (if h:us.toArray.size=1 then us.toArray[0]else .tuple us.toArray) w':=by
    unfold results;rw[Sem.run_bind];refine Eq.trans (congrArg (fun x=>Result.andThen x _) hmap) ?_;rfl
   refine⟨_,hres,_,rfl,hbelow,?_⟩;have hrr:bZ bg bn (fun g=>ok g∨(w.heap.size≤g∧g<w'.heap.size)) w' (B9 xs) (if h:us.toArray.size=1 then us.toArray[0]else .tuple us.toArray):=by
    have hx:Ext (vd G w') (fun g=>ok g∨(w.heap.size≤g∧g<w'.heap.size)) w' w':=Ext.dx hend;have hsame:ik bn bn bg bg:=⟨fun _ h=>h,fun _ _=>rfl⟩;have hl2:=a6.length hrep
    match xs,us,hrep,hl2 with
    |[x],[u],hrep,_=>
     rw[dif_pos (by simp)];exact bZ.we (dJ.ext hx hsame _ _ hrep.1)
    |[],[],_,_=>
     rw[dif_neg (by simp)];exact⟨#[],rfl,trivial⟩
    |x::y::xs,u::v::us,hrep,_=>
     rw[dif_neg (by simp)];exact⟨_,rfl,a6.ext hx hsame _ _ (by simpa using hrep)⟩
   exact hq _ _ _ hrr
  exact hq.elim
 cases e with
 |normal=>exact fin hq
 |ret=>exact fin hq
 |_=>exact hq.elim
end Go.Eng
/-
  THE ENGINE, PART V: one state for another: what a loop's head asks.
-/
namespace Go.Eng
open Go
def rU:List (Nat×Option Nat)→Nat→Option Nat
 |[],b=>some b
 |(b',x)::r,b=>if b=b' then x else rU r b
def OB:C→Bool
 |.elt _ _ _ _=>true
 |_=>false
def Y2 (rn:List (Nat×Option Nat))(nx:Nat)(c:C)(c':C):Prop:=
 match c' with
 |.any=>True
 |.own b' w' o' l'=>b'<nx∧match c with
  |.own b w o l=>rU rn b'=some b∧w=w'∧o=o'∧l=l'
  |.nil=>rU rn b'=none∧o'=0∧l'=0
  |.win b _ o l=>rU rn b'=some b∧w'=1∧o=o'∧l=l'
  |_=>False
 |.win b' b2' o' l'=>b'<nx∧b2'<nx∧match c with
  |.own b w o l=>rU rn b'=some b∧w=1∧o=o'∧l=l'
  |.win b _ o l=>rU rn b'=some b∧o=o'∧l=l'
  |_=>False
 |.ptr b' o'=>b'<nx∧match c with
  |.ptr b o=>rU rn b'=some b∧o=o'
  |_=>False
 |.int k' n'=>match c with
  |.int k n=>k=k'∧n=n'
  |_=>False
 |.bool b'=>match c with
  |.bool b=>b=b'
  |_=>False
 |.str s'=>match c with
  |.str s=>s=s'
  |_=>False
 |.nil=>match c with
  |.nil=>True
  |_=>False
 |.ints k' xs'=>match c with
  |.ints k xs=>k=k'∧xs=xs'
  |.nil=>xs'=[]
  |_=>False
 |.rows w' n' f'=>match c with
  |.rows w n f=>w=w'∧n=n'∧∀i j,i<n→j<w→f i j=f' i j
  |.nil=>n'=0
  |_=>False
 |.fn f' n' caps'=>match c with
  |.fn f n caps=>f=f'∧((n=0∧n'=0)∨(n=1∧n'=1∧OB (caps 0)=true∧caps 0=caps' 0))
  |_=>False
 |.elt s' w' i' o'=>match c with
  |.elt s w i o=>s=s'∧w=w'∧i=i'∧o=o'
  |_=>False
 |_=>False
def Y3 (rn:List (Nat×Option Nat))(nx:Nat):List C→List C→Prop
 |[],[]=>True
 |c::cs,c'::cs'=>Y2 rn nx c c'∧Y3 rn nx cs cs'
 |_,_=>False
def Y1 (rn:List (Nat×Option Nat))(nx:Nat)(x x':V):Prop:=
 match x' with
 |.unk=>True
 |.one c'=>match x with
  |.one c=>Y2 rn nx c c'
  |_=>False
 |.agg cs'=>match x with
  |.agg cs=>Y3 rn nx cs cs'
  |_=>False
 |.aA _=>False
def EU:C→Bool
 |.nil=>true
 |.ints _ _=>true
 |.rows _ _ _=>true
 |_=>false
theorem uz {ρ:Nat→Loc}{dom ok:Nat→Prop}{w:World}{c:C}{v:Value}(hc:EU c=true)(h:aB ρ dom ok w c v):aP ok w c v:=by
 cases c<;>simp [EU]at hc<;>exact h
def Y5 (rn:List (Nat×Option Nat))(nx:Nat)(B B':Bk):Prop:=
 match B' with
 |.var cs'=>match B with
  |.var cs=>Y3 rn nx cs cs'
  |_=>False
 |.ints _ k' xs'=>match B with
  |.ints _ k xs=>k=k'∧xs=xs'
  |_=>False
 |.rows _ w' n' f'=>match B with
  |.rows _ w n f=>w=w'∧n=n'∧∀i j,i<n→j<w→f i j=f' i j
  |.wins _ _ n g=>w'=1∧n=n'∧∀i,i<n→EU (g i)=true∧g i=f' i 0
  |_=>False
 |.wins _ _ n' g'=>match B with
  |.wins _ _ n g=>n=n'∧∀i,i<n→Y2 rn nx (g i) (g' i)
  |.rows _ w n f=>w=1∧n=n'∧∀i,i<n→Y2 rn nx (f i 0) (g' i)
  |_=>False
def Y7:Bk→Prop
 |.var _=>False
 |.ints _ _ xs=>xs=[]
 |.rows _ _ n _=>n=0
 |.wins _ _ n _=>n=0
def Y0 (rn:List (Nat×Option Nat))(nx:Nat)(env:List (Nat×V)):List (Nat×V)→Prop
 |[]=>True
 |(t,x')::r=>Y1 rn nx (lk env t) x'∧Y0 rn nx env r
def Y4 (rn:List (Nat×Option Nat))(nx:Nat)(own:List (Nat×ft)):List (Nat×ft)→Prop
 |[]=>True
 |(b',B')::r=>(b'<nx∧match rU rn b' with
  |none=>Y7 B'.bk
  |some b=>match lo own b with
   |some B=>(B'.rw=true→B.rw=true)∧Y5 rn nx B.bk B'.bk
   |none=>False)∧Y4 rn nx own r
def Y6 (rn:List (Nat×Option Nat)):List (Nat×ft)→Prop
 |[]=>True
 |(b',_)::r=>(∀p∈r,p.1=b'∨rU rn p.1=none∨rU rn p.1≠rU rn b')∧Y6 rn r
section
variable {rn:List (Nat×Option Nat)}{nx:Nat}{ρ ρ':Nat→Loc}{dom ok ok':Nat→Prop}{w:World}
def bP (rn:List (Nat×Option Nat))(ρ:Nat→Loc)(b':Nat):Loc:=
 match rU rn b' with
 |some b=>ρ b
 |none=>⟨none,0⟩
theorem yx {wd n:Nat}{f f':Nat→Nat→C}{v:Value}(h:∀i j,i<n→j<wd→f i j=f' i j)(hr:aP ok w (.rows wd n f) v):aP ok w (.rows wd n f') v:=by
 obtain⟨a,cap,hv,hc,hr⟩:=hr;refine⟨a,cap,hv,hc,?_⟩
 rcases hr with hr|⟨g,o,ha,hg,hcs⟩
 ·exact .inl hr
 refine .inr ⟨g,o,ha,hg,fun i j hi hj=>?_⟩;rw[←h i j hi hj];exact hcs i j hi hj
theorem jz (hx:Ext ok ok' w w){c c':C}{v:Value}(h:Y2 rn nx c c')(hr:aB ρ dom ok w c v):aB (bP rn ρ) (fun b=>b<nx) ok' w c' v:=by
 cases c' with
 |any=>exact(aB.plain hr).1
 |own b' w' o' l'=>
  obtain⟨hb,h⟩:=h
  cases c with
  |own b wd o l=>
   obtain⟨h1,rfl,rfl,rfl⟩:=h;obtain⟨_,h2,cap,h3,h4⟩:=hr;have e:bP rn ρ b'=ρ b:=by unfold bP;rw[h1]
   exact⟨hb,by rw[e];exact h2,cap,h3,by rw[e];exact h4⟩
  |nil=>
   obtain⟨h1,rfl,rfl⟩:=h;have e:bP rn ρ b'=⟨none,0⟩:=by unfold bP;rw[h1]
   exact⟨hb,by rw[e];simp,0,Nat.le_refl _,.inr ⟨by rw[e],hr,rfl,rfl⟩⟩
  |win b b2 o l=>
   obtain⟨h1,rfl,rfl,rfl⟩:=h;obtain⟨_,_,h2,cap,h3,h4⟩:=hr;have e:bP rn ρ b'=ρ b:=by unfold bP;rw[h1]
   exact⟨hb,by rw[e];exact h2,cap,h3,by rw[e];exact h4⟩
  |_=>exact h.elim
 |win b' b2' o' l'=>
  obtain⟨hb,hb2,h⟩:=h
  cases c with
  |own b wd o l=>
   obtain⟨h1,rfl,rfl,rfl⟩:=h;obtain⟨_,h2,cap,h3,h4⟩:=hr;have e:bP rn ρ b'=ρ b:=by unfold bP;rw[h1]
   exact⟨hb2,hb,by rw[e];exact h2,cap,h3,by rw[e];exact h4⟩
  |win b b2 o l=>
   obtain⟨h1,rfl,rfl⟩:=h;obtain⟨_,_,h2,cap,h3,h4⟩:=hr;have e:bP rn ρ b'=ρ b:=by unfold bP;rw[h1]
   exact⟨hb2,hb,by rw[e];exact h2,cap,h3,by rw[e];exact h4⟩
  |_=>exact h.elim
 |ptr b' o'=>
  obtain⟨hb,h⟩:=h
  cases c with
  |ptr b o=>
   obtain⟨h1,rfl⟩:=h;obtain⟨_,g,o1,h2,h3⟩:=hr;have e:bP rn ρ b'=ρ b:=by unfold bP;rw[h1]
   exact⟨hb,g,o1,by rw[e];exact h2,h3⟩
  |_=>exact h.elim
 |int k' n'=>
  cases c with
  |int k n=>obtain⟨rfl,rfl⟩:=h;exact hr
  |_=>exact h.elim
 |bool b'=>
  cases c with
  |bool b=>cases h;exact hr
  |_=>exact h.elim
 |str s'=>
  cases c with
  |str s=>cases h;exact hr
  |_=>exact h.elim
 |nil=>
  cases c with
  |nil=>exact hr
  |_=>exact h.elim
 |ints k' xs'=>
  cases c with
  |ints k xs=>obtain⟨rfl,rfl⟩:=h;exact aP.ext hx (.ints k xs) v hr
  |nil=>cases h;exact⟨none,0,hr,Nat.le_refl _,.inl rfl⟩
  |_=>exact h.elim
 |rows w' n' f'=>
  cases c with
  |rows wd n f=>
   obtain⟨rfl,rfl,hf⟩:=h;exact aP.ext hx (.rows wd n f') v (yx hf hr)
  |nil=>cases h;exact⟨none,0,hr,Nat.le_refl _,.inl rfl⟩
  |_=>exact h.elim
 |fn f' n' caps'=>
  cases c with
  |fn f n caps=>
   obtain⟨rfl,⟨rfl,rfl⟩|⟨rfl,rfl,h1,h2⟩⟩:=h
   ·obtain⟨cs,hv,hn,_⟩:=hr;exact⟨cs,hv,hn,fun i hi=>absurd hi (Nat.not_lt_zero _)⟩
   obtain⟨cs,hv,hn,hc⟩:=hr;refine⟨cs,hv,hn,fun i hi=>?_⟩;obtain rfl:i=0:=by omega
   have h3:=hc 0 hi;rw[←h2]
   cases hcc:caps 0 with
   |elt s w i o=>rw[hcc]at h3;exact aP.ext hx (.elt s w i o) _ h3
   |_=>rw[hcc]at h1;cases h1
  |_=>exact h.elim
 |elt s' w' i' o'=>
  cases c with
  |elt s w i o=>obtain⟨rfl,rfl,rfl,rfl⟩:=h;exact aP.ext hx (.elt s w i o) v hr
  |_=>exact h.elim
 |eptr b wd i off=>exact h.elim
theorem tK (hx:Ext ok ok' w w):∀{cs cs':List C} {vs:List Value},Y3 rn nx cs cs'→bH ρ dom ok w cs vs→bH (bP rn ρ) (fun b=>b<nx) ok' w cs' vs
 |[],[],[],_,_=>trivial
 |c::cs,c'::cs',v::vs,h,hr=>⟨jz hx h.1 hr.1,tK hx h.2 hr.2⟩
 |[],_::_,_,h,_=>h.elim
 |_::_,[],_,h,_=>h.elim
 |[],[],_::_,_,hr=>hr.elim
 |_::_,_::_,[],_,hr=>hr.elim
theorem uq (hx:Ext ok ok' w w){x x':V}{v:Value}(h:Y1 rn nx x x')(hr:bZ ρ dom ok w x v):bZ (bP rn ρ) (fun b=>b<nx) ok' w x' v:=by
 cases x' with
 |unk=>trivial
 |one c'=>
  cases x with
  |one c=>exact jz hx h hr
  |_=>exact h.elim
 |agg cs'=>
  cases x with
  |agg cs=>obtain⟨vs,hv,hl⟩:=hr;exact⟨vs,hv,tK hx h hl⟩
  |_=>exact h.elim
 |aA xs=>exact h.elim
theorem tU:∀{cs cs':List C},Y3 rn nx cs cs'→∀(j:Nat) c',cs'[j]? =some c'→∃c,cs[j]? =some c∧Y2 rn nx c c'
 |[],[],_,j,c',hj=>by simp at hj
 |c::cs,c0::cs',h,0,c',hj=>by simp at hj;subst hj;exact⟨c,rfl,h.1⟩
 |c::cs,c0::cs',h,j+1,c',hj=>by simpa using tU h.2 j c' (by simpa using hj)
 |[],_::_,h,_,_,_=>h.elim
 |_::_,[],h,_,_,_=>h.elim
theorem yH {B B':Bk}(h:Y5 rn nx B B'):B'.len=B.len:=by
 cases B' with
 |var cs'=>cases B<;>first|rfl|exact h.elim
 |ints e' k' xs'=>
  cases B with
  |ints e k xs=>obtain⟨_,rfl⟩:=h;rfl
  |_=>exact h.elim
 |rows e' w' n' f'=>
  cases B with
  |rows e wd n f=>obtain⟨_,rfl,_⟩:=h;rfl
  |wins e b2 n g=>obtain⟨_,rfl,_⟩:=h;rfl
  |_=>exact h.elim
 |wins e' b2' n' g'=>
  cases B with
  |rows e wd n f=>obtain⟨_,rfl,_⟩:=h;rfl
  |wins e b2 n g=>obtain⟨rfl,_⟩:=h;rfl
  |_=>exact h.elim
theorem s7 (hx:Ext ok ok' w w){B B':Bk}{l:Loc}(h:Y5 rn nx B B')(hr:aL ρ dom ok w l B):aL (bP rn ρ) (fun b=>b<nx) ok' w l B':=by
 unfold aL at*
 cases ha:l.addr with
 |none=>
  rw[ha]at hr;simp only at hr⊢;intro j
  cases B' with
  |var cs'=>
   cases B with
   |var cs=>
    cases hj:(Bk.var cs').cell j with
    |none=>rfl
    |some c'=>
     obtain⟨c,hc,_⟩:=tU h j c' hj
     have:=hr j
     simp only[Bk.cell]at this;rw[hc]at this;cases this
   |_=>exact h.elim
  |ints e' k' xs'=>
   cases B with
   |ints e k xs=>obtain⟨rfl,rfl⟩:=h;exact hr j
   |_=>exact h.elim
  |rows e' w' n' f'=>
   cases B with
   |rows e wd n f=>
    obtain⟨rfl,rfl,_⟩:=h
    have:=hr j
    simp only[Bk.cell]at this⊢
    split
    ·rename_i hlt;rw[if_pos hlt]at this;cases this
    rfl
   |wins e b2 n g=>
    obtain⟨rfl,rfl,_⟩:=h
    have:=hr j
    simp only[Bk.cell,Nat.mul_one]at this⊢
    split
    ·rename_i hlt;rw[if_pos hlt]at this;cases this
    rfl
   |_=>exact h.elim
  |wins e' b2' n' g'=>
   cases B with
   |rows e wd n f=>
    obtain⟨rfl,rfl,_⟩:=h
    have:=hr j
    simp only[Bk.cell,Nat.mul_one]at this⊢
    split
    ·rename_i hlt;rw[if_pos hlt]at this;cases this
    rfl
   |wins e b2 n g=>
    obtain⟨rfl,_⟩:=h
    have:=hr j
    simp only[Bk.cell]at this⊢
    split
    ·rename_i hlt;rw[if_pos hlt]at this;cases this
    rfl
   |_=>exact h.elim
 |some p=>
  obtain⟨g,o⟩:=p;rw[ha]at hr;simp only at hr⊢;obtain⟨cur,e,hg,hc⟩:=hr;refine⟨cur,e,hg,fun j c' hj=>?_⟩
  cases B' with
  |var cs'=>
   cases B with
   |var cs=>
    obtain⟨c,hcj,hcr⟩:=tU h j c' hj;obtain⟨u,hu,hr⟩:=hc j c hcj;exact⟨u,hu,jz hx hcr hr⟩
   |_=>exact h.elim
  |ints e' k' xs'=>
   cases B with
   |ints e k xs=>
    obtain⟨rfl,rfl⟩:=h;obtain⟨u,hu,hr⟩:=hc j c' hj;exact⟨u,hu,aP.ext hx _ _ hr⟩
   |_=>exact h.elim
  |rows e' w' n' f'=>
   cases B with
   |rows e wd n f=>
    obtain⟨rfl,rfl,hf⟩:=h;simp only[Bk.cell]at hj
    split at hj
    ·rename_i hlt
     simp only[Option.some.injEq]at hj
     have hwd:0<wd:=by rcases Nat.eq_zero_or_pos wd with h0|h0;(subst h0;simp at hlt);exact h0
     have h1:j/wd<n:=by rw[Nat.div_lt_iff_lt_mul hwd];exact hlt
     obtain⟨u,hu,hr⟩:=hc j (f (j/wd) (j%wd)) (by simp only[Bk.cell,if_pos hlt]);rw[hf _ _ h1 (Nat.mod_lt _ hwd),hj]at hr;exact⟨u,hu,aP.ext hx _ _ hr⟩
    cases hj
   |wins e b2 n g=>
    obtain⟨rfl,rfl,hf⟩:=h;simp only[Bk.cell,Nat.mul_one,Nat.div_one,Nat.mod_one]at hj
    split at hj
    ·rename_i hlt
     simp only[Option.some.injEq]at hj;obtain⟨u,hu,hr⟩:=hc j (g j) (by simp only[Bk.cell,if_pos hlt]);obtain⟨f1,f2⟩:=hf j hlt;have hr:=uz f1 hr;rw[f2,hj]at hr;exact⟨u,hu,aP.ext hx _ _ hr⟩
    cases hj
   |_=>exact h.elim
  |wins e' b2' n' g'=>
   cases B with
   |rows e wd n f=>
    obtain⟨rfl,rfl,hf⟩:=h;simp only[Bk.cell]at hj
    split at hj
    ·rename_i hlt
     simp only[Option.some.injEq]at hj;obtain⟨u,hu,hr⟩:=hc j (f j 0) (by simp only[Bk.cell,Nat.mul_one,if_pos hlt,Nat.div_one,Nat.mod_one])
     have:=jz (ρ:=ρ) (dom:=dom) hx (hf j hlt) (aB.ba hr)
     rw[hj]at this;exact⟨u,hu,this⟩
    cases hj
   |wins e b2 n g=>
    obtain⟨rfl,hf⟩:=h;simp only[Bk.cell]at hj
    split at hj
    ·rename_i hlt
     simp only[Option.some.injEq]at hj;obtain⟨u,hu,hr⟩:=hc j (g j) (by simp only[Bk.cell,if_pos hlt])
     have:=jz hx (hf j hlt) hr
     rw[hj]at this;exact⟨u,hu,this⟩
    cases hj
   |_=>exact h.elim
theorem By {env env':List (Nat×V)}(h:Y0 rn nx env env')(t:Nat):Y1 rn nx (lk env t) (lk env' t):=by
 induction env' with
 |nil=>trivial
 |cons p r ih=>
  obtain⟨t',x'⟩:=p;simp only[lk]
  split
  ·rename_i he;subst he;exact h.1
  exact ih h.2
theorem ly {own own':List (Nat×ft)}(h:Y4 rn nx own own'){b':Nat}{B':ft}(hl:lo own' b'=some B'):b'<nx∧((rU rn b'=none∧Y7 B'.bk)∨∃b B,rU rn b'=some b∧lo own b=some B∧(B'.rw=true→B.rw=true)∧Y5 rn nx B.bk B'.bk):=by
 induction own' with
 |nil=>cases hl
 |cons p r ih=>
  obtain⟨c,v⟩:=p;simp only[lo]at hl
  split at hl
  ·rename_i he
   subst he;obtain rfl:=Option.some.inj hl;obtain⟨h1,h2⟩:=h.1;refine⟨h1,?_⟩
   split at h2
   ·rename_i hr;exact .inl ⟨hr,h2⟩
   rename_i b hr
   split at h2
   ·rename_i B hB;exact .inr ⟨b,B,hr,hB,h2⟩
   exact h2.elim
  exact ih h.2 hl
theorem GB {own:List (Nat×ft)}{b:Nat}{B:ft}(h:lo own b=some B):∃p∈own,p.1=b:=by
 induction own with
 |nil=>cases h
 |cons p r ih=>
  obtain⟨c,v⟩:=p;simp only[lo]at h
  split at h
  ·rename_i he;exact⟨(c,v),by simp,he.symm⟩
  obtain⟨q,hq,he⟩:=ih h;exact⟨q,by simp[hq],he⟩
theorem DN {own:List (Nat×ft)}(h:Y6 rn own){b1 b2:Nat}(h1:∃p∈own,p.1=b1)(h2:∃p∈own,p.1=b2)(hne:b1≠b2)(hr:rU rn b1=rU rn b2):rU rn b1=none:=by
 induction own with
 |nil=>obtain⟨p,hp,_⟩:=h1;simp at hp
 |cons q r ih=>
  obtain⟨p1,hp1,rfl⟩:=h1;obtain⟨p2,hp2,rfl⟩:=h2
  rcases List.mem_cons.1 hp1 with e1|hm1
  ·rcases List.mem_cons.1 hp2 with e2|hm2
   ·exact absurd (by rw[e1,e2]) hne
   rcases h.1 p2 hm2 with h3|h3|h3
   ·exact absurd (by rw[h3,e1]) hne
   ·rw[hr];exact h3
   exact absurd (by rw[←hr,e1]) h3
  rcases List.mem_cons.1 hp2 with e2|hm2
  ·rcases h.1 p1 hm1 with h3|h3|h3
   ·exact absurd (by rw[h3,e2]) hne
   ·exact h3
   exact absurd (by rw[hr,e2]) h3
  exact ih h.2 ⟨p1,hm1,rfl⟩ ⟨p2,hm2,rfl⟩
end
theorem Sub.of (rn:List (Nat×Option Nat)){s s':St}(hz:rU rn 0=some 0∧0<s'.nx)(hn:s.n=s'.n)(he:Y0 rn s'.nx s.env s'.env)(ho:Y4 rn s'.nx s.own s'.own)(ha:Y6 rn s'.own):Sub s s':=by
 rintro G a w ⟨ρ,h⟩;have hinj:∀b1 B1 b2 B2,lo s'.own b1=some B1→lo s'.own b2=some B2→b1≠b2→∀c,rU rn b1=some c→rU rn b2≠some c:=by
  intro b1 B1 b2 B2 h1 h2 hne c hc hc2
  have:=DN ha (GB h1) (GB h2) hne (hc.trans hc2.symm)
  rw[hc]at this;cases this
 have hok:∀g,aF G s.own ρ w g→aF G s'.own (bP rn ρ) w g:=fun g hg=>⟨hg.1,hg.2.1,fun b' B' hl hrw o hadr=>by
  obtain⟨_,hc⟩:=ly ho hl
  rcases hc with⟨hr,_⟩|⟨b,B,hr,hlo,hrw',_⟩
  ·unfold bP at hadr;rw[hr]at hadr;cases hadr
  unfold bP at hadr;rw[hr]at hadr;exact hg.2.2 b B hlo (hrw' hrw) o hadr⟩
 have hx:Ext (aF G s.own ρ w) (aF G s'.own (bP rn ρ) w) w w:=Ext.dx hok;refine⟨bP rn ρ,{hd:=h.hd,hn:=h.hn.trans hn,env:=fun t=>uq hx (By he t) (h.env t),own:=fun b' B' hl=>?_,inj:=fun b1 B1 b2 B2 h1 h2 hne hrw g o o' hadr=>?_,os:=h.os,tape:=h.tape,output:=h.output,size:=h.size,keep:=h.keep,wf:=h.wf,home:=fun l hl=>⟨hz.2,by unfold bP;rw[hz.1];exact(h.home l hl).2⟩,room:=h.room}⟩
 ·obtain⟨hlt,hc⟩:=ly ho hl
  rcases hc with⟨hr,hem⟩|⟨b,B,hr,hlo,hrw',hbr⟩
  ·have e:bP rn ρ b'=⟨none,0⟩:=by unfold bP;rw[hr]
   rw[e];refine⟨hlt,?_,?_,fun g o hadr=>by cases hadr⟩
   ·cases hB:B'.bk with
    |var cs=>rw[hB]at hem;exact hem.elim
    |ints e k xs=>rw[hB]at hem;have hem:xs=[]:=hem;subst hem;rfl
    |rows e wd n f=>rw[hB]at hem;have hem:n=0:=hem;subst hem;rfl
    |wins e b2 n g=>rw[hB]at hem;have hem:n=0:=hem;subst hem;rfl
   unfold aL;intro j
   cases hB:B'.bk with
   |var cs=>rw[hB]at hem;exact hem.elim
   |ints e k xs=>rw[hB]at hem;have hem:xs=[]:=hem;subst hem;simp[Bk.cell]
   |rows e wd n f=>rw[hB]at hem;have hem:n=0:=hem;subst hem;simp[Bk.cell]
   |wins e b2 n g=>rw[hB]at hem;have hem:n=0:=hem;subst hem;simp[Bk.cell]
  have e:bP rn ρ b'=ρ b:=by unfold bP;rw[hr]
  obtain⟨_,h2,h3,h4⟩:=h.own b B hlo;rw[e];exact⟨hlt,by rw[h2,yH hbr],s7 hx hbr h3,h4⟩
 obtain⟨_,hc1⟩:=ly ho h1;obtain⟨_,hc2⟩:=ly ho h2
 rcases hc1 with⟨hr1,_⟩|⟨c1,D1,hr1,hl1,hw1,_⟩
 ·unfold bP at hadr;rw[hr1]at hadr;cases hadr
 rcases hc2 with⟨hr2,_⟩|⟨c2,D2,hr2,hl2,_,_⟩
 ·unfold bP;rw[hr2];simp
 unfold bP at hadr⊢;rw[hr1]at hadr;rw[hr2];refine h.inj c1 D1 c2 D2 hl1 hl2 (fun e=>?_) (hw1 hrw) g o o' hadr;subst e;exact hinj b1 B1 b2 B2 h1 h2 hne c1 hr1 hr2
theorem Sub.trans {s1 s2 s3:St}(h:Sub s1 s2)(k:Sub s2 s3):Sub s1 s3:=fun G a w hs=>k G a w (h G a w hs)
def r7 (b3:Nat)(B:Bk):C→C
 |.own b w o l=>if b=b3 then fZ B w o l else .own b w o l
 |.any=>.any
 |.bool b=>.bool b
 |.int k n=>.int k n
 |.str s=>.str s
 |.nil=>.nil
 |.ints k xs=>.ints k xs
 |.rows w n f=>.rows w n f
 |.win b b2 o l=>.win b b2 o l
 |.ptr b o=>.ptr b o
 |.elt c w i o=>.elt c w i o
 |.eptr b w i o=>.eptr b w i o
 |.fn f n caps=>.fn f n caps
theorem Sub.r7 {
         s:St} (b b3:Nat) {e:TypeId} {b2 n:Nat} {g:Nat→C} {r:Bool} {B3:ft} (hl:lo s.own b=some ⟨.wins e b2 n g,r⟩) (hl3:lo s.own b3=some B3) (hne:b≠b3):
  Sub s {s with own:=dY (dB s.own [b3]) b ⟨.wins e b2 n (fun i=>Eng.r7 b3 B3.bk (g i)),r⟩}:=by
 rintro G a w ⟨ρ,h⟩;have h2:=h.dB [b3];have hlb:lo (dB s.own [b3]) b=some ⟨.wins e b2 n g,r⟩:=by
  rw[fp,hl]
  simp[hne]
 have hl3':lo (dB s.own [b3]) b3=some ⟨B3.bk,false⟩:=by
  rw[fp,hl3]
  simp
 have hwh:∀c C,lo (dY (dB s.own [b3]) b ⟨.wins e b2 n (fun i=>Eng.r7 b3 B3.bk (g i)),r⟩) c=some C→∃C',lo (dB s.own [b3]) c=some C'∧C'.rw=C.rw∧(c=b∨(c≠b∧C'=C)):=by
  intro c C hc;rw[b5]at hc
  by_cases e1:c=b
  ·subst e1;rw[if_pos rfl]at hc;obtain rfl:=Option.some.inj hc;exact⟨_,hlb,rfl,.inl rfl⟩
  rw[if_neg e1]at hc;exact⟨C,hc,rfl,.inr ⟨e1,rfl⟩⟩
 have hok:∀g',aF G (dB s.own [b3]) ρ w g'→aF G (dY (dB s.own [b3]) b ⟨.wins e b2 n (fun i=>Eng.r7 b3 B3.bk (g i)),r⟩) ρ w g':=fun g' hg=>⟨hg.1,hg.2.1,fun c C hc hrw o=>by
  obtain⟨C',h1,h3,_⟩:=hwh c C hc;exact hg.2.2 c C' h1 (h3.trans hrw) o⟩
 have hext:Ext (aF G (dB s.own [b3]) ρ w) (aF G (dY (dB s.own [b3]) b ⟨.wins e b2 n (fun i=>Eng.r7 b3 B3.bk (g i)),r⟩) ρ w) w w:=Ext.dx hok;have hs:ik (fun b=>b<s.nx) (fun b=>b<s.nx) ρ ρ:=⟨fun _ h=>h,fun _ _=>rfl⟩;refine⟨ρ,h2.rZ hext hs (fun c C hc=>?_) (fun c C c' C' hc hc' hn hrw=>?_) rfl rfl rfl (Nat.le_refl _) fun _ _ _=>rfl⟩
 ·obtain⟨C',h1,h3,h4⟩:=hwh c C hc;obtain⟨k1,k2,k3,k4⟩:=h2.own c C' h1
  rcases h4 with rfl|⟨e1,rfl⟩
  ·rw[hlb]at h1;obtain rfl:=Option.some.inj h1;rw[b5,if_pos rfl]at hc;obtain rfl:=Option.some.inj hc;refine⟨k1,k2,?_,k4⟩;unfold aL at k3⊢
   cases ha:(ρ c).addr with
   |none=>
    rw[ha]at k3;intro j
    have:=k3 j
    simp only[Bk.cell]at this⊢
    split at this
    ·cases this
    rename_i hj;rw[if_neg hj]
   |some x=>
    obtain⟨g1,o1⟩:=x;rw[ha]at k3;obtain⟨cur,e4,hg4,hc4⟩:=k3;refine⟨cur,e4,hg4,fun j cc hj=>?_⟩;simp only[Bk.cell]at hj hc4
    split at hj
    ·rename_i hjl
     obtain⟨u,hu1,hu2⟩:=hc4 j (g j) (if_pos hjl);obtain rfl:=Option.some.inj hj;refine⟨u,hu1,?_⟩;have keep:aB ρ (fun b=>b<s.nx) (aF G (dY (dB s.own [b3]) c ⟨.wins e b2 n (fun i=>Eng.r7 b3 B3.bk (g i)),r⟩) ρ w) w (g j) u:=aB.ext hext hs _ _ hu2;show aB _ _ _ w (Eng.r7 b3 B3.bk (g j)) u
     generalize g j=cj at hu2 keep
     cases cj with
     |own b' wd o l=>
      simp only[Eng.r7]
      by_cases hb:b'=b3
      ·rw[if_pos hb];subst hb;obtain⟨m1,m2,m3,m4⟩:=h2.own b' _ hl3';obtain⟨_,hle,cap,hcap,hv⟩:=hu2;refine aB.ba ?_
       rcases hv with⟨g5,o5,o6,haddr,rfl,hoff,_⟩|⟨haddr,rfl,hl0,hc0⟩
       ·have hokg:aF G (dY (dB s.own [b']) c ⟨.wins e b2 n (fun i=>Eng.r7 b' B3.bk (g i)),r⟩) ρ w g5:=by
         refine⟨(m4 g5 o5 haddr).1,(m4 g5 o5 haddr).2.1,fun c2 C2 hc2 hrw2 o7 he=>?_⟩;obtain⟨C3,h5,h6,_⟩:=hwh c2 C2 hc2;have hne2:c2≠b':=fun e=>by
          subst e;rw[hl3']at h5;obtain rfl:=Option.some.inj h5;rw[←h6]at hrw2;cases hrw2
         exact h2.inj c2 C3 b' _ h5 hl3' hne2 (h6.trans hrw2) g5 o7 o5 he haddr
        exact lL (ρ:=ρ) (dom:=fun b=>b<s.nx) haddr (aL.ext hext hs _ _ (fun _ _ _=>rfl) m3) hokg m2 hle hcap hoff
       subst hl0
       cases hB:B3.bk with
       |var cs=>rfl
       |wins e b2 n g=>rfl
       |ints e k xs=>
        simp only[fZ]
        split
        ·exact⟨none,0,by simp,by simp,.inl (by simp)⟩
        rfl
       |rows e w' n f=>
        simp only[fZ]
        split
        ·exact⟨none,0,rfl,Nat.le_refl _,.inl rfl⟩
        rfl
      rw[if_neg hb];exact keep
     |_=>exact keep
    cases hj
  exact⟨k1,k2,aL.ext hext hs _ _ (fun _ _ _=>rfl) k3,k4⟩
 obtain⟨D,h1,h3,_⟩:=hwh c C hc;obtain⟨D',h1',_,_⟩:=hwh c' C' hc';exact h2.inj c D c' D' h1 h1' hn (h3.trans hrw)
end Go.Eng
/-
  THE ENGINE, PART W: the rules by which a text's proposition is reckoned. Each fires at a state that is written out, and nowhere else.
-/
namespace Go.Eng
open Go
section
variable {T:fD}{P:Program}{kp:Kp}{e:List (Nat×V)}{o:List (Nat×ft)}{x n:Nat}{Q:Exit→St→Prop}{K:St→Prop}{KE:eG→Prop}
theorem Jd:vc T P kp .skip ⟨e,o,x,n⟩ Q=Q .normal ⟨e,o,x,n⟩:=rfl
theorem Ej {id:Nat}{ops:Array Oper}{d:Bool}:vc T P kp (.region id ops d) ⟨e,o,x,n⟩ Q=ie T P kp.ms id d ops.toList ⟨e,o,x,n⟩ (fun s'=>Q .normal (gc kp.ks s')):=rfl
def Kj (T:fD)(P:Program)(kp:Kp)(b:Code)(Q:Exit→St→Prop):Exit→St→Prop:=fun e s'=>match e with
  |.normal=>vc T P kp b s' Q
  |e=>Q e s'
theorem NC {a b:Code}:vc T P kp (.seq a b) ⟨e,o,x,n⟩ Q=vc T P kp a ⟨e,o,x,n⟩ (Kj T P kp b Q):=rfl
theorem zL {b:Code}:Kj T P kp b Q .normal ⟨e,o,x,n⟩=vc T P kp b ⟨e,o,x,n⟩ Q:=rfl
theorem Ih {b:Code}:Kj T P kp b Q .ret ⟨e,o,x,n⟩=Q .ret ⟨e,o,x,n⟩:=rfl
theorem ER {b:Code}{id:Nat}:Kj T P kp b Q (.exit id) ⟨e,o,x,n⟩=Q (.exit id) ⟨e,o,x,n⟩:=rfl
def Md (v:V)(A B:St→Prop)(s:St):Prop:=match v with
 |.one (.bool t)=>(t=true→eE A s)∧(t=false→eE B s)
 |_=>False
theorem AQ {t:Bool}{A B:St→Prop}{s:St}:Md (.one (.bool t)) A B s=((t=true→eE A s)∧(t=false→eE B s)):=rfl
theorem JG {α:Type}{A:α→Prop}{s:α}:(True→eE A s)=A s:=by simp only[true_imp_iff];rfl
theorem KT {α:Type}{A:α→Prop}{s:α}:(False→eE A s)=True:=by simp only[false_imp_iff]
theorem Kv {c:Operand}{a b:Code}:vc T P kp (.cond c a b) ⟨e,o,x,n⟩ Q=Md (St.ev ⟨e,o,x,n⟩ c) (fun s=>vc T P kp a s Q) (fun s=>vc T P kp b s Q) ⟨e,o,x,n⟩:=rfl
def xW (id:Nat)(Q:Exit→St→Prop):Exit→St→Prop:=fun e s'=>match e with
  |.exit id'=>if id'=id then Q .normal s' else Q (.exit id') s'
  |e=>Q e s'
theorem FP {id:Nat}{c:Code}:vc T P kp (.block id c) ⟨e,o,x,n⟩ Q=vc T P kp c ⟨e,o,x,n⟩ (xW id Q):=rfl
theorem uI {id:Nat}:xW id Q .normal ⟨e,o,x,n⟩=Q .normal ⟨e,o,x,n⟩:=rfl
theorem Bc {id:Nat}:xW id Q .ret ⟨e,o,x,n⟩=Q .ret ⟨e,o,x,n⟩:=rfl
theorem An {id id':Nat}:xW id Q (.exit id') ⟨e,o,x,n⟩=if id'=id then Q .normal ⟨e,o,x,n⟩else Q (.exit id') ⟨e,o,x,n⟩:=rfl
def yD {ι:Type}(I:ι→St)(m:ι→Nat)(k:Nat)(Q:Exit→St→Prop):Exit→St→Prop:=fun e s'=>match e with
  |.normal=>∃y,Sub s' (I y)∧m y<k
  |e=>Q e s'
def Mg (T:fD)(P:Program)(kp:Kp)(c:Code)(Q:Exit→St→Prop)(s:St):Prop:=
 ∃(ι:Type) (I:ι→St) (m:ι→Nat) (x0:ι),Sub s (I x0)∧∀x,vc T P kp c (I x) (yD I m (m x) Q)
theorem Ld {c:Code}:vc T P kp (.loop c) ⟨e,o,x,n⟩ Q=Mg T P kp c Q ⟨e,o,x,n⟩:=rfl
theorem Lk {c:Code}{s:St}{ι:Type}(I:ι→St)(m:ι→Nat)(x0:ι)(h0:Sub s (I x0))(h:∀x,vc T P kp c (I x) (yD I m (m x) Q)):Mg T P kp c Q s:=⟨ι,I,m,x0,h0,h⟩
theorem EH {ι:Type}{I:ι→St}{m:ι→Nat}{k:Nat}:yD I m k Q .ret ⟨e,o,x,n⟩=Q .ret ⟨e,o,x,n⟩:=rfl
theorem BY {ι:Type}{I:ι→St}{m:ι→Nat}{k id:Nat}:yD I m k Q (.exit id) ⟨e,o,x,n⟩=Q (.exit id) ⟨e,o,x,n⟩:=rfl
theorem Lq {ι:Type}{I:ι→St}{m:ι→Nat}{k:Nat}{s:St}(y:ι)(h:Sub s (I y))(h1:m y<k):yD I m k Q .normal s:=⟨y,h,h1⟩
theorem IW {id:Nat}:vc T P kp (.exit id) ⟨e,o,x,n⟩ Q=Q (.exit id) ⟨e,o,x,n⟩:=rfl
theorem Mm:vc T P kp .ret ⟨e,o,x,n⟩ Q=Q .ret ⟨e,o,x,n⟩:=rfl
theorem AS {ms:List (Nat×WL)}{id:Nat}{os:List Oper}:ie T P ms id true os ⟨e,o,x,n⟩ K=oH T P (mq ms id) os ⟨e,o,x,n⟩ K:=by simp only[ie,if_true]
theorem zc {os:List Oper}:oH T P none os ⟨e,o,x,n⟩ K=uQ T P x os.length 0 os [] ⟨e,o,x,n⟩ K:=rfl
theorem Bd {os:List Oper}:oH T P (some .nil) os ⟨e,o,x,n⟩ K=gh T P x os.length .nil 0 os [] ⟨e,o,x,n⟩ (fun s'=>iK T P os .nil s' K):=rfl
theorem z9 {i:Nat}{pd:List Nat}{r al:WL}{os:List Oper}:oH T P (some (.cons i pd r al)) os ⟨e,o,x,n⟩ K=gh T P x os.length (.cons i pd r al) 0 os [] ⟨e,o,x,n⟩ (fun s'=>iK T P os (.cons i pd r al) s' K):=rfl
theorem Cf {q d:Nat}{t1 t2:WL}{os:List Oper}:oH T P (some (.opt q d t1 t2)) os ⟨e,o,x,n⟩ K=gh T P x os.length t1 0 os [] ⟨e,o,x,n⟩ (fun s'=>iK T P os t1 s' K∧iK T P os t2 (Om d (x+q) s') K):=rfl
theorem NH {d id:Nat}:Om d id ⟨e,o,x,n⟩=⟨IN e d,del o id,x,n⟩:=rfl
theorem BI {ms:List (Nat×WL)}{id:Nat}{os:List Oper}:ie T P ms id false os ⟨e,o,x,n⟩ K=pU T P 0 os [] ⟨e,o,x,n⟩ K:=by simp only[ie,Bool.false_eq_true,if_false]
def ug (T:fD)(P:Program)(i:Nat)(os:List Oper)(gd:List (Nat×Tmp))(dst:Option Tmp)(op:Op)(K:St→Prop)(s:St):Prop:=
 if rW op then Au T op dst s (fun s'=>pU T P (i+1) os gd s' K)
 else if cY op then orM (eF T P op s s.nx s.nx (aQ dst os) (fun e=>bQ (uG i os) e fun e'=>pU T P (i+1) os (dV (uG i os) i dst gd) (after s dst e') K)) (om P op dst s (fun s'=>pU T P (i+1) os gd s' K))
 else eF T P op s s.nx s.nx (aQ dst os) (fun e=>bQ (uG i os) e fun e'=>pU T P (i+1) os (dV (uG i os) i dst gd) (after s dst e') K)
def qX (v:Option V)(want:Bool)(A B:St→Prop)(s:St):Prop:=
 match v.bind gv with
 |some b=>if b=some want then A s else B s
 |none=>False
theorem JB {i:Nat}{gd:List (Nat×Tmp)}:pU T P i [] gd ⟨e,o,x,n⟩ K=K ⟨e,o,x,n⟩:=rfl
theorem Ia {i:Nat}{gd:List (Nat×Tmp)}{dst:Option Tmp}{op:Op}{ty:TypeId}{pos:String}{af:Array Edge}{os:List Oper}:
  pU T P i (⟨dst,op,ty,pos,af,none⟩::os) gd ⟨e,o,x,n⟩ K=(pe dst n∧ug T P i os gd dst op K ⟨e,o,x,n⟩):=rfl
theorem Gn {i g:Nat}{want:Bool}{gd:List (Nat×Tmp)}{dst:Option Tmp}{op:Op}{ty:TypeId}{pos:String}{af:Array Edge}{os:List Oper}:
  pU T P i (⟨dst,op,ty,pos,af,some (g,want)⟩::os) gd ⟨e,o,x,n⟩ K=(pe dst n∧qX ((fW gd g).map (lk e)) want (ug T P i os gd dst op K) (fun s=>pU T P (i+1) os (dV (uG i os) i dst gd) (s.put dst (.aA [])) K) ⟨e,o,x,n⟩):=by
 simp only[pU,guarded,qX]
 cases fW gd g with
 |none=>rfl
 |some t=>rfl
def vC (T:fD)(P:Program)(nx0 len:Nat)(i:Nat)(os:List Oper)(gd:List (Nat×Tmp))(dst:Option Tmp)(op:Op)(K:St→Prop)(s:St):Prop:=
 if cY op then orM (eF T P op s nx0 (nx0+i) (aQ dst os) (fun e=>uD nx0 e.fz∧bQ (uG i os) e fun e'=>uQ T P nx0 len (i+1) os (dV (uG i os) i dst gd) (s.add dst (nx0+i) e') K)) False else eF T P op s nx0 (nx0+i) (aQ dst os) (fun e=>uD nx0 e.fz∧bQ (uG i os) e fun e'=>uQ T P nx0 len (i+1) os (dV (uG i os) i dst gd) (s.add dst (nx0+i) e') K)
theorem Jz {nx0 len i:Nat}{gd:List (Nat×Tmp)}:uQ T P nx0 len i [] gd ⟨e,o,x,n⟩ K=K ⟨e,o,nx0+len,n⟩:=rfl
def pn (l:Bool)(A B:St→Prop)(s:St):Prop:=if l then A s else B s
theorem Lw {A B:St→Prop}{s:St}:pn true A B s=A s:=rfl
theorem La {A B:St→Prop}{s:St}:pn false A B s=B s:=rfl
def H0 (s:St)(m:Nat):St:={s with nx:=m}
theorem FT {m:Nat}:H0 ⟨e,o,x,n⟩ m=⟨e,o,m,n⟩:=rfl
theorem HN {nx0 len i:Nat}{gd:List (Nat×Tmp)}{dst:Option Tmp}{op:Op}{ty:TypeId}{pos:String}{af:Array Edge}{os:List Oper}:
  uQ T P nx0 len i (⟨dst,op,ty,pos,af,none⟩::os) gd ⟨e,o,x,n⟩ K=pn (re op) (fun s=>pU T P i (⟨dst,op,ty,pos,af,none⟩::os) gd (H0 s (nx0+len)) K) (fun s=>pe dst n∧vC T P nx0 len i os gd dst op K s) ⟨e,o,x,n⟩:=rfl
theorem IL {nx0 len i g:Nat}{want:Bool}{gd:List (Nat×Tmp)}{dst:Option Tmp}{op:Op}{ty:TypeId}{pos:String}{af:Array Edge}{os:List Oper}:
  uQ T P nx0 len i (⟨dst,op,ty,pos,af,some (g,want)⟩::os) gd ⟨e,o,x,n⟩ K=pn (re op) (fun s=>pU T P i (⟨dst,op,ty,pos,af,some (g,want)⟩::os) gd (H0 s (nx0+len)) K)
   (fun s=>pe dst n∧qX ((fW gd g).map (lk s.env)) want (vC T P nx0 len i os gd dst op K) (fun s=>uQ T P nx0 len (i+1) os (dV (uG i os) i dst gd) (s.put dst (.aA [])) K) s) ⟨e,o,x,n⟩:=by
 simp only[uQ,guarded,qX,pn]
 cases fW gd g with
 |none=>rfl
 |some t=>rfl
def stepG (T:fD)(P:Program)(nx0 len:Nat)(ws:WL)(i:Nat)(os:List Oper)(gd:List (Nat×Tmp))(dst:Option Tmp)(op:Op)(K:St→Prop)(s:St):Prop:=
 if cY op then orM (eF T P op s nx0 (nx0+i) (aQ dst os) (fun e=>uD nx0 e.fz∧bQ (uG i os) e fun e'=>gh T P nx0 len ws (i+1) os (dV (uG i os) i dst gd) (s.add dst (nx0+i) e') K)) False else eF T P op s nx0 (nx0+i) (aQ dst os) (fun e=>uD nx0 e.fz∧bQ (uG i os) e fun e'=>gh T P nx0 len ws (i+1) os (dV (uG i os) i dst gd) (s.add dst (nx0+i) e') K)
theorem FW {nx0 len i:Nat}{ws:WL}{gd:List (Nat×Tmp)}:gh T P nx0 len ws i [] gd ⟨e,o,x,n⟩ K=K ⟨e,o,nx0+len,n⟩:=rfl
theorem Fh {nx0 len i:Nat}{ws:WL}{gd:List (Nat×Tmp)}{dst:Option Tmp}{op:Op}{ty:TypeId}{pos:String}{af:Array Edge}{os:List Oper}:
  gh T P nx0 len ws i (⟨dst,op,ty,pos,af,none⟩::os) gd ⟨e,o,x,n⟩ K=pn (iL ws i) (fun s=>gh T P nx0 len ws (i+1) os gd s K) (fun s=>pe dst n∧stepG T P nx0 len ws i os gd dst op K s) ⟨e,o,x,n⟩:=by
 simp only[gh,guarded,pn,stepG]
theorem EE {nx0 len i g:Nat}{want:Bool}{ws:WL}{gd:List (Nat×Tmp)}{dst:Option Tmp}{op:Op}{ty:TypeId}{pos:String}{af:Array Edge}{os:List Oper}:
  gh T P nx0 len ws i (⟨dst,op,ty,pos,af,some (g,want)⟩::os) gd ⟨e,o,x,n⟩ K=pn (iL ws i) (fun s=>gh T P nx0 len ws (i+1) os gd s K)
   (fun s=>pe dst n∧qX ((fW gd g).map (lk s.env)) want (stepG T P nx0 len ws i os gd dst op K) (fun s=>gh T P nx0 len ws (i+1) os (dV (uG i os) i dst gd) (s.put dst (.aA [])) K) s) ⟨e,o,x,n⟩:=by
 simp only[gh,pn]
 congr 1
 simp only[guarded,qX,stepG]
 cases fW gd g with
 |none=>rfl
 |some t=>rfl
theorem Lo {nx0 len i:Nat}{ws:WL}{os:List Oper}{gd:List (Nat×Tmp)}{dst:Option Tmp}{op:Op}(h1:cY op=true):stepG T P nx0 len ws i os gd dst op K ⟨e,o,x,n⟩=
 orM (eF T P op ⟨e,o,x,n⟩ nx0 (nx0+i) (aQ dst os) (fun e'=>uD nx0 e'.fz∧bQ (uG i os) e' fun e''=>gh T P nx0 len ws (i+1) os (dV (uG i os) i dst gd) (St.add ⟨e,o,x,n⟩ dst (nx0+i) e'') K)) False:=by
 unfold stepG;rw[if_pos h1]
theorem Kd {nx0 len i:Nat}{ws:WL}{os:List Oper}{gd:List (Nat×Tmp)}{dst:Option Tmp}{op:Op}(h1:cY op=false):stepG T P nx0 len ws i os gd dst op K ⟨e,o,x,n⟩=
 eF T P op ⟨e,o,x,n⟩ nx0 (nx0+i) (aQ dst os) (fun e'=>uD nx0 e'.fz∧bQ (uG i os) e' fun e''=>gh T P nx0 len ws (i+1) os (dV (uG i os) i dst gd) (St.add ⟨e,o,x,n⟩ dst (nx0+i) e'') K):=by
 unfold stepG;rw[if_neg (by rw[h1];simp)]
theorem F3 {os:List Oper}:iK T P os .nil ⟨e,o,x,n⟩ K=K ⟨e,o,x,n⟩:=by rw[iK]
theorem HF {os:List Oper}{i:Nat}{pd:List Nat}{r:WL}:iK T P os (.cons i pd r .nil) ⟨e,o,x,n⟩ K=b7 os[i]? (fun p=>pe p.dst n∧sW T P p os ⟨e,o,x,n⟩ (fun s'=>prom T P os pd s'∧iK T P os r s' K)):=by
 rw[iK,Ex]
 cases os[i]? <;>rfl
theorem DW {os:List Oper}{i j:Nat}{pd pd':List Nat}{r r' al:WL}:iK T P os (.cons i pd r (.cons j pd' r' al)) ⟨e,o,x,n⟩ K=(b7 os[i]? (fun p=>pe p.dst n∧sW T P p os ⟨e,o,x,n⟩ (fun s'=>prom T P os pd s'∧iK T P os r s' K))∧iK T P os (.cons j pd' r' al) ⟨e,o,x,n⟩ K):=by
 rw[iK,Ex]
 cases os[i]? <;>rfl
theorem NS {os:List Oper}{dst:Option Tmp}{op:Op}{ty:TypeId}{pos:String}{af:Array Edge}{g:Option (Nat×Bool)}(h:rW op=true):sW T P ⟨dst,op,ty,pos,af,g⟩ os ⟨e,o,x,n⟩ K=Au T op dst ⟨e,o,x,n⟩ K:=by
 unfold sW;exact if_pos h
theorem NF {os:List Oper}{dst:Option Tmp}{op:Op}{ty:TypeId}{pos:String}{af:Array Edge}{g:Option (Nat×Bool)}(h:rW op=false)(h1:cY op=true):sW T P ⟨dst,op,ty,pos,af,g⟩ os ⟨e,o,x,n⟩ K=
  orM (eF T P op ⟨e,o,x,n⟩ x x (aQ dst os) (fun e'=>K (after ⟨e,o,x,n⟩ dst e'))) (om P op dst ⟨e,o,x,n⟩ K):=by
 unfold sW;simp only[h,h1,Bool.false_eq_true,if_false,if_true]
theorem M9 {os:List Oper}{dst:Option Tmp}{op:Op}{ty:TypeId}{pos:String}{af:Array Edge}{g:Option (Nat×Bool)}(h:rW op=false)(h1:cY op=false):sW T P ⟨dst,op,ty,pos,af,g⟩ os ⟨e,o,x,n⟩ K=
  eF T P op ⟨e,o,x,n⟩ x x (aQ dst os) (fun e'=>K (after ⟨e,o,x,n⟩ dst e')):=by
 unfold sW;simp only[h,h1,Bool.false_eq_true,if_false]
theorem Gd {os:List Oper}{s:St}:prom T P os [] s=True:=rfl
theorem Eu {os:List Oper}{j:Nat}{r:List Nat}:prom T P os (j::r) ⟨e,o,x,n⟩=(b7 os[j]? (fun p=>b7 p.dst fun d=>d<n∧wH T P os p d ⟨e,o,x,n⟩)∧prom T P os r ⟨e,o,x,n⟩):=by
 simp only[prom]
 cases os[j]? with
 |none=>rfl
 |some p=>cases h:p.dst<;>simp only[b7,h]
theorem JC {os:List Oper}{d:Nat}{dst:Option Tmp}{op:Op}{ty:TypeId}{pos:String}{af:Array Edge}:wH T P os ⟨dst,op,ty,pos,af,none⟩ d ⟨e,o,x,n⟩=eF T P op ⟨e,o,x,n⟩ x x false (fun e'=>e'.val=lk e d):=rfl
theorem KN {os:List Oper}{d g:Nat}{want:Bool}{dst:Option Tmp}{op:Op}{ty:TypeId}{pos:String}{af:Array Edge}:wH T P os ⟨dst,op,ty,pos,af,some (g,want)⟩ d ⟨e,o,x,n⟩=
  b7 os[g]? (fun p=>b7 p.dst fun t=>qX (some (lk e t)) want (fun _=>eF T P op ⟨e,o,x,n⟩ x x false (fun e'=>e'.val=lk e d)) (fun _=>lk e d= .aA []) ⟨e,o,x,n⟩):=by
 unfold wH;simp only[qX,Option.bind_some]
 cases os[g]? with
 |none=>rfl
 |some p=>
  simp only[Option.bind_some,b7]
  cases p.dst with
  |none=>rfl
  |some t=>first|(simp only[b7];done)|(simp only[b7];cases gv (lk e t)<;>rfl)
theorem Ky {A B:St→Prop}{s:St}:qX (some (.one (.bool true))) true A B s=A s:=rfl
theorem Mu {o:List (Nat×ft)}:uN o []=o:=rfl
theorem Nt {A B:St→Prop}{s:St}{w:Bool}:qX (some (.aA [])) w A B s=B s:=rfl
theorem Kf {A B:St→Prop}{s:St}:qX (some (.one (.bool true))) false A B s=B s:=rfl
theorem JQ {A B:St→Prop}{s:St}:qX (some (.one (.bool false))) true A B s=B s:=rfl
theorem JL {A B:St→Prop}{s:St}:qX (some (.one (.bool false))) false A B s=A s:=rfl
theorem Km {i:Nat}{os:List Oper}{gd:List (Nat×Tmp)}{dst:Option Tmp}{op:Op}(h:rW op=true):ug T P i os gd dst op K ⟨e,o,x,n⟩=Au T op dst ⟨e,o,x,n⟩ (fun s'=>pU T P (i+1) os gd s' K):=if_pos h
theorem Lx {i:Nat}{os:List Oper}{gd:List (Nat×Tmp)}{dst:Option Tmp}{op:Op}(h:rW op=false)(h1:cY op=true):ug T P i os gd dst op K ⟨e,o,x,n⟩=
 orM (eF T P op ⟨e,o,x,n⟩ x x (aQ dst os) (fun e'=>bQ (uG i os) e' fun e''=>pU T P (i+1) os (dV (uG i os) i dst gd) (after ⟨e,o,x,n⟩ dst e'') K)) (om P op dst ⟨e,o,x,n⟩ (fun s'=>pU T P (i+1) os gd s' K)):=by
 unfold ug;rw[h,h1];rfl
theorem KB {i:Nat}{os:List Oper}{gd:List (Nat×Tmp)}{dst:Option Tmp}{op:Op}(h:rW op=false)(h1:cY op=false):ug T P i os gd dst op K ⟨e,o,x,n⟩=
 eF T P op ⟨e,o,x,n⟩ x x (aQ dst os) (fun e'=>bQ (uG i os) e' fun e''=>pU T P (i+1) os (dV (uG i os) i dst gd) (after ⟨e,o,x,n⟩ dst e'') K):=by
 unfold ug;rw[h,h1];rfl
theorem Kg {nx0 len i:Nat}{os:List Oper}{gd:List (Nat×Tmp)}{dst:Option Tmp}{op:Op}(h1:cY op=true):vC T P nx0 len i os gd dst op K ⟨e,o,x,n⟩=
 orM (eF T P op ⟨e,o,x,n⟩ nx0 (nx0+i) (aQ dst os) (fun e'=>uD nx0 e'.fz∧bQ (uG i os) e' fun e''=>uQ T P nx0 len (i+1) os (dV (uG i os) i dst gd) (St.add ⟨e,o,x,n⟩ dst (nx0+i) e'') K)) False:=by
 unfold vC;rw[h1];rfl
theorem Lf {nx0 len i:Nat}{os:List Oper}{gd:List (Nat×Tmp)}{dst:Option Tmp}{op:Op}(h1:cY op=false):vC T P nx0 len i os gd dst op K ⟨e,o,x,n⟩=
 eF T P op ⟨e,o,x,n⟩ nx0 (nx0+i) (aQ dst os) (fun e'=>uD nx0 e'.fz∧bQ (uG i os) e' fun e''=>uQ T P nx0 len (i+1) os (dV (uG i os) i dst gd) (St.add ⟨e,o,x,n⟩ dst (nx0+i) e'') K):=by
 unfold vC;rw[h1];rfl
theorem Gw {v:V}{b:Option Bk}{f:List Nat}:bQ false ⟨v,b,f⟩ KE=KE ⟨v,b,f⟩:=rfl
theorem Gg {t:Bool}{b:Option Bk}{f:List Nat}:bQ true ⟨.one (.bool t),b,f⟩ KE=((t=true→eE KE ⟨.one (.bool true),b,f⟩)∧(t=false→eE KE ⟨.one (.bool false),b,f⟩)):=rfl
theorem FL {d:Nat}{v:V}:St.put ⟨e,o,x,n⟩ (some d) v=⟨(d,v)::e,o,x,n⟩:=rfl
theorem GZ {v:V}:St.put ⟨e,o,x,n⟩ none v=⟨e,o,x,n⟩:=rfl
theorem BN {d:Nat}{v:V}:after ⟨e,o,x,n⟩ (some d) ⟨v,none,[]⟩=⟨(d,v)::e,o,x+1,n⟩:=rfl
theorem BZ {v:V}:after ⟨e,o,x,n⟩ none ⟨v,none,[]⟩=⟨e,o,x+1,n⟩:=rfl
theorem HH {d b:Nat}{v:V}{l:List Nat}:after ⟨e,o,x,n⟩ (some d) ⟨v,none,b::l⟩=⟨(d,v)::e,dB o (b::l),x+1,n⟩:=rfl
theorem E0 {d:Nat}{v:V}{B:Bk}:after ⟨e,o,x,n⟩ (some d) ⟨v,some B,[]⟩=⟨(d,v)::e,dY o x ⟨B,true⟩,x+1,n⟩:=rfl
theorem Hs {d b:Nat}{v:V}{l:List Nat}{B:Bk}:after ⟨e,o,x,n⟩ (some d) ⟨v,some B,b::l⟩=⟨(d,v)::e,dY (dB o (b::l)) x ⟨B,true⟩,x+1,n⟩:=rfl
theorem Nl {d b id:Nat}{v:V}{l:List Nat}{B:Bk}:St.add ⟨e,o,x,n⟩ (some d) id ⟨v,some B,b::l⟩=⟨(d,v)::e,dY (dB o (b::l)) id ⟨B,true⟩,x,n⟩:=rfl
theorem G2 {d id:Nat}{v:V}:St.add ⟨e,o,x,n⟩ (some d) id ⟨v,none,[]⟩=⟨(d,v)::e,o,x,n⟩:=rfl
theorem Fz {id:Nat}{v:V}:St.add ⟨e,o,x,n⟩ none id ⟨v,none,[]⟩=⟨e,o,x,n⟩:=rfl
theorem Mz {d b id:Nat}{v:V}{l:List Nat}:St.add ⟨e,o,x,n⟩ (some d) id ⟨v,none,b::l⟩=⟨(d,v)::e,dB o (b::l),x,n⟩:=rfl
theorem JO {d id:Nat}{v:V}{B:Bk}:St.add ⟨e,o,x,n⟩ (some d) id ⟨v,some B,[]⟩=⟨(d,v)::e,dY o id ⟨B,true⟩,x,n⟩:=rfl
theorem Pl {ks:List Nat}:gc ks ⟨e,o,x,n⟩=⟨ks.map (fun t=>(t,lk e t)),o,x,n⟩:=rfl
theorem NV {t:Nat}:St.ev ⟨e,o,x,n⟩ (.tmp t)=lk e t:=rfl
theorem HC {v:Value}:St.ev ⟨e,o,x,n⟩ (.const v)=cv v:=rfl
theorem KY {f:Nat}:St.ev ⟨e,o,x,n⟩ (.func f)= .one (.fn f 0 (fun _=>.any)):=rfl
theorem NP {k:IntKind}{i:Int}:cv (.int k i)= .one (.int k i):=rfl
theorem JT {b:Bool}:cv (.bool b)= .one (.bool b):=rfl
theorem N0:cv (.slice none 0 0)= .one .nil:=rfl
theorem Nj {b:ByteArray}:cv (.string b)= .one (.str b):=rfl
theorem G7 {a:Operand}{nx id:Nat}{fz:Bool}:eF T P (.move a) ⟨e,o,x,n⟩ nx id fz KE=KE ⟨St.ev ⟨e,o,x,n⟩ a,none,[]⟩:=rfl
theorem Cs {a:Operand}{nx id:Nat}{fz:Bool}:eF T P (.assign a) ⟨e,o,x,n⟩ nx id fz KE=KE ⟨St.ev ⟨e,o,x,n⟩ a,none,[]⟩:=rfl
def GA (t a b:V):Option V:=match t with
 |.one (.bool t)=>some (if t then a else b)
 |_=>none
theorem I8 {a b:V}:GA (.one (.bool true)) a b=some a:=rfl
theorem LA {a b:V}:GA (.one (.bool false)) a b=some b:=rfl
theorem GO {c a b:Operand}{nx id:Nat}{fz:Bool}:eF T P (.pick c a b) ⟨e,o,x,n⟩ nx id fz KE=b7 (GA (St.ev ⟨e,o,x,n⟩ c) (St.ev ⟨e,o,x,n⟩ a) (St.ev ⟨e,o,x,n⟩ b)) (fun v=>KE ⟨v,none,[]⟩):=by
 simp only[eF]
 cases St.ev ⟨e,o,x,n⟩ c with
 |one c=>cases c<;>rfl
 |_=>rfl
theorem ES {t:Nat}{nx id:Nat}{fz:Bool}:eF T P (.alloc t) ⟨e,o,x,n⟩ nx id fz KE=b7 (T t) (fun E=>KE ⟨.one (.ptr id 0),some (.var E.zero),[]⟩):=by
 simp only[eF];cases T t<;>rfl
theorem Jp {t:Nat}{a:Operand}{nx id:Nat}{fz:Bool}:eF T P (.box t a) ⟨e,o,x,n⟩ nx id fz KE=((St.ev ⟨e,o,x,n⟩ a).nZ=true∧KE ⟨.one (.ptr id 0),some (.var (cellsOf (St.ev ⟨e,o,x,n⟩ a))),[]⟩):=rfl
def NT:D4→Option (List (Nat×Nat))
 |.st fs=>some fs
 |_=>none
theorem Ec {t:Nat}{ps:Array (Nat×Operand)}{nx id:Nat}{fz:Bool}:eF T P (.build t ps) ⟨e,o,x,n⟩ nx id fz KE=b7 (T t) (fun E=>b7 (NT E.k) fun fs=>b7 (jD fs E.zero (ps.toList.map fun p=>(p.1,St.ev ⟨e,o,x,n⟩ p.2))) fun cs=>KE ⟨.agg cs,none,[]⟩):=by
 simp only[eF]
 cases T t with
 |none=>rfl
 |some E=>
  simp only[oG]
  cases E.k with
  |st fs=>simp only[NT,oG];cases jD fs E.zero (ps.toList.map fun p=>(p.1,St.ev ⟨e,o,x,n⟩ p.2))<;>rfl
  |_=>rfl
theorem sS {t l:Nat}{ps:Array (Nat×Operand)}{nx id:Nat}{fz:Bool}:eF T P (.buildSlice t l ps) ⟨e,o,x,n⟩ nx id fz KE=iq T ⟨e,o,x,n⟩ nx id fz t l ps KE:=rfl
theorem Hd {t:Nat}{a:Operand}{nx id:Nat}{fz:Bool}:eF T P (.load t a) ⟨e,o,x,n⟩ nx id fz KE=zv T ⟨e,o,x,n⟩ nx t a KE:=rfl
theorem JD {op:BinOp}{t t':Nat}{a b:Operand}{nx id:Nat}{fz:Bool}:eF T P (.binOp op t a b t') ⟨e,o,x,n⟩ nx id fz KE=F4 T ⟨e,o,x,n⟩ op t a b KE:=rfl
theorem M4 {op:UnOp}{t:Nat}{a:Operand}{nx id:Nat}{fz:Bool}:eF T P (.unOp op t a) ⟨e,o,x,n⟩ nx id fz KE=OV ⟨e,o,x,n⟩ op a KE:=rfl
theorem Gr {t t':Nat}{a:Operand}{nx id:Nat}{fz:Bool}:eF T P (.convert t t' a) ⟨e,o,x,n⟩ nx id fz KE=mz T ⟨e,o,x,n⟩ t t' a KE:=rfl
theorem Hh {t:Nat}{a b:Operand}{nx id:Nat}{fz:Bool}:eF T P (.makeSlice t a b) ⟨e,o,x,n⟩ nx id fz KE=jk T ⟨e,o,x,n⟩ id fz t a b KE:=rfl
theorem Ef {t:Nat}{a:Operand}{lo hi mx:Option Operand}{nx id:Nat}{fz:Bool}:eF T P (.slice t a lo hi mx) ⟨e,o,x,n⟩ nx id fz KE=sP T ⟨e,o,x,n⟩ t a lo hi mx KE:=rfl
theorem Et {t f:Nat}{a:Operand}{nx id:Nat}{fz:Bool}:eF T P (.fieldAddr t a f) ⟨e,o,x,n⟩ nx id fz KE=jh T ⟨e,o,x,n⟩ t a f KE:=rfl
theorem BM {t f:Nat}{a:Operand}{nx id:Nat}{fz:Bool}:eF T P (.field t a f) ⟨e,o,x,n⟩ nx id fz KE=td T ⟨e,o,x,n⟩ t a f KE:=rfl
theorem xS {f:FuncId}{cs:Array Operand}{nx id:Nat}{fz:Bool}:eF T P (.makeFunc (.func f) #[] cs) ⟨e,o,x,n⟩ nx id fz KE=((cs.toList.all fun a=>rL (St.ev ⟨e,o,x,n⟩ a))=true∧KE ⟨.one (.fn f cs.toList.length (fun i=>CK ((cs.toList.map (St.ev ⟨e,o,x,n⟩)).getD i .unk))),none,[]⟩):=rfl
theorem Ez {t:Nat}{a b:Operand}{nx id:Nat}{fz:Bool}:eF T P (.indexAddr t a b) ⟨e,o,x,n⟩ nx id fz KE=jr T ⟨e,o,x,n⟩ t a b KE:=rfl
theorem B8 {t:Nat}{a b:Operand}{nx id:Nat}{fz:Bool}:eF T P (.index t a b) ⟨e,o,x,n⟩ nx id fz KE=tI T ⟨e,o,x,n⟩ t a b KE:=rfl
def zJ (v:V)(i:Nat):Option V:=match v with
 |.aA vs=>vs[i]?
 |_=>none
theorem KP {v:V}{vs:List V}:zJ (.aA (v::vs)) 0=some v:=rfl
theorem I0 {v u:V}{vs:List V}:zJ (.aA (v::u::vs)) 1=some u:=rfl
theorem JR {v u t:V}{vs:List V}:zJ (.aA (v::u::t::vs)) 2=some t:=rfl
theorem zV {i:Nat}{a:Operand}{nx id:Nat}{fz:Bool}:eF T P (.extract a i) ⟨e,o,x,n⟩ nx id fz KE=b7 (zJ (St.ev ⟨e,o,x,n⟩ a) i) (fun v=>KE ⟨v,none,[]⟩):=by
 simp only[eF,zJ]
 cases St.ev ⟨e,o,x,n⟩ a with
 |aA vs=>simp only;cases vs[i]? <;>rfl
 |_=>rfl
theorem EO {g:Operand}{az:Array Operand}{ts:Array TypeId}{nx id:Nat}{fz:Bool}:eF T P (.call ⟨.value g,az,ts⟩) ⟨e,o,x,n⟩ nx id fz KE=wh P ⟨e,o,x,n⟩ nx id g az.toList KE:=rfl
theorem E3 {b:Builtin}{az:Array Operand}{ts:Array TypeId}{nx id:Nat}{fz:Bool}:eF T P (.call ⟨.builtin b,az,ts⟩) ⟨e,o,x,n⟩ nx id fz KE=mf T ⟨e,o,x,n⟩ b az.toList ts.toList KE:=rfl
def Ny:V→Option FuncId
 |.one (.fn f 0 _)=>some f
 |_=>none
def cF (P:Program)(f:FuncId)(args:List V)(ids:List Nat)(id:Nat)(KE:eG→Prop):Prop:=(∃r,Pr P f args r∧eE KE ⟨r,none,if nf r then[]else ids⟩)∨(∃B,Fr P f args B∧eE KE ⟨.one (.own id B.wd 0 B.len),some B,ids⟩)∨(∃B c,dI P f args B c∧eE KE ⟨.aA [.one (.own id B.wd 0 B.len),.one c],some B,ids⟩)
theorem Cg {f:FuncId}{args:List V}{ids:List Nat}{id:Nat}{r:V}{M:Prop}(h:Pr P f args r)(hk:KE ⟨r,none,if nf r then[]else ids⟩):orM (cF P f args ids id KE) M:=.inl (.inl ⟨r,h,hk⟩)
theorem cF.fresh {f:FuncId}{args:List V}{ids:List Nat}{id:Nat}{B:Bk}{M:Prop}(h:Fr P f args B)(hk:KE ⟨.one (.own id B.wd 0 B.len),some B,ids⟩):orM (cF P f args ids id KE) M:=.inl (.inr (.inl ⟨B,h,hk⟩))
theorem cF.Bt {f:FuncId}{args:List V}{ids:List Nat}{id:Nat}{B:Bk}{c:C}{M:Prop}(h:dI P f args B c)(hk:KE ⟨.aA [.one (.own id B.wd 0 B.len),.one c],some B,ids⟩):orM (cF P f args ids id KE) M:=.inl (.inr (.inr ⟨B,c,h,hk⟩))
theorem Cm {f:FuncId}{raw:List V}{s:St}{dst:Option Tmp}{A:Prop}(b:Nat){B:Bk}{R:V→Bk→Prop}(hl:lo s.own b=some ⟨B,true⟩)(hp:B.plain)(h:Mc P f (raw.map (IP b s.own s.nx)) B R)
  (hk:∀r B',R r B'→B'.len=B.len→K (Oh s dst b raw r B')):orM A (x5 P f raw s dst K):=.inr (.inl ⟨b,B,R,hl,hp,h,hk⟩)
theorem cF.Hq {f:FuncId}{raw:List V}{s:St}{dst:Option Tmp}{A:Prop}{n:Nat}{g:Nat→Nat→C}{B:Bk}{c:Option C}(h:ra P f (raw.map (Bv s.own s.nx)) n g B c)
  (hk:K (Og s dst raw n g B c)):orM A (x5 P f raw s dst K):=.inr (.inr ⟨n,g,B,c,h,hk⟩)
def v8:V→Option (FuncId×List V)
 |.one (.fn f n cs)=>some (f,l9 n cs)
 |_=>none
theorem Jv {f:FuncId}{c:Nat→C}:v8 (.one (.fn f 0 c))=some (f,[]):=rfl
theorem Jt {f:FuncId}{c:Nat→C}:v8 (.one (.fn f 1 c))=some (f,[.one (c 0)]):=rfl
theorem KA {f:FuncId}{c:Nat→C}:v8 (.one (.fn f 2 c))=some (f,[.one (c 0),.one (c 1)]):=rfl
theorem K0 {f:FuncId}{c:Nat→C}:v8 (.one (.fn f 3 c))=some (f,[.one (c 0),.one (c 1),.one (c 2)]):=rfl
theorem Iu {g:Operand}{az:List Operand}{nx id:Nat}:wh P ⟨e,o,x,n⟩ nx id g az KE=b7 (v8 (St.ev ⟨e,o,x,n⟩ g)) (fun f=>cF P f.1 ((az.map (St.ev ⟨e,o,x,n⟩)++f.2).map (Df o nx)) (((az.map (St.ev ⟨e,o,x,n⟩)++f.2).map oY).flatten.filter (fun b=>decide (b<nx))) id KE):=by
 unfold wh v8
 cases St.ev ⟨e,o,x,n⟩ g with
 |one c=>cases c<;>rfl
 |agg cs=>rfl
 |aA cs=>rfl
 |unk=>rfl
theorem IM {g:Operand}{az:Array Operand}{ts:Array TypeId}{d:Option Tmp}:om P (.call ⟨.value g,az,ts⟩) d ⟨e,o,x,n⟩ K=b7 (Ny (St.ev ⟨e,o,x,n⟩ g)) (fun f=>x5 P f (az.toList.map (St.ev ⟨e,o,x,n⟩)) ⟨e,o,x,n⟩ d K):=by
 unfold om Ny
 cases h:St.ev ⟨e,o,x,n⟩ g with
 |one c=>cases c with
  |fn f m caps=>cases m with
   |zero=>simp only[h,true_and];rfl
   |succ m=>simp[b7,h]
  |_=>simp only[h];rfl
 |_=>simp only[h];rfl
theorem Kc {f:FuncId}{c:Nat→C}:Ny (.one (.fn f 0 c))=some f:=rfl
theorem DU {t:Nat}{a b:Operand}:Au T (.store t a b) none ⟨e,o,x,n⟩ K=tf T ⟨e,o,x,n⟩ t a b K:=by simp only[Au,true_and]
theorem BV {a b:Operand}{t t':Nat}{d:Option Tmp}:Au T (.call ⟨.builtin .append,#[a,b],#[t,t']⟩) d ⟨e,o,x,n⟩ K=(NW T t'∧pK T ⟨e,o,x,n⟩ d t a b K):=by
 rfl
theorem E5 {a:Operand}{t:Nat}{d:Option Tmp}:Au T (.call ⟨.builtin .clear,#[a],#[t]⟩) d ⟨e,o,x,n⟩ K=te T ⟨e,o,x,n⟩ d t a K:=rfl
theorem HO {a b:Operand}{t t':Nat}{d:Option Tmp}:Au T (.call ⟨.builtin .copy,#[a,b],#[t,t']⟩) d ⟨e,o,x,n⟩ K=(NW T t'∧yC T ⟨e,o,x,n⟩ d t a b K):=rfl
theorem LC {t t':Nat}{a:Operand}{d:Option Tmp}{l c:Nat}:Au T (.binOp .eql t a (.const (.slice none l c)) t') d ⟨e,o,x,n⟩ K=Ig T ⟨e,o,x,n⟩ d t a K:=by simp only[Au,vu,qQ,xc,true_and]
theorem Js {a:Operand}{t:Nat}{d:Option Tmp}:Au T (.call ⟨.builtin .cap,#[a],#[t]⟩) d ⟨e,o,x,n⟩ K=FM T ⟨e,o,x,n⟩ d t a K:=rfl
theorem GM {rs:List ResultVar}{R:V→Prop}:Kz T rs R .ret ⟨e,o,x,n⟩=b7 (tY T ⟨e,o,x,n⟩ rs) fun vs=>R (B9 vs):=rfl
theorem yA {rs:List ResultVar}{R:V→Prop}:Kz T rs R .normal ⟨e,o,x,n⟩=b7 (tY T ⟨e,o,x,n⟩ rs) fun vs=>R (B9 vs):=rfl
end
set_option linter.defProp false in
/-- ALL THE RULES, UNDER ONE NAME. -/
def vcs:=And.intro @Jd (And.intro @Ej (And.intro @NC (And.intro @zL (And.intro @Ih (And.intro @ER (And.intro @AQ (And.intro @Kv (And.intro @FP (And.intro @uI
 (And.intro @Bc (And.intro @An (And.intro @Ld (And.intro @EH (And.intro @BY (And.intro @IW (And.intro @Mm (And.intro @AS (And.intro @BI (And.intro @zc (And.intro @Bd (And.intro @z9 (And.intro @Cf (And.intro @NH (And.intro @FW (And.intro @Fh (And.intro @EE (And.intro @Lo (And.intro @Kd (And.intro @F3 (And.intro @HF (And.intro @DW (And.intro @JC (And.intro @KN (And.intro @NS (And.intro @NF (And.intro @M9 (And.intro @Gd (And.intro @Eu (And.intro @JB
 (And.intro @Ia (And.intro @Gn (And.intro @Jz (And.intro @Lw (And.intro @La (And.intro @FT (And.intro @HN (And.intro @IL (And.intro @Ky (And.intro @Kf
 (And.intro @Mu (And.intro @Nt (And.intro @JQ (And.intro @JL (And.intro @Km (And.intro @Lx (And.intro @KB (And.intro @Kg (And.intro @Lf (And.intro @IM (And.intro @Gw (And.intro @Gg (And.intro @FL (And.intro @GZ (And.intro @BN (And.intro @BZ
 (And.intro @HH (And.intro @E0 (And.intro @G2 (And.intro @Fz (And.intro @Mz (And.intro @Hs (And.intro @Nl (And.intro @JO (And.intro @Pl (And.intro @NV (And.intro @HC (And.intro @KY
 (And.intro @NP (And.intro @JT (And.intro @N0 (And.intro @Nj (And.intro @G7 (And.intro @Cs (And.intro @I8 (And.intro @LA (And.intro @GO (And.intro @ES
 (And.intro @Jp (And.intro @Ec (And.intro @sS (And.intro @Hd (And.intro @JD (And.intro @M4 (And.intro @Gr (And.intro @Hh (And.intro @Ef (And.intro @Et
 (And.intro @B8 (And.intro @Ez (And.intro @KP (And.intro @I0 (And.intro @JR (And.intro @zV (And.intro @EO (And.intro @E3 (And.intro @Iu (And.intro @Kc (And.intro @DU
 (And.intro @BV (And.intro @LC (And.intro @E5 (And.intro @HO (And.intro @BM (And.intro @xS (And.intro @Jv (And.intro @Jt (And.intro @KA (And.intro @K0 (And.intro @Js (And.intro @GM (And.intro @yA @oG)))))))))))))))))))))))))))))))))))))))))))))))))))))))))))))))))))))))))))))))))))))))))))))))))))))))))))))))))))))))))
set_option linter.defProp false in
/-- What is unfolded where it stands. -/
def QI:=And.intro @sf.eq_def (And.intro @tI.eq_def (And.intro @Nh.eq_def (And.intro @iq.eq_def (And.intro @zv.eq_def (And.intro @F4.eq_def (And.intro @OV.eq_def (And.intro @mz.eq_def (And.intro @jk.eq_def (And.intro @sP.eq_def (And.intro @jh.eq_def
 (And.intro @jr.eq_def (And.intro @mf.eq_def (And.intro @tf.eq_def (And.intro @NW.eq_def (And.intro @pK.eq_def (And.intro @FM.eq_def (And.intro @sk.eq_def (And.intro @DB.eq_def (And.intro @Ig.eq_def (And.intro @te.eq_def (And.intro @yC.eq_def (And.intro @td.eq_def @Fc.eq_def))))))))))))))))))))
))
set_option linter.defProp false in
/-- Small reckoning. -/
def Qi:=And.intro @OB.eq_def (And.intro @r7.eq_def (And.intro @lk.eq_1 (And.intro @lk.eq_2 (And.intro @lo.eq_1 (And.intro @lo.eq_2 (And.intro @dY.eq_1 (And.intro @dY.eq_2 (And.intro @del.eq_1 (And.intro @del.eq_2 (And.intro @dB.eq_1 (And.intro @dB.eq_2
 (And.intro @fW.eq_1 (And.intro @fW.eq_2 (And.intro @uD.eq_1 (And.intro @uD.eq_2 (And.intro @bz.eq_1 (And.intro @bz.eq_2 (And.intro @eI.eq_1 (And.intro @eI.eq_2 (And.intro @gi.eq_1
 (And.intro @gi.eq_2 (And.intro @jD.eq_1 (And.intro @jD.eq_2 (And.intro @tY.eq_1 (And.intro @tY.eq_2 (And.intro @eO.eq_1 (And.intro @eO.eq_2 (And.intro @lC.eq_1 (And.intro @lC.eq_2
 (And.intro @iS.eq_1 (And.intro @pe.eq_def (And.intro @rW.eq_def (And.intro @iL.eq_1 (And.intro @iL.eq_2 (And.intro @mq.eq_1 (And.intro @mq.eq_2 (And.intro @IN.eq_1 (And.intro @IN.eq_2 (And.intro @xc.eq_def (And.intro @qQ.eq_def (And.intro @vu.eq_def (And.intro @rL.eq_def (And.intro @CK.eq_def (And.intro @OA.eq_def (And.intro @Pt.eq_def (And.intro @Gc.eq_def (And.intro @re.eq_def (And.intro @cY.eq_def (And.intro @Oh.eq_1 (And.intro (And.intro @Og.eq_1 (And.intro @Ga.eq_1 (And.intro @Ga.eq_2 (And.intro @LX.eq_def (And.intro @Az.eq_def (And.intro @CE.eq_def (And.intro @uc.eq_def (And.intro @Iq.eq_def (And.intro @mT.eq_1 (And.intro @mT.eq_2 @oQ.eq_def)))))))))) (And.intro @G8.eq_1 (And.intro @IP.eq_def (And.intro @LV.eq_def (And.intro @ua.eq_def (And.intro @Dy.eq_def (And.intro @JM.eq_1 (And.intro @Bk.wd.eq_def (And.intro @Bk.len.eq_def (And.intro @Bk.plain.eq_def (And.intro @zX.eq_def (And.intro @aQ.eq_def (And.intro @Me.eq_def (And.intro @uG.eq_def (And.intro @dV.eq_def (And.intro
 @iG.eq_def (And.intro @Oa.eq_def (And.intro @cellsOf.eq_def (And.intro @V.nZ.eq_def (And.intro @Bv.eq_def (And.intro @Df.eq_def (And.intro @oY.eq_def (And.intro @MD.eq_def (And.intro @Py.eq_def (And.intro @Ly.eq_def (And.intro @xh.eq_def (And.intro @OM.eq_def (And.intro @rH.eq_def (And.intro @jL.eq_def (And.intro @fZ.eq_def (And.intro @ky.eq_def (And.intro @gp.eq_def (And.intro
 @nf.eq_def (And.intro @gj.eq_def (And.intro @kT.eq_def (And.intro @Iy.eq_def (And.intro @n9.eq_def (And.intro @Jl.eq_def (And.intro @GU.eq_1 (And.intro @D4.agg.eq_def (And.intro @MA.eq_def
 (And.intro @yG.eq_def (And.intro @gU.eq_def (And.intro @g9.eq_def (And.intro @lB.eq_1 (And.intro @FI.eq_def (And.intro @B9.eq_def (And.intro @K9.eq_def (And.intro @NT.eq_def (And.intro
 @Nat.zero_add (And.intro @Nat.add_zero (And.intro @decide_true (And.intro @decide_false (And.intro @true_and (And.intro @and_true (And.intro @Bool.or_false (And.intro @Bool.false_or (And.intro @Bool.or_true (And.intro
 @Bool.true_or (And.intro @Bool.and_true (And.intro @Bool.true_and (And.intro @Bool.false_and (And.intro @Bool.and_false (And.intro @Bool.not_true (And.intro @Bool.not_false (And.intro @or_false (And.intro @or_true
 (And.intro @false_or (@true_or))))))))))))))))))))))))))))))))))))))))))))))))))))))))))))))))))))))))))))))))))))))))))))))))))))))))))))
))))))))))
end Go.Eng
/-
  THE ENGINE, PART X: which block is which, found out by itself.
-/
namespace Go.Eng
open Go
def Y9 (v' v:V)(r:List (Nat×Option Nat)):List (Nat×Option Nat):=
 match v' with
 |.one (.own b' _ _ _)=>match v with
  |.one (.own b _ _ _)=>(b',some b)::r
  |.one .nil=>(b',none)::r
  |_=>r
 |.one (.ptr b' _)=>match v with
  |.one (.ptr b _)=>(b',some b)::r
  |_=>r
 |.one (.win b' c' _ _)=>match v with
  |.one (.win b c _ _)=>(b',some b)::(c',some c)::r
  |.one (.own b _ _ _)=>(b',some b)::r
  |_=>r
 |_=>r
def Y8 (env:List (Nat×V)):List (Nat×V)→List (Nat×Option Nat)
 |[]=>[]
 |(t,v')::r=>Y9 v' (lk env t) (Y8 env r)
theorem Sa {e e':List (Nat×V)}{o o':List (Nat×ft)}{x x' n:Nat}(h:(rU (Y8 e e') 0=some 0∧0<x')∧Y0 (Y8 e e') x' e e'∧Y4 (Y8 e e') x' o o'∧Y6 (Y8 e e') o'):Sub ⟨e,o,x,n⟩ ⟨e',o',x',n⟩:=
 Sub.of (Y8 e e') h.1 rfl h.2.1 h.2.2.1 h.2.2.2
def aW:List V→List V→Prop
 |[],[]=>True
 |x::xs,y::ys=>Y1 [] 0 x y∧aW xs ys
 |_,_=>False
def cV (x y:V):Prop:=
 match y with
 |.aA ys=>match x with
  |.aA xs=>aW xs ys
  |_=>False
 |_=>Y1 [] 0 x y
theorem sC {x y:V}(h:Y1 [] 0 x y)(ok:Nat→Prop)(w:World)(v:Value)(hr:bZ bg bn ok w x v):bZ bg bn ok w y v:=by
 have h1:=uq (ok':=ok) (Ext.refl ok w) h hr;have e:(fun b=>b<0)=bn:=by funext b;simp[bn]
 have e2:bP [] bg=bg:=by funext b;rfl
 rw[e,e2]at h1;exact h1
theorem Va {
      x y:V} (h:cV x y):fP x y:=by
 intro ok w v hr
 cases y with
 |aA ys=>
  cases x with
  |aA xs=>
   obtain⟨vs,hv,hl⟩:=hr;refine⟨vs,hv,?_⟩;have key:∀(xs ys:List V) (vs:List Value),aW xs ys→a6 bg bn ok w xs vs→a6 bg bn ok w ys vs:=by
    intro xs
    induction xs with
    |nil=>
     intro ys vs h hl
     cases ys with
     |nil=>exact hl
     |cons y ys=>exact h.elim
    |cons x xs ih=>
     intro ys vs h hl
     cases ys with
     |nil=>exact h.elim
     |cons y ys=>
      cases vs with
      |nil=>exact hl.elim
      |cons v vs=>
       refine⟨?_,ih ys vs h.2 hl.2⟩;have h1:=h.1;have hx:∀t,x≠ .aA t:=by
        intro t ht
        have:=hl.1
        rw[ht]at this;exact this
       have hy:∀t,y≠ .aA t:=by
        intro t ht;rw[ht]at h1;exact h1
       have h2:bZ bg bn ok w x v:=by
        cases x with
        |aA t=>exact absurd rfl (hx t)
        |_=>exact hl.1
       have h3:=sC h1 ok w v h2
       cases y with
       |aA t=>exact absurd rfl (hy t)
       |_=>exact h3
   exact key xs ys vs.toList h hl
  |_=>exact h.elim
 |unk=>exact sC (by cases x<;>exact h) ok w v hr
 |one c=>exact sC (by cases x<;>exact h) ok w v hr
 |agg cs=>exact sC (by cases x<;>exact h) ok w v hr
end Go.Eng
/-
  THE ENGINE, PART Y: from a function's text to the contract of one that returns a new slice, and of one that turns a block.
-/
namespace Go.Eng
open Go
def k9 (s:St)(B:Bk)(x:V):Prop:=
 match x with
 |.one (.own b wd off len)=>off=0∧wd=B.wd∧len=B.len∧b7 (lo s.own b) fun B'=>B'.rw=true∧Y5 [] 0 B'.bk B
 |.one .nil=>Y7 B
 |_=>False
def Gx (rs:List ResultVar)(B:Bk):Exit→St→Prop
 |.ret,s=>match rs with
  |[.tmp t]=>k9 s B (lk s.env t)
  |_=>False
 |.normal,s=>match rs with
  |[.tmp t]=>k9 s B (lk s.env t)
  |_=>False
 |_,_=>False
def ED (B' B:Bk):Prop:=
 match B with
 |.ints _ k xs=>match B' with
  |.ints _ k' xs'=>k'=k∧xs'.take xs.length=xs
  |_=>False
 |.rows _ w n f=>match B' with
  |.rows _ w' n' f'=>w'=w∧n≤n'∧∀i j,i<n→j<w→f' i j=f i j
  |.wins _ _ n' g=>w=1∧n≤n'∧∀i,i<n→EU (g i)=true∧g i=f i 0
  |_=>False
 |.var _=>False
 |.wins .. =>False
def H8 (rs:List ResultVar)(B:Bk)(c:C):Exit→St→Prop
 |.ret,s=>match rs with
  |[.tmp t,.tmp u]=>k9 s B (lk s.env t)∧lk s.env u= .one c
  |_=>False
 |.normal,s=>match rs with
  |[.tmp t,.tmp u]=>k9 s B (lk s.env t)∧lk s.env u= .one c
  |_=>False
 |_,_=>False
theorem Iw {rs:List ResultVar}{B:Bk}{c:C}{e:Exit}{s:St}(h:H8 rs B c e s):(e= .normal∨e= .ret)∧∃t u,rs=[.tmp t,.tmp u]∧k9 s B (lk s.env t)∧lk s.env u= .one c:=by
 unfold H8 at h
 split at h
 ·split at h
  ·exact⟨.inr rfl,_,_,rfl,h⟩
  exact h.elim
 ·split at h
  ·exact⟨.inl rfl,_,_,rfl,h⟩
  exact h.elim
 exact h.elim
def mR (s:St)(B:Bk)(x:V):Prop:=
 match x with
 |.one (.own b wd off len)=>off=0∧wd=B.wd∧len=B.len∧b7 (lo s.own b) fun B'=>B'.rw=true∧ED B'.bk B
 |.one .nil=>Y7 B
 |_=>False
theorem Hw {B' B:Bk}(hB:B.flat)(h:Y5 [] 0 B' B):ED B' B:=by
 cases B with
 |var cs=>exact hB.elim
 |wins e b2 n g=>exact hB.elim
 |ints e k xs=>
  cases B' with
  |ints e' k' xs'=>obtain⟨rfl,rfl⟩:=h;exact⟨rfl,List.take_length⟩
  |_=>exact h.elim
 |rows e w n f=>
  cases B' with
  |rows e' w' n' f'=>obtain⟨rfl,rfl,h⟩:=h;exact⟨rfl,Nat.le_refl _,h⟩
  |wins e' b2 n' g=>obtain⟨rfl,rfl,h⟩:=h;exact⟨rfl,Nat.le_refl _,h⟩
  |_=>exact h.elim
theorem Ao {s:St}{B:Bk}{x:V}(hB:B.flat)(h:k9 s B x):mR s B x:=by
 unfold k9 at h;unfold mR
 split at h
 ·obtain⟨h1,h2,h3,h4⟩:=h;refine⟨h1,h2,h3,?_⟩;unfold b7 at h4⊢
  split at h4
  ·exact⟨h4.1,Hw hB h4.2⟩
  exact h4.elim
 ·exact h
 exact h.elim
theorem vh {B' B:Bk}(h:ED B' B)(j:Nat)(c:C)(hc:B.cell j=some c):B'.cell j=some c:=by
 cases B with
 |var cs=>exact h.elim
 |wins e b2 n g=>exact h.elim
 |ints e k xs=>
  cases B' with
  |ints e' k' xs'=>
   obtain⟨rfl,h⟩:=h;simp only[Bk.cell]at hc⊢;rw[←h,List.getElem?_take]at hc
   split at hc
   ·exact hc
   cases hc
  |_=>exact h.elim
 |rows e w n f=>
  cases B' with
  |rows e' w' n' f'=>
   obtain⟨rfl,hn,h⟩:=h;simp only[Bk.cell]at hc⊢
   split at hc
   ·rename_i hlt
    have hw:0<w':=Nat.pos_of_ne_zero fun h0=>by subst h0;simp at hlt
    have h1:j/w'<n:=by rw[Nat.div_lt_iff_lt_mul hw];exact hlt
    rw[if_pos (Nat.lt_of_lt_of_le hlt (Nat.mul_le_mul_right _ hn)),h _ _ h1 (Nat.mod_lt _ hw)];exact hc
   cases hc
  |wins e' b2 n' g=>
   obtain⟨rfl,hn,h⟩:=h;simp only[Bk.cell,Nat.mul_one,Nat.div_one,Nat.mod_one]at hc⊢
   split at hc
   ·rename_i hlt
    rw[if_pos (by omega),(h j hlt).2];exact hc
   cases hc
  |_=>exact h.elim
theorem EB {B' B:Bk}(h:ED B' B):B.flat∧∀cs,B'≠ .var cs:=by
 cases B<;>cases B'<;>first|exact h.elim|exact ⟨trivial,fun _ e=>by cases e⟩
theorem F2 {B:Bk}{e:TypeId}{b2 n:Nat}{g:Nat→C}(h:ED (.wins e b2 n g) B){j:Nat}{c:C}(hc:B.cell j=some c):EU c=true:=by
 cases B with
 |rows e w n f=>
  obtain⟨rfl,hn,h⟩:=h;simp only[Bk.cell,Nat.mul_one,Nat.div_one,Nat.mod_one]at hc
  split at hc
  ·rename_i hlt
   obtain⟨h1,h2⟩:=h j hlt;rw[h2]at h1;obtain rfl:=Option.some.inj hc;exact h1
  cases hc
 |_=>exact h.elim
theorem Bk.oA {B:Bk}(h:B.flat):B.plain:=by cases B<;>first|exact h.elim|trivial
theorem results_tmp {P:Program}{fn:Func}{t:Tmp}(h:fn.results.toList=[.tmp t])(tmps:Array Value)(w:World):(results fn tmps).run P w= .ok (tmps.getD t undef) w:=by
 have:fn.results= #[.tmp t]:=Array.toList_inj.1 h
 unfold results;rw[this]
 simp[Sem.run_bind,Sem.run_pure]
def PO (rs:List ResultVar)(B:Bk):Exit→St→Prop
 |.ret,s=>match rs with
  |[.tmp t]=>mR s B (lk s.env t)
  |_=>False
 |.normal,s=>match rs with
  |[.tmp t]=>mR s B (lk s.env t)
  |_=>False
 |_,_=>False
theorem Ij {rs:List ResultVar}{B:Bk}{e:Exit}{s:St}(h:Gx rs B e s):(e= .normal∨e= .ret)∧∃t,rs=[.tmp t]∧k9 s B (lk s.env t):=by
 unfold Gx at h
 split at h
 ·split at h
  ·exact⟨.inr rfl,_,rfl,h⟩
  exact h.elim
 ·split at h
  ·exact⟨.inl rfl,_,rfl,h⟩
  exact h.elim
 exact h.elim
def L0 (b2:Nat)(c:C)(g:Nat→C):Prop:=(∃wd o l,c= .own b2 wd o l∧∀b,g b= .own b wd o l)∨(EU c=true∧∀b,g b=c)
def Ff (s:St)(n:Nat)(g:Nat→Nat→C)(B:Bk)(x:V):Prop:=
 match x with
 |.one (.win b b2 off len)=>off=0∧len=n∧b≠b2∧b7 (lo s.own b) (fun W=>W.rw=true∧match W.bk with
   |.wins _ _ n' g'=>n'=n∧∀i,i<n→L0 b2 (g' i) (fun b=>g b i)
   |_=>False)∧b7 (lo s.own b2) fun B'=>B'.rw=true∧Y5 [] 0 B'.bk B
 |_=>False
theorem tJ {w w':World}{ok:Nat→Prop}{ρ:Nat→Loc}{s':St}{a:Act}{t:Tmp}{B:Bk}(hB:B.flat)
  (hs:aR {W0:=w,forb:=fun g=>g<w.heap.size∧¬ok g,mine:=fun _=>False} (fun b=>b<s'.nx) ρ s' a w') (hfv:mR s' B (lk s'.env t)):
  ∃l:Loc,l.len=B.len∧(∀g o,l.addr=some (g,o)→w.heap.size≤g∧g<w'.heap.size)∧
   aL bg bn (fun g=>ok g∨(w.heap.size≤g∧g<w'.heap.size∧∀o,l.addr≠some (g,o))) w' l B∧dZ (fun _=>l) (fun _=>True) (fun _=>False) w' (.own 0 B.wd 0 B.len) (a.tmps.getD t undef):=by
 have hev:=hs.env t;unfold mR at hfv
 split at hfv
 ·rename_i b wd off len hx
  obtain⟨rfl,rfl,rfl,h4⟩:=hfv
  cases hlo:lo s'.own b with
  |none=>rw[hlo]at h4;exact h4.elim
  |some B'=>
   rw[hlo]at h4;obtain⟨h5,h6⟩:=h4;obtain⟨hd,hlB,hrB,hgB⟩:=hs.own b B' hlo;rw[hx]at hev;obtain⟨_,h7,h8⟩:=hev;refine⟨⟨(ρ b).addr,B.len⟩,rfl,fun g o ha=>?_,?_,trivial,(by simp),h8⟩
   ·obtain⟨h9,_,h10⟩:=hgB g o ha
    rcases h10 with h10|h10
    ·exact⟨h10,h9⟩
    exact h10.elim
   have h9:aL ρ (fun b=>b<s'.nx) (aF {W0:=w,forb:=fun g=>g<w.heap.size∧¬ok g,mine:=fun _=>False} s'.own ρ w') w' ⟨(ρ b).addr,B.len⟩ B:=by
    unfold aL at hrB⊢;simp only
    cases ha:(ρ b).addr with
    |none=>
     rw[ha]at hrB;intro j
     cases hc:B.cell j with
     |none=>rfl
     |some c=>exact absurd (hrB j) (by simp[vh h6 j c hc])
    |some x=>
     obtain⟨g,o⟩:=x;rw[ha]at hrB;obtain⟨cur,e,hg,hc⟩:=hrB;refine⟨cur,e,hg,fun j c hj=>?_⟩;obtain⟨u,hu,hr⟩:=hc j c (vh h6 j c hj);refine⟨u,hu,?_⟩;obtain⟨hf2,hf1⟩:=EB h6;have hrI:aP (aF {W0:=w,forb:=fun g=>g<w.heap.size∧¬ok g,mine:=fun _=>False} s'.own ρ w') w' c u:=by
      cases hb':B'.bk with
      |var cs=>exact absurd hb' (hf1 cs)
      |ints e' k' xs'=>rw[hb']at hr;exact hr
      |rows e' w'' n' f'=>rw[hb']at hr;exact hr
      |wins e' b2 n' g'=>rw[hb']at hr h6;exact uz (F2 h6 hj) hr
     cases B with
     |var cs=>exact hf2.elim
     |wins e b2 n g=>exact hf2.elim
     |ints e k xs=>exact hrI
     |rows e w2 n f=>exact hrI
   refine h9.gC (Bk.oA hB) fun g hg=>?_
   by_cases hgs:g<w.heap.size
   ·by_cases hok':ok g
    ·exact .inl hok'
    exact absurd ⟨hgs,hok'⟩ hg.2.1
   exact .inr ⟨by omega,hg.1,fun o ha=>hg.2.2 b B' hlo h5 o ha⟩
 ·rename_i hx
  rw[hx]at hev;have hev:a.tmps.getD t undef= .slice none 0 0:=hev;have hB0:B.len=0:=by
   cases B with
   |var cs=>exact hfv.elim
   |ints e k xs=>have:xs=[]:=hfv;subst this;rfl
   |rows e wd n f=>have:n=0:=hfv;subst this;rfl
   |wins e b2 n g=>exact hB.elim
  have hBc:∀j,B.cell j=none:=by
   intro j
   cases B with
   |var cs=>exact hfv.elim
   |ints e k xs=>have:xs=[]:=hfv;subst this;simp[Bk.cell]
   |rows e wd n f=>have:n=0:=hfv;subst this;simp[Bk.cell]
   |wins e b2 n g=>exact hB.elim
  have hval:dZ (fun _=>(⟨none,0⟩:Loc)) (fun _=>True) (fun _=>False) w' (.own 0 B.wd 0 B.len) (a.tmps.getD t undef):=by
   rw[hB0];exact⟨trivial,Nat.le_refl _,0,Nat.le_refl _,.inr ⟨rfl,hev,rfl,rfl⟩⟩
  exact⟨⟨none,0⟩,hB0.symm,fun g o ha=>absurd ha (by simp),hBc,hval⟩
 exact hfv.elim
theorem ye {w:World}{ok:Nat→Prop}{args:List V}{n:Nat}(hargs:args.length≤n){vs:Array Value}(hok:∀g,ok g→g<w.heap.size)(hvs:a6 bg bn ok w args vs.toList):
  oI {W0:=w,forb:=fun g=>g<w.heap.size∧¬ok g,mine:=fun _=>False} (iS args n) {tmps:=vs++Array.replicate (n-vs.size) undef,defers:=[]} w:=by
 have hlen:=a6.length hvs;simp only[Array.length_toList]at hlen
 let G:Ctx:={W0:=w,forb:=fun g=>g<w.heap.size∧¬ok g,mine:=fun _=>False}
 let a0:Act:={tmps:=vs++Array.replicate (n-vs.size) undef,defers:=[]}
 have hokG:∀g,ok g→aF G [] bg w g:=fun g hg=>⟨hok g hg,fun hf=>hf.2 hg,fun b B hl=>by cases hl⟩;show oI G (iS args n) a0 w;refine⟨bg,{hd:=rfl,hn:=?_,env:=fun t=>?_,own:=fun b B hl=>(by cases hl),inj:=fun b B b' B' hl=>(by cases hl),os:=rfl,tape:=rfl,output:=rfl,size:=Nat.le_refl _,keep:=fun _ _ _=>rfl,wf:=fun k hk=>hk.1,home:=fun l hl=>(by cases hl),room:=fun _=>Nat.le_refl _}⟩
 ·simp[a0,iS];omega
 simp only[iS,nh]
 split
 ·rename_i ht
  simp only[Nat.sub_zero,Nat.zero_add]at ht⊢;have hx:args[t]? =some (args.getD t .unk):=by
   rw[X7,X8 ht.2];rfl
  obtain⟨v,hv,hr⟩:=a6.get hvs t _ hx;have hv':a0.tmps.getD t undef=v:=by
   rw[Array.getElem?_toList]at hv;have hlt:=(Array.getElem?_eq_some_iff.1 hv).1;simp only[a0,Array.getD_eq_getD_getElem?];rw[Array.getElem?_append_left hlt,hv];rfl
  rw[hv'];exact bZ.we (dJ.ext (Ext.dx hokG) ⟨fun b hb=>hb.elim,fun b hb=>hb.elim⟩ _ _ hr)
 trivial
theorem wJ {P:Program}{T:fD}(hT:eD P T)(hm:P.follows .mixedOrders=true){f:FuncId}{fn:Func}{c:Code}(hf:P.funcs[f]? =some fn)(hb:fn.body=some c)(hn:(fn.name== "runtime.NumGoroutine")=false)
  (args:List V) (hargs:args.length≤fn.ntmps) (keep:Kp) (hck:codeOk keep c=true) (B:Bk) (hB:B.flat)
  (RET:Exit→St→Prop) (hret:∀e s,RET e s→(e= .normal∨e= .ret)∧∃t,fn.results.toList=[.tmp t]∧mR s B (lk s.env t))
  (h:vc T P keep c (iS args fn.ntmps) RET):Fr P f args B:=by
 refine⟨⟨fn,hf,by rw[hb];rfl,hn⟩,hB,fun ok w vs hok hvs=>?_⟩
 let G:Ctx:={W0:=w,forb:=fun g=>g<w.heap.size∧¬ok g,mine:=fun _=>False}
 have hsim:=ye hargs hok hvs;refine calls_of_wp hf hb (wp_mono (mV hT hm keep c hck _ _ h G _ w hsim) ?_);rintro e a w' ⟨s',hq,ρ,hs⟩;obtain⟨he,t,hrs,hfv⟩:=hret _ _ hq;have hres:=results_tmp (P:=P) hrs a.tmps w';have hbelow:Go.RowKit.Below w.heap.size w w':=⟨hs.os,hs.tape,hs.output,hs.size,fun k hk=>hs.keep k hk (fun hf=>hf)⟩;obtain⟨l,h1,h2,h3,h4⟩:=tJ hB hs hfv;have fin:a.defers=[]∧∃v,(results fn a.tmps).run P w'= .ok v w'∧∃u l,Ending.returned v= .returned u∧Go.RowKit.Below w.heap.size w w'∧l.len=B.len∧(∀g o,l.addr=some (g,o)→w.heap.size≤g∧g<w'.heap.size)∧
   aL bg bn (fun g=>ok g∨(w.heap.size≤g∧g<w'.heap.size∧∀o,l.addr≠some (g,o))) w' l B∧dZ (fun _=>l) (fun _=>True) (fun _=>False) w' (.own 0 B.wd 0 B.len) u:=
  ⟨hs.hd,_,hres,_,l,rfl,hbelow,h1,h2,h3,h4⟩
 rcases he with rfl|rfl
 ·exact fin
 exact fin
theorem xR {P:Program}{T:fD}(hT:eD P T)(hm:P.follows .mixedOrders=true){f:FuncId}{fn:Func}{c:Code}(hf:P.funcs[f]? =some fn)(hb:fn.body=some c)(hn:(fn.name== "runtime.NumGoroutine")=false)
  (args:List V) (hargs:args.length≤fn.ntmps) (keep:Kp) (hck:codeOk keep c=true) (B:Bk) (c0:C) (hB:B.flat) (hc0:mP c0)
  (h:vc T P keep c (iS args fn.ntmps) (H8 fn.results.toList B c0)):dI P f args B c0:=by
 refine⟨hc0,⟨fn,hf,by rw[hb];rfl,hn⟩,hB,fun ok w vs hok hvs=>?_⟩
 let G:Ctx:={W0:=w,forb:=fun g=>g<w.heap.size∧¬ok g,mine:=fun _=>False}
 have hsim:=ye hargs hok hvs;refine calls_of_wp hf hb (wp_mono (mV hT hm keep c hck _ _ h G _ w hsim) ?_);rintro e a w' ⟨s',hq,ρ,hs⟩;obtain⟨he,t,u,hrs,hfv,hu⟩:=Iw hq;have hbelow:Go.RowKit.Below w.heap.size w w':=⟨hs.os,hs.tape,hs.output,hs.size,fun k hk=>hs.keep k hk (fun hf=>hf)⟩;obtain⟨l,h1,h2,h3,h4⟩:=tJ hB hs (Ao hB hfv);have hres:(results fn a.tmps).run P w'= .ok (.tuple #[a.tmps.getD t undef,a.tmps.getD u undef]) w':=by
  have:fn.results= #[.tmp t,.tmp u]:=Array.toList_inj.1 hrs
  unfold results;rw[this]
  simp[Sem.run_bind,Sem.run_pure]
 have hcu:aB bg bn (fun _=>False) w' c0 (a.tmps.getD u undef):=by
  have:=hs.env u
  rw[hu]at this
  cases c0<;>first|exact hc0.elim|exact this
 have fin:a.defers=[]∧∃v,(results fn a.tmps).run P w'= .ok v w'∧∃x y l,Ending.returned v= .returned (.tuple #[x,y])∧Go.RowKit.Below w.heap.size w w'∧l.len=B.len∧(∀g o,l.addr=some (g,o)→w.heap.size≤g∧g<w'.heap.size)∧
   aL bg bn (fun g=>ok g∨(w.heap.size≤g∧g<w'.heap.size∧∀o,l.addr≠some (g,o))) w' l B∧dZ (fun _=>l) (fun _=>True) (fun _=>False) w' (.own 0 B.wd 0 B.len) x∧aB bg bn (fun _=>False) w' c0 y:=
  ⟨hs.hd,_,hres,_,_,l,rfl,hbelow,h1,h2,h3,h4,hcu⟩
 rcases he with rfl|rfl
 ·exact fin
 exact fin
def MX (rs:List ResultVar)(n:Nat)(g:Nat→Nat→C)(B:Bk)(c:Option C):Exit→St→Prop
 |.ret,s=>match rs,c with
  |[.tmp t,.tmp u],some c=>Ff s n g B (lk s.env t)∧lk s.env u= .one c
  |[.tmp t],none=>Ff s n g B (lk s.env t)
  |_,_=>False
 |.normal,s=>match rs,c with
  |[.tmp t,.tmp u],some c=>Ff s n g B (lk s.env t)∧lk s.env u= .one c
  |[.tmp t],none=>Ff s n g B (lk s.env t)
  |_,_=>False
 |_,_=>False
theorem F9 {rs:List ResultVar}{n:Nat}{g:Nat→Nat→C}{B:Bk}{c:Option C}{e:Exit}{s:St}(h:MX rs n g B c e s):(e= .normal∨e= .ret)∧∃t,Ff s n g B (lk s.env t)∧((∃u c',c=some c'∧rs=[.tmp t,.tmp u]∧lk s.env u= .one c')∨(c=none∧rs=[.tmp t])):=by
 unfold MX at h
 split at h
 ·split at h
  ·exact⟨.inr rfl,_,h.1,.inl ⟨_,_,rfl,rfl,h.2⟩⟩
  ·exact⟨.inr rfl,_,h,.inr ⟨rfl,rfl⟩⟩
  exact h.elim
 ·split at h
  ·exact⟨.inl rfl,_,h.1,.inl ⟨_,_,rfl,rfl,h.2⟩⟩
  ·exact⟨.inl rfl,_,h,.inr ⟨rfl,rfl⟩⟩
  exact h.elim
 exact h.elim
theorem pY {P:Program}{T:fD}(hT:eD P T)(hm:P.follows .mixedOrders=true){f:FuncId}{fn:Func}{c:Code}(hf:P.funcs[f]? =some fn)(hb:fn.body=some c)(hn:(fn.name== "runtime.NumGoroutine")=false)
  (args:List V) (hargs:args.length≤fn.ntmps) (keep:Kp) (hck:codeOk keep c=true) (n:Nat) (g0:Nat→Nat→C) (B:Bk) (c0:Option C) (hB:B.flat) (hc0:∀c',c0=some c'→mP c')
  (h:vc T P keep c (iS args fn.ntmps) (MX fn.results.toList n g0 B c0)):ra P f args n g0 B c0:=by
 refine⟨hc0,⟨fn,hf,by rw[hb];rfl,hn⟩,hB,fun ok w vs hok hvs=>?_⟩
 let G:Ctx:={W0:=w,forb:=fun g=>g<w.heap.size∧¬ok g,mine:=fun _=>False}
 have hsim:=ye hargs hok hvs;refine calls_of_wp hf hb (wp_mono (mV hT hm keep c hck _ _ h G _ w hsim) ?_);rintro e a w' ⟨s',hq,ρ,hs⟩;obtain⟨he,t,hfv,hrs⟩:=F9 hq;have hbelow:Go.RowKit.Below w.heap.size w w':=⟨hs.os,hs.tape,hs.output,hs.size,fun k hk=>hs.keep k hk (fun hf=>hf)⟩;have hev:=hs.env t;unfold Ff at hfv
 split at hfv
 rotate_left
 ·exact hfv.elim
 rename_i b b2 off len hx
 obtain⟨rfl,rfl,hne,h4,h5⟩:=hfv
 cases hlo:lo s'.own b with
 |none=>rw[hlo]at h4;exact h4.elim
 |some W=>
  cases hlo2:lo s'.own b2 with
  |none=>rw[hlo2]at h5;exact h5.elim
  |some B'=>
   rw[hlo]at h4;rw[hlo2]at h5;obtain⟨h6,h7⟩:=h4;obtain⟨h8,h9⟩:=h5;obtain⟨hd1,hl1,hr1,hg1⟩:=hs.own b W hlo;obtain⟨hd2,hl2,hr2,hg2⟩:=hs.own b2 B' hlo2;have hfW:∃e3 b3 n3 g3,W.bk= .wins e3 b3 n3 g3∧n3=len∧∀i,i<len→L0 b2 (g3 i) (fun b=>g0 b i):=by
    cases hW:W.bk with
    |wins e3 b3 n3 g3=>rw[hW]at h7;exact⟨e3,b3,n3,g3,rfl,h7.1,h7.2⟩
    |_=>rw[hW]at h7;exact h7.elim
   obtain⟨e3,b3,n3,g3,hW,rfl,hg3⟩:=hfW;obtain⟨u,hres,hcu⟩:∃u,(results fn a.tmps).run P w'= .ok (z5 c0 (a.tmps.getD t undef) u) w'∧∀c',c0=some c'→aB bg bn (fun _=>False) w' c' u:=by
    rcases hrs with⟨u,c',rfl,hrs,hu⟩|⟨rfl,hrs⟩
    ·refine⟨a.tmps.getD u undef,?_,fun c'' e=>?_⟩
     ·have:fn.results= #[.tmp t,.tmp u]:=Array.toList_inj.1 hrs
      unfold results;rw[this]
      simp[Sem.run_bind,Sem.run_pure,z5]
     obtain rfl:=Option.some.inj e
     have:=hs.env u
     rw[hu]at this;have hsc:=hc0 c' rfl
     cases c'<;>first|exact hsc.elim|exact this
    refine⟨undef,?_,fun c'' e=>by cases e⟩
    have:fn.results= #[.tmp t]:=Array.toList_inj.1 hrs
    unfold results;rw[this]
    simp[Sem.run_bind,Sem.run_pure,z5]
   rw[hx]at hev;rw[hW]at hr1 hl1;have hl1:(ρ b).len=n3:=hl1;have hl2':(ρ b2).len=B.len:=by rw[hl2];exact(yH h9).symm
   have hokl:∀g,aF G s'.own ρ w' g→(ok g∨(w.heap.size≤g∧g<w'.heap.size∧∀o,(ρ b).addr≠some (g,o)∧(ρ b2).addr≠some (g,o))):=fun g hg=>by
    by_cases hgs:g<w.heap.size
    ·by_cases hok':ok g
     ·exact .inl hok'
     exact absurd ⟨hgs,hok'⟩ hg.2.1
    exact .inr ⟨by omega,hg.1,fun o=>⟨fun ha=>hg.2.2 b W hlo h6 o ha,fun ha=>hg.2.2 b2 B' hlo2 h8 o ha⟩⟩
   have hrB:aL bg bn (fun g=>ok g∨(w.heap.size≤g∧g<w'.heap.size∧∀o,(ρ b).addr≠some (g,o)∧(ρ b2).addr≠some (g,o))) w' (ρ b2) B:=by
    exact aL.gC (Bk.oA hB) hokl (s7 (ok':=aF G s'.own ρ w') (Ext.refl _ _) h9 hr2)
   have new:∀c B,lo s'.own c=some B→∀g o,(ρ c).addr=some (g,o)→w.heap.size≤g∧g<w'.heap.size:=fun c B hc g o ha=>by
    obtain⟨k1,_,k2⟩:=(hs.own c B hc).2.2.2 g o ha
    rcases k2 with k2|k2
    ·exact⟨k2,k1⟩
    exact k2.elim
   have fin:a.defers=[]∧∃v,(results fn a.tmps).run P w'= .ok v w'∧∃x y l1 l2,Ending.returned v= .returned (z5 c0 x y)∧Go.RowKit.Below w.heap.size w w'∧l1.len=n3∧l2.len=B.len∧
     (∀g o,l1.addr=some (g,o)→w.heap.size≤g∧g<w'.heap.size)∧(∀g o,l2.addr=some (g,o)→w.heap.size≤g∧g<w'.heap.size)∧(∀g o o',l1.addr=some (g,o)→l2.addr≠some (g,o'))∧
     aL bg bn (fun g=>ok g∨(w.heap.size≤g∧g<w'.heap.size∧∀o,l1.addr≠some (g,o)∧l2.addr≠some (g,o))) w' l2 B∧
     (∀(ρ:Nat→Loc) (dom ok':Nat→Prop) (b b2:Nat),ρ b=l1→ρ b2=l2→dom b→dom b2→(∀g,(ok g∨(w.heap.size≤g∧g<w'.heap.size∧∀o,l1.addr≠some (g,o)∧l2.addr≠some (g,o)))→ok' g)→
      aL ρ dom ok' w' l1 (.wins 0 b2 n3 (g0 b2))∧aB ρ dom ok' w' (.win b b2 0 n3) x)∧∀c',c0=some c'→aB bg bn (fun _=>False) w' c' y:=by
    refine⟨hs.hd,_,hres,_,_,ρ b,ρ b2,rfl,hbelow,hl1,hl2',new b W hlo,new b2 B' hlo2,fun g o o' ha=>hs.inj b W b2 B' hlo hlo2 hne h6 g o o' ha,hrB,fun ρ' dom ok' c c2 e1 e2 d1 d2 hok2=>⟨?_,?_⟩,hcu⟩
    ·unfold aL at hr1⊢
     cases ha:(ρ b).addr with
     |none=>
      rw[ha]at hr1;intro j
      have:=hr1 j
      simp only[Bk.cell]at this⊢
      split at this
      ·cases this
      rename_i hj;rw[if_neg hj]
     |some x=>
      obtain⟨g,o⟩:=x;rw[ha]at hr1;obtain⟨cur,e4,hg4,hc4⟩:=hr1;refine⟨cur,e4,hg4,fun j cc hj=>?_⟩;simp only[Bk.cell]at hj hc4
      split at hj
      ·rename_i hjl
       obtain⟨uu,hu1,hu2⟩:=hc4 j (g3 j) (if_pos hjl);refine⟨uu,hu1,?_⟩;obtain rfl:=Option.some.inj hj
       rcases hg3 j hjl with⟨wd,o1,l1,k0,k1⟩|⟨k0,k1⟩
       ·rw[k0]at hu2;obtain⟨_,k2⟩:=hu2;show aB ρ' dom ok' w' (g0 c2 j) uu;rw[show g0 c2 j=_ from k1 c2];exact⟨d2,by rw[e2];exact k2⟩
       show aB ρ' dom ok' w' (g0 c2 j) uu;rw[show g0 c2 j=_ from k1 c2];exact aB.ba (aP.ext (Ext.dx fun g hg=>hok2 g (hokl g hg)) _ _ (uz k0 hu2))
      cases hj
    obtain⟨_,_,k2⟩:=hev;exact⟨d2,d1,by rw[e1];exact k2⟩
   rcases he with rfl|rfl
   ·exact fin
   exact fin
theorem Al {P:Program}{T:fD}(hT:eD P T)(hm:P.follows .mixedOrders=true){f:FuncId}{fn:Func}{c:Code}(hf:P.funcs[f]? =some fn)(hb:fn.body=some c)(hn:(fn.name== "runtime.NumGoroutine")=false)
  (args:List V) (hargs:args.length≤fn.ntmps) (keep:Kp) (hck:codeOk keep c=true) (B:Bk) (hB:B.flat)
  (h:vc T P keep c (iS args fn.ntmps) (Gx fn.results.toList B)):Fr P f args B:=
 wJ hT hm hf hb hn args hargs keep hck B hB _ (fun _ _ hr=>by obtain⟨h1,t,h2,h3⟩:=Ij hr;exact⟨h1,t,h2,Ao hB h3⟩) h
def Co (s:St):List ResultVar→Option V
 |[]=>some (.aA [])
 |[.tmp t]=>some (IP 0 s.own s.nx (lk s.env t))
 |[.tmp t,.tmp u]=>some (.aA [IP 0 s.own s.nx (lk s.env t),IP 0 s.own s.nx (lk s.env u)])
 |_=>none
def H4 (rs:List ResultVar)(R:V→Bk→Prop):Exit→St→Prop
 |.ret,s=>b7 (lo s.own 0) fun B'=>B'.rw=true∧B'.bk.plain∧b7 (Co s rs) fun r=>R r B'.bk
 |.normal,s=>b7 (lo s.own 0) fun B'=>B'.rw=true∧B'.bk.plain∧b7 (Co s rs) fun r=>R r B'.bk
 |_,_=>False
def iM (args:List V)(B:Bk)(n:Nat):St:={env:=eO 0 args,own:=[(0,⟨B,true⟩)],nx:=1,n:=n}
theorem LK {rs:List ResultVar}{R:V→Bk→Prop}{e:Exit}{s:St}(h:H4 rs R e s):(e= .normal∨e= .ret)∧∃B' r,lo s.own 0=some B'∧B'.rw=true∧B'.bk.plain∧Co s rs=some r∧R r B'.bk:=by
 have key:(b7 (lo s.own 0) fun B'=>B'.rw=true∧B'.bk.plain∧b7 (Co s rs) fun r=>R r B'.bk)→∃B' r,lo s.own 0=some B'∧B'.rw=true∧B'.bk.plain∧Co s rs=some r∧R r B'.bk:=by
  intro h;unfold b7 at h
  split at h
  ·rename_i B' hB
   obtain⟨h1,h2,h3⟩:=h
   split at h3
   ·rename_i r hr;exact⟨B',r,hB,h1,h2,hr,h3⟩
   exact h3.elim
  exact h.elim
 unfold H4 at h
 split at h
 ·exact⟨.inr rfl,key h⟩
 ·exact⟨.inl rfl,key h⟩
 exact h.elim
theorem DM {P:Program}{T:fD}(hT:eD P T)(hm:P.follows .mixedOrders=true){f:FuncId}{fn:Func}{c:Code}(hf:P.funcs[f]? =some fn)(hb:fn.body=some c)(hn:(fn.name== "runtime.NumGoroutine")=false)
  (args:List V) (hargs:args.length≤fn.ntmps) (keep:Kp) (hck:codeOk keep c=true) (B:Bk) (hBp:B.plain) (R:V→Bk→Prop)
  (h:vc T P keep c (iM args B fn.ntmps) (H4 fn.results.toList R)):Mc P f args B R:=by
 refine⟨⟨fn,hf,by rw[hb];rfl,hn⟩,fun ok w vs l hok hlB hnot hrB hvs=>?_⟩;have hlen:=a6.length hvs;simp only[Array.length_toList]at hlen
 let G:Ctx:={W0:=w,forb:=fun g=>g<w.heap.size∧¬ok g∧∀o,l.addr≠some (g,o),mine:=fun g=>∃o,l.addr=some (g,o),home:=some l}
 let a0:Act:={tmps:=vs++Array.replicate (fn.ntmps-vs.size) undef,defers:=[]}
 have hokG:∀g,ok g→aF G [(0,⟨B,true⟩)] (fun _=>l) w g:=fun g hg=>⟨hok g hg,fun hf=>hf.2.1 hg,fun b B2 hl hrw o ha=>(hnot g o ha).2 hg⟩;have hsim:oI G (iM args B fn.ntmps) a0 w:=by
  refine⟨fun _=>l,{hd:=rfl,hn:=?_,env:=fun t=>?_,own:=fun b B2 hl=>?_,inj:=fun b B1 b' B' hl hl' hne=>?_,os:=rfl,tape:=rfl,output:=rfl,size:=Nat.le_refl _,keep:=fun _ _ _=>rfl,wf:=fun k hk=>hk.1,home:=fun l' hl=>?_,room:=fun _=>Nat.le_refl _}⟩
  ·simp[a0,iM];omega
  ·simp only[iM,nh]
   split
   ·rename_i ht
    simp only[Nat.sub_zero,Nat.zero_add]at ht⊢;have hx:args[t]? =some (args.getD t .unk):=by
     rw[X7,X8 ht.2];rfl
    obtain⟨v,hv,hr⟩:=a6.get hvs t _ hx;have hv':a0.tmps.getD t undef=v:=by
     rw[Array.getElem?_toList]at hv;have hlt:=(Array.getElem?_eq_some_iff.1 hv).1;simp only[a0,Array.getD_eq_getD_getElem?];rw[Array.getElem?_append_left hlt,hv];rfl
    rw[hv'];exact bZ.we (dJ.ext (Ext.dx hokG) ⟨fun b hb=>by omega,fun b hb=>rfl⟩ _ _ hr)
   trivial
  ·simp only[iM,lo]at hl
   split at hl
   ·rename_i hb0
    subst hb0;obtain rfl:=Option.some.inj hl;refine⟨by simp[iM],hlB,hrB.gC hBp hokG,fun g o ha=>⟨(hnot g o ha).1,fun hf=>hf.2.2 o ha,.inr ⟨o,ha⟩⟩⟩
   cases hl
  ·simp only[iM,lo]at hl hl'
   split at hl
   ·split at hl'
    ·rename_i h1 h2;exact absurd (h1.trans h2.symm) hne
    cases hl'
   cases hl
  exact⟨by simp[iM],(Option.some.inj hl)⟩
 refine calls_of_wp hf hb (wp_mono (mV hT hm keep c hck _ _ h G _ w hsim) ?_);rintro e a w' ⟨s',hq,ρ,hs⟩;obtain⟨he,B',r,hlo,hrw,hpl,hres,hR⟩:=LK hq;obtain⟨hd0,hρ0⟩:=hs.home l rfl;obtain⟨_,hlB',hrB',hgB'⟩:=hs.own 0 B' hlo;have hmb:xA l w w':=⟨hs.os,hs.tape,hs.output,hs.size,fun k hk hno=>hs.keep k hk (fun hf=>by obtain⟨o,ho⟩:=hf;exact hno o ho),hs.room⟩;have hone:∀g,g<w'.heap.size→¬G.forb g→(∀o,l.addr≠some (g,o))→Fj ok w w' g:=fun g h1 h2 h3=>by
  by_cases hgs:g<w.heap.size
  ·by_cases hok':ok g
   ·exact .inl hok'
   exact absurd ⟨hgs,hok',h3⟩ h2
  exact .inr ⟨by omega,h1⟩
 have hokE:∀ids,0∉ids→∀g,cU G s'.own ρ w' ids g→Fj ok w w' g:=by
  rintro ids hids g (h1|⟨b1,hb1,B1,o',hl1,ha'⟩)
  ·exact hone g h1.1 h1.2.1 fun o ha=>h1.2.2 0 B' hlo hrw o (by rw[hρ0];exact ha)
  obtain⟨_,_,_,h4⟩:=hs.own b1 B1 hl1;obtain⟨h5,h6,_⟩:=h4 g o' ha';exact hone g h5 h6 fun o ha=>hs.inj 0 B' b1 B1 hlo hl1 (fun e=>hids (e▸hb1)) hrw g o o' (by rw[hρ0];exact ha) ha'
 have hend:∃v,(results fn a.tmps).run P w'= .ok v w'∧bZ (fun _=>l) (fun b=>b=0) (Fj ok w w') w' r v:=by
  have hmu:∀t,dJ (fun _=>l) (fun b=>b=0) (Fj ok w w') w' (IP 0 s'.own s'.nx (lk s'.env t)) (a.tmps.getD t undef):=by
   intro t;have h1:=u6 hs 0 ((ky (lk s'.env t)).filter (fun b=>b !=0)) (lk s'.env t) _ (fun b hb hne=>List.mem_filter.2 ⟨hb,by simpa using hne⟩) (hs.env t);rw[hρ0]at h1;exact dJ.ext (Ext.dx (hokE _ (by simp))) ⟨fun _ h=>h,fun _ _=>rfl⟩ _ _ h1
  unfold Co at hres
  split at hres
  ·rename_i hrs
   obtain rfl:=Option.some.inj hres
   have:fn.results= #[]:=Array.toList_inj.1 hrs
   refine⟨.tuple #[],?_,#[],rfl,trivial⟩;unfold results;rw[this]
   simp[Sem.run_bind,Sem.run_pure]
  ·rename_i t hrs
   obtain rfl:=Option.some.inj hres;exact⟨_,results_tmp hrs a.tmps w',bZ.we (hmu t)⟩
  ·rename_i t u hrs
   obtain rfl:=Option.some.inj hres
   have:fn.results= #[.tmp t,.tmp u]:=Array.toList_inj.1 hrs
   refine⟨.tuple #[a.tmps.getD t undef,a.tmps.getD u undef],?_,_,rfl,hmu t,hmu u,trivial⟩;unfold results;rw[this]
   simp[Sem.run_bind,Sem.run_pure]
  cases hres
 obtain⟨v,hrun,hval⟩:=hend;have hfinal:aL bg bn (Fj ok w w') w' l B'.bk:=by
  rw[hρ0]at hrB';exact hrB'.gC hpl fun g hg=>hokE [] (by simp) g (.inl hg)
 have hB'len:B'.bk.len=B.len:=by rw[←hlB',hρ0,hlB]
 have fin:a.defers=[]∧∃v,(results fn a.tmps).run P w'= .ok v w'∧∃u r B2,Ending.returned v= .returned u∧R r B2∧B2.plain∧B2.len=B.len∧xA l w w'∧aL bg bn (Fj ok w w') w' l B2∧bZ (fun _=>l) (fun b=>b=0) (Fj ok w w') w' r u:=
  ⟨hs.hd,v,hrun,v,r,B'.bk,rfl,hR,hpl,hB'len,hmb,hfinal,hval⟩
 rcases he with rfl|rfl
 ·exact fin
 exact fin
set_option linter.defProp false in
def Qg:=And.intro @List.contains_cons.{0} (And.intro @List.contains_nil.{0} (And.intro @beq_self_eq_true.{0} (And.intro @bne_self_eq_false.{0} (And.intro @bne_iff_ne.{0} (And.intro @List.take_length.{0} (And.intro @List.toList_toArray.{0} (And.intro @List.map_nil.{0,0} (And.intro @List.map_cons.{0,0} (And.intro @List.flatten_nil.{0} (And.intro @List.flatten_cons.{0} (And.intro @List.filter_nil.{0} (And.intro @List.filter_cons.{0} (And.intro @List.nil_append.{0} (And.intro @List.cons_append.{0} (And.intro @List.append_nil.{0} (And.intro @List.any_nil.{0} (And.intro @List.any_cons.{0} (And.intro @List.all_nil.{0} (And.intro @List.all_cons.{0} (And.intro @List.take_zero.{0} (And.intro @List.take_succ_cons.{0} (And.intro @List.take_nil.{0} (And.intro @List.drop_zero.{0} (And.intro @List.drop_succ_cons.{0} (And.intro @List.drop_nil.{0} (And.intro @List.getElem?_cons_zero.{0} (And.intro @List.getElem?_cons_succ.{0} (And.intro @List.getD_cons_zero.{0} (And.intro @List.getD_cons_succ.{0} (And.intro @List.length_cons.{0} (And.intro @List.length_nil.{0} (And.intro @List.flatMap_cons.{0,0} (And.intro @List.flatMap_nil.{0,0} (And.intro @Option.map_some.{0,0} (And.intro @Option.map_none.{0,0} (And.intro @eq_self.{1} (And.intro @Bool.false_eq_true (And.intro @Int.toNat_natCast (And.intro @decide_eq_true_eq (And.intro @decide_eq_false_iff_not (And.intro @ne_eq.{1} (And.intro @not_true_eq_false (And.intro @not_false_eq_true (And.intro @Classical.not_not (And.intro @JG (And.intro @KT (And.intro @Bool.true_eq_false (And.intro @Int.sub_zero (And.intro @Int.zero_add (@Int.add_zero))))))))))))))))))))))))))))))))))))))))))))))))))
set_option linter.defProp false in
def QK:=And.intro @H8.eq_def (And.intro @Gx.eq_def (And.intro @k9.eq_def (And.intro @PO.eq_def (And.intro @mR.eq_def (And.intro @ED.eq_def (And.intro @H4.eq_def (@Co.eq_def)))))))
set_option linter.defProp false in
def QA:=And.intro @Option.some.injEq.{0} (And.intro @List.not_mem_nil.{0} (And.intro @false_imp_iff (And.intro @List.forall_mem_cons.{0} (And.intro @implies_true.{1} (@implies_true.{0})))))
end Go.Eng
/-
  THE ENGINE, PART Z: a function that returns a new slice, as one whose result is only looked at.
-/
namespace Go.Eng
open Go
theorem y6 {w w':World}{ok:Nat→Prop}{l:Loc}{B:Bk}{v:Value}(hf:B.flat)(hnew:∀g o,l.addr=some (g,o)→w.heap.size≤g∧g<w'.heap.size)
  (hl:l.len=B.len) (hrep:aL bg bn (fun g=>ok g∨(w.heap.size≤g∧g<w'.heap.size∧∀o,l.addr≠some (g,o))) w' l B) (hval:dZ (fun _=>l) (fun _=>True) (fun _=>False) w' (.own 0 B.wd 0 B.len) v):
  aB bg bn (fun g=>ok g∨(w.heap.size≤g∧g<w'.heap.size)) w' (fZ B B.wd 0 B.len) v:=by
 obtain⟨_,hle,cap,hcap,hv⟩:=hval;have hrep':aL bg bn (fun g=>ok g∨(w.heap.size≤g∧g<w'.heap.size)) w' l B:=hrep.gC (Bk.oA hf) fun g hg=>by
  rcases hg with hg|⟨h1,h2,_⟩
  ·exact .inl hg
  exact .inr ⟨h1,h2⟩
 refine aB.ba ?_
 rcases hv with⟨g,o,o',ha,rfl,ho,_⟩|⟨_,rfl,h0,_⟩
 ·exact lL ha hrep' (.inr (hnew g o ha)) hl hle hcap ho
 cases B with
 |var cs=>exact hf.elim
 |wins e b2 n g=>exact hf.elim
 |ints e k xs=>
  simp only[Bk.len]at h0;simp only[fZ,Bk.wd,if_true,Bk.len];exact⟨none,0,by simp[h0],by simp[h0],.inl (by simp[h0])⟩
 |rows e w n f=>
  simp only[Bk.len]at h0;subst h0;simp only[fZ,Bk.wd,if_true,Bk.len];exact⟨none,0,rfl,Nat.le_refl _,.inl rfl⟩
theorem Fr.view {P:Program}{f:FuncId}{args:List V}{B:Bk}(h:Fr P f args B):Pr P f args (.one (fZ B B.wd 0 B.len)):=by
 obtain⟨hc,hf,h⟩:=h;refine⟨hc,fun ok w vs hok hvs=>Calls.mono (h ok w vs hok hvs) fun e w' he=>?_⟩;obtain⟨v,l,rfl,hb,hl,hnew,hrep,hval⟩:=he;exact⟨v,rfl,hb,y6 hf hnew hl hrep hval⟩
theorem Fr.ints {P:Program}{f:FuncId}{args:List V}{e:TypeId}{k:IntKind}{xs:List Int}(h:Fr P f args (.ints e k xs)):Pr P f args (.one (.ints k xs)):=by
 have h1:=h.view;simp only[fZ,Bk.wd,Bk.len,if_true,List.drop_zero,List.take_length]at h1;exact h1
theorem Fr.rows {P:Program}{f:FuncId}{args:List V}{e:TypeId}{w n:Nat}{g:Nat→Nat→C}(h:Fr P f args (.rows e w n g)):Pr P f args (.one (.rows w n g)):=by
 have h1:=h.view;simp only[fZ,Bk.wd,Bk.len,if_true,Nat.zero_add]at h1;exact h1
end Go.Eng
/-
  THE ENGINE, PART ZA: arguments that stand for the same.
-/
namespace Go.Eng
open Go
def tQ (x y:V):Prop:=∀ok w v,dJ bg bn ok w x v→dJ bg bn ok w y v
theorem tQ.refl (x:V):tQ x x:=fun _ _ _ h=>h
theorem tQ.Mv {x y:C}(h:fP (.one x) (.one y)):tQ (.one x) (.one y):=fun ok w v hr=>h ok w v hr
def uP:List V→List V→Prop
 |[],[]=>True
 |x::xs,y::ys=>tQ x y∧uP xs ys
 |_,_=>False
theorem uP.rep {ok:Nat→Prop}{w:World}:∀{xs ys:List V} {vs:List Value},uP xs ys→a6 bg bn ok w xs vs→a6 bg bn ok w ys vs
 |[],[],_,_,h=>h
 |x::xs,y::ys,[],_,h=>h.elim
 |x::xs,y::ys,v::vs,ha,h=>⟨ha.1 ok w v h.1,uP.rep ha.2 h.2⟩
 |[],_::_,_,ha,_=>ha.elim
 |_::_,[],_,ha,_=>ha.elim
theorem Pr.args {P:Program}{f:FuncId}{xs ys:List V}{r:V}(h:Pr P f ys r)(ha:uP xs ys):Pr P f xs r:=
 ⟨h.1,fun ok w vs hok hvs=>h.2 ok w vs hok (ha.rep hvs)⟩
theorem Pr.Jc {P:Program}{f:FuncId}{x y:C}{r:V}(h:Pr P f [.one y] r)(ha:fP (.one x) (.one y)):Pr P f [.one x] r:=
 h.args ⟨.Mv ha,trivial⟩
def dr (c c':C):Prop:=∀ok w v,aP ok w c v→aP ok w c' v
theorem dr.refl (c:C):dr c c:=fun _ _ _ h=>h
theorem dr.of_eq {c c':C}(h:c=c'):dr c c':=h▸dr.refl c
theorem dr.zB (k:IntKind):dr .nil (.ints k []):=fun ok w v h=>⟨none,0,h,Nat.le_refl _,.inl rfl⟩
theorem dr.pc (wd:Nat)(f:Nat→Nat→C):dr .nil (.rows wd 0 f):=fun ok w v h=>⟨none,0,h,Nat.le_refl _,.inl rfl⟩
theorem dr.rows {wd n n':Nat}{f g:Nat→Nat→C}(hn:n=n')(h:∀i j,i<n→j<wd→dr (f i j) (g i j)):dr (.rows wd n f) (.rows wd n' g):=by
 subst hn;rintro ok w v ⟨a,cap,hv,hle,hr⟩;refine⟨a,cap,hv,hle,?_⟩
 rcases hr with hr|⟨b,o,ha,hg,hcs⟩
 ·exact .inl hr
 refine .inr ⟨b,o,ha,hg,fun i j hi hj=>?_⟩;obtain⟨u,hu,hr⟩:=hcs i j hi hj;exact⟨u,hu,h i j hi hj ok w u hr⟩
theorem tQ.cell {c c':C}(h:dr c c'):tQ (.one c) (.one c'):=fun ok w v hr=>aB.ba (h ok w v (aP.dX hr))
theorem Pr.LY {P:Program}{f:FuncId}{x y:C}{r:V}(h:Pr P f [.one y] r)(ha:dr x y):Pr P f [.one x] r:=
 h.args ⟨.cell ha,trivial⟩
theorem Pr.rO {P:Program}{f:FuncId}{x y x' y':C}{r:V}(h:Pr P f [.one y,.one y'] r)(ha:dr x y)(ha':dr x' y'):Pr P f [.one x,.one x'] r:=
 h.args ⟨.cell ha,.cell ha',trivial⟩
theorem Pr.res {P:Program}{f:FuncId}{xs:List V}{r r':V}(h:Pr P f xs r)(hr:fP r r'):Pr P f xs r':=
 ⟨h.1,fun ok w vs hok hvs=>Calls.mono (h.2 ok w vs hok hvs) fun _ _ ⟨v,he,hb,hv⟩=>⟨v,he,hb,hr _ _ _ hv⟩⟩
open Go
theorem dI.rows {P:Program}{f:FuncId}{args:List V}{e:TypeId}{w n:Nat}{g:Nat→Nat→C}{c:C}(h:dI P f args (.rows e w n g) c):Pr P f args (.aA [.one (.rows w n g),.one c]):=by
 obtain⟨hs,hc,hf,h⟩:=h;refine⟨hc,fun ok w vs hok hvs=>Calls.mono (h ok w vs hok hvs) fun e w' he=>?_⟩;obtain⟨v,u,l,rfl,hb,hl,hnew,hrep,hval,hu⟩:=he;have h1:=y6 hf hnew hl hrep hval;simp only[fZ,Bk.wd,Bk.len,if_true,Nat.zero_add]at h1;refine⟨_,rfl,hb,_,rfl,h1,?_,trivial⟩
 cases c<;>first|exact hs.elim|exact hu
theorem dI.args {P:Program}{f:FuncId}{xs ys:List V}{B:Bk}{c:C}(h:dI P f ys B c)(ha:uP xs ys):dI P f xs B c:=
 ⟨h.1,h.2.1,h.2.2.1,fun ok w vs hok hvs=>h.2.2.2 ok w vs hok (ha.rep hvs)⟩
end Go.Eng
/-
  THE TABLE OF THE TYPES that the functions of this seat speak of, by program (tys.py); and that it is the loaded program's own.
-/
namespace Go.Proofs.YtgcmkdgpaibpeaaGreat
open Go.Proofs.Tryz
open Go Go.Eng
def T:Nat→Option Ty
 |2=>some ⟨.int .i64,1,8,[.int .i64 0],[]⟩
 |3=>some ⟨.int .i64,1,8,[.int .i64 0],[]⟩
 |4=>some ⟨.bool,1,1,[.bool false],[]⟩
 |5=>some ⟨.int .u8,1,1,[.int .u8 0],[]⟩
 |9=>some ⟨.str,1,16,[.str ⟨#[]⟩],[]⟩
 |22=>some ⟨.sl 97,1,24,[.nil],[]⟩
 |23=>some ⟨.sl 97,1,24,[.nil],[]⟩
 |24=>some ⟨.sl 5,1,24,[.nil],[]⟩
 |25=>some ⟨.st [(0,1),(1,1),(2,1)],3,56,[.nil,.nil,.int .u8 0],[true,true,true]⟩
 |26=>some ⟨.st [(0,1),(1,1),(2,1)],3,56,[.nil,.nil,.int .u8 0],[true,true,true]⟩
 |28=>some ⟨.sl 33,1,24,[.nil],[]⟩
 |33=>some ⟨.sl 52,1,24,[.nil],[]⟩
 |35=>some ⟨.sl 2,1,24,[.nil],[]⟩
 |36=>some ⟨.sl 3,1,24,[.nil],[]⟩
 |37=>some ⟨.int .i64,1,8,[.int .i64 0],[]⟩
 |49=>some ⟨.sl 50,1,24,[.nil],[]⟩
 |50=>some ⟨.sl 62,1,24,[.nil],[]⟩
 |51=>some ⟨.st [(0,1),(1,1)],2,48,[.nil,.nil],[true,true]⟩
 |52=>some ⟨.st [(0,1),(1,1)],2,48,[.nil,.nil],[true,true]⟩
 |58=>some ⟨.sl 146,1,24,[.nil],[]⟩
 |59=>some ⟨.st [(0,1),(1,1)],2,32,[.bool false,.nil],[true,true]⟩
 |60=>some ⟨.st [(0,1),(1,1)],2,32,[.bool false,.nil],[true,true]⟩
 |61=>some ⟨.st [(0,2),(2,2)],4,64,[.bool false,.nil,.bool false,.nil],[false,false]⟩
 |62=>some ⟨.st [(0,2),(2,2)],4,64,[.bool false,.nil,.bool false,.nil],[false,false]⟩
 |73=>some ⟨.st [(0,1),(1,1),(2,2)],4,96,[.nil,.nil,.nil,.nil],[true,true,false]⟩
 |74=>some ⟨.st [(0,1),(1,1),(2,2)],4,96,[.nil,.nil,.nil,.nil],[true,true,false]⟩
 |83=>some ⟨.st [(0,1)],1,8,[.int .i64 0],[true]⟩
 |84=>some ⟨.st [(0,1)],1,8,[.int .i64 0],[true]⟩
 |95=>some ⟨.int .i8,1,1,[.int .i8 0],[]⟩
 |96=>some ⟨.st [(0,1),(1,1),(2,1),(3,1),(4,1)],5,5,[.int .u8 0,.int .u8 0,.int .u8 0,.int .i8 0,.int .u8 0],[true,true,true,true,true]⟩
 |97=>some ⟨.st [(0,1),(1,1),(2,1),(3,1),(4,1)],5,5,[.int .u8 0,.int .u8 0,.int .u8 0,.int .i8 0,.int .u8 0],[true,true,true,true,true]⟩
 |120=>some ⟨.int .u64,1,8,[.int .u64 0],[]⟩
 |129=>some ⟨.int .u64,1,8,[.int .u64 0],[]⟩
 |146=>some ⟨.int .u32,1,4,[.int .u32 0],[]⟩
 |151=>some ⟨.st [(0,1),(1,1)],2,48,[.nil,.nil],[true,true]⟩
 |152=>some ⟨.st [(0,1),(1,1)],2,48,[.nil,.nil],[true,true]⟩
 |_=>none
theorem T2:dQ prog 2=some ⟨.int .i64,1,8,[.int .i64 0],[]⟩:=by kernel_rfl
theorem T3:dQ prog 3=some ⟨.int .i64,1,8,[.int .i64 0],[]⟩:=by kernel_rfl
theorem T4:dQ prog 4=some ⟨.bool,1,1,[.bool false],[]⟩:=by kernel_rfl
theorem T5:dQ prog 5=some ⟨.int .u8,1,1,[.int .u8 0],[]⟩:=by kernel_rfl
theorem T9:dQ prog 9=some ⟨.str,1,16,[.str ⟨#[]⟩],[]⟩:=by kernel_rfl
theorem Qr:dQ prog 22=some ⟨.sl 97,1,24,[.nil],[]⟩:=by kernel_rfl
theorem QE:dQ prog 23=some ⟨.sl 97,1,24,[.nil],[]⟩:=by kernel_rfl
theorem QT:dQ prog 24=some ⟨.sl 5,1,24,[.nil],[]⟩:=by kernel_rfl
theorem QF:dQ prog 25=some ⟨.st [(0,1),(1,1),(2,1)],3,56,[.nil,.nil,.int .u8 0],[true,true,true]⟩:=by kernel_rfl
theorem QG:dQ prog 26=some ⟨.st [(0,1),(1,1),(2,1)],3,56,[.nil,.nil,.int .u8 0],[true,true,true]⟩:=by kernel_rfl
theorem QH:dQ prog 28=some ⟨.sl 33,1,24,[.nil],[]⟩:=by kernel_rfl
theorem Qv:dQ prog 33=some ⟨.sl 52,1,24,[.nil],[]⟩:=by kernel_rfl
theorem QJ:dQ prog 35=some ⟨.sl 2,1,24,[.nil],[]⟩:=by kernel_rfl
theorem QU:dQ prog 36=some ⟨.sl 3,1,24,[.nil],[]⟩:=by kernel_rfl
theorem QP:dQ prog 37=some ⟨.int .i64,1,8,[.int .i64 0],[]⟩:=by kernel_rfl
theorem QL:dQ prog 49=some ⟨.sl 50,1,24,[.nil],[]⟩:=by kernel_rfl
theorem Qs:dQ prog 50=some ⟨.sl 62,1,24,[.nil],[]⟩:=by kernel_rfl
theorem QZ:dQ prog 51=some ⟨.st [(0,1),(1,1)],2,48,[.nil,.nil],[true,true]⟩:=by kernel_rfl
theorem Qx:dQ prog 52=some ⟨.st [(0,1),(1,1)],2,48,[.nil,.nil],[true,true]⟩:=by kernel_rfl
theorem QQ:dQ prog 58=some ⟨.sl 146,1,24,[.nil],[]⟩:=by kernel_rfl
theorem QO:dQ prog 59=some ⟨.st [(0,1),(1,1)],2,32,[.bool false,.nil],[true,true]⟩:=by kernel_rfl
theorem Qp:dQ prog 60=some ⟨.st [(0,1),(1,1)],2,32,[.bool false,.nil],[true,true]⟩:=by kernel_rfl
theorem Q0:dQ prog 61=some ⟨.st [(0,2),(2,2)],4,64,[.bool false,.nil,.bool false,.nil],[false,false]⟩:=by kernel_rfl
theorem QX:dQ prog 62=some ⟨.st [(0,2),(2,2)],4,64,[.bool false,.nil,.bool false,.nil],[false,false]⟩:=by kernel_rfl
theorem Qq:dQ prog 73=some ⟨.st [(0,1),(1,1),(2,2)],4,96,[.nil,.nil,.nil,.nil],[true,true,false]⟩:=by kernel_rfl
theorem QD:dQ prog 74=some ⟨.st [(0,1),(1,1),(2,2)],4,96,[.nil,.nil,.nil,.nil],[true,true,false]⟩:=by kernel_rfl
theorem QM:dQ prog 83=some ⟨.st [(0,1)],1,8,[.int .i64 0],[true]⟩:=by kernel_rfl
theorem Qo:dQ prog 84=some ⟨.st [(0,1)],1,8,[.int .i64 0],[true]⟩:=by kernel_rfl
theorem QY:dQ prog 95=some ⟨.int .i8,1,1,[.int .i8 0],[]⟩:=by kernel_rfl
theorem Qu:dQ prog 96=some ⟨.st [(0,1),(1,1),(2,1),(3,1),(4,1)],5,5,[.int .u8 0,.int .u8 0,.int .u8 0,.int .i8 0,.int .u8 0],[true,true,true,true,true]⟩:=by kernel_rfl
theorem Qw:dQ prog 97=some ⟨.st [(0,1),(1,1),(2,1),(3,1),(4,1)],5,5,[.int .u8 0,.int .u8 0,.int .u8 0,.int .i8 0,.int .u8 0],[true,true,true,true,true]⟩:=by kernel_rfl
theorem PC:dQ prog 120=some ⟨.int .u64,1,8,[.int .u64 0],[]⟩:=by kernel_rfl
theorem PH:dQ prog 129=some ⟨.int .u64,1,8,[.int .u64 0],[]⟩:=by kernel_rfl
theorem PZ:dQ prog 146=some ⟨.int .u32,1,4,[.int .u32 0],[]⟩:=by kernel_rfl
theorem Qf:dQ prog 151=some ⟨.st [(0,1),(1,1)],2,48,[.nil,.nil],[true,true]⟩:=by kernel_rfl
theorem PB:dQ prog 152=some ⟨.st [(0,1),(1,1)],2,48,[.nil,.nil],[true,true]⟩:=by kernel_rfl
theorem yV:eD prog T:=by
 intro t X h;unfold T at h
 split at h
 ·cases h;exact T2
 ·cases h;exact T3
 ·cases h;exact T4
 ·cases h;exact T5
 ·cases h;exact T9
 ·cases h;exact Qr
 ·cases h;exact QE
 ·cases h;exact QT
 ·cases h;exact QF
 ·cases h;exact QG
 ·cases h;exact QH
 ·cases h;exact Qv
 ·cases h;exact QJ
 ·cases h;exact QU
 ·cases h;exact QP
 ·cases h;exact QL
 ·cases h;exact Qs
 ·cases h;exact QZ
 ·cases h;exact Qx
 ·cases h;exact QQ
 ·cases h;exact QO
 ·cases h;exact Qp
 ·cases h;exact Q0
 ·cases h;exact QX
 ·cases h;exact Qq
 ·cases h;exact QD
 ·cases h;exact QM
 ·cases h;exact Qo
 ·cases h;exact QY
 ·cases h;exact Qu
 ·cases h;exact Qw
 ·cases h;exact PC
 ·cases h;exact PH
 ·cases h;exact PZ
 ·cases h;exact Qf
 ·cases h;exact PB
 cases h
theorem mixed:prog.follows .mixedOrders=true:=by kernel_rfl
theorem pw {f:FuncId}{fn:Func}(hf:prog.funcs[f]? =some fn)(k:Kp){args:List V}{r:V}(h:vc T prog k (Option.get! fn.body) (iS args fn.ntmps) (Kz T fn.results.toList (fun x=>fP x r)))(hb:fn.body=some (Option.get! fn.body):=by rfl)(hn:(fn.name== "runtime.NumGoroutine")=false:=by decide)(ha:args.length≤fn.ntmps:=by exact Nat.le_of_ble_eq_true rfl)(hk:codeOk k (Option.get! fn.body)=true:=by kernel_rfl):Pr prog f args r:=pv yV mixed hf hb hn args ha k hk r h
theorem fw {f:FuncId}{fn:Func}(hf:prog.funcs[f]? =some fn)(k:Kp){args:List V}{B:Bk}(h:vc T prog k (Option.get! fn.body) (iS args fn.ntmps) (Gx fn.results.toList B))(hb:fn.body=some (Option.get! fn.body):=by rfl)(hn:(fn.name== "runtime.NumGoroutine")=false:=by decide)(ha:args.length≤fn.ntmps:=by exact Nat.le_of_ble_eq_true rfl)(hk:codeOk k (Option.get! fn.body)=true:=by kernel_rfl)(hB:B.flat:=by exact trivial):Fr prog f args B:=Al yV mixed hf hb hn args ha k hk B hB h
theorem tw {f:FuncId}{fn:Func}(hf:prog.funcs[f]? =some fn)(k:Kp){args:List V}{B:Bk}{c:C}(h:vc T prog k (Option.get! fn.body) (iS args fn.ntmps) (H8 fn.results.toList B c))(hb:fn.body=some (Option.get! fn.body):=by rfl)(hn:(fn.name== "runtime.NumGoroutine")=false:=by decide)(ha:args.length≤fn.ntmps:=by exact Nat.le_of_ble_eq_true rfl)(hk:codeOk k (Option.get! fn.body)=true:=by kernel_rfl)(hB:B.flat:=by exact trivial)(hc:mP c:=by exact trivial):dI prog f args B c:=xR yV mixed hf hb hn args ha k hk B c hB hc h
theorem mw {f:FuncId}{fn:Func}(hf:prog.funcs[f]? =some fn)(k:Kp){args:List V}{B:Bk}{R:V→Bk→Prop}(h:vc T prog k (Option.get! fn.body) (iM args B fn.ntmps) (H4 fn.results.toList R))(hb:fn.body=some (Option.get! fn.body):=by rfl)(hn:(fn.name== "runtime.NumGoroutine")=false:=by decide)(ha:args.length≤fn.ntmps:=by exact Nat.le_of_ble_eq_true rfl)(hk:codeOk k (Option.get! fn.body)=true:=by kernel_rfl)(hB:B.plain:=by exact trivial):Mc prog f args B R:=DM yV mixed hf hb hn args ha k hk B hB R h
end Go.Proofs.YtgcmkdgpaibpeaaGreat
/-
  Natural numbers as lists of 32-bit words, least first.
-/
namespace Go.Eng
def BB:Nat:=4294967296
def val:List Int→Nat
 |[]=>0
 |x::xs=>x.toNat+BB*val xs
def bK (xs:List Int):Prop:=∀x∈xs,0≤x∧x<4294967296
def aj (n:Nat):List Int:=if h:n=0 then[]else((n%BB:Nat):Int)::aj (n/BB)
termination_by n
decreasing_by exact Nat.div_lt_self (by omega) (by decide)
theorem bq:aj 0=[]:=by unfold aj;simp
theorem jd {n:Nat}(h:0<n):aj n=((n%BB:Nat):Int)::aj (n/BB):=by
 rw[aj];rw[dif_neg (by omega)]
theorem bK.nil:bK []:=fun _ h=>by simp at h
theorem bK.cons {x:Int}{xs:List Int}(hx:0≤x∧x<4294967296)(h:bK xs):bK (x::xs):=fun y hy=>by
 rcases List.mem_cons.1 hy with rfl|hy
 ·exact hx
 exact h y hy
theorem bK.tail {x:Int}{xs:List Int}(h:bK (x::xs)):bK xs:=fun y hy=>h y (by simp[hy])
theorem bK.head {x:Int}{xs:List Int}(h:bK (x::xs)):0≤x∧x<4294967296:=h x (by simp)
theorem bK.append {xs ys:List Int}(h:bK xs)(h':bK ys):bK (xs++ys):=fun y hy=>by
 rcases List.mem_append.1 hy with hy|hy
 ·exact h y hy
 exact h' y hy
theorem bK.take {xs:List Int}(h:bK xs)(i:Nat):bK (xs.take i):=fun y hy=>h y (List.mem_of_mem_take hy)
theorem bK.drop {xs:List Int}(h:bK xs)(i:Nat):bK (xs.drop i):=fun y hy=>h y (List.mem_of_mem_drop hy)
theorem bK.getD {xs:List Int}(h:bK xs)(i:Nat):0≤xs.getD i 0∧xs.getD i 0<4294967296:=by
 rw[X7]
 cases hi:xs[i]? with
 |none=>simp
 |some x=>exact h x (List.mem_of_getElem? hi)
theorem bK.set {xs:List Int}(h:bK xs)(i:Nat){x:Int}(hx:0≤x∧x<4294967296):bK (xs.set i x):=fun y hy=>by
 rcases List.mem_or_eq_of_mem_set hy with hy|rfl
 ·exact h y hy
 exact hx
theorem bK.replicate (n:Nat):bK (List.replicate n 0):=fun y hy=>by
 rw[(List.mem_replicate.1 hy).2];decide
theorem bK.one {x:Int}(h:0≤x∧x<4294967296):bK [x]:=bK.cons h bK.nil
theorem bK.aj:∀(n:Nat),bK (aj n):=by
 intro n
 induction n using Nat.strongRecOn with
 |_ n ih=>
  by_cases h:n=0
  ·subst h;rw[bq];exact bK.nil
  rw[jd (by omega)]
  have:n%BB<4294967296:=Nat.mod_lt n (show BB>0 by decide)
  exact bK.cons ⟨by omega,by omega⟩ (ih _ (Nat.div_lt_self (by omega) (by decide)))
theorem gG:∀(n:Nat),val (aj n)=n:=by
 intro n
 induction n using Nat.strongRecOn with
 |_ n ih=>
  by_cases h:n=0
  ·subst h;rw[bq];rfl
  rw[jd (by omega)];simp only[val];rw[ih _ (Nat.div_lt_self (by omega) (by decide))]
  have:=Nat.mod_add_div n BB
  omega
theorem eL:∀(xs ys:List Int),val (xs++ys)=val xs+BB^xs.length*val ys
 |[],ys=>by simp[val]
 |x::xs,ys=>by
  simp only[List.cons_append,val,eL xs ys,List.length_cons,Nat.pow_succ];rw[Nat.mul_add,Nat.mul_comm (BB^xs.length) BB,Nat.mul_assoc];omega
theorem j7:∀{xs:List Int},bK xs→val xs<BB^xs.length
 |[],_=>by simp[val]
 |x::xs,h=>by
  have h1:=j7 h.tail;have h2:=h.head;simp only[val,List.length_cons,Nat.pow_succ]
  have:BB*(val xs+1)≤BB*BB^xs.length:=Nat.mul_le_mul_left _ h1
  rw[Nat.mul_comm (BB^xs.length) BB];have h3:x.toNat<BB:=by unfold BB;omega
  rw[Nat.mul_add]at this;omega
theorem cN:∀(n:Nat),val (List.replicate n 0)=0
 |0=>rfl
 |n+1=>by simp[List.replicate_succ,val,cN n]
theorem dg:∀{xs:List Int},bK xs→∀i,xs.getD i 0=((val xs/BB^i%BB:Nat):Int)
 |[],_,i=>by simp[val]
 |x::xs,h,0=>by
  have h2:=h.head;have h3:x.toNat<BB:=by unfold BB;omega
  simp only[X0,val,Nat.pow_zero,Nat.div_one,Nat.add_mul_mod_self_left,Nat.mod_eq_of_lt h3];omega
 |x::xs,h,i+1=>by
  have h2:=h.head;have h3:x.toNat<BB:=by unfold BB;omega
  simp only[X1,val];rw[dg h.tail i,Nat.pow_succ,Nat.mul_comm (BB^i) BB,←Nat.div_div_eq_div_mul,Nat.add_mul_div_left _ _ (by decide:0<BB),Nat.div_eq_of_lt h3,Nat.zero_add]
theorem uh {xs:List Int}(h:bK xs)(i:Nat):val (xs.take i)=val xs%BB^i:=by
 by_cases hi:i≤xs.length
 ·have e:=eL (xs.take i) (xs.drop i);rw[List.take_append_drop,X5,Nat.min_eq_left hi]at e;have hl:=j7 (h.take i);rw[X5,Nat.min_eq_left hi]at hl;rw[e,Nat.add_mul_mod_self_left,Nat.mod_eq_of_lt hl]
 rw[List.take_of_length_le (by omega),Nat.mod_eq_of_lt];exact Nat.lt_of_lt_of_le (j7 h) (Nat.pow_le_pow_right (by decide) (by omega))
theorem gY {xs:List Int}(h:bK xs)(i:Nat):val (xs.drop i)=val xs/BB^i:=by
 by_cases hi:i≤xs.length
 ·have e:=eL (xs.take i) (xs.drop i);rw[List.take_append_drop,X5,Nat.min_eq_left hi]at e;have hl:=j7 (h.take i);rw[X5,Nat.min_eq_left hi]at hl;rw[e,Nat.add_mul_div_left _ _ (Nat.pow_pos (by decide)),Nat.div_eq_of_lt hl,Nat.zero_add]
 rw[List.drop_of_length_le (by omega),Nat.div_eq_of_lt];rfl;exact Nat.lt_of_lt_of_le (j7 h) (Nat.pow_le_pow_right (by decide) (by omega))
theorem dM:∀{xs:List Int} {i:Nat} {x:Int},i<xs.length→val (xs.set i x)+BB^i*(xs.getD i 0).toNat=val xs+BB^i*x.toNat
 |[],i,x,h=>by simp at h
 |y::ys,0,x,_=>by simp[val];omega
 |y::ys,i+1,x,h=>by
  have:=dM (xs:=ys) (i:=i) (x:=x) (by simpa using h)
  simp only[List.set_cons_succ,val,X1,Nat.pow_succ];rw[Nat.mul_comm (BB^i) BB,Nat.mul_assoc,Nat.mul_assoc];have h2:BB*(val (ys.set i x)+BB^i*(ys.getD i 0).toNat)=BB*(val ys+BB^i*x.toNat):=by rw[this]
  rw[Nat.mul_add,Nat.mul_add]at h2;omega
theorem bX:∀{xs:List Int},bK xs→(xs=[]∨xs.getD (xs.length-1) 0≠0)→aj (val xs)=xs
 |[],_,_=>bq
 |[x],h,hl=>by
  have h2:=h.head;have hx:x≠0:=by simpa using hl
  have h3:x.toNat<BB:=by unfold BB;omega
  simp only[val,Nat.mul_zero,Nat.add_zero];rw[jd (by omega),Nat.mod_eq_of_lt h3,Nat.div_eq_of_lt h3,bq]
  congr 1;omega
 |x::y::ys,h,hl=>by
  have h2:=h.head;have h3:x.toNat<BB:=by unfold BB;omega
  have ih:=bX h.tail (.inr (by
   rcases hl with hl|hl
   ·cases hl
   simpa using hl))
  have hpos:0<val (y::ys):=by
   rcases Nat.eq_zero_or_pos (val (y::ys))with h0|h0
   ·rw[h0,bq]at ih;cases ih
   exact h0
  have e:val (x::y::ys)=x.toNat+BB*val (y::ys):=rfl;have hp:0<val (x::y::ys):=by
   rw[e]
   have:0<BB*val (y::ys):=Nat.mul_pos (by decide) hpos
   omega
  rw[jd hp,e,Nat.add_mul_mod_self_left,Nat.mod_eq_of_lt h3,Nat.add_mul_div_left _ _ (by decide:0<BB),Nat.div_eq_of_lt h3,Nat.zero_add,ih]
  congr 1;omega
theorem pJ {xs:List Int}(h:bK xs)(hl:xs.length=0∨BB^(xs.length-1)≤val xs):aj (val xs)=xs:=by
 refine bX h ?_
 rcases hl with hl|hl
 ·exact .inl (List.length_eq_zero_iff.1 hl)
 by_cases hn:xs=[]
 ·exact .inl hn
 refine .inr fun h0=>?_;have hp:0<xs.length:=List.length_pos_iff.2 hn;rw[dg h]at h0;have hv:=j7 h;have h1:val xs/BB^(xs.length-1)<BB:=by
  rw[Nat.div_lt_iff_lt_mul (Nat.pow_pos (by decide)),Nat.mul_comm,←Nat.pow_succ,show (xs.length-1).succ=xs.length by omega];exact hv
 rw[Nat.mod_eq_of_lt h1]at h0;have h2:1≤val xs/BB^(xs.length-1):=by
  rw[Nat.le_div_iff_mul_le (Nat.pow_pos (by decide))];omega
 omega
def nl (n:Nat):Nat:=(aj n).length
theorem dW (n:Nat):(aj n).length=nl n:=rfl
theorem sX (n:Nat):(aj n).take (nl n)=aj n:=List.take_length
theorem iO:nl 0=0:=by unfold nl;rw[bq];rfl
theorem aD:∀{k n:Nat},n<BB^k→nl n≤k
 |0,n,h=>by
  have:n=0:=by simpa using h
  subst this;rw[iO];omega
 |k+1,n,h=>by
  by_cases h0:n=0
  ·subst h0;rw[iO];omega
  unfold nl;rw[jd (by omega)]
  have:nl (n/BB)≤k:=aD (by rw[Nat.div_lt_iff_lt_mul (by decide),←Nat.pow_succ];exact h)
  unfold nl at this;simp only[List.length_cons];omega
theorem cB (n:Nat):n<BB^nl n:=by
 have:=j7 (bK.aj n)
 rw[gG]at this;exact this
theorem cJ {k n:Nat}:nl n≤k↔n<BB^k:=
 ⟨fun h=>Nat.lt_of_lt_of_le (cB n) (Nat.pow_le_pow_right (by decide) h),aD⟩
theorem bh {m n:Nat}(h:m≤n):nl m≤nl n:=aD (Nat.lt_of_le_of_lt h (cB n))
theorem eC {n:Nat}:0<nl n↔0<n:=by
 constructor
 ·intro h
  rcases Nat.eq_zero_or_pos n with h0|h0
  ·subst h0;rw[iO]at h;omega
  exact h0
 intro h
 rcases Nat.eq_zero_or_pos (nl n)with h0|h0
 ·have:=cB n
  rw[h0]at this;simp at this;omega
 exact h0
theorem fL {n:Nat}:nl n=0↔n=0:=by
 have:=eC (n:=n);omega
theorem tW {n:Nat}(h:0<n):BB^(nl n-1)≤n:=by
 rcases Nat.lt_or_ge n (BB^(nl n-1))with h1|h1
 ·have:=aD h1
  have:=eC.2 h
  omega
 exact h1
theorem iu (m n:Nat):nl (m*n)≤nl m+nl n:=by
 apply aD
 rw[Nat.pow_add];exact Nat.mul_lt_mul'' (cB m) (cB n)
theorem ti (m n:Nat):nl (m+n)≤max (nl m) (nl n)+1:=by
 apply aD
 rw[Nat.pow_succ];have h1:m<BB^max (nl m) (nl n):=cJ.1 (Nat.le_max_left _ _);have h2:n<BB^max (nl m) (nl n):=cJ.1 (Nat.le_max_right _ _);have h3:BB^max (nl m) (nl n)*2≤BB^max (nl m) (nl n)*BB:=Nat.mul_le_mul_left _ (by decide);omega
open Go
theorem wI (i:Nat)(h:i+1<9223372036854775808):IntKind.i64.wrap ((i:Int)+1)=((i+1:Nat):Int):=by rw[Go.IntWalk.i64_in _ (by omega)];omega
set_option linter.defProp false in
def vx:=And.intro vcs (And.intro QI (And.intro Qi (And.intro Qg (And.intro QK (And.intro @dW (And.intro @sX (And.intro @Nat.min_def (And.intro @IntKind.bits.eq_1 (And.intro @IntKind.bits.eq_2 (And.intro @IntKind.bits.eq_3 (And.intro @IntKind.bits.eq_4 (And.intro @IntKind.bits.eq_5 (And.intro @IntKind.bits.eq_6 (And.intro @IntKind.bits.eq_7 (@IntKind.bits.eq_8)))))))))))))))
set_option linter.defProp false in
def rx:=And.intro Qi (And.intro Qg (And.intro QA (And.intro @dW (@sX))))
set_option linter.defProp false in
def ry:=And.intro rx (And.intro @Y0.eq_1 (And.intro @Y0.eq_2 (And.intro @Y1.eq_def (And.intro @Y2.eq_def (And.intro @Y3.eq_1 (And.intro @Y3.eq_2 (And.intro @Y3.eq_3 (And.intro @Y4.eq_1 (And.intro @Y4.eq_2 (And.intro @Y5.eq_def (And.intro @Y6.eq_1 (And.intro @Y6.eq_2 (And.intro @Y7.eq_def (And.intro @rU.eq_1 (@rU.eq_2)))))))))))))))
set_option linter.defProp false in
def rz:=And.intro @Y8.eq_1 (And.intro @Y8.eq_2 (And.intro @Y9.eq_def (And.intro @X2 (And.intro @X3 (@X4)))))
set_option linter.defProp false in
def iz:=And.intro @iS.eq_1 (And.intro @iM.eq_def (And.intro @eO.eq_1 (And.intro @eO.eq_2 (@Option.get!.eq_1.{0}))))
end Go.Eng
namespace Go.Proofs.YtgcmkdgpaibpeaaGreat
open Go.Proofs.Tryz
open Go Go.Eng
theorem tN {ys:List Int}(h:bK ys)(h0:0<ys.length)(hl:ys.getD (ys.length-1) 0=0):val (ys.take (ys.length-1))=val ys:=by
 have e:=eL (ys.take (ys.length-1)) (ys.drop (ys.length-1));rw[List.take_append_drop]at e;have h1:ys.drop (ys.length-1)=[0]:=by
  rw[X7,X8 (by omega)]at hl;rw[List.drop_eq_getElem_cons (by omega),List.drop_of_length_le (by omega)]
  simpa using hl
 rw[h1]at e
 simp[val]at e
 exact e.symm
theorem dh (xs:List Int)(hr:bK xs)(hx:xs.length<2^62):Pr prog 200 [.one (.ints .u32 xs)] (.one (.ints .u32 (aj (val xs)))):=by
 refine pw func200 ⟨[0,2,14],[]⟩ ?_;simp only[Tryz.f200,ntmps200,iz,seval];simp only[vx,T,seval];refine Lk (fun ys:{l:List Int//l.length<2^62∧bK l∧val l=val xs}=>⟨[(0,.one (.ints .u32 ys))],[],3,21⟩) (fun ys=>ys.1.length) ⟨xs,hx,hr,rfl⟩ ?_ (fun⟨ys,hy,hyr,hyv⟩=>?_)
 ·refine Sa ?_;simp only[ry,seval,rz]
 simp only[vx,T,seval];refine⟨fun h=>Lg ?_,fun h=>Lg ?_⟩
 ·simp only[vx,T,seval];rw[IntWalk.i64_in _ (by omega)];refine⟨by omega,?_⟩;refine⟨fun h=>Lg ?_,fun h=>Lg ?_⟩
  ·simp only[vx,T,seval];rw[IntWalk.i64_in _ (by omega)];refine⟨by omega,Lq ⟨ys.take (ys.length-1),by simp;omega,hyr.take _,?_⟩ ?_ ?_⟩
   ·rw[tN hyr (by omega) (by rw[show ys.length-1=((ys.length:Int)-1).toNat by omega];exact h),hyv]
   ·refine Sa ?_;simp only[ry,seval,rz];rw[show ((ys.length:Int)-1).toNat=ys.length-1 by omega]
   simp;omega
  simp only[vx,T,seval];refine Ve ?_;rw[←hyv,bX hyr (.inr (by rw[show ys.length-1=((ys.length:Int)-1).toNat by omega];exact h))]
 simp only[vx,T,seval];refine Ve ?_;rw[←hyv,bX hyr (.inl (List.length_eq_zero_iff.1 (by omega)))]
theorem bI (xs:List Int)(hr:bK xs)(hx:xs.length<2^62):Pr prog 120 [.one (.ints .u32 xs)] (.one (.ints .u32 (aj (val xs)))):=by
 refine pw func120 ⟨[0,2,14],[]⟩ ?_;simp only[Tryz.f120,ntmps120,iz,seval];simp only[vx,T,seval];refine Lk (fun ys:{l:List Int//l.length<2^62∧bK l∧val l=val xs}=>⟨[(0,.one (.ints .u32 ys))],[],3,21⟩) (fun ys=>ys.1.length) ⟨xs,hx,hr,rfl⟩ ?_ (fun⟨ys,hy,hyr,hyv⟩=>?_)
 ·refine Sa ?_;simp only[ry,seval,rz]
 simp only[vx,T,seval];refine⟨fun h=>Lg ?_,fun h=>Lg ?_⟩
 ·simp only[vx,T,seval];rw[IntWalk.i64_in _ (by omega)];refine⟨by omega,?_⟩;refine⟨fun h=>Lg ?_,fun h=>Lg ?_⟩
  ·simp only[vx,T,seval];rw[IntWalk.i64_in _ (by omega)];refine⟨by omega,Lq ⟨ys.take (ys.length-1),by simp;omega,hyr.take _,?_⟩ ?_ ?_⟩
   ·rw[tN hyr (by omega) (by rw[show ys.length-1=((ys.length:Int)-1).toNat by omega];exact h),hyv]
   ·refine Sa ?_;simp only[ry,seval,rz];rw[show ((ys.length:Int)-1).toNat=ys.length-1 by omega]
   simp;omega
  simp only[vx,T,seval];refine Ve ?_;rw[←hyv,bX hyr (.inr (by rw[show ys.length-1=((ys.length:Int)-1).toNat by omega];exact h))]
 simp only[vx,T,seval];refine Ve ?_;rw[←hyv,bX hyr (.inl (List.length_eq_zero_iff.1 (by omega)))]
theorem v9 (n:Nat):bK [IntKind.u32.wrap n,IntKind.u32.wrap ((n:Int).fdiv 4294967296)]:=by
 refine bK.cons ?_ (bK.one ?_)<;>(rw[IntKind.wrap_u32];omega)
theorem uW {n:Nat}(hn:n<2^64):val [IntKind.u32.wrap n,IntKind.u32.wrap ((n:Int).fdiv 4294967296)]=n:=by
 simp only[val,IntKind.wrap_u32,BB];rw[Int.fdiv_eq_ediv_of_nonneg _ (by decide)];have h1:((n:Int)%4294967296).toNat=n%4294967296:=by omega
 have h2:((n:Int)/4294967296%4294967296).toNat=n/4294967296:=by omega
 rw[h1,h2];omega
theorem dk (n:Nat)(hn:n<2^64):Pr prog 174 [.one (.int .u64 n)] (.one (.ints .u32 (aj n))):=by
 refine pw func174 ⟨[0,2],[]⟩ ?_;simp only[Tryz.f174,ntmps174,iz,seval];simp only[vx,T,seval];refine Cg (dh _ (v9 n) (by simp)) ?_;rw[uW hn];simp only[vx,T,seval];refine Va ?_;simp only[cV,aW,ry,seval]
theorem ic (n:Nat)(hn:n<2^64):Pr prog 86 [.one (.int .u64 n)] (.one (.ints .u32 (aj n))):=by
 refine pw func86 ⟨[0,2],[]⟩ ?_;simp only[Tryz.f86,ntmps86,iz,seval];simp only[vx,T,seval];refine Cg (bI _ (v9 n) (by simp)) ?_;rw[uW hn];simp only[vx,T,seval];refine Va ?_;simp only[cV,aW,ry,seval]
theorem jv {n:Nat}(h:(nl n:Int)=0):n=0:=fL.1 (by omega)
theorem uH {n:Nat}(h:¬(nl n:Int)=0):0<n:=eC.1 (by omega)
theorem yd (b:Bool)(xs:List Int)(hr:bK xs)(hx:xs.length<2^62):Pr prog 173 [.one (.bool b),.one (.ints .u32 xs)] (.agg [.bool (b&&decide (0<val xs)),.ints .u32 (aj (val xs))]):=by
 refine pw func173 ⟨[0,1,4,9],[]⟩ ?_;simp only[Tryz.f173,ntmps173,iz,seval];simp only[vx,T,seval];refine Cg (dh xs hr hx) ?_;simp only[vx,T,seval];refine⟨fun h=>Lg ?_,fun h=>Lg ?_⟩
 ·simp only[vx,T,seval];have h0:=jv h;refine Va ?_;simp only[cV,aW,ry,seval,h0,bq,Nat.lt_irrefl]
 simp only[vx,T,seval];have h0:=uH h;refine Va ?_;simp only[cV,aW,ry,seval,h0]
theorem pW (b:Bool)(xs:List Int)(hr:bK xs)(hx:xs.length<2^62):Pr prog 85 [.one (.bool b),.one (.ints .u32 xs)] (.agg [.bool (b&&decide (0<val xs)),.ints .u32 (aj (val xs))]):=by
 refine pw func85 ⟨[0,1,4],[]⟩ ?_;simp only[Tryz.f85,ntmps85,iz,seval];simp only[vx,T,seval];refine Cg (bI xs hr hx) ?_;simp only[vx,T,seval];refine⟨fun h0=>Lg ?_,fun h0=>Lg ?_⟩
 ·subst h0;simp only[vx,T,seval]
  by_cases h:0<val xs
  ·have h1:=eC.2 h;refine Va ?_;simp only[cV,aW,ry,seval,h,decide_true,Bool.true_and,Int.natCast_pos,h1]
  have h1:val xs=0:=by omega
  refine Va ?_;simp only[cV,aW,ry,seval,h1,bq,iO,Nat.lt_irrefl,X4,Int.lt_irrefl]
 subst h0;simp only[vx,T,seval];refine Va ?_;simp only[cV,aW,ry,seval]
open Go Go.Eng
def eH (x y:Int):Int:=if x<y then-1 else if y<x then 1 else 0
theorem gQ {x y:Int}(h:x<y):eH x y= -1:=if_pos h
theorem iW {x y:Int}(h:y<x):eH x y=1:=by unfold eH;rw[if_neg (by omega),if_pos h]
theorem pX {x y:Int}(h:x=y):eH x y=0:=by unfold eH;rw[if_neg (by omega),if_neg (by omega)]
theorem lG (n i:Nat):(aj n).getD i 0=((n/BB^i%BB:Nat):Int):=by
 rw[dg (bK.aj n),gG]
theorem pA {m n i:Nat}(h:m/BB^(i+1)=n/BB^(i+1))(hd:m/BB^i%BB<n/BB^i%BB):m<n:=by
 have e:∀x:Nat,x/BB^(i+1)=x/BB^i/BB:=fun x=>by rw[Nat.pow_succ,Nat.div_div_eq_div_mul]
 rw[e,e]at h;have h1:=Nat.div_add_mod (m/BB^i) BB;have h2:=Nat.div_add_mod (n/BB^i) BB;rw[h]at h1
 rcases Nat.lt_or_ge m n with h3|h3
 ·exact h3
 have:=Nat.div_le_div_right (c:=BB^i) h3
 omega
theorem zM {m n i:Nat}(h:m/BB^(i+1)=n/BB^(i+1))(hd:m/BB^i%BB=n/BB^i%BB):m/BB^i=n/BB^i:=by
 have e:∀x:Nat,x/BB^(i+1)=x/BB^i/BB:=fun x=>by rw[Nat.pow_succ,Nat.div_div_eq_div_mul]
 rw[e,e]at h;have h1:=Nat.div_add_mod (m/BB^i) BB;have h2:=Nat.div_add_mod (n/BB^i) BB;rw[h,hd]at h1;omega
theorem lq {m k:Nat}(h:nl m≤k):m/BB^k=0:=Nat.div_eq_of_lt (cJ.1 h)
theorem lX (x:Int):Pr prog 239 [.one (.int .i64 x)] (.one (.bool false)):=by
 refine pw func239 ⟨[0,2],[]⟩ ?_;simp only[Tryz.f239,ntmps239,iz,seval];simp only[vx,T,seval];refine Va ?_;simp only[cV,aW,ry,seval,not_true_eq_false,decide_false]
theorem kE (x y:Int):Pr prog 222 [.one (.int .i64 x),.one (.int .i64 y)] (.one (.int .i64 (eH x y))):=by
 refine pw func222 ⟨[0,1,4,5,6,11,12,13,16,19],[]⟩ ?_;simp only[Tryz.f222,ntmps222,iz,seval];simp only[vx,T,seval];refine Cg (lX _) ?_;simp only[vx,T,seval];refine Cg (lX _) ?_;simp only[vx,T,seval];refine⟨fun h=>Lg ?_,fun h=>Lg ?_⟩
 ·simp only[vx,T,seval];refine Va ?_;simp only[cV,aW,ry,seval,gQ h]
 simp only[vx,T,seval];refine⟨fun h'=>Lg ?_,fun h'=>Lg ?_⟩
 ·simp only[vx,T,seval];refine Va ?_;simp only[cV,aW,ry,seval,iW h']
 simp only[vx,T,seval];refine Va ?_;simp only[cV,aW,ry,seval,pX (show x=y by omega)]
theorem mM (x:Int):Pr prog 247 [.one (.int .u32 x)] (.one (.bool false)):=by
 refine pw func247 ⟨[0,2],[]⟩ ?_;simp only[Tryz.f247,ntmps247,iz,seval];simp only[vx,T,seval];refine Va ?_;simp only[cV,aW,ry,seval,not_true_eq_false,decide_false]
theorem qK (x y:Int):Pr prog 240 [.one (.int .u32 x),.one (.int .u32 y)] (.one (.int .i64 (eH x y))):=by
 refine pw func240 ⟨[0,1,4,5,6,11,12,13,16,19],[]⟩ ?_;simp only[Tryz.f240,ntmps240,iz,seval];simp only[vx,T,seval];refine Cg (mM _) ?_;simp only[vx,T,seval];refine Cg (mM _) ?_;simp only[vx,T,seval];refine⟨fun h=>Lg ?_,fun h=>Lg ?_⟩
 ·simp only[vx,T,seval];refine Va ?_;simp only[cV,aW,ry,seval,gQ h]
 simp only[vx,T,seval];refine⟨fun h'=>Lg ?_,fun h'=>Lg ?_⟩
 ·simp only[vx,T,seval];refine Va ?_;simp only[cV,aW,ry,seval,iW h']
 simp only[vx,T,seval];refine Va ?_;simp only[cV,aW,ry,seval,pX (show x=y by omega)]
theorem Dd {m n:Nat}(h:¬(nl m:Int)=nl n):eH (nl m) (nl n)=eH m n:=by
 rcases Nat.lt_trichotomy m n with h1|h1|h1
 ·have:=bh (Nat.le_of_lt h1)
  rw[gQ (by omega),gQ (by omega)]
 ·subst h1;exact absurd rfl h
 have:=bh (Nat.le_of_lt h1)
 rw[iW (by omega),iW (by omega)]
theorem gK (m n:Nat)(hm:nl m<2^62)(hn:nl n<2^62):Pr prog 223 [.one (.ints .u32 (aj m)),.one (.ints .u32 (aj n))] (.one (.int .i64 (eH m n))):=by
 refine pw func223 ⟨[0,1,4,5,10,20,31],[]⟩ ?_;simp only[Tryz.f223,ntmps223,iz,seval];simp only[vx,T,seval];refine⟨fun h=>Lg ?_,fun h=>Lg ?_⟩
 ·simp only[vx,T,seval];refine Cg (kE _ _) ?_;simp only[vx,T,seval];refine Va ?_;simp only[cV,aW,ry,seval,Dd h]
 simp only[vx,T,seval];rw[IntWalk.i64_in _ (by omega)];refine Lk (fun i:{i:Nat//i≤nl m∧m/BB^i=n/BB^i}=>⟨[(0,.one (.ints .u32 (aj m))),(1,.one (.ints .u32 (aj n))),(5,.one (.int .i64 ((i.1:Int)-1)))],[],3,41⟩) (fun i=>i.1) ⟨nl m,Nat.le_refl _,by rw[lq (Nat.le_refl _),lq (by omega)]⟩ ?_ (fun⟨i,hi,hd⟩=>?_)
 ·refine Sa ?_;simp only[ry,seval,rz]
 simp only[vx,T,seval];refine⟨fun hi0=>Lg ?_,fun hi0=>Lg ?_⟩
 ·obtain⟨j,rfl⟩:∃j,i=j+1:=⟨i-1,by omega⟩;simp only[show ((j+1:Nat):Int)-1=(j:Int) by omega,Int.toNat_natCast]at hi0⊢;simp only[vx,T,seval];refine⟨by omega,by omega,?_⟩;refine⟨fun hdig=>Lg ?_,fun hdig=>Lg ?_⟩
  ·simp only[vx,T,seval];refine⟨by omega,by omega,Cg (qK _ _) ?_⟩;simp only[vx,T,seval];simp only[lG]at hdig⊢;refine Ve ?_
   rcases Nat.lt_or_ge (m/BB^j%BB) (n/BB^j%BB)with h1|h1
   ·rw[gQ (by omega),gQ (by have:=pA hd h1;omega)]
   rw[iW (by omega),iW (by have:=pA (m:=n) (n:=m) hd.symm (by omega);omega)]
  simp only[vx,T,seval];simp only[lG]at hdig;rw[IntWalk.i64_in _ (by omega)];refine Lq ⟨j,by omega,zM hd (by omega)⟩ ?_ ?_
  ·refine Sa ?_;simp only[ry,seval,rz]
  simp
 have h0:i=0:=by omega
 subst h0;simp only[vx,T,seval];have h0:m=n:=by simpa using hd
 refine Va ?_;simp only[cV,aW,ry,seval,pX (show(m:Int)=n by omega)]
theorem fy (m n:Nat)(hm:nl m<2^62)(hn:nl n<2^62):Pr prog 157 [.one (.ints .u32 (aj m)),.one (.ints .u32 (aj n))] (.one (.int .i64 (eH m n))):=by
 refine pw func157 ⟨[0,1,4,5,10,15,20,31,40],[]⟩ ?_;simp only[Tryz.f157,ntmps157,iz,seval];simp only[vx,T,seval];refine⟨fun h=>Lg ?_,fun h=>Lg ?_⟩
 ·simp only[vx,T,seval];rw[←Dd h];refine⟨fun h1=>Lg ?_,fun h1=>Lg ?_⟩
  ·simp only[vx,T,seval];refine Va ?_;simp only[cV,aW,ry,seval,gQ h1]
  simp only[vx,T,seval];refine Va ?_;simp only[cV,aW,ry,seval,iW (show(nl n:Int)<nl m by omega)]
 simp only[vx,T,seval];rw[IntWalk.i64_in _ (by omega)];refine Lk (fun i:{i:Nat//i≤nl m∧m/BB^i=n/BB^i}=>⟨[(0,.one (.ints .u32 (aj m))),(1,.one (.ints .u32 (aj n))),(5,.one (.int .i64 ((i.1:Int)-1)))],[],3,41⟩) (fun i=>i.1) ⟨nl m,Nat.le_refl _,by rw[lq (Nat.le_refl _),lq (by omega)]⟩ ?_ (fun⟨i,hi,hd⟩=>?_)
 ·refine Sa ?_;simp only[ry,seval,rz]
 simp only[vx,T,seval];refine⟨fun hi0=>Lg ?_,fun hi0=>Lg ?_⟩
 ·obtain⟨j,rfl⟩:∃j,i=j+1:=⟨i-1,by omega⟩;simp only[show ((j+1:Nat):Int)-1=(j:Int) by omega,Int.toNat_natCast]at hi0⊢;simp only[vx,T,seval];refine⟨by omega,by omega,?_⟩;refine⟨fun hdig=>Lg ?_,fun hdig=>Lg ?_⟩
  ·simp only[vx,T,seval];simp only[lG]at hdig;have hlt:(m:Int)<n:=by have:=pA hd (show m/BB^j%BB<n/BB^j%BB by omega);omega
   refine Va ?_;simp only[cV,aW,ry,seval,gQ hlt]
  simp only[vx,T,seval];refine⟨by omega,by omega,?_⟩;refine⟨fun hdig2=>Lg ?_,fun hdig2=>Lg ?_⟩
  ·simp only[vx,T,seval];simp only[lG]at hdig2;have hlt:(n:Int)<m:=by have:=pA (m:=n) (n:=m) hd.symm (show n/BB^j%BB<m/BB^j%BB by omega);omega
   refine Va ?_;simp only[cV,aW,ry,seval,iW hlt]
  simp only[vx,T,seval];simp only[lG]at hdig hdig2;rw[IntWalk.i64_in _ (by omega)];refine Lq ⟨j,by omega,zM hd (by omega)⟩ ?_ ?_
  ·refine Sa ?_;simp only[ry,seval,rz]
  simp
 have h0:i=0:=by omega
 subst h0;simp only[vx,T,seval];have h0:m=n:=by simpa using hd
 refine Va ?_;simp only[cV,aW,ry,seval,pX (show(m:Int)=n by omega)]
open Go Go.Eng
theorem Ch {P v c A B' s x y:Nat}(h:v+P*c=A+B')(hs:s=c+x+y):(v+P*(s%BB))+(P*BB)*(s/BB)=(A+P*x)+(B'+P*y):=by
 have h1:P*s=P*(BB*(s/BB))+P*(s%BB):=by rw[←Nat.mul_add,Nat.div_add_mod]
 have h2:(P*BB)*(s/BB)=P*(BB*(s/BB)):=Nat.mul_assoc _ _ _;have h3:P*s=P*c+P*x+P*y:=by rw[hs,Nat.mul_add,Nat.mul_add]
 omega
theorem eJ (x i:Nat):x%BB^(i+1)=x%BB^i+BB^i*(x/BB^i%BB):=Nat.mod_pow_succ
theorem gN {x k:Nat}(h:nl x≤k):x%BB^k=x:=Nat.mod_eq_of_lt (cJ.1 h)
theorem jc {x k:Nat}(h:nl x≤k):x/BB^k%BB=0:=by rw[lq h];rfl
theorem ay (s:Nat):IntKind.u32.wrap (s:Int)=((s%BB:Nat):Int):=by
 rw[IntKind.wrap_u32,Int.natCast_emod];rfl
theorem aH (s:Nat):(s:Int).fdiv 4294967296=((s/BB:Nat):Int):=by
 rw[Int.fdiv_eq_ediv_of_nonneg _ (by decide),Int.natCast_ediv];rfl
theorem bd (s:Nat):s%BB<4294967296:=Nat.mod_lt _ (by decide)
theorem bK.digit (s:Nat):bK [((s%BB:Nat):Int)]:=bK.one ⟨by omega,by have:=bd s;omega⟩
theorem val_one (x:Nat):val [(x:Int)]=x:=by simp[val]
structure cZ (a b i:Nat) (os:List Int) (c:Nat):Prop where
 le:i≤nl a
 inr:bK (os.take i)
 len:i≤os.length
 eq:val (os.take i)+BB^i*c=a%BB^i+b%BB^i
 c:c≤1
theorem cZ.step {a b i:Nat}{os:List Int}{c s:Nat}(h:cZ a b i os c)(hi:i<nl a)(hs:s=c+a/BB^i%BB+b/BB^i%BB):cZ a b (i+1) (os.take i++[((s%BB:Nat):Int)]) (s/BB):=by
 have hlen:(os.take i).length=i:=by have:=h.len;simp;omega
 have ht:(os.take i++[((s%BB:Nat):Int)]).take (i+1)=os.take i++[((s%BB:Nat):Int)]:=List.take_of_length_le (by rw[X6,hlen];simp);refine⟨hi,?_,?_,?_,?_⟩
 ·rw[ht];exact h.inr.append (bK.digit s)
 ·rw[X6,hlen];simp
 ·rw[ht,eL,hlen,val_one,eJ a,eJ b,Nat.pow_succ];exact Ch h.eq hs
 have h1:=bd (a/BB^i);have h2:=bd (b/BB^i);have h3:=h.c
 have:s/BB<2:=by rw[Nat.div_lt_iff_lt_mul (by decide)];unfold BB at*;omega
 omega
theorem cZ.sum {a b:Nat}{os:List Int}{c:Nat}(hb:nl b≤nl a)(h:cZ a b (nl a) os c):val (os.take (nl a))+BB^nl a*c=a+b:=by
 have:=h.eq
 rw[gN (Nat.le_refl _),gN hb]at this;exact this
theorem cZ.Oy {a b:Nat}{os:List Int}(hb:nl b≤nl a)(h:cZ a b (nl a) os 0):os.take (nl a)=aj (a+b):=by
 have hs:=h.sum hb;have hlen:(os.take (nl a)).length=nl a:=by have:=h.len;simp;omega
 simp only[Nat.mul_zero,Nat.add_zero]at hs;rw[←hs]
 refine(pJ h.inr ?_).symm
 rw[hlen,hs]
 rcases Nat.eq_zero_or_pos a with h0|h0
 ·left;subst h0;exact iO
 right;have:=tW h0;omega
theorem cZ.Oo {a b:Nat}{os:List Int}{c:Nat}(hb:nl b≤nl a)(h:cZ a b (nl a) os c)(hc:0<c):os.take (nl a)++[((c%BB:Nat):Int)]=aj (a+b):=by
 have hs:=h.sum hb;have hlen:(os.take (nl a)).length=nl a:=by have:=h.len;simp;omega
 have h1:c=1:=by have:=h.c;omega
 subst h1;have e:val (os.take (nl a)++[((1%BB:Nat):Int)])=a+b:=by rw[eL,val_one,hlen];exact hs
 rw[←e]
 refine(pJ (h.inr.append (bK.digit 1)) (.inr ?_)).symm
 rw[e,X6,hlen,←hs]
 simp
theorem wy (swap:Bool)(a b:Nat)(hab:nl b≤nl a)(hsw:swap=true→nl b<nl a)(ha:nl a<2^44):Pr prog 237 [.one (.ints .u32 (aj (if swap then b else a))),.one (.ints .u32 (aj (if swap then a else b)))] (.one (.ints .u32 (aj (a+b)))):=by
 refine pw func237 ⟨[0,1,4,5,6,7,8,13,20,21,22,23,34,51],[]⟩ ?_;simp only[Tryz.f237,ntmps237,iz,seval]
 cases swap
 case' false=>have hlt:((nl a:Int)<nl b)=False:=by simp;omega
 case' true=>have hlt:((nl b:Int)<nl a)=True:=by have:=hsw rfl;simp;omega
 all_goals
  simp only[vx,T,seval,hlt];rw[IntWalk.i64_in _ (by omega)];refine⟨⟨by omega,by omega,by omega⟩,Lk (fun i:{i:Nat×List Int×Nat//cZ a b i.1 i.2.1 i.2.2}=>⟨[(0,.one (.ints .u32 (aj a))),(1,.one (.ints .u32 (aj b))),(5,.one (.own 1 1 0 i.1.1)),(6,.one (.int .u64 i.1.2.2)),(20,.one (.ints .u32 (aj a))),(21,.one (.int .i64 (nl a))),(22,.one (.int .i64 i.1.1))],[(1,⟨.ints 146 .u32 i.1.2.1,true⟩)],3,58⟩) (fun i=>nl a-i.1.1) ⟨(0,List.replicate ((nl a:Int)+1).toNat 0,0),Nat.zero_le _,bK.nil,Nat.zero_le _,by simp[val,Nat.mod_one],Nat.zero_le _⟩ ?_ (fun⟨⟨i,os,c⟩,hi⟩=>?_)⟩
  ·refine Sa ?_;simp only[ry,seval,rz]
  have h1:=hi.le;have h2:=hi.len;have h3:=hi.c;simp only at h1 h2 h3;simp only[vx,T,seval];refine⟨fun h=>Lg ?_,fun h=>Lg ?_⟩
  ·simp only[vx,T,seval];refine⟨⟨by omega,by omega⟩,?_⟩;have hlen:(os.take i).length=i:=by simp;omega
   have hx:=bd (a/BB^i);have hy:=bd (b/BB^i)
   simp(disch:=omega) only[lG,←X2,←Int.natCast_mul,Int.toNat_natCast,IntWalk.i64_in,IntWalk.u64_in,ay,aH,true_and,and_true]
   refine⟨fun h'=>Lg ?_,fun h'=>Lg ?_⟩
   ·simp only[vx,T,seval];refine⟨⟨by omega,by omega⟩,?_⟩
    simp(disch:=omega) only[lG,←X2,←Int.natCast_mul,Int.toNat_natCast,IntWalk.i64_in,IntWalk.u64_in,ay,aH,true_and,and_true,hlen,X6]
    refine⟨by omega,Lq ⟨(i+1,_,_),hi.step (by omega) rfl⟩ ?_ ?_⟩
    ·refine Sa ?_;simp only[ry,seval,rz,hlen,X6]
    simp only;omega
   simp only[vx,T,seval];have hy0:=jc (x:=b) (k:=i) (by omega)
   simp(disch:=omega) only[lG,←X2,←Int.natCast_mul,Int.toNat_natCast,IntWalk.i64_in,IntWalk.u64_in,ay,aH,true_and,and_true,hlen,X6]
   refine⟨by omega,Lq ⟨(i+1,_,_),hi.step (s:=c+a/BB^i%BB) (by omega) (by rw[hy0];rfl)⟩ ?_ ?_⟩
   ·refine Sa ?_;simp only[ry,seval,rz,hlen,X6]
   simp only;omega
  simp only[vx,T,seval];have hia:i=nl a:=by omega
  subst hia;refine⟨fun h'=>Lg ?_,fun h'=>Lg ?_⟩
  ·simp only[vx,T,seval];simp only[ay];refine⟨by simp;omega,?_⟩;have hd1:=hi.Oo hab (by simp only;omega);refine Va ?_;simp only[cV,aW,ry,seval,hd1]
  simp only[vx,T,seval];have hc0:c=0:=by omega
  subst hc0;have hd0:=hi.Oy hab;refine Va ?_;simp only[cV,aW,ry,seval,hd0]
end Go.Proofs.YtgcmkdgpaibpeaaGreat
