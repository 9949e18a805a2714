/-
  MatrixImage: for every input the law returns true, and each argument reads afterwards as it read before. No condition beyond the cells of the given rows.
  (Text 3 of 9; made by a program out of smaller texts.)
-/
import Derived.Test.YthnkehdgnagmnaaGreatProg
import Derived.KernelRfl
import Derived.IntWalk
import Derived.Test.YthnkehdgnagmnaaGreatP2
set_option linter.unusedSimpArgs false
set_option linter.unusedVariables false
set_option maxHeartbeats 16000000
set_option maxRecDepth 10000
open Nat renaming reduceAdd→J1,reduceMul→J2,reduceSub→J3,reduceEqDiff→J4,reduceLT→J5,reduceLeDiff→J6,reduceBEq→J7,reduceDiv→J8,reduceMod→J9,reducePow→J0
open Int renaming reduceToNat→K1,reduceLE→K2,reduceLT→K3,reduceEq→K4,reducePow→K5,reduceSub→K6,reduceNeg→K7,natCast_add→X2,natCast_one→X3,natCast_zero→X4
open List renaming getD_cons_zero→X0,getD_cons_succ→X1,length_take→X5,length_append→X6,getD_eq_getElem?_getD→X7,getElem?_eq_getElem→X8
namespace Go.Eng
open Go
def x6:Value→Bool
 |.slice a _ _=>match a with
  |none=>true
  |some _=>false
 |_=>false
def qI:Operand→Bool
 |.const v=>x6 v
 |_=>false
def vI:BinOp→Bool
 |.eql=>true
 |_=>false
def rP:Op→Bool
 |.store _ _ _=>true
 |.binOp op _ _ y _=>vI op&&qI y
 |.call c=>match c.callee with
  |.builtin b=>match b with
   |.append=>true
   |.cap=>true
   |.clear=>true
   |.copy=>true
   |_=>false
  |_=>false
 |_=>false
def cX:Op→Bool
 |.call c=>match c.callee with
  |.value _=>true
  |_=>false
 |_=>false
def orM (A B:Prop):Prop:=A∨B
def qY:Op→Bool
 |.assign _=>true
 |op=>rP op
def yU (d:Tmp):Operand→Bool
 |.tmp t=>t==d
 |_=>false
def L5 (d:Tmp)(o:Op):Bool:=
 match o with
 |.convert _ _ x=>yU d x
 |_=>false
def aQ (d:Option Tmp)(os:List Oper):Bool:=
 match d with
 |none=>false
 |some d=>os.any fun o=>L5 d o.op||match o.op with
  |.call c=>match c.callee with
   |.value _=>c.args.toList.any (yU d)
   |_=>false
  |.build _ ps=>ps.toList.any fun p=>yU d p.2
  |.buildSlice _ _ ps=>ps.toList.any fun p=>yU d p.2
  |_=>false
def uG (i:Nat)(os:List Oper):Bool:=os.any fun o=>match o.guard with
 |some (g,_)=>g==i
 |none=>false
def FR (T:fB)(s:St)(dst:Option Tmp)(t:TypeId)(x:Operand)(K:St→Prop):Prop:=
 match T t with
 |some E=>match E.k with
  |.sl _=>match s.ev x with
   |.one c=>match iR c with
    |some n=>∀m:Nat,n≤m→(c= .nil→m=0)→eG K (s.put dst (.one (.int .i64 m)))
    |none=>False
   |_=>False
  |_=>False
 |none=>False
def NY (T:fB)(t:TypeId):Prop:=
 match T t with
 |some S=>(match S.k with
  |.sl _=>True
  |_=>False)
 |none=>False
theorem Ow {T:fB}{P:Program}(hT:eH P T){t:TypeId}(h:NY T t):∃e,P.underlying t=some (.slice e):=by
 unfold NY at h
 cases RL:T t with
 |none=>rw[RL]at h;exact h.elim
 |some S=>
  rw[RL]at h;simp only at h
  split at h
  ·rename_i e hk
   exact⟨e,fk hT RL hk⟩
  exact h.elim
def Hj (T:fB)(s:St)(dst:Option Tmp)(t:TypeId)(x:Operand)(K:St→Prop):Prop:=
 match T t with
 |some E=>match E.k with
  |.sl _=>match s.ev x with
   |.one c=>match iR c with
    |some n=>∀b:Bool,(0<n→b=false)→eG K (s.put dst (.one (.bool b)))
    |none=>False
   |_=>False
  |_=>False
 |none=>False
def AG (T:fB)(op:Op)(dst:Option Tmp)(s:St)(K:St→Prop):Prop:=
 match op with
 |.store t x y=>dst=none∧uv T s t x y K
 |.binOp op t x y _=>vI op=true∧qI y=true∧Hj T s dst t x K
 |.call c=>match c.callee with
  |.builtin b=>match b,c.args.toList,c.argTypes.toList with
   |.append,[x,y],[t,t']=>NY T t'∧pn T s dst t x y K
   |.cap,[x],[t]=>FR T s dst t x K
   |.clear,[x],[t]=>sZ T s dst t x K
   |.copy,[x,y],[t,t']=>NY T t'∧yP T s dst t x y K
   |_,_,_=>False
  |_=>False
 |_=>False
def bR (u:Bool)(e:eJ)(K:eJ→Prop):Prop:=
 if u then(match e.val with
  |.one (.bool b)=>(b=true→eG K ⟨.one (.bool true),e.vJ,e.fz⟩)∧(b=false→eG K ⟨.one (.bool false),e.vJ,e.fz⟩)
  |_=>False)
 else K e
def after (s:St)(dst:Option Tmp)(e:eJ):St:={s.add dst s.nx e with nx:=s.nx+1}
def dX (u:Bool)(i:Nat)(dst:Option Tmp)(gd:List (Nat×Tmp)):List (Nat×Tmp):=
 if u then(match dst with
  |some d=>(i,d)::gd
  |none=>gd)else gd
def gh:List (Nat×Tmp)→Nat→Option Tmp
 |[],_=>none
 |(i',t)::r,i=>if i=i' then some t else gh r i
def guarded (s:St)(gd:List (Nat×Tmp))(g:Option (Nat×Bool))(A B:Prop):Prop:=
 match g with
 |none=>A
 |some (g,want)=>match gh gd g with
  |some t=>match gv (lk s.env t)with
   |some b=>if b=some want then A else B
   |none=>False
  |none=>False
def o9 (dst:Option Tmp)(n:Nat):Prop:=
 match dst with
 |none=>True
 |some d=>d<n
def uN (nx0:Nat):List Nat→Prop
 |[]=>True
 |b::r=>b<nx0∧uN nx0 r
def py (T:fB)(P:Program):Nat→List Oper→List (Nat×Tmp)→St→(St→Prop)→Prop
 |_,[],_,s,K=>K s
 |i,o::os,gd,s,K=>
  o9 o.dst s.n∧guarded s gd o.guard
   (
    if rP o.op then AG T o.op o.dst s (fun s'=>py T P (i+1) os gd s' K)
    else if cX o.op then orM (eI T P o.op s s.nx s.nx (aQ o.dst os) (fun e=>bR (uG i os) e fun e'=>py T P (i+1) os (dX (uG i os) i o.dst gd) (after s o.dst e') K)) (nZ P o.op o.dst s (fun s'=>py T P (i+1) os gd s' K))
    else eI T P o.op s s.nx s.nx (aQ o.dst os) (fun e=>bR (uG i os) e fun e'=>py T P (i+1) os (dX (uG i os) i o.dst gd) (after s o.dst e') K))
   (py T P (i+1) os (dX (uG i os) i o.dst gd) (s.put o.dst (.aF [])) K)
def u4 (T:fB)(P:Program)(nx0 len:Nat):Nat→List Oper→List (Nat×Tmp)→St→(St→Prop)→Prop
 |_,[],_,s,K=>K {s with nx:=nx0+len}
 |i,o::os,gd,s,K=>
  if qY o.op then py T P i (o::os) gd {s with nx:=nx0+len} K
  else o9 o.dst s.n∧guarded s gd o.guard
   (if cX o.op then orM (eI T P o.op s nx0 (nx0+i) (aQ o.dst os) (fun e=>uN nx0 e.fz∧bR (uG i os) e fun e'=>u4 T P nx0 len (i+1) os (dX (uG i os) i o.dst gd) (s.add o.dst (nx0+i) e') K)) False else eI T P o.op s nx0 (nx0+i) (aQ o.dst os) (fun e=>uN nx0 e.fz∧bR (uG i os) e fun e'=>u4 T P nx0 len (i+1) os (dX (uG i os) i o.dst gd) (s.add o.dst (nx0+i) e') K))
   (u4 T P nx0 len (i+1) os (dX (uG i os) i o.dst gd) (s.put o.dst (.aF [])) K)
def gx (T:fB)(P:Program)(nx0 len:Nat)(ws:WL):Nat→List Oper→List (Nat×Tmp)→St→(St→Prop)→Prop
 |_,[],_,s,K=>K {s with nx:=nx0+len}
 |i,o::os,gd,s,K=>
  if iY ws i then gx T P nx0 len ws (i+1) os gd s K
  else o9 o.dst s.n∧guarded s gd o.guard
   (if cX o.op then orM (eI T P o.op s nx0 (nx0+i) (aQ o.dst os) (fun e=>uN nx0 e.fz∧bR (uG i os) e fun e'=>gx T P nx0 len ws (i+1) os (dX (uG i os) i o.dst gd) (s.add o.dst (nx0+i) e') K)) False else eI T P o.op s nx0 (nx0+i) (aQ o.dst os) (fun e=>uN nx0 e.fz∧bR (uG i os) e fun e'=>gx T P nx0 len ws (i+1) os (dX (uG i os) i o.dst gd) (s.add o.dst (nx0+i) e') K))
   (gx T P nx0 len ws (i+1) os (dX (uG i os) i o.dst gd) (s.put o.dst (.aF [])) K)
def vq (T:fB)(P:Program)(os:List Oper)(o:Oper)(d:Nat)(s:St):Prop:=match o.guard with
 |none=>eI T P o.op s s.nx s.nx false (fun e=>e.val=lk s.env d)
 |some (g,want)=>match(os[g]?).bind (·.dst)with
  |some t=>match gv (lk s.env t)with
   |some b=>if b=some want then eI T P o.op s s.nx s.nx false (fun e=>e.val=lk s.env d)else lk s.env d= .aF []
   |none=>False
  |none=>False
def prom (T:fB)(P:Program)(os:List Oper):List Nat→St→Prop
 |[],_=>True
 |j::r,s=>(match os[j]? with
  |some o=>match o.dst with
   |some d=>d<s.n∧vq T P os o d s
   |none=>False
  |none=>False)∧prom T P os r s
def tx (T:fB)(P:Program)(o:Oper)(os:List Oper)(s:St)(K:St→Prop):Prop:=
 if rP o.op then AG T o.op o.dst s K
 else if cX o.op then orM (eI T P o.op s s.nx s.nx (aQ o.dst os) (fun e=>K (after s o.dst e))) (nZ P o.op o.dst s K)
 else eI T P o.op s s.nx s.nx (aQ o.dst os) (fun e=>K (after s o.dst e))
def EI (T:fB)(P:Program)(os:List Oper)(i:Nat)(pd:List Nat)(s:St)(K:St→Prop):Prop:=match os[i]? with
  |some o=>o9 o.dst s.n∧tx T P o os s (fun s'=>prom T P os pd s'∧K s')
  |none=>False
def iX (T:fB)(P:Program)(os:List Oper):WL→St→(St→Prop)→Prop
 |.nil,s,K=>K s
 |.cons i pd sub .nil,s,K=>EI T P os i pd s (fun s'=>iX T P os sub s' K)
 |.cons i pd sub (.cons i' pd' sub' alt'),s,K=>EI T P os i pd s (fun s'=>iX T P os sub s' K)∧iX T P os (.cons i' pd' sub' alt') s K
 |.cons _ _ _ (.opt _ _ _ _),_,_=>False
 |.opt _ _ _ _,_,_=>False
structure Kp where
 ks:List Nat
 ms:List (Nat×WL)
def mF:List (Nat×WL)→Nat→Option WL
 |[],_=>none
 |(i,ws)::r,id=>if id=i then some ws else mF r id
def gc (keep:List Nat)(s:St):St:={s with env:=keep.map fun t=>(t,lk s.env t)}
def oI (T:fB)(P:Program)(m:Option WL)(os:List Oper)(s:St)(K:St→Prop):Prop:=
 match m with
 |none=>u4 T P s.nx os.length 0 os [] s K
 |some (.opt q d t1 t2)=>gx T P s.nx os.length t1 0 os [] s (fun s'=>iX T P os t1 s' K∧iX T P os t2 (OS d (s.nx+q) s') K)
 |some ws=>gx T P s.nx os.length ws 0 os [] s (fun s'=>iX T P os ws s' K)
def ij (T:fB)(P:Program)(ms:List (Nat×WL))(id:Nat)(draw:Bool)(os:List Oper)(s:St)(K:St→Prop):Prop:=
 if draw then oI T P (mF ms id) os s K else py T P 0 os [] s K
def Sub (s s':St):Prop:=∀G a w,oL G s a w→oL G s' a w
def vc (T:fB)(P:Program)(keep:Kp):Code→St→(Exit→St→Prop)→Prop
 |.skip,s,Q=>Q .normal s
 |.region id ops draw,s,Q=>ij T P keep.ms id draw ops.toList s (fun s'=>Q .normal (gc keep.ks s'))
 |.seq a b,s,Q=>vc T P keep a s (fun e s'=>match e with
  |.normal=>vc T P keep b s' Q
  |e=>Q e s')
 |.cond c a b,s,Q=>match s.ev c with
  |.one (.bool t)=>(t=true→eG (fun s=>vc T P keep a s Q) s)∧(t=false→eG (fun s=>vc T P keep b s Q) s)
  |_=>False
 |.block id c,s,Q=>vc T P keep c s (fun e s'=>match e with
  |.exit id'=>if id'=id then Q .normal s' else Q (.exit id') s'
  |e=>Q e s')
 |.loop c,s,Q=>∃(ι:Type) (I:ι→St) (m:ι→Nat) (x0:ι),Sub s (I x0)∧∀x,eG (fun s=>vc T P keep c s (fun e s'=>match e with
  |.normal=>∃y,Sub s' (I y)∧m y<m x
  |e=>Q e s')) (I x)
 |.exit id,s,Q=>Q (.exit id) s
 |.ret,s,Q=>Q .ret s
 |_,_,_=>False
theorem IN.mono {P:Program}{ops:Array Oper}{o:Oper}{s:St}{K K':St→Prop}(h:IN P ops o s K)(hk:∀s',K s'→K' s'):IN P ops o s K':=by
 unfold IN at*
 have hw:mC P o s K→mC P o s K':=fun h G a w hs Q next hn=>h G a w hs Q next (fun s' a' w' h1 h2=>hn s' a' w' (hk s' h1) h2)
 split at h
 ·exact hw h
 obtain⟨t,b,h1,h2,h3,h4⟩:=h;exact⟨t,b,h1,h2,fun e=>hw (h3 e),fun e=>hk _ (h4 e)⟩
def yY (ops:Array Oper)(gd:List (Nat×Tmp)):Prop:=∀g t,gh gd g=some t→br ops g=some t
theorem yY.set {ops:Array Oper}{gd:List (Nat×Tmp)}(h:yY ops gd){i:Nat}{o:Oper}(ho:ops[i]? =some o)(u:Bool):yY ops (dX u i o.dst gd):=by
 unfold dX
 split
 ·cases hd:o.dst with
  |none=>exact h
  |some d=>
   intro g t hg;simp only[gh]at hg
   split at hg
   ·rename_i TI
    subst TI;simp only[Option.some.injEq]at hg;subst hg;unfold br;rw[ho];exact hd
   exact h g t hg
 exact h
theorem jz {u:Bool}{e:eJ}{K:eJ→Prop}(h:bR u e K):K e:=by
 unfold bR at h
 split at h
 ·split at h
  ·rename_i b hb
   obtain⟨v,bl,fz⟩:=e;simp only at hb;subst hb
   cases b
   ·exact h.2 rfl
   exact h.1 rfl
  exact h.elim
 exact h
section
variable {T:fB}{P:Program}(hT:eH P T)
include hT
theorem qZ {o:Oper}{s:St}{K:St→Prop}{c:Call}(ho:o.op= .call c)(Tz:c.callee= .builtin .cap){x:Operand}(Ry:c.args= #[x]){t:TypeId}(Si:c.argTypes= #[t])(SK:bU o s.n)(h:FR T s o.dst t x K):mC P o s K:=by
 unfold FR at h
 cases RL:T t with
 |none=>rw[RL]at h;exact h.elim
 |some E=>
  rw[RL]at h;simp only at h
  split at h
  ·rename_i e UG
   have hu:=fk hT RL UG
   split at h
   ·rename_i cc hx
    split at h
    ·rename_i n hl
     intro G a w RC Q next hk;obtain⟨ρ,hs⟩:=RC;have RA:=hs.ev x;rw[hx]at RA;obtain⟨ad,cap,hv,hc,hn⟩:=CK hl RA;have hr:(execOp a.eval o).run P w= .ok (.value (.int .i64 cap)) w:=by
      unfold execOp;rw[ho];simp only[resolve,Tz,Sem.run_bind,Sem.run_pure,Result.andThen_ok,invoke,Go.builtin,Ry,Si];simp only[Builtin.cap_,hv,List.map_toArray,List.map_cons,List.map_nil,List.getElem?_toArray,List.getElem?_cons_zero,Sem.run_bind,au hu,Result.andThen_ok,Sem.run_pure];rfl
     refine Oper.cS hr (hk _ _ _ (h cap hc hn) ⟨ρ,?_⟩);have h1:=hs.put (dst:=o.dst) (x:=.one (.int .i64 cap)) (v:=.int .i64 cap) SK rfl
     cases hd:o.dst with
     |none=>rw[hd]at h1;exact h1
     |some d=>rw[hd]at h1;exact h1
    exact h.elim
   exact h.elim
  exact h.elim
omit hT in
theorem ES {ρ:Nat→Loc}{dom ok:Nat→Prop}{w:World}{c:C}{n:Nat}{v:Value}(hl:iR c=some n)(h:aA ρ dom ok w c v):∃a cap,v= .slice a n cap∧(0<n→∃ad,a=some ad):=by
 cases c with
 |own b wd off len=>
  simp only[iR,Option.some.injEq]at hl;subst hl;obtain⟨_,_,cap,_,hr⟩:=h
  rcases hr with⟨g,o1,o2,_,hv,_⟩|⟨_,hv,h0,_⟩
  ·exact⟨_,_,hv,fun _=>⟨_,rfl⟩⟩
  exact⟨none,0,by rw[hv,h0],fun hp=>by omega⟩
 |win b b2 off len=>
  simp only[iR,Option.some.injEq]at hl;subst hl;obtain⟨_,_,_,cap,_,hr⟩:=h
  rcases hr with⟨g,o1,o2,_,hv,_⟩|⟨_,hv,h0,_⟩
  ·exact⟨_,_,hv,fun _=>⟨_,rfl⟩⟩
  exact⟨none,0,by rw[hv,h0],fun hp=>by omega⟩
 |ints k xs=>
  simp only[iR,Option.some.injEq]at hl;subst hl;obtain⟨a,cap,hv,_,hr⟩:=h
  rcases hr with hr|⟨g,o,ha,_⟩
  ·exact⟨a,cap,hv,fun hp=>by omega⟩
  exact⟨a,cap,hv,fun _=>⟨_,ha⟩⟩
 |rows wd m f=>
  simp only[iR,Option.some.injEq]at hl;subst hl;obtain⟨a,cap,hv,_,hr⟩:=h
  rcases hr with hr|⟨g,o,ha,_⟩
  ·exact⟨a,cap,hv,fun hp=>by omega⟩
  exact⟨a,cap,hv,fun _=>⟨_,ha⟩⟩
 |nil=>
  simp only[iR,Option.some.injEq]at hl;subst hl;exact⟨none,0,h,fun hp=>by omega⟩
 |any=>simp[iR]at hl
 |bool b=>simp[iR]at hl
 |int k n=>simp[iR]at hl
 |str b=>simp[iR]at hl
 |ptr b off=>simp[iR]at hl
 |eptr b wd i off=>simp[iR]at hl
 |elt c wd i off=>simp[iR]at hl
 |fn f n caps=>simp[iR]at hl
omit hT in
theorem rQ (w:World)(d:Nat){t e:TypeId}(hu:P.underlying t=some (.slice e))(ad:Option Addr)(n cap l c0:Nat):(Op.equalIn (d+1) t (.slice ad n cap) (.slice none l c0)).run P w= .ok ad.isNone w:=by
 cases ad<;>simp only[Op.equalIn,Sem.run_bind,au hu,Result.andThen_ok,Sem.run_pure,Option.isNone]
theorem QF {
       o:Oper} {s:St} {K:St→Prop} {op:BinOp} {t t':TypeId} {x y:Operand} (ho:o.op= .binOp op t x y t') (Ut:vI op=true) (hy:qI y=true) (SK:bU o s.n) (h:Hj T s o.dst t x K):mC P o s K:=by
 have Ut:op= .eql:=by cases op<;>simp [vI]at Ut⊢
 subst Ut;have Up:∃l c,y= .const (.slice none l c):=by
  cases y<;>simp [qI]at hy
  rename_i v
  cases v<;>simp [x6]at hy
  rename_i a l c
  cases a<;>simp at hy
  exact⟨l,c,rfl⟩
 obtain⟨l,c0,rfl⟩:=Up;unfold Hj at h
 cases RL:T t with
 |none=>rw[RL]at h;exact h.elim
 |some E=>
  rw[RL]at h;simp only at h
  split at h
  ·rename_i e UG
   have hu:=fk hT RL UG
   split at h
   ·rename_i cc hx
    split at h
    ·rename_i n hl
     intro G a w RC Q next hk;obtain⟨ρ,hs⟩:=RC;have RA:=hs.ev x;rw[hx]at RA;obtain⟨ad,cap,hv,hn⟩:=ES hl RA;have hr:(execOp a.eval o).run P w= .ok (.value (.bool ad.isNone)) w:=by
      unfold execOp;rw[ho];refine dT ?_;have Vc:a.eval (.const (.slice none l c0))= .slice none l c0:=rfl;rw[hv,Vc];have hg:(eqGuard .eql t x (.const (.slice none l c0)) (.slice ad n cap) (.slice none l c0)).run P w= .ok () w:=by
       unfold eqGuard;rfl
      have he:(Op.equal t (.slice ad n cap) (.slice none l c0)).run P w= .ok ad.isNone w:=by
       exact rQ w 9999 hu ad n cap l c0
      rw[Sem.run_bind,hg,Result.andThen_ok];simp only[Go.binOp,Sem.run_bind,he,Result.andThen_ok,Sem.run_pure]
     refine Oper.cS hr (hk _ _ _ (h ad.isNone (fun hp=>by obtain⟨x,rfl⟩:=hn hp;rfl)) ⟨ρ,?_⟩);have h1:=hs.put (dst:=o.dst) (x:=.one (.bool ad.isNone)) (v:=.bool ad.isNone) SK rfl
     cases hd:o.dst with
     |none=>rw[hd]at h1;exact h1
     |some d=>rw[hd]at h1;exact h1
    exact h.elim
   exact h.elim
  exact h.elim
theorem wx {o:Oper}{s:St}{K:St→Prop}(SK:bU o s.n)(h:AG T o.op o.dst s K):mC P o s K:=by
 unfold AG at h
 split at h
 ·rename_i t x y ho
  exact Nx hT ho h.1 h.2
 ·rename_i op t x y t' ho
  exact QF hT ho h.1 h.2.1 SK h.2.2
 ·rename_i c ho
  split at h
  ·rename_i b hb
   split at h
   ·rename_i x y t t' Sc Ry Si
    obtain⟨U0,h⟩:=h;obtain⟨e',he'⟩:=Ow hT U0;exact Ji hT ho hb (Array.toList_inj.1 Ry) (Array.toList_inj.1 Si) he' SK h
   ·rename_i x t Sc Ry Si
    exact qZ hT ho hb (Array.toList_inj.1 Ry) (Array.toList_inj.1 Si) SK h
   ·rename_i x t Sc Ry Si
    exact N7 hT ho hb (Array.toList_inj.1 Ry) (Array.toList_inj.1 Si) SK h
   ·rename_i x y t t' Sc Ry Si
    exact Py hT ho hb (Array.toList_inj.1 Ry) (Array.toList_inj.1 Si) SK h.2
   exact h.elim
  exact h.elim
 exact h.elim
omit hT in
theorem sH {o:Oper}{n:Nat}(h:o9 o.dst n):bU o n:=fun d hd=>by rw[hd]at h;exact h
theorem gK {ops:Array Oper}:∀(os:List Oper) (i:Nat) (gd:List (Nat×Tmp)) (s:St) (K:St→Prop),ops.toList.drop i=os→yY ops gd→py T P i os gd s K→uW P ops os s K
 |[],_,_,_,_,_,_,h=>h
 |o::os,i,gd,s,K,R0,TJ,h=>by
  simp only[py]at h;obtain⟨hd,h⟩:=h;have Sn:=sH hd;have ho:ops[i]? =some o:=by
   have:(ops.toList.drop i)[0]? =some o:=by rw[R0];rfl
   rw[List.getElem?_drop]at this
   simpa using this
  have R9:ops.toList.drop (i+1)=os:=by
   rw[←List.drop_drop,R0];rfl
  have taken:(if rP o.op then AG T o.op o.dst s (fun s'=>py T P (i+1) os gd s' K)
    else if cX o.op then orM (eI T P o.op s s.nx s.nx (aQ o.dst os) (fun e=>bR (uG i os) e fun e'=>py T P (i+1) os (dX (uG i os) i o.dst gd) (after s o.dst e') K)) (nZ P o.op o.dst s (fun s'=>py T P (i+1) os gd s' K))
    else eI T P o.op s s.nx s.nx (aQ o.dst os) (fun e=>bR (uG i os) e fun e'=>py T P (i+1) os (dX (uG i os) i o.dst gd) (after s o.dst e') K))→mC P o s (fun s'=>uW P ops os s' K):=by
   intro h
   split at h
   ·have:=wx hT Sn h
    intro G a w hs Q next hn;exact this G a w hs Q next (fun s' a' w' h1 h2=>hn s' a' w' (gK os (i+1) gd s' K R9 TJ h1) h2)
   split at h
   ·rcases h with h|h
    ·obtain⟨e,hK,SP⟩:=fW hT Sn h;exact SP.P3 (gK os (i+1) _ _ K R9 (TJ.set ho _) (jz hK))
    have:=G7 Sn h
    intro G a w hs Q next hn;exact this G a w hs Q next (fun s' a' w' h1 h2=>hn s' a' w' (gK os (i+1) gd s' K R9 TJ h1) h2)
   obtain⟨e,hK,SP⟩:=fW hT Sn h;exact SP.P3 (gK os (i+1) _ _ K R9 (TJ.set ho _) (jz hK))
  refine⟨Sn,?_⟩;unfold IN;unfold guarded at h
  cases hg:o.guard with
  |none=>rw[hg]at h;exact taken h
  |some gw=>
   obtain⟨g,want⟩:=gw;rw[hg]at h;simp only at h
   cases Uj:gh gd g with
   |none=>rw[Uj]at h;exact h.elim
   |some t=>
    rw[Uj]at h;simp only at h
    split at h
    ·rename_i b hb
     refine⟨t,b,TJ g t Uj,hb,fun e=>?_,fun e=>?_⟩
     ·rw[if_pos e]at h;exact taken h
     rw[if_neg e]at h;exact gK os (i+1) _ _ K R9 (TJ.set ho _) h
    exact h.elim
theorem Cu {o:Oper}{os:List Oper}{s:St}{K:St→Prop}(hd:bU o s.n)(h:tx T P o os s K):mC P o s K:=by
 unfold tx at h
 split at h
 ·exact wx hT hd h
 split at h
 ·rcases h with h|h
  ·obtain⟨e,hK,SP⟩:=fW hT hd h;exact SP.P3 hK
  exact G7 hd h
 obtain⟨e,hK,SP⟩:=fW hT hd h;exact SP.P3 hK
theorem ud {ops:Array Oper}{s:St}:∀(pd:List Nat),(∀j∈pd,∃o,ops[j]? =some o∧iV o.op=true)→prom T P ops.toList pd s→Promise P ops s pd
 |[],_,_=>fun j hj=>by cases hj
 |i::r,hl,h=>by
  simp only[prom]at h;obtain⟨h1,h2⟩:=h;intro j hj
  rcases List.mem_cons.1 hj with rfl|hj
  ·obtain⟨o,ho,VN⟩:=hl j (by simp);rw[Array.getElem?_toList,ho]at h1;simp only at h1
   cases hd:o.dst with
   |none=>rw[hd]at h1;exact h1.elim
   |some d=>
    rw[hd]at h1;obtain⟨SK,h1⟩:=h1;have doit:eI T P o.op s s.nx s.nx false (fun e=>e.val=lk s.env d)→Ll P o s s.nx (lk s.env d):=fun h1=>by
     obtain⟨e,he,SP⟩:=fW hT (fun d' ZO=>by rw[hd]at ZO;obtain rfl:=Option.some.inj ZO;exact SK) h1;have he:e.val=lk s.env d:=he;rw[←he];exact(SP.2 VN).2.2
    refine⟨o,d,ho,hd,?_,SK⟩;unfold vq at h1;unfold HD
    split at h1
    ·rename_i hg;(try rw[hg]);exact doit h1
    rename_i g want hg
    try rw[hg]
    split at h1
    ·rename_i t ht
     split at h1
     ·rename_i b hb
      refine⟨t,b,?_,hb,?_⟩
      ·unfold br;rw[←Array.getElem?_toList];exact ht
      split at h1
      ·rename_i Sj;rw[if_pos Sj];exact doit h1
      rename_i Sj;rw[if_neg Sj];exact h1
     exact h1.elim
    exact h1.elim
  exact ud r (fun j hj=>hl j (by simp[hj])) h2 j hj
theorem tX {ops:Array Oper}{ws:WL}{ex:Option Nat}{pre:List Nat}{i:Nat}{pd:List Nat}{sub:WL}{s:St}{K K':St→Prop}(h1:Pg ops ws ex pre i pd sub)(h:EI T P ops.toList i pd s K)(hK:∀s',K s'→K' s'):Dd P ops i pd s K':=by
 simp only[EI,Array.getElem?_toList]at h;obtain⟨o,ho,_,_,Ut⟩:=h1.op;rw[ho]at h;obtain⟨hd,h⟩:=h;have Sn:bU o s.n:=sH hd;refine⟨o,ho,Sn,fun G a w hs Q next hk=>Cu hT Sn h G a w hs Q next fun s' a' w' k1 k2=>hk s' a' w' ⟨?_,hK _ k1.2⟩ k2⟩;exact ud hT pd (fun j hj=>by obtain⟨oj,d,_,k1,k2,_⟩:=Ut j hj;exact⟨oj,k1,k2⟩) k1.1
theorem gG {ops:Array Oper}{ws:WL}{ex:Option Nat}:∀(t:WL) (pre:List Nat) (s:St) (K:St→Prop),mJ ops ws ex pre t=true→iX T P ops.toList t s K→lX P ops t s K
 |.nil,_,_,_,_,h=>h
 |.opt _ _ _ _,_,_,_,_,h=>h.elim
 |.cons _ _ _ (.opt _ _ _ _),_,_,_,_,h=>by rw[iX]at h;exact h.elim
 |.cons i pd sub .nil,pre,s,K,hg,h=>by
  obtain⟨h1,_⟩:=jl hg;rw[iX]at h;rw[lX];exact tX hT h1 h fun s' k=>gG sub (i::pre) s' K h1.sub k
 |.cons i pd sub (.cons i' pd' sub' alt'),pre,s,K,hg,h=>by
  obtain⟨h1,h2⟩:=jl hg;rw[iX]at h;rw[lX];exact⟨tX hT h1 h.1 fun s' k=>gG sub (i::pre) s' K h1.sub k,gG (.cons i' pd' sub' alt') pre s K h2 h.2⟩
def Gt (P:Program)(ops:Array Oper)(ws:WL)(σ:St)(es:Nat→eJ)(k:Nat):Prop:=
 (∀j,∀b∈(es j).fz,b<σ.nx)∧(∀(j:Nat) o,j<k→bH ws j=true→ops[j]? =some o→lM P ops σ.nx j o (aK σ σ.nx ops es (bH ws) j) (es j))∧
  ∀(j:Nat) o,j<k→bH ws j=true→ops[j]? =some o→jW o.op=true→(es j).fz=[]
omit hT in
theorem No {op:Op}{s:St}{nx0 id:Nat}{fz:Bool}{K:eJ→Prop}(ha:jW op=true)(h:eI T P op s nx0 id fz K):eI T P op s nx0 id fz (fun e=>K e∧e.fz=[]):=by
 cases op<;>simp only[jW,Bool.false_eq_true]at ha
 simp only[eI]at h⊢
 split at h
 ·exact⟨h,trivial⟩
 exact h.elim
def mn (os:List Oper):Nat:=(os.takeWhile fun o=>!qY o.op).length
omit hT in
theorem xc {nx0:Nat}:∀{l:List Nat},uN nx0 l→∀b∈l,b<nx0
 |[],_,b,hb=>by simp at hb
 |x::r,h,b,hb=>by
  rcases List.mem_cons.1 hb with rfl|hb
  ·exact h.1
  exact xc h.2 b hb
omit hT in
theorem zg {σ:St}{nx0:Nat}{ops:Array Oper}{e e':Nat→eJ}{L:Nat→Bool}:∀k,(∀j,j<k→e j=e' j)→aK σ nx0 ops e L k=aK σ nx0 ops e' L k:=by
 intro k
 induction k with
 |zero=>intro _;rfl
 |succ k ih=>intro h;simp only[aK,ih (fun j hj=>h j (by omega)),h k (by omega)]
def Laid (P:Program)(ops:Array Oper)(σ:St)(es:Nat→eJ)(k:Nat):Prop:=
 (∀j,∀b∈(es j).fz,b<σ.nx)∧∀(j:Nat) o,j<k→ops[j]? =some o→lM P ops σ.nx j o (aK σ σ.nx ops es (fun _=>true) j) (es j)
theorem vt {ops:Array Oper}{σ:St}:∀(os:List Oper) (i:Nat) (gd:List (Nat×Tmp)) (s:St) (K:St→Prop) (es:Nat→eJ),ops.toList.drop i=os→yY ops gd→s=aK σ σ.nx ops es (fun _=>true) i→
  Laid P ops σ es i→u4 T P σ.nx ops.size i os gd s K→
  ∃es',Laid P ops σ es' (i+mn os)∧uW P ops (ops.toList.drop (i+mn os)) {aK σ σ.nx ops es' (fun _=>true) (i+mn os)with nx:=σ.nx+ops.size} K
 |[],i,gd,s,K,es,R0,TJ,hs,hl,h=>by
  refine⟨es,hl,?_⟩;simp only[mn,List.takeWhile_nil,List.length_nil,Nat.add_zero,R0];rw[←hs];exact h
 |o::os,i,gd,s,K,es,R0,TJ,hs,hl,h=>by
  simp only[u4]at h;have ho:ops[i]? =some o:=by
   have:(ops.toList.drop i)[0]? =some o:=by rw[R0];rfl
   rw[List.getElem?_drop]at this
   simpa using this
  have R9:ops.toList.drop (i+1)=os:=by
   rw[←List.drop_drop,R0];rfl
  by_cases U2:qY o.op=true
  ·rw[if_pos U2]at h;have hn:mn (o::os)=0:=by simp[mn,List.takeWhile_cons,U2]
   rw[hn,Nat.add_zero,R0];refine⟨es,hl,?_⟩
   have:=gK hT (ops:=ops) (o::os) i gd _ K R0 TJ h
   rw[hs]at this;exact this
  rw[if_neg U2]at h;obtain⟨hd,h⟩:=h;have Sn:=sH hd;have hn:mn (o::os)=mn os+1:=by simp[mn,List.takeWhile_cons,U2]
  rw[hn,show i+(mn os+1)=i+1+mn os by omega]
  -- one more laid down
  have more:∀(e:eJ) (gd':List (Nat×Tmp)),yY ops gd'→(∀b∈e.fz,b<σ.nx)→lM P ops σ.nx i o s e→u4 T P σ.nx ops.size (i+1) os gd' (s.add o.dst (σ.nx+i) e) K→
    ∃es',Laid P ops σ es' (i+1+mn os)∧uW P ops (ops.toList.drop (i+1+mn os)) {aK σ σ.nx ops es' (fun _=>true) (i+1+mn os)with nx:=σ.nx+ops.size} K:=by
   intro e gd' Xt S7 RM hv;have SA:∀j,j<i→es j=(fun j=>if j=i then e else es j) j:=fun j hj=>by simp only;rw[if_neg (by omega)]
   have Ub:∀j,j≤i→aK σ σ.nx ops (fun j=>if j=i then e else es j) (fun _=>true) j=aK σ σ.nx ops es (fun _=>true) j:=fun j hj=>(zg j (fun m hm=>SA m (by omega))).symm;refine vt os (i+1) gd' (s.add o.dst (σ.nx+i) e) K (fun j=>if j=i then e else es j) R9 Xt ?_ ⟨fun j b hb=>?_,fun j o' hj SE=>?_⟩ hv
   ·simp only[aK,if_true];rw[Ub i (Nat.le_refl _),←hs]
    have:br ops i=o.dst:=by unfold br;rw[ho];rfl
    rw[this]
   ·simp only at hb
    split at hb
    ·exact S7 b hb
    exact hl.1 j b hb
   rw[Ub j (by omega)]
   by_cases Th:j=i
   ·subst Th;rw[ho]at SE;obtain rfl:=Option.some.inj SE;simp only[if_true];rw[←hs];exact RM
   simp only[Th,if_false];exact hl.2 j o' (by omega) SE
  have taken:(if cX o.op then orM (eI T P o.op s σ.nx (σ.nx+i) (aQ o.dst os) (fun e=>uN σ.nx e.fz∧bR (uG i os) e fun e'=>u4 T P σ.nx ops.size (i+1) os (dX (uG i os) i o.dst gd) (s.add o.dst (σ.nx+i) e') K)) False else eI T P o.op s σ.nx (σ.nx+i) (aQ o.dst os) (fun e=>uN σ.nx e.fz∧bR (uG i os) e fun e'=>u4 T P σ.nx ops.size (i+1) os (dX (uG i os) i o.dst gd) (s.add o.dst (σ.nx+i) e') K))→
    ∃e,a7 P o s σ.nx (σ.nx+i) e∧(∀b∈e.fz,b<σ.nx)∧u4 T P σ.nx ops.size (i+1) os (dX (uG i os) i o.dst gd) (s.add o.dst (σ.nx+i) e) K:=by
   intro h;have h:eI T P o.op s σ.nx (σ.nx+i) (aQ o.dst os) (fun e=>uN σ.nx e.fz∧bR (uG i os) e fun e'=>u4 T P σ.nx ops.size (i+1) os (dX (uG i os) i o.dst gd) (s.add o.dst (σ.nx+i) e') K):=by
    split at h
    ·rcases h with h|h
     ·exact h
     exact h.elim
    exact h
   obtain⟨e,hK,SP⟩:=fW hT Sn h;exact⟨e,SP,xc hK.1,jz hK.2⟩
  unfold guarded at h
  cases hg:o.guard with
  |none=>
   rw[hg]at h;obtain⟨e,SP,S7,hv⟩:=taken h;exact more e _ (TJ.set ho _) S7 ⟨Sn,by rw[hg];exact SP⟩ hv
  |some gw=>
   obtain⟨g,want⟩:=gw;rw[hg]at h;simp only at h
   cases Uj:gh gd g with
   |none=>rw[Uj]at h;exact h.elim
   |some t=>
    rw[Uj]at h;simp only at h
    split at h
    ·rename_i b hb
     by_cases Sj:b=some want
     ·rw[if_pos Sj]at h;obtain⟨e,SP,S7,hv⟩:=taken h;exact more e _ (TJ.set ho _) S7 ⟨Sn,by rw[hg];exact⟨t,b,TJ g t Uj,hb,by rw[if_pos Sj];exact SP⟩⟩ hv
     rw[if_neg Sj]at h;refine more eJ.skip (dX (uG i os) i o.dst gd) (TJ.set ho _) (fun b hb=>by simp[eJ.skip]at hb) ⟨Sn,by rw[hg];exact⟨t,b,TJ g t Uj,hb,by rw[if_neg Sj]⟩⟩ ?_;unfold eJ.skip;rw[St.add_plain];exact h
    exact h.elim
theorem lH {ops:Array Oper}{σ:St}{ws:WL}:∀(os:List Oper) (i:Nat) (gd:List (Nat×Tmp)) (s:St) (K:St→Prop) (es:Nat→eJ),i≤ops.size→ops.toList.drop i=os→yY ops gd→s=aK σ σ.nx ops es (bH ws) i→
  Gt P ops ws σ es i→gx T P σ.nx ops.size ws i os gd s K→
  ∃es',Gt P ops ws σ es' ops.size∧K (sK σ ops es' ws)
 |[],i,gd,s,K,es,hi,R0,TJ,hs,hl,h=>by
  have:i=ops.size:=by
   have:=List.drop_eq_nil_iff.1 R0
   simp at this;omega
  subst this;refine⟨es,hl,?_⟩;unfold sK;rw[←hs];exact h
 |o::os,i,gd,s,K,es,hi,R0,TJ,hs,hl,h=>by
  simp only[gx]at h;have ho:ops[i]? =some o:=by
   have:(ops.toList.drop i)[0]? =some o:=by rw[R0];rfl
   rw[List.getElem?_drop]at this
   simpa using this
  have Ru:=(Array.getElem?_eq_some_iff.1 ho).1;have R9:ops.toList.drop (i+1)=os:=by
   rw[←List.drop_drop,R0];rfl
  by_cases hw:iY ws i=true
  ·rw[if_pos hw]at h;have hnR:bH ws i=false:=by simp[bH,hw]
   refine lH os (i+1) gd s K es (by omega) R9 TJ ?_ ⟨hl.1,fun j o' hj hR SE=>?_,fun j o' hj hR SE=>?_⟩ h
   ·simp only[aK,hnR,Bool.false_eq_true,if_false];exact hs
   ·by_cases Th:j=i
    ·rw[Th,hnR]at hR;cases hR
    exact hl.2.1 j o' (by omega) hR SE
   by_cases Th:j=i
   ·rw[Th,hnR]at hR;cases hR
   exact hl.2.2 j o' (by omega) hR SE
  rw[if_neg hw]at h;have hR:bH ws i=true:=by simp[bH,hw]
  obtain⟨hd,h⟩:=h;have Sn:=sH hd;have more:∀(e:eJ) (gd':List (Nat×Tmp)),yY ops gd'→(∀b∈e.fz,b<σ.nx)→(jW o.op=true→e.fz=[])→lM P ops σ.nx i o s e→gx T P σ.nx ops.size ws (i+1) os gd' (s.add o.dst (σ.nx+i) e) K→
    ∃es',Gt P ops ws σ es' ops.size∧K (sK σ ops es' ws):=by
   intro e gd' Xt S7 Xe RM hv;have SA:∀j,j<i→es j=(fun j=>if j=i then e else es j) j:=fun j hj=>by simp only;rw[if_neg (by omega)]
   have Ub:∀j,j≤i→aK σ σ.nx ops (fun j=>if j=i then e else es j) (bH ws) j=aK σ σ.nx ops es (bH ws) j:=fun j hj=>(zg j (fun m hm=>SA m (by omega))).symm;refine lH os (i+1) gd' (s.add o.dst (σ.nx+i) e) K (fun j=>if j=i then e else es j) (by omega) R9 Xt ?_ ⟨fun j b hb=>?_,fun j o' hj hRj SE=>?_,fun j o' hj hRj SE=>?_⟩ hv
   ·simp only[aK,hR,if_true];rw[Ub i (Nat.le_refl _),←hs]
    have:br ops i=o.dst:=by unfold br;rw[ho];rfl
    rw[this]
   ·simp only at hb
    split at hb
    ·exact S7 b hb
    exact hl.1 j b hb
   ·rw[Ub j (by omega)]
    by_cases Th:j=i
    ·subst Th;rw[ho]at SE;obtain rfl:=Option.some.inj SE;simp only[if_true];rw[←hs];exact RM
    simp only[Th,if_false];exact hl.2.1 j o' (by omega) hRj SE
   by_cases Th:j=i
   ·subst Th;rw[ho]at SE;obtain rfl:=Option.some.inj SE;simp only[if_true];exact Xe
   simp only[Th,if_false];exact hl.2.2 j o' (by omega) hRj SE
  have taken:(if cX o.op then orM (eI T P o.op s σ.nx (σ.nx+i) (aQ o.dst os) (fun e=>uN σ.nx e.fz∧bR (uG i os) e fun e'=>gx T P σ.nx ops.size ws (i+1) os (dX (uG i os) i o.dst gd) (s.add o.dst (σ.nx+i) e') K)) False else eI T P o.op s σ.nx (σ.nx+i) (aQ o.dst os) (fun e=>uN σ.nx e.fz∧bR (uG i os) e fun e'=>gx T P σ.nx ops.size ws (i+1) os (dX (uG i os) i o.dst gd) (s.add o.dst (σ.nx+i) e') K))→
    ∃e,a7 P o s σ.nx (σ.nx+i) e∧(∀b∈e.fz,b<σ.nx)∧(jW o.op=true→e.fz=[])∧gx T P σ.nx ops.size ws (i+1) os (dX (uG i os) i o.dst gd) (s.add o.dst (σ.nx+i) e) K:=by
   intro h;have h:eI T P o.op s σ.nx (σ.nx+i) (aQ o.dst os) (fun e=>uN σ.nx e.fz∧bR (uG i os) e fun e'=>gx T P σ.nx ops.size ws (i+1) os (dX (uG i os) i o.dst gd) (s.add o.dst (σ.nx+i) e') K):=by
    split at h
    ·rcases h with h|h
     ·exact h
     exact h.elim
    exact h
   by_cases ha:jW o.op=true
   ·obtain⟨e,hK,SP⟩:=fW hT Sn (No ha h);exact⟨e,SP,xc hK.1.1,fun _=>hK.2,jz hK.1.2⟩
   obtain⟨e,hK,SP⟩:=fW hT Sn h;exact⟨e,SP,xc hK.1,fun h=>absurd h ha,jz hK.2⟩
  unfold guarded at h
  cases hg:o.guard with
  |none=>
   rw[hg]at h;obtain⟨e,SP,S7,Xe,hv⟩:=taken h;exact more e _ (TJ.set ho _) S7 Xe ⟨Sn,by rw[hg];exact SP⟩ hv
  |some gw=>
   obtain⟨g,want⟩:=gw;rw[hg]at h;simp only at h
   cases Uj:gh gd g with
   |none=>rw[Uj]at h;exact h.elim
   |some t=>
    rw[Uj]at h;simp only at h
    split at h
    ·rename_i b hb
     by_cases Sj:b=some want
     ·rw[if_pos Sj]at h;obtain⟨e,SP,S7,Xe,hv⟩:=taken h;exact more e _ (TJ.set ho _) S7 Xe ⟨Sn,by rw[hg];exact⟨t,b,TJ g t Uj,hb,by rw[if_pos Sj];exact SP⟩⟩ hv
     rw[if_neg Sj]at h;refine more eJ.skip (dX (uG i os) i o.dst gd) (TJ.set ho _) (fun b hb=>by simp[eJ.skip]at hb) (fun _=>rfl) ⟨Sn,by rw[hg];exact⟨t,b,TJ g t Uj,hb,by rw[if_neg Sj]⟩⟩ ?_;unfold eJ.skip;rw[St.add_plain];exact h
    exact h.elim
end
def codeOk (kp:Kp):Code→Bool
 |.region id ops draw=>!draw||(match mF kp.ms id with
  |none=>uq ops (mn ops.toList)
  |some ws=>OK ops ws)
 |.seq a b=>codeOk kp a&&codeOk kp b
 |.cond _ a b=>codeOk kp a&&codeOk kp b
 |.block _ c=>codeOk kp c
 |.loop c=>codeOk kp c
 |.skip=>true
 |.exit _=>true
 |.ret=>true
 |_=>false
theorem tP {T:fB}{P:Program}(hT:eH P T)(hm:P.follows .mixedOrders=true){id:Nat}{ops:Array Oper}{draw:Bool}{kp:Kp}(RO:codeOk kp (.region id ops draw)=true){s:St}{K:St→Prop}(h:ij T P kp.ms id draw ops.toList s K)
  {G:Ctx} {a:Act} {w:World} (hs:oL G s a w):(Code.region id ops draw).wp P (fun e a w=>e= .normal∧∃s',K s'∧oL G s' a w) a w:=by
 unfold ij at h
 cases draw with
 |false=>
  simp only[Bool.false_eq_true,if_false]at h;have hW:=gK hT (ops:=ops) ops.toList 0 [] s K (by simp) (fun g t hg=>by simp[gh]at hg) h;refine wp_region ?_;have key:∀(os:List Oper) (i:Nat) (s:St) (a:Act) (w:World),ops.toList.drop i=os→uW P ops os s K→oL G s a w→wpOps P ops (fun e a w=>e= .normal∧∃s',K s'∧oL G s' a w) (List.range' i os.length) a w:=by
   intro os
   induction os with
   |nil=>intro i s a w _ hW hs;exact⟨rfl,s,hW,hs⟩
   |cons o os ih=>
    intro i s a w R0 hW hs;have ho:ops[i]? =some o:=by
     have:(ops.toList.drop i)[0]? =some o:=by rw[R0];rfl
     rw[List.getElem?_drop]at this
     simpa using this
    have R9:ops.toList.drop (i+1)=os:=by
     rw[←List.drop_drop,R0];rfl
    rw[List.length_cons,List.range'_succ,wpOps_cons];exact IN.step ho hW.2 hW.1 hs fun s' a' w' h1 h2=>ih (i+1) s' a' w' R9 h1 h2
  have:=key ops.toList 0 s a w (by simp) hW hs
  rw[List.range_eq_range']
  simpa using this
 |true=>
  simp only[if_true]at h;have Uu:(match mF kp.ms id with
   |none=>uq ops (mn ops.toList)
   |some ws=>OK ops ws)=true:=by simpa[codeOk]using RO
  have Sx:ops.toList.length=ops.size:=by simp
  unfold oI at h;rw[Sx]at h
  cases hmd:mF kp.ms id with
  |some ws=>
   rw[hmd]at h Uu;simp only at Uu;obtain⟨ρ,hr⟩:=hs;have VU:∀(es:Nat→eJ) (wt:WL) k,aK s s.nx ops es (fun j=>bH wt j&&(Array.replicate ops.size false).getD j false) k=s:=by
    intro es wt k
    induction k with
    |zero=>rfl
    |succ k ih=>
     simp only[aK];rw[if_neg (by simp[Array.getD]),ih]
   have YR:iI ops (Array.replicate ops.size false)≤ops.size:=by
    unfold iI
    have:=List.countP_le_length (p:=fun i=>!(Array.replicate ops.size false).getD i false) (l:=List.range ops.size)
    simpa using this
   have VV:∀(es:Nat→eJ) (wt:WL) (ex:Option Nat),oA P G ops wt ex True s es K (Array.replicate ops.size false) a w.drew:=fun es wt ex=>by
    refine⟨by simp,fun i hi=>by simp[Array.getD]at hi,.inl ⟨trivial,fun i hi=>by simp[Array.getD]at hi,ρ,?_⟩⟩;rw[VU];have h1:aR G (fun b=>b<s.nx) ρ s a w.drew:=hr.drew;exact h1.cR (fun b hb=>Or.inl hb)
   refine wp_region_any hm ?_;have plain:(∀q d t1 t2,ws≠ .opt q d t1 t2)→wpAny P .any ops (fun e a w=>e= .normal∧∃s',K s'∧oL G s' a w) ops.size (Array.replicate ops.size false) a w.drew:=fun X9=>by
    have Yb:ER ops ws=true∧ki ops ws [] ws=true∧mJ ops ws none [] ws=true:=by
     cases ws with
     |opt q d t1 t2=>exact absurd rfl (X9 q d t1 t2)
     |nil=>simpa[OK,and_assoc]using Uu
     |cons _ _ _ _=>simpa[OK,and_assoc]using Uu
    have h':gx T P s.nx ops.size ws 0 ops.toList [] s (fun s'=>iX T P ops.toList ws s' K):=by
     cases ws with
     |opt q d t1 t2=>exact absurd rfl (X9 q d t1 t2)
     |nil=>exact h
     |cons _ _ _ _=>exact h
    have hg:=sJ Yb.1;obtain⟨es,hl,hW⟩:=lH hT (ops:=ops) (σ:=s) (ws:=ws) ops.toList 0 [] s _ (fun _=>eJ.skip) (Nat.zero_le _) (by simp) (fun g t hg=>by simp[gh]at hg) rfl ⟨fun j b hb=>by simp[eJ.skip]at hb,fun j o hj=>by omega,fun j o hj=>by omega⟩ h';have Vw:=gG hT (ops:=ops) ws [] _ K Yb.2.2 hW;exact lf (ex:=none) (F:=True) hg (fun _=>Yb.2.1) (fun _=>Yb.2.2) hl.1 (fun _ i o hR ho=>hl.2.1 i o (Array.getElem?_eq_some_iff.1 ho).1 hR ho) (fun _=>Vw) (fun _ q hq=>by cases hq) (fun s' a' w' h1 h2=>⟨rfl,s',h1,h2⟩) (fun ch a a' w h=>by cases h.1) ops.size _ a _ (VV es ws none) YR
   cases ws with
   |nil=>exact plain fun _ _ _ _ e=>by cases e
   |cons _ _ _ _=>exact plain fun _ _ _ _ e=>by cases e
   |opt q d t1 t2=>
    have hk:=JF Uu;obtain⟨es,hl,hW1,hW2⟩:=lH hT (ops:=ops) (σ:=s) (ws:=t1) ops.toList 0 [] s _ (fun _=>eJ.skip) (Nat.zero_le _) (by simp) (fun g t hg=>by simp[gh]at hg) rfl ⟨fun j b hb=>by simp[eJ.skip]at hb,fun j o hj=>by omega,fun j o hj=>by omega⟩ h;obtain⟨oq,hoq,_,haq⟩:=hk.al;exact xt hk hl.1 (hl.2.2 q oq hk.qs hk.qR hoq haq) (fun i o hR ho=>hl.2.1 i o (Array.getElem?_eq_some_iff.1 ho).1 hR ho) (gG hT (ops:=ops) t1 [] _ K hk.w1 hW1) (gG hT (ops:=ops) t2 [] _ K hk.w2 hW2)
     (fun s' a' w' h1 h2=>⟨rfl,s',h1,h2⟩) (fun ch a a' w h=>by cases h.1) ops.size _ a _ (VV es t1 (some q)) YR
  |none=>
  rw[hmd]at h Uu;simp only at h Uu;have hck':uq ops (mn ops.toList)=true:=Uu;obtain⟨es,hl,hW⟩:=vt hT (ops:=ops) (σ:=s) ops.toList 0 [] s K (fun _=>eJ.skip) (by simp) (fun g t hg=>by simp[gh]at hg) rfl ⟨fun j b hb=>by simp[eJ.skip]at hb,fun j o hj=>by omega⟩ h;rw[Nat.zero_add]at hl hW;refine wp_region_any hm ?_;obtain⟨ρ,hr⟩:=hs;have VU:∀k,aK s s.nx ops es (fun j=>(Array.replicate ops.size false).getD j false) k=s:=by
   intro k
   induction k with
   |zero=>rfl
   |succ k ih=>
    simp only[aK];rw[if_neg (by simp[Array.getD]),ih]
  refine yx (ze hck') hl.1 hl.2 hW (fun s' a' w' h1 h2=>⟨rfl,s',h1,h2⟩) ops.size _ a _ ⟨by simp,fun i hi=>by simp[Array.getD]at hi,.inl ⟨fun i hi=>by simp[Array.getD]at hi,ρ,?_⟩⟩ ?_
  ·rw[VU];have h1:aR G (fun b=>b<s.nx) ρ s a w.drew:=hr.drew;exact h1.cR (fun b hb=>Or.inl hb)
  unfold iI
  have:=List.countP_le_length (p:=fun i=>!(Array.replicate ops.size false).getD i false) (l:=List.range ops.size)
  simpa using this
theorem O3 (keep:List Nat)(s:St)(t:Nat):lk (gc keep s).env t=if t∈keep then lk s.env t else .unk:=by
 simp only[gc]
 induction keep with
 |nil=>simp[lk]
 |cons x r ih=>
  simp only[List.map_cons,lk,List.mem_cons]
  by_cases h:t=x
  ·subst h;simp
  rw[if_neg h,ih]
  simp[h]
theorem NV (keep:List Nat)(s:St):Sub s (gc keep s):=by
 rintro G a w ⟨ρ,h⟩;refine⟨ρ,{hd:=h.hd,hn:=h.hn,env:=fun t=>?_,own:=h.own,inj:=h.inj,os:=h.os,tape:=h.tape,output:=h.output,size:=h.size,keep:=h.keep,wf:=h.wf,home:=h.home,room:=h.room}⟩;rw[O3]
 split
 ·exact h.env t
 trivial
theorem mv {T:fB}{P:Program}(hT:eH P T)(hm:P.follows .mixedOrders=true)(keep:Kp):∀(c:Code),codeOk keep c=true→∀(s:St) (Q:Exit→St→Prop),vc T P keep c s Q→∀(G:Ctx) (a:Act) (w:World),oL G s a w→
  c.wp P (fun e a w=>∃s',Q e s'∧oL G s' a w) a w:=by
 intro c
 induction c with
 |skip=>intro _ s Q h G a w hs;exact wp_skip ⟨s,h,hs⟩
 |region id ops draw=>
  intro RO s Q h G a w hs;refine wp_mono (tP hT hm RO h hs) ?_;rintro e a w ⟨rfl,s',h1,h2⟩;exact⟨_,h1,NV keep.ks s' G a w h2⟩
 |seq x y ihx ihy=>
  intro RO s Q h G a w hs;simp only[codeOk,Bool.and_eq_true]at RO;refine wp_seq (wp_mono (ihx RO.1 s _ h G a w hs) ?_);rintro e a w ⟨s',h1,h2⟩
  cases e with
  |normal=>exact ihy RO.2 s' Q h1 G a w h2
  |_=>exact⟨s',h1,h2⟩
 |cond c x y ihx ihy=>
  intro RO s Q h G a w hs;simp only[codeOk,Bool.and_eq_true]at RO;simp only[vc]at h
  split at h
  ·rename_i t ht
   have RA:a.eval c= .bool t:=by
    obtain⟨ρ,hr⟩:=hs
    have:=hr.ev c
    rw[ht]at this;exact this
   exact wp_cond_split RA (fun e=>ihx RO.1 s Q (h.1 e) G a w hs) (fun e=>ihy RO.2 s Q (h.2 e) G a w hs)
  exact h.elim
 |block id c ih=>
  intro RO s Q h G a w hs;refine wp_block (wp_mono (ih RO s _ h G a w hs) ?_);rintro e a w ⟨s',h1,h2⟩
  cases e with
  |exit id'=>
   simp only[Exit.inBlock];simp only at h1
   split
   ·rename_i he;rw[if_pos he]at h1;exact⟨s',h1,h2⟩
   rename_i he;rw[if_neg he]at h1;exact⟨s',h1,h2⟩
  |_=>exact⟨s',h1,h2⟩
 |loop c ih=>
  intro RO s Q h G a w hs;obtain⟨ι,I,m,x0,VW,hround⟩:=h;refine wp_loop_ghost (fun n a w=>∃x,m x=n∧oL G (I x) a w) (m x0) ⟨x0,rfl,VW G a w hs⟩ ?_;rintro n a w ⟨x,rfl,hx⟩;refine wp_mono (ih RO (I x) _ (hround x) G a w hx) ?_;rintro e a w ⟨s',h1,h2⟩
  cases e with
  |normal=>
   obtain⟨y,hy,Ru⟩:=h1;exact⟨m y,Ru,y,rfl,hy G a w h2⟩
  |_=>exact⟨s',h1,h2⟩
 |exit id=>intro _ s Q h G a w hs;exact wp_exit ⟨s,h,hs⟩
 |ret=>intro _ s Q h G a w hs;exact wp_ret ⟨s,h,hs⟩
 |_=>intro RO;simp[codeOk]at RO
end Go.Eng
namespace Go.Eng
open Go
def eO:Nat→List V→List (Nat×V)
 |_,[]=>[]
 |i,v::r=>(i,v)::eO (i+1) r
def iS (args:List V)(n:Nat):St:={env:=eO 0 args,own:=[],nx:=1,n:=n}
def fT (x y:V):Prop:=∀ok w v,bY bm bn ok w x v→bY bm bn ok w y v
theorem fT.refl (x:V):fT x x:=fun _ _ _ h=>h
theorem Ve {x y:V}(h:x=y):fT x y:=h▸fT.refl x
def Kf (E:Ty):Bool:=
 match E.k.agg with
 |some true=>true
 |some false=>E.size==1
 |none=>false
def G4 (
     T:fB) (s:St):ResultVar→Option V
 |.tmp t=>some (BQ s.own s.nx (lk s.env t))
 |.cell a t=>match T t with
  |some E=>match lk s.env a with
   |.one (.ptr b off)=>match lo s.own b with
    |some B=>match B.bk with
     |.var cs=>if off=0∧cs.length=E.size∧Kf E=true then some (BQ s.own s.nx (OR E.k cs))else none
     |_=>none
    |none=>none
   |_=>none
  |none=>none
def tH (T:fB)(s:St):List ResultVar→Option (List V)
 |[]=>some []
 |r::rs=>match G4 T s r,tH T s rs with
  |some v,some vs=>some (v::vs)
  |_,_=>none
def A8:List V→V
 |[v]=>v
 |vs=>.aF vs
def b7 {α:Type}(x:Option α)(K:α→Prop):Prop:=
 match x with
 |some a=>K a
 |none=>False
theorem oy {α:Type}(a:α)(K:α→Prop):b7 (some a) K=K a:=rfl
def JG (T:fB)(rs:List ResultVar)(R:V→Prop):Exit→St→Prop
 |.ret,s=>b7 (tH T s rs) fun vs=>R (A8 vs)
 |.normal,s=>b7 (tH T s rs) fun vs=>R (A8 vs)
 |_,_=>False
theorem Ka {E:Ty}(h:Kf E=true):E.k.agg=some true∨(E.k.agg=some false∧E.size=1):=by
 unfold Kf at h
 cases ha:E.k.agg with
 |none=>rw[ha]at h;cases h
 |some b=>cases b with
  |true=>exact .inl rfl
  |false=>rw[ha]at h;exact .inr ⟨rfl,by simpa using h⟩
def we (G:Ctx)(w:World)(g:Nat):Prop:=g<w.heap.size∧¬G.forb g
theorem Fi {G:Ctx}{dom:Nat→Prop}{ρ:Nat→Loc}{s:St}{a:Act}{w:World}(hs:aR G dom ρ s a w){ids:List Nat}{g:Nat}(h:cU G s.own ρ w ids g):we G w g:=by
 rcases h with h|⟨b,_,B,o,hl,ha⟩
 ·exact⟨h.1,h.2.1⟩
 have:=(hs.own b B hl).2.2.2 g o ha
 exact⟨this.1,this.2.1⟩
theorem zS {G:Ctx}{dom:Nat→Prop}{ρ:Nat→Loc}{s:St}{a:Act}{w:World}(hs:aR G dom ρ s a w){x:V}{v:Value}(h:bY ρ dom (aE G s.own ρ w) w x v):dJ bm bn (we G w) w (BQ s.own s.nx x) v:=by
 have o:Oper:=default;have h1:=nL hs (gp.refl s s.nx o) (kv x) x v (fun b hb _=>hb) h;exact dJ.ext (Ext.du fun g hg=>Fi hs hg) ⟨fun b hb=>hb.elim,fun b hb=>hb.elim⟩ _ _ h1
def CV (tmps:Array Value)(r:ResultVar):Sem Value:=
 match r with
 |.tmp t=>pure (tmps.getD t undef)
 |.cell a t=>do loadVar t (←asAddr (tmps.getD a undef))
theorem Hz {P:Program}{T:fB}(hT:eH P T){G:Ctx}{dom:Nat→Prop}{ρ:Nat→Loc}{s:St}{a:Act}{w:World}(hs:aR G dom ρ s a w){r:ResultVar}{x:V}(h:G4 T s r=some x):
  ∃v,(CV a.tmps r).run P w= .ok v w∧dJ bm bn (we G w) w x v:=by
 cases r with
 |tmp t=>
  simp only[G4,Option.some.injEq]at h;subst h;exact⟨_,rfl,zS hs (hs.env t)⟩
 |cell ad t=>
  simp only[G4]at h
  cases RL:T t with
  |none=>rw[RL]at h;cases h
  |some E=>
   rw[RL]at h;simp only at h;obtain⟨i,d,z,hi,hu,_,hk,Sx,_⟩:=bD hT RL
   split at h
   ·rename_i b off hx
    cases RS:lo s.own b with
    |none=>rw[RS]at h;cases h
    |some B=>
     rw[RS]at h;simp only at h
     split at h
     ·rename_i cs hB
      split at h
      ·rename_i hc
       obtain⟨rfl,hlen,hld0⟩:=hc;simp only[Option.some.injEq]at h;subst h;have RA:=hs.env ad;rw[hx]at RA;obtain⟨_,g,o',Rt,RI⟩:=RA;obtain⟨_,_,Rx,_⟩:=hs.own b B RS;unfold aL at Rx;rw[Rt]at Rx;obtain⟨cur,e,hg,RQ⟩:=Rx;rw[hB]at RQ;simp only at RQ;have WH:=Ka hld0;rw[hk]at WH;obtain⟨v,hv,hr⟩:=jS (P:=P) (t:=t) hi hu g (o'+0) cs (by omega) (by
        rcases WH with h|⟨h1,h2⟩
        ·exact .inl h
        ·exact .inr ⟨h1,by omega⟩) (fun j c hj=>by
        obtain⟨u,RP,hr⟩:=RQ j c (by simpa[Bk.cell]using hj);exact⟨u,by rw[cell_of_row w g _ cur e (0,0) hg];exact RP,hr⟩)
       rw[←hk]at hr;refine⟨v,?_,zS hs hr⟩;simp only[CV,Sem.run_bind];have VD:a.tmps.getD ad undef= .pointer (some ⟨g,o'+0,none⟩):=RI;rw[VD];exact hv
      cases h
     cases h
   cases h
theorem yz {P:Program}{T:fB}(hT:eH P T){G:Ctx}{dom:Nat→Prop}{ρ:Nat→Loc}{s:St}{a:Act}{w:World}(hs:aR G dom ρ s a w):∀(rs:List ResultVar) (xs:List V),tH T s rs=some xs→
  ∃vs,(rs.mapM (CV a.tmps)).run P w= .ok vs w∧a6 bm bn (we G w) w xs vs
 |[],xs,h=>by
  simp only[tH,Option.some.injEq]at h;subst h;exact⟨[],rfl,trivial⟩
 |r::rs,xs,h=>by
  simp only[tH]at h
  split at h
  ·rename_i x xs' hx UA
   simp only[Option.some.injEq]at h;subst h;obtain⟨v,hv,hr⟩:=Hz hT hs hx;obtain⟨vs,R1,SR⟩:=yz hT hs rs xs' UA;refine⟨v::vs,?_,hr,SR⟩;rw[List.mapM_cons];simp only[Sem.run_bind,hv,Result.andThen_ok,R1,Sem.run_pure]
  cases h
theorem nH:∀(args:List V) (i t:Nat),lk (eO i args) t=if i≤t∧t<i+args.length then args.getD (t-i) .unk else .unk
 |[],i,t=>by simp[eO,lk]
 |v::r,i,t=>by
  simp only[eO,lk,List.length_cons]
  by_cases h:t=i
  ·subst h;rw[if_pos rfl,if_pos (by omega)];simp
  rw[if_neg h,nH r (i+1) t]
  by_cases h2:i+1≤t∧t<i+1+r.length
  ·rw[if_pos h2,if_pos (by omega)];obtain⟨q,hq⟩:∃q,t=i+1+q:=⟨t-(i+1),by omega⟩;subst hq;rw[show i+1+q-(i+1)=q by omega,show i+1+q-i=q+1 by omega]
   simp
  rw[if_neg h2,if_neg (by omega)]
theorem a6.length {ρ:Nat→Loc}{dom ok:Nat→Prop}{w:World}:∀{xs:List V} {vs:List Value},a6 ρ dom ok w xs vs→xs.length=vs.length
 |[],[],_=>rfl
 |_::xs,_::vs,h=>by simp[a6.length h.2]
 |[],_::_,h=>h.elim
 |_::_,[],h=>h.elim
theorem pv {P:Program}{T:fB}(hT:eH P T)(hm:P.follows .mixedOrders=true){f:FuncId}{fn:Func}{c:Code}(hf:P.funcs[f]? =some fn)(hb:fn.body=some c)(hn:(fn.name== "runtime.NumGoroutine")=false)
  (args:List V) (Ry:args.length≤fn.ntmps) (keep:Kp) (RO:codeOk keep c=true) (r:V)
  (h:vc T P keep c (iS args fn.ntmps) (JG T fn.results.toList (fun x=>fT x r))):Pr P f args r:=by
 refine⟨⟨fn,hf,by rw[hb];rfl,hn⟩,fun ok w vs RW R1=>?_⟩;have hlen:=a6.length R1;simp only[Array.length_toList]at hlen
 let G:Ctx:={W0:=w,forb:=fun g=>g<w.heap.size∧¬ok g,mine:=fun _=>False}
 let a0:Act:={tmps:=vs++Array.replicate (fn.ntmps-vs.size) undef,defers:=[]}
 have Vd:∀g,ok g→aE G [] bm w g:=fun g hg=>⟨RW g hg,fun hf=>hf.2 hg,fun b B hl=>by cases hl⟩;have RC:oL G (iS args fn.ntmps) a0 w:=by
  refine⟨bm,{hd:=rfl,hn:=?_,env:=fun t=>?_,own:=fun b B hl=>(by cases hl),inj:=fun b B b' B' hl=>(by cases hl),os:=rfl,tape:=rfl,output:=rfl,size:=Nat.le_refl _,keep:=fun _ _ _=>rfl,wf:=fun k hk=>hk.1,home:=fun l hl=>(by cases hl),room:=fun _=>Nat.le_refl _}⟩
  ·simp[a0,iS];omega
  simp only[iS,nH]
  split
  ·rename_i ht
   simp only[Nat.sub_zero,Nat.zero_add]at ht⊢;have hx:args[t]? =some (args.getD t .unk):=by
    rw[X7,X8 ht.2];rfl
   obtain⟨v,hv,hr⟩:=a6.get R1 t _ hx;have YS:a0.tmps.getD t undef=v:=by
    rw[Array.getElem?_toList]at hv;have Ru:=(Array.getElem?_eq_some_iff.1 hv).1;simp only[a0,Array.getD_eq_getD_getElem?];rw[Array.getElem?_append_left Ru,hv];rfl
   rw[YS];exact bY.vV (dJ.ext (Ext.du Vd) ⟨fun b hb=>hb.elim,fun b hb=>hb.elim⟩ _ _ hr)
  trivial
 refine calls_of_wp hf hb (wp_mono (mv hT hm keep c RO _ _ h G a0 w RC) ?_);rintro e a w' ⟨s',hq,ρ,hs⟩;have fin:b7 (tH T s' fn.results.toList) (fun vs=>fT (A8 vs) r)→a.defers=[]∧∃v,(results fn a.tmps).run P w'= .ok v w'∧∃u,Ending.returned v= .returned u∧Go.RowKit.Below w.heap.size w w'∧bY bm bn (fun g=>ok g∨(w.heap.size≤g∧g<w'.heap.size)) w' r u:=by
  intro hq;unfold b7 at hq
  split at hq
  ·rename_i xs UA
   obtain⟨us,TY,Rx⟩:=yz hT hs _ _ UA;refine⟨hs.hd,?_⟩;have Vb:∀g,we G w' g→ok g∨(w.heap.size≤g∧g<w'.heap.size):=fun g hg=>by
    by_cases Xu:g<w.heap.size
    ·by_cases TC:ok g
     ·exact .inl TC
     exact absurd ⟨Xu,TC⟩ hg.2
    exact .inr ⟨by omega,hg.1⟩
   have SU:Go.RowKit.Below w.heap.size w w':=⟨hs.os,hs.tape,hs.output,hs.size,fun k hk=>hs.keep k hk (fun hf=>hf)⟩;have Xd:(fn.results.mapM fun
     |.tmp t=>pure (a.tmps.getD t undef)
     |.cell ad t=>do loadVar t (←asAddr (a.tmps.getD ad undef)):Sem (Array Value)).run P w'= .ok us.toArray w':=by
    have e:(fun r:ResultVar=>(match r with
     |.tmp t=>pure (a.tmps.getD t undef)
     |.cell ad t=>do loadVar t (←asAddr (a.tmps.getD ad undef)):Sem Value))=CV a.tmps:=by
     funext r;cases r<;>rfl
    have e2:=congrArg (fun g=>(fn.results.mapM g).run P w') e;refine e2.trans ?_;rw[Array.mapM_eq_mapM_toList,Sem.run_map,TY];rfl
   have SM:(results fn a.tmps).run P w'= .ok (if h:us.toArray.size=1 then us.toArray[0]else .tuple us.toArray) w':=by
    unfold results;rw[Sem.run_bind];refine Eq.trans (congrArg (fun x=>Result.andThen x _) Xd) ?_;rfl
   refine⟨_,SM,_,rfl,SU,?_⟩;have RD:bY bm bn (fun g=>ok g∨(w.heap.size≤g∧g<w'.heap.size)) w' (A8 xs) (if h:us.toArray.size=1 then us.toArray[0]else .tuple us.toArray):=by
    have hx:Ext (we G w') (fun g=>ok g∨(w.heap.size≤g∧g<w'.heap.size)) w' w':=Ext.du Vb;have SA:ig bn bn bm bm:=⟨fun _ h=>h,fun _ _=>rfl⟩;have Rv:=a6.length Rx
    match xs,us,Rx,Rv with
    |[x],[u],Rx,_=>
     rw[dif_pos (by simp)];exact bY.vV (dJ.ext hx SA _ _ Rx.1)
    |[],[],_,_=>
     rw[dif_neg (by simp)];exact⟨#[],rfl,trivial⟩
    |x::y::xs,u::v::us,Rx,_=>
     rw[dif_neg (by simp)];exact⟨_,rfl,a6.ext hx SA _ _ (by simpa using Rx)⟩
   exact hq _ _ _ RD
  exact hq.elim
 cases e with
 |normal=>exact fin hq
 |ret=>exact fin hq
 |_=>exact hq.elim
end Go.Eng
namespace Go.Eng
open Go
def rV:List (Nat×Option Nat)→Nat→Option Nat
 |[],b=>some b
 |(b',x)::r,b=>if b=b' then x else rV r b
def PF:C→Bool
 |.elt _ _ _ _=>true
 |_=>false
def Y2 (rn:List (Nat×Option Nat))(nx:Nat)(c:C)(c':C):Prop:=
 match c' with
 |.any=>True
 |.own b' w' o' l'=>b'<nx∧match c with
  |.own b w o l=>rV rn b'=some b∧w=w'∧o=o'∧l=l'
  |.nil=>rV rn b'=none∧o'=0∧l'=0
  |.win b _ o l=>rV rn b'=some b∧w'=1∧o=o'∧l=l'
  |_=>False
 |.win b' YT o' l'=>b'<nx∧YT<nx∧match c with
  |.own b w o l=>rV rn b'=some b∧w=1∧o=o'∧l=l'
  |.win b _ o l=>rV rn b'=some b∧o=o'∧l=l'
  |_=>False
 |.ptr b' o'=>b'<nx∧match c with
  |.ptr b o=>rV rn b'=some b∧o=o'
  |_=>False
 |.int k' n'=>match c with
  |.int k n=>k=k'∧n=n'
  |_=>False
 |.bool b'=>match c with
  |.bool b=>b=b'
  |_=>False
 |.str s'=>match c with
  |.str s=>s=s'
  |_=>False
 |.nil=>match c with
  |.nil=>True
  |_=>False
 |.ints k' xs'=>match c with
  |.ints k xs=>k=k'∧xs=xs'
  |.nil=>xs'=[]
  |_=>False
 |.rows w' n' f'=>match c with
  |.rows w n f=>w=w'∧n=n'∧∀i j,i<n→j<w→f i j=f' i j
  |.nil=>n'=0
  |_=>False
 |.fn f' n' caps'=>match c with
  |.fn f n caps=>f=f'∧((n=0∧n'=0)∨(n=1∧n'=1∧PF (caps 0)=true∧caps 0=caps' 0))
  |_=>False
 |.elt s' w' i' o'=>match c with
  |.elt s w i o=>s=s'∧w=w'∧i=i'∧o=o'
  |_=>False
 |_=>False
def Y3 (rn:List (Nat×Option Nat))(nx:Nat):List C→List C→Prop
 |[],[]=>True
 |c::cs,c'::cs'=>Y2 rn nx c c'∧Y3 rn nx cs cs'
 |_,_=>False
def Y1 (rn:List (Nat×Option Nat))(nx:Nat)(x x':V):Prop:=
 match x' with
 |.unk=>True
 |.one c'=>match x with
  |.one c=>Y2 rn nx c c'
  |_=>False
 |.agg cs'=>match x with
  |.agg cs=>Y3 rn nx cs cs'
  |_=>False
 |.aF _=>False
def D6:C→Bool
 |.nil=>true
 |.ints _ _=>true
 |.rows _ _ _=>true
 |_=>false
theorem s6 {ρ:Nat→Loc}{dom ok:Nat→Prop}{w:World}{c:C}{v:Value}(hc:D6 c=true)(h:aA ρ dom ok w c v):aO ok w c v:=by
 cases c<;>simp [D6]at hc<;>exact h
def Y5 (rn:List (Nat×Option Nat))(nx:Nat)(B B':Bk):Prop:=
 match B' with
 |.var cs'=>match B with
  |.var cs=>Y3 rn nx cs cs'
  |_=>False
 |.ints _ k' xs'=>match B with
  |.ints _ k xs=>k=k'∧xs=xs'
  |_=>False
 |.rows _ w' n' f'=>match B with
  |.rows _ w n f=>w=w'∧n=n'∧∀i j,i<n→j<w→f i j=f' i j
  |.wins _ _ n g=>w'=1∧n=n'∧∀i,i<n→D6 (g i)=true∧g i=f' i 0
  |_=>False
 |.wins _ _ n' g'=>match B with
  |.wins _ _ n g=>n=n'∧∀i,i<n→Y2 rn nx (g i) (g' i)
  |.rows _ w n f=>w=1∧n=n'∧∀i,i<n→Y2 rn nx (f i 0) (g' i)
  |_=>False
def Y7:Bk→Prop
 |.var _=>False
 |.ints _ _ xs=>xs=[]
 |.rows _ _ n _=>n=0
 |.wins _ _ n _=>n=0
def Y0 (rn:List (Nat×Option Nat))(nx:Nat)(env:List (Nat×V)):List (Nat×V)→Prop
 |[]=>True
 |(t,x')::r=>Y1 rn nx (lk env t) x'∧Y0 rn nx env r
def Y4 (rn:List (Nat×Option Nat))(nx:Nat)(own:List (Nat×fA)):List (Nat×fA)→Prop
 |[]=>True
 |(b',B')::r=>(b'<nx∧match rV rn b' with
  |none=>Y7 B'.bk
  |some b=>match lo own b with
   |some B=>(B'.rw=true→B.rw=true)∧Y5 rn nx B.bk B'.bk
   |none=>False)∧Y4 rn nx own r
def Y6 (rn:List (Nat×Option Nat)):List (Nat×fA)→Prop
 |[]=>True
 |(b',_)::r=>(∀p∈r,p.1=b'∨rV rn p.1=none∨rV rn p.1≠rV rn b')∧Y6 rn r
section
variable {rn:List (Nat×Option Nat)}{nx:Nat}{ρ ρ':Nat→Loc}{dom ok ok':Nat→Prop}{w:World}
def bT (rn:List (Nat×Option Nat))(ρ:Nat→Loc)(b':Nat):Loc:=
 match rV rn b' with
 |some b=>ρ b
 |none=>⟨none,0⟩
theorem zC {wd n:Nat}{f f':Nat→Nat→C}{v:Value}(h:∀i j,i<n→j<wd→f i j=f' i j)(hr:aO ok w (.rows wd n f) v):aO ok w (.rows wd n f') v:=by
 obtain⟨a,cap,hv,hc,hr⟩:=hr;refine⟨a,cap,hv,hc,?_⟩
 rcases hr with hr|⟨g,o,ha,hg,R2⟩
 ·exact .inl hr
 refine .inr ⟨g,o,ha,hg,fun i j hi hj=>?_⟩;rw[←h i j hi hj];exact R2 i j hi hj
theorem jy (hx:Ext ok ok' w w){c c':C}{v:Value}(h:Y2 rn nx c c')(hr:aA ρ dom ok w c v):aA (bT rn ρ) (fun b=>b<nx) ok' w c' v:=by
 cases c' with
 |any=>exact(aA.plain hr).1
 |own b' w' o' l'=>
  obtain⟨hb,h⟩:=h
  cases c with
  |own b wd o l=>
   obtain⟨h1,rfl,rfl,rfl⟩:=h;obtain⟨_,h2,cap,h3,h4⟩:=hr;have e:bT rn ρ b'=ρ b:=by unfold bT;rw[h1]
   exact⟨hb,by rw[e];exact h2,cap,h3,by rw[e];exact h4⟩
  |nil=>
   obtain⟨h1,rfl,rfl⟩:=h;have e:bT rn ρ b'=⟨none,0⟩:=by unfold bT;rw[h1]
   exact⟨hb,by rw[e];simp,0,Nat.le_refl _,.inr ⟨by rw[e],hr,rfl,rfl⟩⟩
  |win b b2 o l=>
   obtain⟨h1,rfl,rfl,rfl⟩:=h;obtain⟨_,_,h2,cap,h3,h4⟩:=hr;have e:bT rn ρ b'=ρ b:=by unfold bT;rw[h1]
   exact⟨hb,by rw[e];exact h2,cap,h3,by rw[e];exact h4⟩
  |_=>exact h.elim
 |win b' YT o' l'=>
  obtain⟨hb,Sc,h⟩:=h
  cases c with
  |own b wd o l=>
   obtain⟨h1,rfl,rfl,rfl⟩:=h;obtain⟨_,h2,cap,h3,h4⟩:=hr;have e:bT rn ρ b'=ρ b:=by unfold bT;rw[h1]
   exact⟨Sc,hb,by rw[e];exact h2,cap,h3,by rw[e];exact h4⟩
  |win b b2 o l=>
   obtain⟨h1,rfl,rfl⟩:=h;obtain⟨_,_,h2,cap,h3,h4⟩:=hr;have e:bT rn ρ b'=ρ b:=by unfold bT;rw[h1]
   exact⟨Sc,hb,by rw[e];exact h2,cap,h3,by rw[e];exact h4⟩
  |_=>exact h.elim
 |ptr b' o'=>
  obtain⟨hb,h⟩:=h
  cases c with
  |ptr b o=>
   obtain⟨h1,rfl⟩:=h;obtain⟨_,g,o1,h2,h3⟩:=hr;have e:bT rn ρ b'=ρ b:=by unfold bT;rw[h1]
   exact⟨hb,g,o1,by rw[e];exact h2,h3⟩
  |_=>exact h.elim
 |int k' n'=>
  cases c with
  |int k n=>obtain⟨rfl,rfl⟩:=h;exact hr
  |_=>exact h.elim
 |bool b'=>
  cases c with
  |bool b=>cases h;exact hr
  |_=>exact h.elim
 |str s'=>
  cases c with
  |str s=>cases h;exact hr
  |_=>exact h.elim
 |nil=>
  cases c with
  |nil=>exact hr
  |_=>exact h.elim
 |ints k' xs'=>
  cases c with
  |ints k xs=>obtain⟨rfl,rfl⟩:=h;exact aO.ext hx (.ints k xs) v hr
  |nil=>cases h;exact⟨none,0,hr,Nat.le_refl _,.inl rfl⟩
  |_=>exact h.elim
 |rows w' n' f'=>
  cases c with
  |rows wd n f=>
   obtain⟨rfl,rfl,hf⟩:=h;exact aO.ext hx (.rows wd n f') v (zC hf hr)
  |nil=>cases h;exact⟨none,0,hr,Nat.le_refl _,.inl rfl⟩
  |_=>exact h.elim
 |fn f' n' caps'=>
  cases c with
  |fn f n caps=>
   obtain⟨rfl,⟨rfl,rfl⟩|⟨rfl,rfl,h1,h2⟩⟩:=h
   ·obtain⟨cs,hv,hn,_⟩:=hr;exact⟨cs,hv,hn,fun i hi=>absurd hi (Nat.not_lt_zero _)⟩
   obtain⟨cs,hv,hn,hc⟩:=hr;refine⟨cs,hv,hn,fun i hi=>?_⟩;obtain rfl:i=0:=by omega
   have h3:=hc 0 hi;rw[←h2]
   cases UZ:caps 0 with
   |elt s w i o=>rw[UZ]at h3;exact aO.ext hx (.elt s w i o) _ h3
   |_=>rw[UZ]at h1;cases h1
  |_=>exact h.elim
 |elt s' w' i' o'=>
  cases c with
  |elt s w i o=>obtain⟨rfl,rfl,rfl,rfl⟩:=h;exact aO.ext hx (.elt s w i o) v hr
  |_=>exact h.elim
 |eptr b wd i off=>exact h.elim
theorem tz (hx:Ext ok ok' w w):∀{cs cs':List C} {vs:List Value},Y3 rn nx cs cs'→bI ρ dom ok w cs vs→bI (bT rn ρ) (fun b=>b<nx) ok' w cs' vs
 |[],[],[],_,_=>trivial
 |c::cs,c'::cs',v::vs,h,hr=>⟨jy hx h.1 hr.1,tz hx h.2 hr.2⟩
 |[],_::_,_,h,_=>h.elim
 |_::_,[],_,h,_=>h.elim
 |[],[],_::_,_,hr=>hr.elim
 |_::_,_::_,[],_,hr=>hr.elim
theorem sR (hx:Ext ok ok' w w){x x':V}{v:Value}(h:Y1 rn nx x x')(hr:bY ρ dom ok w x v):bY (bT rn ρ) (fun b=>b<nx) ok' w x' v:=by
 cases x' with
 |unk=>trivial
 |one c'=>
  cases x with
  |one c=>exact jy hx h hr
  |_=>exact h.elim
 |agg cs'=>
  cases x with
  |agg cs=>obtain⟨vs,hv,hl⟩:=hr;exact⟨vs,hv,tz hx h hl⟩
  |_=>exact h.elim
 |aF xs=>exact h.elim
theorem sI:∀{cs cs':List C},Y3 rn nx cs cs'→∀(j:Nat) c',cs'[j]? =some c'→∃c,cs[j]? =some c∧Y2 rn nx c c'
 |[],[],_,j,c',hj=>by simp at hj
 |c::cs,c0::cs',h,0,c',hj=>by simp at hj;subst hj;exact⟨c,rfl,h.1⟩
 |c::cs,c0::cs',h,j+1,c',hj=>by simpa using sI h.2 j c' (by simpa using hj)
 |[],_::_,h,_,_,_=>h.elim
 |_::_,[],h,_,_,_=>h.elim
theorem zZ {B B':Bk}(h:Y5 rn nx B B'):B'.len=B.len:=by
 cases B' with
 |var cs'=>cases B<;>first|rfl|exact h.elim
 |ints e' k' xs'=>
  cases B with
  |ints e k xs=>obtain⟨_,rfl⟩:=h;rfl
  |_=>exact h.elim
 |rows e' w' n' f'=>
  cases B with
  |rows e wd n f=>obtain⟨_,rfl,_⟩:=h;rfl
  |wins e b2 n g=>obtain⟨_,rfl,_⟩:=h;rfl
  |_=>exact h.elim
 |wins e' YT n' g'=>
  cases B with
  |rows e wd n f=>obtain⟨_,rfl,_⟩:=h;rfl
  |wins e b2 n g=>obtain⟨rfl,_⟩:=h;rfl
  |_=>exact h.elim
theorem tK (hx:Ext ok ok' w w){B B':Bk}{l:Loc}(h:Y5 rn nx B B')(hr:aL ρ dom ok w l B):aL (bT rn ρ) (fun b=>b<nx) ok' w l B':=by
 unfold aL at*
 cases ha:l.addr with
 |none=>
  rw[ha]at hr;simp only at hr⊢;intro j
  cases B' with
  |var cs'=>
   cases B with
   |var cs=>
    cases hj:(Bk.var cs').cell j with
    |none=>rfl
    |some c'=>
     obtain⟨c,hc,_⟩:=sI h j c' hj
     have:=hr j
     simp only[Bk.cell]at this;rw[hc]at this;cases this
   |_=>exact h.elim
  |ints e' k' xs'=>
   cases B with
   |ints e k xs=>obtain⟨rfl,rfl⟩:=h;exact hr j
   |_=>exact h.elim
  |rows e' w' n' f'=>
   cases B with
   |rows e wd n f=>
    obtain⟨rfl,rfl,_⟩:=h
    have:=hr j
    simp only[Bk.cell]at this⊢
    split
    ·rename_i Ru;rw[if_pos Ru]at this;cases this
    rfl
   |wins e b2 n g=>
    obtain⟨rfl,rfl,_⟩:=h
    have:=hr j
    simp only[Bk.cell,Nat.mul_one]at this⊢
    split
    ·rename_i Ru;rw[if_pos Ru]at this;cases this
    rfl
   |_=>exact h.elim
  |wins e' YT n' g'=>
   cases B with
   |rows e wd n f=>
    obtain⟨rfl,rfl,_⟩:=h
    have:=hr j
    simp only[Bk.cell,Nat.mul_one]at this⊢
    split
    ·rename_i Ru;rw[if_pos Ru]at this;cases this
    rfl
   |wins e b2 n g=>
    obtain⟨rfl,_⟩:=h
    have:=hr j
    simp only[Bk.cell]at this⊢
    split
    ·rename_i Ru;rw[if_pos Ru]at this;cases this
    rfl
   |_=>exact h.elim
 |some p=>
  obtain⟨g,o⟩:=p;rw[ha]at hr;simp only at hr⊢;obtain⟨cur,e,hg,hc⟩:=hr;refine⟨cur,e,hg,fun j c' hj=>?_⟩
  cases B' with
  |var cs'=>
   cases B with
   |var cs=>
    obtain⟨c,hcj,Yx⟩:=sI h j c' hj;obtain⟨u,hu,hr⟩:=hc j c hcj;exact⟨u,hu,jy hx Yx hr⟩
   |_=>exact h.elim
  |ints e' k' xs'=>
   cases B with
   |ints e k xs=>
    obtain⟨rfl,rfl⟩:=h;obtain⟨u,hu,hr⟩:=hc j c' hj;exact⟨u,hu,aO.ext hx _ _ hr⟩
   |_=>exact h.elim
  |rows e' w' n' f'=>
   cases B with
   |rows e wd n f=>
    obtain⟨rfl,rfl,hf⟩:=h;simp only[Bk.cell]at hj
    split at hj
    ·rename_i Ru
     simp only[Option.some.injEq]at hj
     have To:0<wd:=by rcases Nat.eq_zero_or_pos wd with h0|h0;(subst h0;simp at Ru);exact h0
     have h1:j/wd<n:=by rw[Nat.div_lt_iff_lt_mul To];exact Ru
     obtain⟨u,hu,hr⟩:=hc j (f (j/wd) (j%wd)) (by simp only[Bk.cell,if_pos Ru]);rw[hf _ _ h1 (Nat.mod_lt _ To),hj]at hr;exact⟨u,hu,aO.ext hx _ _ hr⟩
    cases hj
   |wins e b2 n g=>
    obtain⟨rfl,rfl,hf⟩:=h;simp only[Bk.cell,Nat.mul_one,Nat.div_one,Nat.mod_one]at hj
    split at hj
    ·rename_i Ru
     simp only[Option.some.injEq]at hj;obtain⟨u,hu,hr⟩:=hc j (g j) (by simp only[Bk.cell,if_pos Ru]);obtain⟨f1,f2⟩:=hf j Ru;have hr:=s6 f1 hr;rw[f2,hj]at hr;exact⟨u,hu,aO.ext hx _ _ hr⟩
    cases hj
   |_=>exact h.elim
  |wins e' YT n' g'=>
   cases B with
   |rows e wd n f=>
    obtain⟨rfl,rfl,hf⟩:=h;simp only[Bk.cell]at hj
    split at hj
    ·rename_i Ru
     simp only[Option.some.injEq]at hj;obtain⟨u,hu,hr⟩:=hc j (f j 0) (by simp only[Bk.cell,Nat.mul_one,if_pos Ru,Nat.div_one,Nat.mod_one])
     have:=jy (ρ:=ρ) (dom:=dom) hx (hf j Ru) (aA.bh hr)
     rw[hj]at this;exact⟨u,hu,this⟩
    cases hj
   |wins e b2 n g=>
    obtain⟨rfl,hf⟩:=h;simp only[Bk.cell]at hj
    split at hj
    ·rename_i Ru
     simp only[Option.some.injEq]at hj;obtain⟨u,hu,hr⟩:=hc j (g j) (by simp only[Bk.cell,if_pos Ru])
     have:=jy hx (hf j Ru) hr
     rw[hj]at this;exact⟨u,hu,this⟩
    cases hj
   |_=>exact h.elim
theorem AI {env env':List (Nat×V)}(h:Y0 rn nx env env')(t:Nat):Y1 rn nx (lk env t) (lk env' t):=by
 induction env' with
 |nil=>trivial
 |cons p r ih=>
  obtain⟨t',x'⟩:=p;simp only[lk]
  split
  ·rename_i he;subst he;exact h.1
  exact ih h.2
theorem kY {own own':List (Nat×fA)}(h:Y4 rn nx own own'){b':Nat}{B':fA}(hl:lo own' b'=some B'):b'<nx∧((rV rn b'=none∧Y7 B'.bk)∨∃b B,rV rn b'=some b∧lo own b=some B∧(B'.rw=true→B.rw=true)∧Y5 rn nx B.bk B'.bk):=by
 induction own' with
 |nil=>cases hl
 |cons p r ih=>
  obtain⟨c,v⟩:=p;simp only[lo]at hl
  split at hl
  ·rename_i he
   subst he;obtain rfl:=Option.some.inj hl;obtain⟨h1,h2⟩:=h.1;refine⟨h1,?_⟩
   split at h2
   ·rename_i hr;exact .inl ⟨hr,h2⟩
   rename_i b hr
   split at h2
   ·rename_i B hB;exact .inr ⟨b,B,hr,hB,h2⟩
   exact h2.elim
  exact ih h.2 hl
theorem Gq {own:List (Nat×fA)}{b:Nat}{B:fA}(h:lo own b=some B):∃p∈own,p.1=b:=by
 induction own with
 |nil=>cases h
 |cons p r ih=>
  obtain⟨c,v⟩:=p;simp only[lo]at h
  split at h
  ·rename_i he;exact⟨(c,v),by simp,he.symm⟩
  obtain⟨q,hq,he⟩:=ih h;exact⟨q,by simp[hq],he⟩
theorem EL {own:List (Nat×fA)}(h:Y6 rn own){b1 b2:Nat}(h1:∃p∈own,p.1=b1)(h2:∃p∈own,p.1=b2)(RE:b1≠b2)(hr:rV rn b1=rV rn b2):rV rn b1=none:=by
 induction own with
 |nil=>obtain⟨p,hp,_⟩:=h1;simp at hp
 |cons q r ih=>
  obtain⟨p1,TK,rfl⟩:=h1;obtain⟨p2,Tp,rfl⟩:=h2
  rcases List.mem_cons.1 TK with e1|ZR
  ·rcases List.mem_cons.1 Tp with e2|Yc
   ·exact absurd (by rw[e1,e2]) RE
   rcases h.1 p2 Yc with h3|h3|h3
   ·exact absurd (by rw[h3,e1]) RE
   ·rw[hr];exact h3
   exact absurd (by rw[←hr,e1]) h3
  rcases List.mem_cons.1 Tp with e2|Yc
  ·rcases h.1 p1 ZR with h3|h3|h3
   ·exact absurd (by rw[h3,e2]) RE
   ·exact h3
   exact absurd (by rw[hr,e2]) h3
  exact ih h.2 ⟨p1,ZR,rfl⟩ ⟨p2,Yc,rfl⟩
end
theorem Sub.of (rn:List (Nat×Option Nat)){s s':St}(hz:rV rn 0=some 0∧0<s'.nx)(hn:s.n=s'.n)(he:Y0 rn s'.nx s.env s'.env)(ho:Y4 rn s'.nx s.own s'.own)(ha:Y6 rn s'.own):Sub s s':=by
 rintro G a w ⟨ρ,h⟩;have W8:∀b1 B1 b2 B2,lo s'.own b1=some B1→lo s'.own b2=some B2→b1≠b2→∀c,rV rn b1=some c→rV rn b2≠some c:=by
  intro b1 B1 b2 B2 h1 h2 RE c hc Vf
  have:=EL ha (Gq h1) (Gq h2) RE (hc.trans Vf.symm)
  rw[hc]at this;cases this
 have RW:∀g,aE G s.own ρ w g→aE G s'.own (bT rn ρ) w g:=fun g hg=>⟨hg.1,hg.2.1,fun b' B' hl RN o SV=>by
  obtain⟨_,hc⟩:=kY ho hl
  rcases hc with⟨hr,_⟩|⟨b,B,hr,RS,YU,_⟩
  ·unfold bT at SV;rw[hr]at SV;cases SV
  unfold bT at SV;rw[hr]at SV;exact hg.2.2 b B RS (YU RN) o SV⟩
 have hx:Ext (aE G s.own ρ w) (aE G s'.own (bT rn ρ) w) w w:=Ext.du RW;refine⟨bT rn ρ,{hd:=h.hd,hn:=h.hn.trans hn,env:=fun t=>sR hx (AI he t) (h.env t),own:=fun b' B' hl=>?_,inj:=fun b1 B1 b2 B2 h1 h2 RE RN g o o' SV=>?_,os:=h.os,tape:=h.tape,output:=h.output,size:=h.size,keep:=h.keep,wf:=h.wf,home:=fun l hl=>⟨hz.2,by unfold bT;rw[hz.1];exact(h.home l hl).2⟩,room:=h.room}⟩
 ·obtain⟨Ru,hc⟩:=kY ho hl
  rcases hc with⟨hr,S6⟩|⟨b,B,hr,RS,YU,hbr⟩
  ·have e:bT rn ρ b'=⟨none,0⟩:=by unfold bT;rw[hr]
   rw[e];refine⟨Ru,?_,?_,fun g o SV=>by cases SV⟩
   ·cases hB:B'.bk with
    |var cs=>rw[hB]at S6;exact S6.elim
    |ints e k xs=>rw[hB]at S6;have S6:xs=[]:=S6;subst S6;rfl
    |rows e wd n f=>rw[hB]at S6;have S6:n=0:=S6;subst S6;rfl
    |wins e b2 n g=>rw[hB]at S6;have S6:n=0:=S6;subst S6;rfl
   unfold aL;intro j
   cases hB:B'.bk with
   |var cs=>rw[hB]at S6;exact S6.elim
   |ints e k xs=>rw[hB]at S6;have S6:xs=[]:=S6;subst S6;simp[Bk.cell]
   |rows e wd n f=>rw[hB]at S6;have S6:n=0:=S6;subst S6;simp[Bk.cell]
   |wins e b2 n g=>rw[hB]at S6;have S6:n=0:=S6;subst S6;simp[Bk.cell]
  have e:bT rn ρ b'=ρ b:=by unfold bT;rw[hr]
  obtain⟨_,h2,h3,h4⟩:=h.own b B RS;rw[e];exact⟨Ru,by rw[h2,zZ hbr],tK hx hbr h3,h4⟩
 obtain⟨_,UJ⟩:=kY ho h1;obtain⟨_,Vf⟩:=kY ho h2
 rcases UJ with⟨T7,_⟩|⟨c1,D1,T7,SW,Xn,_⟩
 ·unfold bT at SV;rw[T7]at SV;cases SV
 rcases Vf with⟨U8,_⟩|⟨c2,D2,U8,Rv,_,_⟩
 ·unfold bT;rw[U8];simp
 unfold bT at SV⊢;rw[T7]at SV;rw[U8];refine h.inj c1 D1 c2 D2 SW Rv (fun e=>?_) (Xn RN) g o o' SV;subst e;exact W8 b1 B1 b2 B2 h1 h2 RE c1 T7 U8
theorem Sub.trans {s1 s2 s3:St}(h:Sub s1 s2)(k:Sub s2 s3):Sub s1 s3:=fun G a w hs=>k G a w (h G a w hs)
def tQ (b3:Nat)(B:Bk):C→C
 |.own b w o l=>if b=b3 then gg B w o l else .own b w o l
 |.any=>.any
 |.bool b=>.bool b
 |.int k n=>.int k n
 |.str s=>.str s
 |.nil=>.nil
 |.ints k xs=>.ints k xs
 |.rows w n f=>.rows w n f
 |.win b b2 o l=>.win b b2 o l
 |.ptr b o=>.ptr b o
 |.elt c w i o=>.elt c w i o
 |.eptr b w i o=>.eptr b w i o
 |.fn f n caps=>.fn f n caps
theorem Sub.tQ {
         s:St} (b b3:Nat) {e:TypeId} {b2 n:Nat} {g:Nat→C} {r:Bool} {B3:fA} (hl:lo s.own b=some ⟨.wins e b2 n g,r⟩) (R7:lo s.own b3=some B3) (RE:b≠b3):
  Sub s {s with own:=dZ (dF s.own [b3]) b ⟨.wins e b2 n (fun i=>Eng.tQ b3 B3.bk (g i)),r⟩}:=by
 rintro G a w ⟨ρ,h⟩;have h2:=h.dF [b3];have hlb:lo (dF s.own [b3]) b=some ⟨.wins e b2 n g,r⟩:=by
  rw[fy,hl]
  simp[RE]
 have Xv:lo (dF s.own [b3]) b3=some ⟨B3.bk,false⟩:=by
  rw[fy,R7]
  simp
 have Vl:∀c C,lo (dZ (dF s.own [b3]) b ⟨.wins e b2 n (fun i=>Eng.tQ b3 B3.bk (g i)),r⟩) c=some C→∃C',lo (dF s.own [b3]) c=some C'∧C'.rw=C.rw∧(c=b∨(c≠b∧C'=C)):=by
  intro c C hc;rw[bX]at hc
  by_cases e1:c=b
  ·subst e1;rw[if_pos rfl]at hc;obtain rfl:=Option.some.inj hc;exact⟨_,hlb,rfl,.inl rfl⟩
  rw[if_neg e1]at hc;exact⟨C,hc,rfl,.inr ⟨e1,rfl⟩⟩
 have RW:∀g',aE G (dF s.own [b3]) ρ w g'→aE G (dZ (dF s.own [b3]) b ⟨.wins e b2 n (fun i=>Eng.tQ b3 B3.bk (g i)),r⟩) ρ w g':=fun g' hg=>⟨hg.1,hg.2.1,fun c C hc RN o=>by
  obtain⟨C',h1,h3,_⟩:=Vl c C hc;exact hg.2.2 c C' h1 (h3.trans RN) o⟩
 have RF:Ext (aE G (dF s.own [b3]) ρ w) (aE G (dZ (dF s.own [b3]) b ⟨.wins e b2 n (fun i=>Eng.tQ b3 B3.bk (g i)),r⟩) ρ w) w w:=Ext.du RW;have hs:ig (fun b=>b<s.nx) (fun b=>b<s.nx) ρ ρ:=⟨fun _ h=>h,fun _ _=>rfl⟩;refine⟨ρ,h2.rR RF hs (fun c C hc=>?_) (fun c C c' C' hc YV hn RN=>?_) rfl rfl rfl (Nat.le_refl _) fun _ _ _=>rfl⟩
 ·obtain⟨C',h1,h3,h4⟩:=Vl c C hc;obtain⟨k1,k2,k3,k4⟩:=h2.own c C' h1
  rcases h4 with rfl|⟨e1,rfl⟩
  ·rw[hlb]at h1;obtain rfl:=Option.some.inj h1;rw[bX,if_pos rfl]at hc;obtain rfl:=Option.some.inj hc;refine⟨k1,k2,?_,k4⟩;unfold aL at k3⊢
   cases ha:(ρ c).addr with
   |none=>
    rw[ha]at k3;intro j
    have:=k3 j
    simp only[Bk.cell]at this⊢
    split at this
    ·cases this
    rename_i hj;rw[if_neg hj]
   |some x=>
    obtain⟨g1,o1⟩:=x;rw[ha]at k3;obtain⟨cur,e4,hg4,Ww⟩:=k3;refine⟨cur,e4,hg4,fun j cc hj=>?_⟩;simp only[Bk.cell]at hj Ww
    split at hj
    ·rename_i R4
     obtain⟨u,Wh,SD⟩:=Ww j (g j) (if_pos R4);obtain rfl:=Option.some.inj hj;refine⟨u,Wh,?_⟩;have keep:aA ρ (fun b=>b<s.nx) (aE G (dZ (dF s.own [b3]) c ⟨.wins e b2 n (fun i=>Eng.tQ b3 B3.bk (g i)),r⟩) ρ w) w (g j) u:=aA.ext RF hs _ _ SD;show aA _ _ _ w (Eng.tQ b3 B3.bk (g j)) u
     generalize g j=cj at SD keep
     cases cj with
     |own b' wd o l=>
      simp only[Eng.tQ]
      by_cases hb:b'=b3
      ·rw[if_pos hb];subst hb;obtain⟨m1,m2,m3,m4⟩:=h2.own b' _ Xv;obtain⟨_,hle,cap,RY,hv⟩:=SD;refine aA.bh ?_
       rcases hv with⟨g5,o5,o6,Rt,rfl,RX,_⟩|⟨Rt,rfl,Tl,SI⟩
       ·have hokg:aE G (dZ (dF s.own [b']) c ⟨.wins e b2 n (fun i=>Eng.tQ b' B3.bk (g i)),r⟩) ρ w g5:=by
         refine⟨(m4 g5 o5 Rt).1,(m4 g5 o5 Rt).2.1,fun c2 C2 Vf Xw o7 he=>?_⟩;obtain⟨C3,h5,h6,_⟩:=Vl c2 C2 Vf;have hne2:c2≠b':=fun e=>by
          subst e;rw[Xv]at h5;obtain rfl:=Option.some.inj h5;rw[←h6]at Xw;cases Xw
         exact h2.inj c2 C3 b' _ h5 Xv hne2 (h6.trans Xw) g5 o7 o5 he Rt
        exact lP (ρ:=ρ) (dom:=fun b=>b<s.nx) Rt (aL.ext RF hs _ _ (fun _ _ _=>rfl) m3) hokg m2 hle RY RX
       subst Tl
       cases hB:B3.bk with
       |var cs=>rfl
       |wins e b2 n g=>rfl
       |ints e k xs=>
        simp only[gg]
        split
        ·exact⟨none,0,by simp,by simp,.inl (by simp)⟩
        rfl
       |rows e w' n f=>
        simp only[gg]
        split
        ·exact⟨none,0,rfl,Nat.le_refl _,.inl rfl⟩
        rfl
      rw[if_neg hb];exact keep
     |_=>exact keep
    cases hj
  exact⟨k1,k2,aL.ext RF hs _ _ (fun _ _ _=>rfl) k3,k4⟩
 obtain⟨D,h1,h3,_⟩:=Vl c C hc;obtain⟨D',h1',_,_⟩:=Vl c' C' YV;exact h2.inj c D c' D' h1 h1' hn (h3.trans RN)
end Go.Eng
namespace Go.Eng
open Go
section
variable {T:fB}{P:Program}{kp:Kp}{e:List (Nat×V)}{o:List (Nat×fA)}{x n:Nat}{Q:Exit→St→Prop}{K:St→Prop}{KE:eJ→Prop}
theorem Kx:vc T P kp .skip ⟨e,o,x,n⟩ Q=Q .normal ⟨e,o,x,n⟩:=rfl
theorem EK {id:Nat}{ops:Array Oper}{d:Bool}:vc T P kp (.region id ops d) ⟨e,o,x,n⟩ Q=ij T P kp.ms id d ops.toList ⟨e,o,x,n⟩ (fun s'=>Q .normal (gc kp.ks s')):=rfl
def LQ (T:fB)(P:Program)(kp:Kp)(b:Code)(Q:Exit→St→Prop):Exit→St→Prop:=fun e s'=>match e with
  |.normal=>vc T P kp b s' Q
  |e=>Q e s'
theorem NR {a b:Code}:vc T P kp (.seq a b) ⟨e,o,x,n⟩ Q=vc T P kp a ⟨e,o,x,n⟩ (LQ T P kp b Q):=rfl
theorem Ar {b:Code}:LQ T P kp b Q .normal ⟨e,o,x,n⟩=vc T P kp b ⟨e,o,x,n⟩ Q:=rfl
theorem FV {b:Code}:LQ T P kp b Q .ret ⟨e,o,x,n⟩=Q .ret ⟨e,o,x,n⟩:=rfl
theorem Fp {b:Code}{id:Nat}:LQ T P kp b Q (.exit id) ⟨e,o,x,n⟩=Q (.exit id) ⟨e,o,x,n⟩:=rfl
def L7 (v:V)(A B:St→Prop)(s:St):Prop:=match v with
 |.one (.bool t)=>(t=true→eG A s)∧(t=false→eG B s)
 |_=>False
theorem Cr {t:Bool}{A B:St→Prop}{s:St}:L7 (.one (.bool t)) A B s=((t=true→eG A s)∧(t=false→eG B s)):=rfl
theorem L1 {α:Type}{A:α→Prop}{s:α}:(True→eG A s)=A s:=by simp only[true_imp_iff];rfl
theorem KK {α:Type}{A:α→Prop}{s:α}:(False→eG A s)=True:=by simp only[false_imp_iff]
theorem Jc {c:Operand}{a b:Code}:vc T P kp (.cond c a b) ⟨e,o,x,n⟩ Q=L7 (St.ev ⟨e,o,x,n⟩ c) (fun s=>vc T P kp a s Q) (fun s=>vc T P kp b s Q) ⟨e,o,x,n⟩:=rfl
def xG (id:Nat)(Q:Exit→St→Prop):Exit→St→Prop:=fun e s'=>match e with
  |.exit id'=>if id'=id then Q .normal s' else Q (.exit id') s'
  |e=>Q e s'
theorem Hq {id:Nat}{c:Code}:vc T P kp (.block id c) ⟨e,o,x,n⟩ Q=vc T P kp c ⟨e,o,x,n⟩ (xG id Q):=rfl
theorem uO {id:Nat}:xG id Q .normal ⟨e,o,x,n⟩=Q .normal ⟨e,o,x,n⟩:=rfl
theorem Bh {id:Nat}:xG id Q .ret ⟨e,o,x,n⟩=Q .ret ⟨e,o,x,n⟩:=rfl
theorem Aj {id id':Nat}:xG id Q (.exit id') ⟨e,o,x,n⟩=if id'=id then Q .normal ⟨e,o,x,n⟩else Q (.exit id') ⟨e,o,x,n⟩:=rfl
def zY {ι:Type}(I:ι→St)(m:ι→Nat)(k:Nat)(Q:Exit→St→Prop):Exit→St→Prop:=fun e s'=>match e with
  |.normal=>∃y,Sub s' (I y)∧m y<k
  |e=>Q e s'
def Mm (T:fB)(P:Program)(kp:Kp)(c:Code)(Q:Exit→St→Prop)(s:St):Prop:=
 ∃(ι:Type) (I:ι→St) (m:ι→Nat) (x0:ι),Sub s (I x0)∧∀x,vc T P kp c (I x) (zY I m (m x) Q)
theorem LJ {c:Code}:vc T P kp (.loop c) ⟨e,o,x,n⟩ Q=Mm T P kp c Q ⟨e,o,x,n⟩:=rfl
theorem Lk {c:Code}{s:St}{ι:Type}(I:ι→St)(m:ι→Nat)(x0:ι)(h0:Sub s (I x0))(h:∀x,vc T P kp c (I x) (zY I m (m x) Q)):Mm T P kp c Q s:=⟨ι,I,m,x0,h0,h⟩
theorem E3 {ι:Type}{I:ι→St}{m:ι→Nat}{k:Nat}:zY I m k Q .ret ⟨e,o,x,n⟩=Q .ret ⟨e,o,x,n⟩:=rfl
theorem Bf {ι:Type}{I:ι→St}{m:ι→Nat}{k id:Nat}:zY I m k Q (.exit id) ⟨e,o,x,n⟩=Q (.exit id) ⟨e,o,x,n⟩:=rfl
theorem Lq {ι:Type}{I:ι→St}{m:ι→Nat}{k:Nat}{s:St}(y:ι)(h:Sub s (I y))(h1:m y<k):zY I m k Q .normal s:=⟨y,h,h1⟩
theorem JZ {id:Nat}:vc T P kp (.exit id) ⟨e,o,x,n⟩ Q=Q (.exit id) ⟨e,o,x,n⟩:=rfl
theorem MU:vc T P kp .ret ⟨e,o,x,n⟩ Q=Q .ret ⟨e,o,x,n⟩:=rfl
theorem By {ms:List (Nat×WL)}{id:Nat}{os:List Oper}:ij T P ms id true os ⟨e,o,x,n⟩ K=oI T P (mF ms id) os ⟨e,o,x,n⟩ K:=by simp only[ij,if_true]
theorem yI {os:List Oper}:oI T P none os ⟨e,o,x,n⟩ K=u4 T P x os.length 0 os [] ⟨e,o,x,n⟩ K:=rfl
theorem Cz {os:List Oper}:oI T P (some .nil) os ⟨e,o,x,n⟩ K=gx T P x os.length .nil 0 os [] ⟨e,o,x,n⟩ (fun s'=>iX T P os .nil s' K):=rfl
theorem zy {i:Nat}{pd:List Nat}{r al:WL}{os:List Oper}:oI T P (some (.cons i pd r al)) os ⟨e,o,x,n⟩ K=gx T P x os.length (.cons i pd r al) 0 os [] ⟨e,o,x,n⟩ (fun s'=>iX T P os (.cons i pd r al) s' K):=rfl
theorem A2 {q d:Nat}{t1 t2:WL}{os:List Oper}:oI T P (some (.opt q d t1 t2)) os ⟨e,o,x,n⟩ K=gx T P x os.length t1 0 os [] ⟨e,o,x,n⟩ (fun s'=>iX T P os t1 s' K∧iX T P os t2 (OS d (x+q) s') K):=rfl
theorem NK {d id:Nat}:OS d id ⟨e,o,x,n⟩=⟨I0 e d,del o id,x,n⟩:=rfl
theorem A4 {ms:List (Nat×WL)}{id:Nat}{os:List Oper}:ij T P ms id false os ⟨e,o,x,n⟩ K=py T P 0 os [] ⟨e,o,x,n⟩ K:=by simp only[ij,Bool.false_eq_true,if_false]
def uI (T:fB)(P:Program)(i:Nat)(os:List Oper)(gd:List (Nat×Tmp))(dst:Option Tmp)(op:Op)(K:St→Prop)(s:St):Prop:=
 if rP op then AG T op dst s (fun s'=>py T P (i+1) os gd s' K)
 else if cX op then orM (eI T P op s s.nx s.nx (aQ dst os) (fun e=>bR (uG i os) e fun e'=>py T P (i+1) os (dX (uG i os) i dst gd) (after s dst e') K)) (nZ P op dst s (fun s'=>py T P (i+1) os gd s' K))
 else eI T P op s s.nx s.nx (aQ dst os) (fun e=>bR (uG i os) e fun e'=>py T P (i+1) os (dX (uG i os) i dst gd) (after s dst e') K)
def q0 (v:Option V)(want:Bool)(A B:St→Prop)(s:St):Prop:=
 match v.bind gv with
 |some b=>if b=some want then A s else B s
 |none=>False
theorem LK {i:Nat}{gd:List (Nat×Tmp)}:py T P i [] gd ⟨e,o,x,n⟩ K=K ⟨e,o,x,n⟩:=rfl
theorem IB {i:Nat}{gd:List (Nat×Tmp)}{dst:Option Tmp}{op:Op}{ty:TypeId}{pos:String}{af:Array Edge}{os:List Oper}:
  py T P i (⟨dst,op,ty,pos,af,none⟩::os) gd ⟨e,o,x,n⟩ K=(o9 dst n∧uI T P i os gd dst op K ⟨e,o,x,n⟩):=rfl
theorem Gk {i g:Nat}{want:Bool}{gd:List (Nat×Tmp)}{dst:Option Tmp}{op:Op}{ty:TypeId}{pos:String}{af:Array Edge}{os:List Oper}:
  py T P i (⟨dst,op,ty,pos,af,some (g,want)⟩::os) gd ⟨e,o,x,n⟩ K=(o9 dst n∧q0 ((gh gd g).map (lk e)) want (uI T P i os gd dst op K) (fun s=>py T P (i+1) os (dX (uG i os) i dst gd) (s.put dst (.aF [])) K) ⟨e,o,x,n⟩):=by
 simp only[py,guarded,q0]
 cases gh gd g with
 |none=>rfl
 |some t=>rfl
def vC (T:fB)(P:Program)(nx0 len:Nat)(i:Nat)(os:List Oper)(gd:List (Nat×Tmp))(dst:Option Tmp)(op:Op)(K:St→Prop)(s:St):Prop:=
 if cX op then orM (eI T P op s nx0 (nx0+i) (aQ dst os) (fun e=>uN nx0 e.fz∧bR (uG i os) e fun e'=>u4 T P nx0 len (i+1) os (dX (uG i os) i dst gd) (s.add dst (nx0+i) e') K)) False else eI T P op s nx0 (nx0+i) (aQ dst os) (fun e=>uN nx0 e.fz∧bR (uG i os) e fun e'=>u4 T P nx0 len (i+1) os (dX (uG i os) i dst gd) (s.add dst (nx0+i) e') K)
theorem JA {nx0 len i:Nat}{gd:List (Nat×Tmp)}:u4 T P nx0 len i [] gd ⟨e,o,x,n⟩ K=K ⟨e,o,nx0+len,n⟩:=rfl
def pE (l:Bool)(A B:St→Prop)(s:St):Prop:=if l then A s else B s
theorem KV {A B:St→Prop}{s:St}:pE true A B s=A s:=rfl
theorem Ly {A B:St→Prop}{s:St}:pE false A B s=B s:=rfl
def F1 (s:St)(m:Nat):St:={s with nx:=m}
theorem Hv {m:Nat}:F1 ⟨e,o,x,n⟩ m=⟨e,o,m,n⟩:=rfl
theorem Gh {nx0 len i:Nat}{gd:List (Nat×Tmp)}{dst:Option Tmp}{op:Op}{ty:TypeId}{pos:String}{af:Array Edge}{os:List Oper}:
  u4 T P nx0 len i (⟨dst,op,ty,pos,af,none⟩::os) gd ⟨e,o,x,n⟩ K=pE (qY op) (fun s=>py T P i (⟨dst,op,ty,pos,af,none⟩::os) gd (F1 s (nx0+len)) K) (fun s=>o9 dst n∧vC T P nx0 len i os gd dst op K s) ⟨e,o,x,n⟩:=rfl
theorem FD {nx0 len i g:Nat}{want:Bool}{gd:List (Nat×Tmp)}{dst:Option Tmp}{op:Op}{ty:TypeId}{pos:String}{af:Array Edge}{os:List Oper}:
  u4 T P nx0 len i (⟨dst,op,ty,pos,af,some (g,want)⟩::os) gd ⟨e,o,x,n⟩ K=pE (qY op) (fun s=>py T P i (⟨dst,op,ty,pos,af,some (g,want)⟩::os) gd (F1 s (nx0+len)) K)
   (fun s=>o9 dst n∧q0 ((gh gd g).map (lk s.env)) want (vC T P nx0 len i os gd dst op K) (fun s=>u4 T P nx0 len (i+1) os (dX (uG i os) i dst gd) (s.put dst (.aF [])) K) s) ⟨e,o,x,n⟩:=by
 simp only[u4,guarded,q0,pE]
 cases gh gd g with
 |none=>rfl
 |some t=>rfl
def stepG (T:fB)(P:Program)(nx0 len:Nat)(ws:WL)(i:Nat)(os:List Oper)(gd:List (Nat×Tmp))(dst:Option Tmp)(op:Op)(K:St→Prop)(s:St):Prop:=
 if cX op then orM (eI T P op s nx0 (nx0+i) (aQ dst os) (fun e=>uN nx0 e.fz∧bR (uG i os) e fun e'=>gx T P nx0 len ws (i+1) os (dX (uG i os) i dst gd) (s.add dst (nx0+i) e') K)) False else eI T P op s nx0 (nx0+i) (aQ dst os) (fun e=>uN nx0 e.fz∧bR (uG i os) e fun e'=>gx T P nx0 len ws (i+1) os (dX (uG i os) i dst gd) (s.add dst (nx0+i) e') K)
theorem HH {nx0 len i:Nat}{ws:WL}{gd:List (Nat×Tmp)}:gx T P nx0 len ws i [] gd ⟨e,o,x,n⟩ K=K ⟨e,o,nx0+len,n⟩:=rfl
theorem DV {nx0 len i:Nat}{ws:WL}{gd:List (Nat×Tmp)}{dst:Option Tmp}{op:Op}{ty:TypeId}{pos:String}{af:Array Edge}{os:List Oper}:
  gx T P nx0 len ws i (⟨dst,op,ty,pos,af,none⟩::os) gd ⟨e,o,x,n⟩ K=pE (iY ws i) (fun s=>gx T P nx0 len ws (i+1) os gd s K) (fun s=>o9 dst n∧stepG T P nx0 len ws i os gd dst op K s) ⟨e,o,x,n⟩:=by
 simp only[gx,guarded,pE,stepG]
theorem E7 {nx0 len i g:Nat}{want:Bool}{ws:WL}{gd:List (Nat×Tmp)}{dst:Option Tmp}{op:Op}{ty:TypeId}{pos:String}{af:Array Edge}{os:List Oper}:
  gx T P nx0 len ws i (⟨dst,op,ty,pos,af,some (g,want)⟩::os) gd ⟨e,o,x,n⟩ K=pE (iY ws i) (fun s=>gx T P nx0 len ws (i+1) os gd s K)
   (fun s=>o9 dst n∧q0 ((gh gd g).map (lk s.env)) want (stepG T P nx0 len ws i os gd dst op K) (fun s=>gx T P nx0 len ws (i+1) os (dX (uG i os) i dst gd) (s.put dst (.aF [])) K) s) ⟨e,o,x,n⟩:=by
 simp only[gx,pE]
 congr 1
 simp only[guarded,q0,stepG]
 cases gh gd g with
 |none=>rfl
 |some t=>rfl
theorem KT {nx0 len i:Nat}{ws:WL}{os:List Oper}{gd:List (Nat×Tmp)}{dst:Option Tmp}{op:Op}(h1:cX op=true):stepG T P nx0 len ws i os gd dst op K ⟨e,o,x,n⟩=
 orM (eI T P op ⟨e,o,x,n⟩ nx0 (nx0+i) (aQ dst os) (fun e'=>uN nx0 e'.fz∧bR (uG i os) e' fun e''=>gx T P nx0 len ws (i+1) os (dX (uG i os) i dst gd) (St.add ⟨e,o,x,n⟩ dst (nx0+i) e'') K)) False:=by
 unfold stepG;rw[if_pos h1]
theorem JC {nx0 len i:Nat}{ws:WL}{os:List Oper}{gd:List (Nat×Tmp)}{dst:Option Tmp}{op:Op}(h1:cX op=false):stepG T P nx0 len ws i os gd dst op K ⟨e,o,x,n⟩=
 eI T P op ⟨e,o,x,n⟩ nx0 (nx0+i) (aQ dst os) (fun e'=>uN nx0 e'.fz∧bR (uG i os) e' fun e''=>gx T P nx0 len ws (i+1) os (dX (uG i os) i dst gd) (St.add ⟨e,o,x,n⟩ dst (nx0+i) e'') K):=by
 unfold stepG;rw[if_neg (by rw[h1];simp)]
theorem IC {os:List Oper}:iX T P os .nil ⟨e,o,x,n⟩ K=K ⟨e,o,x,n⟩:=by rw[iX]
theorem HJ {os:List Oper}{i:Nat}{pd:List Nat}{r:WL}:iX T P os (.cons i pd r .nil) ⟨e,o,x,n⟩ K=b7 os[i]? (fun p=>o9 p.dst n∧tx T P p os ⟨e,o,x,n⟩ (fun s'=>prom T P os pd s'∧iX T P os r s' K)):=by
 rw[iX,EI]
 cases os[i]? <;>rfl
theorem Fs {os:List Oper}{i j:Nat}{pd pd':List Nat}{r r' al:WL}:iX T P os (.cons i pd r (.cons j pd' r' al)) ⟨e,o,x,n⟩ K=(b7 os[i]? (fun p=>o9 p.dst n∧tx T P p os ⟨e,o,x,n⟩ (fun s'=>prom T P os pd s'∧iX T P os r s' K))∧iX T P os (.cons j pd' r' al) ⟨e,o,x,n⟩ K):=by
 rw[iX,EI]
 cases os[i]? <;>rfl
theorem Nh {os:List Oper}{dst:Option Tmp}{op:Op}{ty:TypeId}{pos:String}{af:Array Edge}{g:Option (Nat×Bool)}(h:rP op=true):tx T P ⟨dst,op,ty,pos,af,g⟩ os ⟨e,o,x,n⟩ K=AG T op dst ⟨e,o,x,n⟩ K:=by
 unfold tx;exact if_pos h
theorem N8 {os:List Oper}{dst:Option Tmp}{op:Op}{ty:TypeId}{pos:String}{af:Array Edge}{g:Option (Nat×Bool)}(h:rP op=false)(h1:cX op=true):tx T P ⟨dst,op,ty,pos,af,g⟩ os ⟨e,o,x,n⟩ K=
  orM (eI T P op ⟨e,o,x,n⟩ x x (aQ dst os) (fun e'=>K (after ⟨e,o,x,n⟩ dst e'))) (nZ P op dst ⟨e,o,x,n⟩ K):=by
 unfold tx;simp only[h,h1,Bool.false_eq_true,if_false,if_true]
theorem MN {os:List Oper}{dst:Option Tmp}{op:Op}{ty:TypeId}{pos:String}{af:Array Edge}{g:Option (Nat×Bool)}(h:rP op=false)(h1:cX op=false):tx T P ⟨dst,op,ty,pos,af,g⟩ os ⟨e,o,x,n⟩ K=
  eI T P op ⟨e,o,x,n⟩ x x (aQ dst os) (fun e'=>K (after ⟨e,o,x,n⟩ dst e')):=by
 unfold tx;simp only[h,h1,Bool.false_eq_true,if_false]
theorem IQ {os:List Oper}{s:St}:prom T P os [] s=True:=rfl
theorem Ed {os:List Oper}{j:Nat}{r:List Nat}:prom T P os (j::r) ⟨e,o,x,n⟩=(b7 os[j]? (fun p=>b7 p.dst fun d=>d<n∧vq T P os p d ⟨e,o,x,n⟩)∧prom T P os r ⟨e,o,x,n⟩):=by
 simp only[prom]
 cases os[j]? with
 |none=>rfl
 |some p=>cases h:p.dst<;>simp only[b7,h]
theorem Jp {os:List Oper}{d:Nat}{dst:Option Tmp}{op:Op}{ty:TypeId}{pos:String}{af:Array Edge}:vq T P os ⟨dst,op,ty,pos,af,none⟩ d ⟨e,o,x,n⟩=eI T P op ⟨e,o,x,n⟩ x x false (fun e'=>e'.val=lk e d):=rfl
theorem Lv {os:List Oper}{d g:Nat}{want:Bool}{dst:Option Tmp}{op:Op}{ty:TypeId}{pos:String}{af:Array Edge}:vq T P os ⟨dst,op,ty,pos,af,some (g,want)⟩ d ⟨e,o,x,n⟩=
  b7 os[g]? (fun p=>b7 p.dst fun t=>q0 (some (lk e t)) want (fun _=>eI T P op ⟨e,o,x,n⟩ x x false (fun e'=>e'.val=lk e d)) (fun _=>lk e d= .aF []) ⟨e,o,x,n⟩):=by
 unfold vq;simp only[q0,Option.bind_some]
 cases os[g]? with
 |none=>rfl
 |some p=>
  simp only[Option.bind_some,b7]
  cases p.dst with
  |none=>rfl
  |some t=>first|(simp only[b7];done)|(simp only[b7];cases gv (lk e t)<;>rfl)
theorem KN {A B:St→Prop}{s:St}:q0 (some (.one (.bool true))) true A B s=A s:=rfl
theorem Oy {o:List (Nat×fA)}:uP o []=o:=rfl
theorem MQ {A B:St→Prop}{s:St}{w:Bool}:q0 (some (.aF [])) w A B s=B s:=rfl
theorem I7 {A B:St→Prop}{s:St}:q0 (some (.one (.bool true))) false A B s=B s:=rfl
theorem Jo {A B:St→Prop}{s:St}:q0 (some (.one (.bool false))) true A B s=B s:=rfl
theorem KD {A B:St→Prop}{s:St}:q0 (some (.one (.bool false))) false A B s=A s:=rfl
theorem KR {i:Nat}{os:List Oper}{gd:List (Nat×Tmp)}{dst:Option Tmp}{op:Op}(h:rP op=true):uI T P i os gd dst op K ⟨e,o,x,n⟩=AG T op dst ⟨e,o,x,n⟩ (fun s'=>py T P (i+1) os gd s' K):=if_pos h
theorem Jd {i:Nat}{os:List Oper}{gd:List (Nat×Tmp)}{dst:Option Tmp}{op:Op}(h:rP op=false)(h1:cX op=true):uI T P i os gd dst op K ⟨e,o,x,n⟩=
 orM (eI T P op ⟨e,o,x,n⟩ x x (aQ dst os) (fun e'=>bR (uG i os) e' fun e''=>py T P (i+1) os (dX (uG i os) i dst gd) (after ⟨e,o,x,n⟩ dst e'') K)) (nZ P op dst ⟨e,o,x,n⟩ (fun s'=>py T P (i+1) os gd s' K)):=by
 unfold uI;rw[h,h1];rfl
theorem K8 {i:Nat}{os:List Oper}{gd:List (Nat×Tmp)}{dst:Option Tmp}{op:Op}(h:rP op=false)(h1:cX op=false):uI T P i os gd dst op K ⟨e,o,x,n⟩=
 eI T P op ⟨e,o,x,n⟩ x x (aQ dst os) (fun e'=>bR (uG i os) e' fun e''=>py T P (i+1) os (dX (uG i os) i dst gd) (after ⟨e,o,x,n⟩ dst e'') K):=by
 unfold uI;rw[h,h1];rfl
theorem I8 {nx0 len i:Nat}{os:List Oper}{gd:List (Nat×Tmp)}{dst:Option Tmp}{op:Op}(h1:cX op=true):vC T P nx0 len i os gd dst op K ⟨e,o,x,n⟩=
 orM (eI T P op ⟨e,o,x,n⟩ nx0 (nx0+i) (aQ dst os) (fun e'=>uN nx0 e'.fz∧bR (uG i os) e' fun e''=>u4 T P nx0 len (i+1) os (dX (uG i os) i dst gd) (St.add ⟨e,o,x,n⟩ dst (nx0+i) e'') K)) False:=by
 unfold vC;rw[h1];rfl
theorem Ko {nx0 len i:Nat}{os:List Oper}{gd:List (Nat×Tmp)}{dst:Option Tmp}{op:Op}(h1:cX op=false):vC T P nx0 len i os gd dst op K ⟨e,o,x,n⟩=
 eI T P op ⟨e,o,x,n⟩ nx0 (nx0+i) (aQ dst os) (fun e'=>uN nx0 e'.fz∧bR (uG i os) e' fun e''=>u4 T P nx0 len (i+1) os (dX (uG i os) i dst gd) (St.add ⟨e,o,x,n⟩ dst (nx0+i) e'') K):=by
 unfold vC;rw[h1];rfl
theorem Ih {v:V}{b:Option Bk}{f:List Nat}:bR false ⟨v,b,f⟩ KE=KE ⟨v,b,f⟩:=rfl
theorem FK {t:Bool}{b:Option Bk}{f:List Nat}:bR true ⟨.one (.bool t),b,f⟩ KE=((t=true→eG KE ⟨.one (.bool true),b,f⟩)∧(t=false→eG KE ⟨.one (.bool false),b,f⟩)):=rfl
theorem Ir {d:Nat}{v:V}:St.put ⟨e,o,x,n⟩ (some d) v=⟨(d,v)::e,o,x,n⟩:=rfl
theorem Hf {v:V}:St.put ⟨e,o,x,n⟩ none v=⟨e,o,x,n⟩:=rfl
theorem BZ {d:Nat}{v:V}:after ⟨e,o,x,n⟩ (some d) ⟨v,none,[]⟩=⟨(d,v)::e,o,x+1,n⟩:=rfl
theorem BV {v:V}:after ⟨e,o,x,n⟩ none ⟨v,none,[]⟩=⟨e,o,x+1,n⟩:=rfl
theorem Gj {d b:Nat}{v:V}{l:List Nat}:after ⟨e,o,x,n⟩ (some d) ⟨v,none,b::l⟩=⟨(d,v)::e,dF o (b::l),x+1,n⟩:=rfl
theorem EP {d:Nat}{v:V}{B:Bk}:after ⟨e,o,x,n⟩ (some d) ⟨v,some B,[]⟩=⟨(d,v)::e,dZ o x ⟨B,true⟩,x+1,n⟩:=rfl
theorem HK {d b:Nat}{v:V}{l:List Nat}{B:Bk}:after ⟨e,o,x,n⟩ (some d) ⟨v,some B,b::l⟩=⟨(d,v)::e,dZ (dF o (b::l)) x ⟨B,true⟩,x+1,n⟩:=rfl
theorem Ou {d b id:Nat}{v:V}{l:List Nat}{B:Bk}:St.add ⟨e,o,x,n⟩ (some d) id ⟨v,some B,b::l⟩=⟨(d,v)::e,dZ (dF o (b::l)) id ⟨B,true⟩,x,n⟩:=rfl
theorem FW {d id:Nat}{v:V}:St.add ⟨e,o,x,n⟩ (some d) id ⟨v,none,[]⟩=⟨(d,v)::e,o,x,n⟩:=rfl
theorem H0 {id:Nat}{v:V}:St.add ⟨e,o,x,n⟩ none id ⟨v,none,[]⟩=⟨e,o,x,n⟩:=rfl
theorem M0 {d b id:Nat}{v:V}{l:List Nat}:St.add ⟨e,o,x,n⟩ (some d) id ⟨v,none,b::l⟩=⟨(d,v)::e,dF o (b::l),x,n⟩:=rfl
theorem Le {d id:Nat}{v:V}{B:Bk}:St.add ⟨e,o,x,n⟩ (some d) id ⟨v,some B,[]⟩=⟨(d,v)::e,dZ o id ⟨B,true⟩,x,n⟩:=rfl
theorem OU {ks:List Nat}:gc ks ⟨e,o,x,n⟩=⟨ks.map (fun t=>(t,lk e t)),o,x,n⟩:=rfl
theorem M5 {t:Nat}:St.ev ⟨e,o,x,n⟩ (.tmp t)=lk e t:=rfl
theorem Hm {v:Value}:St.ev ⟨e,o,x,n⟩ (.const v)=cv v:=rfl
theorem Ku {f:Nat}:St.ev ⟨e,o,x,n⟩ (.func f)= .one (.fn f 0 (fun _=>.any)):=rfl
theorem Nw {k:IntKind}{i:Int}:cv (.int k i)= .one (.int k i):=rfl
theorem Ld {b:Bool}:cv (.bool b)= .one (.bool b):=rfl
theorem Nn:cv (.slice none 0 0)= .one .nil:=rfl
theorem OC {b:ByteArray}:cv (.string b)= .one (.str b):=rfl
theorem HU {a:Operand}{nx id:Nat}{fz:Bool}:eI T P (.move a) ⟨e,o,x,n⟩ nx id fz KE=KE ⟨St.ev ⟨e,o,x,n⟩ a,none,[]⟩:=rfl
theorem CA {a:Operand}{nx id:Nat}{fz:Bool}:eI T P (.assign a) ⟨e,o,x,n⟩ nx id fz KE=KE ⟨St.ev ⟨e,o,x,n⟩ a,none,[]⟩:=rfl
def H9 (t a b:V):Option V:=match t with
 |.one (.bool t)=>some (if t then a else b)
 |_=>none
theorem Jg {a b:V}:H9 (.one (.bool true)) a b=some a:=rfl
theorem Kw {a b:V}:H9 (.one (.bool false)) a b=some b:=rfl
theorem Ha {c a b:Operand}{nx id:Nat}{fz:Bool}:eI T P (.pick c a b) ⟨e,o,x,n⟩ nx id fz KE=b7 (H9 (St.ev ⟨e,o,x,n⟩ c) (St.ev ⟨e,o,x,n⟩ a) (St.ev ⟨e,o,x,n⟩ b)) (fun v=>KE ⟨v,none,[]⟩):=by
 simp only[eI]
 cases St.ev ⟨e,o,x,n⟩ c with
 |one c=>cases c<;>rfl
 |_=>rfl
theorem Eg {t:Nat}{nx id:Nat}{fz:Bool}:eI T P (.alloc t) ⟨e,o,x,n⟩ nx id fz KE=b7 (T t) (fun E=>KE ⟨.one (.ptr id 0),some (.var E.zero),[]⟩):=by
 simp only[eI];cases T t<;>rfl
theorem Kv {t:Nat}{a:Operand}{nx id:Nat}{fz:Bool}:eI T P (.box t a) ⟨e,o,x,n⟩ nx id fz KE=((St.ev ⟨e,o,x,n⟩ a).ob=true∧KE ⟨.one (.ptr id 0),some (.var (cellsOf (St.ev ⟨e,o,x,n⟩ a))),[]⟩):=rfl
def M1:DW→Option (List (Nat×Nat))
 |.st fs=>some fs
 |_=>none
theorem Et {t:Nat}{ps:Array (Nat×Operand)}{nx id:Nat}{fz:Bool}:eI T P (.build t ps) ⟨e,o,x,n⟩ nx id fz KE=b7 (T t) (fun E=>b7 (M1 E.k) fun fs=>b7 (jE fs E.zero (ps.toList.map fun p=>(p.1,St.ev ⟨e,o,x,n⟩ p.2))) fun cs=>KE ⟨.agg cs,none,[]⟩):=by
 simp only[eI]
 cases T t with
 |none=>rfl
 |some E=>
  simp only[oy]
  cases E.k with
  |st fs=>simp only[M1,oy];cases jE fs E.zero (ps.toList.map fun p=>(p.1,St.ev ⟨e,o,x,n⟩ p.2))<;>rfl
  |_=>rfl
theorem te {t l:Nat}{ps:Array (Nat×Operand)}{nx id:Nat}{fz:Bool}:eI T P (.buildSlice t l ps) ⟨e,o,x,n⟩ nx id fz KE=iB T ⟨e,o,x,n⟩ nx id fz t l ps KE:=rfl
theorem HW {t:Nat}{a:Operand}{nx id:Nat}{fz:Bool}:eI T P (.load t a) ⟨e,o,x,n⟩ nx id fz KE=zX T ⟨e,o,x,n⟩ nx t a KE:=rfl
theorem JW {op:BinOp}{t t':Nat}{a b:Operand}{nx id:Nat}{fz:Bool}:eI T P (.binOp op t a b t') ⟨e,o,x,n⟩ nx id fz KE=IU T ⟨e,o,x,n⟩ op t a b KE:=rfl
theorem NZ {op:UnOp}{t:Nat}{a:Operand}{nx id:Nat}{fz:Bool}:eI T P (.unOp op t a) ⟨e,o,x,n⟩ nx id fz KE=Pa ⟨e,o,x,n⟩ op a KE:=rfl
theorem Ij {t t':Nat}{a:Operand}{nx id:Nat}{fz:Bool}:eI T P (.convert t t' a) ⟨e,o,x,n⟩ nx id fz KE=me T ⟨e,o,x,n⟩ t t' a KE:=rfl
theorem HQ {t:Nat}{a b:Operand}{nx id:Nat}{fz:Bool}:eI T P (.makeSlice t a b) ⟨e,o,x,n⟩ nx id fz KE=jA T ⟨e,o,x,n⟩ id fz t a b KE:=rfl
theorem E9 {t:Nat}{a:Operand}{lo hi mx:Option Operand}{nx id:Nat}{fz:Bool}:eI T P (.slice t a lo hi mx) ⟨e,o,x,n⟩ nx id fz KE=uj T ⟨e,o,x,n⟩ t a lo hi mx KE:=rfl
theorem Es {t f:Nat}{a:Operand}{nx id:Nat}{fz:Bool}:eI T P (.fieldAddr t a f) ⟨e,o,x,n⟩ nx id fz KE=jF T ⟨e,o,x,n⟩ t a f KE:=rfl
theorem BT {t f:Nat}{a:Operand}{nx id:Nat}{fz:Bool}:eI T P (.field t a f) ⟨e,o,x,n⟩ nx id fz KE=sM T ⟨e,o,x,n⟩ t a f KE:=rfl
theorem xE {f:FuncId}{cs:Array Operand}{nx id:Nat}{fz:Bool}:eI T P (.makeFunc (.func f) #[] cs) ⟨e,o,x,n⟩ nx id fz KE=((cs.toList.all fun a=>rH (St.ev ⟨e,o,x,n⟩ a))=true∧KE ⟨.one (.fn f cs.toList.length (fun i=>DD ((cs.toList.map (St.ev ⟨e,o,x,n⟩)).getD i .unk))),none,[]⟩):=rfl
theorem D9 {t:Nat}{a b:Operand}{nx id:Nat}{fz:Bool}:eI T P (.indexAddr t a b) ⟨e,o,x,n⟩ nx id fz KE=jo T ⟨e,o,x,n⟩ t a b KE:=rfl
theorem BH {t:Nat}{a b:Operand}{nx id:Nat}{fz:Bool}:eI T P (.index t a b) ⟨e,o,x,n⟩ nx id fz KE=ui T ⟨e,o,x,n⟩ t a b KE:=rfl
def yZ (v:V)(i:Nat):Option V:=match v with
 |.aF vs=>vs[i]?
 |_=>none
theorem LU {v:V}{vs:List V}:yZ (.aF (v::vs)) 0=some v:=rfl
theorem JU {v u:V}{vs:List V}:yZ (.aF (v::u::vs)) 1=some u:=rfl
theorem Jl {v u t:V}{vs:List V}:yZ (.aF (v::u::t::vs)) 2=some t:=rfl
theorem yM {i:Nat}{a:Operand}{nx id:Nat}{fz:Bool}:eI T P (.extract a i) ⟨e,o,x,n⟩ nx id fz KE=b7 (yZ (St.ev ⟨e,o,x,n⟩ a) i) (fun v=>KE ⟨v,none,[]⟩):=by
 simp only[eI,yZ]
 cases St.ev ⟨e,o,x,n⟩ a with
 |aF vs=>simp only;cases vs[i]? <;>rfl
 |_=>rfl
theorem Fq {g:Operand}{az:Array Operand}{ts:Array TypeId}{nx id:Nat}{fz:Bool}:eI T P (.call ⟨.value g,az,ts⟩) ⟨e,o,x,n⟩ nx id fz KE=wu P ⟨e,o,x,n⟩ nx id g az.toList KE:=rfl
theorem D5 {b:Builtin}{az:Array Operand}{ts:Array TypeId}{nx id:Nat}{fz:Bool}:eI T P (.call ⟨.builtin b,az,ts⟩) ⟨e,o,x,n⟩ nx id fz KE=mM T ⟨e,o,x,n⟩ b az.toList ts.toList KE:=rfl
def Of:V→Option FuncId
 |.one (.fn f 0 _)=>some f
 |_=>none
def cH (P:Program)(f:FuncId)(args:List V)(ids:List Nat)(id:Nat)(KE:eJ→Prop):Prop:=(∃r,Pr P f args r∧eG KE ⟨r,none,if nv r then[]else ids⟩)∨(∃B,Fr P f args B∧eG KE ⟨.one (.own id B.wd 0 B.len),some B,ids⟩)∨(∃B c,dG P f args B c∧eG KE ⟨.aF [.one (.own id B.wd 0 B.len),.one c],some B,ids⟩)
theorem Cg {f:FuncId}{args:List V}{ids:List Nat}{id:Nat}{r:V}{M:Prop}(h:Pr P f args r)(hk:KE ⟨r,none,if nv r then[]else ids⟩):orM (cH P f args ids id KE) M:=.inl (.inl ⟨r,h,hk⟩)
theorem cH.fresh {f:FuncId}{args:List V}{ids:List Nat}{id:Nat}{B:Bk}{M:Prop}(h:Fr P f args B)(hk:KE ⟨.one (.own id B.wd 0 B.len),some B,ids⟩):orM (cH P f args ids id KE) M:=.inl (.inr (.inl ⟨B,h,hk⟩))
theorem cH.CC {f:FuncId}{args:List V}{ids:List Nat}{id:Nat}{B:Bk}{c:C}{M:Prop}(h:dG P f args B c)(hk:KE ⟨.aF [.one (.own id B.wd 0 B.len),.one c],some B,ids⟩):orM (cH P f args ids id KE) M:=.inl (.inr (.inr ⟨B,c,h,hk⟩))
theorem Cm {f:FuncId}{raw:List V}{s:St}{dst:Option Tmp}{A:Prop}(b:Nat){B:Bk}{R:V→Bk→Prop}(hl:lo s.own b=some ⟨B,true⟩)(hp:B.plain)(h:Mc P f (raw.map (I2 b s.own s.nx)) B R)
  (hk:∀r B',R r B'→B'.len=B.len→K (OI s dst b raw r B')):orM A (xQ P f raw s dst K):=.inr (.inl ⟨b,B,R,hl,hp,h,hk⟩)
theorem cH.N1 {f:FuncId}{raw:List V}{s:St}{dst:Option Tmp}{A:Prop}{n:Nat}{g:Nat→Nat→C}{B:Bk}{c:Option C}(h:uA P f (raw.map (BQ s.own s.nx)) n g B c)
  (hk:K (OG s dst raw n g B c)):orM A (xQ P f raw s dst K):=.inr (.inr ⟨n,g,B,c,h,hk⟩)
def wh:V→Option (FuncId×List V)
 |.one (.fn f n cs)=>some (f,mP n cs)
 |_=>none
theorem JN {f:FuncId}{c:Nat→C}:wh (.one (.fn f 0 c))=some (f,[]):=rfl
theorem Kj {f:FuncId}{c:Nat→C}:wh (.one (.fn f 1 c))=some (f,[.one (c 0)]):=rfl
theorem Kq {f:FuncId}{c:Nat→C}:wh (.one (.fn f 2 c))=some (f,[.one (c 0),.one (c 1)]):=rfl
theorem Kr {f:FuncId}{c:Nat→C}:wh (.one (.fn f 3 c))=some (f,[.one (c 0),.one (c 1),.one (c 2)]):=rfl
theorem Hg {g:Operand}{az:List Operand}{nx id:Nat}:wu P ⟨e,o,x,n⟩ nx id g az KE=b7 (wh (St.ev ⟨e,o,x,n⟩ g)) (fun f=>cH P f.1 ((az.map (St.ev ⟨e,o,x,n⟩)++f.2).map (DK o nx)) (((az.map (St.ev ⟨e,o,x,n⟩)++f.2).map pe).flatten.filter (fun b=>decide (b<nx))) id KE):=by
 unfold wu wh
 cases St.ev ⟨e,o,x,n⟩ g with
 |one c=>cases c<;>rfl
 |agg cs=>rfl
 |aF cs=>rfl
 |unk=>rfl
theorem Hl {g:Operand}{az:Array Operand}{ts:Array TypeId}{d:Option Tmp}:nZ P (.call ⟨.value g,az,ts⟩) d ⟨e,o,x,n⟩ K=b7 (Of (St.ev ⟨e,o,x,n⟩ g)) (fun f=>xQ P f (az.toList.map (St.ev ⟨e,o,x,n⟩)) ⟨e,o,x,n⟩ d K):=by
 unfold nZ Of
 cases h:St.ev ⟨e,o,x,n⟩ g with
 |one c=>cases c with
  |fn f m caps=>cases m with
   |zero=>simp only[h,true_and];rfl
   |succ m=>simp[b7,h]
  |_=>simp only[h];rfl
 |_=>simp only[h];rfl
theorem Kc {f:FuncId}{c:Nat→C}:Of (.one (.fn f 0 c))=some f:=rfl
theorem Fc {t:Nat}{a b:Operand}:AG T (.store t a b) none ⟨e,o,x,n⟩ K=uv T ⟨e,o,x,n⟩ t a b K:=by simp only[AG,true_and]
theorem AK {a b:Operand}{t t':Nat}{d:Option Tmp}:AG T (.call ⟨.builtin .append,#[a,b],#[t,t']⟩) d ⟨e,o,x,n⟩ K=(NY T t'∧pn T ⟨e,o,x,n⟩ d t a b K):=by
 rfl
theorem DX {a:Operand}{t:Nat}{d:Option Tmp}:AG T (.call ⟨.builtin .clear,#[a],#[t]⟩) d ⟨e,o,x,n⟩ K=sZ T ⟨e,o,x,n⟩ d t a K:=rfl
theorem GM {a b:Operand}{t t':Nat}{d:Option Tmp}:AG T (.call ⟨.builtin .copy,#[a,b],#[t,t']⟩) d ⟨e,o,x,n⟩ K=(NY T t'∧yP T ⟨e,o,x,n⟩ d t a b K):=rfl
theorem Lw {t t':Nat}{a:Operand}{d:Option Tmp}{l c:Nat}:AG T (.binOp .eql t a (.const (.slice none l c)) t') d ⟨e,o,x,n⟩ K=Hj T ⟨e,o,x,n⟩ d t a K:=by simp only[AG,vI,qI,x6,true_and]
theorem LH {a:Operand}{t:Nat}{d:Option Tmp}:AG T (.call ⟨.builtin .cap,#[a],#[t]⟩) d ⟨e,o,x,n⟩ K=FR T ⟨e,o,x,n⟩ d t a K:=rfl
theorem FI {rs:List ResultVar}{R:V→Prop}:JG T rs R .ret ⟨e,o,x,n⟩=b7 (tH T ⟨e,o,x,n⟩ rs) fun vs=>R (A8 vs):=rfl
theorem zP {rs:List ResultVar}{R:V→Prop}:JG T rs R .normal ⟨e,o,x,n⟩=b7 (tH T ⟨e,o,x,n⟩ rs) fun vs=>R (A8 vs):=rfl
end
set_option linter.defProp false in
def vcs:=And.intro @Kx (And.intro @EK (And.intro @NR (And.intro @Ar (And.intro @FV (And.intro @Fp (And.intro @Cr (And.intro @Jc (And.intro @Hq (And.intro @uO
 (And.intro @Bh (And.intro @Aj (And.intro @LJ (And.intro @E3 (And.intro @Bf (And.intro @JZ (And.intro @MU (And.intro @By (And.intro @A4 (And.intro @yI (And.intro @Cz (And.intro @zy (And.intro @A2 (And.intro @NK (And.intro @HH (And.intro @DV (And.intro @E7 (And.intro @KT (And.intro @JC (And.intro @IC (And.intro @HJ (And.intro @Fs (And.intro @Jp (And.intro @Lv (And.intro @Nh (And.intro @N8 (And.intro @MN (And.intro @IQ (And.intro @Ed (And.intro @LK
 (And.intro @IB (And.intro @Gk (And.intro @JA (And.intro @KV (And.intro @Ly (And.intro @Hv (And.intro @Gh (And.intro @FD (And.intro @KN (And.intro @I7
 (And.intro @Oy (And.intro @MQ (And.intro @Jo (And.intro @KD (And.intro @KR (And.intro @Jd (And.intro @K8 (And.intro @I8 (And.intro @Ko (And.intro @Hl (And.intro @Ih (And.intro @FK (And.intro @Ir (And.intro @Hf (And.intro @BZ (And.intro @BV
 (And.intro @Gj (And.intro @EP (And.intro @FW (And.intro @H0 (And.intro @M0 (And.intro @HK (And.intro @Ou (And.intro @Le (And.intro @OU (And.intro @M5 (And.intro @Hm (And.intro @Ku
 (And.intro @Nw (And.intro @Ld (And.intro @Nn (And.intro @OC (And.intro @HU (And.intro @CA (And.intro @Jg (And.intro @Kw (And.intro @Ha (And.intro @Eg
 (And.intro @Kv (And.intro @Et (And.intro @te (And.intro @HW (And.intro @JW (And.intro @NZ (And.intro @Ij (And.intro @HQ (And.intro @E9 (And.intro @Es
 (And.intro @BH (And.intro @D9 (And.intro @LU (And.intro @JU (And.intro @Jl (And.intro @yM (And.intro @Fq (And.intro @D5 (And.intro @Hg (And.intro @Kc (And.intro @Fc
 (And.intro @AK (And.intro @Lw (And.intro @DX (And.intro @GM (And.intro @BT (And.intro @xE (And.intro @JN (And.intro @Kj (And.intro @Kq (And.intro @Kr (And.intro @LH (And.intro @FI (And.intro @zP @oy)))))))))))))))))))))))))))))))))))))))))))))))))))))))))))))))))))))))))))))))))))))))))))))))))))))))))))))))))))))))))
set_option linter.defProp false in
def Rs:=And.intro @sB.eq_def (And.intro @ui.eq_def (And.intro @MM.eq_def (And.intro @iB.eq_def (And.intro @zX.eq_def (And.intro @IU.eq_def (And.intro @Pa.eq_def (And.intro @me.eq_def (And.intro @jA.eq_def (And.intro @uj.eq_def (And.intro @jF.eq_def
 (And.intro @jo.eq_def (And.intro @mM.eq_def (And.intro @uv.eq_def (And.intro @NY.eq_def (And.intro @pn.eq_def (And.intro @FR.eq_def (And.intro @so.eq_def (And.intro @CX.eq_def (And.intro @Hj.eq_def (And.intro @sZ.eq_def (And.intro @yP.eq_def (And.intro @sM.eq_def @Eb.eq_def))))))))))))))))))))
))
set_option linter.defProp false in
def QS:=And.intro @PF.eq_def (And.intro @tQ.eq_def (And.intro @lk.eq_1 (And.intro @lk.eq_2 (And.intro @lo.eq_1 (And.intro @lo.eq_2 (And.intro @dZ.eq_1 (And.intro @dZ.eq_2 (And.intro @del.eq_1 (And.intro @del.eq_2 (And.intro @dF.eq_1 (And.intro @dF.eq_2
 (And.intro @gh.eq_1 (And.intro @gh.eq_2 (And.intro @uN.eq_1 (And.intro @uN.eq_2 (And.intro @bx.eq_1 (And.intro @bx.eq_2 (And.intro @eX.eq_1 (And.intro @eX.eq_2 (And.intro @gq.eq_1
 (And.intro @gq.eq_2 (And.intro @jE.eq_1 (And.intro @jE.eq_2 (And.intro @tH.eq_1 (And.intro @tH.eq_2 (And.intro @eO.eq_1 (And.intro @eO.eq_2 (And.intro @lq.eq_1 (And.intro @lq.eq_2
 (And.intro @iS.eq_1 (And.intro @o9.eq_def (And.intro @rP.eq_def (And.intro @iY.eq_1 (And.intro @iY.eq_2 (And.intro @mF.eq_1 (And.intro @mF.eq_2 (And.intro @I0.eq_1 (And.intro @I0.eq_2 (And.intro @x6.eq_def (And.intro @qI.eq_def (And.intro @vI.eq_def (And.intro @rH.eq_def (And.intro @DD.eq_def (And.intro @Pm.eq_def (And.intro @P5.eq_def (And.intro @G3.eq_def (And.intro @qY.eq_def (And.intro @cX.eq_def (And.intro @OI.eq_1 (And.intro (And.intro @OG.eq_1 (And.intro @F9.eq_1 (And.intro @F9.eq_2 (And.intro @Mi.eq_def (And.intro @AJ.eq_def (And.intro @DF.eq_def (And.intro @ux.eq_def (And.intro @G1.eq_def (And.intro @mR.eq_1 (And.intro @mR.eq_2 @oJ.eq_def)))))))))) (And.intro @Iw.eq_1 (And.intro @I2.eq_def (And.intro @ME.eq_def (And.intro @tT.eq_def (And.intro @Dv.eq_def (And.intro @LS.eq_1 (And.intro @Bk.wd.eq_def (And.intro @Bk.len.eq_def (And.intro @Bk.plain.eq_def (And.intro @yU.eq_def (And.intro @aQ.eq_def (And.intro @L5.eq_def (And.intro @uG.eq_def (And.intro @dX.eq_def (And.intro
 @iR.eq_def (And.intro @OR.eq_def (And.intro @cellsOf.eq_def (And.intro @V.ob.eq_def (And.intro @BQ.eq_def (And.intro @DK.eq_def (And.intro @pe.eq_def (And.intro @NM.eq_def (And.intro @PZ.eq_def (And.intro @LW.eq_def (And.intro @yg.eq_def (And.intro @Po.eq_def (And.intro @rF.eq_def (And.intro @jZ.eq_def (And.intro @gg.eq_def (And.intro @kv.eq_def (And.intro @gz.eq_def (And.intro
 @nv.eq_def (And.intro @gj.eq_def (And.intro @lB.eq_def (And.intro @FN.eq_def (And.intro @n7.eq_def (And.intro @Jb.eq_def (And.intro @HN.eq_1 (And.intro @DW.agg.eq_def (And.intro @MK.eq_def
 (And.intro @zL.eq_def (And.intro @iu.eq_def (And.intro @iG.eq_def (And.intro @lU.eq_1 (And.intro @G4.eq_def (And.intro @A8.eq_def (And.intro @Kf.eq_def (And.intro @M1.eq_def (And.intro
 @Nat.zero_add (And.intro @Nat.add_zero (And.intro @decide_true (And.intro @decide_false (And.intro @true_and (And.intro @and_true (And.intro @Bool.or_false (And.intro @Bool.false_or (And.intro @Bool.or_true (And.intro
 @Bool.true_or (And.intro @Bool.and_true (And.intro @Bool.true_and (And.intro @Bool.false_and (And.intro @Bool.and_false (And.intro @Bool.not_true (And.intro @Bool.not_false (And.intro @or_false (And.intro @or_true
 (And.intro @false_or (@true_or))))))))))))))))))))))))))))))))))))))))))))))))))))))))))))))))))))))))))))))))))))))))))))))))))))))))))))
))))))))))
end Go.Eng
namespace Go.Eng
open Go
def Y9 (v' v:V)(r:List (Nat×Option Nat)):List (Nat×Option Nat):=
 match v' with
 |.one (.own b' _ _ _)=>match v with
  |.one (.own b _ _ _)=>(b',some b)::r
  |.one .nil=>(b',none)::r
  |_=>r
 |.one (.ptr b' _)=>match v with
  |.one (.ptr b _)=>(b',some b)::r
  |_=>r
 |.one (.win b' c' _ _)=>match v with
  |.one (.win b c _ _)=>(b',some b)::(c',some c)::r
  |.one (.own b _ _ _)=>(b',some b)::r
  |_=>r
 |_=>r
def Y8 (env:List (Nat×V)):List (Nat×V)→List (Nat×Option Nat)
 |[]=>[]
 |(t,v')::r=>Y9 v' (lk env t) (Y8 env r)
theorem Sa {e e':List (Nat×V)}{o o':List (Nat×fA)}{x x' n:Nat}(h:(rV (Y8 e e') 0=some 0∧0<x')∧Y0 (Y8 e e') x' e e'∧Y4 (Y8 e e') x' o o'∧Y6 (Y8 e e') o'):Sub ⟨e,o,x,n⟩ ⟨e',o',x',n⟩:=
 Sub.of (Y8 e e') h.1 rfl h.2.1 h.2.2.1 h.2.2.2
def aW:List V→List V→Prop
 |[],[]=>True
 |x::xs,y::ys=>Y1 [] 0 x y∧aW xs ys
 |_,_=>False
def cV (x y:V):Prop:=
 match y with
 |.aF ys=>match x with
  |.aF xs=>aW xs ys
  |_=>False
 |_=>Y1 [] 0 x y
theorem rY {x y:V}(h:Y1 [] 0 x y)(ok:Nat→Prop)(w:World)(v:Value)(hr:bY bm bn ok w x v):bY bm bn ok w y v:=by
 have h1:=sR (ok':=ok) (Ext.refl ok w) h hr;have e:(fun b=>b<0)=bn:=by funext b;simp[bn]
 have e2:bT [] bm=bm:=by funext b;rfl
 rw[e,e2]at h1;exact h1
theorem Va {
      x y:V} (h:cV x y):fT x y:=by
 intro ok w v hr
 cases y with
 |aF ys=>
  cases x with
  |aF xs=>
   obtain⟨vs,hv,hl⟩:=hr;refine⟨vs,hv,?_⟩;have key:∀(xs ys:List V) (vs:List Value),aW xs ys→a6 bm bn ok w xs vs→a6 bm bn ok w ys vs:=by
    intro xs
    induction xs with
    |nil=>
     intro ys vs h hl
     cases ys with
     |nil=>exact hl
     |cons y ys=>exact h.elim
    |cons x xs ih=>
     intro ys vs h hl
     cases ys with
     |nil=>exact h.elim
     |cons y ys=>
      cases vs with
      |nil=>exact hl.elim
      |cons v vs=>
       refine⟨?_,ih ys vs h.2 hl.2⟩;have h1:=h.1;have hx:∀t,x≠ .aF t:=by
        intro t ht
        have:=hl.1
        rw[ht]at this;exact this
       have hy:∀t,y≠ .aF t:=by
        intro t ht;rw[ht]at h1;exact h1
       have h2:bY bm bn ok w x v:=by
        cases x with
        |aF t=>exact absurd rfl (hx t)
        |_=>exact hl.1
       have h3:=rY h1 ok w v h2
       cases y with
       |aF t=>exact absurd rfl (hy t)
       |_=>exact h3
   exact key xs ys vs.toList h hl
  |_=>exact h.elim
 |unk=>exact rY (by cases x<;>exact h) ok w v hr
 |one c=>exact rY (by cases x<;>exact h) ok w v hr
 |agg cs=>exact rY (by cases x<;>exact h) ok w v hr
end Go.Eng
namespace Go.Eng
open Go
def lE (s:St)(B:Bk)(x:V):Prop:=
 match x with
 |.one (.own b wd off len)=>off=0∧wd=B.wd∧len=B.len∧b7 (lo s.own b) fun B'=>B'.rw=true∧Y5 [] 0 B'.bk B
 |.one .nil=>Y7 B
 |_=>False
def Is (rs:List ResultVar)(B:Bk):Exit→St→Prop
 |.ret,s=>match rs with
  |[.tmp t]=>lE s B (lk s.env t)
  |_=>False
 |.normal,s=>match rs with
  |[.tmp t]=>lE s B (lk s.env t)
  |_=>False
 |_,_=>False
def Fl (B' B:Bk):Prop:=
 match B with
 |.ints _ k xs=>match B' with
  |.ints _ k' xs'=>k'=k∧xs'.take xs.length=xs
  |_=>False
 |.rows _ w n f=>match B' with
  |.rows _ w' n' f'=>w'=w∧n≤n'∧∀i j,i<n→j<w→f' i j=f i j
  |.wins _ _ n' g=>w=1∧n≤n'∧∀i,i<n→D6 (g i)=true∧g i=f i 0
  |_=>False
 |.var _=>False
 |.wins .. =>False
def GN (rs:List ResultVar)(B:Bk)(c:C):Exit→St→Prop
 |.ret,s=>match rs with
  |[.tmp t,.tmp u]=>lE s B (lk s.env t)∧lk s.env u= .one c
  |_=>False
 |.normal,s=>match rs with
  |[.tmp t,.tmp u]=>lE s B (lk s.env t)∧lk s.env u= .one c
  |_=>False
 |_,_=>False
theorem GK {rs:List ResultVar}{B:Bk}{c:C}{e:Exit}{s:St}(h:GN rs B c e s):(e= .normal∨e= .ret)∧∃t u,rs=[.tmp t,.tmp u]∧lE s B (lk s.env t)∧lk s.env u= .one c:=by
 unfold GN at h
 split at h
 ·split at h
  ·exact⟨.inr rfl,_,_,rfl,h⟩
  exact h.elim
 ·split at h
  ·exact⟨.inl rfl,_,_,rfl,h⟩
  exact h.elim
 exact h.elim
def mO (s:St)(B:Bk)(x:V):Prop:=
 match x with
 |.one (.own b wd off len)=>off=0∧wd=B.wd∧len=B.len∧b7 (lo s.own b) fun B'=>B'.rw=true∧Fl B'.bk B
 |.one .nil=>Y7 B
 |_=>False
theorem F5 {B' B:Bk}(hB:B.flat)(h:Y5 [] 0 B' B):Fl B' B:=by
 cases B with
 |var cs=>exact hB.elim
 |wins e b2 n g=>exact hB.elim
 |ints e k xs=>
  cases B' with
  |ints e' k' xs'=>obtain⟨rfl,rfl⟩:=h;exact⟨rfl,List.take_length⟩
  |_=>exact h.elim
 |rows e w n f=>
  cases B' with
  |rows e' w' n' f'=>obtain⟨rfl,rfl,h⟩:=h;exact⟨rfl,Nat.le_refl _,h⟩
  |wins e' b2 n' g=>obtain⟨rfl,rfl,h⟩:=h;exact⟨rfl,Nat.le_refl _,h⟩
  |_=>exact h.elim
theorem yG {s:St}{B:Bk}{x:V}(hB:B.flat)(h:lE s B x):mO s B x:=by
 unfold lE at h;unfold mO
 split at h
 ·obtain⟨h1,h2,h3,h4⟩:=h;refine⟨h1,h2,h3,?_⟩;unfold b7 at h4⊢
  split at h4
  ·exact⟨h4.1,F5 hB h4.2⟩
  exact h4.elim
 ·exact h
 exact h.elim
theorem wy {B' B:Bk}(h:Fl B' B)(j:Nat)(c:C)(hc:B.cell j=some c):B'.cell j=some c:=by
 cases B with
 |var cs=>exact h.elim
 |wins e b2 n g=>exact h.elim
 |ints e k xs=>
  cases B' with
  |ints e' k' xs'=>
   obtain⟨rfl,h⟩:=h;simp only[Bk.cell]at hc⊢;rw[←h,List.getElem?_take]at hc
   split at hc
   ·exact hc
   cases hc
  |_=>exact h.elim
 |rows e w n f=>
  cases B' with
  |rows e' w' n' f'=>
   obtain⟨rfl,hn,h⟩:=h;simp only[Bk.cell]at hc⊢
   split at hc
   ·rename_i Ru
    have hw:0<w':=Nat.pos_of_ne_zero fun h0=>by subst h0;simp at Ru
    have h1:j/w'<n:=by rw[Nat.div_lt_iff_lt_mul hw];exact Ru
    rw[if_pos (Nat.lt_of_lt_of_le Ru (Nat.mul_le_mul_right _ hn)),h _ _ h1 (Nat.mod_lt _ hw)];exact hc
   cases hc
  |wins e' b2 n' g=>
   obtain⟨rfl,hn,h⟩:=h;simp only[Bk.cell,Nat.mul_one,Nat.div_one,Nat.mod_one]at hc⊢
   split at hc
   ·rename_i Ru
    rw[if_pos (by omega),(h j Ru).2];exact hc
   cases hc
  |_=>exact h.elim
theorem E5 {B' B:Bk}(h:Fl B' B):B.flat∧∀cs,B'≠ .var cs:=by
 cases B<;>cases B'<;>first|exact h.elim|exact ⟨trivial,fun _ e=>by cases e⟩
theorem HO {B:Bk}{e:TypeId}{b2 n:Nat}{g:Nat→C}(h:Fl (.wins e b2 n g) B){j:Nat}{c:C}(hc:B.cell j=some c):D6 c=true:=by
 cases B with
 |rows e w n f=>
  obtain⟨rfl,hn,h⟩:=h;simp only[Bk.cell,Nat.mul_one,Nat.div_one,Nat.mod_one]at hc
  split at hc
  ·rename_i Ru
   obtain⟨h1,h2⟩:=h j Ru;rw[h2]at h1;obtain rfl:=Option.some.inj hc;exact h1
  cases hc
 |_=>exact h.elim
theorem Bk.oE {B:Bk}(h:B.flat):B.plain:=by cases B<;>first|exact h.elim|trivial
theorem results_tmp {P:Program}{fn:Func}{t:Tmp}(h:fn.results.toList=[.tmp t])(tmps:Array Value)(w:World):(results fn tmps).run P w= .ok (tmps.getD t undef) w:=by
 have:fn.results= #[.tmp t]:=Array.toList_inj.1 h
 unfold results;rw[this]
 simp[Sem.run_bind,Sem.run_pure]
def QL (rs:List ResultVar)(B:Bk):Exit→St→Prop
 |.ret,s=>match rs with
  |[.tmp t]=>mO s B (lk s.env t)
  |_=>False
 |.normal,s=>match rs with
  |[.tmp t]=>mO s B (lk s.env t)
  |_=>False
 |_,_=>False
theorem GO {rs:List ResultVar}{B:Bk}{e:Exit}{s:St}(h:Is rs B e s):(e= .normal∨e= .ret)∧∃t,rs=[.tmp t]∧lE s B (lk s.env t):=by
 unfold Is at h
 split at h
 ·split at h
  ·exact⟨.inr rfl,_,rfl,h⟩
  exact h.elim
 ·split at h
  ·exact⟨.inl rfl,_,rfl,h⟩
  exact h.elim
 exact h.elim
def Ma (b2:Nat)(c:C)(g:Nat→C):Prop:=(∃wd o l,c= .own b2 wd o l∧∀b,g b= .own b wd o l)∨(D6 c=true∧∀b,g b=c)
def Ek (s:St)(n:Nat)(g:Nat→Nat→C)(B:Bk)(x:V):Prop:=
 match x with
 |.one (.win b b2 off len)=>off=0∧len=n∧b≠b2∧b7 (lo s.own b) (fun W=>W.rw=true∧match W.bk with
   |.wins _ _ n' g'=>n'=n∧∀i,i<n→Ma b2 (g' i) (fun b=>g b i)
   |_=>False)∧b7 (lo s.own b2) fun B'=>B'.rw=true∧Y5 [] 0 B'.bk B
 |_=>False
theorem ug {w w':World}{ok:Nat→Prop}{ρ:Nat→Loc}{s':St}{a:Act}{t:Tmp}{B:Bk}(hB:B.flat)
  (hs:aR {W0:=w,forb:=fun g=>g<w.heap.size∧¬ok g,mine:=fun _=>False} (fun b=>b<s'.nx) ρ s' a w') (Uc:mO s' B (lk s'.env t)):
  ∃l:Loc,l.len=B.len∧(∀g o,l.addr=some (g,o)→w.heap.size≤g∧g<w'.heap.size)∧
   aL bm bn (fun g=>ok g∨(w.heap.size≤g∧g<w'.heap.size∧∀o,l.addr≠some (g,o))) w' l B∧ey (fun _=>l) (fun _=>True) (fun _=>False) w' (.own 0 B.wd 0 B.len) (a.tmps.getD t undef):=by
 have RA:=hs.env t;unfold mO at Uc
 split at Uc
 ·rename_i b wd off len hx
  obtain⟨rfl,rfl,rfl,h4⟩:=Uc
  cases RS:lo s'.own b with
  |none=>rw[RS]at h4;exact h4.elim
  |some B'=>
   rw[RS]at h4;obtain⟨h5,h6⟩:=h4;obtain⟨hd,Wo,Vq,WQ⟩:=hs.own b B' RS;rw[hx]at RA;obtain⟨_,h7,h8⟩:=RA;refine⟨⟨(ρ b).addr,B.len⟩,rfl,fun g o ha=>?_,?_,trivial,(by simp),h8⟩
   ·obtain⟨h9,_,TU⟩:=WQ g o ha
    rcases TU with TU|TU
    ·exact⟨TU,h9⟩
    exact TU.elim
   have h9:aL ρ (fun b=>b<s'.nx) (aE {W0:=w,forb:=fun g=>g<w.heap.size∧¬ok g,mine:=fun _=>False} s'.own ρ w') w' ⟨(ρ b).addr,B.len⟩ B:=by
    unfold aL at Vq⊢;simp only
    cases ha:(ρ b).addr with
    |none=>
     rw[ha]at Vq;intro j
     cases hc:B.cell j with
     |none=>rfl
     |some c=>exact absurd (Vq j) (by simp[wy h6 j c hc])
    |some x=>
     obtain⟨g,o⟩:=x;rw[ha]at Vq;obtain⟨cur,e,hg,hc⟩:=Vq;refine⟨cur,e,hg,fun j c hj=>?_⟩;obtain⟨u,hu,hr⟩:=hc j c (wy h6 j c hj);refine⟨u,hu,?_⟩;obtain⟨hf2,Yr⟩:=E5 h6;have hrI:aO (aE {W0:=w,forb:=fun g=>g<w.heap.size∧¬ok g,mine:=fun _=>False} s'.own ρ w') w' c u:=by
      cases Se:B'.bk with
      |var cs=>exact absurd Se (Yr cs)
      |ints e' k' xs'=>rw[Se]at hr;exact hr
      |rows e' w'' n' f'=>rw[Se]at hr;exact hr
      |wins e' b2 n' g'=>rw[Se]at hr h6;exact s6 (HO h6 hj) hr
     cases B with
     |var cs=>exact hf2.elim
     |wins e b2 n g=>exact hf2.elim
     |ints e k xs=>exact hrI
     |rows e w2 n f=>exact hrI
   refine h9.gP (Bk.oE hB) fun g hg=>?_
   by_cases Xu:g<w.heap.size
   ·by_cases TC:ok g
    ·exact .inl TC
    exact absurd ⟨Xu,TC⟩ hg.2.1
   exact .inr ⟨by omega,hg.1,fun o ha=>hg.2.2 b B' RS h5 o ha⟩
 ·rename_i hx
  rw[hx]at RA;have RA:a.tmps.getD t undef= .slice none 0 0:=RA;have Xx:B.len=0:=by
   cases B with
   |var cs=>exact Uc.elim
   |ints e k xs=>have:xs=[]:=Uc;subst this;rfl
   |rows e wd n f=>have:n=0:=Uc;subst this;rfl
   |wins e b2 n g=>exact hB.elim
  have hBc:∀j,B.cell j=none:=by
   intro j
   cases B with
   |var cs=>exact Uc.elim
   |ints e k xs=>have:xs=[]:=Uc;subst this;simp[Bk.cell]
   |rows e wd n f=>have:n=0:=Uc;subst this;simp[Bk.cell]
   |wins e b2 n g=>exact hB.elim
  have RI:ey (fun _=>(⟨none,0⟩:Loc)) (fun _=>True) (fun _=>False) w' (.own 0 B.wd 0 B.len) (a.tmps.getD t undef):=by
   rw[Xx];exact⟨trivial,Nat.le_refl _,0,Nat.le_refl _,.inr ⟨rfl,RA,rfl,rfl⟩⟩
  exact⟨⟨none,0⟩,Xx.symm,fun g o ha=>absurd ha (by simp),hBc,RI⟩
 exact Uc.elim
theorem yh {w:World}{ok:Nat→Prop}{args:List V}{n:Nat}(Ry:args.length≤n){vs:Array Value}(RW:∀g,ok g→g<w.heap.size)(R1:a6 bm bn ok w args vs.toList):
  oL {W0:=w,forb:=fun g=>g<w.heap.size∧¬ok g,mine:=fun _=>False} (iS args n) {tmps:=vs++Array.replicate (n-vs.size) undef,defers:=[]} w:=by
 have hlen:=a6.length R1;simp only[Array.length_toList]at hlen
 let G:Ctx:={W0:=w,forb:=fun g=>g<w.heap.size∧¬ok g,mine:=fun _=>False}
 let a0:Act:={tmps:=vs++Array.replicate (n-vs.size) undef,defers:=[]}
 have Vd:∀g,ok g→aE G [] bm w g:=fun g hg=>⟨RW g hg,fun hf=>hf.2 hg,fun b B hl=>by cases hl⟩;show oL G (iS args n) a0 w;refine⟨bm,{hd:=rfl,hn:=?_,env:=fun t=>?_,own:=fun b B hl=>(by cases hl),inj:=fun b B b' B' hl=>(by cases hl),os:=rfl,tape:=rfl,output:=rfl,size:=Nat.le_refl _,keep:=fun _ _ _=>rfl,wf:=fun k hk=>hk.1,home:=fun l hl=>(by cases hl),room:=fun _=>Nat.le_refl _}⟩
 ·simp[a0,iS];omega
 simp only[iS,nH]
 split
 ·rename_i ht
  simp only[Nat.sub_zero,Nat.zero_add]at ht⊢;have hx:args[t]? =some (args.getD t .unk):=by
   rw[X7,X8 ht.2];rfl
  obtain⟨v,hv,hr⟩:=a6.get R1 t _ hx;have YS:a0.tmps.getD t undef=v:=by
   rw[Array.getElem?_toList]at hv;have Ru:=(Array.getElem?_eq_some_iff.1 hv).1;simp only[a0,Array.getD_eq_getD_getElem?];rw[Array.getElem?_append_left Ru,hv];rfl
  rw[YS];exact bY.vV (dJ.ext (Ext.du Vd) ⟨fun b hb=>hb.elim,fun b hb=>hb.elim⟩ _ _ hr)
 trivial
theorem xF {P:Program}{T:fB}(hT:eH P T)(hm:P.follows .mixedOrders=true){f:FuncId}{fn:Func}{c:Code}(hf:P.funcs[f]? =some fn)(hb:fn.body=some c)(hn:(fn.name== "runtime.NumGoroutine")=false)
  (args:List V) (Ry:args.length≤fn.ntmps) (keep:Kp) (RO:codeOk keep c=true) (B:Bk) (hB:B.flat)
  (RET:Exit→St→Prop) (hret:∀e s,RET e s→(e= .normal∨e= .ret)∧∃t,fn.results.toList=[.tmp t]∧mO s B (lk s.env t))
  (h:vc T P keep c (iS args fn.ntmps) RET):Fr P f args B:=by
 refine⟨⟨fn,hf,by rw[hb];rfl,hn⟩,hB,fun ok w vs RW R1=>?_⟩
 let G:Ctx:={W0:=w,forb:=fun g=>g<w.heap.size∧¬ok g,mine:=fun _=>False}
 have RC:=yh Ry RW R1;refine calls_of_wp hf hb (wp_mono (mv hT hm keep c RO _ _ h G _ w RC) ?_);rintro e a w' ⟨s',hq,ρ,hs⟩;obtain⟨he,t,SR,Uc⟩:=hret _ _ hq;have SM:=results_tmp (P:=P) SR a.tmps w';have SU:Go.RowKit.Below w.heap.size w w':=⟨hs.os,hs.tape,hs.output,hs.size,fun k hk=>hs.keep k hk (fun hf=>hf)⟩;obtain⟨l,h1,h2,h3,h4⟩:=ug hB hs Uc;have fin:a.defers=[]∧∃v,(results fn a.tmps).run P w'= .ok v w'∧∃u l,Ending.returned v= .returned u∧Go.RowKit.Below w.heap.size w w'∧l.len=B.len∧(∀g o,l.addr=some (g,o)→w.heap.size≤g∧g<w'.heap.size)∧
   aL bm bn (fun g=>ok g∨(w.heap.size≤g∧g<w'.heap.size∧∀o,l.addr≠some (g,o))) w' l B∧ey (fun _=>l) (fun _=>True) (fun _=>False) w' (.own 0 B.wd 0 B.len) u:=
  ⟨hs.hd,_,SM,_,l,rfl,SU,h1,h2,h3,h4⟩
 rcases he with rfl|rfl
 ·exact fin
 exact fin
theorem xO {P:Program}{T:fB}(hT:eH P T)(hm:P.follows .mixedOrders=true){f:FuncId}{fn:Func}{c:Code}(hf:P.funcs[f]? =some fn)(hb:fn.body=some c)(hn:(fn.name== "runtime.NumGoroutine")=false)
  (args:List V) (Ry:args.length≤fn.ntmps) (keep:Kp) (RO:codeOk keep c=true) (B:Bk) (c0:C) (hB:B.flat) (SI:l9 c0)
  (h:vc T P keep c (iS args fn.ntmps) (GN fn.results.toList B c0)):dG P f args B c0:=by
 refine⟨SI,⟨fn,hf,by rw[hb];rfl,hn⟩,hB,fun ok w vs RW R1=>?_⟩
 let G:Ctx:={W0:=w,forb:=fun g=>g<w.heap.size∧¬ok g,mine:=fun _=>False}
 have RC:=yh Ry RW R1;refine calls_of_wp hf hb (wp_mono (mv hT hm keep c RO _ _ h G _ w RC) ?_);rintro e a w' ⟨s',hq,ρ,hs⟩;obtain⟨he,t,u,SR,Uc,hu⟩:=GK hq;have SU:Go.RowKit.Below w.heap.size w w':=⟨hs.os,hs.tape,hs.output,hs.size,fun k hk=>hs.keep k hk (fun hf=>hf)⟩;obtain⟨l,h1,h2,h3,h4⟩:=ug hB hs (yG hB Uc);have SM:(results fn a.tmps).run P w'= .ok (.tuple #[a.tmps.getD t undef,a.tmps.getD u undef]) w':=by
  have:fn.results= #[.tmp t,.tmp u]:=Array.toList_inj.1 SR
  unfold results;rw[this]
  simp[Sem.run_bind,Sem.run_pure]
 have YM:aA bm bn (fun _=>False) w' c0 (a.tmps.getD u undef):=by
  have:=hs.env u
  rw[hu]at this
  cases c0<;>first|exact SI.elim|exact this
 have fin:a.defers=[]∧∃v,(results fn a.tmps).run P w'= .ok v w'∧∃x y l,Ending.returned v= .returned (.tuple #[x,y])∧Go.RowKit.Below w.heap.size w w'∧l.len=B.len∧(∀g o,l.addr=some (g,o)→w.heap.size≤g∧g<w'.heap.size)∧
   aL bm bn (fun g=>ok g∨(w.heap.size≤g∧g<w'.heap.size∧∀o,l.addr≠some (g,o))) w' l B∧ey (fun _=>l) (fun _=>True) (fun _=>False) w' (.own 0 B.wd 0 B.len) x∧aA bm bn (fun _=>False) w' c0 y:=
  ⟨hs.hd,_,SM,_,_,l,rfl,SU,h1,h2,h3,h4,YM⟩
 rcases he with rfl|rfl
 ·exact fin
 exact fin
def Oe (rs:List ResultVar)(n:Nat)(g:Nat→Nat→C)(B:Bk)(c:Option C):Exit→St→Prop
 |.ret,s=>match rs,c with
  |[.tmp t,.tmp u],some c=>Ek s n g B (lk s.env t)∧lk s.env u= .one c
  |[.tmp t],none=>Ek s n g B (lk s.env t)
  |_,_=>False
 |.normal,s=>match rs,c with
  |[.tmp t,.tmp u],some c=>Ek s n g B (lk s.env t)∧lk s.env u= .one c
  |[.tmp t],none=>Ek s n g B (lk s.env t)
  |_,_=>False
 |_,_=>False
theorem G6 {rs:List ResultVar}{n:Nat}{g:Nat→Nat→C}{B:Bk}{c:Option C}{e:Exit}{s:St}(h:Oe rs n g B c e s):(e= .normal∨e= .ret)∧∃t,Ek s n g B (lk s.env t)∧((∃u c',c=some c'∧rs=[.tmp t,.tmp u]∧lk s.env u= .one c')∨(c=none∧rs=[.tmp t])):=by
 unfold Oe at h
 split at h
 ·split at h
  ·exact⟨.inr rfl,_,h.1,.inl ⟨_,_,rfl,rfl,h.2⟩⟩
  ·exact⟨.inr rfl,_,h,.inr ⟨rfl,rfl⟩⟩
  exact h.elim
 ·split at h
  ·exact⟨.inl rfl,_,h.1,.inl ⟨_,_,rfl,rfl,h.2⟩⟩
  ·exact⟨.inl rfl,_,h,.inr ⟨rfl,rfl⟩⟩
  exact h.elim
 exact h.elim
theorem yv {P:Program}{T:fB}(hT:eH P T)(hm:P.follows .mixedOrders=true){f:FuncId}{fn:Func}{c:Code}(hf:P.funcs[f]? =some fn)(hb:fn.body=some c)(hn:(fn.name== "runtime.NumGoroutine")=false)
  (args:List V) (Ry:args.length≤fn.ntmps) (keep:Kp) (RO:codeOk keep c=true) (n:Nat) (g0:Nat→Nat→C) (B:Bk) (c0:Option C) (hB:B.flat) (SI:∀c',c0=some c'→l9 c')
  (h:vc T P keep c (iS args fn.ntmps) (Oe fn.results.toList n g0 B c0)):uA P f args n g0 B c0:=by
 refine⟨SI,⟨fn,hf,by rw[hb];rfl,hn⟩,hB,fun ok w vs RW R1=>?_⟩
 let G:Ctx:={W0:=w,forb:=fun g=>g<w.heap.size∧¬ok g,mine:=fun _=>False}
 have RC:=yh Ry RW R1;refine calls_of_wp hf hb (wp_mono (mv hT hm keep c RO _ _ h G _ w RC) ?_);rintro e a w' ⟨s',hq,ρ,hs⟩;obtain⟨he,t,Uc,SR⟩:=G6 hq;have SU:Go.RowKit.Below w.heap.size w w':=⟨hs.os,hs.tape,hs.output,hs.size,fun k hk=>hs.keep k hk (fun hf=>hf)⟩;have RA:=hs.env t;unfold Ek at Uc
 split at Uc
 rotate_left
 ·exact Uc.elim
 rename_i b b2 off len hx
 obtain⟨rfl,rfl,RE,h4,h5⟩:=Uc
 cases RS:lo s'.own b with
 |none=>rw[RS]at h4;exact h4.elim
 |some W=>
  cases Vg:lo s'.own b2 with
  |none=>rw[Vg]at h5;exact h5.elim
  |some B'=>
   rw[RS]at h4;rw[Vg]at h5;obtain⟨h6,h7⟩:=h4;obtain⟨h8,h9⟩:=h5;obtain⟨Vu,SW,T7,hg1⟩:=hs.own b W RS;obtain⟨UR,Rv,U8,hg2⟩:=hs.own b2 B' Vg;have hfW:∃e3 b3 n3 g3,W.bk= .wins e3 b3 n3 g3∧n3=len∧∀i,i<len→Ma b2 (g3 i) (fun b=>g0 b i):=by
    cases hW:W.bk with
    |wins e3 b3 n3 g3=>rw[hW]at h7;exact⟨e3,b3,n3,g3,rfl,h7.1,h7.2⟩
    |_=>rw[hW]at h7;exact h7.elim
   obtain⟨e3,b3,n3,g3,hW,rfl,Yb⟩:=hfW;obtain⟨u,SM,YM⟩:∃u,(results fn a.tmps).run P w'= .ok (yF c0 (a.tmps.getD t undef) u) w'∧∀c',c0=some c'→aA bm bn (fun _=>False) w' c' u:=by
    rcases SR with⟨u,c',rfl,SR,hu⟩|⟨rfl,SR⟩
    ·refine⟨a.tmps.getD u undef,?_,fun c'' e=>?_⟩
     ·have:fn.results= #[.tmp t,.tmp u]:=Array.toList_inj.1 SR
      unfold results;rw[this]
      simp[Sem.run_bind,Sem.run_pure,yF]
     obtain rfl:=Option.some.inj e
     have:=hs.env u
     rw[hu]at this;have Wj:=SI c' rfl
     cases c'<;>first|exact Wj.elim|exact this
    refine⟨undef,?_,fun c'' e=>by cases e⟩
    have:fn.results= #[.tmp t]:=Array.toList_inj.1 SR
    unfold results;rw[this]
    simp[Sem.run_bind,Sem.run_pure,yF]
   rw[hx]at RA;rw[hW]at T7 SW;have SW:(ρ b).len=n3:=SW;have hl2':(ρ b2).len=B.len:=by rw[Rv];exact(zZ h9).symm
   have YW:∀g,aE G s'.own ρ w' g→(ok g∨(w.heap.size≤g∧g<w'.heap.size∧∀o,(ρ b).addr≠some (g,o)∧(ρ b2).addr≠some (g,o))):=fun g hg=>by
    by_cases Xu:g<w.heap.size
    ·by_cases TC:ok g
     ·exact .inl TC
     exact absurd ⟨Xu,TC⟩ hg.2.1
    exact .inr ⟨by omega,hg.1,fun o=>⟨fun ha=>hg.2.2 b W RS h6 o ha,fun ha=>hg.2.2 b2 B' Vg h8 o ha⟩⟩
   have Vq:aL bm bn (fun g=>ok g∨(w.heap.size≤g∧g<w'.heap.size∧∀o,(ρ b).addr≠some (g,o)∧(ρ b2).addr≠some (g,o))) w' (ρ b2) B:=by
    exact aL.gP (Bk.oE hB) YW (tK (ok':=aE G s'.own ρ w') (Ext.refl _ _) h9 U8)
   have new:∀c B,lo s'.own c=some B→∀g o,(ρ c).addr=some (g,o)→w.heap.size≤g∧g<w'.heap.size:=fun c B hc g o ha=>by
    obtain⟨k1,_,k2⟩:=(hs.own c B hc).2.2.2 g o ha
    rcases k2 with k2|k2
    ·exact⟨k2,k1⟩
    exact k2.elim
   have fin:a.defers=[]∧∃v,(results fn a.tmps).run P w'= .ok v w'∧∃x y l1 l2,Ending.returned v= .returned (yF c0 x y)∧Go.RowKit.Below w.heap.size w w'∧l1.len=n3∧l2.len=B.len∧
     (∀g o,l1.addr=some (g,o)→w.heap.size≤g∧g<w'.heap.size)∧(∀g o,l2.addr=some (g,o)→w.heap.size≤g∧g<w'.heap.size)∧(∀g o o',l1.addr=some (g,o)→l2.addr≠some (g,o'))∧
     aL bm bn (fun g=>ok g∨(w.heap.size≤g∧g<w'.heap.size∧∀o,l1.addr≠some (g,o)∧l2.addr≠some (g,o))) w' l2 B∧
     (∀(ρ:Nat→Loc) (dom ok':Nat→Prop) (b b2:Nat),ρ b=l1→ρ b2=l2→dom b→dom b2→(∀g,(ok g∨(w.heap.size≤g∧g<w'.heap.size∧∀o,l1.addr≠some (g,o)∧l2.addr≠some (g,o)))→ok' g)→
      aL ρ dom ok' w' l1 (.wins 0 b2 n3 (g0 b2))∧aA ρ dom ok' w' (.win b b2 0 n3) x)∧∀c',c0=some c'→aA bm bn (fun _=>False) w' c' y:=by
    refine⟨hs.hd,_,SM,_,_,ρ b,ρ b2,rfl,SU,SW,hl2',new b W RS,new b2 B' Vg,fun g o o' ha=>hs.inj b W b2 B' RS Vg RE h6 g o o' ha,Vq,fun ρ' dom ok' c c2 e1 e2 d1 d2 hok2=>⟨?_,?_⟩,YM⟩
    ·unfold aL at T7⊢
     cases ha:(ρ b).addr with
     |none=>
      rw[ha]at T7;intro j
      have:=T7 j
      simp only[Bk.cell]at this⊢
      split at this
      ·cases this
      rename_i hj;rw[if_neg hj]
     |some x=>
      obtain⟨g,o⟩:=x;rw[ha]at T7;obtain⟨cur,e4,hg4,Ww⟩:=T7;refine⟨cur,e4,hg4,fun j cc hj=>?_⟩;simp only[Bk.cell]at hj Ww
      split at hj
      ·rename_i R4
       obtain⟨uu,Wh,SD⟩:=Ww j (g3 j) (if_pos R4);refine⟨uu,Wh,?_⟩;obtain rfl:=Option.some.inj hj
       rcases Yb j R4 with⟨wd,o1,l1,k0,k1⟩|⟨k0,k1⟩
       ·rw[k0]at SD;obtain⟨_,k2⟩:=SD;show aA ρ' dom ok' w' (g0 c2 j) uu;rw[show g0 c2 j=_ from k1 c2];exact⟨d2,by rw[e2];exact k2⟩
       show aA ρ' dom ok' w' (g0 c2 j) uu;rw[show g0 c2 j=_ from k1 c2];exact aA.bh (aO.ext (Ext.du fun g hg=>hok2 g (YW g hg)) _ _ (s6 k0 SD))
      cases hj
    obtain⟨_,_,k2⟩:=RA;exact⟨d2,d1,by rw[e1];exact k2⟩
   rcases he with rfl|rfl
   ·exact fin
   exact fin
theorem zc {P:Program}{T:fB}(hT:eH P T)(hm:P.follows .mixedOrders=true){f:FuncId}{fn:Func}{c:Code}(hf:P.funcs[f]? =some fn)(hb:fn.body=some c)(hn:(fn.name== "runtime.NumGoroutine")=false)
  (args:List V) (Ry:args.length≤fn.ntmps) (keep:Kp) (RO:codeOk keep c=true) (B:Bk) (hB:B.flat)
  (h:vc T P keep c (iS args fn.ntmps) (Is fn.results.toList B)):Fr P f args B:=
 xF hT hm hf hb hn args Ry keep RO B hB _ (fun _ _ hr=>by obtain⟨h1,t,h2,h3⟩:=GO hr;exact⟨h1,t,h2,yG hB h3⟩) h
def Ci (s:St):List ResultVar→Option V
 |[]=>some (.aF [])
 |[.tmp t]=>some (I2 0 s.own s.nx (lk s.env t))
 |[.tmp t,.tmp u]=>some (.aF [I2 0 s.own s.nx (lk s.env t),I2 0 s.own s.nx (lk s.env u)])
 |_=>none
def H4 (rs:List ResultVar)(R:V→Bk→Prop):Exit→St→Prop
 |.ret,s=>b7 (lo s.own 0) fun B'=>B'.rw=true∧B'.bk.plain∧b7 (Ci s rs) fun r=>R r B'.bk
 |.normal,s=>b7 (lo s.own 0) fun B'=>B'.rw=true∧B'.bk.plain∧b7 (Ci s rs) fun r=>R r B'.bk
 |_,_=>False
def iM (args:List V)(B:Bk)(n:Nat):St:={env:=eO 0 args,own:=[(0,⟨B,true⟩)],nx:=1,n:=n}
theorem JI {rs:List ResultVar}{R:V→Bk→Prop}{e:Exit}{s:St}(h:H4 rs R e s):(e= .normal∨e= .ret)∧∃B' r,lo s.own 0=some B'∧B'.rw=true∧B'.bk.plain∧Ci s rs=some r∧R r B'.bk:=by
 have key:(b7 (lo s.own 0) fun B'=>B'.rw=true∧B'.bk.plain∧b7 (Ci s rs) fun r=>R r B'.bk)→∃B' r,lo s.own 0=some B'∧B'.rw=true∧B'.bk.plain∧Ci s rs=some r∧R r B'.bk:=by
  intro h;unfold b7 at h
  split at h
  ·rename_i B' hB
   obtain⟨h1,h2,h3⟩:=h
   split at h3
   ·rename_i r hr;exact⟨B',r,hB,h1,h2,hr,h3⟩
   exact h3.elim
  exact h.elim
 unfold H4 at h
 split at h
 ·exact⟨.inr rfl,key h⟩
 ·exact⟨.inl rfl,key h⟩
 exact h.elim
theorem Eh {P:Program}{T:fB}(hT:eH P T)(hm:P.follows .mixedOrders=true){f:FuncId}{fn:Func}{c:Code}(hf:P.funcs[f]? =some fn)(hb:fn.body=some c)(hn:(fn.name== "runtime.NumGoroutine")=false)
  (args:List V) (Ry:args.length≤fn.ntmps) (keep:Kp) (RO:codeOk keep c=true) (B:Bk) (hBp:B.plain) (R:V→Bk→Prop)
  (h:vc T P keep c (iM args B fn.ntmps) (H4 fn.results.toList R)):Mc P f args B R:=by
 refine⟨⟨fn,hf,by rw[hb];rfl,hn⟩,fun ok w vs l RW Wo Wq Vq R1=>?_⟩;have hlen:=a6.length R1;simp only[Array.length_toList]at hlen
 let G:Ctx:={W0:=w,forb:=fun g=>g<w.heap.size∧¬ok g∧∀o,l.addr≠some (g,o),mine:=fun g=>∃o,l.addr=some (g,o),home:=some l}
 let a0:Act:={tmps:=vs++Array.replicate (fn.ntmps-vs.size) undef,defers:=[]}
 have Vd:∀g,ok g→aE G [(0,⟨B,true⟩)] (fun _=>l) w g:=fun g hg=>⟨RW g hg,fun hf=>hf.2.1 hg,fun b B2 hl RN o ha=>(Wq g o ha).2 hg⟩;have RC:oL G (iM args B fn.ntmps) a0 w:=by
  refine⟨fun _=>l,{hd:=rfl,hn:=?_,env:=fun t=>?_,own:=fun b B2 hl=>?_,inj:=fun b B1 b' B' hl SC RE=>?_,os:=rfl,tape:=rfl,output:=rfl,size:=Nat.le_refl _,keep:=fun _ _ _=>rfl,wf:=fun k hk=>hk.1,home:=fun l' hl=>?_,room:=fun _=>Nat.le_refl _}⟩
  ·simp[a0,iM];omega
  ·simp only[iM,nH]
   split
   ·rename_i ht
    simp only[Nat.sub_zero,Nat.zero_add]at ht⊢;have hx:args[t]? =some (args.getD t .unk):=by
     rw[X7,X8 ht.2];rfl
    obtain⟨v,hv,hr⟩:=a6.get R1 t _ hx;have YS:a0.tmps.getD t undef=v:=by
     rw[Array.getElem?_toList]at hv;have Ru:=(Array.getElem?_eq_some_iff.1 hv).1;simp only[a0,Array.getD_eq_getD_getElem?];rw[Array.getElem?_append_left Ru,hv];rfl
    rw[YS];exact bY.vV (dJ.ext (Ext.du Vd) ⟨fun b hb=>by omega,fun b hb=>rfl⟩ _ _ hr)
   trivial
  ·simp only[iM,lo]at hl
   split at hl
   ·rename_i Xy
    subst Xy;obtain rfl:=Option.some.inj hl;refine⟨by simp[iM],Wo,Vq.gP hBp Vd,fun g o ha=>⟨(Wq g o ha).1,fun hf=>hf.2.2 o ha,.inr ⟨o,ha⟩⟩⟩
   cases hl
  ·simp only[iM,lo]at hl SC
   split at hl
   ·split at SC
    ·rename_i h1 h2;exact absurd (h1.trans h2.symm) RE
    cases SC
   cases hl
  exact⟨by simp[iM],(Option.some.inj hl)⟩
 refine calls_of_wp hf hb (wp_mono (mv hT hm keep c RO _ _ h G _ w RC) ?_);rintro e a w' ⟨s',hq,ρ,hs⟩;obtain⟨he,B',r,RS,RN,TR,SM,hR⟩:=JI hq;obtain⟨ZS,hρ0⟩:=hs.home l rfl;obtain⟨_,hlB',Wr,hgB'⟩:=hs.own 0 B' RS;have hmb:wP l w w':=⟨hs.os,hs.tape,hs.output,hs.size,fun k hk X9=>hs.keep k hk (fun hf=>by obtain⟨o,ho⟩:=hf;exact X9 o ho),hs.room⟩;have RH:∀g,g<w'.heap.size→¬G.forb g→(∀o,l.addr≠some (g,o))→Fz ok w w' g:=fun g h1 h2 h3=>by
  by_cases Xu:g<w.heap.size
  ·by_cases TC:ok g
   ·exact .inl TC
   exact absurd ⟨Xu,TC,h3⟩ h2
  exact .inr ⟨by omega,h1⟩
 have YX:∀ids,0∉ids→∀g,cU G s'.own ρ w' ids g→Fz ok w w' g:=by
  rintro ids SJ g (h1|⟨b1,Uk,B1,o',SW,R8⟩)
  ·exact RH g h1.1 h1.2.1 fun o ha=>h1.2.2 0 B' RS RN o (by rw[hρ0];exact ha)
  obtain⟨_,_,_,h4⟩:=hs.own b1 B1 SW;obtain⟨h5,h6,_⟩:=h4 g o' R8;exact RH g h5 h6 fun o ha=>hs.inj 0 B' b1 B1 RS SW (fun e=>SJ (e▸Uk)) RN g o o' (by rw[hρ0];exact ha) R8
 have Vb:∃v,(results fn a.tmps).run P w'= .ok v w'∧bY (fun _=>l) (fun b=>b=0) (Fz ok w w') w' r v:=by
  have hmu:∀t,dJ (fun _=>l) (fun b=>b=0) (Fz ok w w') w' (I2 0 s'.own s'.nx (lk s'.env t)) (a.tmps.getD t undef):=by
   intro t;have h1:=vK hs 0 ((kv (lk s'.env t)).filter (fun b=>b !=0)) (lk s'.env t) _ (fun b hb RE=>List.mem_filter.2 ⟨hb,by simpa using RE⟩) (hs.env t);rw[hρ0]at h1;exact dJ.ext (Ext.du (YX _ (by simp))) ⟨fun _ h=>h,fun _ _=>rfl⟩ _ _ h1
  unfold Ci at SM
  split at SM
  ·rename_i SR
   obtain rfl:=Option.some.inj SM
   have:fn.results= #[]:=Array.toList_inj.1 SR
   refine⟨.tuple #[],?_,#[],rfl,trivial⟩;unfold results;rw[this]
   simp[Sem.run_bind,Sem.run_pure]
  ·rename_i t SR
   obtain rfl:=Option.some.inj SM;exact⟨_,results_tmp SR a.tmps w',bY.vV (hmu t)⟩
  ·rename_i t u SR
   obtain rfl:=Option.some.inj SM
   have:fn.results= #[.tmp t,.tmp u]:=Array.toList_inj.1 SR
   refine⟨.tuple #[a.tmps.getD t undef,a.tmps.getD u undef],?_,_,rfl,hmu t,hmu u,trivial⟩;unfold results;rw[this]
   simp[Sem.run_bind,Sem.run_pure]
  cases SM
 obtain⟨v,RB,RI⟩:=Vb;have hfinal:aL bm bn (Fz ok w w') w' l B'.bk:=by
  rw[hρ0]at Wr;exact Wr.gP TR fun g hg=>YX [] (by simp) g (.inl hg)
 have hB'len:B'.bk.len=B.len:=by rw[←hlB',hρ0,Wo]
 have fin:a.defers=[]∧∃v,(results fn a.tmps).run P w'= .ok v w'∧∃u r B2,Ending.returned v= .returned u∧R r B2∧B2.plain∧B2.len=B.len∧wP l w w'∧aL bm bn (Fz ok w w') w' l B2∧bY (fun _=>l) (fun b=>b=0) (Fz ok w w') w' r u:=
  ⟨hs.hd,v,RB,v,r,B'.bk,rfl,hR,TR,hB'len,hmb,hfinal,RI⟩
 rcases he with rfl|rfl
 ·exact fin
 exact fin
set_option linter.defProp false in
def QP:=And.intro @List.contains_cons.{0} (And.intro @List.contains_nil.{0} (And.intro @beq_self_eq_true.{0} (And.intro @bne_self_eq_false.{0} (And.intro @bne_iff_ne.{0} (And.intro @List.take_length.{0} (And.intro @List.toList_toArray.{0} (And.intro @List.map_nil.{0,0} (And.intro @List.map_cons.{0,0} (And.intro @List.flatten_nil.{0} (And.intro @List.flatten_cons.{0} (And.intro @List.filter_nil.{0} (And.intro @List.filter_cons.{0} (And.intro @List.nil_append.{0} (And.intro @List.cons_append.{0} (And.intro @List.append_nil.{0} (And.intro @List.any_nil.{0} (And.intro @List.any_cons.{0} (And.intro @List.all_nil.{0} (And.intro @List.all_cons.{0} (And.intro @List.take_zero.{0} (And.intro @List.take_succ_cons.{0} (And.intro @List.take_nil.{0} (And.intro @List.drop_zero.{0} (And.intro @List.drop_succ_cons.{0} (And.intro @List.drop_nil.{0} (And.intro @List.getElem?_cons_zero.{0} (And.intro @List.getElem?_cons_succ.{0} (And.intro @List.getD_cons_zero.{0} (And.intro @List.getD_cons_succ.{0} (And.intro @List.length_cons.{0} (And.intro @List.length_nil.{0} (And.intro @List.flatMap_cons.{0,0} (And.intro @List.flatMap_nil.{0,0} (And.intro @Option.map_some.{0,0} (And.intro @Option.map_none.{0,0} (And.intro @eq_self.{1} (And.intro @Bool.false_eq_true (And.intro @Int.toNat_natCast (And.intro @decide_eq_true_eq (And.intro @decide_eq_false_iff_not (And.intro @ne_eq.{1} (And.intro @not_true_eq_false (And.intro @not_false_eq_true (And.intro @Classical.not_not (And.intro @L1 (And.intro @KK (And.intro @Bool.true_eq_false (And.intro @Int.sub_zero (And.intro @Int.zero_add (@Int.add_zero))))))))))))))))))))))))))))))))))))))))))))))))))
set_option linter.defProp false in
def Rm:=And.intro @GN.eq_def (And.intro @Is.eq_def (And.intro @lE.eq_def (And.intro @QL.eq_def (And.intro @mO.eq_def (And.intro @Fl.eq_def (And.intro @H4.eq_def (@Ci.eq_def)))))))
set_option linter.defProp false in
def Rf:=And.intro @Option.some.injEq.{0} (And.intro @List.not_mem_nil.{0} (And.intro @false_imp_iff (And.intro @List.forall_mem_cons.{0} (And.intro @implies_true.{1} (@implies_true.{0})))))
end Go.Eng
namespace Go.Eng
open Go
theorem y9 {w w':World}{ok:Nat→Prop}{l:Loc}{B:Bk}{v:Value}(hf:B.flat)(Sl:∀g o,l.addr=some (g,o)→w.heap.size≤g∧g<w'.heap.size)
  (hl:l.len=B.len) (Rx:aL bm bn (fun g=>ok g∨(w.heap.size≤g∧g<w'.heap.size∧∀o,l.addr≠some (g,o))) w' l B) (RI:ey (fun _=>l) (fun _=>True) (fun _=>False) w' (.own 0 B.wd 0 B.len) v):
  aA bm bn (fun g=>ok g∨(w.heap.size≤g∧g<w'.heap.size)) w' (gg B B.wd 0 B.len) v:=by
 obtain⟨_,hle,cap,RY,hv⟩:=RI;have VC:aL bm bn (fun g=>ok g∨(w.heap.size≤g∧g<w'.heap.size)) w' l B:=Rx.gP (Bk.oE hf) fun g hg=>by
  rcases hg with hg|⟨h1,h2,_⟩
  ·exact .inl hg
  exact .inr ⟨h1,h2⟩
 refine aA.bh ?_
 rcases hv with⟨g,o,o',ha,rfl,ho,_⟩|⟨_,rfl,h0,_⟩
 ·exact lP ha VC (.inr (Sl g o ha)) hl hle RY ho
 cases B with
 |var cs=>exact hf.elim
 |wins e b2 n g=>exact hf.elim
 |ints e k xs=>
  simp only[Bk.len]at h0;simp only[gg,Bk.wd,if_true,Bk.len];exact⟨none,0,by simp[h0],by simp[h0],.inl (by simp[h0])⟩
 |rows e w n f=>
  simp only[Bk.len]at h0;subst h0;simp only[gg,Bk.wd,if_true,Bk.len];exact⟨none,0,rfl,Nat.le_refl _,.inl rfl⟩
theorem Fr.view {P:Program}{f:FuncId}{args:List V}{B:Bk}(h:Fr P f args B):Pr P f args (.one (gg B B.wd 0 B.len)):=by
 obtain⟨hc,hf,h⟩:=h;refine⟨hc,fun ok w vs RW R1=>Calls.mono (h ok w vs RW R1) fun e w' he=>?_⟩;obtain⟨v,l,rfl,hb,hl,Sl,Rx,RI⟩:=he;exact⟨v,rfl,hb,y9 hf Sl hl Rx RI⟩
theorem Fr.ints {P:Program}{f:FuncId}{args:List V}{e:TypeId}{k:IntKind}{xs:List Int}(h:Fr P f args (.ints e k xs)):Pr P f args (.one (.ints k xs)):=by
 have h1:=h.view;simp only[gg,Bk.wd,Bk.len,if_true,List.drop_zero,List.take_length]at h1;exact h1
theorem Fr.rows {P:Program}{f:FuncId}{args:List V}{e:TypeId}{w n:Nat}{g:Nat→Nat→C}(h:Fr P f args (.rows e w n g)):Pr P f args (.one (.rows w n g)):=by
 have h1:=h.view;simp only[gg,Bk.wd,Bk.len,if_true,Nat.zero_add]at h1;exact h1
end Go.Eng
namespace Go.Eng
open Go
def ti (x y:V):Prop:=∀ok w v,dJ bm bn ok w x v→dJ bm bn ok w y v
theorem ti.refl (x:V):ti x x:=fun _ _ _ h=>h
theorem ti.MI {x y:C}(h:fT (.one x) (.one y)):ti (.one x) (.one y):=fun ok w v hr=>h ok w v hr
def yr:List V→List V→Prop
 |[],[]=>True
 |x::xs,y::ys=>ti x y∧yr xs ys
 |_,_=>False
theorem yr.rep {ok:Nat→Prop}{w:World}:∀{xs ys:List V} {vs:List Value},yr xs ys→a6 bm bn ok w xs vs→a6 bm bn ok w ys vs
 |[],[],_,_,h=>h
 |x::xs,y::ys,[],_,h=>h.elim
 |x::xs,y::ys,v::vs,ha,h=>⟨ha.1 ok w v h.1,yr.rep ha.2 h.2⟩
 |[],_::_,_,ha,_=>ha.elim
 |_::_,[],_,ha,_=>ha.elim
theorem Pr.args {P:Program}{f:FuncId}{xs ys:List V}{r:V}(h:Pr P f ys r)(ha:yr xs ys):Pr P f xs r:=
 ⟨h.1,fun ok w vs RW R1=>h.2 ok w vs RW (ha.rep R1)⟩
theorem Pr.Kk {P:Program}{f:FuncId}{x y:C}{r:V}(h:Pr P f [.one y] r)(ha:fT (.one x) (.one y)):Pr P f [.one x] r:=
 h.args ⟨.MI ha,trivial⟩
def dK (c c':C):Prop:=∀ok w v,aO ok w c v→aO ok w c' v
theorem dK.refl (c:C):dK c c:=fun _ _ _ h=>h
theorem dK.of_eq {c c':C}(h:c=c'):dK c c':=h▸dK.refl c
theorem dK.zo (k:IntKind):dK .nil (.ints k []):=fun ok w v h=>⟨none,0,h,Nat.le_refl _,.inl rfl⟩
theorem dK.pM (wd:Nat)(f:Nat→Nat→C):dK .nil (.rows wd 0 f):=fun ok w v h=>⟨none,0,h,Nat.le_refl _,.inl rfl⟩
theorem dK.rows {wd n n':Nat}{f g:Nat→Nat→C}(hn:n=n')(h:∀i j,i<n→j<wd→dK (f i j) (g i j)):dK (.rows wd n f) (.rows wd n' g):=by
 subst hn;rintro ok w v ⟨a,cap,hv,hle,hr⟩;refine⟨a,cap,hv,hle,?_⟩
 rcases hr with hr|⟨b,o,ha,hg,R2⟩
 ·exact .inl hr
 refine .inr ⟨b,o,ha,hg,fun i j hi hj=>?_⟩;obtain⟨u,hu,hr⟩:=R2 i j hi hj;exact⟨u,hu,h i j hi hj ok w u hr⟩
theorem ti.cell {c c':C}(h:dK c c'):ti (.one c) (.one c'):=fun ok w v hr=>aA.bh (h ok w v (aO.dV hr))
theorem Pr.Ml {P:Program}{f:FuncId}{x y:C}{r:V}(h:Pr P f [.one y] r)(ha:dK x y):Pr P f [.one x] r:=
 h.args ⟨.cell ha,trivial⟩
theorem Pr.tO {P:Program}{f:FuncId}{x y x' y':C}{r:V}(h:Pr P f [.one y,.one y'] r)(ha:dK x y)(R8:dK x' y'):Pr P f [.one x,.one x'] r:=
 h.args ⟨.cell ha,.cell R8,trivial⟩
theorem Pr.res {P:Program}{f:FuncId}{xs:List V}{r r':V}(h:Pr P f xs r)(hr:fT r r'):Pr P f xs r':=
 ⟨h.1,fun ok w vs RW R1=>Calls.mono (h.2 ok w vs RW R1) fun _ _ ⟨v,he,hb,hv⟩=>⟨v,he,hb,hr _ _ _ hv⟩⟩
open Go
theorem dG.rows {P:Program}{f:FuncId}{args:List V}{e:TypeId}{w n:Nat}{g:Nat→Nat→C}{c:C}(h:dG P f args (.rows e w n g) c):Pr P f args (.aF [.one (.rows w n g),.one c]):=by
 obtain⟨hs,hc,hf,h⟩:=h;refine⟨hc,fun ok w vs RW R1=>Calls.mono (h ok w vs RW R1) fun e w' he=>?_⟩;obtain⟨v,u,l,rfl,hb,hl,Sl,Rx,RI,hu⟩:=he;have h1:=y9 hf Sl hl Rx RI;simp only[gg,Bk.wd,Bk.len,if_true,Nat.zero_add]at h1;refine⟨_,rfl,hb,_,rfl,h1,?_,trivial⟩
 cases c<;>first|exact hs.elim|exact hu
theorem dG.args {P:Program}{f:FuncId}{xs ys:List V}{B:Bk}{c:C}(h:dG P f ys B c)(ha:yr xs ys):dG P f xs B c:=
 ⟨h.1,h.2.1,h.2.2.1,fun ok w vs RW R1=>h.2.2.2 ok w vs RW (ha.rep R1)⟩
end Go.Eng
namespace Go.Proofs.YthnkehdgnagmnaaGreat
open Go.Proofs.Tryz
open Go Go.Eng
def T:Nat→Option Ty
 |2=>some ⟨.int .i64,1,8,[.int .i64 0],[]⟩
 |3=>some ⟨.int .i64,1,8,[.int .i64 0],[]⟩
 |4=>some ⟨.bool,1,1,[.bool false],[]⟩
 |5=>some ⟨.int .u8,1,1,[.int .u8 0],[]⟩
 |9=>some ⟨.str,1,16,[.str ⟨#[]⟩],[]⟩
 |22=>some ⟨.sl 71,1,24,[.nil],[]⟩
 |23=>some ⟨.sl 71,1,24,[.nil],[]⟩
 |24=>some ⟨.sl 5,1,24,[.nil],[]⟩
 |25=>some ⟨.st [(0,1),(1,1),(2,1)],3,56,[.nil,.nil,.int .u8 0],[true,true,true]⟩
 |26=>some ⟨.st [(0,1),(1,1),(2,1)],3,56,[.nil,.nil,.int .u8 0],[true,true,true]⟩
 |28=>some ⟨.sl 32,1,24,[.nil],[]⟩
 |32=>some ⟨.sl 37,1,24,[.nil],[]⟩
 |34=>some ⟨.sl 35,1,24,[.nil],[]⟩
 |35=>some ⟨.sl 62,1,24,[.nil],[]⟩
 |36=>some ⟨.st [(0,1),(1,1)],2,48,[.nil,.nil],[true,true]⟩
 |37=>some ⟨.st [(0,1),(1,1)],2,48,[.nil,.nil],[true,true]⟩
 |39=>some ⟨.int .i64,1,8,[.int .i64 0],[]⟩
 |50=>some ⟨.sl 3,1,24,[.nil],[]⟩
 |58=>some ⟨.sl 151,1,24,[.nil],[]⟩
 |59=>some ⟨.st [(0,1),(1,1)],2,32,[.bool false,.nil],[true,true]⟩
 |60=>some ⟨.st [(0,1),(1,1)],2,32,[.bool false,.nil],[true,true]⟩
 |61=>some ⟨.st [(0,2),(2,2)],4,64,[.bool false,.nil,.bool false,.nil],[false,false]⟩
 |62=>some ⟨.st [(0,2),(2,2)],4,64,[.bool false,.nil,.bool false,.nil],[false,false]⟩
 |69=>some ⟨.int .i8,1,1,[.int .i8 0],[]⟩
 |70=>some ⟨.st [(0,1),(1,1),(2,1),(3,1),(4,1)],5,5,[.int .u8 0,.int .u8 0,.int .u8 0,.int .i8 0,.int .u8 0],[true,true,true,true,true]⟩
 |71=>some ⟨.st [(0,1),(1,1),(2,1),(3,1),(4,1)],5,5,[.int .u8 0,.int .u8 0,.int .u8 0,.int .i8 0,.int .u8 0],[true,true,true,true,true]⟩
 |78=>some ⟨.st [(0,1),(1,1),(2,2)],4,96,[.nil,.nil,.nil,.nil],[true,true,false]⟩
 |79=>some ⟨.st [(0,1),(1,1),(2,2)],4,96,[.nil,.nil,.nil,.nil],[true,true,false]⟩
 |89=>some ⟨.sl 2,1,24,[.nil],[]⟩
 |107=>some ⟨.st [(0,1)],1,8,[.int .i64 0],[true]⟩
 |108=>some ⟨.st [(0,1)],1,8,[.int .i64 0],[true]⟩
 |128=>some ⟨.int .u64,1,8,[.int .u64 0],[]⟩
 |134=>some ⟨.int .u64,1,8,[.int .u64 0],[]⟩
 |151=>some ⟨.int .u32,1,4,[.int .u32 0],[]⟩
 |154=>some ⟨.st [(0,1),(1,1)],2,48,[.nil,.nil],[true,true]⟩
 |155=>some ⟨.st [(0,1),(1,1)],2,48,[.nil,.nil],[true,true]⟩
 |_=>none
theorem T2:dQ prog 2=some ⟨.int .i64,1,8,[.int .i64 0],[]⟩:=by kernel_rfl
theorem T3:dQ prog 3=some ⟨.int .i64,1,8,[.int .i64 0],[]⟩:=by kernel_rfl
theorem T4:dQ prog 4=some ⟨.bool,1,1,[.bool false],[]⟩:=by kernel_rfl
theorem T5:dQ prog 5=some ⟨.int .u8,1,1,[.int .u8 0],[]⟩:=by kernel_rfl
theorem T9:dQ prog 9=some ⟨.str,1,16,[.str ⟨#[]⟩],[]⟩:=by kernel_rfl
theorem Rb:dQ prog 22=some ⟨.sl 71,1,24,[.nil],[]⟩:=by kernel_rfl
theorem Ro:dQ prog 23=some ⟨.sl 71,1,24,[.nil],[]⟩:=by kernel_rfl
theorem Q1:dQ prog 24=some ⟨.sl 5,1,24,[.nil],[]⟩:=by kernel_rfl
theorem Q5:dQ prog 25=some ⟨.st [(0,1),(1,1),(2,1)],3,56,[.nil,.nil,.int .u8 0],[true,true,true]⟩:=by kernel_rfl
theorem Rg:dQ prog 26=some ⟨.st [(0,1),(1,1),(2,1)],3,56,[.nil,.nil,.int .u8 0],[true,true,true]⟩:=by kernel_rfl
theorem Q2:dQ prog 28=some ⟨.sl 32,1,24,[.nil],[]⟩:=by kernel_rfl
theorem Rh:dQ prog 32=some ⟨.sl 37,1,24,[.nil],[]⟩:=by kernel_rfl
theorem Q9:dQ prog 34=some ⟨.sl 35,1,24,[.nil],[]⟩:=by kernel_rfl
theorem QT:dQ prog 35=some ⟨.sl 62,1,24,[.nil],[]⟩:=by kernel_rfl
theorem Q4:dQ prog 36=some ⟨.st [(0,1),(1,1)],2,48,[.nil,.nil],[true,true]⟩:=by kernel_rfl
theorem Q0:dQ prog 37=some ⟨.st [(0,1),(1,1)],2,48,[.nil,.nil],[true,true]⟩:=by kernel_rfl
theorem QY:dQ prog 39=some ⟨.int .i64,1,8,[.int .i64 0],[]⟩:=by kernel_rfl
theorem Rp:dQ prog 50=some ⟨.sl 3,1,24,[.nil],[]⟩:=by kernel_rfl
theorem Rq:dQ prog 58=some ⟨.sl 151,1,24,[.nil],[]⟩:=by kernel_rfl
theorem QX:dQ prog 59=some ⟨.st [(0,1),(1,1)],2,32,[.bool false,.nil],[true,true]⟩:=by kernel_rfl
theorem QZ:dQ prog 60=some ⟨.st [(0,1),(1,1)],2,32,[.bool false,.nil],[true,true]⟩:=by kernel_rfl
theorem Q8:dQ prog 61=some ⟨.st [(0,2),(2,2)],4,64,[.bool false,.nil,.bool false,.nil],[false,false]⟩:=by kernel_rfl
theorem Rr:dQ prog 62=some ⟨.st [(0,2),(2,2)],4,64,[.bool false,.nil,.bool false,.nil],[false,false]⟩:=by kernel_rfl
theorem Ri:dQ prog 69=some ⟨.int .i8,1,1,[.int .i8 0],[]⟩:=by kernel_rfl
theorem Q6:dQ prog 70=some ⟨.st [(0,1),(1,1),(2,1),(3,1),(4,1)],5,5,[.int .u8 0,.int .u8 0,.int .u8 0,.int .i8 0,.int .u8 0],[true,true,true,true,true]⟩:=by kernel_rfl
theorem Rj:dQ prog 71=some ⟨.st [(0,1),(1,1),(2,1),(3,1),(4,1)],5,5,[.int .u8 0,.int .u8 0,.int .u8 0,.int .i8 0,.int .u8 0],[true,true,true,true,true]⟩:=by kernel_rfl
theorem Rn:dQ prog 78=some ⟨.st [(0,1),(1,1),(2,2)],4,96,[.nil,.nil,.nil,.nil],[true,true,false]⟩:=by kernel_rfl
theorem Rc:dQ prog 79=some ⟨.st [(0,1),(1,1),(2,2)],4,96,[.nil,.nil,.nil,.nil],[true,true,false]⟩:=by kernel_rfl
theorem Q7:dQ prog 89=some ⟨.sl 2,1,24,[.nil],[]⟩:=by kernel_rfl
theorem Qo:dQ prog 107=some ⟨.st [(0,1)],1,8,[.int .i64 0],[true]⟩:=by kernel_rfl
theorem Qc:dQ prog 108=some ⟨.st [(0,1)],1,8,[.int .i64 0],[true]⟩:=by kernel_rfl
theorem Qb:dQ prog 128=some ⟨.int .u64,1,8,[.int .u64 0],[]⟩:=by kernel_rfl
theorem Qx:dQ prog 134=some ⟨.int .u64,1,8,[.int .u64 0],[]⟩:=by kernel_rfl
theorem Qe:dQ prog 151=some ⟨.int .u32,1,4,[.int .u32 0],[]⟩:=by kernel_rfl
theorem QD:dQ prog 154=some ⟨.st [(0,1),(1,1)],2,48,[.nil,.nil],[true,true]⟩:=by kernel_rfl
theorem QJ:dQ prog 155=some ⟨.st [(0,1),(1,1)],2,48,[.nil,.nil],[true,true]⟩:=by kernel_rfl
theorem BU:eH prog T:=by
 intro t X h;unfold T at h
 split at h
 ·cases h;exact T2
 ·cases h;exact T3
 ·cases h;exact T4
 ·cases h;exact T5
 ·cases h;exact T9
 ·cases h;exact Rb
 ·cases h;exact Ro
 ·cases h;exact Q1
 ·cases h;exact Q5
 ·cases h;exact Rg
 ·cases h;exact Q2
 ·cases h;exact Rh
 ·cases h;exact Q9
 ·cases h;exact QT
 ·cases h;exact Q4
 ·cases h;exact Q0
 ·cases h;exact QY
 ·cases h;exact Rp
 ·cases h;exact Rq
 ·cases h;exact QX
 ·cases h;exact QZ
 ·cases h;exact Q8
 ·cases h;exact Rr
 ·cases h;exact Ri
 ·cases h;exact Q6
 ·cases h;exact Rj
 ·cases h;exact Rn
 ·cases h;exact Rc
 ·cases h;exact Q7
 ·cases h;exact Qo
 ·cases h;exact Qc
 ·cases h;exact Qb
 ·cases h;exact Qx
 ·cases h;exact Qe
 ·cases h;exact QD
 ·cases h;exact QJ
 cases h
theorem mixed:prog.follows .mixedOrders=true:=by kernel_rfl
theorem pw {f:FuncId}{fn:Func}(hf:prog.funcs[f]? =some fn)(k:Kp){args:List V}{r:V}(h:vc T prog k (Option.get! fn.body) (iS args fn.ntmps) (JG T fn.results.toList (fun x=>fT x r)))(hb:fn.body=some (Option.get! fn.body):=by rfl)(hn:(fn.name== "runtime.NumGoroutine")=false:=by decide)(ha:args.length≤fn.ntmps:=by exact Nat.le_of_ble_eq_true rfl)(hk:codeOk k (Option.get! fn.body)=true:=by kernel_rfl):Pr prog f args r:=pv BU mixed hf hb hn args ha k hk r h
theorem fw {f:FuncId}{fn:Func}(hf:prog.funcs[f]? =some fn)(k:Kp){args:List V}{B:Bk}(h:vc T prog k (Option.get! fn.body) (iS args fn.ntmps) (Is fn.results.toList B))(hb:fn.body=some (Option.get! fn.body):=by rfl)(hn:(fn.name== "runtime.NumGoroutine")=false:=by decide)(ha:args.length≤fn.ntmps:=by exact Nat.le_of_ble_eq_true rfl)(hk:codeOk k (Option.get! fn.body)=true:=by kernel_rfl)(hB:B.flat:=by exact trivial):Fr prog f args B:=zc BU mixed hf hb hn args ha k hk B hB h
theorem tw {f:FuncId}{fn:Func}(hf:prog.funcs[f]? =some fn)(k:Kp){args:List V}{B:Bk}{c:C}(h:vc T prog k (Option.get! fn.body) (iS args fn.ntmps) (GN fn.results.toList B c))(hb:fn.body=some (Option.get! fn.body):=by rfl)(hn:(fn.name== "runtime.NumGoroutine")=false:=by decide)(ha:args.length≤fn.ntmps:=by exact Nat.le_of_ble_eq_true rfl)(hk:codeOk k (Option.get! fn.body)=true:=by kernel_rfl)(hB:B.flat:=by exact trivial)(hc:l9 c:=by exact trivial):dG prog f args B c:=xO BU mixed hf hb hn args ha k hk B c hB hc h
theorem mw {f:FuncId}{fn:Func}(hf:prog.funcs[f]? =some fn)(k:Kp){args:List V}{B:Bk}{R:V→Bk→Prop}(h:vc T prog k (Option.get! fn.body) (iM args B fn.ntmps) (H4 fn.results.toList R))(hb:fn.body=some (Option.get! fn.body):=by rfl)(hn:(fn.name== "runtime.NumGoroutine")=false:=by decide)(ha:args.length≤fn.ntmps:=by exact Nat.le_of_ble_eq_true rfl)(hk:codeOk k (Option.get! fn.body)=true:=by kernel_rfl)(hB:B.plain:=by exact trivial):Mc prog f args B R:=Eh BU mixed hf hb hn args ha k hk B hB R h
end Go.Proofs.YthnkehdgnagmnaaGreat
namespace Go.Eng
def BB:Nat:=4294967296
def val:List Int→Nat
 |[]=>0
 |x::xs=>x.toNat+BB*val xs
def bL (xs:List Int):Prop:=∀x∈xs,0≤x∧x<4294967296
def aj (n:Nat):List Int:=if h:n=0 then[]else((n%BB:Nat):Int)::aj (n/BB)
termination_by n
decreasing_by exact Nat.div_lt_self (by omega) (by decide)
theorem bq:aj 0=[]:=by unfold aj;simp
theorem jg {n:Nat}(h:0<n):aj n=((n%BB:Nat):Int)::aj (n/BB):=by
 rw[aj];rw[dif_neg (by omega)]
theorem bL.nil:bL []:=fun _ h=>by simp at h
theorem bL.cons {x:Int}{xs:List Int}(hx:0≤x∧x<4294967296)(h:bL xs):bL (x::xs):=fun y hy=>by
 rcases List.mem_cons.1 hy with rfl|hy
 ·exact hx
 exact h y hy
theorem bL.tail {x:Int}{xs:List Int}(h:bL (x::xs)):bL xs:=fun y hy=>h y (by simp[hy])
theorem bL.head {x:Int}{xs:List Int}(h:bL (x::xs)):0≤x∧x<4294967296:=h x (by simp)
theorem bL.append {xs ys:List Int}(h:bL xs)(h':bL ys):bL (xs++ys):=fun y hy=>by
 rcases List.mem_append.1 hy with hy|hy
 ·exact h y hy
 exact h' y hy
theorem bL.take {xs:List Int}(h:bL xs)(i:Nat):bL (xs.take i):=fun y hy=>h y (List.mem_of_mem_take hy)
theorem bL.drop {xs:List Int}(h:bL xs)(i:Nat):bL (xs.drop i):=fun y hy=>h y (List.mem_of_mem_drop hy)
theorem bL.getD {xs:List Int}(h:bL xs)(i:Nat):0≤xs.getD i 0∧xs.getD i 0<4294967296:=by
 rw[X7]
 cases hi:xs[i]? with
 |none=>simp
 |some x=>exact h x (List.mem_of_getElem? hi)
theorem bL.set {xs:List Int}(h:bL xs)(i:Nat){x:Int}(hx:0≤x∧x<4294967296):bL (xs.set i x):=fun y hy=>by
 rcases List.mem_or_eq_of_mem_set hy with hy|rfl
 ·exact h y hy
 exact hx
theorem bL.replicate (n:Nat):bL (List.replicate n 0):=fun y hy=>by
 rw[(List.mem_replicate.1 hy).2];decide
theorem bL.one {x:Int}(h:0≤x∧x<4294967296):bL [x]:=bL.cons h bL.nil
theorem bL.aj:∀(n:Nat),bL (aj n):=by
 intro n
 induction n using Nat.strongRecOn with
 |_ n ih=>
  by_cases h:n=0
  ·subst h;rw[bq];exact bL.nil
  rw[jg (by omega)]
  have:n%BB<4294967296:=Nat.mod_lt n (show BB>0 by decide)
  exact bL.cons ⟨by omega,by omega⟩ (ih _ (Nat.div_lt_self (by omega) (by decide)))
theorem gL:∀(n:Nat),val (aj n)=n:=by
 intro n
 induction n using Nat.strongRecOn with
 |_ n ih=>
  by_cases h:n=0
  ·subst h;rw[bq];rfl
  rw[jg (by omega)];simp only[val];rw[ih _ (Nat.div_lt_self (by omega) (by decide))]
  have:=Nat.mod_add_div n BB
  omega
theorem eK:∀(xs ys:List Int),val (xs++ys)=val xs+BB^xs.length*val ys
 |[],ys=>by simp[val]
 |x::xs,ys=>by
  simp only[List.cons_append,val,eK xs ys,List.length_cons,Nat.pow_succ];rw[Nat.mul_add,Nat.mul_comm (BB^xs.length) BB,Nat.mul_assoc];omega
theorem kf:∀{xs:List Int},bL xs→val xs<BB^xs.length
 |[],_=>by simp[val]
 |x::xs,h=>by
  have h1:=kf h.tail;have h2:=h.head;simp only[val,List.length_cons,Nat.pow_succ]
  have:BB*(val xs+1)≤BB*BB^xs.length:=Nat.mul_le_mul_left _ h1
  rw[Nat.mul_comm (BB^xs.length) BB];have h3:x.toNat<BB:=by unfold BB;omega
  rw[Nat.mul_add]at this;omega
theorem cM:∀(n:Nat),val (List.replicate n 0)=0
 |0=>rfl
 |n+1=>by simp[List.replicate_succ,val,cM n]
theorem dk:∀{xs:List Int},bL xs→∀i,xs.getD i 0=((val xs/BB^i%BB:Nat):Int)
 |[],_,i=>by simp[val]
 |x::xs,h,0=>by
  have h2:=h.head;have h3:x.toNat<BB:=by unfold BB;omega
  simp only[X0,val,Nat.pow_zero,Nat.div_one,Nat.add_mul_mod_self_left,Nat.mod_eq_of_lt h3];omega
 |x::xs,h,i+1=>by
  have h2:=h.head;have h3:x.toNat<BB:=by unfold BB;omega
  simp only[X1,val];rw[dk h.tail i,Nat.pow_succ,Nat.mul_comm (BB^i) BB,←Nat.div_div_eq_div_mul,Nat.add_mul_div_left _ _ (by decide:0<BB),Nat.div_eq_of_lt h3,Nat.zero_add]
theorem tZ {xs:List Int}(h:bL xs)(i:Nat):val (xs.take i)=val xs%BB^i:=by
 by_cases hi:i≤xs.length
 ·have e:=eK (xs.take i) (xs.drop i);rw[List.take_append_drop,X5,Nat.min_eq_left hi]at e;have hl:=kf (h.take i);rw[X5,Nat.min_eq_left hi]at hl;rw[e,Nat.add_mul_mod_self_left,Nat.mod_eq_of_lt hl]
 rw[List.take_of_length_le (by omega),Nat.mod_eq_of_lt];exact Nat.lt_of_lt_of_le (kf h) (Nat.pow_le_pow_right (by decide) (by omega))
theorem iC {xs:List Int}(h:bL xs)(i:Nat):val (xs.drop i)=val xs/BB^i:=by
 by_cases hi:i≤xs.length
 ·have e:=eK (xs.take i) (xs.drop i);rw[List.take_append_drop,X5,Nat.min_eq_left hi]at e;have hl:=kf (h.take i);rw[X5,Nat.min_eq_left hi]at hl;rw[e,Nat.add_mul_div_left _ _ (Nat.pow_pos (by decide)),Nat.div_eq_of_lt hl,Nat.zero_add]
 rw[List.drop_of_length_le (by omega),Nat.div_eq_of_lt];rfl;exact Nat.lt_of_lt_of_le (kf h) (Nat.pow_le_pow_right (by decide) (by omega))
theorem dM:∀{xs:List Int} {i:Nat} {x:Int},i<xs.length→val (xs.set i x)+BB^i*(xs.getD i 0).toNat=val xs+BB^i*x.toNat
 |[],i,x,h=>by simp at h
 |y::ys,0,x,_=>by simp[val];omega
 |y::ys,i+1,x,h=>by
  have:=dM (xs:=ys) (i:=i) (x:=x) (by simpa using h)
  simp only[List.set_cons_succ,val,X1,Nat.pow_succ];rw[Nat.mul_comm (BB^i) BB,Nat.mul_assoc,Nat.mul_assoc];have h2:BB*(val (ys.set i x)+BB^i*(ys.getD i 0).toNat)=BB*(val ys+BB^i*x.toNat):=by rw[this]
  rw[Nat.mul_add,Nat.mul_add]at h2;omega
theorem cA:∀{xs:List Int},bL xs→(xs=[]∨xs.getD (xs.length-1) 0≠0)→aj (val xs)=xs
 |[],_,_=>bq
 |[x],h,hl=>by
  have h2:=h.head;have hx:x≠0:=by simpa using hl
  have h3:x.toNat<BB:=by unfold BB;omega
  simp only[val,Nat.mul_zero,Nat.add_zero];rw[jg (by omega),Nat.mod_eq_of_lt h3,Nat.div_eq_of_lt h3,bq]
  congr 1;omega
 |x::y::ys,h,hl=>by
  have h2:=h.head;have h3:x.toNat<BB:=by unfold BB;omega
  have ih:=cA h.tail (.inr (by
   rcases hl with hl|hl
   ·cases hl
   simpa using hl))
  have RR:0<val (y::ys):=by
   rcases Nat.eq_zero_or_pos (val (y::ys))with h0|h0
   ·rw[h0,bq]at ih;cases ih
   exact h0
  have e:val (x::y::ys)=x.toNat+BB*val (y::ys):=rfl;have hp:0<val (x::y::ys):=by
   rw[e]
   have:0<BB*val (y::ys):=Nat.mul_pos (by decide) RR
   omega
  rw[jg hp,e,Nat.add_mul_mod_self_left,Nat.mod_eq_of_lt h3,Nat.add_mul_div_left _ _ (by decide:0<BB),Nat.div_eq_of_lt h3,Nat.zero_add,ih]
  congr 1;omega
theorem pz {xs:List Int}(h:bL xs)(hl:xs.length=0∨BB^(xs.length-1)≤val xs):aj (val xs)=xs:=by
 refine cA h ?_
 rcases hl with hl|hl
 ·exact .inl (List.length_eq_zero_iff.1 hl)
 by_cases hn:xs=[]
 ·exact .inl hn
 refine .inr fun h0=>?_;have hp:0<xs.length:=List.length_pos_iff.2 hn;rw[dk h]at h0;have hv:=kf h;have h1:val xs/BB^(xs.length-1)<BB:=by
  rw[Nat.div_lt_iff_lt_mul (Nat.pow_pos (by decide)),Nat.mul_comm,←Nat.pow_succ,show (xs.length-1).succ=xs.length by omega];exact hv
 rw[Nat.mod_eq_of_lt h1]at h0;have h2:1≤val xs/BB^(xs.length-1):=by
  rw[Nat.le_div_iff_mul_le (Nat.pow_pos (by decide))];omega
 omega
def nl (n:Nat):Nat:=(aj n).length
theorem dY (n:Nat):(aj n).length=nl n:=rfl
theorem tL (n:Nat):(aj n).take (nl n)=aj n:=List.take_length
theorem iZ:nl 0=0:=by unfold nl;rw[bq];rfl
theorem aD:∀{k n:Nat},n<BB^k→nl n≤k
 |0,n,h=>by
  have:n=0:=by simpa using h
  subst this;rw[iZ];omega
 |k+1,n,h=>by
  by_cases h0:n=0
  ·subst h0;rw[iZ];omega
  unfold nl;rw[jg (by omega)]
  have:nl (n/BB)≤k:=aD (by rw[Nat.div_lt_iff_lt_mul (by decide),←Nat.pow_succ];exact h)
  unfold nl at this;simp only[List.length_cons];omega
theorem cF (n:Nat):n<BB^nl n:=by
 have:=kf (bL.aj n)
 rw[gL]at this;exact this
theorem cI {k n:Nat}:nl n≤k↔n<BB^k:=
 ⟨fun h=>Nat.lt_of_lt_of_le (cF n) (Nat.pow_le_pow_right (by decide) h),aD⟩
theorem bg {m n:Nat}(h:m≤n):nl m≤nl n:=aD (Nat.lt_of_le_of_lt h (cF n))
theorem eF {n:Nat}:0<nl n↔0<n:=by
 constructor
 ·intro h
  rcases Nat.eq_zero_or_pos n with h0|h0
  ·subst h0;rw[iZ]at h;omega
  exact h0
 intro h
 rcases Nat.eq_zero_or_pos (nl n)with h0|h0
 ·have:=cF n
  rw[h0]at this;simp at this;omega
 exact h0
theorem fS {n:Nat}:nl n=0↔n=0:=by
 have:=eF (n:=n);omega
theorem sP {n:Nat}(h:0<n):BB^(nl n-1)≤n:=by
 rcases Nat.lt_or_ge n (BB^(nl n-1))with h1|h1
 ·have:=aD h1
  have:=eF.2 h
  omega
 exact h1
theorem iU (m n:Nat):nl (m*n)≤nl m+nl n:=by
 apply aD
 rw[Nat.pow_add];exact Nat.mul_lt_mul'' (cF m) (cF n)
theorem td (m n:Nat):nl (m+n)≤max (nl m) (nl n)+1:=by
 apply aD
 rw[Nat.pow_succ];have h1:m<BB^max (nl m) (nl n):=cI.1 (Nat.le_max_left _ _);have h2:n<BB^max (nl m) (nl n):=cI.1 (Nat.le_max_right _ _);have h3:BB^max (nl m) (nl n)*2≤BB^max (nl m) (nl n)*BB:=Nat.mul_le_mul_left _ (by decide);omega
open Go
theorem wI (i:Nat)(h:i+1<9223372036854775808):IntKind.i64.wrap ((i:Int)+1)=((i+1:Nat):Int):=by rw[Go.IntWalk.i64_in _ (by omega)];omega
set_option linter.defProp false in
def vx:=And.intro vcs (And.intro Rs (And.intro QS (And.intro QP (And.intro Rm (And.intro @dY (And.intro @tL (And.intro @Nat.min_def (And.intro @IntKind.bits.eq_1 (And.intro @IntKind.bits.eq_2 (And.intro @IntKind.bits.eq_3 (And.intro @IntKind.bits.eq_4 (And.intro @IntKind.bits.eq_5 (And.intro @IntKind.bits.eq_6 (And.intro @IntKind.bits.eq_7 (@IntKind.bits.eq_8)))))))))))))))
set_option linter.defProp false in
def rx:=And.intro QS (And.intro QP (And.intro Rf (And.intro @dY (@tL))))
set_option linter.defProp false in
def ry:=And.intro rx (And.intro @Y0.eq_1 (And.intro @Y0.eq_2 (And.intro @Y1.eq_def (And.intro @Y2.eq_def (And.intro @Y3.eq_1 (And.intro @Y3.eq_2 (And.intro @Y3.eq_3 (And.intro @Y4.eq_1 (And.intro @Y4.eq_2 (And.intro @Y5.eq_def (And.intro @Y6.eq_1 (And.intro @Y6.eq_2 (And.intro @Y7.eq_def (And.intro @rV.eq_1 (@rV.eq_2)))))))))))))))
set_option linter.defProp false in
def rz:=And.intro @Y8.eq_1 (And.intro @Y8.eq_2 (And.intro @Y9.eq_def (And.intro @X2 (And.intro @X3 (@X4)))))
set_option linter.defProp false in
def iz:=And.intro @iS.eq_1 (And.intro @iM.eq_def (And.intro @eO.eq_1 (And.intro @eO.eq_2 (@Option.get!.eq_1.{0}))))
end Go.Eng
namespace Go.Proofs.YthnkehdgnagmnaaGreat
open Go.Proofs.Tryz
open Go Go.Eng
theorem uy {ys:List Int}(h:bL ys)(h0:0<ys.length)(hl:ys.getD (ys.length-1) 0=0):val (ys.take (ys.length-1))=val ys:=by
 have e:=eK (ys.take (ys.length-1)) (ys.drop (ys.length-1));rw[List.take_append_drop]at e;have h1:ys.drop (ys.length-1)=[0]:=by
  rw[X7,X8 (by omega)]at hl;rw[List.drop_eq_getElem_cons (by omega),List.drop_of_length_le (by omega)]
  simpa using hl
 rw[h1]at e
 simp[val]at e
 exact e.symm
theorem dh (xs:List Int)(hr:bL xs)(hx:xs.length<2^62):Pr prog 204 [.one (.ints .u32 xs)] (.one (.ints .u32 (aj (val xs)))):=by
 refine pw func204 ⟨[0,2,14],[]⟩ ?_;simp only[Tryz.f204,ntmps204,iz,seval];simp only[vx,T,seval];refine Lk (fun ys:{l:List Int//l.length<2^62∧bL l∧val l=val xs}=>⟨[(0,.one (.ints .u32 ys))],[],3,21⟩) (fun ys=>ys.1.length) ⟨xs,hx,hr,rfl⟩ ?_ (fun⟨ys,hy,Wx,Up⟩=>?_)
 ·refine Sa ?_;simp only[ry,seval,rz]
 simp only[vx,T,seval];refine⟨fun h=>Lg ?_,fun h=>Lg ?_⟩
 ·simp only[vx,T,seval];rw[IntWalk.i64_in _ (by omega)];refine⟨by omega,?_⟩;refine⟨fun h=>Lg ?_,fun h=>Lg ?_⟩
  ·simp only[vx,T,seval];rw[IntWalk.i64_in _ (by omega)];refine⟨by omega,Lq ⟨ys.take (ys.length-1),by simp;omega,Wx.take _,?_⟩ ?_ ?_⟩
   ·rw[uy Wx (by omega) (by rw[show ys.length-1=((ys.length:Int)-1).toNat by omega];exact h),Up]
   ·refine Sa ?_;simp only[ry,seval,rz];rw[show ((ys.length:Int)-1).toNat=ys.length-1 by omega]
   simp;omega
  simp only[vx,T,seval];refine Ve ?_;rw[←Up,cA Wx (.inr (by rw[show ys.length-1=((ys.length:Int)-1).toNat by omega];exact h))]
 simp only[vx,T,seval];refine Ve ?_;rw[←Up,cA Wx (.inl (List.length_eq_zero_iff.1 (by omega)))]
theorem bJ (xs:List Int)(hr:bL xs)(hx:xs.length<2^62):Pr prog 129 [.one (.ints .u32 xs)] (.one (.ints .u32 (aj (val xs)))):=by
 refine pw func129 ⟨[0,2,14],[]⟩ ?_;simp only[Tryz.f129,ntmps129,iz,seval];simp only[vx,T,seval];refine Lk (fun ys:{l:List Int//l.length<2^62∧bL l∧val l=val xs}=>⟨[(0,.one (.ints .u32 ys))],[],3,21⟩) (fun ys=>ys.1.length) ⟨xs,hx,hr,rfl⟩ ?_ (fun⟨ys,hy,Wx,Up⟩=>?_)
 ·refine Sa ?_;simp only[ry,seval,rz]
 simp only[vx,T,seval];refine⟨fun h=>Lg ?_,fun h=>Lg ?_⟩
 ·simp only[vx,T,seval];rw[IntWalk.i64_in _ (by omega)];refine⟨by omega,?_⟩;refine⟨fun h=>Lg ?_,fun h=>Lg ?_⟩
  ·simp only[vx,T,seval];rw[IntWalk.i64_in _ (by omega)];refine⟨by omega,Lq ⟨ys.take (ys.length-1),by simp;omega,Wx.take _,?_⟩ ?_ ?_⟩
   ·rw[uy Wx (by omega) (by rw[show ys.length-1=((ys.length:Int)-1).toNat by omega];exact h),Up]
   ·refine Sa ?_;simp only[ry,seval,rz];rw[show ((ys.length:Int)-1).toNat=ys.length-1 by omega]
   simp;omega
  simp only[vx,T,seval];refine Ve ?_;rw[←Up,cA Wx (.inr (by rw[show ys.length-1=((ys.length:Int)-1).toNat by omega];exact h))]
 simp only[vx,T,seval];refine Ve ?_;rw[←Up,cA Wx (.inl (List.length_eq_zero_iff.1 (by omega)))]
theorem wK (n:Nat):bL [IntKind.u32.wrap n,IntKind.u32.wrap ((n:Int).fdiv 4294967296)]:=by
 refine bL.cons ?_ (bL.one ?_)<;>(rw[IntKind.wrap_u32];omega)
theorem vB {n:Nat}(hn:n<2^64):val [IntKind.u32.wrap n,IntKind.u32.wrap ((n:Int).fdiv 4294967296)]=n:=by
 simp only[val,IntKind.wrap_u32,BB];rw[Int.fdiv_eq_ediv_of_nonneg _ (by decide)];have h1:((n:Int)%4294967296).toNat=n%4294967296:=by omega
 have h2:((n:Int)/4294967296%4294967296).toNat=n/4294967296:=by omega
 rw[h1,h2];omega
theorem dq (n:Nat)(hn:n<2^64):Pr prog 179 [.one (.int .u64 n)] (.one (.ints .u32 (aj n))):=by
 refine pw func179 ⟨[0,2],[]⟩ ?_;simp only[Tryz.f179,ntmps179,iz,seval];simp only[vx,T,seval];refine Cg (dh _ (wK n) (by simp)) ?_;rw[vB hn];simp only[vx,T,seval];refine Va ?_;simp only[cV,aW,ry,seval]
theorem iq (n:Nat)(hn:n<2^64):Pr prog 94 [.one (.int .u64 n)] (.one (.ints .u32 (aj n))):=by
 refine pw func94 ⟨[0,2],[]⟩ ?_;simp only[Tryz.f94,ntmps94,iz,seval];simp only[vx,T,seval];refine Cg (bJ _ (wK n) (by simp)) ?_;rw[vB hn];simp only[vx,T,seval];refine Va ?_;simp only[cV,aW,ry,seval]
theorem jv {n:Nat}(h:(nl n:Int)=0):n=0:=fS.1 (by omega)
theorem uR {n:Nat}(h:¬(nl n:Int)=0):0<n:=eF.1 (by omega)
theorem wY (b:Bool)(xs:List Int)(hr:bL xs)(hx:xs.length<2^62):Pr prog 178 [.one (.bool b),.one (.ints .u32 xs)] (.agg [.bool (b&&decide (0<val xs)),.ints .u32 (aj (val xs))]):=by
 refine pw func178 ⟨[0,1,4,9],[]⟩ ?_;simp only[Tryz.f178,ntmps178,iz,seval];simp only[vx,T,seval];refine Cg (dh xs hr hx) ?_;simp only[vx,T,seval];refine⟨fun h=>Lg ?_,fun h=>Lg ?_⟩
 ·simp only[vx,T,seval];have h0:=jv h;refine Va ?_;simp only[cV,aW,ry,seval,h0,bq,Nat.lt_irrefl]
 simp only[vx,T,seval];have h0:=uR h;refine Va ?_;simp only[cV,aW,ry,seval,h0]
theorem pN (b:Bool)(xs:List Int)(hr:bL xs)(hx:xs.length<2^62):Pr prog 93 [.one (.bool b),.one (.ints .u32 xs)] (.agg [.bool (b&&decide (0<val xs)),.ints .u32 (aj (val xs))]):=by
 refine pw func93 ⟨[0,1,4],[]⟩ ?_;simp only[Tryz.f93,ntmps93,iz,seval];simp only[vx,T,seval];refine Cg (bJ xs hr hx) ?_;simp only[vx,T,seval];refine⟨fun h0=>Lg ?_,fun h0=>Lg ?_⟩
 ·subst h0;simp only[vx,T,seval]
  by_cases h:0<val xs
  ·have h1:=eF.2 h;refine Va ?_;simp only[cV,aW,ry,seval,h,decide_true,Bool.true_and,Int.natCast_pos,h1]
  have h1:val xs=0:=by omega
  refine Va ?_;simp only[cV,aW,ry,seval,h1,bq,iZ,Nat.lt_irrefl,X4,Int.lt_irrefl]
 subst h0;simp only[vx,T,seval];refine Va ?_;simp only[cV,aW,ry,seval]
open Go Go.Eng
def eL (x y:Int):Int:=if x<y then-1 else if y<x then 1 else 0
theorem gW {x y:Int}(h:x<y):eL x y= -1:=if_pos h
theorem jc {x y:Int}(h:y<x):eL x y=1:=by unfold eL;rw[if_neg (by omega),if_pos h]
theorem oZ {x y:Int}(h:x=y):eL x y=0:=by unfold eL;rw[if_neg (by omega),if_neg (by omega)]
theorem lG (n i:Nat):(aj n).getD i 0=((n/BB^i%BB:Nat):Int):=by
 rw[dk (bL.aj n),gL]
theorem ph {m n i:Nat}(h:m/BB^(i+1)=n/BB^(i+1))(hd:m/BB^i%BB<n/BB^i%BB):m<n:=by
 have e:∀x:Nat,x/BB^(i+1)=x/BB^i/BB:=fun x=>by rw[Nat.pow_succ,Nat.div_div_eq_div_mul]
 rw[e,e]at h;have h1:=Nat.div_add_mod (m/BB^i) BB;have h2:=Nat.div_add_mod (n/BB^i) BB;rw[h]at h1
 rcases Nat.lt_or_ge m n with h3|h3
 ·exact h3
 have:=Nat.div_le_div_right (c:=BB^i) h3
 omega
theorem Ab {m n i:Nat}(h:m/BB^(i+1)=n/BB^(i+1))(hd:m/BB^i%BB=n/BB^i%BB):m/BB^i=n/BB^i:=by
 have e:∀x:Nat,x/BB^(i+1)=x/BB^i/BB:=fun x=>by rw[Nat.pow_succ,Nat.div_div_eq_div_mul]
 rw[e,e]at h;have h1:=Nat.div_add_mod (m/BB^i) BB;have h2:=Nat.div_add_mod (n/BB^i) BB;rw[h,hd]at h1;omega
theorem lv {m k:Nat}(h:nl m≤k):m/BB^k=0:=Nat.div_eq_of_lt (cI.1 h)
theorem mm (x:Int):Pr prog 241 [.one (.int .i64 x)] (.one (.bool false)):=by
 refine pw func241 ⟨[0,2],[]⟩ ?_;simp only[Tryz.f241,ntmps241,iz,seval];simp only[vx,T,seval];refine Va ?_;simp only[cV,aW,ry,seval,not_true_eq_false,decide_false]
theorem ky (x y:Int):Pr prog 225 [.one (.int .i64 x),.one (.int .i64 y)] (.one (.int .i64 (eL x y))):=by
 refine pw func225 ⟨[0,1,4,5,6,11,12,13,16,19],[]⟩ ?_;simp only[Tryz.f225,ntmps225,iz,seval];simp only[vx,T,seval];refine Cg (mm _) ?_;simp only[vx,T,seval];refine Cg (mm _) ?_;simp only[vx,T,seval];refine⟨fun h=>Lg ?_,fun h=>Lg ?_⟩
 ·simp only[vx,T,seval];refine Va ?_;simp only[cV,aW,ry,seval,gW h]
 simp only[vx,T,seval];refine⟨fun h'=>Lg ?_,fun h'=>Lg ?_⟩
 ·simp only[vx,T,seval];refine Va ?_;simp only[cV,aW,ry,seval,jc h']
 simp only[vx,T,seval];refine Va ?_;simp only[cV,aW,ry,seval,oZ (show x=y by omega)]
theorem mr (x:Int):Pr prog 251 [.one (.int .u32 x)] (.one (.bool false)):=by
 refine pw func251 ⟨[0,2],[]⟩ ?_;simp only[Tryz.f251,ntmps251,iz,seval];simp only[vx,T,seval];refine Va ?_;simp only[cV,aW,ry,seval,not_true_eq_false,decide_false]
theorem re (x y:Int):Pr prog 242 [.one (.int .u32 x),.one (.int .u32 y)] (.one (.int .i64 (eL x y))):=by
 refine pw func242 ⟨[0,1,4,5,6,11,12,13,16,19],[]⟩ ?_;simp only[Tryz.f242,ntmps242,iz,seval];simp only[vx,T,seval];refine Cg (mr _) ?_;simp only[vx,T,seval];refine Cg (mr _) ?_;simp only[vx,T,seval];refine⟨fun h=>Lg ?_,fun h=>Lg ?_⟩
 ·simp only[vx,T,seval];refine Va ?_;simp only[cV,aW,ry,seval,gW h]
 simp only[vx,T,seval];refine⟨fun h'=>Lg ?_,fun h'=>Lg ?_⟩
 ·simp only[vx,T,seval];refine Va ?_;simp only[cV,aW,ry,seval,jc h']
 simp only[vx,T,seval];refine Va ?_;simp only[cV,aW,ry,seval,oZ (show x=y by omega)]
theorem C0 {m n:Nat}(h:¬(nl m:Int)=nl n):eL (nl m) (nl n)=eL m n:=by
 rcases Nat.lt_trichotomy m n with h1|h1|h1
 ·have:=bg (Nat.le_of_lt h1)
  rw[gW (by omega),gW (by omega)]
 ·subst h1;exact absurd rfl h
 have:=bg (Nat.le_of_lt h1)
 rw[jc (by omega),jc (by omega)]
theorem g9 (m n:Nat)(hm:nl m<2^62)(hn:nl n<2^62):Pr prog 226 [.one (.ints .u32 (aj m)),.one (.ints .u32 (aj n))] (.one (.int .i64 (eL m n))):=by
 refine pw func226 ⟨[0,1,4,5,10,20,31],[]⟩ ?_;simp only[Tryz.f226,ntmps226,iz,seval];simp only[vx,T,seval];refine⟨fun h=>Lg ?_,fun h=>Lg ?_⟩
 ·simp only[vx,T,seval];refine Cg (ky _ _) ?_;simp only[vx,T,seval];refine Va ?_;simp only[cV,aW,ry,seval,C0 h]
 simp only[vx,T,seval];rw[IntWalk.i64_in _ (by omega)];refine Lk (fun i:{i:Nat//i≤nl m∧m/BB^i=n/BB^i}=>⟨[(0,.one (.ints .u32 (aj m))),(1,.one (.ints .u32 (aj n))),(5,.one (.int .i64 ((i.1:Int)-1)))],[],3,41⟩) (fun i=>i.1) ⟨nl m,Nat.le_refl _,by rw[lv (Nat.le_refl _),lv (by omega)]⟩ ?_ (fun⟨i,hi,hd⟩=>?_)
 ·refine Sa ?_;simp only[ry,seval,rz]
 simp only[vx,T,seval];refine⟨fun Wa=>Lg ?_,fun Wa=>Lg ?_⟩
 ·obtain⟨j,rfl⟩:∃j,i=j+1:=⟨i-1,by omega⟩;simp only[show ((j+1:Nat):Int)-1=(j:Int) by omega,Int.toNat_natCast]at Wa⊢;simp only[vx,T,seval];refine⟨by omega,by omega,?_⟩;refine⟨fun UO=>Lg ?_,fun UO=>Lg ?_⟩
  ·simp only[vx,T,seval];refine⟨by omega,by omega,Cg (re _ _) ?_⟩;simp only[vx,T,seval];simp only[lG]at UO⊢;refine Ve ?_
   rcases Nat.lt_or_ge (m/BB^j%BB) (n/BB^j%BB)with h1|h1
   ·rw[gW (by omega),gW (by have:=ph hd h1;omega)]
   rw[jc (by omega),jc (by have:=ph (m:=n) (n:=m) hd.symm (by omega);omega)]
  simp only[vx,T,seval];simp only[lG]at UO;rw[IntWalk.i64_in _ (by omega)];refine Lq ⟨j,by omega,Ab hd (by omega)⟩ ?_ ?_
  ·refine Sa ?_;simp only[ry,seval,rz]
  simp
 have h0:i=0:=by omega
 subst h0;simp only[vx,T,seval];have h0:m=n:=by simpa using hd
 refine Va ?_;simp only[cV,aW,ry,seval,oZ (show(m:Int)=n by omega)]
theorem fD (m n:Nat)(hm:nl m<2^62)(hn:nl n<2^62):Pr prog 160 [.one (.ints .u32 (aj m)),.one (.ints .u32 (aj n))] (.one (.int .i64 (eL m n))):=by
 refine pw func160 ⟨[0,1,4,5,10,15,20,31,40],[]⟩ ?_;simp only[Tryz.f160,ntmps160,iz,seval];simp only[vx,T,seval];refine⟨fun h=>Lg ?_,fun h=>Lg ?_⟩
 ·simp only[vx,T,seval];rw[←C0 h];refine⟨fun h1=>Lg ?_,fun h1=>Lg ?_⟩
  ·simp only[vx,T,seval];refine Va ?_;simp only[cV,aW,ry,seval,gW h1]
  simp only[vx,T,seval];refine Va ?_;simp only[cV,aW,ry,seval,jc (show(nl n:Int)<nl m by omega)]
 simp only[vx,T,seval];rw[IntWalk.i64_in _ (by omega)];refine Lk (fun i:{i:Nat//i≤nl m∧m/BB^i=n/BB^i}=>⟨[(0,.one (.ints .u32 (aj m))),(1,.one (.ints .u32 (aj n))),(5,.one (.int .i64 ((i.1:Int)-1)))],[],3,41⟩) (fun i=>i.1) ⟨nl m,Nat.le_refl _,by rw[lv (Nat.le_refl _),lv (by omega)]⟩ ?_ (fun⟨i,hi,hd⟩=>?_)
 ·refine Sa ?_;simp only[ry,seval,rz]
 simp only[vx,T,seval];refine⟨fun Wa=>Lg ?_,fun Wa=>Lg ?_⟩
 ·obtain⟨j,rfl⟩:∃j,i=j+1:=⟨i-1,by omega⟩;simp only[show ((j+1:Nat):Int)-1=(j:Int) by omega,Int.toNat_natCast]at Wa⊢;simp only[vx,T,seval];refine⟨by omega,by omega,?_⟩;refine⟨fun UO=>Lg ?_,fun UO=>Lg ?_⟩
  ·simp only[vx,T,seval];simp only[lG]at UO;have Ru:(m:Int)<n:=by have:=ph hd (show m/BB^j%BB<n/BB^j%BB by omega);omega
   refine Va ?_;simp only[cV,aW,ry,seval,gW Ru]
  simp only[vx,T,seval];refine⟨by omega,by omega,?_⟩;refine⟨fun VX=>Lg ?_,fun VX=>Lg ?_⟩
  ·simp only[vx,T,seval];simp only[lG]at VX;have Ru:(n:Int)<m:=by have:=ph (m:=n) (n:=m) hd.symm (show n/BB^j%BB<m/BB^j%BB by omega);omega
   refine Va ?_;simp only[cV,aW,ry,seval,jc Ru]
  simp only[vx,T,seval];simp only[lG]at UO VX;rw[IntWalk.i64_in _ (by omega)];refine Lq ⟨j,by omega,Ab hd (by omega)⟩ ?_ ?_
  ·refine Sa ?_;simp only[ry,seval,rz]
  simp
 have h0:i=0:=by omega
 subst h0;simp only[vx,T,seval];have h0:m=n:=by simpa using hd
 refine Va ?_;simp only[cV,aW,ry,seval,oZ (show(m:Int)=n by omega)]
open Go Go.Eng
theorem BK {P v c A B' s x y:Nat}(h:v+P*c=A+B')(hs:s=c+x+y):(v+P*(s%BB))+(P*BB)*(s/BB)=(A+P*x)+(B'+P*y):=by
 have h1:P*s=P*(BB*(s/BB))+P*(s%BB):=by rw[←Nat.mul_add,Nat.div_add_mod]
 have h2:(P*BB)*(s/BB)=P*(BB*(s/BB)):=Nat.mul_assoc _ _ _;have h3:P*s=P*c+P*x+P*y:=by rw[hs,Nat.mul_add,Nat.mul_add]
 omega
theorem eQ (x i:Nat):x%BB^(i+1)=x%BB^i+BB^i*(x/BB^i%BB):=Nat.mod_pow_succ
theorem gU {x k:Nat}(h:nl x≤k):x%BB^k=x:=Nat.mod_eq_of_lt (cI.1 h)
theorem jj {x k:Nat}(h:nl x≤k):x/BB^k%BB=0:=by rw[lv h];rfl
theorem ay (s:Nat):IntKind.u32.wrap (s:Int)=((s%BB:Nat):Int):=by
 rw[IntKind.wrap_u32,Int.natCast_emod];rfl
theorem aH (s:Nat):(s:Int).fdiv 4294967296=((s/BB:Nat):Int):=by
 rw[Int.fdiv_eq_ediv_of_nonneg _ (by decide),Int.natCast_ediv];rfl
theorem bd (s:Nat):s%BB<4294967296:=Nat.mod_lt _ (by decide)
theorem bL.digit (s:Nat):bL [((s%BB:Nat):Int)]:=bL.one ⟨by omega,by have:=bd s;omega⟩
theorem val_one (x:Nat):val [(x:Int)]=x:=by simp[val]
structure cY (a b i:Nat) (os:List Int) (c:Nat):Prop where
 le:i≤nl a
 inr:bL (os.take i)
 len:i≤os.length
 eq:val (os.take i)+BB^i*c=a%BB^i+b%BB^i
 c:c≤1
theorem cY.step {a b i:Nat}{os:List Int}{c s:Nat}(h:cY a b i os c)(hi:i<nl a)(hs:s=c+a/BB^i%BB+b/BB^i%BB):cY a b (i+1) (os.take i++[((s%BB:Nat):Int)]) (s/BB):=by
 have hlen:(os.take i).length=i:=by have:=h.len;simp;omega
 have ht:(os.take i++[((s%BB:Nat):Int)]).take (i+1)=os.take i++[((s%BB:Nat):Int)]:=List.take_of_length_le (by rw[X6,hlen];simp);refine⟨hi,?_,?_,?_,?_⟩
 ·rw[ht];exact h.inr.append (bL.digit s)
 ·rw[X6,hlen];simp
 ·rw[ht,eK,hlen,val_one,eQ a,eQ b,Nat.pow_succ];exact BK h.eq hs
 have h1:=bd (a/BB^i);have h2:=bd (b/BB^i);have h3:=h.c
 have:s/BB<2:=by rw[Nat.div_lt_iff_lt_mul (by decide)];unfold BB at*;omega
 omega
theorem cY.sum {a b:Nat}{os:List Int}{c:Nat}(hb:nl b≤nl a)(h:cY a b (nl a) os c):val (os.take (nl a))+BB^nl a*c=a+b:=by
 have:=h.eq
 rw[gU (Nat.le_refl _),gU hb]at this;exact this
theorem cY.PK {a b:Nat}{os:List Int}(hb:nl b≤nl a)(h:cY a b (nl a) os 0):os.take (nl a)=aj (a+b):=by
 have hs:=h.sum hb;have hlen:(os.take (nl a)).length=nl a:=by have:=h.len;simp;omega
 simp only[Nat.mul_zero,Nat.add_zero]at hs;rw[←hs]
 refine(pz h.inr ?_).symm
 rw[hlen,hs]
 rcases Nat.eq_zero_or_pos a with h0|h0
 ·left;subst h0;exact iZ
 right;have:=sP h0;omega
theorem cY.PV {a b:Nat}{os:List Int}{c:Nat}(hb:nl b≤nl a)(h:cY a b (nl a) os c)(hc:0<c):os.take (nl a)++[((c%BB:Nat):Int)]=aj (a+b):=by
 have hs:=h.sum hb;have hlen:(os.take (nl a)).length=nl a:=by have:=h.len;simp;omega
 have h1:c=1:=by have:=h.c;omega
 subst h1;have e:val (os.take (nl a)++[((1%BB:Nat):Int)])=a+b:=by rw[eK,val_one,hlen];exact hs
 rw[←e]
 refine(pz (h.inr.append (bL.digit 1)) (.inr ?_)).symm
 rw[e,X6,hlen,←hs]
 simp
theorem wJ (swap:Bool)(a b:Nat)(Tq:nl b≤nl a)(UM:swap=true→nl b<nl a)(ha:nl a<2^44):Pr prog 246 [.one (.ints .u32 (aj (if swap then b else a))),.one (.ints .u32 (aj (if swap then a else b)))] (.one (.ints .u32 (aj (a+b)))):=by
 refine pw func246 ⟨[0,1,4,5,6,7,8,13,20,21,22,23,34,51],[]⟩ ?_;simp only[Tryz.f246,ntmps246,iz,seval]
 cases swap
 case' false=>have Ru:((nl a:Int)<nl b)=False:=by simp;omega
 case' true=>have Ru:((nl b:Int)<nl a)=True:=by have:=UM rfl;simp;omega
 all_goals
  simp only[vx,T,seval,Ru];rw[IntWalk.i64_in _ (by omega)];refine⟨⟨by omega,by omega,by omega⟩,Lk (fun i:{i:Nat×List Int×Nat//cY a b i.1 i.2.1 i.2.2}=>⟨[(0,.one (.ints .u32 (aj a))),(1,.one (.ints .u32 (aj b))),(5,.one (.own 1 1 0 i.1.1)),(6,.one (.int .u64 i.1.2.2)),(20,.one (.ints .u32 (aj a))),(21,.one (.int .i64 (nl a))),(22,.one (.int .i64 i.1.1))],[(1,⟨.ints 151 .u32 i.1.2.1,true⟩)],3,58⟩) (fun i=>nl a-i.1.1) ⟨(0,List.replicate ((nl a:Int)+1).toNat 0,0),Nat.zero_le _,bL.nil,Nat.zero_le _,by simp[val,Nat.mod_one],Nat.zero_le _⟩ ?_ (fun⟨⟨i,os,c⟩,hi⟩=>?_)⟩
  ·refine Sa ?_;simp only[ry,seval,rz]
  have h1:=hi.le;have h2:=hi.len;have h3:=hi.c;simp only at h1 h2 h3;simp only[vx,T,seval];refine⟨fun h=>Lg ?_,fun h=>Lg ?_⟩
  ·simp only[vx,T,seval];refine⟨⟨by omega,by omega⟩,?_⟩;have hlen:(os.take i).length=i:=by simp;omega
   have hx:=bd (a/BB^i);have hy:=bd (b/BB^i)
   simp(disch:=omega) only[lG,←X2,←Int.natCast_mul,Int.toNat_natCast,IntWalk.i64_in,IntWalk.u64_in,ay,aH,true_and,and_true]
   refine⟨fun h'=>Lg ?_,fun h'=>Lg ?_⟩
   ·simp only[vx,T,seval];refine⟨⟨by omega,by omega⟩,?_⟩
    simp(disch:=omega) only[lG,←X2,←Int.natCast_mul,Int.toNat_natCast,IntWalk.i64_in,IntWalk.u64_in,ay,aH,true_and,and_true,hlen,X6]
    refine⟨by omega,Lq ⟨(i+1,_,_),hi.step (by omega) rfl⟩ ?_ ?_⟩
    ·refine Sa ?_;simp only[ry,seval,rz,hlen,X6]
    simp only;omega
   simp only[vx,T,seval];have Wy:=jj (x:=b) (k:=i) (by omega)
   simp(disch:=omega) only[lG,←X2,←Int.natCast_mul,Int.toNat_natCast,IntWalk.i64_in,IntWalk.u64_in,ay,aH,true_and,and_true,hlen,X6]
   refine⟨by omega,Lq ⟨(i+1,_,_),hi.step (s:=c+a/BB^i%BB) (by omega) (by rw[Wy];rfl)⟩ ?_ ?_⟩
   ·refine Sa ?_;simp only[ry,seval,rz,hlen,X6]
   simp only;omega
  simp only[vx,T,seval];have Ti:i=nl a:=by omega
  subst Ti;refine⟨fun h'=>Lg ?_,fun h'=>Lg ?_⟩
  ·simp only[vx,T,seval];simp only[ay];refine⟨by simp;omega,?_⟩;have Vu:=hi.PV Tq (by simp only;omega);refine Va ?_;simp only[cV,aW,ry,seval,Vu]
  simp only[vx,T,seval];have SI:c=0:=by omega
  subst SI;have ZS:=hi.PK Tq;refine Va ?_;simp only[cV,aW,ry,seval,ZS]
end Go.Proofs.YthnkehdgnagmnaaGreat
