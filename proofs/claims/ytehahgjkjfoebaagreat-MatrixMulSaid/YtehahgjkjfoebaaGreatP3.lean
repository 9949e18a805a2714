/-
  MatrixMul: for every input the law returns true, and each argument reads afterwards as it read before. No condition.
  (Text 3 of 9; made by a program out of smaller texts.)
-/
import Derived.Test.YtehahgjkjfoebaaGreatProg
import Derived.KernelRfl
import Derived.IntWalk
import Derived.Test.YtehahgjkjfoebaaGreatP2
set_option linter.unusedSimpArgs false
set_option linter.unusedVariables false
set_option maxHeartbeats 16000000
set_option maxRecDepth 10000
open Nat renaming reduceAdd→J1,reduceMul→J2,reduceSub→J3,reduceEqDiff→J4,reduceLT→J5,reduceLeDiff→J6,reduceBEq→J7,reduceDiv→J8,reduceMod→J9,reducePow→J0
open Int renaming reduceToNat→K1,reduceLE→K2,reduceLT→K3,reduceEq→K4,reducePow→K5,reduceSub→K6,reduceNeg→K7,natCast_add→X2,natCast_one→X3,natCast_zero→X4
open List renaming getD_cons_zero→X0,getD_cons_succ→X1,length_take→X5,length_append→X6,getD_eq_getElem?_getD→X7,getElem?_eq_getElem→X8
open Nat renaming le_refl→O1,zero_le→O2,pow_le_pow_right→O3,pow_succ→O4,not_lt_zero→O5,mul_comm→O6,mod_eq_of_lt→O7,mul_le_mul_right→O8,mul_le_mul_left→O9
open Int renaming toNat_natCast→Q1,natCast_mul→Q2
open And renaming intro→Q3
open Go.IntWalk renaming i64_in→Q4,u64_in→Q5
open Option.some renaming injEq→Q6
open Go.Result renaming andThen_ok→Q7
namespace Go.Eng
open Go
def x6:Value→Bool
 |.slice a _ _=>match a with
  |none=>true
  |some _=>false
 |_=>false
def qI:Operand→Bool
 |.const v=>x6 v
 |_=>false
def xc:BinOp→Bool
 |.eql=>true
 |_=>false
def sD:Op→Bool
 |.store _ _ _=>true
 |.binOp op _ _ y _=>xc op&&qI y
 |.call c=>match c.callee with
  |.builtin b=>match b with
   |.append=>true
   |.cap=>true
   |.clear=>true
   |.copy=>true
   |_=>false
  |_=>false
 |_=>false
def dc:Op→Bool
 |.call c=>match c.callee with
  |.value _=>true
  |_=>false
 |_=>false
def orM (A B:Prop):Prop:=A∨B
def ra:Op→Bool
 |.assign _=>true
 |op=>sD op
def AQ (d:Tmp):Operand→Bool
 |.tmp t=>t==d
 |_=>false
def Nl (d:Tmp)(o:Op):Bool:=
 match o with
 |.convert _ _ x=>AQ d x
 |_=>false
def aR (d:Option Tmp)(os:List Oper):Bool:=
 match d with
 |none=>false
 |some d=>os.any fun o=>Nl d o.op||match o.op with
  |.call c=>match c.callee with
   |.value _=>c.args.toList.any (AQ d)
   |_=>false
  |.build _ ps=>ps.toList.any fun p=>AQ d p.2
  |.buildSlice _ _ ps=>ps.toList.any fun p=>AQ d p.2
  |_=>false
def uG (i:Nat)(os:List Oper):Bool:=os.any fun o=>match o.guard with
 |some (g,_)=>g==i
 |none=>false
def GX (T:fS)(s:St)(dst:Option Tmp)(t:TypeId)(x:Operand)(K:St→Prop):Prop:=
 match T t with
 |some E=>match E.k with
  |.sl _=>match s.ev x with
   |.one c=>match iI c with
    |some n=>∀m:Nat,n≤m→(c= .nil→m=0)→eQ K (s.put dst (.one (.int .i64 m)))
    |none=>False
   |_=>False
  |_=>False
 |none=>False
def NN (T:fS)(t:TypeId):Prop:=
 match T t with
 |some S=>(match S.k with
  |.sl _=>True
  |_=>False)
 |none=>False
theorem Ov {T:fS}{P:Program}(hT:eN P T){t:TypeId}(h:NN T t):∃e,P.underlying t=some (.slice e):=by
 unfold NN at h
 cases SZ:T t with
 |none=>rw[SZ]at h;exact h.elim
 |some S=>
  rw[SZ]at h;simp only at h
  split at h
  ·rename_i e hk
   exact⟨e,fx hT SZ hk⟩
  exact h.elim
def Ho (T:fS)(s:St)(dst:Option Tmp)(t:TypeId)(x:Operand)(K:St→Prop):Prop:=
 match T t with
 |some E=>match E.k with
  |.sl _=>match s.ev x with
   |.one c=>match iI c with
    |some n=>∀b:Bool,(0<n→b=false)→eQ K (s.put dst (.one (.bool b)))
    |none=>False
   |_=>False
  |_=>False
 |none=>False
def Bf (T:fS)(op:Op)(dst:Option Tmp)(s:St)(K:St→Prop):Prop:=
 match op with
 |.store t x y=>dst=none∧ua T s t x y K
 |.binOp op t x y _=>xc op=true∧qI y=true∧Ho T s dst t x K
 |.call c=>match c.callee with
  |.builtin b=>match b,c.args.toList,c.argTypes.toList with
   |.append,[x,y],[t,t']=>NN T t'∧pQ T s dst t x y K
   |.cap,[x],[t]=>GX T s dst t x K
   |.clear,[x],[t]=>uF T s dst t x K
   |.copy,[x,y],[t,t']=>NN T t'∧A8 T s dst t x y K
   |_,_,_=>False
  |_=>False
 |_=>False
def bX (u:Bool)(e:eX)(K:eX→Prop):Prop:=
 if u then(match e.val with
  |.one (.bool b)=>(b=true→eQ K ⟨.one (.bool true),e.wz,e.fz⟩)∧(b=false→eQ K ⟨.one (.bool false),e.wz,e.fz⟩)
  |_=>False)
 else K e
def after (s:St)(dst:Option Tmp)(e:eX):St:={s.add dst s.nx e with nx:=s.nx+1}
def dX (u:Bool)(i:Nat)(dst:Option Tmp)(gd:List (Nat×Tmp)):List (Nat×Tmp):=
 if u then(match dst with
  |some d=>(i,d)::gd
  |none=>gd)else gd
def gx:List (Nat×Tmp)→Nat→Option Tmp
 |[],_=>none
 |(i',t)::r,i=>if i=i' then some t else gx r i
def guarded (s:St)(gd:List (Nat×Tmp))(g:Option (Nat×Bool))(A B:Prop):Prop:=
 match g with
 |none=>A
 |some (g,want)=>match gx gd g with
  |some t=>match gv (lk s.env t)with
   |some b=>if b=some want then A else B
   |none=>False
  |none=>False
def qB (dst:Option Tmp)(n:Nat):Prop:=
 match dst with
 |none=>True
 |some d=>d<n
def vg (nx0:Nat):List Nat→Prop
 |[]=>True
 |b::r=>b<nx0∧vg nx0 r
def pT (T:fS)(P:Program):Nat→List Oper→List (Nat×Tmp)→St→(St→Prop)→Prop
 |_,[],_,s,K=>K s
 |i,o::os,gd,s,K=>
  qB o.dst s.n∧guarded s gd o.guard
   (
    if sD o.op then Bf T o.op o.dst s (fun s'=>pT T P (i+1) os gd s' K)
    else if dc o.op then orM (eR T P o.op s s.nx s.nx (aR o.dst os) (fun e=>bX (uG i os) e fun e'=>pT T P (i+1) os (dX (uG i os) i o.dst gd) (after s o.dst e') K)) (oK P o.op o.dst s (fun s'=>pT T P (i+1) os gd s' K))
    else eR T P o.op s s.nx s.nx (aR o.dst os) (fun e=>bX (uG i os) e fun e'=>pT T P (i+1) os (dX (uG i os) i o.dst gd) (after s o.dst e') K))
   (pT T P (i+1) os (dX (uG i os) i o.dst gd) (s.put o.dst (.aB [])) K)
def vo (T:fS)(P:Program)(nx0 len:Nat):Nat→List Oper→List (Nat×Tmp)→St→(St→Prop)→Prop
 |_,[],_,s,K=>K {s with nx:=nx0+len}
 |i,o::os,gd,s,K=>
  if ra o.op then pT T P i (o::os) gd {s with nx:=nx0+len} K
  else qB o.dst s.n∧guarded s gd o.guard
   (if dc o.op then orM (eR T P o.op s nx0 (nx0+i) (aR o.dst os) (fun e=>vg nx0 e.fz∧bX (uG i os) e fun e'=>vo T P nx0 len (i+1) os (dX (uG i os) i o.dst gd) (s.add o.dst (nx0+i) e') K)) False else eR T P o.op s nx0 (nx0+i) (aR o.dst os) (fun e=>vg nx0 e.fz∧bX (uG i os) e fun e'=>vo T P nx0 len (i+1) os (dX (uG i os) i o.dst gd) (s.add o.dst (nx0+i) e') K))
   (vo T P nx0 len (i+1) os (dX (uG i os) i o.dst gd) (s.put o.dst (.aB [])) K)
def gm (T:fS)(P:Program)(nx0 len:Nat)(ws:WL):Nat→List Oper→List (Nat×Tmp)→St→(St→Prop)→Prop
 |_,[],_,s,K=>K {s with nx:=nx0+len}
 |i,o::os,gd,s,K=>
  if jc ws i then gm T P nx0 len ws (i+1) os gd s K
  else qB o.dst s.n∧guarded s gd o.guard
   (if dc o.op then orM (eR T P o.op s nx0 (nx0+i) (aR o.dst os) (fun e=>vg nx0 e.fz∧bX (uG i os) e fun e'=>gm T P nx0 len ws (i+1) os (dX (uG i os) i o.dst gd) (s.add o.dst (nx0+i) e') K)) False else eR T P o.op s nx0 (nx0+i) (aR o.dst os) (fun e=>vg nx0 e.fz∧bX (uG i os) e fun e'=>gm T P nx0 len ws (i+1) os (dX (uG i os) i o.dst gd) (s.add o.dst (nx0+i) e') K))
   (gm T P nx0 len ws (i+1) os (dX (uG i os) i o.dst gd) (s.put o.dst (.aB [])) K)
def vJ (T:fS)(P:Program)(os:List Oper)(o:Oper)(d:Nat)(s:St):Prop:=match o.guard with
 |none=>eR T P o.op s s.nx s.nx false (fun e=>e.val=lk s.env d)
 |some (g,want)=>match(os[g]?).bind (·.dst)with
  |some t=>match gv (lk s.env t)with
   |some b=>if b=some want then eR T P o.op s s.nx s.nx false (fun e=>e.val=lk s.env d)else lk s.env d= .aB []
   |none=>False
  |none=>False
def prom (T:fS)(P:Program)(os:List Oper):List Nat→St→Prop
 |[],_=>True
 |j::r,s=>(match os[j]? with
  |some o=>match o.dst with
   |some d=>d<s.n∧vJ T P os o d s
   |none=>False
  |none=>False)∧prom T P os r s
def ur (T:fS)(P:Program)(o:Oper)(os:List Oper)(s:St)(K:St→Prop):Prop:=
 if sD o.op then Bf T o.op o.dst s K
 else if dc o.op then orM (eR T P o.op s s.nx s.nx (aR o.dst os) (fun e=>K (after s o.dst e))) (oK P o.op o.dst s K)
 else eR T P o.op s s.nx s.nx (aR o.dst os) (fun e=>K (after s o.dst e))
def Fc (T:fS)(P:Program)(os:List Oper)(i:Nat)(pd:List Nat)(s:St)(K:St→Prop):Prop:=match os[i]? with
  |some o=>qB o.dst s.n∧ur T P o os s (fun s'=>prom T P os pd s'∧K s')
  |none=>False
def jd (T:fS)(P:Program)(os:List Oper):WL→St→(St→Prop)→Prop
 |.nil,s,K=>K s
 |.cons i pd sub .nil,s,K=>Fc T P os i pd s (fun s'=>jd T P os sub s' K)
 |.cons i pd sub (.cons i' pd' sub' alt'),s,K=>Fc T P os i pd s (fun s'=>jd T P os sub s' K)∧jd T P os (.cons i' pd' sub' alt') s K
 |.cons _ _ _ (.opt _ _ _ _),_,_=>False
 |.opt _ _ _ _,_,_=>False
structure Kp where
 ks:List Nat
 ms:List (Nat×WL)
def mW:List (Nat×WL)→Nat→Option WL
 |[],_=>none
 |(i,ws)::r,id=>if id=i then some ws else mW r id
def gc (keep:List Nat)(s:St):St:={s with env:=keep.map fun t=>(t,lk s.env t)}
def oX (T:fS)(P:Program)(m:Option WL)(os:List Oper)(s:St)(K:St→Prop):Prop:=
 match m with
 |none=>vo T P s.nx os.length 0 os [] s K
 |some (.opt q d t1 t2)=>gm T P s.nx os.length t1 0 os [] s (fun s'=>jd T P os t1 s' K∧jd T P os t2 (QE d (s.nx+q) s') K)
 |some ws=>gm T P s.nx os.length ws 0 os [] s (fun s'=>jd T P os ws s' K)
def hC (T:fS)(P:Program)(ms:List (Nat×WL))(id:Nat)(draw:Bool)(os:List Oper)(s:St)(K:St→Prop):Prop:=
 if draw then oX T P (mW ms id) os s K else pT T P 0 os [] s K
def Sub (s s':St):Prop:=∀G a w,oT G s a w→oT G s' a w
def vc (T:fS)(P:Program)(keep:Kp):Code→St→(Exit→St→Prop)→Prop
 |.skip,s,Q=>Q .normal s
 |.region id ops draw,s,Q=>hC T P keep.ms id draw ops.toList s (fun s'=>Q .normal (gc keep.ks s'))
 |.seq a b,s,Q=>vc T P keep a s (fun e s'=>match e with
  |.normal=>vc T P keep b s' Q
  |e=>Q e s')
 |.cond c a b,s,Q=>match s.ev c with
  |.one (.bool t)=>(t=true→eQ (fun s=>vc T P keep a s Q) s)∧(t=false→eQ (fun s=>vc T P keep b s Q) s)
  |_=>False
 |.block id c,s,Q=>vc T P keep c s (fun e s'=>match e with
  |.exit id'=>if id'=id then Q .normal s' else Q (.exit id') s'
  |e=>Q e s')
 |.loop c,s,Q=>∃(ι:Type) (I:ι→St) (m:ι→Nat) (x0:ι),Sub s (I x0)∧∀x,eQ (fun s=>vc T P keep c s (fun e s'=>match e with
  |.normal=>∃y,Sub s' (I y)∧m y<m x
  |e=>Q e s')) (I x)
 |.exit id,s,Q=>Q (.exit id) s
 |.ret,s,Q=>Q .ret s
 |_,_,_=>False
theorem Hn.mono {P:Program}{ops:Array Oper}{o:Oper}{s:St}{K K':St→Prop}(h:Hn P ops o s K)(hk:∀s',K s'→K' s'):Hn P ops o s K':=by
 unfold Hn at*
 have hw:mY P o s K→mY P o s K':=fun h G a w hs Q next hn=>h G a w hs Q next (fun s' a' w' h1 h2=>hn s' a' w' (hk s' h1) h2)
 split at h
 ·exact hw h
 obtain⟨t,b,h1,h2,h3,h4⟩:=h;exact⟨t,b,h1,h2,fun e=>hw (h3 e),fun e=>hk _ (h4 e)⟩
def Ad (ops:Array Oper)(gd:List (Nat×Tmp)):Prop:=∀g t,gx gd g=some t→bt ops g=some t
theorem Ad.set {ops:Array Oper}{gd:List (Nat×Tmp)}(h:Ad ops gd){i:Nat}{o:Oper}(ho:ops[i]? =some o)(u:Bool):Ad ops (dX u i o.dst gd):=by
 unfold dX
 split
 ·cases hd:o.dst with
  |none=>exact h
  |some d=>
   intro g t hg;simp only[gx]at hg
   split at hg
   ·rename_i UR
    subst UR;simp only[Q6]at hg;subst hg;unfold bt;rw[ho];exact hd
   exact h g t hg
 exact h
theorem jF {u:Bool}{e:eX}{K:eX→Prop}(h:bX u e K):K e:=by
 unfold bX at h
 split at h
 ·split at h
  ·rename_i b hb
   obtain⟨v,bl,fz⟩:=e;simp only at hb;subst hb
   cases b
   ·exact h.2 rfl
   exact h.1 rfl
  exact h.elim
 exact h
section
variable {T:fS}{P:Program}(hT:eN P T)
include hT
theorem rC {o:Oper}{s:St}{K:St→Prop}{c:Call}(ho:o.op= .call c)(UK:c.callee= .builtin .cap){x:Operand}(SL:c.args= #[x]){t:TypeId}(Tx:c.argTypes= #[t])(TP:bY o s.n)(h:GX T s o.dst t x K):mY P o s K:=by
 unfold GX at h
 cases SZ:T t with
 |none=>rw[SZ]at h;exact h.elim
 |some E=>
  rw[SZ]at h;simp only at h
  split at h
  ·rename_i e VN
   have hu:=fx hT SZ VN
   split at h
   ·rename_i cc hx
    split at h
    ·rename_i n hl
     intro G a w SP Q next hk;obtain⟨ρ,hs⟩:=SP;have SN:=hs.ev x;rw[hx]at SN;obtain⟨ad,cap,hv,hc,hn⟩:=DX hl SN;have hr:(execOp a.eval o).run P w= .ok (.value (.int .i64 cap)) w:=by
      unfold execOp;rw[ho];simp only[resolve,UK,Sem.run_bind,Sem.run_pure,Q7,invoke,Go.builtin,SL,Tx];simp only[Builtin.cap_,hv,List.map_toArray,List.map_cons,List.map_nil,List.getElem?_toArray,List.getElem?_cons_zero,Sem.run_bind,ay hu,Q7,Sem.run_pure];rfl
     refine Oper.cX hr (hk _ _ _ (h cap hc hn) ⟨ρ,?_⟩);have h1:=hs.put (dst:=o.dst) (x:=.one (.int .i64 cap)) (v:=.int .i64 cap) TP rfl
     cases hd:o.dst with
     |none=>rw[hd]at h1;exact h1
     |some d=>rw[hd]at h1;exact h1
    exact h.elim
   exact h.elim
  exact h.elim
omit hT in
theorem Fv {ρ:Nat→Loc}{dom ok:Nat→Prop}{w:World}{c:C}{n:Nat}{v:Value}(hl:iI c=some n)(h:aF ρ dom ok w c v):∃a cap,v= .slice a n cap∧(0<n→∃ad,a=some ad):=by
 cases c with
 |own b wd off len=>
  simp only[iI,Q6]at hl;subst hl;obtain⟨_,_,cap,_,hr⟩:=h
  rcases hr with⟨g,o1,o2,_,hv,_⟩|⟨_,hv,h0,_⟩
  ·exact⟨_,_,hv,fun _=>⟨_,rfl⟩⟩
  exact⟨none,0,by rw[hv,h0],fun hp=>by omega⟩
 |win b b2 off len=>
  simp only[iI,Q6]at hl;subst hl;obtain⟨_,_,_,cap,_,hr⟩:=h
  rcases hr with⟨g,o1,o2,_,hv,_⟩|⟨_,hv,h0,_⟩
  ·exact⟨_,_,hv,fun _=>⟨_,rfl⟩⟩
  exact⟨none,0,by rw[hv,h0],fun hp=>by omega⟩
 |ints k xs=>
  simp only[iI,Q6]at hl;subst hl;obtain⟨a,cap,hv,_,hr⟩:=h
  rcases hr with hr|⟨g,o,ha,_⟩
  ·exact⟨a,cap,hv,fun hp=>by omega⟩
  exact⟨a,cap,hv,fun _=>⟨_,ha⟩⟩
 |rows wd m f=>
  simp only[iI,Q6]at hl;subst hl;obtain⟨a,cap,hv,_,hr⟩:=h
  rcases hr with hr|⟨g,o,ha,_⟩
  ·exact⟨a,cap,hv,fun hp=>by omega⟩
  exact⟨a,cap,hv,fun _=>⟨_,ha⟩⟩
 |nil=>
  simp only[iI,Q6]at hl;subst hl;exact⟨none,0,h,fun hp=>by omega⟩
 |any=>simp[iI]at hl
 |bool b=>simp[iI]at hl
 |int k n=>simp[iI]at hl
 |str b=>simp[iI]at hl
 |ptr b off=>simp[iI]at hl
 |eptr b wd i off=>simp[iI]at hl
 |elt c wd i off=>simp[iI]at hl
 |fn f n caps=>simp[iI]at hl
omit hT in
theorem sH (w:World)(d:Nat){t e:TypeId}(hu:P.underlying t=some (.slice e))(ad:Option Addr)(n cap l c0:Nat):(Op.equalIn (d+1) t (.slice ad n cap) (.slice none l c0)).run P w= .ok ad.isNone w:=by
 cases ad<;>simp only[Op.equalIn,Sem.run_bind,ay hu,Q7,Sem.run_pure,Option.isNone]
theorem Rg {
       o:Oper} {s:St} {K:St→Prop} {op:BinOp} {t t':TypeId} {x y:Operand} (ho:o.op= .binOp op t x y t') (VA:xc op=true) (hy:qI y=true) (TP:bY o s.n) (h:Ho T s o.dst t x K):mY P o s K:=by
 have VA:op= .eql:=by cases op<;>simp [xc]at VA⊢
 subst VA;have Vw:∃l c,y= .const (.slice none l c):=by
  cases y<;>simp [qI]at hy
  rename_i v
  cases v<;>simp [x6]at hy
  rename_i a l c
  cases a<;>simp at hy
  exact⟨l,c,rfl⟩
 obtain⟨l,c0,rfl⟩:=Vw;unfold Ho at h
 cases SZ:T t with
 |none=>rw[SZ]at h;exact h.elim
 |some E=>
  rw[SZ]at h;simp only at h
  split at h
  ·rename_i e VN
   have hu:=fx hT SZ VN
   split at h
   ·rename_i cc hx
    split at h
    ·rename_i n hl
     intro G a w SP Q next hk;obtain⟨ρ,hs⟩:=SP;have SN:=hs.ev x;rw[hx]at SN;obtain⟨ad,cap,hv,hn⟩:=Fv hl SN;have hr:(execOp a.eval o).run P w= .ok (.value (.bool ad.isNone)) w:=by
      unfold execOp;rw[ho];refine dW ?_;have Wh:a.eval (.const (.slice none l c0))= .slice none l c0:=rfl;rw[hv,Wh];have hg:(eqGuard .eql t x (.const (.slice none l c0)) (.slice ad n cap) (.slice none l c0)).run P w= .ok () w:=by
       unfold eqGuard;rfl
      have he:(Op.equal t (.slice ad n cap) (.slice none l c0)).run P w= .ok ad.isNone w:=by
       exact sH w 9999 hu ad n cap l c0
      rw[Sem.run_bind,hg,Q7];simp only[Go.binOp,Sem.run_bind,he,Q7,Sem.run_pure]
     refine Oper.cX hr (hk _ _ _ (h ad.isNone (fun hp=>by obtain⟨x,rfl⟩:=hn hp;rfl)) ⟨ρ,?_⟩);have h1:=hs.put (dst:=o.dst) (x:=.one (.bool ad.isNone)) (v:=.bool ad.isNone) TP rfl
     cases hd:o.dst with
     |none=>rw[hd]at h1;exact h1
     |some d=>rw[hd]at h1;exact h1
    exact h.elim
   exact h.elim
  exact h.elim
theorem xa {o:Oper}{s:St}{K:St→Prop}(TP:bY o s.n)(h:Bf T o.op o.dst s K):mY P o s K:=by
 unfold Bf at h
 split at h
 ·rename_i t x y ho
  exact N2 hT ho h.1 h.2
 ·rename_i op t x y t' ho
  exact Rg hT ho h.1 h.2.1 TP h.2.2
 ·rename_i c ho
  split at h
  ·rename_i b hb
   split at h
   ·rename_i x y t t' Tr SL Tx
    obtain⟨V4,h⟩:=h;obtain⟨e',he'⟩:=Ov hT V4;exact Mf hT ho hb (Array.toList_inj.1 SL) (Array.toList_inj.1 Tx) he' TP h
   ·rename_i x t Tr SL Tx
    exact rC hT ho hb (Array.toList_inj.1 SL) (Array.toList_inj.1 Tx) TP h
   ·rename_i x t Tr SL Tx
    exact NI hT ho hb (Array.toList_inj.1 SL) (Array.toList_inj.1 Tx) TP h
   ·rename_i x y t t' Tr SL Tx
    exact Qb hT ho hb (Array.toList_inj.1 SL) (Array.toList_inj.1 Tx) TP h.2
   exact h.elim
  exact h.elim
 exact h.elim
omit hT in
theorem sY {o:Oper}{n:Nat}(h:qB o.dst n):bY o n:=fun d hd=>by rw[hd]at h;exact h
theorem gD {ops:Array Oper}:∀(os:List Oper) (i:Nat) (gd:List (Nat×Tmp)) (s:St) (K:St→Prop),ops.toList.drop i=os→Ad ops gd→pT T P i os gd s K→vE P ops os s K
 |[],_,_,_,_,_,_,h=>h
 |o::os,i,gd,s,K,Tg,US,h=>by
  simp only[pT]at h;obtain⟨hd,h⟩:=h;have TB:=sY hd;have ho:ops[i]? =some o:=by
   have:(ops.toList.drop i)[0]? =some o:=by rw[Tg];rfl
   rw[List.getElem?_drop]at this
   simpa using this
  have Tp:ops.toList.drop (i+1)=os:=by
   rw[←List.drop_drop,Tg];rfl
  have taken:(if sD o.op then Bf T o.op o.dst s (fun s'=>pT T P (i+1) os gd s' K)
    else if dc o.op then orM (eR T P o.op s s.nx s.nx (aR o.dst os) (fun e=>bX (uG i os) e fun e'=>pT T P (i+1) os (dX (uG i os) i o.dst gd) (after s o.dst e') K)) (oK P o.op o.dst s (fun s'=>pT T P (i+1) os gd s' K))
    else eR T P o.op s s.nx s.nx (aR o.dst os) (fun e=>bX (uG i os) e fun e'=>pT T P (i+1) os (dX (uG i os) i o.dst gd) (after s o.dst e') K))→mY P o s (fun s'=>vE P ops os s' K):=by
   intro h
   split at h
   ·have:=xa hT TB h
    intro G a w hs Q next hn;exact this G a w hs Q next (fun s' a' w' h1 h2=>hn s' a' w' (gD os (i+1) gd s' K Tp US h1) h2)
   split at h
   ·rcases h with h|h
    ·obtain⟨e,hK,TT⟩:=gh hT TB h;exact TT.Q9 (gD os (i+1) _ _ K Tp (US.set ho _) (jF hK))
    have:=H0 TB h
    intro G a w hs Q next hn;exact this G a w hs Q next (fun s' a' w' h1 h2=>hn s' a' w' (gD os (i+1) gd s' K Tp US h1) h2)
   obtain⟨e,hK,TT⟩:=gh hT TB h;exact TT.Q9 (gD os (i+1) _ _ K Tp (US.set ho _) (jF hK))
  refine⟨TB,?_⟩;unfold Hn;unfold guarded at h
  cases hg:o.guard with
  |none=>rw[hg]at h;exact taken h
  |some gw=>
   obtain⟨g,want⟩:=gw;rw[hg]at h;simp only at h
   cases Vq:gx gd g with
   |none=>rw[Vq]at h;exact h.elim
   |some t=>
    rw[Vq]at h;simp only at h
    split at h
    ·rename_i b hb
     refine⟨t,b,US g t Vq,hb,fun e=>?_,fun e=>?_⟩
     ·rw[if_pos e]at h;exact taken h
     rw[if_neg e]at h;exact gD os (i+1) _ _ K Tp (US.set ho _) h
    exact h.elim
theorem CQ {o:Oper}{os:List Oper}{s:St}{K:St→Prop}(hd:bY o s.n)(h:ur T P o os s K):mY P o s K:=by
 unfold ur at h
 split at h
 ·exact xa hT hd h
 split at h
 ·rcases h with h|h
  ·obtain⟨e,hK,TT⟩:=gh hT hd h;exact TT.Q9 hK
  exact H0 hd h
 obtain⟨e,hK,TT⟩:=gh hT hd h;exact TT.Q9 hK
theorem tz {ops:Array Oper}{s:St}:∀(pd:List Nat),(∀j∈pd,∃o,ops[j]? =some o∧iE o.op=true)→prom T P ops.toList pd s→Promise P ops s pd
 |[],_,_=>fun j hj=>by cases hj
 |i::r,hl,h=>by
  simp only[prom]at h;obtain⟨h1,h2⟩:=h;intro j hj
  rcases List.mem_cons.1 hj with rfl|hj
  ·obtain⟨o,ho,WW⟩:=hl j (by simp);rw[Array.getElem?_toList,ho]at h1;simp only at h1
   cases hd:o.dst with
   |none=>rw[hd]at h1;exact h1.elim
   |some d=>
    rw[hd]at h1;obtain⟨TP,h1⟩:=h1;have doit:eR T P o.op s s.nx s.nx false (fun e=>e.val=lk s.env d)→Mm P o s s.nx (lk s.env d):=fun h1=>by
     obtain⟨e,he,TT⟩:=gh hT (fun d' hd'=>by rw[hd]at hd';obtain rfl:=Option.some.inj hd';exact TP) h1;have he:e.val=lk s.env d:=he;rw[←he];exact(TT.2 WW).2.2
    refine⟨o,d,ho,hd,?_,TP⟩;unfold vJ at h1;unfold Jt
    split at h1
    ·rename_i hg;(try rw[hg]);exact doit h1
    rename_i g want hg
    try rw[hg]
    split at h1
    ·rename_i t ht
     split at h1
     ·rename_i b hb
      refine⟨t,b,?_,hb,?_⟩
      ·unfold bt;rw[←Array.getElem?_toList];exact ht
      split at h1
      ·rename_i TL;rw[if_pos TL];exact doit h1
      rename_i TL;rw[if_neg TL];exact h1
     exact h1.elim
    exact h1.elim
  exact tz r (fun j hj=>hl j (by simp[hj])) h2 j hj
theorem uY {ops:Array Oper}{ws:WL}{ex:Option Nat}{pre:List Nat}{i:Nat}{pd:List Nat}{sub:WL}{s:St}{K K':St→Prop}(h1:PX ops ws ex pre i pd sub)(h:Fc T P ops.toList i pd s K)(hK:∀s',K s'→K' s'):Eg P ops i pd s K':=by
 simp only[Fc,Array.getElem?_toList]at h;obtain⟨o,ho,_,_,VA⟩:=h1.op;rw[ho]at h;obtain⟨hd,h⟩:=h;have TB:bY o s.n:=sY hd;refine⟨o,ho,TB,fun G a w hs Q next hk=>CQ hT TB h G a w hs Q next fun s' a' w' k1 k2=>hk s' a' w' ⟨?_,hK _ k1.2⟩ k2⟩;exact tz hT pd (fun j hj=>by obtain⟨oj,d,_,k1,k2,_⟩:=VA j hj;exact⟨oj,k1,k2⟩) k1.1
theorem gB {ops:Array Oper}{ws:WL}{ex:Option Nat}:∀(t:WL) (pre:List Nat) (s:St) (K:St→Prop),np ops ws ex pre t=true→jd T P ops.toList t s K→mo P ops t s K
 |.nil,_,_,_,_,h=>h
 |.opt _ _ _ _,_,_,_,_,h=>h.elim
 |.cons _ _ _ (.opt _ _ _ _),_,_,_,_,h=>by rw[jd]at h;exact h.elim
 |.cons i pd sub .nil,pre,s,K,hg,h=>by
  obtain⟨h1,_⟩:=jh hg;rw[jd]at h;rw[mo];exact uY hT h1 h fun s' k=>gB sub (i::pre) s' K h1.sub k
 |.cons i pd sub (.cons i' pd' sub' alt'),pre,s,K,hg,h=>by
  obtain⟨h1,h2⟩:=jh hg;rw[jd]at h;rw[mo];exact⟨uY hT h1 h.1 fun s' k=>gB sub (i::pre) s' K h1.sub k,gB (.cons i' pd' sub' alt') pre s K h2 h.2⟩
def Ju (P:Program)(ops:Array Oper)(ws:WL)(σ:St)(es:Nat→eX)(k:Nat):Prop:=
 (∀j,∀b∈(es j).fz,b<σ.nx)∧(∀(j:Nat) o,j<k→bK ws j=true→ops[j]? =some o→l9 P ops σ.nx j o (aL σ σ.nx ops es (bK ws) j) (es j))∧
  ∀(j:Nat) o,j<k→bK ws j=true→ops[j]? =some o→j9 o.op=true→(es j).fz=[]
omit hT in
theorem NT {op:Op}{s:St}{nx0 id:Nat}{fz:Bool}{K:eX→Prop}(ha:j9 op=true)(h:eR T P op s nx0 id fz K):eR T P op s nx0 id fz (fun e=>K e∧e.fz=[]):=by
 cases op<;>simp only[j9,Bool.false_eq_true]at ha
 simp only[eR]at h⊢
 split at h
 ·exact⟨h,trivial⟩
 exact h.elim
def mX (os:List Oper):Nat:=(os.takeWhile fun o=>!ra o.op).length
omit hT in
theorem yx {nx0:Nat}:∀{l:List Nat},vg nx0 l→∀b∈l,b<nx0
 |[],_,b,hb=>by simp at hb
 |x::r,h,b,hb=>by
  rcases List.mem_cons.1 hb with rfl|hb
  ·exact h.1
  exact yx h.2 b hb
omit hT in
theorem zS {σ:St}{nx0:Nat}{ops:Array Oper}{e e':Nat→eX}{L:Nat→Bool}:∀k,(∀j,j<k→e j=e' j)→aL σ nx0 ops e L k=aL σ nx0 ops e' L k:=by
 intro k
 induction k with
 |zero=>intro _;rfl
 |succ k ih=>intro h;simp only[aL,ih (fun j hj=>h j (by omega)),h k (by omega)]
def Laid (P:Program)(ops:Array Oper)(σ:St)(es:Nat→eX)(k:Nat):Prop:=
 (∀j,∀b∈(es j).fz,b<σ.nx)∧∀(j:Nat) o,j<k→ops[j]? =some o→l9 P ops σ.nx j o (aL σ σ.nx ops es (fun _=>true) j) (es j)
theorem xx {ops:Array Oper}{σ:St}:∀(os:List Oper) (i:Nat) (gd:List (Nat×Tmp)) (s:St) (K:St→Prop) (es:Nat→eX),ops.toList.drop i=os→Ad ops gd→s=aL σ σ.nx ops es (fun _=>true) i→
  Laid P ops σ es i→vo T P σ.nx ops.size i os gd s K→
  ∃es',Laid P ops σ es' (i+mX os)∧vE P ops (ops.toList.drop (i+mX os)) {aL σ σ.nx ops es' (fun _=>true) (i+mX os)with nx:=σ.nx+ops.size} K
 |[],i,gd,s,K,es,Tg,US,hs,hl,h=>by
  refine⟨es,hl,?_⟩;simp only[mX,List.takeWhile_nil,List.length_nil,Nat.add_zero,Tg];rw[←hs];exact h
 |o::os,i,gd,s,K,es,Tg,US,hs,hl,h=>by
  simp only[vo]at h;have ho:ops[i]? =some o:=by
   have:(ops.toList.drop i)[0]? =some o:=by rw[Tg];rfl
   rw[List.getElem?_drop]at this
   simpa using this
  have Tp:ops.toList.drop (i+1)=os:=by
   rw[←List.drop_drop,Tg];rfl
  by_cases V6:ra o.op=true
  ·rw[if_pos V6]at h;have hn:mX (o::os)=0:=by simp[mX,List.takeWhile_cons,V6]
   rw[hn,Nat.add_zero,Tg];refine⟨es,hl,?_⟩
   have:=gD hT (ops:=ops) (o::os) i gd _ K Tg US h
   rw[hs]at this;exact this
  rw[if_neg V6]at h;obtain⟨hd,h⟩:=h;have TB:=sY hd;have hn:mX (o::os)=mX os+1:=by simp[mX,List.takeWhile_cons,V6]
  rw[hn,show i+(mX os+1)=i+1+mX os by omega]
  -- one more laid down
  have more:∀(e:eX) (gd':List (Nat×Tmp)),Ad ops gd'→(∀b∈e.fz,b<σ.nx)→l9 P ops σ.nx i o s e→vo T P σ.nx ops.size (i+1) os gd' (s.add o.dst (σ.nx+i) e) K→
    ∃es',Laid P ops σ es' (i+1+mX os)∧vE P ops (ops.toList.drop (i+1+mX os)) {aL σ σ.nx ops es' (fun _=>true) (i+1+mX os)with nx:=σ.nx+ops.size} K:=by
   intro e gd' YN Up S1 hv;have TR:∀j,j<i→es j=(fun j=>if j=i then e else es j) j:=fun j hj=>by simp only;rw[if_neg (by omega)]
   have Vg:∀j,j≤i→aL σ σ.nx ops (fun j=>if j=i then e else es j) (fun _=>true) j=aL σ σ.nx ops es (fun _=>true) j:=fun j hj=>(zS j (fun m hm=>TR m (by omega))).symm;refine xx os (i+1) gd' (s.add o.dst (σ.nx+i) e) K (fun j=>if j=i then e else es j) Tp YN ?_ ⟨fun j b hb=>?_,fun j o' hj TV=>?_⟩ hv
   ·simp only[aL,if_true];rw[Vg i (O1 _),←hs]
    have:bt ops i=o.dst:=by unfold bt;rw[ho];rfl
    rw[this]
   ·simp only at hb
    split at hb
    ·exact Up b hb
    exact hl.1 j b hb
   rw[Vg j (by omega)]
   by_cases Ux:j=i
   ·subst Ux;rw[ho]at TV;obtain rfl:=Option.some.inj TV;simp only[if_true];rw[←hs];exact S1
   simp only[Ux,if_false];exact hl.2 j o' (by omega) TV
  have taken:(if dc o.op then orM (eR T P o.op s σ.nx (σ.nx+i) (aR o.dst os) (fun e=>vg σ.nx e.fz∧bX (uG i os) e fun e'=>vo T P σ.nx ops.size (i+1) os (dX (uG i os) i o.dst gd) (s.add o.dst (σ.nx+i) e') K)) False else eR T P o.op s σ.nx (σ.nx+i) (aR o.dst os) (fun e=>vg σ.nx e.fz∧bX (uG i os) e fun e'=>vo T P σ.nx ops.size (i+1) os (dX (uG i os) i o.dst gd) (s.add o.dst (σ.nx+i) e') K))→
    ∃e,a7 P o s σ.nx (σ.nx+i) e∧(∀b∈e.fz,b<σ.nx)∧vo T P σ.nx ops.size (i+1) os (dX (uG i os) i o.dst gd) (s.add o.dst (σ.nx+i) e) K:=by
   intro h;have h:eR T P o.op s σ.nx (σ.nx+i) (aR o.dst os) (fun e=>vg σ.nx e.fz∧bX (uG i os) e fun e'=>vo T P σ.nx ops.size (i+1) os (dX (uG i os) i o.dst gd) (s.add o.dst (σ.nx+i) e') K):=by
    split at h
    ·rcases h with h|h
     ·exact h
     exact h.elim
    exact h
   obtain⟨e,hK,TT⟩:=gh hT TB h;exact⟨e,TT,yx hK.1,jF hK.2⟩
  unfold guarded at h
  cases hg:o.guard with
  |none=>
   rw[hg]at h;obtain⟨e,TT,Up,hv⟩:=taken h;exact more e _ (US.set ho _) Up ⟨TB,by rw[hg];exact TT⟩ hv
  |some gw=>
   obtain⟨g,want⟩:=gw;rw[hg]at h;simp only at h
   cases Vq:gx gd g with
   |none=>rw[Vq]at h;exact h.elim
   |some t=>
    rw[Vq]at h;simp only at h
    split at h
    ·rename_i b hb
     by_cases TL:b=some want
     ·rw[if_pos TL]at h;obtain⟨e,TT,Up,hv⟩:=taken h;exact more e _ (US.set ho _) Up ⟨TB,by rw[hg];exact⟨t,b,US g t Vq,hb,by rw[if_pos TL];exact TT⟩⟩ hv
     rw[if_neg TL]at h;refine more eX.skip (dX (uG i os) i o.dst gd) (US.set ho _) (fun b hb=>by simp[eX.skip]at hb) ⟨TB,by rw[hg];exact⟨t,b,US g t Vq,hb,by rw[if_neg TL]⟩⟩ ?_;unfold eX.skip;rw[St.add_plain];exact h
    exact h.elim
theorem lE {ops:Array Oper}{σ:St}{ws:WL}:∀(os:List Oper) (i:Nat) (gd:List (Nat×Tmp)) (s:St) (K:St→Prop) (es:Nat→eX),i≤ops.size→ops.toList.drop i=os→Ad ops gd→s=aL σ σ.nx ops es (bK ws) i→
  Ju P ops ws σ es i→gm T P σ.nx ops.size ws i os gd s K→
  ∃es',Ju P ops ws σ es' ops.size∧K (uK σ ops es' ws)
 |[],i,gd,s,K,es,hi,Tg,US,hs,hl,h=>by
  have:i=ops.size:=by
   have:=List.drop_eq_nil_iff.1 Tg
   simp at this;omega
  subst this;refine⟨es,hl,?_⟩;unfold uK;rw[←hs];exact h
 |o::os,i,gd,s,K,es,hi,Tg,US,hs,hl,h=>by
  simp only[gm]at h;have ho:ops[i]? =some o:=by
   have:(ops.toList.drop i)[0]? =some o:=by rw[Tg];rfl
   rw[List.getElem?_drop]at this
   simpa using this
  have SI:=(Array.getElem?_eq_some_iff.1 ho).1;have Tp:ops.toList.drop (i+1)=os:=by
   rw[←List.drop_drop,Tg];rfl
  by_cases hw:jc ws i=true
  ·rw[if_pos hw]at h;have hnR:bK ws i=false:=by simp[bK,hw]
   refine lE os (i+1) gd s K es (by omega) Tp US ?_ ⟨hl.1,fun j o' hj hR TV=>?_,fun j o' hj hR TV=>?_⟩ h
   ·simp only[aL,hnR,Bool.false_eq_true,if_false];exact hs
   ·by_cases Ux:j=i
    ·rw[Ux,hnR]at hR;cases hR
    exact hl.2.1 j o' (by omega) hR TV
   by_cases Ux:j=i
   ·rw[Ux,hnR]at hR;cases hR
   exact hl.2.2 j o' (by omega) hR TV
  rw[if_neg hw]at h;have hR:bK ws i=true:=by simp[bK,hw]
  obtain⟨hd,h⟩:=h;have TB:=sY hd;have more:∀(e:eX) (gd':List (Nat×Tmp)),Ad ops gd'→(∀b∈e.fz,b<σ.nx)→(j9 o.op=true→e.fz=[])→l9 P ops σ.nx i o s e→gm T P σ.nx ops.size ws (i+1) os gd' (s.add o.dst (σ.nx+i) e) K→
    ∃es',Ju P ops ws σ es' ops.size∧K (uK σ ops es' ws):=by
   intro e gd' YN Up YA S1 hv;have TR:∀j,j<i→es j=(fun j=>if j=i then e else es j) j:=fun j hj=>by simp only;rw[if_neg (by omega)]
   have Vg:∀j,j≤i→aL σ σ.nx ops (fun j=>if j=i then e else es j) (bK ws) j=aL σ σ.nx ops es (bK ws) j:=fun j hj=>(zS j (fun m hm=>TR m (by omega))).symm;refine lE os (i+1) gd' (s.add o.dst (σ.nx+i) e) K (fun j=>if j=i then e else es j) (by omega) Tp YN ?_ ⟨fun j b hb=>?_,fun j o' hj hRj TV=>?_,fun j o' hj hRj TV=>?_⟩ hv
   ·simp only[aL,hR,if_true];rw[Vg i (O1 _),←hs]
    have:bt ops i=o.dst:=by unfold bt;rw[ho];rfl
    rw[this]
   ·simp only at hb
    split at hb
    ·exact Up b hb
    exact hl.1 j b hb
   ·rw[Vg j (by omega)]
    by_cases Ux:j=i
    ·subst Ux;rw[ho]at TV;obtain rfl:=Option.some.inj TV;simp only[if_true];rw[←hs];exact S1
    simp only[Ux,if_false];exact hl.2.1 j o' (by omega) hRj TV
   by_cases Ux:j=i
   ·subst Ux;rw[ho]at TV;obtain rfl:=Option.some.inj TV;simp only[if_true];exact YA
   simp only[Ux,if_false];exact hl.2.2 j o' (by omega) hRj TV
  have taken:(if dc o.op then orM (eR T P o.op s σ.nx (σ.nx+i) (aR o.dst os) (fun e=>vg σ.nx e.fz∧bX (uG i os) e fun e'=>gm T P σ.nx ops.size ws (i+1) os (dX (uG i os) i o.dst gd) (s.add o.dst (σ.nx+i) e') K)) False else eR T P o.op s σ.nx (σ.nx+i) (aR o.dst os) (fun e=>vg σ.nx e.fz∧bX (uG i os) e fun e'=>gm T P σ.nx ops.size ws (i+1) os (dX (uG i os) i o.dst gd) (s.add o.dst (σ.nx+i) e') K))→
    ∃e,a7 P o s σ.nx (σ.nx+i) e∧(∀b∈e.fz,b<σ.nx)∧(j9 o.op=true→e.fz=[])∧gm T P σ.nx ops.size ws (i+1) os (dX (uG i os) i o.dst gd) (s.add o.dst (σ.nx+i) e) K:=by
   intro h;have h:eR T P o.op s σ.nx (σ.nx+i) (aR o.dst os) (fun e=>vg σ.nx e.fz∧bX (uG i os) e fun e'=>gm T P σ.nx ops.size ws (i+1) os (dX (uG i os) i o.dst gd) (s.add o.dst (σ.nx+i) e') K):=by
    split at h
    ·rcases h with h|h
     ·exact h
     exact h.elim
    exact h
   by_cases ha:j9 o.op=true
   ·obtain⟨e,hK,TT⟩:=gh hT TB (NT ha h);exact⟨e,TT,yx hK.1.1,fun _=>hK.2,jF hK.1.2⟩
   obtain⟨e,hK,TT⟩:=gh hT TB h;exact⟨e,TT,yx hK.1,fun h=>absurd h ha,jF hK.2⟩
  unfold guarded at h
  cases hg:o.guard with
  |none=>
   rw[hg]at h;obtain⟨e,TT,Up,YA,hv⟩:=taken h;exact more e _ (US.set ho _) Up YA ⟨TB,by rw[hg];exact TT⟩ hv
  |some gw=>
   obtain⟨g,want⟩:=gw;rw[hg]at h;simp only at h
   cases Vq:gx gd g with
   |none=>rw[Vq]at h;exact h.elim
   |some t=>
    rw[Vq]at h;simp only at h
    split at h
    ·rename_i b hb
     by_cases TL:b=some want
     ·rw[if_pos TL]at h;obtain⟨e,TT,Up,YA,hv⟩:=taken h;exact more e _ (US.set ho _) Up YA ⟨TB,by rw[hg];exact⟨t,b,US g t Vq,hb,by rw[if_pos TL];exact TT⟩⟩ hv
     rw[if_neg TL]at h;refine more eX.skip (dX (uG i os) i o.dst gd) (US.set ho _) (fun b hb=>by simp[eX.skip]at hb) (fun _=>rfl) ⟨TB,by rw[hg];exact⟨t,b,US g t Vq,hb,by rw[if_neg TL]⟩⟩ ?_;unfold eX.skip;rw[St.add_plain];exact h
    exact h.elim
end
def codeOk (kp:Kp):Code→Bool
 |.region id ops draw=>!draw||(match mW kp.ms id with
  |none=>tF ops (mX ops.toList)
  |some ws=>PK ops ws)
 |.seq a b=>codeOk kp a&&codeOk kp b
 |.cond _ a b=>codeOk kp a&&codeOk kp b
 |.block _ c=>codeOk kp c
 |.loop c=>codeOk kp c
 |.skip=>true
 |.exit _=>true
 |.ret=>true
 |_=>false
theorem tO {T:fS}{P:Program}(hT:eN P T)(hm:P.follows .mixedOrders=true){id:Nat}{ops:Array Oper}{draw:Bool}{kp:Kp}(S3:codeOk kp (.region id ops draw)=true){s:St}{K:St→Prop}(h:hC T P kp.ms id draw ops.toList s K)
  {G:Ctx} {a:Act} {w:World} (hs:oT G s a w):(Code.region id ops draw).wp P (fun e a w=>e= .normal∧∃s',K s'∧oT G s' a w) a w:=by
 unfold hC at h
 cases draw with
 |false=>
  simp only[Bool.false_eq_true,if_false]at h;have hW:=gD hT (ops:=ops) ops.toList 0 [] s K (by simp) (fun g t hg=>by simp[gx]at hg) h;refine wp_region ?_;have key:∀(os:List Oper) (i:Nat) (s:St) (a:Act) (w:World),ops.toList.drop i=os→vE P ops os s K→oT G s a w→wpOps P ops (fun e a w=>e= .normal∧∃s',K s'∧oT G s' a w) (List.range' i os.length) a w:=by
   intro os
   induction os with
   |nil=>intro i s a w _ hW hs;exact⟨rfl,s,hW,hs⟩
   |cons o os ih=>
    intro i s a w Tg hW hs;have ho:ops[i]? =some o:=by
     have:(ops.toList.drop i)[0]? =some o:=by rw[Tg];rfl
     rw[List.getElem?_drop]at this
     simpa using this
    have Tp:ops.toList.drop (i+1)=os:=by
     rw[←List.drop_drop,Tg];rfl
    rw[List.length_cons,List.range'_succ,wpOps_cons];exact Hn.step ho hW.2 hW.1 hs fun s' a' w' h1 h2=>ih (i+1) s' a' w' Tp h1 h2
  have:=key ops.toList 0 s a w (by simp) hW hs
  rw[List.range_eq_range']
  simpa using this
 |true=>
  simp only[if_true]at h;have VB:(match mW kp.ms id with
   |none=>tF ops (mX ops.toList)
   |some ws=>PK ops ws)=true:=by simpa[codeOk]using S3
  have TN:ops.toList.length=ops.size:=by simp
  unfold oX at h;rw[TN]at h
  cases hmd:mW kp.ms id with
  |some ws=>
   rw[hmd]at h VB;simp only at VB;obtain⟨ρ,hr⟩:=hs;have W6:∀(es:Nat→eX) (wt:WL) k,aL s s.nx ops es (fun j=>bK wt j&&(Array.replicate ops.size false).getD j false) k=s:=by
    intro es wt k
    induction k with
    |zero=>rfl
    |succ k ih=>
     simp only[aL];rw[if_neg (by simp[Array.getD]),ih]
   have Z7:iG ops (Array.replicate ops.size false)≤ops.size:=by
    unfold iG
    have:=List.countP_le_length (p:=fun i=>!(Array.replicate ops.size false).getD i false) (l:=List.range ops.size)
    simpa using this
   have W7:∀(es:Nat→eX) (wt:WL) (ex:Option Nat),pf P G ops wt ex True s es K (Array.replicate ops.size false) a w.drew:=fun es wt ex=>by
    refine⟨by simp,fun i hi=>by simp[Array.getD]at hi,.inl ⟨trivial,fun i hi=>by simp[Array.getD]at hi,ρ,?_⟩⟩;rw[W6];have h1:aS G (fun b=>b<s.nx) ρ s a w.drew:=hr.drew;exact h1.cU (fun b hb=>Or.inl hb)
   refine wp_region_any hm ?_;have plain:(∀q d t1 t2,ws≠ .opt q d t1 t2)→wpAny P .any ops (fun e a w=>e= .normal∧∃s',K s'∧oT G s' a w) ops.size (Array.replicate ops.size false) a w.drew:=fun Zo=>by
    have Zq:EY ops ws=true∧kA ops ws [] ws=true∧np ops ws none [] ws=true:=by
     cases ws with
     |opt q d t1 t2=>exact absurd rfl (Zo q d t1 t2)
     |nil=>simpa[PK,and_assoc]using VB
     |cons _ _ _ _=>simpa[PK,and_assoc]using VB
    have h':gm T P s.nx ops.size ws 0 ops.toList [] s (fun s'=>jd T P ops.toList ws s' K):=by
     cases ws with
     |opt q d t1 t2=>exact absurd rfl (Zo q d t1 t2)
     |nil=>exact h
     |cons _ _ _ _=>exact h
    have hg:=uo Zq.1;obtain⟨es,hl,hW⟩:=lE hT (ops:=ops) (σ:=s) (ws:=ws) ops.toList 0 [] s _ (fun _=>eX.skip) (O2 _) (by simp) (fun g t hg=>by simp[gx]at hg) rfl ⟨fun j b hb=>by simp[eX.skip]at hb,fun j o hj=>by omega,fun j o hj=>by omega⟩ h';have Wx:=gB hT (ops:=ops) ws [] _ K Zq.2.2 hW;exact mc (ex:=none) (F:=True) hg (fun _=>Zq.2.1) (fun _=>Zq.2.2) hl.1 (fun _ i o hR ho=>hl.2.1 i o (Array.getElem?_eq_some_iff.1 ho).1 hR ho) (fun _=>Wx) (fun _ q hq=>by cases hq) (fun s' a' w' h1 h2=>⟨rfl,s',h1,h2⟩) (fun ch a a' w h=>by cases h.1) ops.size _ a _ (W7 es ws none) Z7
   cases ws with
   |nil=>exact plain fun _ _ _ _ e=>by cases e
   |cons _ _ _ _=>exact plain fun _ _ _ _ e=>by cases e
   |opt q d t1 t2=>
    have hk:=JT VB;obtain⟨es,hl,hW1,hW2⟩:=lE hT (ops:=ops) (σ:=s) (ws:=t1) ops.toList 0 [] s _ (fun _=>eX.skip) (O2 _) (by simp) (fun g t hg=>by simp[gx]at hg) rfl ⟨fun j b hb=>by simp[eX.skip]at hb,fun j o hj=>by omega,fun j o hj=>by omega⟩ h;obtain⟨oq,hoq,_,haq⟩:=hk.al;exact xP hk hl.1 (hl.2.2 q oq hk.qs hk.qR hoq haq) (fun i o hR ho=>hl.2.1 i o (Array.getElem?_eq_some_iff.1 ho).1 hR ho) (gB hT (ops:=ops) t1 [] _ K hk.w1 hW1) (gB hT (ops:=ops) t2 [] _ K hk.w2 hW2)
     (fun s' a' w' h1 h2=>⟨rfl,s',h1,h2⟩) (fun ch a a' w h=>by cases h.1) ops.size _ a _ (W7 es t1 (some q)) Z7
  |none=>
  rw[hmd]at h VB;simp only at h VB;have hck':tF ops (mX ops.toList)=true:=VB;obtain⟨es,hl,hW⟩:=xx hT (ops:=ops) (σ:=s) ops.toList 0 [] s K (fun _=>eX.skip) (by simp) (fun g t hg=>by simp[gx]at hg) rfl ⟨fun j b hb=>by simp[eX.skip]at hb,fun j o hj=>by omega⟩ h;rw[Nat.zero_add]at hl hW;refine wp_region_any hm ?_;obtain⟨ρ,hr⟩:=hs;have W6:∀k,aL s s.nx ops es (fun j=>(Array.replicate ops.size false).getD j false) k=s:=by
   intro k
   induction k with
   |zero=>rfl
   |succ k ih=>
    simp only[aL];rw[if_neg (by simp[Array.getD]),ih]
  refine Ay (ze hck') hl.1 hl.2 hW (fun s' a' w' h1 h2=>⟨rfl,s',h1,h2⟩) ops.size _ a _ ⟨by simp,fun i hi=>by simp[Array.getD]at hi,.inl ⟨fun i hi=>by simp[Array.getD]at hi,ρ,?_⟩⟩ ?_
  ·rw[W6];have h1:aS G (fun b=>b<s.nx) ρ s a w.drew:=hr.drew;exact h1.cU (fun b hb=>Or.inl hb)
  unfold iG
  have:=List.countP_le_length (p:=fun i=>!(Array.replicate ops.size false).getD i false) (l:=List.range ops.size)
  simpa using this
theorem QK (keep:List Nat)(s:St)(t:Nat):lk (gc keep s).env t=if t∈keep then lk s.env t else .unk:=by
 simp only[gc]
 induction keep with
 |nil=>simp[lk]
 |cons x r ih=>
  simp only[List.map_cons,lk,List.mem_cons]
  by_cases h:t=x
  ·subst h;simp
  rw[if_neg h,ih]
  simp[h]
theorem OD (keep:List Nat)(s:St):Sub s (gc keep s):=by
 rintro G a w ⟨ρ,h⟩;refine⟨ρ,{hd:=h.hd,hn:=h.hn,env:=fun t=>?_,own:=h.own,inj:=h.inj,os:=h.os,tape:=h.tape,output:=h.output,size:=h.size,keep:=h.keep,wf:=h.wf,home:=h.home,room:=h.room}⟩;rw[QK]
 split
 ·exact h.env t
 trivial
theorem mP {T:fS}{P:Program}(hT:eN P T)(hm:P.follows .mixedOrders=true)(keep:Kp):∀(c:Code),codeOk keep c=true→∀(s:St) (Q:Exit→St→Prop),vc T P keep c s Q→∀(G:Ctx) (a:Act) (w:World),oT G s a w→
  c.wp P (fun e a w=>∃s',Q e s'∧oT G s' a w) a w:=by
 intro c
 induction c with
 |skip=>intro _ s Q h G a w hs;exact wp_skip ⟨s,h,hs⟩
 |region id ops draw=>
  intro S3 s Q h G a w hs;refine wp_mono (tO hT hm S3 h hs) ?_;rintro e a w ⟨rfl,s',h1,h2⟩;exact⟨_,h1,OD keep.ks s' G a w h2⟩
 |seq x y ihx ihy=>
  intro S3 s Q h G a w hs;simp only[codeOk,Bool.and_eq_true]at S3;refine wp_seq (wp_mono (ihx S3.1 s _ h G a w hs) ?_);rintro e a w ⟨s',h1,h2⟩
  cases e with
  |normal=>exact ihy S3.2 s' Q h1 G a w h2
  |_=>exact⟨s',h1,h2⟩
 |cond c x y ihx ihy=>
  intro S3 s Q h G a w hs;simp only[codeOk,Bool.and_eq_true]at S3;simp only[vc]at h
  split at h
  ·rename_i t ht
   have SN:a.eval c= .bool t:=by
    obtain⟨ρ,hr⟩:=hs
    have:=hr.ev c
    rw[ht]at this;exact this
   exact wp_cond_split SN (fun e=>ihx S3.1 s Q (h.1 e) G a w hs) (fun e=>ihy S3.2 s Q (h.2 e) G a w hs)
  exact h.elim
 |block id c ih=>
  intro S3 s Q h G a w hs;refine wp_block (wp_mono (ih S3 s _ h G a w hs) ?_);rintro e a w ⟨s',h1,h2⟩
  cases e with
  |exit id'=>
   simp only[Exit.inBlock];simp only at h1
   split
   ·rename_i he;rw[if_pos he]at h1;exact⟨s',h1,h2⟩
   rename_i he;rw[if_neg he]at h1;exact⟨s',h1,h2⟩
  |_=>exact⟨s',h1,h2⟩
 |loop c ih=>
  intro S3 s Q h G a w hs;obtain⟨ι,I,m,x0,W8,hround⟩:=h;refine wp_loop_ghost (fun n a w=>∃x,m x=n∧oT G (I x) a w) (m x0) ⟨x0,rfl,W8 G a w hs⟩ ?_;rintro n a w ⟨x,rfl,hx⟩;refine wp_mono (ih S3 (I x) _ (hround x) G a w hx) ?_;rintro e a w ⟨s',h1,h2⟩
  cases e with
  |normal=>
   obtain⟨y,hy,SI⟩:=h1;exact⟨m y,SI,y,rfl,hy G a w h2⟩
  |_=>exact⟨s',h1,h2⟩
 |exit id=>intro _ s Q h G a w hs;exact wp_exit ⟨s,h,hs⟩
 |ret=>intro _ s Q h G a w hs;exact wp_ret ⟨s,h,hs⟩
 |_=>intro S3;simp[codeOk]at S3
end Go.Eng
namespace Go.Eng
open Go
def eO:Nat→List V→List (Nat×V)
 |_,[]=>[]
 |i,v::r=>(i,v)::eO (i+1) r
def iS (args:List V)(n:Nat):St:={env:=eO 0 args,own:=[],nx:=1,n:=n}
def fR (x y:V):Prop:=∀ok w v,cE bm bo ok w x v→cE bm bo ok w y v
theorem fR.refl (x:V):fR x x:=fun _ _ _ h=>h
theorem Ve {x y:V}(h:x=y):fR x y:=h▸fR.refl x
def Ml (E:Ty):Bool:=
 match E.k.agg with
 |some true=>true
 |some false=>E.size==1
 |none=>false
def HP (
     T:fS) (s:St):ResultVar→Option V
 |.tmp t=>some (Cw s.own s.nx (lk s.env t))
 |.cell a t=>match T t with
  |some E=>match lk s.env a with
   |.one (.ptr b off)=>match lo s.own b with
    |some B=>match B.bk with
     |.var cs=>if off=0∧cs.length=E.size∧Ml E=true then some (Cw s.own s.nx (PF E.k cs))else none
     |_=>none
    |none=>none
   |_=>none
  |none=>none
def uf (T:fS)(s:St):List ResultVar→Option (List V)
 |[]=>some []
 |r::rs=>match HP T s r,uf T s rs with
  |some v,some vs=>some (v::vs)
  |_,_=>none
def CP:List V→V
 |[v]=>v
 |vs=>.aB vs
def b6 {α:Type}(x:Option α)(K:α→Prop):Prop:=
 match x with
 |some a=>K a
 |none=>False
theorem oU {α:Type}(a:α)(K:α→Prop):b6 (some a) K=K a:=rfl
def Kk (T:fS)(rs:List ResultVar)(R:V→Prop):Exit→St→Prop
 |.ret,s=>b6 (uf T s rs) fun vs=>R (CP vs)
 |.normal,s=>b6 (uf T s rs) fun vs=>R (CP vs)
 |_,_=>False
theorem KZ {E:Ty}(h:Ml E=true):E.k.agg=some true∨(E.k.agg=some false∧E.size=1):=by
 unfold Ml at h
 cases ha:E.k.agg with
 |none=>rw[ha]at h;cases h
 |some b=>cases b with
  |true=>exact .inl rfl
  |false=>rw[ha]at h;exact .inr ⟨rfl,by simpa using h⟩
def wO (G:Ctx)(w:World)(g:Nat):Prop:=g<w.heap.size∧¬G.forb g
theorem EZ {G:Ctx}{dom:Nat→Prop}{ρ:Nat→Loc}{s:St}{a:Act}{w:World}(hs:aS G dom ρ s a w){ids:List Nat}{g:Nat}(h:cS G s.own ρ w ids g):wO G w g:=by
 rcases h with h|⟨b,_,B,o,hl,ha⟩
 ·exact⟨h.1,h.2.1⟩
 have:=(hs.own b B hl).2.2.2 g o ha
 exact⟨this.1,this.2.1⟩
theorem zQ {G:Ctx}{dom:Nat→Prop}{ρ:Nat→Loc}{s:St}{a:Act}{w:World}(hs:aS G dom ρ s a w){x:V}{v:Value}(h:cE ρ dom (aI G s.own ρ w) w x v):dM bm bo (wO G w) w (Cw s.own s.nx x) v:=by
 have o:Oper:=default;have h1:=n8 hs (iO.refl s s.nx o) (kP x) x v (fun b hb _=>hb) h;exact dM.ext (Ext.dy fun g hg=>EZ hs hg) ⟨fun b hb=>hb.elim,fun b hb=>hb.elim⟩ _ _ h1
def Et (tmps:Array Value)(r:ResultVar):Sem Value:=
 match r with
 |.tmp t=>pure (tmps.getD t undef)
 |.cell a t=>do loadVar t (←asAddr (tmps.getD a undef))
theorem HT {P:Program}{T:fS}(hT:eN P T){G:Ctx}{dom:Nat→Prop}{ρ:Nat→Loc}{s:St}{a:Act}{w:World}(hs:aS G dom ρ s a w){r:ResultVar}{x:V}(h:HP T s r=some x):
  ∃v,(Et a.tmps r).run P w= .ok v w∧dM bm bo (wO G w) w x v:=by
 cases r with
 |tmp t=>
  simp only[HP,Q6]at h;subst h;exact⟨_,rfl,zQ hs (hs.env t)⟩
 |cell ad t=>
  simp only[HP]at h
  cases SZ:T t with
  |none=>rw[SZ]at h;cases h
  |some E=>
   rw[SZ]at h;simp only at h;obtain⟨i,d,z,hi,hu,_,hk,TN,_⟩:=bF hT SZ
   split at h
   ·rename_i b off hx
    cases S7:lo s.own b with
    |none=>rw[S7]at h;cases h
    |some B=>
     rw[S7]at h;simp only at h
     split at h
     ·rename_i cs hB
      split at h
      ·rename_i hc
       obtain⟨rfl,hlen,hld0⟩:=hc;simp only[Q6]at h;subst h;have SN:=hs.env ad;rw[hx]at SN;obtain⟨_,g,o',SH,SV⟩:=SN;obtain⟨_,_,SK,_⟩:=hs.own b B S7;unfold aM at SK;rw[SH]at SK;obtain⟨cur,e,hg,S5⟩:=SK;rw[hB]at S5;simp only at S5;have XZ:=KZ hld0;rw[hk]at XZ;obtain⟨v,hv,hr⟩:=jZ (P:=P) (t:=t) hi hu g (o'+0) cs (by omega) (by
        rcases XZ with h|⟨h1,h2⟩
        ·exact .inl h
        ·exact .inr ⟨h1,by omega⟩) (fun j c hj=>by
        obtain⟨u,S4,hr⟩:=S5 j c (by simpa[Bk.cell]using hj);exact⟨u,by rw[cell_of_row w g _ cur e (0,0) hg];exact S4,hr⟩)
       rw[←hk]at hr;refine⟨v,?_,zQ hs hr⟩;simp only[Et,Sem.run_bind];have WK:a.tmps.getD ad undef= .pointer (some ⟨g,o'+0,none⟩):=SV;rw[WK];exact hv
      cases h
     cases h
   cases h
theorem AM {P:Program}{T:fS}(hT:eN P T){G:Ctx}{dom:Nat→Prop}{ρ:Nat→Loc}{s:St}{a:Act}{w:World}(hs:aS G dom ρ s a w):∀(rs:List ResultVar) (xs:List V),uf T s rs=some xs→
  ∃vs,(rs.mapM (Et a.tmps)).run P w= .ok vs w∧a8 bm bo (wO G w) w xs vs
 |[],xs,h=>by
  simp only[uf,Q6]at h;subst h;exact⟨[],rfl,trivial⟩
 |r::rs,xs,h=>by
  simp only[uf]at h
  split at h
  ·rename_i x xs' hx VH
   simp only[Q6]at h;subst h;obtain⟨v,hv,hr⟩:=HT hT hs hx;obtain⟨vs,Ti,Ud⟩:=AM hT hs rs xs' VH;refine⟨v::vs,?_,hr,Ud⟩;rw[List.mapM_cons];simp only[Sem.run_bind,hv,Q7,Ti,Sem.run_pure]
  cases h
theorem nw:∀(args:List V) (i t:Nat),lk (eO i args) t=if i≤t∧t<i+args.length then args.getD (t-i) .unk else .unk
 |[],i,t=>by simp[eO,lk]
 |v::r,i,t=>by
  simp only[eO,lk,List.length_cons]
  by_cases h:t=i
  ·subst h;rw[if_pos rfl,if_pos (by omega)];simp
  rw[if_neg h,nw r (i+1) t]
  by_cases h2:i+1≤t∧t<i+1+r.length
  ·rw[if_pos h2,if_pos (by omega)];obtain⟨q,hq⟩:∃q,t=i+1+q:=⟨t-(i+1),by omega⟩;subst hq;rw[show i+1+q-(i+1)=q by omega,show i+1+q-i=q+1 by omega]
   simp
  rw[if_neg h2,if_neg (by omega)]
theorem a8.length {ρ:Nat→Loc}{dom ok:Nat→Prop}{w:World}:∀{xs:List V} {vs:List Value},a8 ρ dom ok w xs vs→xs.length=vs.length
 |[],[],_=>rfl
 |_::xs,_::vs,h=>by simp[a8.length h.2]
 |[],_::_,h=>h.elim
 |_::_,[],h=>h.elim
theorem pv {P:Program}{T:fS}(hT:eN P T)(hm:P.follows .mixedOrders=true){f:FuncId}{fn:Func}{c:Code}(hf:P.funcs[f]? =some fn)(hb:fn.body=some c)(hn:(fn.name== "runtime.NumGoroutine")=false)
  (args:List V) (SL:args.length≤fn.ntmps) (keep:Kp) (S3:codeOk keep c=true) (r:V)
  (h:vc T P keep c (iS args fn.ntmps) (Kk T fn.results.toList (fun x=>fR x r))):Pr P f args r:=by
 refine⟨⟨fn,hf,by rw[hb];rfl,hn⟩,fun ok w vs Tc Ti=>?_⟩;have hlen:=a8.length Ti;simp only[Array.length_toList]at hlen
 let G:Ctx:={W0:=w,forb:=fun g=>g<w.heap.size∧¬ok g,mine:=fun _=>False}
 let a0:Act:={tmps:=vs++Array.replicate (fn.ntmps-vs.size) undef,defers:=[]}
 have Wi:∀g,ok g→aI G [] bm w g:=fun g hg=>⟨Tc g hg,fun hf=>hf.2 hg,fun b B hl=>by cases hl⟩;have SP:oT G (iS args fn.ntmps) a0 w:=by
  refine⟨bm,{hd:=rfl,hn:=?_,env:=fun t=>?_,own:=fun b B hl=>(by cases hl),inj:=fun b B b' B' hl=>(by cases hl),os:=rfl,tape:=rfl,output:=rfl,size:=O1 _,keep:=fun _ _ _=>rfl,wf:=fun k hk=>hk.1,home:=fun l hl=>(by cases hl),room:=fun _=>O1 _}⟩
  ·simp[a0,iS];omega
  simp only[iS,nw]
  split
  ·rename_i ht
   simp only[Nat.sub_zero,Nat.zero_add]at ht⊢;have hx:args[t]? =some (args.getD t .unk):=by
    rw[X7,X8 ht.2];rfl
   obtain⟨v,hv,hr⟩:=a8.get Ti t _ hx;have Z8:a0.tmps.getD t undef=v:=by
    rw[Array.getElem?_toList]at hv;have SI:=(Array.getElem?_eq_some_iff.1 hv).1;simp only[a0,Array.getD_eq_getD_getElem?];rw[Array.getElem?_append_left SI,hv];rfl
   rw[Z8];exact cE.wy (dM.ext (Ext.dy Wi) ⟨fun b hb=>hb.elim,fun b hb=>hb.elim⟩ _ _ hr)
  trivial
 refine calls_of_wp hf hb (wp_mono (mP hT hm keep c S3 _ _ h G a0 w SP) ?_);rintro e a w' ⟨s',hq,ρ,hs⟩;have fin:b6 (uf T s' fn.results.toList) (fun vs=>fR (CP vs) r)→a.defers=[]∧∃v,(results fn a.tmps).run P w'= .ok v w'∧∃u,Ending.returned v= .returned u∧Go.RowKit.Below w.heap.size w w'∧cE bm bo (fun g=>ok g∨(w.heap.size≤g∧g<w'.heap.size)) w' r u:=by
  intro hq;unfold b6 at hq
  split at hq
  ·rename_i xs VH
   obtain⟨us,U6,SK⟩:=AM hT hs _ _ VH;refine⟨hs.hd,?_⟩;have Wg:∀g,wO G w' g→ok g∨(w.heap.size≤g∧g<w'.heap.size):=fun g hg=>by
    by_cases YO:g<w.heap.size
    ·by_cases UN:ok g
     ·exact .inl UN
     exact absurd ⟨YO,UN⟩ hg.2
    exact .inr ⟨by omega,hg.1⟩
   have Uf:Go.RowKit.Below w.heap.size w w':=⟨hs.os,hs.tape,hs.output,hs.size,fun k hk=>hs.keep k hk (fun hf=>hf)⟩;have Yz:(fn.results.mapM fun
     |.tmp t=>pure (a.tmps.getD t undef)
     |.cell ad t=>do loadVar t (←asAddr (a.tmps.getD ad undef)):Sem (Array Value)).run P w'= .ok us.toArray w':=by
    have e:(fun r:ResultVar=>(match r with
     |.tmp t=>pure (a.tmps.getD t undef)
     |.cell ad t=>do loadVar t (←asAddr (a.tmps.getD ad undef)):Sem Value))=Et a.tmps:=by
     funext r;cases r<;>rfl
    have e2:=congrArg (fun g=>(fn.results.mapM g).run P w') e;refine e2.trans ?_;rw[Array.mapM_eq_mapM_toList,Sem.run_map,U6];rfl
   have Ua:(results fn a.tmps).run P w'= .ok (if h:us.toArray.size=1 then us.toArray[0]else .tuple us.toArray) w':=by
    unfold results;rw[Sem.run_bind];refine Eq.trans (congrArg (fun x=>Result.andThen x _) Yz) ?_;rfl
   refine⟨_,Ua,_,rfl,Uf,?_⟩;have SQ:cE bm bo (fun g=>ok g∨(w.heap.size≤g∧g<w'.heap.size)) w' (CP xs) (if h:us.toArray.size=1 then us.toArray[0]else .tuple us.toArray):=by
    have hx:Ext (wO G w') (fun g=>ok g∨(w.heap.size≤g∧g<w'.heap.size)) w' w':=Ext.dy Wg;have TR:iC bo bo bm bm:=⟨fun _ h=>h,fun _ _=>rfl⟩;have SJ:=a8.length SK
    match xs,us,SK,SJ with
    |[x],[u],SK,_=>
     rw[dif_pos (by simp)];exact cE.wy (dM.ext hx TR _ _ SK.1)
    |[],[],_,_=>
     rw[dif_neg (by simp)];exact⟨#[],rfl,trivial⟩
    |x::y::xs,u::v::us,SK,_=>
     rw[dif_neg (by simp)];exact⟨_,rfl,a8.ext hx TR _ _ (by simpa using SK)⟩
   exact hq _ _ _ SQ
  exact hq.elim
 cases e with
 |normal=>exact fin hq
 |ret=>exact fin hq
 |_=>exact hq.elim
end Go.Eng
namespace Go.Eng
open Go
def sC:List (Nat×Option Nat)→Nat→Option Nat
 |[],b=>some b
 |(b',x)::r,b=>if b=b' then x else sC r b
def Qe:C→Bool
 |.elt _ _ _ _=>true
 |_=>false
def Y2 (rn:List (Nat×Option Nat))(nx:Nat)(c:C)(c':C):Prop:=
 match c' with
 |.any=>True
 |.own b' w' o' l'=>b'<nx∧match c with
  |.own b w o l=>sC rn b'=some b∧w=w'∧o=o'∧l=l'
  |.nil=>sC rn b'=none∧o'=0∧l'=0
  |.win b _ o l=>sC rn b'=some b∧w'=1∧o=o'∧l=l'
  |_=>False
 |.win b' Z9 o' l'=>b'<nx∧Z9<nx∧match c with
  |.own b w o l=>sC rn b'=some b∧w=1∧o=o'∧l=l'
  |.win b _ o l=>sC rn b'=some b∧o=o'∧l=l'
  |_=>False
 |.ptr b' o'=>b'<nx∧match c with
  |.ptr b o=>sC rn b'=some b∧o=o'
  |_=>False
 |.int k' n'=>match c with
  |.int k n=>k=k'∧n=n'
  |_=>False
 |.bool b'=>match c with
  |.bool b=>b=b'
  |_=>False
 |.str s'=>match c with
  |.str s=>s=s'
  |_=>False
 |.nil=>match c with
  |.nil=>True
  |_=>False
 |.ints k' xs'=>match c with
  |.ints k xs=>k=k'∧xs=xs'
  |.nil=>xs'=[]
  |_=>False
 |.rows w' n' f'=>match c with
  |.rows w n f=>w=w'∧n=n'∧∀i j,i<n→j<w→f i j=f' i j
  |.nil=>n'=0
  |_=>False
 |.fn f' n' caps'=>match c with
  |.fn f n caps=>f=f'∧((n=0∧n'=0)∨(n=1∧n'=1∧Qe (caps 0)=true∧caps 0=caps' 0))
  |_=>False
 |.elt s' w' i' o'=>match c with
  |.elt s w i o=>s=s'∧w=w'∧i=i'∧o=o'
  |_=>False
 |_=>False
def Y3 (rn:List (Nat×Option Nat))(nx:Nat):List C→List C→Prop
 |[],[]=>True
 |c::cs,c'::cs'=>Y2 rn nx c c'∧Y3 rn nx cs cs'
 |_,_=>False
def Y1 (rn:List (Nat×Option Nat))(nx:Nat)(x x':V):Prop:=
 match x' with
 |.unk=>True
 |.one c'=>match x with
  |.one c=>Y2 rn nx c c'
  |_=>False
 |.agg cs'=>match x with
  |.agg cs=>Y3 rn nx cs cs'
  |_=>False
 |.aB _=>False
def FX:C→Bool
 |.nil=>true
 |.ints _ _=>true
 |.rows _ _ _=>true
 |_=>false
theorem u7 {ρ:Nat→Loc}{dom ok:Nat→Prop}{w:World}{c:C}{v:Value}(hc:FX c=true)(h:aF ρ dom ok w c v):aQ ok w c v:=by
 cases c<;>simp [FX]at hc<;>exact h
def Y5 (rn:List (Nat×Option Nat))(nx:Nat)(B B':Bk):Prop:=
 match B' with
 |.var cs'=>match B with
  |.var cs=>Y3 rn nx cs cs'
  |_=>False
 |.ints _ k' xs'=>match B with
  |.ints _ k xs=>k=k'∧xs=xs'
  |_=>False
 |.rows _ w' n' f'=>match B with
  |.rows _ w n f=>w=w'∧n=n'∧∀i j,i<n→j<w→f i j=f' i j
  |.wins _ _ n g=>w'=1∧n=n'∧∀i,i<n→FX (g i)=true∧g i=f' i 0
  |_=>False
 |.wins _ _ n' g'=>match B with
  |.wins _ _ n g=>n=n'∧∀i,i<n→Y2 rn nx (g i) (g' i)
  |.rows _ w n f=>w=1∧n=n'∧∀i,i<n→Y2 rn nx (f i 0) (g' i)
  |_=>False
def Y7:Bk→Prop
 |.var _=>False
 |.ints _ _ xs=>xs=[]
 |.rows _ _ n _=>n=0
 |.wins _ _ n _=>n=0
def Y0 (rn:List (Nat×Option Nat))(nx:Nat)(env:List (Nat×V)):List (Nat×V)→Prop
 |[]=>True
 |(t,x')::r=>Y1 rn nx (lk env t) x'∧Y0 rn nx env r
def Y4 (rn:List (Nat×Option Nat))(nx:Nat)(own:List (Nat×fI)):List (Nat×fI)→Prop
 |[]=>True
 |(b',B')::r=>(b'<nx∧match sC rn b' with
  |none=>Y7 B'.bk
  |some b=>match lo own b with
   |some B=>(B'.rw=true→B.rw=true)∧Y5 rn nx B.bk B'.bk
   |none=>False)∧Y4 rn nx own r
def Y6 (rn:List (Nat×Option Nat)):List (Nat×fI)→Prop
 |[]=>True
 |(b',_)::r=>(∀p∈r,p.1=b'∨sC rn p.1=none∨sC rn p.1≠sC rn b')∧Y6 rn r
section
variable {rn:List (Nat×Option Nat)}{nx:Nat}{ρ ρ':Nat→Loc}{dom ok ok':Nat→Prop}{w:World}
def bU (rn:List (Nat×Option Nat))(ρ:Nat→Loc)(b':Nat):Loc:=
 match sC rn b' with
 |some b=>ρ b
 |none=>⟨none,0⟩
theorem Ab {wd n:Nat}{f f':Nat→Nat→C}{v:Value}(h:∀i j,i<n→j<wd→f i j=f' i j)(hr:aQ ok w (.rows wd n f) v):aQ ok w (.rows wd n f') v:=by
 obtain⟨a,cap,hv,hc,hr⟩:=hr;refine⟨a,cap,hv,hc,?_⟩
 rcases hr with hr|⟨g,o,ha,hg,Th⟩
 ·exact .inl hr
 refine .inr ⟨g,o,ha,hg,fun i j hi hj=>?_⟩;rw[←h i j hi hj];exact Th i j hi hj
theorem jq (hx:Ext ok ok' w w){c c':C}{v:Value}(h:Y2 rn nx c c')(hr:aF ρ dom ok w c v):aF (bU rn ρ) (fun b=>b<nx) ok' w c' v:=by
 cases c' with
 |any=>exact(aF.plain hr).1
 |own b' w' o' l'=>
  obtain⟨hb,h⟩:=h
  cases c with
  |own b wd o l=>
   obtain⟨h1,rfl,rfl,rfl⟩:=h;obtain⟨_,h2,cap,h3,h4⟩:=hr;have e:bU rn ρ b'=ρ b:=by unfold bU;rw[h1]
   exact⟨hb,by rw[e];exact h2,cap,h3,by rw[e];exact h4⟩
  |nil=>
   obtain⟨h1,rfl,rfl⟩:=h;have e:bU rn ρ b'=⟨none,0⟩:=by unfold bU;rw[h1]
   exact⟨hb,by rw[e];simp,0,O1 _,.inr ⟨by rw[e],hr,rfl,rfl⟩⟩
  |win b b2 o l=>
   obtain⟨h1,rfl,rfl,rfl⟩:=h;obtain⟨_,_,h2,cap,h3,h4⟩:=hr;have e:bU rn ρ b'=ρ b:=by unfold bU;rw[h1]
   exact⟨hb,by rw[e];exact h2,cap,h3,by rw[e];exact h4⟩
  |_=>exact h.elim
 |win b' Z9 o' l'=>
  obtain⟨hb,Tr,h⟩:=h
  cases c with
  |own b wd o l=>
   obtain⟨h1,rfl,rfl,rfl⟩:=h;obtain⟨_,h2,cap,h3,h4⟩:=hr;have e:bU rn ρ b'=ρ b:=by unfold bU;rw[h1]
   exact⟨Tr,hb,by rw[e];exact h2,cap,h3,by rw[e];exact h4⟩
  |win b b2 o l=>
   obtain⟨h1,rfl,rfl⟩:=h;obtain⟨_,_,h2,cap,h3,h4⟩:=hr;have e:bU rn ρ b'=ρ b:=by unfold bU;rw[h1]
   exact⟨Tr,hb,by rw[e];exact h2,cap,h3,by rw[e];exact h4⟩
  |_=>exact h.elim
 |ptr b' o'=>
  obtain⟨hb,h⟩:=h
  cases c with
  |ptr b o=>
   obtain⟨h1,rfl⟩:=h;obtain⟨_,g,o1,h2,h3⟩:=hr;have e:bU rn ρ b'=ρ b:=by unfold bU;rw[h1]
   exact⟨hb,g,o1,by rw[e];exact h2,h3⟩
  |_=>exact h.elim
 |int k' n'=>
  cases c with
  |int k n=>obtain⟨rfl,rfl⟩:=h;exact hr
  |_=>exact h.elim
 |bool b'=>
  cases c with
  |bool b=>cases h;exact hr
  |_=>exact h.elim
 |str s'=>
  cases c with
  |str s=>cases h;exact hr
  |_=>exact h.elim
 |nil=>
  cases c with
  |nil=>exact hr
  |_=>exact h.elim
 |ints k' xs'=>
  cases c with
  |ints k xs=>obtain⟨rfl,rfl⟩:=h;exact aQ.ext hx (.ints k xs) v hr
  |nil=>cases h;exact⟨none,0,hr,O1 _,.inl rfl⟩
  |_=>exact h.elim
 |rows w' n' f'=>
  cases c with
  |rows wd n f=>
   obtain⟨rfl,rfl,hf⟩:=h;exact aQ.ext hx (.rows wd n f') v (Ab hf hr)
  |nil=>cases h;exact⟨none,0,hr,O1 _,.inl rfl⟩
  |_=>exact h.elim
 |fn f' n' caps'=>
  cases c with
  |fn f n caps=>
   obtain⟨rfl,⟨rfl,rfl⟩|⟨rfl,rfl,h1,h2⟩⟩:=h
   ·obtain⟨cs,hv,hn,_⟩:=hr;exact⟨cs,hv,hn,fun i hi=>absurd hi (O5 _)⟩
   obtain⟨cs,hv,hn,hc⟩:=hr;refine⟨cs,hv,hn,fun i hi=>?_⟩;obtain rfl:i=0:=by omega
   have h3:=hc 0 hi;rw[←h2]
   cases V3:caps 0 with
   |elt s w i o=>rw[V3]at h3;exact aQ.ext hx (.elt s w i o) _ h3
   |_=>rw[V3]at h1;cases h1
  |_=>exact h.elim
 |elt s' w' i' o'=>
  cases c with
  |elt s w i o=>obtain⟨rfl,rfl,rfl,rfl⟩:=h;exact aQ.ext hx (.elt s w i o) v hr
  |_=>exact h.elim
 |eptr b wd i off=>exact h.elim
theorem tv (hx:Ext ok ok' w w):∀{cs cs':List C} {vs:List Value},Y3 rn nx cs cs'→bJ ρ dom ok w cs vs→bJ (bU rn ρ) (fun b=>b<nx) ok' w cs' vs
 |[],[],[],_,_=>trivial
 |c::cs,c'::cs',v::vs,h,hr=>⟨jq hx h.1 hr.1,tv hx h.2 hr.2⟩
 |[],_::_,_,h,_=>h.elim
 |_::_,[],_,h,_=>h.elim
 |[],[],_::_,_,hr=>hr.elim
 |_::_,_::_,[],_,hr=>hr.elim
theorem ud (hx:Ext ok ok' w w){x x':V}{v:Value}(h:Y1 rn nx x x')(hr:cE ρ dom ok w x v):cE (bU rn ρ) (fun b=>b<nx) ok' w x' v:=by
 cases x' with
 |unk=>trivial
 |one c'=>
  cases x with
  |one c=>exact jq hx h hr
  |_=>exact h.elim
 |agg cs'=>
  cases x with
  |agg cs=>obtain⟨vs,hv,hl⟩:=hr;exact⟨vs,hv,tv hx h hl⟩
  |_=>exact h.elim
 |aB xs=>exact h.elim
theorem uX:∀{cs cs':List C},Y3 rn nx cs cs'→∀(j:Nat) c',cs'[j]? =some c'→∃c,cs[j]? =some c∧Y2 rn nx c c'
 |[],[],_,j,c',hj=>by simp at hj
 |c::cs,c0::cs',h,0,c',hj=>by simp at hj;subst hj;exact⟨c,rfl,h.1⟩
 |c::cs,c0::cs',h,j+1,c',hj=>by simpa using uX h.2 j c' (by simpa using hj)
 |[],_::_,h,_,_,_=>h.elim
 |_::_,[],h,_,_,_=>h.elim
theorem Ac {B B':Bk}(h:Y5 rn nx B B'):B'.len=B.len:=by
 cases B' with
 |var cs'=>cases B<;>first|rfl|exact h.elim
 |ints e' k' xs'=>
  cases B with
  |ints e k xs=>obtain⟨_,rfl⟩:=h;rfl
  |_=>exact h.elim
 |rows e' w' n' f'=>
  cases B with
  |rows e wd n f=>obtain⟨_,rfl,_⟩:=h;rfl
  |wins e b2 n g=>obtain⟨_,rfl,_⟩:=h;rfl
  |_=>exact h.elim
 |wins e' Z9 n' g'=>
  cases B with
  |rows e wd n f=>obtain⟨_,rfl,_⟩:=h;rfl
  |wins e b2 n g=>obtain⟨rfl,_⟩:=h;rfl
  |_=>exact h.elim
theorem uM (hx:Ext ok ok' w w){B B':Bk}{l:Loc}(h:Y5 rn nx B B')(hr:aM ρ dom ok w l B):aM (bU rn ρ) (fun b=>b<nx) ok' w l B':=by
 unfold aM at*
 cases ha:l.addr with
 |none=>
  rw[ha]at hr;simp only at hr⊢;intro j
  cases B' with
  |var cs'=>
   cases B with
   |var cs=>
    cases hj:(Bk.var cs').cell j with
    |none=>rfl
    |some c'=>
     obtain⟨c,hc,_⟩:=uX h j c' hj
     have:=hr j
     simp only[Bk.cell]at this;rw[hc]at this;cases this
   |_=>exact h.elim
  |ints e' k' xs'=>
   cases B with
   |ints e k xs=>obtain⟨rfl,rfl⟩:=h;exact hr j
   |_=>exact h.elim
  |rows e' w' n' f'=>
   cases B with
   |rows e wd n f=>
    obtain⟨rfl,rfl,_⟩:=h
    have:=hr j
    simp only[Bk.cell]at this⊢
    split
    ·rename_i SI;rw[if_pos SI]at this;cases this
    rfl
   |wins e b2 n g=>
    obtain⟨rfl,rfl,_⟩:=h
    have:=hr j
    simp only[Bk.cell,Nat.mul_one]at this⊢
    split
    ·rename_i SI;rw[if_pos SI]at this;cases this
    rfl
   |_=>exact h.elim
  |wins e' Z9 n' g'=>
   cases B with
   |rows e wd n f=>
    obtain⟨rfl,rfl,_⟩:=h
    have:=hr j
    simp only[Bk.cell,Nat.mul_one]at this⊢
    split
    ·rename_i SI;rw[if_pos SI]at this;cases this
    rfl
   |wins e b2 n g=>
    obtain⟨rfl,_⟩:=h
    have:=hr j
    simp only[Bk.cell]at this⊢
    split
    ·rename_i SI;rw[if_pos SI]at this;cases this
    rfl
   |_=>exact h.elim
 |some p=>
  obtain⟨g,o⟩:=p;rw[ha]at hr;simp only at hr⊢;obtain⟨cur,e,hg,hc⟩:=hr;refine⟨cur,e,hg,fun j c' hj=>?_⟩
  cases B' with
  |var cs'=>
   cases B with
   |var cs=>
    obtain⟨c,hcj,ZM⟩:=uX h j c' hj;obtain⟨u,hu,hr⟩:=hc j c hcj;exact⟨u,hu,jq hx ZM hr⟩
   |_=>exact h.elim
  |ints e' k' xs'=>
   cases B with
   |ints e k xs=>
    obtain⟨rfl,rfl⟩:=h;obtain⟨u,hu,hr⟩:=hc j c' hj;exact⟨u,hu,aQ.ext hx _ _ hr⟩
   |_=>exact h.elim
  |rows e' w' n' f'=>
   cases B with
   |rows e wd n f=>
    obtain⟨rfl,rfl,hf⟩:=h;simp only[Bk.cell]at hj
    split at hj
    ·rename_i SI
     simp only[Q6]at hj
     have UY:0<wd:=by rcases Nat.eq_zero_or_pos wd with h0|h0;(subst h0;simp at SI);exact h0
     have h1:j/wd<n:=by rw[Nat.div_lt_iff_lt_mul UY];exact SI
     obtain⟨u,hu,hr⟩:=hc j (f (j/wd) (j%wd)) (by simp only[Bk.cell,if_pos SI]);rw[hf _ _ h1 (Nat.mod_lt _ UY),hj]at hr;exact⟨u,hu,aQ.ext hx _ _ hr⟩
    cases hj
   |wins e b2 n g=>
    obtain⟨rfl,rfl,hf⟩:=h;simp only[Bk.cell,Nat.mul_one,Nat.div_one,Nat.mod_one]at hj
    split at hj
    ·rename_i SI
     simp only[Q6]at hj;obtain⟨u,hu,hr⟩:=hc j (g j) (by simp only[Bk.cell,if_pos SI]);obtain⟨f1,f2⟩:=hf j SI;have hr:=u7 f1 hr;rw[f2,hj]at hr;exact⟨u,hu,aQ.ext hx _ _ hr⟩
    cases hj
   |_=>exact h.elim
  |wins e' Z9 n' g'=>
   cases B with
   |rows e wd n f=>
    obtain⟨rfl,rfl,hf⟩:=h;simp only[Bk.cell]at hj
    split at hj
    ·rename_i SI
     simp only[Q6]at hj;obtain⟨u,hu,hr⟩:=hc j (f j 0) (by simp only[Bk.cell,Nat.mul_one,if_pos SI,Nat.div_one,Nat.mod_one])
     have:=jq (ρ:=ρ) (dom:=dom) hx (hf j SI) (aF.bn hr)
     rw[hj]at this;exact⟨u,hu,this⟩
    cases hj
   |wins e b2 n g=>
    obtain⟨rfl,hf⟩:=h;simp only[Bk.cell]at hj
    split at hj
    ·rename_i SI
     simp only[Q6]at hj;obtain⟨u,hu,hr⟩:=hc j (g j) (by simp only[Bk.cell,if_pos SI])
     have:=jq hx (hf j SI) hr
     rw[hj]at this;exact⟨u,hu,this⟩
    cases hj
   |_=>exact h.elim
theorem CK {env env':List (Nat×V)}(h:Y0 rn nx env env')(t:Nat):Y1 rn nx (lk env t) (lk env' t):=by
 induction env' with
 |nil=>trivial
 |cons p r ih=>
  obtain⟨t',x'⟩:=p;simp only[lk]
  split
  ·rename_i he;subst he;exact h.1
  exact ih h.2
theorem lQ {own own':List (Nat×fI)}(h:Y4 rn nx own own'){b':Nat}{B':fI}(hl:lo own' b'=some B'):b'<nx∧((sC rn b'=none∧Y7 B'.bk)∨∃b B,sC rn b'=some b∧lo own b=some B∧(B'.rw=true→B.rw=true)∧Y5 rn nx B.bk B'.bk):=by
 induction own' with
 |nil=>cases hl
 |cons p r ih=>
  obtain⟨c,v⟩:=p;simp only[lo]at hl
  split at hl
  ·rename_i he
   subst he;obtain rfl:=Option.some.inj hl;obtain⟨h1,h2⟩:=h.1;refine⟨h1,?_⟩
   split at h2
   ·rename_i hr;exact .inl ⟨hr,h2⟩
   rename_i b hr
   split at h2
   ·rename_i B hB;exact .inr ⟨b,B,hr,hB,h2⟩
   exact h2.elim
  exact ih h.2 hl
theorem G9 {own:List (Nat×fI)}{b:Nat}{B:fI}(h:lo own b=some B):∃p∈own,p.1=b:=by
 induction own with
 |nil=>cases h
 |cons p r ih=>
  obtain⟨c,v⟩:=p;simp only[lo]at h
  split at h
  ·rename_i he;exact⟨(c,v),by simp,he.symm⟩
  obtain⟨q,hq,he⟩:=ih h;exact⟨q,by simp[hq],he⟩
theorem Fm {own:List (Nat×fI)}(h:Y6 rn own){b1 b2:Nat}(h1:∃p∈own,p.1=b1)(h2:∃p∈own,p.1=b2)(SW:b1≠b2)(hr:sC rn b1=sC rn b2):sC rn b1=none:=by
 induction own with
 |nil=>obtain⟨p,hp,_⟩:=h1;simp at hp
 |cons q r ih=>
  obtain⟨p1,Vh,rfl⟩:=h1;obtain⟨p2,UO,rfl⟩:=h2
  rcases List.mem_cons.1 Vh with e1|hm1
  ·rcases List.mem_cons.1 UO with e2|YP
   ·exact absurd (by rw[e1,e2]) SW
   rcases h.1 p2 YP with h3|h3|h3
   ·exact absurd (by rw[h3,e1]) SW
   ·rw[hr];exact h3
   exact absurd (by rw[←hr,e1]) h3
  rcases List.mem_cons.1 UO with e2|YP
  ·rcases h.1 p1 hm1 with h3|h3|h3
   ·exact absurd (by rw[h3,e2]) SW
   ·exact h3
   exact absurd (by rw[hr,e2]) h3
  exact ih h.2 ⟨p1,hm1,rfl⟩ ⟨p2,YP,rfl⟩
end
theorem Sub.of (rn:List (Nat×Option Nat)){s s':St}(hz:sC rn 0=some 0∧0<s'.nx)(hn:s.n=s'.n)(he:Y0 rn s'.nx s.env s'.env)(ho:Y4 rn s'.nx s.own s'.own)(ha:Y6 rn s'.own):Sub s s':=by
 rintro G a w ⟨ρ,h⟩;have Yv:∀b1 B1 b2 B2,lo s'.own b1=some B1→lo s'.own b2=some B2→b1≠b2→∀c,sC rn b1=some c→sC rn b2≠some c:=by
  intro b1 B1 b2 B2 h1 h2 SW c hc V7
  have:=Fm ha (G9 h1) (G9 h2) SW (hc.trans V7.symm)
  rw[hc]at this;cases this
 have Tc:∀g,aI G s.own ρ w g→aI G s'.own (bU rn ρ) w g:=fun g hg=>⟨hg.1,hg.2.1,fun b' B' hl S2 o Ug=>by
  obtain⟨_,hc⟩:=lQ ho hl
  rcases hc with⟨hr,_⟩|⟨b,B,hr,S7,aaa,_⟩
  ·unfold bU at Ug;rw[hr]at Ug;cases Ug
  unfold bU at Ug;rw[hr]at Ug;exact hg.2.2 b B S7 (aaa S2) o Ug⟩
 have hx:Ext (aI G s.own ρ w) (aI G s'.own (bU rn ρ) w) w w:=Ext.dy Tc;refine⟨bU rn ρ,{hd:=h.hd,hn:=h.hn.trans hn,env:=fun t=>ud hx (CK he t) (h.env t),own:=fun b' B' hl=>?_,inj:=fun b1 B1 b2 B2 h1 h2 SW S2 g o o' Ug=>?_,os:=h.os,tape:=h.tape,output:=h.output,size:=h.size,keep:=h.keep,wf:=h.wf,home:=fun l hl=>⟨hz.2,by unfold bU;rw[hz.1];exact(h.home l hl).2⟩,room:=h.room}⟩
 ·obtain⟨SI,hc⟩:=lQ ho hl
  rcases hc with⟨hr,Uo⟩|⟨b,B,hr,S7,aaa,hbr⟩
  ·have e:bU rn ρ b'=⟨none,0⟩:=by unfold bU;rw[hr]
   rw[e];refine⟨SI,?_,?_,fun g o Ug=>by cases Ug⟩
   ·cases hB:B'.bk with
    |var cs=>rw[hB]at Uo;exact Uo.elim
    |ints e k xs=>rw[hB]at Uo;have Uo:xs=[]:=Uo;subst Uo;rfl
    |rows e wd n f=>rw[hB]at Uo;have Uo:n=0:=Uo;subst Uo;rfl
    |wins e b2 n g=>rw[hB]at Uo;have Uo:n=0:=Uo;subst Uo;rfl
   unfold aM;intro j
   cases hB:B'.bk with
   |var cs=>rw[hB]at Uo;exact Uo.elim
   |ints e k xs=>rw[hB]at Uo;have Uo:xs=[]:=Uo;subst Uo;simp[Bk.cell]
   |rows e wd n f=>rw[hB]at Uo;have Uo:n=0:=Uo;subst Uo;simp[Bk.cell]
   |wins e b2 n g=>rw[hB]at Uo;have Uo:n=0:=Uo;subst Uo;simp[Bk.cell]
  have e:bU rn ρ b'=ρ b:=by unfold bU;rw[hr]
  obtain⟨_,h2,h3,h4⟩:=h.own b B S7;rw[e];exact⟨SI,by rw[h2,Ac hbr],uM hx hbr h3,h4⟩
 obtain⟨_,VR⟩:=lQ ho h1;obtain⟨_,V7⟩:=lQ ho h2
 rcases VR with⟨Vc,_⟩|⟨c1,D1,Vc,Uh,Yh,_⟩
 ·unfold bU at Ug;rw[Vc]at Ug;cases Ug
 rcases V7 with⟨Vy,_⟩|⟨c2,D2,Vy,SJ,_,_⟩
 ·unfold bU;rw[Vy];simp
 unfold bU at Ug⊢;rw[Vc]at Ug;rw[Vy];refine h.inj c1 D1 c2 D2 Uh SJ (fun e=>?_) (Yh S2) g o o' Ug;subst e;exact Yv b1 B1 b2 B2 h1 h2 SW c1 Vc Vy
theorem Sub.trans {s1 s2 s3:St}(h:Sub s1 s2)(k:Sub s2 s3):Sub s1 s3:=fun G a w hs=>k G a w (h G a w hs)
def sI (b3:Nat)(B:Bk):C→C
 |.own b w o l=>if b=b3 then gq B w o l else .own b w o l
 |.any=>.any
 |.bool b=>.bool b
 |.int k n=>.int k n
 |.str s=>.str s
 |.nil=>.nil
 |.ints k xs=>.ints k xs
 |.rows w n f=>.rows w n f
 |.win b b2 o l=>.win b b2 o l
 |.ptr b o=>.ptr b o
 |.elt c w i o=>.elt c w i o
 |.eptr b w i o=>.eptr b w i o
 |.fn f n caps=>.fn f n caps
theorem Sub.sI {
         s:St} (b b3:Nat) {e:TypeId} {b2 n:Nat} {g:Nat→C} {r:Bool} {B3:fI} (hl:lo s.own b=some ⟨.wins e b2 n g,r⟩) (Tn:lo s.own b3=some B3) (SW:b≠b3):
  Sub s {s with own:=eD (dG s.own [b3]) b ⟨.wins e b2 n (fun i=>Eng.sI b3 B3.bk (g i)),r⟩}:=by
 rintro G a w ⟨ρ,h⟩;have h2:=h.dG [b3];have hlb:lo (dG s.own [b3]) b=some ⟨.wins e b2 n g,r⟩:=by
  rw[fH,hl]
  simp[SW]
 have YQ:lo (dG s.own [b3]) b3=some ⟨B3.bk,false⟩:=by
  rw[fH,Tn]
  simp
 have Wo:∀c C,lo (eD (dG s.own [b3]) b ⟨.wins e b2 n (fun i=>Eng.sI b3 B3.bk (g i)),r⟩) c=some C→∃C',lo (dG s.own [b3]) c=some C'∧C'.rw=C.rw∧(c=b∨(c≠b∧C'=C)):=by
  intro c C hc;rw[b9]at hc
  by_cases e1:c=b
  ·subst e1;rw[if_pos rfl]at hc;obtain rfl:=Option.some.inj hc;exact⟨_,hlb,rfl,.inl rfl⟩
  rw[if_neg e1]at hc;exact⟨C,hc,rfl,.inr ⟨e1,rfl⟩⟩
 have Tc:∀g',aI G (dG s.own [b3]) ρ w g'→aI G (eD (dG s.own [b3]) b ⟨.wins e b2 n (fun i=>Eng.sI b3 B3.bk (g i)),r⟩) ρ w g':=fun g' hg=>⟨hg.1,hg.2.1,fun c C hc S2 o=>by
  obtain⟨C',h1,h3,_⟩:=Wo c C hc;exact hg.2.2 c C' h1 (h3.trans S2) o⟩
 have SR:Ext (aI G (dG s.own [b3]) ρ w) (aI G (eD (dG s.own [b3]) b ⟨.wins e b2 n (fun i=>Eng.sI b3 B3.bk (g i)),r⟩) ρ w) w w:=Ext.dy Tc;have hs:iC (fun b=>b<s.nx) (fun b=>b<s.nx) ρ ρ:=⟨fun _ h=>h,fun _ _=>rfl⟩;refine⟨ρ,h2.sA SR hs (fun c C hc=>?_) (fun c C c' C' hc hc' hn S2=>?_) rfl rfl rfl (O1 _) fun _ _ _=>rfl⟩
 ·obtain⟨C',h1,h3,h4⟩:=Wo c C hc;obtain⟨k1,k2,k3,k4⟩:=h2.own c C' h1
  rcases h4 with rfl|⟨e1,rfl⟩
  ·rw[hlb]at h1;obtain rfl:=Option.some.inj h1;rw[b9,if_pos rfl]at hc;obtain rfl:=Option.some.inj hc;refine⟨k1,k2,?_,k4⟩;unfold aM at k3⊢
   cases ha:(ρ c).addr with
   |none=>
    rw[ha]at k3;intro j
    have:=k3 j
    simp only[Bk.cell]at this⊢
    split at this
    ·cases this
    rename_i hj;rw[if_neg hj]
   |some x=>
    obtain⟨g1,o1⟩:=x;rw[ha]at k3;obtain⟨cur,e4,hg4,XQ⟩:=k3;refine⟨cur,e4,hg4,fun j cc hj=>?_⟩;simp only[Bk.cell]at hj XQ
    split at hj
    ·rename_i Tj
     obtain⟨u,XB,TU⟩:=XQ j (g j) (if_pos Tj);obtain rfl:=Option.some.inj hj;refine⟨u,XB,?_⟩;have keep:aF ρ (fun b=>b<s.nx) (aI G (eD (dG s.own [b3]) c ⟨.wins e b2 n (fun i=>Eng.sI b3 B3.bk (g i)),r⟩) ρ w) w (g j) u:=aF.ext SR hs _ _ TU;show aF _ _ _ w (Eng.sI b3 B3.bk (g j)) u
     generalize g j=cj at TU keep
     cases cj with
     |own b' wd o l=>
      simp only[Eng.sI]
      by_cases hb:b'=b3
      ·rw[if_pos hb];subst hb;obtain⟨m1,m2,m3,m4⟩:=h2.own b' _ YQ;obtain⟨_,hle,cap,Te,hv⟩:=TU;refine aF.bn ?_
       rcases hv with⟨g5,o5,o6,SH,rfl,Td,_⟩|⟨SH,rfl,Uz,T6⟩
       ·have hokg:aI G (eD (dG s.own [b']) c ⟨.wins e b2 n (fun i=>Eng.sI b' B3.bk (g i)),r⟩) ρ w g5:=by
         refine⟨(m4 g5 o5 SH).1,(m4 g5 o5 SH).2.1,fun c2 C2 V7 YR o7 he=>?_⟩;obtain⟨C3,h5,h6,_⟩:=Wo c2 C2 V7;have hne2:c2≠b':=fun e=>by
          subst e;rw[YQ]at h5;obtain rfl:=Option.some.inj h5;rw[←h6]at YR;cases YR
         exact h2.inj c2 C3 b' _ h5 YQ hne2 (h6.trans YR) g5 o7 o5 he SH
        exact lZ (ρ:=ρ) (dom:=fun b=>b<s.nx) SH (aM.ext SR hs _ _ (fun _ _ _=>rfl) m3) hokg m2 hle Te Td
       subst Uz
       cases hB:B3.bk with
       |var cs=>rfl
       |wins e b2 n g=>rfl
       |ints e k xs=>
        simp only[gq]
        split
        ·exact⟨none,0,by simp,by simp,.inl (by simp)⟩
        rfl
       |rows e w' n f=>
        simp only[gq]
        split
        ·exact⟨none,0,rfl,O1 _,.inl rfl⟩
        rfl
      rw[if_neg hb];exact keep
     |_=>exact keep
    cases hj
  exact⟨k1,k2,aM.ext SR hs _ _ (fun _ _ _=>rfl) k3,k4⟩
 obtain⟨D,h1,h3,_⟩:=Wo c C hc;obtain⟨D',h1',_,_⟩:=Wo c' C' hc';exact h2.inj c D c' D' h1 h1' hn (h3.trans S2)
end Go.Eng
namespace Go.Eng
open Go
section
variable {T:fS}{P:Program}{kp:Kp}{e:List (Nat×V)}{o:List (Nat×fI)}{x n:Nat}{Q:Exit→St→Prop}{K:St→Prop}{KE:eX→Prop}
theorem LV:vc T P kp .skip ⟨e,o,x,n⟩ Q=Q .normal ⟨e,o,x,n⟩:=rfl
theorem ER {id:Nat}{ops:Array Oper}{d:Bool}:vc T P kp (.region id ops d) ⟨e,o,x,n⟩ Q=hC T P kp.ms id d ops.toList ⟨e,o,x,n⟩ (fun s'=>Q .normal (gc kp.ks s')):=rfl
def Lw (T:fS)(P:Program)(kp:Kp)(b:Code)(Q:Exit→St→Prop):Exit→St→Prop:=fun e s'=>match e with
  |.normal=>vc T P kp b s' Q
  |e=>Q e s'
theorem NC {a b:Code}:vc T P kp (.seq a b) ⟨e,o,x,n⟩ Q=vc T P kp a ⟨e,o,x,n⟩ (Lw T P kp b Q):=rfl
theorem Ap {b:Code}:Lw T P kp b Q .normal ⟨e,o,x,n⟩=vc T P kp b ⟨e,o,x,n⟩ Q:=rfl
theorem Hp {b:Code}:Lw T P kp b Q .ret ⟨e,o,x,n⟩=Q .ret ⟨e,o,x,n⟩:=rfl
theorem Ff {b:Code}{id:Nat}:Lw T P kp b Q (.exit id) ⟨e,o,x,n⟩=Q (.exit id) ⟨e,o,x,n⟩:=rfl
def MQ (v:V)(A B:St→Prop)(s:St):Prop:=match v with
 |.one (.bool t)=>(t=true→eQ A s)∧(t=false→eQ B s)
 |_=>False
theorem C5 {t:Bool}{A B:St→Prop}{s:St}:MQ (.one (.bool t)) A B s=((t=true→eQ A s)∧(t=false→eQ B s)):=rfl
theorem KI {α:Type}{A:α→Prop}{s:α}:(True→eQ A s)=A s:=by simp only[true_imp_iff];rfl
theorem Mi {α:Type}{A:α→Prop}{s:α}:(False→eQ A s)=True:=by simp only[false_imp_iff]
theorem LD {c:Operand}{a b:Code}:vc T P kp (.cond c a b) ⟨e,o,x,n⟩ Q=MQ (St.ev ⟨e,o,x,n⟩ c) (fun s=>vc T P kp a s Q) (fun s=>vc T P kp b s Q) ⟨e,o,x,n⟩:=rfl
def xX (id:Nat)(Q:Exit→St→Prop):Exit→St→Prop:=fun e s'=>match e with
  |.exit id'=>if id'=id then Q .normal s' else Q (.exit id') s'
  |e=>Q e s'
theorem GY {id:Nat}{c:Code}:vc T P kp (.block id c) ⟨e,o,x,n⟩ Q=vc T P kp c ⟨e,o,x,n⟩ (xX id Q):=rfl
theorem vu {id:Nat}:xX id Q .normal ⟨e,o,x,n⟩=Q .normal ⟨e,o,x,n⟩:=rfl
theorem Cl {id:Nat}:xX id Q .ret ⟨e,o,x,n⟩=Q .ret ⟨e,o,x,n⟩:=rfl
theorem z6 {id id':Nat}:xX id Q (.exit id') ⟨e,o,x,n⟩=if id'=id then Q .normal ⟨e,o,x,n⟩else Q (.exit id') ⟨e,o,x,n⟩:=rfl
def zN {ι:Type}(I:ι→St)(m:ι→Nat)(k:Nat)(Q:Exit→St→Prop):Exit→St→Prop:=fun e s'=>match e with
  |.normal=>∃y,Sub s' (I y)∧m y<k
  |e=>Q e s'
def MS (T:fS)(P:Program)(kp:Kp)(c:Code)(Q:Exit→St→Prop)(s:St):Prop:=
 ∃(ι:Type) (I:ι→St) (m:ι→Nat) (x0:ι),Sub s (I x0)∧∀x,vc T P kp c (I x) (zN I m (m x) Q)
theorem LS {c:Code}:vc T P kp (.loop c) ⟨e,o,x,n⟩ Q=MS T P kp c Q ⟨e,o,x,n⟩:=rfl
theorem Lk {c:Code}{s:St}{ι:Type}(I:ι→St)(m:ι→Nat)(x0:ι)(h0:Sub s (I x0))(h:∀x,vc T P kp c (I x) (zN I m (m x) Q)):MS T P kp c Q s:=⟨ι,I,m,x0,h0,h⟩
theorem Fk {ι:Type}{I:ι→St}{m:ι→Nat}{k:Nat}:zN I m k Q .ret ⟨e,o,x,n⟩=Q .ret ⟨e,o,x,n⟩:=rfl
theorem BG {ι:Type}{I:ι→St}{m:ι→Nat}{k id:Nat}:zN I m k Q (.exit id) ⟨e,o,x,n⟩=Q (.exit id) ⟨e,o,x,n⟩:=rfl
theorem Lq {ι:Type}{I:ι→St}{m:ι→Nat}{k:Nat}{s:St}(y:ι)(h:Sub s (I y))(h1:m y<k):zN I m k Q .normal s:=⟨y,h,h1⟩
theorem Kr {id:Nat}:vc T P kp (.exit id) ⟨e,o,x,n⟩ Q=Q (.exit id) ⟨e,o,x,n⟩:=rfl
theorem Od:vc T P kp .ret ⟨e,o,x,n⟩ Q=Q .ret ⟨e,o,x,n⟩:=rfl
theorem BT {ms:List (Nat×WL)}{id:Nat}{os:List Oper}:hC T P ms id true os ⟨e,o,x,n⟩ K=oX T P (mW ms id) os ⟨e,o,x,n⟩ K:=by simp only[hC,if_true]
theorem AR {os:List Oper}:oX T P none os ⟨e,o,x,n⟩ K=vo T P x os.length 0 os [] ⟨e,o,x,n⟩ K:=rfl
theorem BQ {os:List Oper}:oX T P (some .nil) os ⟨e,o,x,n⟩ K=gm T P x os.length .nil 0 os [] ⟨e,o,x,n⟩ (fun s'=>jd T P os .nil s' K):=rfl
theorem AH {i:Nat}{pd:List Nat}{r al:WL}{os:List Oper}:oX T P (some (.cons i pd r al)) os ⟨e,o,x,n⟩ K=gm T P x os.length (.cons i pd r al) 0 os [] ⟨e,o,x,n⟩ (fun s'=>jd T P os (.cons i pd r al) s' K):=rfl
theorem BY {q d:Nat}{t1 t2:WL}{os:List Oper}:oX T P (some (.opt q d t1 t2)) os ⟨e,o,x,n⟩ K=gm T P x os.length t1 0 os [] ⟨e,o,x,n⟩ (fun s'=>jd T P os t1 s' K∧jd T P os t2 (QE d (x+q) s') K):=rfl
theorem Oi {d id:Nat}:QE d id ⟨e,o,x,n⟩=⟨Jz e d,del o id,x,n⟩:=rfl
theorem Db {ms:List (Nat×WL)}{id:Nat}{os:List Oper}:hC T P ms id false os ⟨e,o,x,n⟩ K=pT T P 0 os [] ⟨e,o,x,n⟩ K:=by simp only[hC,Bool.false_eq_true,if_false]
def uE (T:fS)(P:Program)(i:Nat)(os:List Oper)(gd:List (Nat×Tmp))(dst:Option Tmp)(op:Op)(K:St→Prop)(s:St):Prop:=
 if sD op then Bf T op dst s (fun s'=>pT T P (i+1) os gd s' K)
 else if dc op then orM (eR T P op s s.nx s.nx (aR dst os) (fun e=>bX (uG i os) e fun e'=>pT T P (i+1) os (dX (uG i os) i dst gd) (after s dst e') K)) (oK P op dst s (fun s'=>pT T P (i+1) os gd s' K))
 else eR T P op s s.nx s.nx (aR dst os) (fun e=>bX (uG i os) e fun e'=>pT T P (i+1) os (dX (uG i os) i dst gd) (after s dst e') K)
def qX (v:Option V)(want:Bool)(A B:St→Prop)(s:St):Prop:=
 match v.bind gv with
 |some b=>if b=some want then A s else B s
 |none=>False
theorem Lf {i:Nat}{gd:List (Nat×Tmp)}:pT T P i [] gd ⟨e,o,x,n⟩ K=K ⟨e,o,x,n⟩:=rfl
theorem HX {i:Nat}{gd:List (Nat×Tmp)}{dst:Option Tmp}{op:Op}{ty:TypeId}{pos:String}{af:Array Edge}{os:List Oper}:
  pT T P i (⟨dst,op,ty,pos,af,none⟩::os) gd ⟨e,o,x,n⟩ K=(qB dst n∧uE T P i os gd dst op K ⟨e,o,x,n⟩):=rfl
theorem Hs {i g:Nat}{want:Bool}{gd:List (Nat×Tmp)}{dst:Option Tmp}{op:Op}{ty:TypeId}{pos:String}{af:Array Edge}{os:List Oper}:
  pT T P i (⟨dst,op,ty,pos,af,some (g,want)⟩::os) gd ⟨e,o,x,n⟩ K=(qB dst n∧qX ((gx gd g).map (lk e)) want (uE T P i os gd dst op K) (fun s=>pT T P (i+1) os (dX (uG i os) i dst gd) (s.put dst (.aB [])) K) ⟨e,o,x,n⟩):=by
 simp only[pT,guarded,qX]
 cases gx gd g with
 |none=>rfl
 |some t=>rfl
def xv (T:fS)(P:Program)(nx0 len:Nat)(i:Nat)(os:List Oper)(gd:List (Nat×Tmp))(dst:Option Tmp)(op:Op)(K:St→Prop)(s:St):Prop:=
 if dc op then orM (eR T P op s nx0 (nx0+i) (aR dst os) (fun e=>vg nx0 e.fz∧bX (uG i os) e fun e'=>vo T P nx0 len (i+1) os (dX (uG i os) i dst gd) (s.add dst (nx0+i) e') K)) False else eR T P op s nx0 (nx0+i) (aR dst os) (fun e=>vg nx0 e.fz∧bX (uG i os) e fun e'=>vo T P nx0 len (i+1) os (dX (uG i os) i dst gd) (s.add dst (nx0+i) e') K)
theorem Ln {nx0 len i:Nat}{gd:List (Nat×Tmp)}:vo T P nx0 len i [] gd ⟨e,o,x,n⟩ K=K ⟨e,o,nx0+len,n⟩:=rfl
def pM (l:Bool)(A B:St→Prop)(s:St):Prop:=if l then A s else B s
theorem KK {A B:St→Prop}{s:St}:pM true A B s=A s:=rfl
theorem JE {A B:St→Prop}{s:St}:pM false A B s=B s:=rfl
def Hd (s:St)(m:Nat):St:={s with nx:=m}
theorem Js {m:Nat}:Hd ⟨e,o,x,n⟩ m=⟨e,o,m,n⟩:=rfl
theorem HI {nx0 len i:Nat}{gd:List (Nat×Tmp)}{dst:Option Tmp}{op:Op}{ty:TypeId}{pos:String}{af:Array Edge}{os:List Oper}:
  vo T P nx0 len i (⟨dst,op,ty,pos,af,none⟩::os) gd ⟨e,o,x,n⟩ K=pM (ra op) (fun s=>pT T P i (⟨dst,op,ty,pos,af,none⟩::os) gd (Hd s (nx0+len)) K) (fun s=>qB dst n∧xv T P nx0 len i os gd dst op K s) ⟨e,o,x,n⟩:=rfl
theorem Jn {nx0 len i g:Nat}{want:Bool}{gd:List (Nat×Tmp)}{dst:Option Tmp}{op:Op}{ty:TypeId}{pos:String}{af:Array Edge}{os:List Oper}:
  vo T P nx0 len i (⟨dst,op,ty,pos,af,some (g,want)⟩::os) gd ⟨e,o,x,n⟩ K=pM (ra op) (fun s=>pT T P i (⟨dst,op,ty,pos,af,some (g,want)⟩::os) gd (Hd s (nx0+len)) K)
   (fun s=>qB dst n∧qX ((gx gd g).map (lk s.env)) want (xv T P nx0 len i os gd dst op K) (fun s=>vo T P nx0 len (i+1) os (dX (uG i os) i dst gd) (s.put dst (.aB [])) K) s) ⟨e,o,x,n⟩:=by
 simp only[vo,guarded,qX,pM]
 cases gx gd g with
 |none=>rfl
 |some t=>rfl
def stepG (T:fS)(P:Program)(nx0 len:Nat)(ws:WL)(i:Nat)(os:List Oper)(gd:List (Nat×Tmp))(dst:Option Tmp)(op:Op)(K:St→Prop)(s:St):Prop:=
 if dc op then orM (eR T P op s nx0 (nx0+i) (aR dst os) (fun e=>vg nx0 e.fz∧bX (uG i os) e fun e'=>gm T P nx0 len ws (i+1) os (dX (uG i os) i dst gd) (s.add dst (nx0+i) e') K)) False else eR T P op s nx0 (nx0+i) (aR dst os) (fun e=>vg nx0 e.fz∧bX (uG i os) e fun e'=>gm T P nx0 len ws (i+1) os (dX (uG i os) i dst gd) (s.add dst (nx0+i) e') K)
theorem I2 {nx0 len i:Nat}{ws:WL}{gd:List (Nat×Tmp)}:gm T P nx0 len ws i [] gd ⟨e,o,x,n⟩ K=K ⟨e,o,nx0+len,n⟩:=rfl
theorem Fa {nx0 len i:Nat}{ws:WL}{gd:List (Nat×Tmp)}{dst:Option Tmp}{op:Op}{ty:TypeId}{pos:String}{af:Array Edge}{os:List Oper}:
  gm T P nx0 len ws i (⟨dst,op,ty,pos,af,none⟩::os) gd ⟨e,o,x,n⟩ K=pM (jc ws i) (fun s=>gm T P nx0 len ws (i+1) os gd s K) (fun s=>qB dst n∧stepG T P nx0 len ws i os gd dst op K s) ⟨e,o,x,n⟩:=by
 simp only[gm,guarded,pM,stepG]
theorem FE {nx0 len i g:Nat}{want:Bool}{ws:WL}{gd:List (Nat×Tmp)}{dst:Option Tmp}{op:Op}{ty:TypeId}{pos:String}{af:Array Edge}{os:List Oper}:
  gm T P nx0 len ws i (⟨dst,op,ty,pos,af,some (g,want)⟩::os) gd ⟨e,o,x,n⟩ K=pM (jc ws i) (fun s=>gm T P nx0 len ws (i+1) os gd s K)
   (fun s=>qB dst n∧qX ((gx gd g).map (lk s.env)) want (stepG T P nx0 len ws i os gd dst op K) (fun s=>gm T P nx0 len ws (i+1) os (dX (uG i os) i dst gd) (s.put dst (.aB [])) K) s) ⟨e,o,x,n⟩:=by
 simp only[gm,pM]
 congr 1
 simp only[guarded,qX,stepG]
 cases gx gd g with
 |none=>rfl
 |some t=>rfl
theorem JC {nx0 len i:Nat}{ws:WL}{os:List Oper}{gd:List (Nat×Tmp)}{dst:Option Tmp}{op:Op}(h1:dc op=true):stepG T P nx0 len ws i os gd dst op K ⟨e,o,x,n⟩=
 orM (eR T P op ⟨e,o,x,n⟩ nx0 (nx0+i) (aR dst os) (fun e'=>vg nx0 e'.fz∧bX (uG i os) e' fun e''=>gm T P nx0 len ws (i+1) os (dX (uG i os) i dst gd) (St.add ⟨e,o,x,n⟩ dst (nx0+i) e'') K)) False:=by
 unfold stepG;rw[if_pos h1]
theorem JP {nx0 len i:Nat}{ws:WL}{os:List Oper}{gd:List (Nat×Tmp)}{dst:Option Tmp}{op:Op}(h1:dc op=false):stepG T P nx0 len ws i os gd dst op K ⟨e,o,x,n⟩=
 eR T P op ⟨e,o,x,n⟩ nx0 (nx0+i) (aR dst os) (fun e'=>vg nx0 e'.fz∧bX (uG i os) e' fun e''=>gm T P nx0 len ws (i+1) os (dX (uG i os) i dst gd) (St.add ⟨e,o,x,n⟩ dst (nx0+i) e'') K):=by
 unfold stepG;rw[if_neg (by rw[h1];simp)]
theorem HL {os:List Oper}:jd T P os .nil ⟨e,o,x,n⟩ K=K ⟨e,o,x,n⟩:=by rw[jd]
theorem Hq {os:List Oper}{i:Nat}{pd:List Nat}{r:WL}:jd T P os (.cons i pd r .nil) ⟨e,o,x,n⟩ K=b6 os[i]? (fun p=>qB p.dst n∧ur T P p os ⟨e,o,x,n⟩ (fun s'=>prom T P os pd s'∧jd T P os r s' K)):=by
 rw[jd,Fc]
 cases os[i]? <;>rfl
theorem F1 {os:List Oper}{i j:Nat}{pd pd':List Nat}{r r' al:WL}:jd T P os (.cons i pd r (.cons j pd' r' al)) ⟨e,o,x,n⟩ K=(b6 os[i]? (fun p=>qB p.dst n∧ur T P p os ⟨e,o,x,n⟩ (fun s'=>prom T P os pd s'∧jd T P os r s' K))∧jd T P os (.cons j pd' r' al) ⟨e,o,x,n⟩ K):=by
 rw[jd,Fc]
 cases os[i]? <;>rfl
theorem N1 {os:List Oper}{dst:Option Tmp}{op:Op}{ty:TypeId}{pos:String}{af:Array Edge}{g:Option (Nat×Bool)}(h:sD op=true):ur T P ⟨dst,op,ty,pos,af,g⟩ os ⟨e,o,x,n⟩ K=Bf T op dst ⟨e,o,x,n⟩ K:=by
 unfold ur;exact if_pos h
theorem Ny {os:List Oper}{dst:Option Tmp}{op:Op}{ty:TypeId}{pos:String}{af:Array Edge}{g:Option (Nat×Bool)}(h:sD op=false)(h1:dc op=true):ur T P ⟨dst,op,ty,pos,af,g⟩ os ⟨e,o,x,n⟩ K=
  orM (eR T P op ⟨e,o,x,n⟩ x x (aR dst os) (fun e'=>K (after ⟨e,o,x,n⟩ dst e'))) (oK P op dst ⟨e,o,x,n⟩ K):=by
 unfold ur;simp only[h,h1,Bool.false_eq_true,if_false,if_true]
theorem OX {os:List Oper}{dst:Option Tmp}{op:Op}{ty:TypeId}{pos:String}{af:Array Edge}{g:Option (Nat×Bool)}(h:sD op=false)(h1:dc op=false):ur T P ⟨dst,op,ty,pos,af,g⟩ os ⟨e,o,x,n⟩ K=
  eR T P op ⟨e,o,x,n⟩ x x (aR dst os) (fun e'=>K (after ⟨e,o,x,n⟩ dst e')):=by
 unfold ur;simp only[h,h1,Bool.false_eq_true,if_false]
theorem Hw {os:List Oper}{s:St}:prom T P os [] s=True:=rfl
theorem EX {os:List Oper}{j:Nat}{r:List Nat}:prom T P os (j::r) ⟨e,o,x,n⟩=(b6 os[j]? (fun p=>b6 p.dst fun d=>d<n∧vJ T P os p d ⟨e,o,x,n⟩)∧prom T P os r ⟨e,o,x,n⟩):=by
 simp only[prom]
 cases os[j]? with
 |none=>rfl
 |some p=>cases h:p.dst<;>simp only[b6,h]
theorem L6 {os:List Oper}{d:Nat}{dst:Option Tmp}{op:Op}{ty:TypeId}{pos:String}{af:Array Edge}:vJ T P os ⟨dst,op,ty,pos,af,none⟩ d ⟨e,o,x,n⟩=eR T P op ⟨e,o,x,n⟩ x x false (fun e'=>e'.val=lk e d):=rfl
theorem Ma {os:List Oper}{d g:Nat}{want:Bool}{dst:Option Tmp}{op:Op}{ty:TypeId}{pos:String}{af:Array Edge}:vJ T P os ⟨dst,op,ty,pos,af,some (g,want)⟩ d ⟨e,o,x,n⟩=
  b6 os[g]? (fun p=>b6 p.dst fun t=>qX (some (lk e t)) want (fun _=>eR T P op ⟨e,o,x,n⟩ x x false (fun e'=>e'.val=lk e d)) (fun _=>lk e d= .aB []) ⟨e,o,x,n⟩):=by
 unfold vJ;simp only[qX,Option.bind_some]
 cases os[g]? with
 |none=>rfl
 |some p=>
  simp only[Option.bind_some,b6]
  cases p.dst with
  |none=>rfl
  |some t=>first|(simp only[b6];done)|(simp only[b6];cases gv (lk e t)<;>rfl)
theorem JX {A B:St→Prop}{s:St}:qX (some (.one (.bool true))) true A B s=A s:=rfl
theorem Pt {o:List (Nat×fI)}:vv o []=o:=rfl
theorem NG {A B:St→Prop}{s:St}{w:Bool}:qX (some (.aB [])) w A B s=B s:=rfl
theorem K0 {A B:St→Prop}{s:St}:qX (some (.one (.bool true))) false A B s=B s:=rfl
theorem Ms {A B:St→Prop}{s:St}:qX (some (.one (.bool false))) true A B s=B s:=rfl
theorem Lt {A B:St→Prop}{s:St}:qX (some (.one (.bool false))) false A B s=A s:=rfl
theorem LM {i:Nat}{os:List Oper}{gd:List (Nat×Tmp)}{dst:Option Tmp}{op:Op}(h:sD op=true):uE T P i os gd dst op K ⟨e,o,x,n⟩=Bf T op dst ⟨e,o,x,n⟩ (fun s'=>pT T P (i+1) os gd s' K):=if_pos h
theorem L0 {i:Nat}{os:List Oper}{gd:List (Nat×Tmp)}{dst:Option Tmp}{op:Op}(h:sD op=false)(h1:dc op=true):uE T P i os gd dst op K ⟨e,o,x,n⟩=
 orM (eR T P op ⟨e,o,x,n⟩ x x (aR dst os) (fun e'=>bX (uG i os) e' fun e''=>pT T P (i+1) os (dX (uG i os) i dst gd) (after ⟨e,o,x,n⟩ dst e'') K)) (oK P op dst ⟨e,o,x,n⟩ (fun s'=>pT T P (i+1) os gd s' K)):=by
 unfold uE;rw[h,h1];rfl
theorem LA {i:Nat}{os:List Oper}{gd:List (Nat×Tmp)}{dst:Option Tmp}{op:Op}(h:sD op=false)(h1:dc op=false):uE T P i os gd dst op K ⟨e,o,x,n⟩=
 eR T P op ⟨e,o,x,n⟩ x x (aR dst os) (fun e'=>bX (uG i os) e' fun e''=>pT T P (i+1) os (dX (uG i os) i dst gd) (after ⟨e,o,x,n⟩ dst e'') K):=by
 unfold uE;rw[h,h1];rfl
theorem Mz {nx0 len i:Nat}{os:List Oper}{gd:List (Nat×Tmp)}{dst:Option Tmp}{op:Op}(h1:dc op=true):xv T P nx0 len i os gd dst op K ⟨e,o,x,n⟩=
 orM (eR T P op ⟨e,o,x,n⟩ nx0 (nx0+i) (aR dst os) (fun e'=>vg nx0 e'.fz∧bX (uG i os) e' fun e''=>vo T P nx0 len (i+1) os (dX (uG i os) i dst gd) (St.add ⟨e,o,x,n⟩ dst (nx0+i) e'') K)) False:=by
 unfold xv;rw[h1];rfl
theorem KN {nx0 len i:Nat}{os:List Oper}{gd:List (Nat×Tmp)}{dst:Option Tmp}{op:Op}(h1:dc op=false):xv T P nx0 len i os gd dst op K ⟨e,o,x,n⟩=
 eR T P op ⟨e,o,x,n⟩ nx0 (nx0+i) (aR dst os) (fun e'=>vg nx0 e'.fz∧bX (uG i os) e' fun e''=>vo T P nx0 len (i+1) os (dX (uG i os) i dst gd) (St.add ⟨e,o,x,n⟩ dst (nx0+i) e'') K):=by
 unfold xv;rw[h1];rfl
theorem Gi {v:V}{b:Option Bk}{f:List Nat}:bX false ⟨v,b,f⟩ KE=KE ⟨v,b,f⟩:=rfl
theorem Gm {t:Bool}{b:Option Bk}{f:List Nat}:bX true ⟨.one (.bool t),b,f⟩ KE=((t=true→eQ KE ⟨.one (.bool true),b,f⟩)∧(t=false→eQ KE ⟨.one (.bool false),b,f⟩)):=rfl
theorem ID {d:Nat}{v:V}:St.put ⟨e,o,x,n⟩ (some d) v=⟨(d,v)::e,o,x,n⟩:=rfl
theorem GM {v:V}:St.put ⟨e,o,x,n⟩ none v=⟨e,o,x,n⟩:=rfl
theorem Dl {d:Nat}{v:V}:after ⟨e,o,x,n⟩ (some d) ⟨v,none,[]⟩=⟨(d,v)::e,o,x+1,n⟩:=rfl
theorem BK {v:V}:after ⟨e,o,x,n⟩ none ⟨v,none,[]⟩=⟨e,o,x+1,n⟩:=rfl
theorem HS {d b:Nat}{v:V}{l:List Nat}:after ⟨e,o,x,n⟩ (some d) ⟨v,none,b::l⟩=⟨(d,v)::e,dG o (b::l),x+1,n⟩:=rfl
theorem Fw {d:Nat}{v:V}{B:Bk}:after ⟨e,o,x,n⟩ (some d) ⟨v,some B,[]⟩=⟨(d,v)::e,eD o x ⟨B,true⟩,x+1,n⟩:=rfl
theorem GI {d b:Nat}{v:V}{l:List Nat}{B:Bk}:after ⟨e,o,x,n⟩ (some d) ⟨v,some B,b::l⟩=⟨(d,v)::e,eD (dG o (b::l)) x ⟨B,true⟩,x+1,n⟩:=rfl
theorem OM {d b id:Nat}{v:V}{l:List Nat}{B:Bk}:St.add ⟨e,o,x,n⟩ (some d) id ⟨v,some B,b::l⟩=⟨(d,v)::e,eD (dG o (b::l)) id ⟨B,true⟩,x,n⟩:=rfl
theorem G8 {d id:Nat}{v:V}:St.add ⟨e,o,x,n⟩ (some d) id ⟨v,none,[]⟩=⟨(d,v)::e,o,x,n⟩:=rfl
theorem IA {id:Nat}{v:V}:St.add ⟨e,o,x,n⟩ none id ⟨v,none,[]⟩=⟨e,o,x,n⟩:=rfl
theorem Pj {d b id:Nat}{v:V}{l:List Nat}:St.add ⟨e,o,x,n⟩ (some d) id ⟨v,none,b::l⟩=⟨(d,v)::e,dG o (b::l),x,n⟩:=rfl
theorem KF {d id:Nat}{v:V}{B:Bk}:St.add ⟨e,o,x,n⟩ (some d) id ⟨v,some B,[]⟩=⟨(d,v)::e,eD o id ⟨B,true⟩,x,n⟩:=rfl
theorem Qh {ks:List Nat}:gc ks ⟨e,o,x,n⟩=⟨ks.map (fun t=>(t,lk e t)),o,x,n⟩:=rfl
theorem NO {t:Nat}:St.ev ⟨e,o,x,n⟩ (.tmp t)=lk e t:=rfl
theorem Jf {v:Value}:St.ev ⟨e,o,x,n⟩ (.const v)=cv v:=rfl
theorem Le {f:Nat}:St.ev ⟨e,o,x,n⟩ (.func f)= .one (.fn f 0 (fun _=>.any)):=rfl
theorem NX {k:IntKind}{i:Int}:cv (.int k i)= .one (.int k i):=rfl
theorem Mn {b:Bool}:cv (.bool b)= .one (.bool b):=rfl
theorem Pe:cv (.slice none 0 0)= .one .nil:=rfl
theorem NZ {b:ByteArray}:cv (.string b)= .one (.str b):=rfl
theorem HF {a:Operand}{nx id:Nat}{fz:Bool}:eR T P (.move a) ⟨e,o,x,n⟩ nx id fz KE=KE ⟨St.ev ⟨e,o,x,n⟩ a,none,[]⟩:=rfl
theorem Di {a:Operand}{nx id:Nat}{fz:Bool}:eR T P (.assign a) ⟨e,o,x,n⟩ nx id fz KE=KE ⟨St.ev ⟨e,o,x,n⟩ a,none,[]⟩:=rfl
def Ha (t a b:V):Option V:=match t with
 |.one (.bool t)=>some (if t then a else b)
 |_=>none
theorem Ko {a b:V}:Ha (.one (.bool true)) a b=some a:=rfl
theorem KX {a b:V}:Ha (.one (.bool false)) a b=some b:=rfl
theorem IK {c a b:Operand}{nx id:Nat}{fz:Bool}:eR T P (.pick c a b) ⟨e,o,x,n⟩ nx id fz KE=b6 (Ha (St.ev ⟨e,o,x,n⟩ c) (St.ev ⟨e,o,x,n⟩ a) (St.ev ⟨e,o,x,n⟩ b)) (fun v=>KE ⟨v,none,[]⟩):=by
 simp only[eR]
 cases St.ev ⟨e,o,x,n⟩ c with
 |one c=>cases c<;>rfl
 |_=>rfl
theorem FH {t:Nat}{nx id:Nat}{fz:Bool}:eR T P (.alloc t) ⟨e,o,x,n⟩ nx id fz KE=b6 (T t) (fun E=>KE ⟨.one (.ptr id 0),some (.var E.zero),[]⟩):=by
 simp only[eR];cases T t<;>rfl
theorem L8 {t:Nat}{a:Operand}{nx id:Nat}{fz:Bool}:eR T P (.box t a) ⟨e,o,x,n⟩ nx id fz KE=((St.ev ⟨e,o,x,n⟩ a).oI=true∧KE ⟨.one (.ptr id 0),some (.var (cellsOf (St.ev ⟨e,o,x,n⟩ a))),[]⟩):=rfl
def Nv:FB→Option (List (Nat×Nat))
 |.st fs=>some fs
 |_=>none
theorem Fx {t:Nat}{ps:Array (Nat×Operand)}{nx id:Nat}{fz:Bool}:eR T P (.build t ps) ⟨e,o,x,n⟩ nx id fz KE=b6 (T t) (fun E=>b6 (Nv E.k) fun fs=>b6 (ju fs E.zero (ps.toList.map fun p=>(p.1,St.ev ⟨e,o,x,n⟩ p.2))) fun cs=>KE ⟨.agg cs,none,[]⟩):=by
 simp only[eR]
 cases T t with
 |none=>rfl
 |some E=>
  simp only[oU]
  cases E.k with
  |st fs=>simp only[Nv,oU];cases ju fs E.zero (ps.toList.map fun p=>(p.1,St.ev ⟨e,o,x,n⟩ p.2))<;>rfl
  |_=>rfl
theorem u4 {t l:Nat}{ps:Array (Nat×Operand)}{nx id:Nat}{fz:Bool}:eR T P (.buildSlice t l ps) ⟨e,o,x,n⟩ nx id fz KE=iq T ⟨e,o,x,n⟩ nx id fz t l ps KE:=rfl
theorem Gv {t:Nat}{a:Operand}{nx id:Nat}{fz:Bool}:eR T P (.load t a) ⟨e,o,x,n⟩ nx id fz KE=zp T ⟨e,o,x,n⟩ nx t a KE:=rfl
theorem L9 {op:BinOp}{t t':Nat}{a b:Operand}{nx id:Nat}{fz:Bool}:eR T P (.binOp op t a b t') ⟨e,o,x,n⟩ nx id fz KE=Iq T ⟨e,o,x,n⟩ op t a b KE:=rfl
theorem Ow {op:UnOp}{t:Nat}{a:Operand}{nx id:Nat}{fz:Bool}:eR T P (.unOp op t a) ⟨e,o,x,n⟩ nx id fz KE=P0 ⟨e,o,x,n⟩ op a KE:=rfl
theorem IZ {t t':Nat}{a:Operand}{nx id:Nat}{fz:Bool}:eR T P (.convert t t' a) ⟨e,o,x,n⟩ nx id fz KE=mU T ⟨e,o,x,n⟩ t t' a KE:=rfl
theorem Gg {t:Nat}{a b:Operand}{nx id:Nat}{fz:Bool}:eR T P (.makeSlice t a b) ⟨e,o,x,n⟩ nx id fz KE=jC T ⟨e,o,x,n⟩ id fz t a b KE:=rfl
theorem Fz {t:Nat}{a:Operand}{lo hi mx:Option Operand}{nx id:Nat}{fz:Bool}:eR T P (.slice t a lo hi mx) ⟨e,o,x,n⟩ nx id fz KE=uW T ⟨e,o,x,n⟩ t a lo hi mx KE:=rfl
theorem EU {t f:Nat}{a:Operand}{nx id:Nat}{fz:Bool}:eR T P (.fieldAddr t a f) ⟨e,o,x,n⟩ nx id fz KE=jH T ⟨e,o,x,n⟩ t a f KE:=rfl
theorem Bp {t f:Nat}{a:Operand}{nx id:Nat}{fz:Bool}:eR T P (.field t a f) ⟨e,o,x,n⟩ nx id fz KE=tu T ⟨e,o,x,n⟩ t a f KE:=rfl
theorem xW {f:FuncId}{cs:Array Operand}{nx id:Nat}{fz:Bool}:eR T P (.makeFunc (.func f) #[] cs) ⟨e,o,x,n⟩ nx id fz KE=((cs.toList.all fun a=>rV (St.ev ⟨e,o,x,n⟩ a))=true∧KE ⟨.one (.fn f cs.toList.length (fun i=>DK ((cs.toList.map (St.ev ⟨e,o,x,n⟩)).getD i .unk))),none,[]⟩):=rfl
theorem E0 {t:Nat}{a b:Operand}{nx id:Nat}{fz:Bool}:eR T P (.indexAddr t a b) ⟨e,o,x,n⟩ nx id fz KE=jy T ⟨e,o,x,n⟩ t a b KE:=rfl
theorem BU {t:Nat}{a b:Operand}{nx id:Nat}{fz:Bool}:eR T P (.index t a b) ⟨e,o,x,n⟩ nx id fz KE=tU T ⟨e,o,x,n⟩ t a b KE:=rfl
def Ao (v:V)(i:Nat):Option V:=match v with
 |.aB vs=>vs[i]?
 |_=>none
theorem KW {v:V}{vs:List V}:Ao (.aB (v::vs)) 0=some v:=rfl
theorem Mv {v u:V}{vs:List V}:Ao (.aB (v::u::vs)) 1=some u:=rfl
theorem LZ {v u t:V}{vs:List V}:Ao (.aB (v::u::t::vs)) 2=some t:=rfl
theorem zo {i:Nat}{a:Operand}{nx id:Nat}{fz:Bool}:eR T P (.extract a i) ⟨e,o,x,n⟩ nx id fz KE=b6 (Ao (St.ev ⟨e,o,x,n⟩ a) i) (fun v=>KE ⟨v,none,[]⟩):=by
 simp only[eR,Ao]
 cases St.ev ⟨e,o,x,n⟩ a with
 |aB vs=>simp only;cases vs[i]? <;>rfl
 |_=>rfl
theorem FV {g:Operand}{az:Array Operand}{ts:Array TypeId}{nx id:Nat}{fz:Bool}:eR T P (.call ⟨.value g,az,ts⟩) ⟨e,o,x,n⟩ nx id fz KE=wU P ⟨e,o,x,n⟩ nx id g az.toList KE:=rfl
theorem FW {b:Builtin}{az:Array Operand}{ts:Array TypeId}{nx id:Nat}{fz:Bool}:eR T P (.call ⟨.builtin b,az,ts⟩) ⟨e,o,x,n⟩ nx id fz KE=mT T ⟨e,o,x,n⟩ b az.toList ts.toList KE:=rfl
def Pl:V→Option FuncId
 |.one (.fn f 0 _)=>some f
 |_=>none
def cN (P:Program)(f:FuncId)(args:List V)(ids:List Nat)(id:Nat)(KE:eX→Prop):Prop:=(∃r,Pr P f args r∧eQ KE ⟨r,none,if od r then[]else ids⟩)∨(∃B,Fr P f args B∧eQ KE ⟨.one (.own id B.wd 0 B.len),some B,ids⟩)∨(∃B c,dK P f args B c∧eQ KE ⟨.aB [.one (.own id B.wd 0 B.len),.one c],some B,ids⟩)
theorem Cg {f:FuncId}{args:List V}{ids:List Nat}{id:Nat}{r:V}{M:Prop}(h:Pr P f args r)(hk:KE ⟨r,none,if od r then[]else ids⟩):orM (cN P f args ids id KE) M:=.inl (.inl ⟨r,h,hk⟩)
theorem cN.fresh {f:FuncId}{args:List V}{ids:List Nat}{id:Nat}{B:Bk}{M:Prop}(h:Fr P f args B)(hk:KE ⟨.one (.own id B.wd 0 B.len),some B,ids⟩):orM (cN P f args ids id KE) M:=.inl (.inr (.inl ⟨B,h,hk⟩))
theorem cN.Bn {f:FuncId}{args:List V}{ids:List Nat}{id:Nat}{B:Bk}{c:C}{M:Prop}(h:dK P f args B c)(hk:KE ⟨.aB [.one (.own id B.wd 0 B.len),.one c],some B,ids⟩):orM (cN P f args ids id KE) M:=.inl (.inr (.inr ⟨B,c,h,hk⟩))
theorem Cm {f:FuncId}{raw:List V}{s:St}{dst:Option Tmp}{A:Prop}(b:Nat){B:Bk}{R:V→Bk→Prop}(hl:lo s.own b=some ⟨B,true⟩)(hp:B.plain)(h:Mc P f (raw.map (JA b s.own s.nx)) B R)
  (hk:∀r B',R r B'→B'.len=B.len→K (PE s dst b raw r B')):orM A (yd P f raw s dst K):=.inr (.inl ⟨b,B,R,hl,hp,h,hk⟩)
theorem cN.Nx {f:FuncId}{raw:List V}{s:St}{dst:Option Tmp}{A:Prop}{n:Nat}{g:Nat→Nat→C}{B:Bk}{c:Option C}(h:uw P f (raw.map (Cw s.own s.nx)) n g B c)
  (hk:K (PG s dst raw n g B c)):orM A (yd P f raw s dst K):=.inr (.inr ⟨n,g,B,c,h,hk⟩)
def xz:V→Option (FuncId×List V)
 |.one (.fn f n cs)=>some (f,mC n cs)
 |_=>none
theorem K8 {f:FuncId}{c:Nat→C}:xz (.one (.fn f 0 c))=some (f,[]):=rfl
theorem ME {f:FuncId}{c:Nat→C}:xz (.one (.fn f 1 c))=some (f,[.one (c 0)]):=rfl
theorem KH {f:FuncId}{c:Nat→C}:xz (.one (.fn f 2 c))=some (f,[.one (c 0),.one (c 1)]):=rfl
theorem LI {f:FuncId}{c:Nat→C}:xz (.one (.fn f 3 c))=some (f,[.one (c 0),.one (c 1),.one (c 2)]):=rfl
theorem Jo {g:Operand}{az:List Operand}{nx id:Nat}:wU P ⟨e,o,x,n⟩ nx id g az KE=b6 (xz (St.ev ⟨e,o,x,n⟩ g)) (fun f=>cN P f.1 ((az.map (St.ev ⟨e,o,x,n⟩)++f.2).map (D0 o nx)) (((az.map (St.ev ⟨e,o,x,n⟩)++f.2).map p9).flatten.filter (fun b=>decide (b<nx))) id KE):=by
 unfold wU xz
 cases St.ev ⟨e,o,x,n⟩ g with
 |one c=>cases c<;>rfl
 |agg cs=>rfl
 |aB cs=>rfl
 |unk=>rfl
theorem HU {g:Operand}{az:Array Operand}{ts:Array TypeId}{d:Option Tmp}:oK P (.call ⟨.value g,az,ts⟩) d ⟨e,o,x,n⟩ K=b6 (Pl (St.ev ⟨e,o,x,n⟩ g)) (fun f=>yd P f (az.toList.map (St.ev ⟨e,o,x,n⟩)) ⟨e,o,x,n⟩ d K):=by
 unfold oK Pl
 cases h:St.ev ⟨e,o,x,n⟩ g with
 |one c=>cases c with
  |fn f m caps=>cases m with
   |zero=>simp only[h,true_and];rfl
   |succ m=>simp[b6,h]
  |_=>simp only[h];rfl
 |_=>simp only[h];rfl
theorem Lp {f:FuncId}{c:Nat→C}:Pl (.one (.fn f 0 c))=some f:=rfl
theorem F3 {t:Nat}{a b:Operand}:Bf T (.store t a b) none ⟨e,o,x,n⟩ K=ua T ⟨e,o,x,n⟩ t a b K:=by simp only[Bf,true_and]
theorem Dc {a b:Operand}{t t':Nat}{d:Option Tmp}:Bf T (.call ⟨.builtin .append,#[a,b],#[t,t']⟩) d ⟨e,o,x,n⟩ K=(NN T t'∧pQ T ⟨e,o,x,n⟩ d t a b K):=by
 rfl
theorem F4 {a:Operand}{t:Nat}{d:Option Tmp}:Bf T (.call ⟨.builtin .clear,#[a],#[t]⟩) d ⟨e,o,x,n⟩ K=uF T ⟨e,o,x,n⟩ d t a K:=rfl
theorem I8 {a b:Operand}{t t':Nat}{d:Option Tmp}:Bf T (.call ⟨.builtin .copy,#[a,b],#[t,t']⟩) d ⟨e,o,x,n⟩ K=(NN T t'∧A8 T ⟨e,o,x,n⟩ d t a b K):=rfl
theorem Ke {t t':Nat}{a:Operand}{d:Option Tmp}{l c:Nat}:Bf T (.binOp .eql t a (.const (.slice none l c)) t') d ⟨e,o,x,n⟩ K=Ho T ⟨e,o,x,n⟩ d t a K:=by simp only[Bf,xc,qI,x6,true_and]
theorem Km {a:Operand}{t:Nat}{d:Option Tmp}:Bf T (.call ⟨.builtin .cap,#[a],#[t]⟩) d ⟨e,o,x,n⟩ K=GX T ⟨e,o,x,n⟩ d t a K:=rfl
theorem Gq {rs:List ResultVar}{R:V→Prop}:Kk T rs R .ret ⟨e,o,x,n⟩=b6 (uf T ⟨e,o,x,n⟩ rs) fun vs=>R (CP vs):=rfl
theorem Ax {rs:List ResultVar}{R:V→Prop}:Kk T rs R .normal ⟨e,o,x,n⟩=b6 (uf T ⟨e,o,x,n⟩ rs) fun vs=>R (CP vs):=rfl
end
set_option linter.defProp false in
def vcs:=Q3 @LV (Q3 @ER (Q3 @NC (Q3 @Ap (Q3 @Hp (Q3 @Ff (Q3 @C5 (Q3 @LD (Q3 @GY (Q3 @vu
 (Q3 @Cl (Q3 @z6 (Q3 @LS (Q3 @Fk (Q3 @BG (Q3 @Kr (Q3 @Od (Q3 @BT (Q3 @Db (Q3 @AR (Q3 @BQ (Q3 @AH (Q3 @BY (Q3 @Oi (Q3 @I2 (Q3 @Fa (Q3 @FE (Q3 @JC (Q3 @JP (Q3 @HL (Q3 @Hq (Q3 @F1 (Q3 @L6 (Q3 @Ma (Q3 @N1 (Q3 @Ny (Q3 @OX (Q3 @Hw (Q3 @EX (Q3 @Lf
 (Q3 @HX (Q3 @Hs (Q3 @Ln (Q3 @KK (Q3 @JE (Q3 @Js (Q3 @HI (Q3 @Jn (Q3 @JX (Q3 @K0
 (Q3 @Pt (Q3 @NG (Q3 @Ms (Q3 @Lt (Q3 @LM (Q3 @L0 (Q3 @LA (Q3 @Mz (Q3 @KN (Q3 @HU (Q3 @Gi (Q3 @Gm (Q3 @ID (Q3 @GM (Q3 @Dl (Q3 @BK
 (Q3 @HS (Q3 @Fw (Q3 @G8 (Q3 @IA (Q3 @Pj (Q3 @GI (Q3 @OM (Q3 @KF (Q3 @Qh (Q3 @NO (Q3 @Jf (Q3 @Le
 (Q3 @NX (Q3 @Mn (Q3 @Pe (Q3 @NZ (Q3 @HF (Q3 @Di (Q3 @Ko (Q3 @KX (Q3 @IK (Q3 @FH
 (Q3 @L8 (Q3 @Fx (Q3 @u4 (Q3 @Gv (Q3 @L9 (Q3 @Ow (Q3 @IZ (Q3 @Gg (Q3 @Fz (Q3 @EU
 (Q3 @BU (Q3 @E0 (Q3 @KW (Q3 @Mv (Q3 @LZ (Q3 @zo (Q3 @FV (Q3 @FW (Q3 @Jo (Q3 @Lp (Q3 @F3
 (Q3 @Dc (Q3 @Ke (Q3 @F4 (Q3 @I8 (Q3 @Bp (Q3 @xW (Q3 @K8 (Q3 @ME (Q3 @KH (Q3 @LI (Q3 @Km (Q3 @Gq (Q3 @Ax @oU)))))))))))))))))))))))))))))))))))))))))))))))))))))))))))))))))))))))))))))))))))))))))))))))))))))))))))))))))))))))))
set_option linter.defProp false in
def Sg:=Q3 @sZ.eq_def (Q3 @tU.eq_def (Q3 @OF.eq_def (Q3 @iq.eq_def (Q3 @zp.eq_def (Q3 @Iq.eq_def (Q3 @P0.eq_def (Q3 @mU.eq_def (Q3 @jC.eq_def (Q3 @uW.eq_def (Q3 @jH.eq_def
 (Q3 @jy.eq_def (Q3 @mT.eq_def (Q3 @ua.eq_def (Q3 @NN.eq_def (Q3 @pQ.eq_def (Q3 @GX.eq_def (Q3 @sP.eq_def (Q3 @Dw.eq_def (Q3 @Ho.eq_def (Q3 @uF.eq_def (Q3 @A8.eq_def (Q3 @tu.eq_def @FA.eq_def))))))))))))))))))))
))
set_option linter.defProp false in
def RY:=Q3 @Qe.eq_def (Q3 @sI.eq_def (Q3 @lk.eq_1 (Q3 @lk.eq_2 (Q3 @lo.eq_1 (Q3 @lo.eq_2 (Q3 @eD.eq_1 (Q3 @eD.eq_2 (Q3 @del.eq_1 (Q3 @del.eq_2 (Q3 @dG.eq_1 (Q3 @dG.eq_2
 (Q3 @gx.eq_1 (Q3 @gx.eq_2 (Q3 @vg.eq_1 (Q3 @vg.eq_2 (Q3 @bD.eq_1 (Q3 @bD.eq_2 (Q3 @fk.eq_1 (Q3 @fk.eq_2 (Q3 @gr.eq_1
 (Q3 @gr.eq_2 (Q3 @ju.eq_1 (Q3 @ju.eq_2 (Q3 @uf.eq_1 (Q3 @uf.eq_2 (Q3 @eO.eq_1 (Q3 @eO.eq_2 (Q3 @l6.eq_1 (Q3 @l6.eq_2
 (Q3 @iS.eq_1 (Q3 @qB.eq_def (Q3 @sD.eq_def (Q3 @jc.eq_1 (Q3 @jc.eq_2 (Q3 @mW.eq_1 (Q3 @mW.eq_2 (Q3 @Jz.eq_1 (Q3 @Jz.eq_2 (Q3 @x6.eq_def (Q3 @qI.eq_def (Q3 @xc.eq_def (Q3 @rV.eq_def (Q3 @DK.eq_def (Q3 @PY.eq_def (Q3 @QZ.eq_def (Q3 @Hz.eq_def (Q3 @ra.eq_def (Q3 @dc.eq_def (Q3 @PE.eq_1 (Q3 (Q3 @PG.eq_1 (Q3 @Il.eq_1 (Q3 @Il.eq_2 (Q3 @ML.eq_def (Q3 @Dn.eq_def (Q3 @D3.eq_def (Q3 @tn.eq_def (Q3 @IF.eq_def (Q3 @mG.eq_1 (Q3 @mG.eq_2 @pg.eq_def)))))))))) (Q3 @Jm.eq_1 (Q3 @JA.eq_def (Q3 @Ni.eq_def (Q3 @vd.eq_def (Q3 @Ec.eq_def (Q3 @LB.eq_1 (Q3 @Bk.wd.eq_def (Q3 @Bk.len.eq_def (Q3 @Bk.plain.eq_def (Q3 @AQ.eq_def (Q3 @aR.eq_def (Q3 @Nl.eq_def (Q3 @uG.eq_def (Q3 @dX.eq_def (Q3
 @iI.eq_def (Q3 @PF.eq_def (Q3 @cellsOf.eq_def (Q3 @V.oI.eq_def (Q3 @Cw.eq_def (Q3 @D0.eq_def (Q3 @p9.eq_def (Q3 @Oe.eq_def (Q3 @Q8.eq_def (Q3 @Ku.eq_def (Q3 @yB.eq_def (Q3 @PS.eq_def (Q3 @rW.eq_def (Q3 @jU.eq_def (Q3 @gq.eq_def (Q3 @kP.eq_def (Q3 @gz.eq_def (Q3
 @od.eq_def (Q3 @gp.eq_def (Q3 @mg.eq_def (Q3 @Ja.eq_def (Q3 @oG.eq_def (Q3 @MA.eq_def (Q3 @I0.eq_1 (Q3 @FB.agg.eq_def (Q3 @N4.eq_def
 (Q3 @zd.eq_def (Q3 @ic.eq_def (Q3 @iB.eq_def (Q3 @lI.eq_1 (Q3 @HP.eq_def (Q3 @CP.eq_def (Q3 @Ml.eq_def (Q3 @Nv.eq_def (Q3
 @Nat.zero_add (Q3 @Nat.add_zero (Q3 @decide_true (Q3 @decide_false (Q3 @true_and (Q3 @and_true (Q3 @Bool.or_false (Q3 @Bool.false_or (Q3 @Bool.or_true (Q3
 @Bool.true_or (Q3 @Bool.and_true (Q3 @Bool.true_and (Q3 @Bool.false_and (Q3 @Bool.and_false (Q3 @Bool.not_true (Q3 @Bool.not_false (Q3 @or_false (Q3 @or_true
 (Q3 @false_or (@true_or))))))))))))))))))))))))))))))))))))))))))))))))))))))))))))))))))))))))))))))))))))))))))))))))))))))))))))
))))))))))
end Go.Eng
namespace Go.Eng
open Go
def Y9 (v' v:V)(r:List (Nat×Option Nat)):List (Nat×Option Nat):=
 match v' with
 |.one (.own b' _ _ _)=>match v with
  |.one (.own b _ _ _)=>(b',some b)::r
  |.one .nil=>(b',none)::r
  |_=>r
 |.one (.ptr b' _)=>match v with
  |.one (.ptr b _)=>(b',some b)::r
  |_=>r
 |.one (.win b' c' _ _)=>match v with
  |.one (.win b c _ _)=>(b',some b)::(c',some c)::r
  |.one (.own b _ _ _)=>(b',some b)::r
  |_=>r
 |_=>r
def Y8 (env:List (Nat×V)):List (Nat×V)→List (Nat×Option Nat)
 |[]=>[]
 |(t,v')::r=>Y9 v' (lk env t) (Y8 env r)
theorem Sa {e e':List (Nat×V)}{o o':List (Nat×fI)}{x x' n:Nat}(h:(sC (Y8 e e') 0=some 0∧0<x')∧Y0 (Y8 e e') x' e e'∧Y4 (Y8 e e') x' o o'∧Y6 (Y8 e e') o'):Sub ⟨e,o,x,n⟩ ⟨e',o',x',n⟩:=
 Sub.of (Y8 e e') h.1 rfl h.2.1 h.2.2.1 h.2.2.2
def a5:List V→List V→Prop
 |[],[]=>True
 |x::xs,y::ys=>Y1 [] 0 x y∧a5 xs ys
 |_,_=>False
def cY (x y:V):Prop:=
 match y with
 |.aB ys=>match x with
  |.aB xs=>a5 xs ys
  |_=>False
 |_=>Y1 [] 0 x y
theorem sM {x y:V}(h:Y1 [] 0 x y)(ok:Nat→Prop)(w:World)(v:Value)(hr:cE bm bo ok w x v):cE bm bo ok w y v:=by
 have h1:=ud (ok':=ok) (Ext.refl ok w) h hr;have e:(fun b=>b<0)=bo:=by funext b;simp[bo]
 have e2:bU [] bm=bm:=by funext b;rfl
 rw[e,e2]at h1;exact h1
theorem Va {
      x y:V} (h:cY x y):fR x y:=by
 intro ok w v hr
 cases y with
 |aB ys=>
  cases x with
  |aB xs=>
   obtain⟨vs,hv,hl⟩:=hr;refine⟨vs,hv,?_⟩;have key:∀(xs ys:List V) (vs:List Value),a5 xs ys→a8 bm bo ok w xs vs→a8 bm bo ok w ys vs:=by
    intro xs
    induction xs with
    |nil=>
     intro ys vs h hl
     cases ys with
     |nil=>exact hl
     |cons y ys=>exact h.elim
    |cons x xs ih=>
     intro ys vs h hl
     cases ys with
     |nil=>exact h.elim
     |cons y ys=>
      cases vs with
      |nil=>exact hl.elim
      |cons v vs=>
       refine⟨?_,ih ys vs h.2 hl.2⟩;have h1:=h.1;have hx:∀t,x≠ .aB t:=by
        intro t ht
        have:=hl.1
        rw[ht]at this;exact this
       have hy:∀t,y≠ .aB t:=by
        intro t ht;rw[ht]at h1;exact h1
       have h2:cE bm bo ok w x v:=by
        cases x with
        |aB t=>exact absurd rfl (hx t)
        |_=>exact hl.1
       have h3:=sM h1 ok w v h2
       cases y with
       |aB t=>exact absurd rfl (hy t)
       |_=>exact h3
   exact key xs ys vs.toList h hl
  |_=>exact h.elim
 |unk=>exact sM (by cases x<;>exact h) ok w v hr
 |one c=>exact sM (by cases x<;>exact h) ok w v hr
 |agg cs=>exact sM (by cases x<;>exact h) ok w v hr
end Go.Eng
namespace Go.Eng
open Go
def lS (s:St)(B:Bk)(x:V):Prop:=
 match x with
 |.one (.own b wd off len)=>off=0∧wd=B.wd∧len=B.len∧b6 (lo s.own b) fun B'=>B'.rw=true∧Y5 [] 0 B'.bk B
 |.one .nil=>Y7 B
 |_=>False
def IP (rs:List ResultVar)(B:Bk):Exit→St→Prop
 |.ret,s=>match rs with
  |[.tmp t]=>lS s B (lk s.env t)
  |_=>False
 |.normal,s=>match rs with
  |[.tmp t]=>lS s B (lk s.env t)
  |_=>False
 |_,_=>False
def FM (B' B:Bk):Prop:=
 match B with
 |.ints _ k xs=>match B' with
  |.ints _ k' xs'=>k'=k∧xs'.take xs.length=xs
  |_=>False
 |.rows _ w n f=>match B' with
  |.rows _ w' n' f'=>w'=w∧n≤n'∧∀i j,i<n→j<w→f' i j=f i j
  |.wins _ _ n' g=>w=1∧n≤n'∧∀i,i<n→FX (g i)=true∧g i=f i 0
  |_=>False
 |.var _=>False
 |.wins .. =>False
def HQ (rs:List ResultVar)(B:Bk)(c:C):Exit→St→Prop
 |.ret,s=>match rs with
  |[.tmp t,.tmp u]=>lS s B (lk s.env t)∧lk s.env u= .one c
  |_=>False
 |.normal,s=>match rs with
  |[.tmp t,.tmp u]=>lS s B (lk s.env t)∧lk s.env u= .one c
  |_=>False
 |_,_=>False
theorem Hc {rs:List ResultVar}{B:Bk}{c:C}{e:Exit}{s:St}(h:HQ rs B c e s):(e= .normal∨e= .ret)∧∃t u,rs=[.tmp t,.tmp u]∧lS s B (lk s.env t)∧lk s.env u= .one c:=by
 unfold HQ at h
 split at h
 ·split at h
  ·exact⟨.inr rfl,_,_,rfl,h⟩
  exact h.elim
 ·split at h
  ·exact⟨.inl rfl,_,_,rfl,h⟩
  exact h.elim
 exact h.elim
def mJ (s:St)(B:Bk)(x:V):Prop:=
 match x with
 |.one (.own b wd off len)=>off=0∧wd=B.wd∧len=B.len∧b6 (lo s.own b) fun B'=>B'.rw=true∧FM B'.bk B
 |.one .nil=>Y7 B
 |_=>False
theorem Gk {B' B:Bk}(hB:B.flat)(h:Y5 [] 0 B' B):FM B' B:=by
 cases B with
 |var cs=>exact hB.elim
 |wins e b2 n g=>exact hB.elim
 |ints e k xs=>
  cases B' with
  |ints e' k' xs'=>obtain⟨rfl,rfl⟩:=h;exact⟨rfl,List.take_length⟩
  |_=>exact h.elim
 |rows e w n f=>
  cases B' with
  |rows e' w' n' f'=>obtain⟨rfl,rfl,h⟩:=h;exact⟨rfl,O1 _,h⟩
  |wins e' b2 n' g=>obtain⟨rfl,rfl,h⟩:=h;exact⟨rfl,O1 _,h⟩
  |_=>exact h.elim
theorem Bc {s:St}{B:Bk}{x:V}(hB:B.flat)(h:lS s B x):mJ s B x:=by
 unfold lS at h;unfold mJ
 split at h
 ·obtain⟨h1,h2,h3,h4⟩:=h;refine⟨h1,h2,h3,?_⟩;unfold b6 at h4⊢
  split at h4
  ·exact⟨h4.1,Gk hB h4.2⟩
  exact h4.elim
 ·exact h
 exact h.elim
theorem wu {B' B:Bk}(h:FM B' B)(j:Nat)(c:C)(hc:B.cell j=some c):B'.cell j=some c:=by
 cases B with
 |var cs=>exact h.elim
 |wins e b2 n g=>exact h.elim
 |ints e k xs=>
  cases B' with
  |ints e' k' xs'=>
   obtain⟨rfl,h⟩:=h;simp only[Bk.cell]at hc⊢;rw[←h,List.getElem?_take]at hc
   split at hc
   ·exact hc
   cases hc
  |_=>exact h.elim
 |rows e w n f=>
  cases B' with
  |rows e' w' n' f'=>
   obtain⟨rfl,hn,h⟩:=h;simp only[Bk.cell]at hc⊢
   split at hc
   ·rename_i SI
    have hw:0<w':=Nat.pos_of_ne_zero fun h0=>by subst h0;simp at SI
    have h1:j/w'<n:=by rw[Nat.div_lt_iff_lt_mul hw];exact SI
    rw[if_pos (Nat.lt_of_lt_of_le SI (O8 _ hn)),h _ _ h1 (Nat.mod_lt _ hw)];exact hc
   cases hc
  |wins e' b2 n' g=>
   obtain⟨rfl,hn,h⟩:=h;simp only[Bk.cell,Nat.mul_one,Nat.div_one,Nat.mod_one]at hc⊢
   split at hc
   ·rename_i SI
    rw[if_pos (by omega),(h j SI).2];exact hc
   cases hc
  |_=>exact h.elim
theorem ET {B' B:Bk}(h:FM B' B):B.flat∧∀cs,B'≠ .var cs:=by
 cases B<;>cases B'<;>first|exact h.elim|exact ⟨trivial,fun _ e=>by cases e⟩
theorem HV {B:Bk}{e:TypeId}{b2 n:Nat}{g:Nat→C}(h:FM (.wins e b2 n g) B){j:Nat}{c:C}(hc:B.cell j=some c):FX c=true:=by
 cases B with
 |rows e w n f=>
  obtain⟨rfl,hn,h⟩:=h;simp only[Bk.cell,Nat.mul_one,Nat.div_one,Nat.mod_one]at hc
  split at hc
  ·rename_i SI
   obtain⟨h1,h2⟩:=h j SI;rw[h2]at h1;obtain rfl:=Option.some.inj hc;exact h1
  cases hc
 |_=>exact h.elim
theorem Bk.oN {B:Bk}(h:B.flat):B.plain:=by cases B<;>first|exact h.elim|trivial
theorem results_tmp {P:Program}{fn:Func}{t:Tmp}(h:fn.results.toList=[.tmp t])(tmps:Array Value)(w:World):(results fn tmps).run P w= .ok (tmps.getD t undef) w:=by
 have:fn.results= #[.tmp t]:=Array.toList_inj.1 h
 unfold results;rw[this]
 simp[Sem.run_bind,Sem.run_pure]
def RE (rs:List ResultVar)(B:Bk):Exit→St→Prop
 |.ret,s=>match rs with
  |[.tmp t]=>mJ s B (lk s.env t)
  |_=>False
 |.normal,s=>match rs with
  |[.tmp t]=>mJ s B (lk s.env t)
  |_=>False
 |_,_=>False
theorem Gp {rs:List ResultVar}{B:Bk}{e:Exit}{s:St}(h:IP rs B e s):(e= .normal∨e= .ret)∧∃t,rs=[.tmp t]∧lS s B (lk s.env t):=by
 unfold IP at h
 split at h
 ·split at h
  ·exact⟨.inr rfl,_,rfl,h⟩
  exact h.elim
 ·split at h
  ·exact⟨.inl rfl,_,rfl,h⟩
  exact h.elim
 exact h.elim
def No (b2:Nat)(c:C)(g:Nat→C):Prop:=(∃wd o l,c= .own b2 wd o l∧∀b,g b= .own b wd o l)∨(FX c=true∧∀b,g b=c)
def Fs (s:St)(n:Nat)(g:Nat→Nat→C)(B:Bk)(x:V):Prop:=
 match x with
 |.one (.win b b2 off len)=>off=0∧len=n∧b≠b2∧b6 (lo s.own b) (fun W=>W.rw=true∧match W.bk with
   |.wins _ _ n' g'=>n'=n∧∀i,i<n→No b2 (g' i) (fun b=>g b i)
   |_=>False)∧b6 (lo s.own b2) fun B'=>B'.rw=true∧Y5 [] 0 B'.bk B
 |_=>False
theorem uH {w w':World}{ok:Nat→Prop}{ρ:Nat→Loc}{s':St}{a:Act}{t:Tmp}{B:Bk}(hB:B.flat)
  (hs:aS {W0:=w,forb:=fun g=>g<w.heap.size∧¬ok g,mine:=fun _=>False} (fun b=>b<s'.nx) ρ s' a w') (Vi:mJ s' B (lk s'.env t)):
  ∃l:Loc,l.len=B.len∧(∀g o,l.addr=some (g,o)→w.heap.size≤g∧g<w'.heap.size)∧
   aM bm bo (fun g=>ok g∨(w.heap.size≤g∧g<w'.heap.size∧∀o,l.addr≠some (g,o))) w' l B∧eE (fun _=>l) (fun _=>True) (fun _=>False) w' (.own 0 B.wd 0 B.len) (a.tmps.getD t undef):=by
 have SN:=hs.env t;unfold mJ at Vi
 split at Vi
 ·rename_i b wd off len hx
  obtain⟨rfl,rfl,rfl,h4⟩:=Vi
  cases S7:lo s'.own b with
  |none=>rw[S7]at h4;exact h4.elim
  |some B'=>
   rw[S7]at h4;obtain⟨h5,h6⟩:=h4;obtain⟨hd,XJ,Ws,Yf⟩:=hs.own b B' S7;rw[hx]at SN;obtain⟨_,h7,h8⟩:=SN;refine⟨⟨(ρ b).addr,B.len⟩,rfl,fun g o ha=>?_,?_,trivial,(by simp),h8⟩
   ·obtain⟨h9,_,U1⟩:=Yf g o ha
    rcases U1 with U1|U1
    ·exact⟨U1,h9⟩
    exact U1.elim
   have h9:aM ρ (fun b=>b<s'.nx) (aI {W0:=w,forb:=fun g=>g<w.heap.size∧¬ok g,mine:=fun _=>False} s'.own ρ w') w' ⟨(ρ b).addr,B.len⟩ B:=by
    unfold aM at Ws⊢;simp only
    cases ha:(ρ b).addr with
    |none=>
     rw[ha]at Ws;intro j
     cases hc:B.cell j with
     |none=>rfl
     |some c=>exact absurd (Ws j) (by simp[wu h6 j c hc])
    |some x=>
     obtain⟨g,o⟩:=x;rw[ha]at Ws;obtain⟨cur,e,hg,hc⟩:=Ws;refine⟨cur,e,hg,fun j c hj=>?_⟩;obtain⟨u,hu,hr⟩:=hc j c (wu h6 j c hj);refine⟨u,hu,?_⟩;obtain⟨hf2,ZG⟩:=ET h6;have hrI:aQ (aI {W0:=w,forb:=fun g=>g<w.heap.size∧¬ok g,mine:=fun _=>False} s'.own ρ w') w' c u:=by
      cases Tq:B'.bk with
      |var cs=>exact absurd Tq (ZG cs)
      |ints e' k' xs'=>rw[Tq]at hr;exact hr
      |rows e' w'' n' f'=>rw[Tq]at hr;exact hr
      |wins e' b2 n' g'=>rw[Tq]at hr h6;exact u7 (HV h6 hj) hr
     cases B with
     |var cs=>exact hf2.elim
     |wins e b2 n g=>exact hf2.elim
     |ints e k xs=>exact hrI
     |rows e w2 n f=>exact hrI
   refine h9.gH (Bk.oN hB) fun g hg=>?_
   by_cases YO:g<w.heap.size
   ·by_cases UN:ok g
    ·exact .inl UN
    exact absurd ⟨YO,UN⟩ hg.2.1
   exact .inr ⟨by omega,hg.1,fun o ha=>hg.2.2 b B' S7 h5 o ha⟩
 ·rename_i hx
  rw[hx]at SN;have SN:a.tmps.getD t undef= .slice none 0 0:=SN;have hB0:B.len=0:=by
   cases B with
   |var cs=>exact Vi.elim
   |ints e k xs=>have:xs=[]:=Vi;subst this;rfl
   |rows e wd n f=>have:n=0:=Vi;subst this;rfl
   |wins e b2 n g=>exact hB.elim
  have hBc:∀j,B.cell j=none:=by
   intro j
   cases B with
   |var cs=>exact Vi.elim
   |ints e k xs=>have:xs=[]:=Vi;subst this;simp[Bk.cell]
   |rows e wd n f=>have:n=0:=Vi;subst this;simp[Bk.cell]
   |wins e b2 n g=>exact hB.elim
  have SV:eE (fun _=>(⟨none,0⟩:Loc)) (fun _=>True) (fun _=>False) w' (.own 0 B.wd 0 B.len) (a.tmps.getD t undef):=by
   rw[hB0];exact⟨trivial,O1 _,0,O1 _,.inr ⟨rfl,SN,rfl,rfl⟩⟩
  exact⟨⟨none,0⟩,hB0.symm,fun g o ha=>absurd ha (by simp),hBc,SV⟩
 exact Vi.elim
theorem yG {w:World}{ok:Nat→Prop}{args:List V}{n:Nat}(SL:args.length≤n){vs:Array Value}(Tc:∀g,ok g→g<w.heap.size)(Ti:a8 bm bo ok w args vs.toList):
  oT {W0:=w,forb:=fun g=>g<w.heap.size∧¬ok g,mine:=fun _=>False} (iS args n) {tmps:=vs++Array.replicate (n-vs.size) undef,defers:=[]} w:=by
 have hlen:=a8.length Ti;simp only[Array.length_toList]at hlen
 let G:Ctx:={W0:=w,forb:=fun g=>g<w.heap.size∧¬ok g,mine:=fun _=>False}
 let a0:Act:={tmps:=vs++Array.replicate (n-vs.size) undef,defers:=[]}
 have Wi:∀g,ok g→aI G [] bm w g:=fun g hg=>⟨Tc g hg,fun hf=>hf.2 hg,fun b B hl=>by cases hl⟩;show oT G (iS args n) a0 w;refine⟨bm,{hd:=rfl,hn:=?_,env:=fun t=>?_,own:=fun b B hl=>(by cases hl),inj:=fun b B b' B' hl=>(by cases hl),os:=rfl,tape:=rfl,output:=rfl,size:=O1 _,keep:=fun _ _ _=>rfl,wf:=fun k hk=>hk.1,home:=fun l hl=>(by cases hl),room:=fun _=>O1 _}⟩
 ·simp[a0,iS];omega
 simp only[iS,nw]
 split
 ·rename_i ht
  simp only[Nat.sub_zero,Nat.zero_add]at ht⊢;have hx:args[t]? =some (args.getD t .unk):=by
   rw[X7,X8 ht.2];rfl
  obtain⟨v,hv,hr⟩:=a8.get Ti t _ hx;have Z8:a0.tmps.getD t undef=v:=by
   rw[Array.getElem?_toList]at hv;have SI:=(Array.getElem?_eq_some_iff.1 hv).1;simp only[a0,Array.getD_eq_getD_getElem?];rw[Array.getElem?_append_left SI,hv];rfl
  rw[Z8];exact cE.wy (dM.ext (Ext.dy Wi) ⟨fun b hb=>hb.elim,fun b hb=>hb.elim⟩ _ _ hr)
 trivial
theorem yz {P:Program}{T:fS}(hT:eN P T)(hm:P.follows .mixedOrders=true){f:FuncId}{fn:Func}{c:Code}(hf:P.funcs[f]? =some fn)(hb:fn.body=some c)(hn:(fn.name== "runtime.NumGoroutine")=false)
  (args:List V) (SL:args.length≤fn.ntmps) (keep:Kp) (S3:codeOk keep c=true) (B:Bk) (hB:B.flat)
  (RET:Exit→St→Prop) (hret:∀e s,RET e s→(e= .normal∨e= .ret)∧∃t,fn.results.toList=[.tmp t]∧mJ s B (lk s.env t))
  (h:vc T P keep c (iS args fn.ntmps) RET):Fr P f args B:=by
 refine⟨⟨fn,hf,by rw[hb];rfl,hn⟩,hB,fun ok w vs Tc Ti=>?_⟩
 let G:Ctx:={W0:=w,forb:=fun g=>g<w.heap.size∧¬ok g,mine:=fun _=>False}
 have SP:=yG SL Tc Ti;refine calls_of_wp hf hb (wp_mono (mP hT hm keep c S3 _ _ h G _ w SP) ?_);rintro e a w' ⟨s',hq,ρ,hs⟩;obtain⟨he,t,Ud,Vi⟩:=hret _ _ hq;have Ua:=results_tmp (P:=P) Ud a.tmps w';have Uf:Go.RowKit.Below w.heap.size w w':=⟨hs.os,hs.tape,hs.output,hs.size,fun k hk=>hs.keep k hk (fun hf=>hf)⟩;obtain⟨l,h1,h2,h3,h4⟩:=uH hB hs Vi;have fin:a.defers=[]∧∃v,(results fn a.tmps).run P w'= .ok v w'∧∃u l,Ending.returned v= .returned u∧Go.RowKit.Below w.heap.size w w'∧l.len=B.len∧(∀g o,l.addr=some (g,o)→w.heap.size≤g∧g<w'.heap.size)∧
   aM bm bo (fun g=>ok g∨(w.heap.size≤g∧g<w'.heap.size∧∀o,l.addr≠some (g,o))) w' l B∧eE (fun _=>l) (fun _=>True) (fun _=>False) w' (.own 0 B.wd 0 B.len) u:=
  ⟨hs.hd,_,Ua,_,l,rfl,Uf,h1,h2,h3,h4⟩
 rcases he with rfl|rfl
 ·exact fin
 exact fin
theorem yg {P:Program}{T:fS}(hT:eN P T)(hm:P.follows .mixedOrders=true){f:FuncId}{fn:Func}{c:Code}(hf:P.funcs[f]? =some fn)(hb:fn.body=some c)(hn:(fn.name== "runtime.NumGoroutine")=false)
  (args:List V) (SL:args.length≤fn.ntmps) (keep:Kp) (S3:codeOk keep c=true) (B:Bk) (c0:C) (hB:B.flat) (T6:ni c0)
  (h:vc T P keep c (iS args fn.ntmps) (HQ fn.results.toList B c0)):dK P f args B c0:=by
 refine⟨T6,⟨fn,hf,by rw[hb];rfl,hn⟩,hB,fun ok w vs Tc Ti=>?_⟩
 let G:Ctx:={W0:=w,forb:=fun g=>g<w.heap.size∧¬ok g,mine:=fun _=>False}
 have SP:=yG SL Tc Ti;refine calls_of_wp hf hb (wp_mono (mP hT hm keep c S3 _ _ h G _ w SP) ?_);rintro e a w' ⟨s',hq,ρ,hs⟩;obtain⟨he,t,u,Ud,Vi,hu⟩:=Hc hq;have Uf:Go.RowKit.Below w.heap.size w w':=⟨hs.os,hs.tape,hs.output,hs.size,fun k hk=>hs.keep k hk (fun hf=>hf)⟩;obtain⟨l,h1,h2,h3,h4⟩:=uH hB hs (Bc hB Vi);have Ua:(results fn a.tmps).run P w'= .ok (.tuple #[a.tmps.getD t undef,a.tmps.getD u undef]) w':=by
  have:fn.results= #[.tmp t,.tmp u]:=Array.toList_inj.1 Ud
  unfold results;rw[this]
  simp[Sem.run_bind,Sem.run_pure]
 have Z1:aF bm bo (fun _=>False) w' c0 (a.tmps.getD u undef):=by
  have:=hs.env u
  rw[hu]at this
  cases c0<;>first|exact T6.elim|exact this
 have fin:a.defers=[]∧∃v,(results fn a.tmps).run P w'= .ok v w'∧∃x y l,Ending.returned v= .returned (.tuple #[x,y])∧Go.RowKit.Below w.heap.size w w'∧l.len=B.len∧(∀g o,l.addr=some (g,o)→w.heap.size≤g∧g<w'.heap.size)∧
   aM bm bo (fun g=>ok g∨(w.heap.size≤g∧g<w'.heap.size∧∀o,l.addr≠some (g,o))) w' l B∧eE (fun _=>l) (fun _=>True) (fun _=>False) w' (.own 0 B.wd 0 B.len) x∧aF bm bo (fun _=>False) w' c0 y:=
  ⟨hs.hd,_,Ua,_,_,l,rfl,Uf,h1,h2,h3,h4,Z1⟩
 rcases he with rfl|rfl
 ·exact fin
 exact fin
def Nw (rs:List ResultVar)(n:Nat)(g:Nat→Nat→C)(B:Bk)(c:Option C):Exit→St→Prop
 |.ret,s=>match rs,c with
  |[.tmp t,.tmp u],some c=>Fs s n g B (lk s.env t)∧lk s.env u= .one c
  |[.tmp t],none=>Fs s n g B (lk s.env t)
  |_,_=>False
 |.normal,s=>match rs,c with
  |[.tmp t,.tmp u],some c=>Fs s n g B (lk s.env t)∧lk s.env u= .one c
  |[.tmp t],none=>Fs s n g B (lk s.env t)
  |_,_=>False
 |_,_=>False
theorem Jh {rs:List ResultVar}{n:Nat}{g:Nat→Nat→C}{B:Bk}{c:Option C}{e:Exit}{s:St}(h:Nw rs n g B c e s):(e= .normal∨e= .ret)∧∃t,Fs s n g B (lk s.env t)∧((∃u c',c=some c'∧rs=[.tmp t,.tmp u]∧lk s.env u= .one c')∨(c=none∧rs=[.tmp t])):=by
 unfold Nw at h
 split at h
 ·split at h
  ·exact⟨.inr rfl,_,h.1,.inl ⟨_,_,rfl,rfl,h.2⟩⟩
  ·exact⟨.inr rfl,_,h,.inr ⟨rfl,rfl⟩⟩
  exact h.elim
 ·split at h
  ·exact⟨.inl rfl,_,h.1,.inl ⟨_,_,rfl,rfl,h.2⟩⟩
  ·exact⟨.inl rfl,_,h,.inr ⟨rfl,rfl⟩⟩
  exact h.elim
 exact h.elim
theorem yD {P:Program}{T:fS}(hT:eN P T)(hm:P.follows .mixedOrders=true){f:FuncId}{fn:Func}{c:Code}(hf:P.funcs[f]? =some fn)(hb:fn.body=some c)(hn:(fn.name== "runtime.NumGoroutine")=false)
  (args:List V) (SL:args.length≤fn.ntmps) (keep:Kp) (S3:codeOk keep c=true) (n:Nat) (g0:Nat→Nat→C) (B:Bk) (c0:Option C) (hB:B.flat) (T6:∀c',c0=some c'→ni c')
  (h:vc T P keep c (iS args fn.ntmps) (Nw fn.results.toList n g0 B c0)):uw P f args n g0 B c0:=by
 refine⟨T6,⟨fn,hf,by rw[hb];rfl,hn⟩,hB,fun ok w vs Tc Ti=>?_⟩
 let G:Ctx:={W0:=w,forb:=fun g=>g<w.heap.size∧¬ok g,mine:=fun _=>False}
 have SP:=yG SL Tc Ti;refine calls_of_wp hf hb (wp_mono (mP hT hm keep c S3 _ _ h G _ w SP) ?_);rintro e a w' ⟨s',hq,ρ,hs⟩;obtain⟨he,t,Vi,Ud⟩:=Jh hq;have Uf:Go.RowKit.Below w.heap.size w w':=⟨hs.os,hs.tape,hs.output,hs.size,fun k hk=>hs.keep k hk (fun hf=>hf)⟩;have SN:=hs.env t;unfold Fs at Vi
 split at Vi
 rotate_left
 ·exact Vi.elim
 rename_i b b2 off len hx
 obtain⟨rfl,rfl,SW,h4,h5⟩:=Vi
 cases S7:lo s'.own b with
 |none=>rw[S7]at h4;exact h4.elim
 |some W=>
  cases Wj:lo s'.own b2 with
  |none=>rw[Wj]at h5;exact h5.elim
  |some B'=>
   rw[S7]at h4;rw[Wj]at h5;obtain⟨h6,h7⟩:=h4;obtain⟨h8,h9⟩:=h5;obtain⟨Wv,Uh,Vc,hg1⟩:=hs.own b W S7;obtain⟨VX,SJ,Vy,hg2⟩:=hs.own b2 B' Wj;have hfW:∃e3 b3 n3 g3,W.bk= .wins e3 b3 n3 g3∧n3=len∧∀i,i<len→No b2 (g3 i) (fun b=>g0 b i):=by
    cases hW:W.bk with
    |wins e3 b3 n3 g3=>rw[hW]at h7;exact⟨e3,b3,n3,g3,rfl,h7.1,h7.2⟩
    |_=>rw[hW]at h7;exact h7.elim
   obtain⟨e3,b3,n3,g3,hW,rfl,Zq⟩:=hfW;obtain⟨u,Ua,Z1⟩:∃u,(results fn a.tmps).run P w'= .ok (zl c0 (a.tmps.getD t undef) u) w'∧∀c',c0=some c'→aF bm bo (fun _=>False) w' c' u:=by
    rcases Ud with⟨u,c',rfl,Ud,hu⟩|⟨rfl,Ud⟩
    ·refine⟨a.tmps.getD u undef,?_,fun c'' e=>?_⟩
     ·have:fn.results= #[.tmp t,.tmp u]:=Array.toList_inj.1 Ud
      unfold results;rw[this]
      simp[Sem.run_bind,Sem.run_pure,zl]
     obtain rfl:=Option.some.inj e
     have:=hs.env u
     rw[hu]at this;have XD:=T6 c' rfl
     cases c'<;>first|exact XD.elim|exact this
    refine⟨undef,?_,fun c'' e=>by cases e⟩
    have:fn.results= #[.tmp t]:=Array.toList_inj.1 Ud
    unfold results;rw[this]
    simp[Sem.run_bind,Sem.run_pure,zl]
   rw[hx]at SN;rw[hW]at Vc Uh;have Uh:(ρ b).len=n3:=Uh;have hl2':(ρ b2).len=B.len:=by rw[SJ];exact(Ac h9).symm
   have aab:∀g,aI G s'.own ρ w' g→(ok g∨(w.heap.size≤g∧g<w'.heap.size∧∀o,(ρ b).addr≠some (g,o)∧(ρ b2).addr≠some (g,o))):=fun g hg=>by
    by_cases YO:g<w.heap.size
    ·by_cases UN:ok g
     ·exact .inl UN
     exact absurd ⟨YO,UN⟩ hg.2.1
    exact .inr ⟨by omega,hg.1,fun o=>⟨fun ha=>hg.2.2 b W S7 h6 o ha,fun ha=>hg.2.2 b2 B' Wj h8 o ha⟩⟩
   have Ws:aM bm bo (fun g=>ok g∨(w.heap.size≤g∧g<w'.heap.size∧∀o,(ρ b).addr≠some (g,o)∧(ρ b2).addr≠some (g,o))) w' (ρ b2) B:=by
    exact aM.gH (Bk.oN hB) aab (uM (ok':=aI G s'.own ρ w') (Ext.refl _ _) h9 Vy)
   have new:∀c B,lo s'.own c=some B→∀g o,(ρ c).addr=some (g,o)→w.heap.size≤g∧g<w'.heap.size:=fun c B hc g o ha=>by
    obtain⟨k1,_,k2⟩:=(hs.own c B hc).2.2.2 g o ha
    rcases k2 with k2|k2
    ·exact⟨k2,k1⟩
    exact k2.elim
   have fin:a.defers=[]∧∃v,(results fn a.tmps).run P w'= .ok v w'∧∃x y l1 l2,Ending.returned v= .returned (zl c0 x y)∧Go.RowKit.Below w.heap.size w w'∧l1.len=n3∧l2.len=B.len∧
     (∀g o,l1.addr=some (g,o)→w.heap.size≤g∧g<w'.heap.size)∧(∀g o,l2.addr=some (g,o)→w.heap.size≤g∧g<w'.heap.size)∧(∀g o o',l1.addr=some (g,o)→l2.addr≠some (g,o'))∧
     aM bm bo (fun g=>ok g∨(w.heap.size≤g∧g<w'.heap.size∧∀o,l1.addr≠some (g,o)∧l2.addr≠some (g,o))) w' l2 B∧
     (∀(ρ:Nat→Loc) (dom ok':Nat→Prop) (b b2:Nat),ρ b=l1→ρ b2=l2→dom b→dom b2→(∀g,(ok g∨(w.heap.size≤g∧g<w'.heap.size∧∀o,l1.addr≠some (g,o)∧l2.addr≠some (g,o)))→ok' g)→
      aM ρ dom ok' w' l1 (.wins 0 b2 n3 (g0 b2))∧aF ρ dom ok' w' (.win b b2 0 n3) x)∧∀c',c0=some c'→aF bm bo (fun _=>False) w' c' y:=by
    refine⟨hs.hd,_,Ua,_,_,ρ b,ρ b2,rfl,Uf,Uh,hl2',new b W S7,new b2 B' Wj,fun g o o' ha=>hs.inj b W b2 B' S7 Wj SW h6 g o o' ha,Ws,fun ρ' dom ok' c c2 e1 e2 d1 d2 hok2=>⟨?_,?_⟩,Z1⟩
    ·unfold aM at Vc⊢
     cases ha:(ρ b).addr with
     |none=>
      rw[ha]at Vc;intro j
      have:=Vc j
      simp only[Bk.cell]at this⊢
      split at this
      ·cases this
      rename_i hj;rw[if_neg hj]
     |some x=>
      obtain⟨g,o⟩:=x;rw[ha]at Vc;obtain⟨cur,e4,hg4,XQ⟩:=Vc;refine⟨cur,e4,hg4,fun j cc hj=>?_⟩;simp only[Bk.cell]at hj XQ
      split at hj
      ·rename_i Tj
       obtain⟨uu,XB,TU⟩:=XQ j (g3 j) (if_pos Tj);refine⟨uu,XB,?_⟩;obtain rfl:=Option.some.inj hj
       rcases Zq j Tj with⟨wd,o1,l1,k0,k1⟩|⟨k0,k1⟩
       ·rw[k0]at TU;obtain⟨_,k2⟩:=TU;show aF ρ' dom ok' w' (g0 c2 j) uu;rw[show g0 c2 j=_ from k1 c2];exact⟨d2,by rw[e2];exact k2⟩
       show aF ρ' dom ok' w' (g0 c2 j) uu;rw[show g0 c2 j=_ from k1 c2];exact aF.bn (aQ.ext (Ext.dy fun g hg=>hok2 g (aab g hg)) _ _ (u7 k0 TU))
      cases hj
    obtain⟨_,_,k2⟩:=SN;exact⟨d2,d1,by rw[e1];exact k2⟩
   rcases he with rfl|rfl
   ·exact fin
   exact fin
theorem zf {P:Program}{T:fS}(hT:eN P T)(hm:P.follows .mixedOrders=true){f:FuncId}{fn:Func}{c:Code}(hf:P.funcs[f]? =some fn)(hb:fn.body=some c)(hn:(fn.name== "runtime.NumGoroutine")=false)
  (args:List V) (SL:args.length≤fn.ntmps) (keep:Kp) (S3:codeOk keep c=true) (B:Bk) (hB:B.flat)
  (h:vc T P keep c (iS args fn.ntmps) (IP fn.results.toList B)):Fr P f args B:=
 yz hT hm hf hb hn args SL keep S3 B hB _ (fun _ _ hr=>by obtain⟨h1,t,h2,h3⟩:=Gp hr;exact⟨h1,t,h2,Bc hB h3⟩) h
def Bw (s:St):List ResultVar→Option V
 |[]=>some (.aB [])
 |[.tmp t]=>some (JA 0 s.own s.nx (lk s.env t))
 |[.tmp t,.tmp u]=>some (.aB [JA 0 s.own s.nx (lk s.env t),JA 0 s.own s.nx (lk s.env u)])
 |_=>none
def Jc (rs:List ResultVar)(R:V→Bk→Prop):Exit→St→Prop
 |.ret,s=>b6 (lo s.own 0) fun B'=>B'.rw=true∧B'.bk.plain∧b6 (Bw s rs) fun r=>R r B'.bk
 |.normal,s=>b6 (lo s.own 0) fun B'=>B'.rw=true∧B'.bk.plain∧b6 (Bw s rs) fun r=>R r B'.bk
 |_,_=>False
def iM (args:List V)(B:Bk)(n:Nat):St:={env:=eO 0 args,own:=[(0,⟨B,true⟩)],nx:=1,n:=n}
theorem Mr {rs:List ResultVar}{R:V→Bk→Prop}{e:Exit}{s:St}(h:Jc rs R e s):(e= .normal∨e= .ret)∧∃B' r,lo s.own 0=some B'∧B'.rw=true∧B'.bk.plain∧Bw s rs=some r∧R r B'.bk:=by
 have key:(b6 (lo s.own 0) fun B'=>B'.rw=true∧B'.bk.plain∧b6 (Bw s rs) fun r=>R r B'.bk)→∃B' r,lo s.own 0=some B'∧B'.rw=true∧B'.bk.plain∧Bw s rs=some r∧R r B'.bk:=by
  intro h;unfold b6 at h
  split at h
  ·rename_i B' hB
   obtain⟨h1,h2,h3⟩:=h
   split at h3
   ·rename_i r hr;exact⟨B',r,hB,h1,h2,hr,h3⟩
   exact h3.elim
  exact h.elim
 unfold Jc at h
 split at h
 ·exact⟨.inr rfl,key h⟩
 ·exact⟨.inl rfl,key h⟩
 exact h.elim
theorem Ga {P:Program}{T:fS}(hT:eN P T)(hm:P.follows .mixedOrders=true){f:FuncId}{fn:Func}{c:Code}(hf:P.funcs[f]? =some fn)(hb:fn.body=some c)(hn:(fn.name== "runtime.NumGoroutine")=false)
  (args:List V) (SL:args.length≤fn.ntmps) (keep:Kp) (S3:codeOk keep c=true) (B:Bk) (hBp:B.plain) (R:V→Bk→Prop)
  (h:vc T P keep c (iM args B fn.ntmps) (Jc fn.results.toList R)):Mc P f args B R:=by
 refine⟨⟨fn,hf,by rw[hb];rfl,hn⟩,fun ok w vs l Tc XJ XM Ws Ti=>?_⟩;have hlen:=a8.length Ti;simp only[Array.length_toList]at hlen
 let G:Ctx:={W0:=w,forb:=fun g=>g<w.heap.size∧¬ok g∧∀o,l.addr≠some (g,o),mine:=fun g=>∃o,l.addr=some (g,o),home:=some l}
 let a0:Act:={tmps:=vs++Array.replicate (fn.ntmps-vs.size) undef,defers:=[]}
 have Wi:∀g,ok g→aI G [(0,⟨B,true⟩)] (fun _=>l) w g:=fun g hg=>⟨Tc g hg,fun hf=>hf.2.1 hg,fun b B2 hl S2 o ha=>(XM g o ha).2 hg⟩;have SP:oT G (iM args B fn.ntmps) a0 w:=by
  refine⟨fun _=>l,{hd:=rfl,hn:=?_,env:=fun t=>?_,own:=fun b B2 hl=>?_,inj:=fun b B1 b' B' hl TH SW=>?_,os:=rfl,tape:=rfl,output:=rfl,size:=O1 _,keep:=fun _ _ _=>rfl,wf:=fun k hk=>hk.1,home:=fun l' hl=>?_,room:=fun _=>O1 _}⟩
  ·simp[a0,iM];omega
  ·simp only[iM,nw]
   split
   ·rename_i ht
    simp only[Nat.sub_zero,Nat.zero_add]at ht⊢;have hx:args[t]? =some (args.getD t .unk):=by
     rw[X7,X8 ht.2];rfl
    obtain⟨v,hv,hr⟩:=a8.get Ti t _ hx;have Z8:a0.tmps.getD t undef=v:=by
     rw[Array.getElem?_toList]at hv;have SI:=(Array.getElem?_eq_some_iff.1 hv).1;simp only[a0,Array.getD_eq_getD_getElem?];rw[Array.getElem?_append_left SI,hv];rfl
    rw[Z8];exact cE.wy (dM.ext (Ext.dy Wi) ⟨fun b hb=>by omega,fun b hb=>rfl⟩ _ _ hr)
   trivial
  ·simp only[iM,lo]at hl
   split at hl
   ·rename_i YS
    subst YS;obtain rfl:=Option.some.inj hl;refine⟨by simp[iM],XJ,Ws.gH hBp Wi,fun g o ha=>⟨(XM g o ha).1,fun hf=>hf.2.2 o ha,.inr ⟨o,ha⟩⟩⟩
   cases hl
  ·simp only[iM,lo]at hl TH
   split at hl
   ·split at TH
    ·rename_i h1 h2;exact absurd (h1.trans h2.symm) SW
    cases TH
   cases hl
  exact⟨by simp[iM],(Option.some.inj hl)⟩
 refine calls_of_wp hf hb (wp_mono (mP hT hm keep c S3 _ _ h G _ w SP) ?_);rintro e a w' ⟨s',hq,ρ,hs⟩;obtain⟨he,B',r,S7,S2,UC,Ua,hR⟩:=Mr hq;obtain⟨hd0,hρ0⟩:=hs.home l rfl;obtain⟨_,hlB',XN,hgB'⟩:=hs.own 0 B' S7;have hmb:ye l w w':=⟨hs.os,hs.tape,hs.output,hs.size,fun k hk Zo=>hs.keep k hk (fun hf=>by obtain⟨o,ho⟩:=hf;exact Zo o ho),hs.room⟩;have SS:∀g,g<w'.heap.size→¬G.forb g→(∀o,l.addr≠some (g,o))→Ge ok w w' g:=fun g h1 h2 h3=>by
  by_cases YO:g<w.heap.size
  ·by_cases UN:ok g
   ·exact .inl UN
   exact absurd ⟨YO,UN,h3⟩ h2
  exact .inr ⟨by omega,h1⟩
 have aac:∀ids,0∉ids→∀g,cS G s'.own ρ w' ids g→Ge ok w w' g:=by
  rintro ids T7 g (h1|⟨b1,Vs,B1,o',Uh,To⟩)
  ·exact SS g h1.1 h1.2.1 fun o ha=>h1.2.2 0 B' S7 S2 o (by rw[hρ0];exact ha)
  obtain⟨_,_,_,h4⟩:=hs.own b1 B1 Uh;obtain⟨h5,h6,_⟩:=h4 g o' To;exact SS g h5 h6 fun o ha=>hs.inj 0 B' b1 B1 S7 Uh (fun e=>T7 (e▸Vs)) S2 g o o' (by rw[hρ0];exact ha) To
 have Wg:∃v,(results fn a.tmps).run P w'= .ok v w'∧cE (fun _=>l) (fun b=>b=0) (Ge ok w w') w' r v:=by
  have hmu:∀t,dM (fun _=>l) (fun b=>b=0) (Ge ok w w') w' (JA 0 s'.own s'.nx (lk s'.env t)) (a.tmps.getD t undef):=by
   intro t;have h1:=we hs 0 ((kP (lk s'.env t)).filter (fun b=>b !=0)) (lk s'.env t) _ (fun b hb SW=>List.mem_filter.2 ⟨hb,by simpa using SW⟩) (hs.env t);rw[hρ0]at h1;exact dM.ext (Ext.dy (aac _ (by simp))) ⟨fun _ h=>h,fun _ _=>rfl⟩ _ _ h1
  unfold Bw at Ua
  split at Ua
  ·rename_i Ud
   obtain rfl:=Option.some.inj Ua
   have:fn.results= #[]:=Array.toList_inj.1 Ud
   refine⟨.tuple #[],?_,#[],rfl,trivial⟩;unfold results;rw[this]
   simp[Sem.run_bind,Sem.run_pure]
  ·rename_i t Ud
   obtain rfl:=Option.some.inj Ua;exact⟨_,results_tmp Ud a.tmps w',cE.wy (hmu t)⟩
  ·rename_i t u Ud
   obtain rfl:=Option.some.inj Ua
   have:fn.results= #[.tmp t,.tmp u]:=Array.toList_inj.1 Ud
   refine⟨.tuple #[a.tmps.getD t undef,a.tmps.getD u undef],?_,_,rfl,hmu t,hmu u,trivial⟩;unfold results;rw[this]
   simp[Sem.run_bind,Sem.run_pure]
  cases Ua
 obtain⟨v,SO,SV⟩:=Wg;have hfinal:aM bm bo (Ge ok w w') w' l B'.bk:=by
  rw[hρ0]at XN;exact XN.gH UC fun g hg=>aac [] (by simp) g (.inl hg)
 have hB'len:B'.bk.len=B.len:=by rw[←hlB',hρ0,XJ]
 have fin:a.defers=[]∧∃v,(results fn a.tmps).run P w'= .ok v w'∧∃u r B2,Ending.returned v= .returned u∧R r B2∧B2.plain∧B2.len=B.len∧ye l w w'∧aM bm bo (Ge ok w w') w' l B2∧cE (fun _=>l) (fun b=>b=0) (Ge ok w w') w' r u:=
  ⟨hs.hd,v,SO,v,r,B'.bk,rfl,hR,UC,hB'len,hmb,hfinal,SV⟩
 rcases he with rfl|rfl
 ·exact fin
 exact fin
set_option linter.defProp false in
def RR:=Q3 @List.contains_cons.{0} (Q3 @List.contains_nil.{0} (Q3 @beq_self_eq_true.{0} (Q3 @bne_self_eq_false.{0} (Q3 @bne_iff_ne.{0} (Q3 @List.take_length.{0} (Q3 @List.toList_toArray.{0} (Q3 @List.map_nil.{0,0} (Q3 @List.map_cons.{0,0} (Q3 @List.flatten_nil.{0} (Q3 @List.flatten_cons.{0} (Q3 @List.filter_nil.{0} (Q3 @List.filter_cons.{0} (Q3 @List.nil_append.{0} (Q3 @List.cons_append.{0} (Q3 @List.append_nil.{0} (Q3 @List.any_nil.{0} (Q3 @List.any_cons.{0} (Q3 @List.all_nil.{0} (Q3 @List.all_cons.{0} (Q3 @List.take_zero.{0} (Q3 @List.take_succ_cons.{0} (Q3 @List.take_nil.{0} (Q3 @List.drop_zero.{0} (Q3 @List.drop_succ_cons.{0} (Q3 @List.drop_nil.{0} (Q3 @List.getElem?_cons_zero.{0} (Q3 @List.getElem?_cons_succ.{0} (Q3 @List.getD_cons_zero.{0} (Q3 @List.getD_cons_succ.{0} (Q3 @List.length_cons.{0} (Q3 @List.length_nil.{0} (Q3 @List.flatMap_cons.{0,0} (Q3 @List.flatMap_nil.{0,0} (Q3 @Option.map_some.{0,0} (Q3 @Option.map_none.{0,0} (Q3 @eq_self.{1} (Q3 @Bool.false_eq_true (Q3 @Q1 (Q3 @decide_eq_true_eq (Q3 @decide_eq_false_iff_not (Q3 @ne_eq.{1} (Q3 @not_true_eq_false (Q3 @not_false_eq_true (Q3 @Classical.not_not (Q3 @KI (Q3 @Mi (Q3 @Bool.true_eq_false (Q3 @Int.sub_zero (Q3 @Int.zero_add (@Int.add_zero))))))))))))))))))))))))))))))))))))))))))))))))))
set_option linter.defProp false in
def Sx:=Q3 @HQ.eq_def (Q3 @IP.eq_def (Q3 @lS.eq_def (Q3 @RE.eq_def (Q3 @mJ.eq_def (Q3 @FM.eq_def (Q3 @Jc.eq_def (@Bw.eq_def)))))))
set_option linter.defProp false in
def Se:=Q3 @Option.some.injEq.{0} (Q3 @List.not_mem_nil.{0} (Q3 @false_imp_iff (Q3 @List.forall_mem_cons.{0} (Q3 @implies_true.{1} (@implies_true.{0})))))
end Go.Eng
namespace Go.Eng
open Go
theorem zM {w w':World}{ok:Nat→Prop}{l:Loc}{B:Bk}{v:Value}(hf:B.flat)(TA:∀g o,l.addr=some (g,o)→w.heap.size≤g∧g<w'.heap.size)
  (hl:l.len=B.len) (SK:aM bm bo (fun g=>ok g∨(w.heap.size≤g∧g<w'.heap.size∧∀o,l.addr≠some (g,o))) w' l B) (SV:eE (fun _=>l) (fun _=>True) (fun _=>False) w' (.own 0 B.wd 0 B.len) v):
  aF bm bo (fun g=>ok g∨(w.heap.size≤g∧g<w'.heap.size)) w' (gq B B.wd 0 B.len) v:=by
 obtain⟨_,hle,cap,Te,hv⟩:=SV;have WJ:aM bm bo (fun g=>ok g∨(w.heap.size≤g∧g<w'.heap.size)) w' l B:=SK.gH (Bk.oN hf) fun g hg=>by
  rcases hg with hg|⟨h1,h2,_⟩
  ·exact .inl hg
  exact .inr ⟨h1,h2⟩
 refine aF.bn ?_
 rcases hv with⟨g,o,o',ha,rfl,ho,_⟩|⟨_,rfl,h0,_⟩
 ·exact lZ ha WJ (.inr (TA g o ha)) hl hle Te ho
 cases B with
 |var cs=>exact hf.elim
 |wins e b2 n g=>exact hf.elim
 |ints e k xs=>
  simp only[Bk.len]at h0;simp only[gq,Bk.wd,if_true,Bk.len];exact⟨none,0,by simp[h0],by simp[h0],.inl (by simp[h0])⟩
 |rows e w n f=>
  simp only[Bk.len]at h0;subst h0;simp only[gq,Bk.wd,if_true,Bk.len];exact⟨none,0,rfl,O1 _,.inl rfl⟩
theorem Fr.view {P:Program}{f:FuncId}{args:List V}{B:Bk}(h:Fr P f args B):Pr P f args (.one (gq B B.wd 0 B.len)):=by
 obtain⟨hc,hf,h⟩:=h;refine⟨hc,fun ok w vs Tc Ti=>Calls.mono (h ok w vs Tc Ti) fun e w' he=>?_⟩;obtain⟨v,l,rfl,hb,hl,TA,SK,SV⟩:=he;exact⟨v,rfl,hb,zM hf TA hl SK SV⟩
theorem Fr.ints {P:Program}{f:FuncId}{args:List V}{e:TypeId}{k:IntKind}{xs:List Int}(h:Fr P f args (.ints e k xs)):Pr P f args (.one (.ints k xs)):=by
 have h1:=h.view;simp only[gq,Bk.wd,Bk.len,if_true,List.drop_zero,List.take_length]at h1;exact h1
theorem Fr.rows {P:Program}{f:FuncId}{args:List V}{e:TypeId}{w n:Nat}{g:Nat→Nat→C}(h:Fr P f args (.rows e w n g)):Pr P f args (.one (.rows w n g)):=by
 have h1:=h.view;simp only[gq,Bk.wd,Bk.len,if_true,Nat.zero_add]at h1;exact h1
end Go.Eng
namespace Go.Eng
open Go
def uJ (x y:V):Prop:=∀ok w v,dM bm bo ok w x v→dM bm bo ok w y v
theorem uJ.refl (x:V):uJ x x:=fun _ _ _ h=>h
theorem uJ.NS {x y:C}(h:fR (.one x) (.one y)):uJ (.one x) (.one y):=fun ok w v hr=>h ok w v hr
def yZ:List V→List V→Prop
 |[],[]=>True
 |x::xs,y::ys=>uJ x y∧yZ xs ys
 |_,_=>False
theorem yZ.rep {ok:Nat→Prop}{w:World}:∀{xs ys:List V} {vs:List Value},yZ xs ys→a8 bm bo ok w xs vs→a8 bm bo ok w ys vs
 |[],[],_,_,h=>h
 |x::xs,y::ys,[],_,h=>h.elim
 |x::xs,y::ys,v::vs,ha,h=>⟨ha.1 ok w v h.1,yZ.rep ha.2 h.2⟩
 |[],_::_,_,ha,_=>ha.elim
 |_::_,[],_,ha,_=>ha.elim
theorem Pr.args {P:Program}{f:FuncId}{xs ys:List V}{r:V}(h:Pr P f ys r)(ha:yZ xs ys):Pr P f xs r:=
 ⟨h.1,fun ok w vs Tc Ti=>h.2 ok w vs Tc (ha.rep Ti)⟩
theorem Pr.L5 {P:Program}{f:FuncId}{x y:C}{r:V}(h:Pr P f [.one y] r)(ha:fR (.one x) (.one y)):Pr P f [.one x] r:=
 h.args ⟨.NS ha,trivial⟩
def dH (c c':C):Prop:=∀ok w v,aQ ok w c v→aQ ok w c' v
theorem dH.refl (c:C):dH c c:=fun _ _ _ h=>h
theorem dH.of_eq {c c':C}(h:c=c'):dH c c':=h▸dH.refl c
theorem dH.zv (k:IntKind):dH .nil (.ints k []):=fun ok w v h=>⟨none,0,h,O1 _,.inl rfl⟩
theorem dH.pV (wd:Nat)(f:Nat→Nat→C):dH .nil (.rows wd 0 f):=fun ok w v h=>⟨none,0,h,O1 _,.inl rfl⟩
theorem dH.rows {wd n n':Nat}{f g:Nat→Nat→C}(hn:n=n')(h:∀i j,i<n→j<wd→dH (f i j) (g i j)):dH (.rows wd n f) (.rows wd n' g):=by
 subst hn;rintro ok w v ⟨a,cap,hv,hle,hr⟩;refine⟨a,cap,hv,hle,?_⟩
 rcases hr with hr|⟨b,o,ha,hg,Th⟩
 ·exact .inl hr
 refine .inr ⟨b,o,ha,hg,fun i j hi hj=>?_⟩;obtain⟨u,hu,hr⟩:=Th i j hi hj;exact⟨u,hu,h i j hi hj ok w u hr⟩
theorem uJ.cell {c c':C}(h:dH c c'):uJ (.one c) (.one c'):=fun ok w v hr=>aF.bn (h ok w v (aQ.dZ hr))
theorem Pr.HY {P:Program}{f:FuncId}{x y:C}{r:V}(h:Pr P f [.one y] r)(ha:dH x y):Pr P f [.one x] r:=
 h.args ⟨.cell ha,trivial⟩
theorem Pr.uq {P:Program}{f:FuncId}{x y x' y':C}{r:V}(h:Pr P f [.one y,.one y'] r)(ha:dH x y)(To:dH x' y'):Pr P f [.one x,.one x'] r:=
 h.args ⟨.cell ha,.cell To,trivial⟩
theorem Pr.res {P:Program}{f:FuncId}{xs:List V}{r r':V}(h:Pr P f xs r)(hr:fR r r'):Pr P f xs r':=
 ⟨h.1,fun ok w vs Tc Ti=>Calls.mono (h.2 ok w vs Tc Ti) fun _ _ ⟨v,he,hb,hv⟩=>⟨v,he,hb,hr _ _ _ hv⟩⟩
open Go
theorem dK.rows {P:Program}{f:FuncId}{args:List V}{e:TypeId}{w n:Nat}{g:Nat→Nat→C}{c:C}(h:dK P f args (.rows e w n g) c):Pr P f args (.aB [.one (.rows w n g),.one c]):=by
 obtain⟨hs,hc,hf,h⟩:=h;refine⟨hc,fun ok w vs Tc Ti=>Calls.mono (h ok w vs Tc Ti) fun e w' he=>?_⟩;obtain⟨v,u,l,rfl,hb,hl,TA,SK,SV,hu⟩:=he;have h1:=zM hf TA hl SK SV;simp only[gq,Bk.wd,Bk.len,if_true,Nat.zero_add]at h1;refine⟨_,rfl,hb,_,rfl,h1,?_,trivial⟩
 cases c<;>first|exact hs.elim|exact hu
theorem dK.args {P:Program}{f:FuncId}{xs ys:List V}{B:Bk}{c:C}(h:dK P f ys B c)(ha:yZ xs ys):dK P f xs B c:=
 ⟨h.1,h.2.1,h.2.2.1,fun ok w vs Tc Ti=>h.2.2.2 ok w vs Tc (ha.rep Ti)⟩
end Go.Eng
namespace Go.Proofs.YtehahgjkjfoebaaGreat
open Go.Proofs.Tryz
open Go Go.Eng
def T:Nat→Option Ty
 |2=>some ⟨.int .i64,1,8,[.int .i64 0],[]⟩
 |3=>some ⟨.int .i64,1,8,[.int .i64 0],[]⟩
 |4=>some ⟨.bool,1,1,[.bool false],[]⟩
 |5=>some ⟨.int .u8,1,1,[.int .u8 0],[]⟩
 |9=>some ⟨.str,1,16,[.str ⟨#[]⟩],[]⟩
 |22=>some ⟨.sl 100,1,24,[.nil],[]⟩
 |23=>some ⟨.sl 100,1,24,[.nil],[]⟩
 |24=>some ⟨.sl 5,1,24,[.nil],[]⟩
 |25=>some ⟨.st [(0,1),(1,1),(2,1)],3,56,[.nil,.nil,.int .u8 0],[true,true,true]⟩
 |26=>some ⟨.st [(0,1),(1,1),(2,1)],3,56,[.nil,.nil,.int .u8 0],[true,true,true]⟩
 |28=>some ⟨.sl 38,1,24,[.nil],[]⟩
 |34=>some ⟨.int .i64,1,8,[.int .i64 0],[]⟩
 |38=>some ⟨.sl 56,1,24,[.nil],[]⟩
 |45=>some ⟨.sl 2,1,24,[.nil],[]⟩
 |47=>some ⟨.sl 3,1,24,[.nil],[]⟩
 |53=>some ⟨.sl 54,1,24,[.nil],[]⟩
 |54=>some ⟨.sl 66,1,24,[.nil],[]⟩
 |55=>some ⟨.st [(0,1),(1,1)],2,48,[.nil,.nil],[true,true]⟩
 |56=>some ⟨.st [(0,1),(1,1)],2,48,[.nil,.nil],[true,true]⟩
 |62=>some ⟨.sl 161,1,24,[.nil],[]⟩
 |63=>some ⟨.st [(0,1),(1,1)],2,32,[.bool false,.nil],[true,true]⟩
 |64=>some ⟨.st [(0,1),(1,1)],2,32,[.bool false,.nil],[true,true]⟩
 |65=>some ⟨.st [(0,2),(2,2)],4,64,[.bool false,.nil,.bool false,.nil],[false,false]⟩
 |66=>some ⟨.st [(0,2),(2,2)],4,64,[.bool false,.nil,.bool false,.nil],[false,false]⟩
 |77=>some ⟨.st [(0,1)],1,8,[.int .i64 0],[true]⟩
 |78=>some ⟨.st [(0,1)],1,8,[.int .i64 0],[true]⟩
 |82=>some ⟨.st [(0,1),(1,1),(2,2)],4,96,[.nil,.nil,.nil,.nil],[true,true,false]⟩
 |83=>some ⟨.st [(0,1),(1,1),(2,2)],4,96,[.nil,.nil,.nil,.nil],[true,true,false]⟩
 |98=>some ⟨.int .i8,1,1,[.int .i8 0],[]⟩
 |99=>some ⟨.st [(0,1),(1,1),(2,1),(3,1),(4,1)],5,5,[.int .u8 0,.int .u8 0,.int .u8 0,.int .i8 0,.int .u8 0],[true,true,true,true,true]⟩
 |100=>some ⟨.st [(0,1),(1,1),(2,1),(3,1),(4,1)],5,5,[.int .u8 0,.int .u8 0,.int .u8 0,.int .i8 0,.int .u8 0],[true,true,true,true,true]⟩
 |128=>some ⟨.int .u64,1,8,[.int .u64 0],[]⟩
 |142=>some ⟨.st [(0,1),(1,1)],2,48,[.nil,.nil],[true,true]⟩
 |143=>some ⟨.st [(0,1),(1,1)],2,48,[.nil,.nil],[true,true]⟩
 |161=>some ⟨.int .u32,1,4,[.int .u32 0],[]⟩
 |162=>some ⟨.int .u64,1,8,[.int .u64 0],[]⟩
 |_=>none
theorem T2:dU prog 2=some ⟨.int .i64,1,8,[.int .i64 0],[]⟩:=by kernel_rfl
theorem T3:dU prog 3=some ⟨.int .i64,1,8,[.int .i64 0],[]⟩:=by kernel_rfl
theorem T4:dU prog 4=some ⟨.bool,1,1,[.bool false],[]⟩:=by kernel_rfl
theorem T5:dU prog 5=some ⟨.int .u8,1,1,[.int .u8 0],[]⟩:=by kernel_rfl
theorem T9:dU prog 9=some ⟨.str,1,16,[.str ⟨#[]⟩],[]⟩:=by kernel_rfl
theorem Sr:dU prog 22=some ⟨.sl 100,1,24,[.nil],[]⟩:=by kernel_rfl
theorem Si:dU prog 23=some ⟨.sl 100,1,24,[.nil],[]⟩:=by kernel_rfl
theorem Sd:dU prog 24=some ⟨.sl 5,1,24,[.nil],[]⟩:=by kernel_rfl
theorem Sy:dU prog 25=some ⟨.st [(0,1),(1,1),(2,1)],3,56,[.nil,.nil,.int .u8 0],[true,true,true]⟩:=by kernel_rfl
theorem Sh:dU prog 26=some ⟨.st [(0,1),(1,1),(2,1)],3,56,[.nil,.nil,.int .u8 0],[true,true,true]⟩:=by kernel_rfl
theorem R5:dU prog 28=some ⟨.sl 38,1,24,[.nil],[]⟩:=by kernel_rfl
theorem Sc:dU prog 34=some ⟨.int .i64,1,8,[.int .i64 0],[]⟩:=by kernel_rfl
theorem Sj:dU prog 38=some ⟨.sl 56,1,24,[.nil],[]⟩:=by kernel_rfl
theorem SC:dU prog 45=some ⟨.sl 2,1,24,[.nil],[]⟩:=by kernel_rfl
theorem Sk:dU prog 47=some ⟨.sl 3,1,24,[.nil],[]⟩:=by kernel_rfl
theorem Su:dU prog 53=some ⟨.sl 54,1,24,[.nil],[]⟩:=by kernel_rfl
theorem Sv:dU prog 54=some ⟨.sl 66,1,24,[.nil],[]⟩:=by kernel_rfl
theorem SE:dU prog 55=some ⟨.st [(0,1),(1,1)],2,48,[.nil,.nil],[true,true]⟩:=by kernel_rfl
theorem Ss:dU prog 56=some ⟨.st [(0,1),(1,1)],2,48,[.nil,.nil],[true,true]⟩:=by kernel_rfl
theorem SG:dU prog 62=some ⟨.sl 161,1,24,[.nil],[]⟩:=by kernel_rfl
theorem SB:dU prog 63=some ⟨.st [(0,1),(1,1)],2,32,[.bool false,.nil],[true,true]⟩:=by kernel_rfl
theorem So:dU prog 64=some ⟨.st [(0,1),(1,1)],2,32,[.bool false,.nil],[true,true]⟩:=by kernel_rfl
theorem R4:dU prog 65=some ⟨.st [(0,2),(2,2)],4,64,[.bool false,.nil,.bool false,.nil],[false,false]⟩:=by kernel_rfl
theorem Sf:dU prog 66=some ⟨.st [(0,2),(2,2)],4,64,[.bool false,.nil,.bool false,.nil],[false,false]⟩:=by kernel_rfl
theorem Sw:dU prog 77=some ⟨.st [(0,1)],1,8,[.int .i64 0],[true]⟩:=by kernel_rfl
theorem Sb:dU prog 78=some ⟨.st [(0,1)],1,8,[.int .i64 0],[true]⟩:=by kernel_rfl
theorem R3:dU prog 82=some ⟨.st [(0,1),(1,1),(2,2)],4,96,[.nil,.nil,.nil,.nil],[true,true,false]⟩:=by kernel_rfl
theorem Sn:dU prog 83=some ⟨.st [(0,1),(1,1),(2,2)],4,96,[.nil,.nil,.nil,.nil],[true,true,false]⟩:=by kernel_rfl
theorem R2:dU prog 98=some ⟨.int .i8,1,1,[.int .i8 0],[]⟩:=by kernel_rfl
theorem R9:dU prog 99=some ⟨.st [(0,1),(1,1),(2,1),(3,1),(4,1)],5,5,[.int .u8 0,.int .u8 0,.int .u8 0,.int .i8 0,.int .u8 0],[true,true,true,true,true]⟩:=by kernel_rfl
theorem RF:dU prog 100=some ⟨.st [(0,1),(1,1),(2,1),(3,1),(4,1)],5,5,[.int .u8 0,.int .u8 0,.int .u8 0,.int .i8 0,.int .u8 0],[true,true,true,true,true]⟩:=by kernel_rfl
theorem RH:dU prog 128=some ⟨.int .u64,1,8,[.int .u64 0],[]⟩:=by kernel_rfl
theorem Rs:dU prog 142=some ⟨.st [(0,1),(1,1)],2,48,[.nil,.nil],[true,true]⟩:=by kernel_rfl
theorem Rx:dU prog 143=some ⟨.st [(0,1),(1,1)],2,48,[.nil,.nil],[true,true]⟩:=by kernel_rfl
theorem Ro:dU prog 161=some ⟨.int .u32,1,4,[.int .u32 0],[]⟩:=by kernel_rfl
theorem RP:dU prog 162=some ⟨.int .u64,1,8,[.int .u64 0],[]⟩:=by kernel_rfl
theorem CV:eN prog T:=by
 intro t X h;unfold T at h
 split at h
 ·cases h;exact T2
 ·cases h;exact T3
 ·cases h;exact T4
 ·cases h;exact T5
 ·cases h;exact T9
 ·cases h;exact Sr
 ·cases h;exact Si
 ·cases h;exact Sd
 ·cases h;exact Sy
 ·cases h;exact Sh
 ·cases h;exact R5
 ·cases h;exact Sc
 ·cases h;exact Sj
 ·cases h;exact SC
 ·cases h;exact Sk
 ·cases h;exact Su
 ·cases h;exact Sv
 ·cases h;exact SE
 ·cases h;exact Ss
 ·cases h;exact SG
 ·cases h;exact SB
 ·cases h;exact So
 ·cases h;exact R4
 ·cases h;exact Sf
 ·cases h;exact Sw
 ·cases h;exact Sb
 ·cases h;exact R3
 ·cases h;exact Sn
 ·cases h;exact R2
 ·cases h;exact R9
 ·cases h;exact RF
 ·cases h;exact RH
 ·cases h;exact Rs
 ·cases h;exact Rx
 ·cases h;exact Ro
 ·cases h;exact RP
 cases h
theorem mixed:prog.follows .mixedOrders=true:=by kernel_rfl
theorem pw {f:FuncId}{fn:Func}(hf:prog.funcs[f]? =some fn)(k:Kp){args:List V}{r:V}(h:vc T prog k (Option.get! fn.body) (iS args fn.ntmps) (Kk T fn.results.toList (fun x=>fR x r)))(hb:fn.body=some (Option.get! fn.body):=by rfl)(hn:(fn.name== "runtime.NumGoroutine")=false:=by decide)(ha:args.length≤fn.ntmps:=by exact Nat.le_of_ble_eq_true rfl)(hk:codeOk k (Option.get! fn.body)=true:=by kernel_rfl):Pr prog f args r:=pv CV mixed hf hb hn args ha k hk r h
theorem fw {f:FuncId}{fn:Func}(hf:prog.funcs[f]? =some fn)(k:Kp){args:List V}{B:Bk}(h:vc T prog k (Option.get! fn.body) (iS args fn.ntmps) (IP fn.results.toList B))(hb:fn.body=some (Option.get! fn.body):=by rfl)(hn:(fn.name== "runtime.NumGoroutine")=false:=by decide)(ha:args.length≤fn.ntmps:=by exact Nat.le_of_ble_eq_true rfl)(hk:codeOk k (Option.get! fn.body)=true:=by kernel_rfl)(hB:B.flat:=by exact trivial):Fr prog f args B:=zf CV mixed hf hb hn args ha k hk B hB h
theorem tw {f:FuncId}{fn:Func}(hf:prog.funcs[f]? =some fn)(k:Kp){args:List V}{B:Bk}{c:C}(h:vc T prog k (Option.get! fn.body) (iS args fn.ntmps) (HQ fn.results.toList B c))(hb:fn.body=some (Option.get! fn.body):=by rfl)(hn:(fn.name== "runtime.NumGoroutine")=false:=by decide)(ha:args.length≤fn.ntmps:=by exact Nat.le_of_ble_eq_true rfl)(hk:codeOk k (Option.get! fn.body)=true:=by kernel_rfl)(hB:B.flat:=by exact trivial)(hc:ni c:=by exact trivial):dK prog f args B c:=yg CV mixed hf hb hn args ha k hk B c hB hc h
theorem mw {f:FuncId}{fn:Func}(hf:prog.funcs[f]? =some fn)(k:Kp){args:List V}{B:Bk}{R:V→Bk→Prop}(h:vc T prog k (Option.get! fn.body) (iM args B fn.ntmps) (Jc fn.results.toList R))(hb:fn.body=some (Option.get! fn.body):=by rfl)(hn:(fn.name== "runtime.NumGoroutine")=false:=by decide)(ha:args.length≤fn.ntmps:=by exact Nat.le_of_ble_eq_true rfl)(hk:codeOk k (Option.get! fn.body)=true:=by kernel_rfl)(hB:B.plain:=by exact trivial):Mc prog f args B R:=Ga CV mixed hf hb hn args ha k hk B hB R h
end Go.Proofs.YtehahgjkjfoebaaGreat
namespace Go.Eng
def BB:Nat:=4294967296
def val:List Int→Nat
 |[]=>0
 |x::xs=>x.toNat+BB*val xs
def bO (xs:List Int):Prop:=∀x∈xs,0≤x∧x<4294967296
def ak (n:Nat):List Int:=if h:n=0 then[]else((n%BB:Nat):Int)::ak (n/BB)
termination_by n
decreasing_by exact Nat.div_lt_self (by omega) (by decide)
theorem br:ak 0=[]:=by unfold ak;simp
theorem jm {n:Nat}(h:0<n):ak n=((n%BB:Nat):Int)::ak (n/BB):=by
 rw[ak];rw[dif_neg (by omega)]
theorem bO.nil:bO []:=fun _ h=>by simp at h
theorem bO.cons {x:Int}{xs:List Int}(hx:0≤x∧x<4294967296)(h:bO xs):bO (x::xs):=fun y hy=>by
 rcases List.mem_cons.1 hy with rfl|hy
 ·exact hx
 exact h y hy
theorem bO.tail {x:Int}{xs:List Int}(h:bO (x::xs)):bO xs:=fun y hy=>h y (by simp[hy])
theorem bO.head {x:Int}{xs:List Int}(h:bO (x::xs)):0≤x∧x<4294967296:=h x (by simp)
theorem bO.append {xs ys:List Int}(h:bO xs)(h':bO ys):bO (xs++ys):=fun y hy=>by
 rcases List.mem_append.1 hy with hy|hy
 ·exact h y hy
 exact h' y hy
theorem bO.take {xs:List Int}(h:bO xs)(i:Nat):bO (xs.take i):=fun y hy=>h y (List.mem_of_mem_take hy)
theorem bO.drop {xs:List Int}(h:bO xs)(i:Nat):bO (xs.drop i):=fun y hy=>h y (List.mem_of_mem_drop hy)
theorem bO.getD {xs:List Int}(h:bO xs)(i:Nat):0≤xs.getD i 0∧xs.getD i 0<4294967296:=by
 rw[X7]
 cases hi:xs[i]? with
 |none=>simp
 |some x=>exact h x (List.mem_of_getElem? hi)
theorem bO.set {xs:List Int}(h:bO xs)(i:Nat){x:Int}(hx:0≤x∧x<4294967296):bO (xs.set i x):=fun y hy=>by
 rcases List.mem_or_eq_of_mem_set hy with hy|rfl
 ·exact h y hy
 exact hx
theorem bO.replicate (n:Nat):bO (List.replicate n 0):=fun y hy=>by
 rw[(List.mem_replicate.1 hy).2];decide
theorem bO.one {x:Int}(h:0≤x∧x<4294967296):bO [x]:=bO.cons h bO.nil
theorem bO.ak:∀(n:Nat),bO (ak n):=by
 intro n
 induction n using Nat.strongRecOn with
 |_ n ih=>
  by_cases h:n=0
  ·subst h;rw[br];exact bO.nil
  rw[jm (by omega)]
  have:n%BB<4294967296:=Nat.mod_lt n (show BB>0 by decide)
  exact bO.cons ⟨by omega,by omega⟩ (ih _ (Nat.div_lt_self (by omega) (by decide)))
theorem gE:∀(n:Nat),val (ak n)=n:=by
 intro n
 induction n using Nat.strongRecOn with
 |_ n ih=>
  by_cases h:n=0
  ·subst h;rw[br];rfl
  rw[jm (by omega)];simp only[val];rw[ih _ (Nat.div_lt_self (by omega) (by decide))]
  have:=Nat.mod_add_div n BB
  omega
theorem fa:∀(xs ys:List Int),val (xs++ys)=val xs+BB^xs.length*val ys
 |[],ys=>by simp[val]
 |x::xs,ys=>by
  simp only[List.cons_append,val,fa xs ys,List.length_cons,O4];rw[Nat.mul_add,O6 (BB^xs.length) BB,Nat.mul_assoc];omega
theorem kC:∀{xs:List Int},bO xs→val xs<BB^xs.length
 |[],_=>by simp[val]
 |x::xs,h=>by
  have h1:=kC h.tail;have h2:=h.head;simp only[val,List.length_cons,O4]
  have:BB*(val xs+1)≤BB*BB^xs.length:=O9 _ h1
  rw[O6 (BB^xs.length) BB];have h3:x.toNat<BB:=by unfold BB;omega
  rw[Nat.mul_add]at this;omega
theorem cO:∀(n:Nat),val (List.replicate n 0)=0
 |0=>rfl
 |n+1=>by simp[List.replicate_succ,val,cO n]
theorem dk:∀{xs:List Int},bO xs→∀i,xs.getD i 0=((val xs/BB^i%BB:Nat):Int)
 |[],_,i=>by simp[val]
 |x::xs,h,0=>by
  have h2:=h.head;have h3:x.toNat<BB:=by unfold BB;omega
  simp only[X0,val,Nat.pow_zero,Nat.div_one,Nat.add_mul_mod_self_left,O7 h3];omega
 |x::xs,h,i+1=>by
  have h2:=h.head;have h3:x.toNat<BB:=by unfold BB;omega
  simp only[X1,val];rw[dk h.tail i,O4,O6 (BB^i) BB,←Nat.div_div_eq_div_mul,Nat.add_mul_div_left _ _ (by decide:0<BB),Nat.div_eq_of_lt h3,Nat.zero_add]
theorem u5 {xs:List Int}(h:bO xs)(i:Nat):val (xs.take i)=val xs%BB^i:=by
 by_cases hi:i≤xs.length
 ·have e:=fa (xs.take i) (xs.drop i);rw[List.take_append_drop,X5,Nat.min_eq_left hi]at e;have hl:=kC (h.take i);rw[X5,Nat.min_eq_left hi]at hl;rw[e,Nat.add_mul_mod_self_left,O7 hl]
 rw[List.take_of_length_le (by omega),O7];exact Nat.lt_of_lt_of_le (kC h) (O3 (by decide) (by omega))
theorem ie {xs:List Int}(h:bO xs)(i:Nat):val (xs.drop i)=val xs/BB^i:=by
 by_cases hi:i≤xs.length
 ·have e:=fa (xs.take i) (xs.drop i);rw[List.take_append_drop,X5,Nat.min_eq_left hi]at e;have hl:=kC (h.take i);rw[X5,Nat.min_eq_left hi]at hl;rw[e,Nat.add_mul_div_left _ _ (Nat.pow_pos (by decide)),Nat.div_eq_of_lt hl,Nat.zero_add]
 rw[List.drop_of_length_le (by omega),Nat.div_eq_of_lt];rfl;exact Nat.lt_of_lt_of_le (kC h) (O3 (by decide) (by omega))
theorem dN:∀{xs:List Int} {i:Nat} {x:Int},i<xs.length→val (xs.set i x)+BB^i*(xs.getD i 0).toNat=val xs+BB^i*x.toNat
 |[],i,x,h=>by simp at h
 |y::ys,0,x,_=>by simp[val];omega
 |y::ys,i+1,x,h=>by
  have:=dN (xs:=ys) (i:=i) (x:=x) (by simpa using h)
  simp only[List.set_cons_succ,val,X1,O4];rw[O6 (BB^i) BB,Nat.mul_assoc,Nat.mul_assoc];have h2:BB*(val (ys.set i x)+BB^i*(ys.getD i 0).toNat)=BB*(val ys+BB^i*x.toNat):=by rw[this]
  rw[Nat.mul_add,Nat.mul_add]at h2;omega
theorem cC:∀{xs:List Int},bO xs→(xs=[]∨xs.getD (xs.length-1) 0≠0)→ak (val xs)=xs
 |[],_,_=>br
 |[x],h,hl=>by
  have h2:=h.head;have hx:x≠0:=by simpa using hl
  have h3:x.toNat<BB:=by unfold BB;omega
  simp only[val,Nat.mul_zero,Nat.add_zero];rw[jm (by omega),O7 h3,Nat.div_eq_of_lt h3,br]
  congr 1;omega
 |x::y::ys,h,hl=>by
  have h2:=h.head;have h3:x.toNat<BB:=by unfold BB;omega
  have ih:=cC h.tail (.inr (by
   rcases hl with hl|hl
   ·cases hl
   simpa using hl))
  have S6:0<val (y::ys):=by
   rcases Nat.eq_zero_or_pos (val (y::ys))with h0|h0
   ·rw[h0,br]at ih;cases ih
   exact h0
  have e:val (x::y::ys)=x.toNat+BB*val (y::ys):=rfl;have hp:0<val (x::y::ys):=by
   rw[e]
   have:0<BB*val (y::ys):=Nat.mul_pos (by decide) S6
   omega
  rw[jm hp,e,Nat.add_mul_mod_self_left,O7 h3,Nat.add_mul_div_left _ _ (by decide:0<BB),Nat.div_eq_of_lt h3,Nat.zero_add,ih]
  congr 1;omega
theorem qu {xs:List Int}(h:bO xs)(hl:xs.length=0∨BB^(xs.length-1)≤val xs):ak (val xs)=xs:=by
 refine cC h ?_
 rcases hl with hl|hl
 ·exact .inl (List.length_eq_zero_iff.1 hl)
 by_cases hn:xs=[]
 ·exact .inl hn
 refine .inr fun h0=>?_;have hp:0<xs.length:=List.length_pos_iff.2 hn;rw[dk h]at h0;have hv:=kC h;have h1:val xs/BB^(xs.length-1)<BB:=by
  rw[Nat.div_lt_iff_lt_mul (Nat.pow_pos (by decide)),O6,←O4,show (xs.length-1).succ=xs.length by omega];exact hv
 rw[O7 h1]at h0;have h2:1≤val xs/BB^(xs.length-1):=by
  rw[Nat.le_div_iff_mul_le (Nat.pow_pos (by decide))];omega
 omega
def nl (n:Nat):Nat:=(ak n).length
theorem eC (n:Nat):(ak n).length=nl n:=rfl
theorem uB (n:Nat):(ak n).take (nl n)=ak n:=List.take_length
theorem jf:nl 0=0:=by unfold nl;rw[br];rfl
theorem aE:∀{k n:Nat},n<BB^k→nl n≤k
 |0,n,h=>by
  have:n=0:=by simpa using h
  subst this;rw[jf];omega
 |k+1,n,h=>by
  by_cases h0:n=0
  ·subst h0;rw[jf];omega
  unfold nl;rw[jm (by omega)]
  have:nl (n/BB)≤k:=aE (by rw[Nat.div_lt_iff_lt_mul (by decide),←O4];exact h)
  unfold nl at this;simp only[List.length_cons];omega
theorem cG (n:Nat):n<BB^nl n:=by
 have:=kC (bO.ak n)
 rw[gE]at this;exact this
theorem cL {k n:Nat}:nl n≤k↔n<BB^k:=
 ⟨fun h=>Nat.lt_of_lt_of_le (cG n) (O3 (by decide) h),aE⟩
theorem bh {m n:Nat}(h:m≤n):nl m≤nl n:=aE (Nat.lt_of_le_of_lt h (cG n))
theorem eL {n:Nat}:0<nl n↔0<n:=by
 constructor
 ·intro h
  rcases Nat.eq_zero_or_pos n with h0|h0
  ·subst h0;rw[jf]at h;omega
  exact h0
 intro h
 rcases Nat.eq_zero_or_pos (nl n)with h0|h0
 ·have:=cG n
  rw[h0]at this;simp at this;omega
 exact h0
theorem fW {n:Nat}:nl n=0↔n=0:=by
 have:=eL (n:=n);omega
theorem uz {n:Nat}(h:0<n):BB^(nl n-1)≤n:=by
 rcases Nat.lt_or_ge n (BB^(nl n-1))with h1|h1
 ·have:=aE h1
  have:=eL.2 h
  omega
 exact h1
theorem jG (m n:Nat):nl (m*n)≤nl m+nl n:=by
 apply aE
 rw[Nat.pow_add];exact Nat.mul_lt_mul'' (cG m) (cG n)
theorem uc (m n:Nat):nl (m+n)≤max (nl m) (nl n)+1:=by
 apply aE
 rw[O4];have h1:m<BB^max (nl m) (nl n):=cL.1 (Nat.le_max_left _ _);have h2:n<BB^max (nl m) (nl n):=cL.1 (Nat.le_max_right _ _);have h3:BB^max (nl m) (nl n)*2≤BB^max (nl m) (nl n)*BB:=O9 _ (by decide);omega
open Go
theorem wI (i:Nat)(h:i+1<9223372036854775808):IntKind.i64.wrap ((i:Int)+1)=((i+1:Nat):Int):=by rw[Q4 _ (by omega)];omega
set_option linter.defProp false in
def vx:=Q3 vcs (Q3 Sg (Q3 RY (Q3 RR (Q3 Sx (Q3 @eC (Q3 @uB (Q3 @Nat.min_def (Q3 @IntKind.bits.eq_1 (Q3 @IntKind.bits.eq_2 (Q3 @IntKind.bits.eq_3 (Q3 @IntKind.bits.eq_4 (Q3 @IntKind.bits.eq_5 (Q3 @IntKind.bits.eq_6 (Q3 @IntKind.bits.eq_7 (@IntKind.bits.eq_8)))))))))))))))
set_option linter.defProp false in
def rx:=Q3 RY (Q3 RR (Q3 Se (Q3 @eC (@uB))))
set_option linter.defProp false in
def ry:=Q3 rx (Q3 @Y0.eq_1 (Q3 @Y0.eq_2 (Q3 @Y1.eq_def (Q3 @Y2.eq_def (Q3 @Y3.eq_1 (Q3 @Y3.eq_2 (Q3 @Y3.eq_3 (Q3 @Y4.eq_1 (Q3 @Y4.eq_2 (Q3 @Y5.eq_def (Q3 @Y6.eq_1 (Q3 @Y6.eq_2 (Q3 @Y7.eq_def (Q3 @sC.eq_1 (@sC.eq_2)))))))))))))))
set_option linter.defProp false in
def rz:=Q3 @Y8.eq_1 (Q3 @Y8.eq_2 (Q3 @Y9.eq_def (Q3 @X2 (Q3 @X3 (@X4)))))
set_option linter.defProp false in
def iz:=Q3 @iS.eq_1 (Q3 @iM.eq_def (Q3 @eO.eq_1 (Q3 @eO.eq_2 (@Option.get!.eq_1.{0}))))
end Go.Eng
namespace Go.Proofs.YtehahgjkjfoebaaGreat
open Go.Proofs.Tryz
open Go Go.Eng
theorem uQ {ys:List Int}(h:bO ys)(h0:0<ys.length)(hl:ys.getD (ys.length-1) 0=0):val (ys.take (ys.length-1))=val ys:=by
 have e:=fa (ys.take (ys.length-1)) (ys.drop (ys.length-1));rw[List.take_append_drop]at e;have h1:ys.drop (ys.length-1)=[0]:=by
  rw[X7,X8 (by omega)]at hl;rw[List.drop_eq_getElem_cons (by omega),List.drop_of_length_le (by omega)]
  simpa using hl
 rw[h1]at e
 simp[val]at e
 exact e.symm
theorem du (xs:List Int)(hr:bO xs)(hx:xs.length<2^62):Pr prog 204 [.one (.ints .u32 xs)] (.one (.ints .u32 (ak (val xs)))):=by
 refine pw func204 ⟨[0,2,14],[]⟩ ?_;simp only[Tryz.f204,ntmps204,iz,seval];simp only[vx,T,seval];refine Lk (fun ys:{l:List Int//l.length<2^62∧bO l∧val l=val xs}=>⟨[(0,.one (.ints .u32 ys))],[],3,21⟩) (fun ys=>ys.1.length) ⟨xs,hx,hr,rfl⟩ ?_ (fun⟨ys,hy,XR,Vw⟩=>?_)
 ·refine Sa ?_;simp only[ry,seval,rz]
 simp only[vx,T,seval];refine⟨fun h=>Lg ?_,fun h=>Lg ?_⟩
 ·simp only[vx,T,seval];rw[Q4 _ (by omega)];refine⟨by omega,?_⟩;refine⟨fun h=>Lg ?_,fun h=>Lg ?_⟩
  ·simp only[vx,T,seval];rw[Q4 _ (by omega)];refine⟨by omega,Lq ⟨ys.take (ys.length-1),by simp;omega,XR.take _,?_⟩ ?_ ?_⟩
   ·rw[uQ XR (by omega) (by rw[show ys.length-1=((ys.length:Int)-1).toNat by omega];exact h),Vw]
   ·refine Sa ?_;simp only[ry,seval,rz];rw[show ((ys.length:Int)-1).toNat=ys.length-1 by omega]
   simp;omega
  simp only[vx,T,seval];refine Ve ?_;rw[←Vw,cC XR (.inr (by rw[show ys.length-1=((ys.length:Int)-1).toNat by omega];exact h))]
 simp only[vx,T,seval];refine Ve ?_;rw[←Vw,cC XR (.inl (List.length_eq_zero_iff.1 (by omega)))]
theorem bL (xs:List Int)(hr:bO xs)(hx:xs.length<2^62):Pr prog 151 [.one (.ints .u32 xs)] (.one (.ints .u32 (ak (val xs)))):=by
 refine pw func151 ⟨[0,2,14],[]⟩ ?_;simp only[Tryz.f151,ntmps151,iz,seval];simp only[vx,T,seval];refine Lk (fun ys:{l:List Int//l.length<2^62∧bO l∧val l=val xs}=>⟨[(0,.one (.ints .u32 ys))],[],3,21⟩) (fun ys=>ys.1.length) ⟨xs,hx,hr,rfl⟩ ?_ (fun⟨ys,hy,XR,Vw⟩=>?_)
 ·refine Sa ?_;simp only[ry,seval,rz]
 simp only[vx,T,seval];refine⟨fun h=>Lg ?_,fun h=>Lg ?_⟩
 ·simp only[vx,T,seval];rw[Q4 _ (by omega)];refine⟨by omega,?_⟩;refine⟨fun h=>Lg ?_,fun h=>Lg ?_⟩
  ·simp only[vx,T,seval];rw[Q4 _ (by omega)];refine⟨by omega,Lq ⟨ys.take (ys.length-1),by simp;omega,XR.take _,?_⟩ ?_ ?_⟩
   ·rw[uQ XR (by omega) (by rw[show ys.length-1=((ys.length:Int)-1).toNat by omega];exact h),Vw]
   ·refine Sa ?_;simp only[ry,seval,rz];rw[show ((ys.length:Int)-1).toNat=ys.length-1 by omega]
   simp;omega
  simp only[vx,T,seval];refine Ve ?_;rw[←Vw,cC XR (.inr (by rw[show ys.length-1=((ys.length:Int)-1).toNat by omega];exact h))]
 simp only[vx,T,seval];refine Ve ?_;rw[←Vw,cC XR (.inl (List.length_eq_zero_iff.1 (by omega)))]
theorem xw (n:Nat):bO [IntKind.u32.wrap n,IntKind.u32.wrap ((n:Int).fdiv 4294967296)]:=by
 refine bO.cons ?_ (bO.one ?_)<;>(rw[IntKind.wrap_u32];omega)
theorem xt {n:Nat}(hn:n<2^64):val [IntKind.u32.wrap n,IntKind.u32.wrap ((n:Int).fdiv 4294967296)]=n:=by
 simp only[val,IntKind.wrap_u32,BB];rw[Int.fdiv_eq_ediv_of_nonneg _ (by decide)];have h1:((n:Int)%4294967296).toNat=n%4294967296:=by omega
 have h2:((n:Int)/4294967296%4294967296).toNat=n/4294967296:=by omega
 rw[h1,h2];omega
theorem dr (n:Nat)(hn:n<2^64):Pr prog 216 [.one (.int .u64 n)] (.one (.ints .u32 (ak n))):=by
 refine pw func216 ⟨[0,2],[]⟩ ?_;simp only[Tryz.f216,ntmps216,iz,seval];simp only[vx,T,seval];refine Cg (du _ (xw n) (by simp)) ?_;rw[xt hn];simp only[vx,T,seval];refine Va ?_;simp only[cY,a5,ry,seval]
theorem ik (n:Nat)(hn:n<2^64):Pr prog 106 [.one (.int .u64 n)] (.one (.ints .u32 (ak n))):=by
 refine pw func106 ⟨[0,2],[]⟩ ?_;simp only[Tryz.f106,ntmps106,iz,seval];simp only[vx,T,seval];refine Cg (bL _ (xw n) (by simp)) ?_;rw[xt hn];simp only[vx,T,seval];refine Va ?_;simp only[cY,a5,ry,seval]
theorem jL {n:Nat}(h:(nl n:Int)=0):n=0:=fW.1 (by omega)
theorem vq {n:Nat}(h:¬(nl n:Int)=0):0<n:=eL.1 (by omega)
theorem yE (b:Bool)(xs:List Int)(hr:bO xs)(hx:xs.length<2^62):Pr prog 205 [.one (.bool b),.one (.ints .u32 xs)] (.agg [.bool (b&&decide (0<val xs)),.ints .u32 (ak (val xs))]):=by
 refine pw func205 ⟨[0,1,4,9],[]⟩ ?_;simp only[Tryz.f205,ntmps205,iz,seval];simp only[vx,T,seval];refine Cg (du xs hr hx) ?_;simp only[vx,T,seval];refine⟨fun h=>Lg ?_,fun h=>Lg ?_⟩
 ·simp only[vx,T,seval];have h0:=jL h;refine Va ?_;simp only[cY,a5,ry,seval,h0,br,Nat.lt_irrefl]
 simp only[vx,T,seval];have h0:=vq h;refine Va ?_;simp only[cY,a5,ry,seval,h0]
theorem qq (b:Bool)(xs:List Int)(hr:bO xs)(hx:xs.length<2^62):Pr prog 105 [.one (.bool b),.one (.ints .u32 xs)] (.agg [.bool (b&&decide (0<val xs)),.ints .u32 (ak (val xs))]):=by
 refine pw func105 ⟨[0,1,4],[]⟩ ?_;simp only[Tryz.f105,ntmps105,iz,seval];simp only[vx,T,seval];refine Cg (bL xs hr hx) ?_;simp only[vx,T,seval];refine⟨fun h0=>Lg ?_,fun h0=>Lg ?_⟩
 ·subst h0;simp only[vx,T,seval]
  by_cases h:0<val xs
  ·have h1:=eL.2 h;refine Va ?_;simp only[cY,a5,ry,seval,h,decide_true,Bool.true_and,Int.natCast_pos,h1]
  have h1:val xs=0:=by omega
  refine Va ?_;simp only[cY,a5,ry,seval,h1,br,jf,Nat.lt_irrefl,X4,Int.lt_irrefl]
 subst h0;simp only[vx,T,seval];refine Va ?_;simp only[cY,a5,ry,seval]
open Go Go.Eng
def fe (x y:Int):Int:=if x<y then-1 else if y<x then 1 else 0
theorem gQ {x y:Int}(h:x<y):fe x y= -1:=if_pos h
theorem iW {x y:Int}(h:y<x):fe x y=1:=by unfold fe;rw[if_neg (by omega),if_pos h]
theorem pO {x y:Int}(h:x=y):fe x y=0:=by unfold fe;rw[if_neg (by omega),if_neg (by omega)]
theorem lG (n i:Nat):(ak n).getD i 0=((n/BB^i%BB:Nat):Int):=by
 rw[dk (bO.ak n),gE]
theorem pC {m n i:Nat}(h:m/BB^(i+1)=n/BB^(i+1))(hd:m/BB^i%BB<n/BB^i%BB):m<n:=by
 have e:∀x:Nat,x/BB^(i+1)=x/BB^i/BB:=fun x=>by rw[O4,Nat.div_div_eq_div_mul]
 rw[e,e]at h;have h1:=Nat.div_add_mod (m/BB^i) BB;have h2:=Nat.div_add_mod (n/BB^i) BB;rw[h]at h1
 rcases Nat.lt_or_ge m n with h3|h3
 ·exact h3
 have:=Nat.div_le_div_right (c:=BB^i) h3
 omega
theorem zh {m n i:Nat}(h:m/BB^(i+1)=n/BB^(i+1))(hd:m/BB^i%BB=n/BB^i%BB):m/BB^i=n/BB^i:=by
 have e:∀x:Nat,x/BB^(i+1)=x/BB^i/BB:=fun x=>by rw[O4,Nat.div_div_eq_div_mul]
 rw[e,e]at h;have h1:=Nat.div_add_mod (m/BB^i) BB;have h2:=Nat.div_add_mod (n/BB^i) BB;rw[h,hd]at h1;omega
theorem lA {m k:Nat}(h:nl m≤k):m/BB^k=0:=Nat.div_eq_of_lt (cL.1 h)
theorem nq (x:Int):Pr prog 227 [.one (.int .i64 x)] (.one (.bool false)):=by
 refine pw func227 ⟨[0,2],[]⟩ ?_;simp only[Tryz.f227,ntmps227,iz,seval];simp only[vx,T,seval];refine Va ?_;simp only[cY,a5,ry,seval,not_true_eq_false,decide_false]
theorem kZ (x y:Int):Pr prog 202 [.one (.int .i64 x),.one (.int .i64 y)] (.one (.int .i64 (fe x y))):=by
 refine pw func202 ⟨[0,1,4,5,6,11,12,13,16,19],[]⟩ ?_;simp only[Tryz.f202,ntmps202,iz,seval];simp only[vx,T,seval];refine Cg (nq _) ?_;simp only[vx,T,seval];refine Cg (nq _) ?_;simp only[vx,T,seval];refine⟨fun h=>Lg ?_,fun h=>Lg ?_⟩
 ·simp only[vx,T,seval];refine Va ?_;simp only[cY,a5,ry,seval,gQ h]
 simp only[vx,T,seval];refine⟨fun h'=>Lg ?_,fun h'=>Lg ?_⟩
 ·simp only[vx,T,seval];refine Va ?_;simp only[cY,a5,ry,seval,iW h']
 simp only[vx,T,seval];refine Va ?_;simp only[cY,a5,ry,seval,pO (show x=y by omega)]
theorem mB (x:Int):Pr prog 243 [.one (.int .u32 x)] (.one (.bool false)):=by
 refine pw func243 ⟨[0,2],[]⟩ ?_;simp only[Tryz.f243,ntmps243,iz,seval];simp only[vx,T,seval];refine Va ?_;simp only[cY,a5,ry,seval,not_true_eq_false,decide_false]
theorem rG (x y:Int):Pr prog 228 [.one (.int .u32 x),.one (.int .u32 y)] (.one (.int .i64 (fe x y))):=by
 refine pw func228 ⟨[0,1,4,5,6,11,12,13,16,19],[]⟩ ?_;simp only[Tryz.f228,ntmps228,iz,seval];simp only[vx,T,seval];refine Cg (mB _) ?_;simp only[vx,T,seval];refine Cg (mB _) ?_;simp only[vx,T,seval];refine⟨fun h=>Lg ?_,fun h=>Lg ?_⟩
 ·simp only[vx,T,seval];refine Va ?_;simp only[cY,a5,ry,seval,gQ h]
 simp only[vx,T,seval];refine⟨fun h'=>Lg ?_,fun h'=>Lg ?_⟩
 ·simp only[vx,T,seval];refine Va ?_;simp only[cY,a5,ry,seval,iW h']
 simp only[vx,T,seval];refine Va ?_;simp only[cY,a5,ry,seval,pO (show x=y by omega)]
theorem Ee {m n:Nat}(h:¬(nl m:Int)=nl n):fe (nl m) (nl n)=fe m n:=by
 rcases Nat.lt_trichotomy m n with h1|h1|h1
 ·have:=bh (Nat.le_of_lt h1)
  rw[gQ (by omega),gQ (by omega)]
 ·subst h1;exact absurd rfl h
 have:=bh (Nat.le_of_lt h1)
 rw[iW (by omega),iW (by omega)]
theorem gV (m n:Nat)(hm:nl m<2^62)(hn:nl n<2^62):Pr prog 203 [.one (.ints .u32 (ak m)),.one (.ints .u32 (ak n))] (.one (.int .i64 (fe m n))):=by
 refine pw func203 ⟨[0,1,4,5,10,20,31],[]⟩ ?_;simp only[Tryz.f203,ntmps203,iz,seval];simp only[vx,T,seval];refine⟨fun h=>Lg ?_,fun h=>Lg ?_⟩
 ·simp only[vx,T,seval];refine Cg (kZ _ _) ?_;simp only[vx,T,seval];refine Va ?_;simp only[cY,a5,ry,seval,Ee h]
 simp only[vx,T,seval];rw[Q4 _ (by omega)];refine Lk (fun i:{i:Nat//i≤nl m∧m/BB^i=n/BB^i}=>⟨[(0,.one (.ints .u32 (ak m))),(1,.one (.ints .u32 (ak n))),(5,.one (.int .i64 ((i.1:Int)-1)))],[],3,41⟩) (fun i=>i.1) ⟨nl m,O1 _,by rw[lA (O1 _),lA (by omega)]⟩ ?_ (fun⟨i,hi,hd⟩=>?_)
 ·refine Sa ?_;simp only[ry,seval,rz]
 simp only[vx,T,seval];refine⟨fun Xu=>Lg ?_,fun Xu=>Lg ?_⟩
 ·obtain⟨j,rfl⟩:∃j,i=j+1:=⟨i-1,by omega⟩;simp only[show ((j+1:Nat):Int)-1=(j:Int) by omega,Q1]at Xu⊢;simp only[vx,T,seval];refine⟨by omega,by omega,?_⟩;refine⟨fun VV=>Lg ?_,fun VV=>Lg ?_⟩
  ·simp only[vx,T,seval];refine⟨by omega,by omega,Cg (rG _ _) ?_⟩;simp only[vx,T,seval];simp only[lG]at VV⊢;refine Ve ?_
   rcases Nat.lt_or_ge (m/BB^j%BB) (n/BB^j%BB)with h1|h1
   ·rw[gQ (by omega),gQ (by have:=pC hd h1;omega)]
   rw[iW (by omega),iW (by have:=pC (m:=n) (n:=m) hd.symm (by omega);omega)]
  simp only[vx,T,seval];simp only[lG]at VV;rw[Q4 _ (by omega)];refine Lq ⟨j,by omega,zh hd (by omega)⟩ ?_ ?_
  ·refine Sa ?_;simp only[ry,seval,rz]
  simp
 have h0:i=0:=by omega
 subst h0;simp only[vx,T,seval];have h0:m=n:=by simpa using hd
 refine Va ?_;simp only[cY,a5,ry,seval,pO (show(m:Int)=n by omega)]
theorem fN (m n:Nat)(hm:nl m<2^62)(hn:nl n<2^62):Pr prog 190 [.one (.ints .u32 (ak m)),.one (.ints .u32 (ak n))] (.one (.int .i64 (fe m n))):=by
 refine pw func190 ⟨[0,1,4,5,10,15,20,31,40],[]⟩ ?_;simp only[Tryz.f190,ntmps190,iz,seval];simp only[vx,T,seval];refine⟨fun h=>Lg ?_,fun h=>Lg ?_⟩
 ·simp only[vx,T,seval];rw[←Ee h];refine⟨fun h1=>Lg ?_,fun h1=>Lg ?_⟩
  ·simp only[vx,T,seval];refine Va ?_;simp only[cY,a5,ry,seval,gQ h1]
  simp only[vx,T,seval];refine Va ?_;simp only[cY,a5,ry,seval,iW (show(nl n:Int)<nl m by omega)]
 simp only[vx,T,seval];rw[Q4 _ (by omega)];refine Lk (fun i:{i:Nat//i≤nl m∧m/BB^i=n/BB^i}=>⟨[(0,.one (.ints .u32 (ak m))),(1,.one (.ints .u32 (ak n))),(5,.one (.int .i64 ((i.1:Int)-1)))],[],3,41⟩) (fun i=>i.1) ⟨nl m,O1 _,by rw[lA (O1 _),lA (by omega)]⟩ ?_ (fun⟨i,hi,hd⟩=>?_)
 ·refine Sa ?_;simp only[ry,seval,rz]
 simp only[vx,T,seval];refine⟨fun Xu=>Lg ?_,fun Xu=>Lg ?_⟩
 ·obtain⟨j,rfl⟩:∃j,i=j+1:=⟨i-1,by omega⟩;simp only[show ((j+1:Nat):Int)-1=(j:Int) by omega,Q1]at Xu⊢;simp only[vx,T,seval];refine⟨by omega,by omega,?_⟩;refine⟨fun VV=>Lg ?_,fun VV=>Lg ?_⟩
  ·simp only[vx,T,seval];simp only[lG]at VV;have SI:(m:Int)<n:=by have:=pC hd (show m/BB^j%BB<n/BB^j%BB by omega);omega
   refine Va ?_;simp only[cY,a5,ry,seval,gQ SI]
  simp only[vx,T,seval];refine⟨by omega,by omega,?_⟩;refine⟨fun W9=>Lg ?_,fun W9=>Lg ?_⟩
  ·simp only[vx,T,seval];simp only[lG]at W9;have SI:(n:Int)<m:=by have:=pC (m:=n) (n:=m) hd.symm (show n/BB^j%BB<m/BB^j%BB by omega);omega
   refine Va ?_;simp only[cY,a5,ry,seval,iW SI]
  simp only[vx,T,seval];simp only[lG]at VV W9;rw[Q4 _ (by omega)];refine Lq ⟨j,by omega,zh hd (by omega)⟩ ?_ ?_
  ·refine Sa ?_;simp only[ry,seval,rz]
  simp
 have h0:i=0:=by omega
 subst h0;simp only[vx,T,seval];have h0:m=n:=by simpa using hd
 refine Va ?_;simp only[cY,a5,ry,seval,pO (show(m:Int)=n by omega)]
open Go Go.Eng
theorem BC {P v c A B' s x y:Nat}(h:v+P*c=A+B')(hs:s=c+x+y):(v+P*(s%BB))+(P*BB)*(s/BB)=(A+P*x)+(B'+P*y):=by
 have h1:P*s=P*(BB*(s/BB))+P*(s%BB):=by rw[←Nat.mul_add,Nat.div_add_mod]
 have h2:(P*BB)*(s/BB)=P*(BB*(s/BB)):=Nat.mul_assoc _ _ _;have h3:P*s=P*c+P*x+P*y:=by rw[hs,Nat.mul_add,Nat.mul_add]
 omega
theorem fg (x i:Nat):x%BB^(i+1)=x%BB^i+BB^i*(x/BB^i%BB):=Nat.mod_pow_succ
theorem gS {x k:Nat}(h:nl x≤k):x%BB^k=x:=O7 (cL.1 h)
theorem jn {x k:Nat}(h:nl x≤k):x/BB^k%BB=0:=by rw[lA h];rfl
theorem aD (s:Nat):IntKind.u32.wrap (s:Int)=((s%BB:Nat):Int):=by
 rw[IntKind.wrap_u32,Int.natCast_emod];rfl
theorem aK (s:Nat):(s:Int).fdiv 4294967296=((s/BB:Nat):Int):=by
 rw[Int.fdiv_eq_ediv_of_nonneg _ (by decide),Int.natCast_ediv];rfl
theorem bd (s:Nat):s%BB<4294967296:=Nat.mod_lt _ (by decide)
theorem bO.digit (s:Nat):bO [((s%BB:Nat):Int)]:=bO.one ⟨by omega,by have:=bd s;omega⟩
theorem val_one (x:Nat):val [(x:Int)]=x:=by simp[val]
structure da (a b i:Nat) (os:List Int) (c:Nat):Prop where
 le:i≤nl a
 inr:bO (os.take i)
 len:i≤os.length
 eq:val (os.take i)+BB^i*c=a%BB^i+b%BB^i
 c:c≤1
theorem da.step {a b i:Nat}{os:List Int}{c s:Nat}(h:da a b i os c)(hi:i<nl a)(hs:s=c+a/BB^i%BB+b/BB^i%BB):da a b (i+1) (os.take i++[((s%BB:Nat):Int)]) (s/BB):=by
 have hlen:(os.take i).length=i:=by have:=h.len;simp;omega
 have ht:(os.take i++[((s%BB:Nat):Int)]).take (i+1)=os.take i++[((s%BB:Nat):Int)]:=List.take_of_length_le (by rw[X6,hlen];simp);refine⟨hi,?_,?_,?_,?_⟩
 ·rw[ht];exact h.inr.append (bO.digit s)
 ·rw[X6,hlen];simp
 ·rw[ht,fa,hlen,val_one,fg a,fg b,O4];exact BC h.eq hs
 have h1:=bd (a/BB^i);have h2:=bd (b/BB^i);have h3:=h.c
 have:s/BB<2:=by rw[Nat.div_lt_iff_lt_mul (by decide)];unfold BB at*;omega
 omega
theorem da.sum {a b:Nat}{os:List Int}{c:Nat}(hb:nl b≤nl a)(h:da a b (nl a) os c):val (os.take (nl a))+BB^nl a*c=a+b:=by
 have:=h.eq
 rw[gS (O1 _),gS hb]at this;exact this
theorem da.Qj {a b:Nat}{os:List Int}(hb:nl b≤nl a)(h:da a b (nl a) os 0):os.take (nl a)=ak (a+b):=by
 have hs:=h.sum hb;have hlen:(os.take (nl a)).length=nl a:=by have:=h.len;simp;omega
 simp only[Nat.mul_zero,Nat.add_zero]at hs;rw[←hs]
 refine(qu h.inr ?_).symm
 rw[hlen,hs]
 rcases Nat.eq_zero_or_pos a with h0|h0
 ·left;subst h0;exact jf
 right;have:=uz h0;omega
theorem da.Qz {a b:Nat}{os:List Int}{c:Nat}(hb:nl b≤nl a)(h:da a b (nl a) os c)(hc:0<c):os.take (nl a)++[((c%BB:Nat):Int)]=ak (a+b):=by
 have hs:=h.sum hb;have hlen:(os.take (nl a)).length=nl a:=by have:=h.len;simp;omega
 have h1:c=1:=by have:=h.c;omega
 subst h1;have e:val (os.take (nl a)++[((1%BB:Nat):Int)])=a+b:=by rw[fa,val_one,hlen];exact hs
 rw[←e]
 refine(qu (h.inr.append (bO.digit 1)) (.inr ?_)).symm
 rw[e,X6,hlen,←hs]
 simp
theorem wH (swap:Bool)(a b:Nat)(UD:nl b≤nl a)(W1:swap=true→nl b<nl a)(ha:nl a<2^44):Pr prog 250 [.one (.ints .u32 (ak (if swap then b else a))),.one (.ints .u32 (ak (if swap then a else b)))] (.one (.ints .u32 (ak (a+b)))):=by
 refine pw func250 ⟨[0,1,4,5,6,7,8,13,20,21,22,23,34,51],[]⟩ ?_;simp only[Tryz.f250,ntmps250,iz,seval]
 cases swap
 case' false=>have SI:((nl a:Int)<nl b)=False:=by simp;omega
 case' true=>have SI:((nl b:Int)<nl a)=True:=by have:=W1 rfl;simp;omega
 all_goals
  simp only[vx,T,seval,SI];rw[Q4 _ (by omega)];refine⟨⟨by omega,by omega,by omega⟩,Lk (fun i:{i:Nat×List Int×Nat//da a b i.1 i.2.1 i.2.2}=>⟨[(0,.one (.ints .u32 (ak a))),(1,.one (.ints .u32 (ak b))),(5,.one (.own 1 1 0 i.1.1)),(6,.one (.int .u64 i.1.2.2)),(20,.one (.ints .u32 (ak a))),(21,.one (.int .i64 (nl a))),(22,.one (.int .i64 i.1.1))],[(1,⟨.ints 161 .u32 i.1.2.1,true⟩)],3,58⟩) (fun i=>nl a-i.1.1) ⟨(0,List.replicate ((nl a:Int)+1).toNat 0,0),O2 _,bO.nil,O2 _,by simp[val,Nat.mod_one],O2 _⟩ ?_ (fun⟨⟨i,os,c⟩,hi⟩=>?_)⟩
  ·refine Sa ?_;simp only[ry,seval,rz]
  have h1:=hi.le;have h2:=hi.len;have h3:=hi.c;simp only at h1 h2 h3;simp only[vx,T,seval];refine⟨fun h=>Lg ?_,fun h=>Lg ?_⟩
  ·simp only[vx,T,seval];refine⟨⟨by omega,by omega⟩,?_⟩;have hlen:(os.take i).length=i:=by simp;omega
   have hx:=bd (a/BB^i);have hy:=bd (b/BB^i)
   simp(disch:=omega) only[lG,←X2,←Q2,Q1,Q4,Q5,aD,aK,true_and,and_true]
   refine⟨fun h'=>Lg ?_,fun h'=>Lg ?_⟩
   ·simp only[vx,T,seval];refine⟨⟨by omega,by omega⟩,?_⟩
    simp(disch:=omega) only[lG,←X2,←Q2,Q1,Q4,Q5,aD,aK,true_and,and_true,hlen,X6]
    refine⟨by omega,Lq ⟨(i+1,_,_),hi.step (by omega) rfl⟩ ?_ ?_⟩
    ·refine Sa ?_;simp only[ry,seval,rz,hlen,X6]
    simp only;omega
   simp only[vx,T,seval];have XS:=jn (x:=b) (k:=i) (by omega)
   simp(disch:=omega) only[lG,←X2,←Q2,Q1,Q4,Q5,aD,aK,true_and,and_true,hlen,X6]
   refine⟨by omega,Lq ⟨(i+1,_,_),hi.step (s:=c+a/BB^i%BB) (by omega) (by rw[XS];rfl)⟩ ?_ ?_⟩
   ·refine Sa ?_;simp only[ry,seval,rz,hlen,X6]
   simp only;omega
  simp only[vx,T,seval];have Uq:i=nl a:=by omega
  subst Uq;refine⟨fun h'=>Lg ?_,fun h'=>Lg ?_⟩
  ·simp only[vx,T,seval];simp only[aD];refine⟨by simp;omega,?_⟩;have Wv:=hi.Qz UD (by simp only;omega);refine Va ?_;simp only[cY,a5,ry,seval,Wv]
  simp only[vx,T,seval];have T6:c=0:=by omega
  subst T6;have hd0:=hi.Qj UD;refine Va ?_;simp only[cY,a5,ry,seval,hd0]
end Go.Proofs.YtehahgjkjfoebaaGreat
