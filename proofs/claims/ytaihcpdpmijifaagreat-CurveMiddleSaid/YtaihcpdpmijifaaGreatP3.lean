/-
  CurveMiddle: for every input the law returns true, and each argument reads afterwards as it read before. No condition.
  (Text 3 of 11; made by a program out of smaller texts.)
-/
import Derived.Test.YtaihcpdpmijifaaGreatP2
set_option linter.unusedSimpArgs false
set_option linter.unusedVariables false
set_option maxHeartbeats 16000000
set_option maxRecDepth 10000
open Nat renaming reduceAdd→J1,reduceMul→J2,reduceSub→J3,reduceEqDiff→J4,reduceLT→J5,reduceLeDiff→J6,reduceBEq→J7,reduceDiv→J8,reduceMod→J9,reducePow→J0
open Int renaming reduceToNat→K1,reduceLE→K2,reduceLT→K3,reduceEq→K4,reducePow→K5,reduceSub→K6,reduceNeg→K7,natCast_add→X2,natCast_one→X3,natCast_zero→X4
open List renaming getD_cons_zero→X0,getD_cons_succ→X1,length_take→X5,length_append→X6,getD_eq_getElem?_getD→X7,getElem?_eq_getElem→X8
open Nat renaming le_refl→O1,zero_le→O2,not_lt_zero→O5,mul_le_mul_right→O8
open Int renaming toNat_natCast→Q1
open And renaming intro→Q3
open Option.some renaming injEq→Q6
open Go.Result renaming andThen_ok→Q7
namespace Go.Eng
open Go
inductive WL where
 |nil
 |cons (i:Nat) (pd:List Nat) (sub alt:WL)
 /-- a new variable (operation 'q', slot 'd') that may be made before those that write, or behind the first of them -/
 |opt (q d:Nat) (t1 t2:WL)
def wHas:WL→Nat→Bool
 |.nil,_=>false
 |.cons i _ sub _,j=>if j=i then true else wHas sub j
 |.opt _ _ _ _,_=>false
def isR (ws:WL)(i:Nat):Bool:=!wHas ws i
def wNext:WL→Nat→Bool
 |.nil,_=>false
 |.cons i _ _ alt,j=>if j=i then true else wNext alt j
 |.opt _ _ _ _,_=>false
def isAlloc:Op→Bool
 |.alloc _=>true
 |_=>false
def notSel:Op→Bool
 |.select _ _=>false
 |_=>true
def gOkR (ops:Array Oper)(ws:WL)(i:Nat)(o:Oper):Bool:=
 ((tmpsOf o).all fun t=>(List.range ops.size).all fun j=>dstOf ops j !=some t||(if isR ws j then decide (j<i)&&(preds ops i).contains j else closes ops ops.size j i))&&
 (
  match o.guard with
  |none=>true
  |some (g,_)=>decide (g<i)&&(preds ops i).contains g&&isR ws g)
def closesAny (ops:Array Oper)(l:List Nat)(j:Nat):Bool:=l.any fun i=>closes ops ops.size i j
def covers (ops:Array Oper)(ws:WL)(pre:List Nat)(t:WL):Bool:=
 (List.range ops.size).all fun i=>!wHas ws i||pre.contains i||wNext t i||(List.range ops.size).any fun j=>wHas ws j&&!pre.contains j&&closes ops ops.size i j
def gOkG (ops:Array Oper)(pd:List Nat)(o:Oper):Bool:=match o.guard with
 |none=>true
 |some (g,_)=>pd.all fun j=>dstOf ops j !=dstOf ops g
def gOkW (
     ops:Array Oper) (ws:WL) (ex:Option Nat):List Nat→WL→Bool
 |_,.nil=>true
 |_,.opt _ _ _ _=>false
 |pre,.cons i pd sub alt=>(match ops[i]? with
   |none=>false
   |some o=>gOkG ops pd o&&notSel o.op&&!pre.contains i&&wHas ws i&&
     ((List.range ops.size).all fun j=>!isR ws j||pd.contains j||ex==some j||closesAny ops (i::pre) j)&&
     (pd.all fun j=>isR ws j&&(match ops[j]? with
      |none=>false
      |some oj=>isLate oj.op&&(match oj.dst with
       |none=>false
       |some d=>!(tmpsOf o).contains d))))&&
  covers ops ws (i::pre) sub&&gOkW ops ws ex (i::pre) sub&&gOkW ops ws ex pre alt
def coversX (ops:Array Oper)(ws:WL)(q:Nat)(t:WL):Bool:=
 (List.range ops.size).all fun i=>!wHas ws i||i==q||wNext t i||(List.range ops.size).any fun j=>wHas ws j&&closes ops ops.size i j
def gOkB (ops:Array Oper)(ws:WL):Bool:=
 (List.range ops.size).all fun i=>match ops[i]? with
  |none=>false
  |some o=>((preds ops i).all fun p=>decide (p<i))&&((List.range ops.size).all fun j=>j==i||(dstOf ops j).isNone||dstOf ops j !=dstOf ops i)&&(!isR ws i||gOkR ops ws i o)
def gOk (ops:Array Oper):WL→Bool
 |.opt q d t1 t2=>gOkB ops t1&&covers ops t1 [] t1&&gOkW ops t1 (some q) [] t1&&gOkB ops t2&&coversX ops t2 q t2&&gOkW ops t2 none [] t2&&
   decide (q<ops.size)&&isR t1 q&&(dstOf ops q==some d)&&((List.range ops.size).all fun j=>wHas t2 j==(wHas t1 j||j==q))&&
   ((List.range ops.size).all fun j=>!isR t2 j||match ops[j]? with|none=>true|some o=>!(tmpsOf o).contains d)&&(match ops[q]? with|none=>false|some o=>o.guard.isNone&&isAlloc o.op)
 |ws=>gOkB ops ws&&covers ops ws [] ws&&gOkW ops ws none [] ws
structure WOk (ops:Array Oper) (ws:WL) (ex:Option Nat) (pre:List Nat) (i:Nat) (pd:List Nat) (sub:WL):Prop where
 op:∃o,ops[i]? =some o∧gOkG ops pd o=true∧notSel o.op=true∧∀j∈pd,∃oj d,isR ws j=true∧ops[j]? =some oj∧isLate oj.op=true∧oj.dst=some d∧d∉tmpsOf o
 all:∀j,j<ops.size→isR ws j=true→j∈pd∨ex=some j∨∃k∈i::pre,closes ops ops.size k j=true
 cov:covers ops ws (i::pre) sub=true
 sub:gOkW ops ws ex (i::pre) sub=true
structure GOk (ops:Array Oper) (ws:WL):Prop where
 pred:∀i o,ops[i]? =some o→∀p∈preds ops i,p<i
 dst:∀j k t,j<ops.size→k<ops.size→j≠k→dstOf ops j=some t→dstOf ops k=some t→False
 data:∀i o,ops[i]? =some o→isR ws i=true→∀t,t∈tmpsOf o→∀j,j<ops.size→dstOf ops j=some t→(isR ws j=true→j<i∧j∈preds ops i)∧(isR ws j=false→closes ops ops.size j i=true)
 guard:∀i o g want,ops[i]? =some o→isR ws i=true→o.guard=some (g,want)→g<i∧g∈preds ops i∧isR ws g=true
theorem gOkW_cons {ops:Array Oper}{ws:WL}{ex:Option Nat}{pre:List Nat}{i:Nat}{pd:List Nat}{sub alt:WL}(h:gOkW ops ws ex pre (.cons i pd sub alt)=true):WOk ops ws ex pre i pd sub∧gOkW ops ws ex pre alt=true:=by
 simp only[gOkW,Bool.and_eq_true]at h;obtain⟨⟨⟨h1,hc⟩,hs⟩,h2⟩:=h;refine⟨?_,h2⟩
 cases ho:ops[i]? with
 |none=>rw[ho]at h1;cases h1
 |some o=>
  rw[ho]at h1;simp only[Bool.and_eq_true,List.all_eq_true,Bool.not_eq_true']at h1;obtain⟨⟨⟨⟨⟨g1,g2⟩,_⟩,_⟩,g5⟩,g6⟩:=h1;refine⟨⟨o,ho,g1,g2,fun j hj=>?_⟩,fun j hj hr=>?_,hc,hs⟩
  ·have h3:=g6 j hj;obtain⟨k1,k2⟩:=h3
   cases hoj:ops[j]? with
   |none=>rw[hoj]at k2;cases k2
   |some oj=>
    rw[hoj]at k2;simp only[Bool.and_eq_true]at k2;obtain⟨k3,k5⟩:=k2
    cases hd:oj.dst with
    |none=>rw[hd]at k5;cases k5
    |some d=>
     rw[hd]at k5;exact⟨oj,d,k1,rfl,k3,hd,by simpa using k5⟩
  have h3:=g5 j (by simpa using hj);rw[hr]at h3;have h4:(pd.contains j=true∨ex=some j)∨closesAny ops (i::pre) j=true:=by simpa using h3
  rcases h4 with(h4|h4)|h4
  ·exact .inl (by simpa using h4)
  ·exact .inr (.inl h4)
  refine .inr (.inr ?_);unfold closesAny at h4;obtain⟨k,hk,hc⟩:=List.any_eq_true.1 h4;exact⟨k,hk,hc⟩
theorem covers_spec {ops:Array Oper}{ws:WL}{pre:List Nat}{t:WL}(h:covers ops ws pre t=true){i:Nat}(hi:i<ops.size)(hw:wHas ws i=true):i∈pre∨wNext t i=true∨∃j,j<ops.size∧wHas ws j=true∧j∉pre∧closes ops ops.size i j=true:=by
 unfold covers at h;have h1:=List.all_eq_true.1 h i (by simpa using hi);rw[hw]at h1;simp only[Bool.not_true,Bool.false_or,Bool.or_eq_true]at h1
 rcases h1 with(h1|h1)|h1
 ·exact .inl (by simpa using h1)
 ·exact .inr (.inl h1)
 obtain⟨j,hj,h2⟩:=List.any_eq_true.1 h1;simp only[Bool.and_eq_true,Bool.not_eq_true']at h2;exact .inr (.inr ⟨j,by simpa using hj,h2.1.1,by simpa using h2.1.2,h2.2⟩)
theorem gOk_spec {ops:Array Oper}{ws:WL}(h1:gOkB ops ws=true):GOk ops ws:=by
 unfold gOkB at h1;have hi:∀i o,ops[i]? =some o→((∀p∈preds ops i,p<i)∧(∀j,j<ops.size→j≠i→∀t,dstOf ops j=some t→dstOf ops i≠some t))∧(isR ws i=true→gOkR ops ws i o=true):=by
  intro i o ho;have hlt:=(Array.getElem?_eq_some_iff.1 ho).1;have h3:=List.all_eq_true.1 h1 i (by simpa using hlt);rw[ho]at h3;simp only[Bool.and_eq_true,List.all_eq_true,decide_eq_true_eq]at h3;obtain⟨⟨a1,a2⟩,a3⟩:=h3;refine⟨⟨a1,fun j hj hne t ht hti=>?_⟩,fun hr=>by rw[hr]at a3;simpa using a3⟩;have h4:=a2 j (by simpa using hj);rw[ht,hti]at h4
  simp[hne]at h4
 refine⟨fun i o ho=>(hi i o ho).1.1,fun j k t hj hk hne h3 h4=>?_,fun i o ho hr t ht j hj hd=>?_,fun i o g want ho hr hg=>?_⟩
 ·exact(hi k ops[k] (Array.getElem?_eq_getElem hk)).1.2 j hj hne t h3 h4
 ·have h3:=(hi i o ho).2 hr;unfold gOkR at h3;rw[Bool.and_eq_true]at h3;have h4:=List.all_eq_true.1 (List.all_eq_true.1 h3.1 t ht) j (by simpa using hj);rw[hd]at h4;refine⟨fun hrj=>?_,fun hrj=>?_⟩
  ·rw[hrj]at h4;simpa using h4
  rw[hrj]at h4;simpa using h4
 have h3:=(hi i o ho).2 hr;unfold gOkR at h3;rw[Bool.and_eq_true,hg]at h3
 simpa[and_assoc]using h3.2
open Classical in
noncomputable def hide (s:St)(H:Tmp→Prop):St:={s with env:=s.env.filter fun p=>decide (¬H p.1)}
open Classical in
theorem lk_filter (H:Tmp→Prop)(t:Tmp):∀l:List (Nat×V),lk (l.filter fun p=>decide (¬H p.1)) t=if H t then .unk else lk l t
 |[]=>by simp[lk]
 |(t',v)::r=>by
  have ih:=lk_filter H t r
  by_cases hH:H t'
  ·rw[List.filter_cons_of_neg (by simpa using hH),ih]
   by_cases ht:t=t'
   ·subst ht;simp[hH]
   simp[lk,ht]
  rw[List.filter_cons_of_pos (by simpa using hH)];simp only[lk]
  by_cases ht:t=t'
  ·subst ht;simp[hH]
  simp only[ht,if_false];exact ih
theorem hide_ev (s:St)(H:Tmp→Prop)(t:Tmp)(h:¬H t):lk (hide s H).env t=lk s.env t:=by
 unfold hide;simp only[lk_filter,if_neg h]
theorem hide_unk (s:St)(H:Tmp→Prop)(t:Tmp)(h:H t):lk (hide s H).env t= .unk:=by
 unfold hide;simp only[lk_filter,if_pos h]
structure RU (H:Tmp→Prop) (a a':Act):Prop where
 defers:a.defers=a'.defers
 size:a.tmps.size=a'.tmps.size
 tmps:∀t,¬H t→a.tmps[t]? =a'.tmps[t]?
theorem RU.refl (H:Tmp→Prop)(a:Act):RU H a a:=⟨rfl,rfl,fun _ _=>rfl⟩
theorem RU.eq {H:Tmp→Prop}{a a':Act}(h:RU H a a')(hH:∀t,¬H t):a=a':=by
 obtain⟨h1,h2,h3⟩:=h
 cases a;cases a'
 simp only[Act.mk.injEq];exact⟨Array.ext_getElem? fun i=>h3 i (hH i),h1⟩
theorem RU.getD {H:Tmp→Prop}{a a':Act}(h:RU H a a'){t:Tmp}(ht:¬H t):a.tmps.getD t undef=a'.tmps.getD t undef:=by
 rw[Array.getD_eq_getD_getElem?,Array.getD_eq_getD_getElem?,h.tmps t ht]
theorem RU.put {H:Tmp→Prop}{a a':Act}(h:RU H a a')(dst:Option Tmp)(v:Value):RU H (a.put dst v) (a'.put dst v):=by
 cases dst with
 |none=>exact h
 |some d=>
  refine⟨h.defers,by simp[Act.put,h.size],fun t ht=>?_⟩;simp only[Act.put,Array.getElem?_setIfInBounds,h.size]
  split
  ·rfl
  exact h.tmps t ht
theorem put_getElem {a:Act}{d t:Tmp}{v:Value}:(a.put (some d) v).tmps[t]? =if t=d∧d<a.tmps.size then some v else a.tmps[t]? :=by
 simp only[Act.put,Array.getElem?_setIfInBounds]
 by_cases h1:d=t
 ·subst h1
  by_cases h2:d<a.tmps.size
  ·simp[h2]
  simp[h2]
 rw[if_neg h1,if_neg (fun h=>h1 h.1.symm)]
theorem SimR.hide {G:Ctx}{dom:Nat→Prop}{ρ:Nat→Loc}{s:St}{a a':Act}{w:World}{H:Tmp→Prop}(h:SimR G dom ρ s a' w)(hu:RU H a a'):SimR G dom ρ (hide s H) a w:=
 {
  h with
  hd:=by rw[hu.defers];exact h.hd
  hn:=by rw[hu.size];exact h.hn
  env:=fun t=>by
   by_cases ht:H t
   ·rw[hide_unk _ _ _ ht];trivial
   rw[hide_ev _ _ _ ht,hu.getD ht];exact h.env t}
theorem RU.exec {H:Tmp→Prop}{a a':Act}(h:RU H a a'){o:Oper}(hns:notSel o.op=true)(ht:∀t∈tmpsOf o,¬H t):execOp a.eval o=execOp a'.eval o:=by
 refine execOp_congr o (fun cs b he=>by rw[he]at hns;cases hns) fun x hx=>?_
 cases x with
 |tmp t=>exact h.getD (ht t (List.mem_filterMap.2 ⟨.tmp t,by simpa using hx,rfl⟩))
 |const v=>rfl
 |global g=>rfl
 |func f=>rfl
theorem RU.wp {P:Program}{H:Tmp→Prop}{a a':Act}(h:RU H a a'){o:Oper}(hns:notSel o.op=true)(ht:∀t∈tmpsOf o,¬H t){w:World}{next next':Act→World→Prop}{Q:Exit→Act→World→Prop}
  (hQ:∀ch a a' w,Q (.panic ch) a w→Q (.panic ch) a' w) (hn:∀b b' w,RU H b b'→next' b' w→next b w) (hw:o.wp P a' w next' Q):o.wp P a w next Q:=by
 unfold Oper.wp at hw⊢;rw[h.exec hns ht]
 cases hr:(execOp a'.eval o).run P w with
 |halt x w'=>
  rw[hr]at hw
  cases x<;>first|exact hQ _ _ _ _ hw|exact hw.elim
 |ok x w'=>
  rw[hr]at hw
  cases x with
  |value v=>exact hn _ _ _ (h.put _ v) hw
  |skip=>exact hn _ _ _ (h.put _ undef) hw
  |defer d=>
   refine hn _ _ _ (RU.put (⟨?_,h.size,h.tmps⟩:RU H {a with defers:=d::a.defers} {a' with defers:=d::a'.defers}) _ undef) hw;simp only[h.defers]
  |enter f args=>
   refine Calls.mono hw fun e w'' he=>?_
   cases e with
   |returned v=>exact hn _ _ _ (h.put _ v) he
   |panicked ch=>exact hQ _ _ _ _ he
   |outgrown=>exact he
  |row r args=>exact Rows.mono hw fun v w'' he=>hn _ _ _ (h.put _ v) he
  |_=>exact hw.elim
section
variable {P:Program}{ops:Array Oper}{ws:WL}{σ:St}{es:Nat→Eff}{K:St→Prop}
def PromG (P:Program)(ops:Array Oper)(s:St)(o:Oper)(d:Nat):Prop:=match o.guard with
 |none=>PEff P o s s.nx (lk s.env d)
 |some (g,want)=>∃t b,dstOf ops g=some t∧gv (lk s.env t)=some b∧(if b=some want then PEff P o s s.nx (lk s.env d)else lk s.env d= .tup [])
def Promise (P:Program)(ops:Array Oper)(s:St)(pd:List Nat):Prop:=∀j∈pd,∃o d,ops[j]? =some o∧o.dst=some d∧PromG P ops s o d∧d<s.n
def OpG (P:Program)(ops:Array Oper)(o:Oper)(s:St)(K:St→Prop):Prop:=match o.guard with
 |none=>WEff P o s K
 |some (g,want)=>∃t b,dstOf ops g=some t∧gv (lk s.env t)=some b∧(if b=some want then WEff P o s K else K (s.put o.dst (.tup [])))
def OpS (P:Program)(ops:Array Oper)(i:Nat)(pd:List Nat)(s:St)(K:St→Prop):Prop:=∃o,ops[i]? =some o∧dstLt o s.n∧OpG P ops o s (fun s'=>Promise P ops s' pd∧K s')
def OpsG (P:Program)(ops:Array Oper):WL→St→(St→Prop)→Prop
 |.nil,s,K=>K s
 |.cons i pd sub .nil,s,K=>OpS P ops i pd s (fun s'=>OpsG P ops sub s' K)
 |.cons i pd sub (.cons i' pd' sub' alt'),s,K=>OpS P ops i pd s (fun s'=>OpsG P ops sub s' K)∧OpsG P ops (.cons i' pd' sub' alt') s K
 |.cons _ _ _ (.opt _ _ _ _),_,_=>False
 |.opt _ _ _ _,_,_=>False
theorem OpsG_next {P:Program}{ops:Array Oper}{ws:WL}{ex:Option Nat}{pre:List Nat}{i:Nat}{s:St}{K:St→Prop}:∀{t:WL},OpsG P ops t s K→gOkW ops ws ex pre t=true→wNext t i=true→∃pd sub,OpS P ops i pd s (fun s'=>OpsG P ops sub s' K)∧WOk ops ws ex pre i pd sub
 |.nil,_,_,hn=>by cases hn
 |.opt _ _ _ _,_,_,hn=>by cases hn
 |.cons _ _ _ (.opt _ _ _ _),h,_,_=>by rw[OpsG]at h;exact h.elim
 |.cons i0 pd sub .nil,h,hg,hn=>by
  simp only[wNext]at hn
  by_cases he:i=i0
  ·subst he;rw[OpsG]at h;exact⟨pd,sub,h,(gOkW_cons hg).1⟩
  rw[if_neg he]at hn;cases hn
 |.cons i0 pd sub (.cons i' pd' sub' alt'),h,hg,hn=>by
  rw[OpsG]at h
  by_cases he:i=i0
  ·subst he;exact⟨pd,sub,h.1,(gOkW_cons hg).1⟩
  refine OpsG_next h.2 (gOkW_cons hg).2 ?_;rw[wNext,if_neg he]at hn;exact hn
def hid (ops:Array Oper)(ws:WL)(listed:Array Bool)(t:Tmp):Prop:=∃j,j<ops.size∧isR ws j=true∧listed.getD j false=false∧dstOf ops j=some t
def allR (σ:St)(ops:Array Oper)(es:Nat→Eff)(ws:WL):St:={accum σ σ.nx ops es (isR ws) ops.size with nx:=σ.nx+ops.size}
structure StandG (P:Program) (G:Ctx) (ops:Array Oper) (ws:WL) (ex:Option Nat) (F:Prop) (σ:St) (es:Nat→Eff) (K:St→Prop) (listed:Array Bool) (a:Act) (w:World):Prop where
 size:listed.size=ops.size
 down:∀i,listed.getD i false=true→∀p∈preds ops i,listed.getD p false=true
 where_:(F∧(∀i,listed.getD i false=true→isR ws i=true)∧SimD G (fun b=>b<σ.nx∨∃j,j<ops.size∧listed.getD j false=true∧b=σ.nx+j) (accum σ σ.nx ops es (fun j=>isR ws j&&listed.getD j false) ops.size) a w)∨
  (∃(pre:List Nat) (rest:WL) (pd:List Nat) (s:St) (a':Act),(∀j,j<ops.size→isR ws j=false→(listed.getD j false=true↔j∈pre))∧(∀k∈pre,listed.getD k false=true)∧gOkW ops ws ex pre rest=true∧(covers ops ws pre rest=true∧∀q,ex=some q→listed.getD q false=true)∧
   (∀j,j<ops.size→isR ws j=true→listed.getD j false=false→j∈pd)∧OpsG P ops rest s K∧Promise P ops s pd∧Sim G s a' w∧RU (hid ops ws listed) a a')
theorem accum_env_out' (L:Nat→Bool)(t:Nat):∀k,(∀j,j<k→L j=true→dstOf ops j≠some t)→lk (accum σ σ.nx ops es L k).env t=lk σ.env t:=by
 intro k
 induction k with
 |zero=>intro _;rfl
 |succ k ih=>
  intro h;simp only[accum]
  split
  ·rename_i hL
   rw[add_env,if_neg (h k (Nat.lt_succ_self k) hL)];exact ih (fun j hj=>h j (Nat.lt_succ_of_lt hj))
  exact ih (fun j hj=>h j (Nat.lt_succ_of_lt hj))
theorem agrG (hck:GOk ops ws){i:Nat}{o:Oper}(ho:ops[i]? =some o)(hi:isR ws i=true){L:Nat→Bool}(hL:∀j,L j=true→isR ws j=true)(hp:∀p∈preds ops i,isR ws p=true→L p=true):
  Agr (accum σ σ.nx ops es (isR ws) i) (accum σ σ.nx ops es L ops.size) σ.nx o:=by
 have his:=(Array.getElem?_eq_some_iff.1 ho).1;refine⟨by rw[accum_n,accum_n],fun x hx=>?_,fun b hb=>by rw[accum_own _ ops.size b hb,accum_own _ i b hb]⟩
 cases x with
 |tmp t=>
  have htm:t∈tmpsOf o:=List.mem_filterMap.2 ⟨.tmp t,by simpa using hx,rfl⟩;show lk _ t=lk _ t
  by_cases hex:∃j,j<ops.size∧isR ws j=true∧dstOf ops j=some t
  ·obtain⟨j,hj,hjR,hd⟩:=hex;obtain⟨hji,hjp⟩:=(hck.data i o ho hi t htm j hj hd).1 hjR;rw[accum_env_in (N:=ops.size) L hd (hp j hjp hjR) hck.dst ops.size (O1 _) hj,accum_env_in (N:=ops.size) (isR ws) hd hjR hck.dst i (by omega) hji]
  rw[accum_env_out' L t ops.size (fun j hj hLj h=>hex ⟨j,hj,hL j hLj,h⟩),accum_env_out' (isR ws) t i (fun j hj hLj h=>hex ⟨j,by omega,hLj,h⟩)]
 |const v=>rfl
 |global g=>rfl
 |func f=>rfl
theorem ghost (hck:GOk ops ws)(hfz:∀j,∀b∈(es j).fz,b<σ.nx)
  (hstep:∀(i:Nat) o,isR ws i=true→ops[i]? =some o→stepOk P ops σ.nx i o (accum σ σ.nx ops es (isR ws) i) (es i))
  {G:Ctx} {listed:Array Bool} {a:Act} {w:World} {dom:Nat→Prop} (hW:∀i,listed.getD i false=true→isR ws i=true)
  (hlate:∀j,j<ops.size→isR ws j=true→listed.getD j false=false→∃o,ops[j]? =some o∧isLate o.op=true)
  (hs:SimD G dom (accum σ σ.nx ops es (fun j=>isR ws j&&listed.getD j false) ops.size) a w) (hdown:∀i,listed.getD i false=true→∀p∈preds ops i,listed.getD p false=true):
  ∀n,n≤ops.size→∃a',SimD G dom (accum σ σ.nx ops es (fun j=>isR ws j&&(listed.getD j false||decide (j<n))) ops.size) a' w∧RU (hid ops ws listed) a a':=by
 intro n
 induction n with
 |zero=>
  intro _;refine⟨a,?_,RU.refl _ _⟩;rw[accum_congr (L':=fun j=>isR ws j&&listed.getD j false) ops.size (fun j _=>by simp)];exact hs
 |succ n ih=>
  intro hn;obtain⟨a',⟨ρ,h1⟩,hu⟩:=ih (by omega)
  by_cases hc:isR ws n=true∧listed.getD n false=false
  ·obtain⟨hR,hl⟩:=hc;obtain⟨o,ho,hlt⟩:=hlate n (by omega) hR hl;obtain⟨hdl,hst⟩:=hstep n o hR ho
   have hagr:=agrG (σ:=σ) (es:=es) hck ho hR (L:=fun j=>isR ws j&&(listed.getD j false||decide (j<n))) (fun j hj=>by simp at hj;exact hj.1) (fun p hp hpR=>by
    have:=hck.pred n o ho p hp
    simp[hpR,this])
   have hval:(es n).blk=none∧(es n).fz=[]∧∃v,RepV ρ dom (okOf G (accum σ σ.nx ops es (fun j=>isR ws j&&(listed.getD j false||decide (j<n))) ops.size).own ρ w) w (es n).val v:=by
    have doit:REff P o (accum σ σ.nx ops es (isR ws) n) σ.nx (σ.nx+n) (es n)→(es n).blk=none∧(es n).fz=[]∧∃v,RepV ρ dom (okOf G (accum σ σ.nx ops es (fun j=>isR ws j&&(listed.getD j false||decide (j<n))) ops.size).own ρ w) w (es n).val v:=fun hre=>by
     obtain⟨hblk,hfzn,hpe⟩:=hre.2 hlt;obtain⟨v,_,hv⟩:=hpe G dom ρ _ a' w h1 hagr;exact⟨hblk,hfzn,v,hv⟩
    split at hst
    ·exact doit hst
    obtain⟨t,b,_,_,hst⟩:=hst
    split at hst
    ·exact doit hst
    rw[hst];exact⟨rfl,rfl,undef,⟨#[],rfl,trivial⟩⟩
   obtain⟨hblk,hfzn,v,hv⟩:=hval;have hdst:dstOf ops n=o.dst:=by unfold dstOf;rw[ho];rfl
   have h2:=h1.put (dst:=o.dst) (x:=(es n).val) (v:=v) (fun d hd=>by have:=hdl d hd;rw[accum_n]at this⊢;exact this) hv;refine⟨a'.put o.dst v,⟨ρ,?_⟩,?_⟩
   ·have he:es n=⟨(es n).val,none,[]⟩:=by
     cases hen:es n with
     |mk v b f=>rw[hen]at hblk hfzn;simp only at hblk hfzn;rw[hblk,hfzn]
    have h3:=accum_one (σ:=σ) (nx0:=σ.nx) (e:=es) (N:=ops.size) (L:=fun j=>isR ws j&&(listed.getD j false||decide (j<n))) (i:=n) (by simp[hl]) hck.dst hfz ops.size (O1 _) (by omega)
    rw[he,St.add_plain,hdst]at h3;have h4:=h2.alk h3.symm
    rw[accum_congr (L':=fun j=>(isR ws j&&(listed.getD j false||decide (j<n)))||j==n) ops.size (fun j _=>?_)]
    ·exact h4
    by_cases hjn:j=n
    ·subst hjn;simp[hR]
    have e1:decide (j<n+1)=decide (j<n):=by simp;omega
    have e2:(j==n)=false:=by simpa using hjn
    rw[e1,e2,Bool.or_false]
   cases hd:o.dst with
   |none=>exact hu
   |some d=>
    refine⟨hu.defers,by rw[hu.size];simp[Act.put],fun t ht=>?_⟩;rw[put_getElem,if_neg,hu.tmps t ht];rintro⟨rfl,_⟩;exact ht ⟨n,by omega,hR,hl,by rw[hdst,hd]⟩
  refine⟨a',⟨ρ,?_⟩,hu⟩
  rw[accum_congr (L':=fun j=>isR ws j&&(listed.getD j false||decide (j<n))) ops.size (fun j _=>?_)]
  ·exact h1
  by_cases hjn:j=n
  ·subst hjn
   cases hR:isR ws j with
   |false=>rfl
   |true=>
    have:listed.getD j false=true:=by
     cases hl:listed.getD j false with
     |true=>rfl
     |false=>exact absurd ⟨hR,hl⟩ hc
    rw[this];rfl
  have e1:decide (j<n+1)=decide (j<n):=by simp;omega
  rw[e1]
theorem accum_listed {L:Nat→Bool}(h:∀j,j<ops.size→isR ws j=true→L j=true):accum σ σ.nx ops es (fun j=>isR ws j&&L j) ops.size=accum σ σ.nx ops es (isR ws) ops.size:=
 accum_congr ops.size fun j hj=>by
  cases hR:isR ws j with
  |false=>rfl
  |true=>rw[h j hj hR];rfl
theorem wExec {ex:Option Nat}{F:Prop}{G:Ctx}{Q:Exit→Act→World→Prop}(hP:∀ch a a' w,Q (.panic ch) a w→Q (.panic ch) a' w){fuel:Nat}{listed:Array Bool}{a:Act}{w:World}(hsize:listed.size=ops.size)(hdn:∀i,listed.getD i false=true→∀p∈preds ops i,listed.getD p false=true)
  {i:Nat} (his:i<ops.size) (hp:∀p∈preds ops i,listed.getD p false=true) (hiW:isR ws i=false) {pre:List Nat} {sub:WL} {pdi:List Nat} {s:St} {a':Act} (h1:∀j,j<ops.size→isR ws j=false→(listed.getD j false=true↔j∈pre)) (hpl:∀k∈pre,listed.getD k false=true)
  (hwok:WOk ops ws ex pre i pdi sub) (h6:OpS P ops i pdi s (fun s'=>OpsG P ops sub s' K)) (h8:Sim G s a' w) (h9:RU (hid ops ws listed) a a') (hexl:∀q,ex=some q→listed.getD q false=true)
  (ih:∀a w,StandG P G ops ws ex F σ es K (listed.setIfInBounds i true) a w→wpAny P .any ops Q fuel (listed.setIfInBounds i true) a w):wpOp P ops Q i (wpAny P .any ops Q fuel (listed.setIfInBounds i true)) a w:=by
 have ho:=Array.getElem?_eq_getElem his;have hlt:i<listed.size:=by rw[hsize];exact his
 have hdown':∀j,(listed.setIfInBounds i true).getD j false=true→∀p∈preds ops j,(listed.setIfInBounds i true).getD p false=true:=by
  intro j hj p hpj;rw[listed_set hlt]at hj⊢
  rcases Bool.or_eq_true_iff.1 hj with hj|hj
  ·rw[hdn j hj p hpj];rfl
  have:j=i:=by simpa using hj
  subst this;rw[hp p hpj];rfl
 have hclos:∀j,closes ops ops.size i j=true→listed.getD j false=true:=fun j hj=>closes_listed hdn _ i j hp hj;obtain⟨o,ho',hg,hns,hop⟩:=hwok.op;rw[ho]at ho';obtain rfl:=Option.some.inj ho';obtain⟨o2,ho2,hdl,hwe⟩:=h6;rw[ho]at ho2;obtain rfl:=Option.some.inj ho2;have hpend:∀j,j<ops.size→isR ws j=true→listed.getD j false=false→j∈pdi:=fun j hj hjR hjl=>by
  rcases hwok.all j hj hjR with k|ke|⟨k0,hk0,k⟩
  ·exact k
  ·rw[hexl j ke]at hjl;cases hjl
  rcases List.mem_cons.1 hk0 with rfl|hk0
  ·rw[hclos j k]at hjl;cases hjl
  rw[closes_listed hdn _ k0 j (hdn k0 (hpl k0 hk0)) k]at hjl;cases hjl
 have hfin:∀b b' w',RU (hid ops ws listed) b b'→(∃s',(Promise P ops s' pdi∧OpsG P ops sub s' K)∧Sim G s' b' w')→wpAny P .any ops Q fuel (listed.setIfInBounds i true) b w':=by
  rintro b b' w' hru ⟨s',⟨k1,k2⟩,k3⟩;refine ih _ _ ⟨by simpa using hsize,hdown',.inr ⟨i::pre,sub,pdi,s',b',fun j hj hjR=>?_,fun k hk=>?_,hwok.sub,⟨hwok.cov,fun q hq=>by rw[listed_set hlt,hexl q hq];rfl⟩,fun j hj hjR hjl=>?_,k2,k1,k3,⟨hru.defers,hru.size,fun t ht=>hru.tmps t fun hh=>ht ?_⟩⟩⟩
  ·rw[listed_set hlt,Bool.or_eq_true,h1 j hj hjR,List.mem_cons,beq_iff_eq]
   constructor
   ·rintro(k|k)
    ·exact .inr k
    exact .inl k
   rintro(k|k)
   ·exact .inr k
   exact .inl k
  ·rw[listed_set hlt,Bool.or_eq_true,beq_iff_eq]
   rcases List.mem_cons.1 hk with hk|hk
   ·exact .inr hk
   exact .inl (hpl k hk)
  ·rw[listed_set hlt]at hjl;simp only[Bool.or_eq_false_iff]at hjl;exact hpend j hj hjR hjl.1
  obtain⟨j,hj,hjR,hjl,hjd⟩:=hh;refine⟨j,hj,hjR,?_,hjd⟩;rw[listed_set hlt,hjl,Bool.false_or,beq_eq_false_iff_ne];intro e;rw[e,hiW]at hjR;cases hjR
 have htm:∀t∈tmpsOf ops[i],¬hid ops ws listed t:=fun t ht hh=>by
  obtain⟨j,hj,hjR,hjl,hjd⟩:=hh;obtain⟨oj,d,_,k1,_,k2,k3⟩:=hop j (hpend j hj hjR hjl)
  have:dstOf ops j=some d:=by unfold dstOf;rw[k1];exact k2
  rw[this]at hjd;obtain rfl:=Option.some.inj hjd;exact k3 ht
 unfold wpOp;simp only[ho];unfold OpG at hwe
 split at hwe
 ·rename_i hg
  rw[wanted_none hg,if_pos rfl];exact .inl (h9.wp hns htm hP hfin (hwe G a' w h8 Q (fun b' w'=>∃s',(Promise P ops s' pdi∧OpsG P ops sub s' K)∧Sim G s' b' w') fun s' b' w' k1 k2=>⟨s',k1,k2⟩))
 rename_i g want hg'
 obtain⟨t,b,ht,hb,hwe⟩:=hwe;obtain⟨ρ,hs8⟩:=h8;have hnh:¬hid ops ws listed t:=fun hh=>by
  obtain⟨j,hj,hjR,hjl,hjd⟩:=hh;unfold gOkG at hg;rw[hg']at hg
  have:=List.all_eq_true.1 hg j (hpend j hj hjR hjl)
  rw[hjd,ht]at this;simp at this
 have hy:Region.wanted ops[i] (yielded ops a.tmps)=(b==some want):=by
  rw[←wanted_of hs8 hg' ht hb];have hd:(ops[g]?).bind (·.dst)=some t:=ht;unfold Region.wanted yielded;simp only[hg',hd,Option.bind_some,h9.tmps t hnh]
 rw[hy]
 by_cases hbw:b=some want
 ·rw[if_pos hbw]at hwe;rw[if_pos (by simp[hbw])];exact .inl (h9.wp hns htm hP hfin (hwe G a' w ⟨ρ,hs8⟩ Q (fun b' w'=>∃s',(Promise P ops s' pdi∧OpsG P ops sub s' K)∧Sim G s' b' w') fun s' b' w' k1 k2=>⟨s',k1,k2⟩))
 rw[if_neg hbw]at hwe;rw[if_neg (by simpa using hbw)]
 have e:(s.put ops[i].dst (.tup [])).nx=s.nx:=by cases ops[i].dst<;>rfl
 exact hfin _ _ _ (h9.put ops[i].dst undef) ⟨_,hwe,ρ,by rw[e];exact hs8.put (dst:=ops[i].dst) (x:=.tup []) (v:=undef) (fun d hd=>hdl d hd) ⟨#[],rfl,trivial⟩⟩
theorem wpAny_standG {ex:Option Nat}{F:Prop}(hck:GOk ops ws)(hcov:F→covers ops ws [] ws=true)(hgw:F→gOkW ops ws ex [] ws=true)(hfz:∀j,∀b∈(es j).fz,b<σ.nx)
  (hstep:F→∀(i:Nat) o,isR ws i=true→ops[i]? =some o→stepOk P ops σ.nx i o (accum σ σ.nx ops es (isR ws) i) (es i))
  (hW:F→OpsG P ops ws (allR σ ops es ws) K)
  {G:Ctx} {Q:Exit→Act→World→Prop} (hsw:F→∀q,ex=some q→∀(fuel:Nat) (listed:Array Bool) (a:Act) (w:World) (i:Nat),StandG P G ops ws ex F σ es K listed a w→(∀j,listed.getD j false=true→isR ws j=true)→
   SimD G (fun b=>b<σ.nx∨∃j,j<ops.size∧listed.getD j false=true∧b=σ.nx+j) (accum σ σ.nx ops es (fun j=>isR ws j&&listed.getD j false) ops.size) a w→listed.getD q false=false→
   i∈Region.ready .any ops listed→wHas ws i=true→toCome ops listed≤fuel+1→wpOp P ops Q i (wpAny P .any ops Q fuel (listed.setIfInBounds i true)) a w) (hQ:∀s a w,K s→Sim G s a w→Q .normal a w) (hP:∀ch a a' w,Q (.panic ch) a w→Q (.panic ch) a' w):
  ∀(fuel:Nat) (listed:Array Bool) (a:Act) (w:World),StandG P G ops ws ex F σ es K listed a w→toCome ops listed≤fuel→wpAny P .any ops Q fuel listed a w:=by
 have hend:∀(listed:Array Bool) (a:Act) (w:World),StandG P G ops ws ex F σ es K listed a w→(∀j,j<ops.size→listed.getD j false=true)→Q .normal a w:=by
  intro listed a w h hall
  rcases h.where_ with⟨hF,hR,ρ,hsim⟩|⟨pre,rest,pd,s,a',h1,h2,h3,h4,h5,h6,h7,h8,h9⟩
  ·have hW:=hW hF;have hno:∀i,i<ops.size→wHas ws i=false:=fun i hi=>by
    have:=hR i (hall i hi)
    simpa[isR]using this
   cases hws:ws with
   |nil=>
    rw[hws]at hW hsim;refine hQ _ a w hW ⟨ρ,?_⟩;rw[accum_listed (fun j hj _=>hall j hj)]at hsim
    have h10:=hsim.mono_dom (dom':=fun b=>b<σ.nx+ops.size) (fun b hb=>by rcases hb with hb|⟨j,hj,_,rfl⟩<;>omega)
    exact h10.alk ⟨fun _=>rfl,fun _=>rfl,rfl⟩
   |cons i pd sub alt=>
    exfalso
    have hw:=hgw hF;rw[hws]at hw;obtain⟨o,ho,_⟩:=(gOkW_cons hw).1.op
    have:=hno i (Array.getElem?_eq_some_iff.1 ho).1
    rw[hws]at this
    simp[wHas]at this
   |opt _ _ _ _=>rw[hws]at hW;exact hW.elim
  cases hrest:rest with
  |nil=>
   rw[hrest]at h6;have ha:a=a':=h9.eq fun t ht=>by
    obtain⟨j,hj,_,hl,_⟩:=ht;rw[hall j hj]at hl;cases hl
   subst ha;exact hQ s a w h6 h8
  |opt _ _ _ _=>rw[hrest]at h6;exact h6.elim
  |cons i pd' sub alt=>
   exfalso
   rw[hrest]at h3;have h11:=h3;simp only[gOkW,Bool.and_eq_true]at h11;obtain⟨⟨⟨h12,_⟩,_⟩,_⟩:=h11
   cases ho:ops[i]? with
   |none=>rw[ho]at h12;cases h12
   |some o=>
    rw[ho]at h12;simp only[Bool.and_eq_true,Bool.not_eq_true']at h12;obtain⟨⟨⟨⟨⟨_,_⟩,hnp⟩,hwi⟩,_⟩,_⟩:=h12;have his:=(Array.getElem?_eq_some_iff.1 ho).1
    have:=(h1 i his (by simp[isR,hwi])).1 (hall i his)
    simp[this]at hnp
 intro fuel
 induction fuel with
 |zero=>
  intro listed a w h hf;have hall:=toCome_zero (Nat.le_zero.1 hf);refine⟨?_,hend listed a w h hall⟩
  cases hr:Region.ready .any ops listed with
  |nil=>rfl
  |cons i l=>
   obtain⟨_,hi,hu⟩:=ready_preds (i:=i) (listed:=listed) (ops:=ops) (by rw[hr];simp);have h1:=hall i hi;have hlt:i<listed.size:=by rw[h.size];exact hi
   simp[Array.getD,hlt]at h1 hu
   rw[h1]at hu;cases hu
 |succ fuel ih=>
  intro listed a w h hf;refine⟨fun hr=>?_,fun i hi=>?_⟩
  ·have hall:∀n i,i<n→i<ops.size→listed.getD i false=true:=by
    intro n
    induction n with
    |zero=>intro i hi;omega
    |succ n ihn=>
     intro i hin his
     by_cases hu:listed.getD i false=true
     ·exact hu
     have hlt:i<listed.size:=by rw[h.size];exact his
     have hu':listed.getD i true=false:=by
      simp[Array.getD,hlt]at hu⊢
      exact hu
     have hm:=ready_of_preds (ops:=ops) (Array.getElem?_eq_getElem his) hu' (fun p hp=>ihn p (by have:=hck.pred i _ (Array.getElem?_eq_getElem his) p hp;omega) (by have:=hck.pred i _ (Array.getElem?_eq_getElem his) p hp;omega));rw[hr]at hm;cases hm
   exact hend listed a w h (fun j hj=>hall _ j (Nat.lt_succ_self _) hj)
  obtain⟨hp,his,hu⟩:=ready_preds hi;have ho:=Array.getElem?_eq_getElem his;have hcount:=toCome_set h.size his hu;have hlt:i<listed.size:=by rw[h.size];exact his
  have hu':listed.getD i false=false:=by
   simp[Array.getD,hlt]at hu⊢
   exact hu
  have hdown':∀j,(listed.setIfInBounds i true).getD j false=true→∀p∈preds ops j,(listed.setIfInBounds i true).getD p false=true:=by
   intro j hj p hpj;rw[listed_set hlt]at hj⊢
   rcases Bool.or_eq_true_iff.1 hj with hj|hj
   ·rw[h.down j hj p hpj];rfl
   have:j=i:=by simpa using hj
   subst this;rw[hp p hpj];rfl
  have hclos:∀j,closes ops ops.size i j=true→listed.getD j false=true:=fun j hj=>closes_listed h.down _ i j hp hj
  by_cases hiR:isR ws i=true
  ·rcases h.where_ with⟨hF,hlR,ρ,hsim⟩|⟨pre,rest,pd,s,a',h1,h2,h3,h4,h5,h6,h7,h8,h9⟩
   ·have hst:=hstep hF i ops[i] hiR ho;have hagr:=agrG (σ:=σ) (es:=es) hck ho hiR (L:=fun j=>isR ws j&&listed.getD j false) (fun j hj=>by simp at hj;exact hj.1) (fun p hpp hpR=>by rw[hpR,hp p hpp];rfl);have hstand:∀a' w',SimD G (fun b=>(b<σ.nx∨∃j,j<ops.size∧listed.getD j false=true∧b=σ.nx+j)∨b=σ.nx+i) ((accum σ σ.nx ops es (fun j=>isR ws j&&listed.getD j false) ops.size).add (dstOf ops i) (σ.nx+i) (es i)) a' w'→
      StandG P G ops ws ex F σ es K (listed.setIfInBounds i true) a' w':=by
     rintro a' w' ⟨ρ',k1⟩;refine⟨by simpa using h.size,hdown',.inl ⟨hF,fun j hj=>?_,ρ',?_⟩⟩
     ·rw[listed_set hlt]at hj
      rcases Bool.or_eq_true_iff.1 hj with hj|hj
      ·exact hlR j hj
      have:j=i:=by simpa using hj
      rw[this];exact hiR
     have k2:=k1.mono_dom (dom':=fun b=>b<σ.nx∨∃j,j<ops.size∧(listed.setIfInBounds i true).getD j false=true∧b=σ.nx+j) (fun b hb=>by
      rcases hb with(hb|⟨j,hj,hlj,rfl⟩)|rfl
      ·exact .inl hb
      ·exact .inr ⟨j,hj,by rw[listed_set hlt,hlj];rfl,rfl⟩
      exact .inr ⟨i,his,by rw[listed_set hlt];simp,rfl⟩)
     have k3:=accum_one (σ:=σ) (nx0:=σ.nx) (e:=es) (N:=ops.size) (L:=fun j=>isR ws j&&listed.getD j false) (i:=i) (by simp[hu']) hck.dst hfz ops.size (O1 _) his;have k4:=k2.alk k3.symm
     rw[accum_congr (L:=fun j=>(isR ws j&&listed.getD j false)||j==i) (L':=fun j=>isR ws j&&(listed.setIfInBounds i true).getD j false) ops.size (fun j _=>by
      rw[listed_set hlt]
      by_cases hji:j=i
      ·subst hji;simp[hiR]
      have:(j==i)=false:=by simpa using hji
      rw[this,Bool.or_false,Bool.or_false])]at k4
     exact k4
    have hdst:dstOf ops i=ops[i].dst:=by unfold dstOf;rw[ho];rfl
    have hid':¬(σ.nx+i<σ.nx∨∃j,j<ops.size∧listed.getD j false=true∧σ.nx+i=σ.nx+j):=by
     rintro(k1|⟨j,_,hj,he⟩)
     ·omega
     have:i=j:=by omega
     subst this;rw[hu']at hj;cases hj
    unfold wpOp;simp only[ho];obtain⟨hdl,hst⟩:=hst;have doit:REff P ops[i] (accum σ σ.nx ops es (isR ws) i) σ.nx (σ.nx+i) (es i)→ops[i].wp P a w (wpAny P .any ops Q fuel (listed.setIfInBounds i true)) Q:=by
     intro hre;refine hre.1 G _ ρ _ a w hsim hid' hagr Q _ fun v w' k5=>?_;refine ih _ _ _ (hstand _ _ ?_) (by omega);rw[hdst];exact k5
    split at hst
    ·rename_i hg
     rw[wanted_none hg,if_pos rfl];exact .inl (doit hst)
    rename_i g want hg
    obtain⟨t,b,ht,hb,hst⟩:=hst;obtain⟨hgi,hgp,hgR⟩:=hck.guard i _ g want ho hiR hg;have hb':gv (lk (accum σ σ.nx ops es (fun j=>isR ws j&&listed.getD j false) ops.size).env t)=some b:=by
     rw[accum_env_in (N:=ops.size) (fun j=>isR ws j&&listed.getD j false) (t:=t) (j:=g) ht (by rw[hgR,hp g hgp];rfl) hck.dst ops.size (O1 _) (by omega)];rw[accum_env_in (N:=ops.size) (isR ws) (t:=t) (j:=g) ht hgR hck.dst i (by omega) hgi]at hb;exact hb
    rw[wanted_of hsim hg ht hb']
    by_cases hbw:b=some want
    ·rw[if_pos hbw]at hst;rw[if_pos (by simp[hbw])];exact .inl (doit hst)
    rw[if_neg hbw]at hst;rw[if_neg (by simpa using hbw)];refine ih _ _ _ (hstand _ _ ⟨ρ,?_⟩) (by omega);rw[hst,hdst];have k5:=hsim.put (dst:=ops[i].dst) (x:=.tup []) (v:=undef) (fun d hd=>by have:=hdl d hd;rw[accum_n]at this⊢;exact this) ⟨#[],rfl,trivial⟩;have k6:=k5.mono_dom (dom':=fun b=>(b<σ.nx∨∃j,j<ops.size∧listed.getD j false=true∧b=σ.nx+j)∨b=σ.nx+i) (fun b hb=>Or.inl hb);unfold Eff.skip;rw[St.add_plain];exact k6
   -- one that is late
   have hipd:=h5 i his hiR hu';obtain⟨o,d,ho',hd,hpe,hdn⟩:=h7 i hipd;rw[ho]at ho';obtain rfl:=Option.some.inj ho';obtain⟨ρ,hsim⟩:=h8;have hdst:dstOf ops i=some d:=by unfold dstOf;rw[ho];exact hd
   have hsimH:=hsim.hide h9;have hagr:Agr s (hide s (hid ops ws listed)) s.nx ops[i]:=by
    refine⟨rfl,fun x hx=>?_,fun b _=>rfl⟩
    cases x with
    |tmp t=>
     have htm:t∈tmpsOf ops[i]:=List.mem_filterMap.2 ⟨.tmp t,by simpa using hx,rfl⟩;refine hide_ev _ _ _ fun hh=>?_;obtain⟨j,hj,hjR,hjl,hjd⟩:=hh;rw[hp j ((hck.data i _ ho hiR t htm j hj hjd).1 hjR).2]at hjl;cases hjl
    |const v=>rfl
    |global g=>rfl
    |func f=>rfl
   have fin:∀v,RepV ρ (fun b=>b<s.nx) (okOf G s.own ρ w) w (lk s.env d) v→wpAny P .any ops Q fuel (listed.setIfInBounds i true) (a.put (some d) v) w:=by
    intro v hv;refine ih _ _ _ ?_ (by omega);have hnew:SimR G (fun b=>b<s.nx) ρ s (a'.put (some d) v) w:=by
     have k1:=hsim.put (dst:=some d) (x:=lk s.env d) (v:=v) (fun d' hd'=>by obtain rfl:=Option.some.inj hd';exact hdn) hv;refine k1.alk ⟨fun t=>?_,fun _=>rfl,rfl⟩;rw[put_env]
     by_cases ht:some d=some t
     ·obtain rfl:=Option.some.inj ht;rw[if_pos rfl]
     rw[if_neg ht]
    refine⟨by simpa using h.size,hdown',.inr ⟨pre,rest,pd,s,a'.put (some d) v,fun j hj hjR=>?_,fun k hk=>by rw[listed_set hlt,h2 k hk];rfl,h3,⟨h4.1,fun q hq=>by rw[listed_set hlt,h4.2 q hq];rfl⟩,fun j hj hjR hjl=>?_,h6,h7,⟨ρ,hnew⟩,?_⟩⟩
    ·rw[←h1 j hj hjR,listed_set hlt]
     have:(j==i)=false:=by
      rw[beq_eq_false_iff_ne];intro e;rw[e,hiR]at hjR;cases hjR
     rw[this,Bool.or_false]
    ·rw[listed_set hlt]at hjl;simp only[Bool.or_eq_false_iff]at hjl;exact h5 j hj hjR hjl.1
    refine⟨h9.defers,by simp[Act.put,h9.size],fun t ht=>?_⟩;rw[put_getElem,put_getElem,h9.size]
    split
    ·rfl
    rename_i hne
    by_cases htd:t=d
    ·subst htd;have h10:a'.tmps.size≤t:=Nat.le_of_not_lt fun h11=>hne ⟨rfl,h11⟩;rw[Array.getElem?_eq_none (by rw[h9.size];exact h10),Array.getElem?_eq_none h10]
    refine h9.tmps t fun hh=>ht ?_;obtain⟨j,hj,hjR,hjl,hjd⟩:=hh;refine⟨j,hj,hjR,?_,hjd⟩;rw[listed_set hlt,hjl,Bool.false_or,beq_eq_false_iff_ne];intro e;subst e;rw[hdst]at hjd;exact htd (Option.some.inj hjd).symm
   unfold wpOp;simp only[ho];unfold PromG at hpe
   split at hpe
   ·rename_i hg
    obtain⟨v,hrun,hv⟩:=hpe G _ ρ _ a w hsimH hagr;rw[wanted_none hg,if_pos rfl];refine .inl (Oper.wp_value hrun ?_);rw[hd];exact fin v hv
   rename_i g want hg
   obtain⟨t,b,ht,hb,hpe⟩:=hpe;obtain⟨hgi,hgp,hgR⟩:=hck.guard i _ g want ho hiR hg;have hb':gv (lk (hide s (hid ops ws listed)).env t)=some b:=by
    rw[hide_ev _ _ _ ?_]
    ·exact hb
    rintro⟨j,hj,hjR,hjl,hjd⟩
    by_cases hjg:j=g
    ·subst hjg;rw[hp j hgp]at hjl;cases hjl
    exact hck.dst j g t hj (by omega) hjg hjd ht
   rw[wanted_of hsimH hg ht hb']
   by_cases hbw:b=some want
   ·rw[if_pos hbw]at hpe;rw[if_pos (by simp[hbw])];obtain⟨v,hrun,hv⟩:=hpe G _ ρ _ a w hsimH hagr;refine .inl (Oper.wp_value hrun ?_);rw[hd];exact fin v hv
   rw[if_neg hbw]at hpe;rw[if_neg (by simpa using hbw)];rw[hd];refine fin undef ?_;rw[hpe];exact⟨#[],rfl,trivial⟩
  have hiW:isR ws i=false:=by simpa using hiR
  have hiH:wHas ws i=true:=by simpa[isR]using hiW
  by_cases hx:∃q,ex=some q∧listed.getD q false=false
  ·obtain⟨q,hq,hql⟩:=hx
   rcases h.where_ with⟨hF,hlR,hsim⟩|⟨pre,rest,pd,s,a',h1,h2,h3,h4,h5,h6,h7,h8,h9⟩
   ·exact hsw hF q hq fuel listed a w i h hlR hsim hql hi hiH hf
   rw[h4.2 q hq]at hql;cases hql
  have hexl:∀q,ex=some q→listed.getD q false=true:=fun q hq=>by
   cases hl:listed.getD q false with
   |true=>rfl
   |false=>exact absurd ⟨q,hq,hl⟩ hx
  -- where it stands among those that write
  have data:∃(pre:List Nat) (sub:WL) (pdi:List Nat) (s:St) (a':Act),(∀j,j<ops.size→isR ws j=false→(listed.getD j false=true↔j∈pre))∧(∀k∈pre,listed.getD k false=true)∧WOk ops ws ex pre i pdi sub∧
    OpS P ops i pdi s (fun s'=>OpsG P ops sub s' K)∧Sim G s a' w∧RU (hid ops ws listed) a a'∧∀q,ex=some q→listed.getD q false=true:=by
   rcases h.where_ with⟨hF,hlR,hsim⟩|⟨pre,rest,pd,s,a',h1,h2,h3,h4,h5,h6,h7,h8,h9⟩
   ·rcases covers_spec (hcov hF) his hiH with k|k|⟨j,hj,hjw,_,hcl⟩
    ·cases k
    ·obtain⟨pdi,sub,hop,hwok⟩:=OpsG_next (hW hF) (hgw hF) k;obtain⟨ρ,hsim⟩:=hsim;obtain⟨a',hs',hu2⟩:=ghost (P:=P) hck hfz (hstep hF) hlR (fun j hj hjR hjl=>by
      rcases hwok.all j hj hjR with kd|ke|⟨k0,hk0,kc⟩
      ·obtain⟨o,_,_,_,hop⟩:=hwok.op;obtain⟨oj,d,_,k1,k2,_⟩:=hop j kd;exact⟨oj,k1,k2⟩
      ·rw[hexl j ke]at hjl;cases hjl
      have hk0:k0=i:=by simpa using hk0
      rw[hk0]at kc;rw[hclos j kc]at hjl;cases hjl) ⟨ρ,hsim⟩ h.down ops.size (O1 _)
     refine⟨[],sub,pdi,allR σ ops es ws,a',fun j hj hjR=>?_,fun k hk=>by(cases hk),hwok,hop,?_,hu2,hexl⟩
     ·constructor
      ·intro k;rw[hlR j k]at hjR;cases hjR
      intro k;cases k
     obtain⟨ρ',k1⟩:=hs';rw[accum_listed (fun j hj _=>by simp[hj])]at k1
     have k2:=k1.mono_dom (dom':=fun b=>b<σ.nx+ops.size) (fun b hb=>by rcases hb with hb|⟨j,hj,_,rfl⟩<;>omega)
     exact⟨ρ',k2.alk ⟨fun _=>rfl,fun _=>rfl,rfl⟩⟩
    exfalso
    have k2:=hlR j (hclos j hcl)
    simp[isR,hjw]at k2
   rcases covers_spec h4.1 his hiH with k|k|⟨j,hj,hjw,hjp,hcl⟩
   ·exfalso;rw[h2 i k]at hu';cases hu'
   ·obtain⟨pdi,sub,hop,hwok⟩:=OpsG_next h6 h3 k;exact⟨pre,sub,pdi,s,a',h1,h2,hwok,hop,h8,h9,h4.2⟩
   exfalso
   exact hjp ((h1 j hj (by simp[isR,hjw])).1 (hclos j hcl))
  obtain⟨pre,sub,pdi,s,a',h1,hpl,hwok,h6,h8,h9,hexl⟩:=data;exact wExec hP h.size h.down his hp hiW h1 hpl hwok h6 h8 h9 hexl fun a w hst=>ih _ _ _ hst (by omega)
def drp:List (Nat×V)→Nat→List (Nat×V)
 |[],_=>[]
 |(t,v)::r,d=>if t=d then drp r d else(t,v)::drp r d
def unQ (d id:Nat)(s:St):St:={s with env:=drp s.env d,own:=del s.own id}
theorem lk_drp (d t:Nat):∀l:List (Nat×V),lk (drp l d) t=if t=d then .unk else lk l t
 |[]=>by simp[drp,lk]
 |(t',v)::r=>by
  have ih:=lk_drp d t r;simp only[drp]
  by_cases h:t'=d
  ·rw[if_pos h,ih]
   by_cases h2:t=d
   ·rw[if_pos h2,if_pos h2]
   rw[if_neg h2,if_neg h2,lk,if_neg (fun e=>h2 (e.trans h))]
  rw[if_neg h];simp only[lk]
  by_cases h2:t=t'
  ·subst h2;rw[if_pos rfl,if_neg h,if_pos rfl]
  rw[if_neg h2,if_neg h2,ih]
structure QOk (ops:Array Oper) (q d:Nat) (t1 t2:WL):Prop where
 g1:GOk ops t1
 c1:covers ops t1 [] t1=true
 w1:gOkW ops t1 (some q) [] t1=true
 g2:GOk ops t2
 c2:coversX ops t2 q t2=true
 w2:gOkW ops t2 none [] t2=true
 qs:q<ops.size
 qR:isR t1 q=true
 qd:dstOf ops q=some d
 same:∀j,j<ops.size→wHas t2 j=(wHas t1 j||j==q)
 rd:∀j o,isR t2 j=true→ops[j]? =some o→d∉tmpsOf o
 al:∃o,ops[q]? =some o∧o.guard=none∧isAlloc o.op=true
theorem gOk_opt {ops:Array Oper}{q d:Nat}{t1 t2:WL}(h:gOk ops (.opt q d t1 t2)=true):QOk ops q d t1 t2:=by
 simp only[gOk,Bool.and_eq_true]at h;obtain⟨⟨⟨⟨⟨⟨⟨⟨⟨⟨⟨h1,h2⟩,h3⟩,h4⟩,h5⟩,h6⟩,h7⟩,h8⟩,h9⟩,h10⟩,h11⟩,h12⟩:=h;refine⟨gOk_spec h1,h2,h3,gOk_spec h4,h5,h6,of_decide_eq_true h7,h8,by simpa using h9,fun j hj=>?_,fun j o hj ho=>?_,?_⟩
 ·have:=List.all_eq_true.1 h10 j (by simpa using hj)
  exact beq_iff_eq.1 this
 ·have hlt:=(Array.getElem?_eq_some_iff.1 ho).1
  have:=List.all_eq_true.1 h11 j (by simpa using hlt)
  rw[hj,ho]at this
  simpa using this
 cases ho:ops[q]? with
 |none=>rw[ho]at h12;cases h12
 |some o=>
  rw[ho]at h12;simp only[Bool.and_eq_true,Option.isNone_iff_eq_none]at h12;exact⟨o,rfl,h12.1,h12.2⟩
theorem wpAny_standO {q d:Nat}{t1 t2:WL}(hk:QOk ops q d t1 t2)(hfz:∀j,∀b∈(es j).fz,b<σ.nx)(hqfz:(es q).fz=[])
  (hstep:∀(i:Nat) o,isR t1 i=true→ops[i]? =some o→stepOk P ops σ.nx i o (accum σ σ.nx ops es (isR t1) i) (es i))
  (hW1:OpsG P ops t1 (allR σ ops es t1) K) (hW2:OpsG P ops t2 (unQ d (σ.nx+q) (allR σ ops es t1)) K)
  {G:Ctx} {Q:Exit→Act→World→Prop} (hQ:∀s a w,K s→Sim G s a w→Q .normal a w) (hP:∀ch a a' w,Q (.panic ch) a w→Q (.panic ch) a' w):
  ∀(fuel:Nat) (listed:Array Bool) (a:Act) (w:World),StandG P G ops t1 (some q) True σ es K listed a w→toCome ops listed≤fuel→wpAny P .any ops Q fuel listed a w:=by
 have hR2:∀j,j<ops.size→isR t1 j=true→j≠q→isR t2 j=true:=fun j hj h1 hq=>by
  have:(j==q)=false:=by simpa using hq
  simp only[isR,hk.same j hj,this,Bool.or_false];exact h1
 have hR1:∀j,j<ops.size→isR t2 j=true→isR t1 j=true∧j≠q:=fun j hj h2=>by
  simp only[isR,hk.same j hj,Bool.not_eq_true',Bool.or_eq_false_iff]at h2;exact⟨by simp[isR,h2.1],by simpa using h2.2⟩
 have hq2:isR t2 q=false:=by simp[isR,hk.same q hk.qs]
 -- the runs with and without the new variable
 have hacc:∀k,k≤ops.size→(k≤q→accum σ σ.nx ops es (isR t1) k=accum σ σ.nx ops es (isR t2) k)∧(q<k→Alk (accum σ σ.nx ops es (isR t1) k) ((accum σ σ.nx ops es (isR t2) k).add (some d) (σ.nx+q) (es q))):=fun k hkN=>by
  refine⟨fun hkq=>accum_congr k fun j hj=>?_,fun hqk=>?_⟩
  ·have h1:j<ops.size:=by omega
   have h2:(j==q)=false:=by rw[beq_eq_false_iff_ne];omega
   simp only[isR,hk.same j h1,h2,Bool.or_false]
  have h3:=accum_one (σ:=σ) (nx0:=σ.nx) (e:=es) (N:=ops.size) (L:=isR t2) (i:=q) hq2 hk.g1.dst hfz k hkN hqk;rw[hk.qd]at h3
  rw[accum_congr (L:=isR t1) (L':=fun j=>isR t2 j||j==q) k fun j hj=>?_]
  ·exact h3
  have h1:j<ops.size:=by omega
  by_cases hjq:j=q
  ·subst hjq;rw[hk.qR];simp
  have h2:(j==q)=false:=by simpa using hjq
  simp only[isR,hk.same j h1,h2,Bool.or_false]
 have hlk:∀k,k≤ops.size→∀t,t≠d→lk (accum σ σ.nx ops es (isR t1) k).env t=lk (accum σ σ.nx ops es (isR t2) k).env t:=fun k hkN t ht=>by
  by_cases hkq:k≤q
  ·rw[(hacc k hkN).1 hkq]
  rw[((hacc k hkN).2 (by omega)).env t,add_env,if_neg (fun e=>ht (Option.some.inj e).symm)]
 have hagr:∀j o,isR t2 j=true→ops[j]? =some o→∀Z,Agr (accum σ σ.nx ops es (isR t2) j) Z σ.nx o→Agr (accum σ σ.nx ops es (isR t1) j) Z σ.nx o:=fun j o hj ho Z hZ=>by
  have hjs:=(Array.getElem?_eq_some_iff.1 ho).1;refine⟨by rw[hZ.n,accum_n,accum_n],fun x hx=>?_,fun b hb=>by rw[hZ.own b hb,accum_own _ j b hb,accum_own _ j b hb]⟩;rw[hZ.ev x hx]
  cases x with
  |tmp t=>
   have htm:t∈tmpsOf o:=List.mem_filterMap.2 ⟨.tmp t,by simpa using hx,rfl⟩;exact(hlk j (Nat.le_of_lt hjs) t (fun e=>hk.rd j o hj ho (e▸htm))).symm
  |const v=>rfl
  |global g=>rfl
  |func f=>rfl
 have hre:∀j o e,isR t2 j=true→ops[j]? =some o→REff P o (accum σ σ.nx ops es (isR t1) j) σ.nx (σ.nx+j) e→REff P o (accum σ σ.nx ops es (isR t2) j) σ.nx (σ.nx+j) e:=fun j o e hj ho h=>
  ⟨fun G dom ρ Z a w hs hd hZ=>h.1 G dom ρ Z a w hs hd (hagr j o hj ho Z hZ),fun hl=>⟨(h.2 hl).1,(h.2 hl).2.1,fun G dom ρ Z a w hs hZ=>(h.2 hl).2.2 G dom ρ Z a w hs (hagr j o hj ho Z hZ)⟩⟩
 have hstep2:∀(i:Nat) o,isR t2 i=true→ops[i]? =some o→stepOk P ops σ.nx i o (accum σ σ.nx ops es (isR t2) i) (es i):=fun i o hi ho=>by
  have his:=(Array.getElem?_eq_some_iff.1 ho).1;obtain⟨hd,hs⟩:=hstep i o (hR1 i his hi).1 ho;refine⟨fun t ht=>by have:=hd t ht;rw[accum_n]at this⊢;exact this,?_⟩
  cases hg:o.guard with
  |none=>rw[hg]at hs;exact hre i o _ hi ho hs
  |some gw=>
   obtain⟨g,want⟩:=gw;rw[hg]at hs;obtain⟨t,b,ht,hb,hs⟩:=hs;obtain⟨hgi,hgp,hgR⟩:=hk.g2.guard i o g want ho hi hg;have htd:t≠d:=fun e=>by
    subst e;exact hk.g2.dst g q t (by omega) hk.qs (hR1 g (by omega) hgR).2 ht hk.qd
   refine⟨t,b,ht,by rw[←hlk i (Nat.le_of_lt his) t htd];exact hb,?_⟩
   by_cases hbw:b=some want
   ·rw[if_pos hbw]at hs⊢;exact hre i o _ hi ho hs
   rw[if_neg hbw]at hs⊢;exact hs
 refine wpAny_standG (ex:=some q) (F:=True) hk.g1 (fun _=>hk.c1) (fun _=>hk.w1) hfz (fun _=>hstep) (fun _=>hW1) (fun _ q' hq' fuel listed a w i h hlR hsim hql hi hiH hf=>?_) hQ hP;obtain rfl:=Option.some.inj hq';obtain⟨hp,his,hu⟩:=ready_preds hi;have hlt:i<listed.size:=by rw[h.size];exact his
 have hiq:i≠q:=fun e=>by subst e;have:=hk.qR;rw[isR,hiH]at this;cases this
 have hiW2:wHas t2 i=true:=by rw[hk.same i his,hiH];rfl
 have hlR2:∀j,listed.getD j false=true→isR t2 j=true:=fun j hj=>by
  have hjs:j<ops.size:=by
   rw[←h.size];refine Nat.lt_of_not_le fun hle=>?_
   simp[Array.getD,Nat.not_lt.2 hle]at hj
  refine hR2 j hjs (hlR j hj) fun e=>?_;subst e;rw[hql]at hj;cases hj
 have hclos:∀j,closes ops ops.size i j=true→listed.getD j false=true:=fun j hj=>closes_listed h.down _ i j hp hj;have hnext:wNext t2 i=true:=by
  have h1:=List.all_eq_true.1 hk.c2 i (by simpa using his);rw[hiW2]at h1;have h2:(i==q)=false:=by simpa using hiq
  rw[h2]at h1;simp only[Bool.not_true,Bool.false_or,Bool.or_eq_true]at h1
  rcases h1 with h1|h1
  ·exact h1
  obtain⟨j,_,h3⟩:=List.any_eq_true.1 h1;simp only[Bool.and_eq_true]at h3;have h4:=hlR2 j (hclos j h3.2)
  simp[isR,h3.1]at h4
 obtain⟨pdi,sub,hop,hwok⟩:=OpsG_next hW2 hk.w2 hnext;have hsim2:SimD G (fun b=>b<σ.nx∨∃j,j<ops.size∧listed.getD j false=true∧b=σ.nx+j) (accum σ σ.nx ops es (fun j=>isR t2 j&&listed.getD j false) ops.size) a w:=by
  rw[accum_congr (L:=fun j=>isR t2 j&&listed.getD j false) (L':=fun j=>isR t1 j&&listed.getD j false) ops.size fun j hj=>?_]
  ·exact hsim
  cases hl:listed.getD j false with
  |false=>simp
  |true=>rw[hlR2 j hl,hlR j hl]
 obtain⟨a',hs',hu2⟩:=ghost (P:=P) hk.g2 hfz hstep2 hlR2 (fun j hj hjR hjl=>by
  rcases hwok.all j hj hjR with kd|ke|⟨k0,hk0,kc⟩
  ·obtain⟨o,_,_,_,hop⟩:=hwok.op;obtain⟨oj,d',_,k1,k2,_⟩:=hop j kd;exact⟨oj,k1,k2⟩
  ·cases ke
  have hk0:k0=i:=by simpa using hk0
  rw[hk0]at kc;rw[hclos j kc]at hjl;cases hjl) hsim2 h.down ops.size (O1 _)
 obtain⟨ρ',k1⟩:=hs';rw[accum_listed (ws:=t2) (fun j hj _=>by simp[hj])]at k1
 have k2:=k1.mono_dom (dom':=fun b=>b<σ.nx+ops.size) (fun b hb=>by rcases hb with hb|⟨j,hj,_,rfl⟩<;>omega)
 have hnone:lo (accum σ σ.nx ops es (isR t2) ops.size).own (σ.nx+q)=none:=by
  cases hB:lo (accum σ σ.nx ops es (isR t2) ops.size).own (σ.nx+q)with
  |none=>rfl
  |some B=>
   exfalso
   rcases(k1.own _ _ hB).1 with hd|⟨j,_,hjl,hd⟩
   ·omega
   have:j=q:=by omega
   subst this;rw[hql]at hjl;cases hjl
 -- the state without the new variable
 have halk:=(hacc ops.size (O1 _)).2 hk.qs;have k3:SimR G (fun b=>b<σ.nx+ops.size) ρ' (hide (accum σ σ.nx ops es (isR t2) ops.size) (fun t=>t=d)) a' w:=k2.hide (RU.refl _ _);have k4:Sim G (unQ d (σ.nx+q) (allR σ ops es t1)) a' w:=by
  refine⟨ρ',k3.alk ⟨fun t=>?_,fun b=>?_,?_⟩⟩
  ·show _=lk (drp (allR σ ops es t1).env d) t;rw[lk_drp]
   by_cases ht:t=d
   ·rw[if_pos ht,hide_unk _ (fun t=>t=d) _ ht]
   rw[if_neg ht,hide_ev _ (fun t=>t=d) _ ht];exact(hlk ops.size (O1 _) t ht).symm
  ·show _=lo (del (allR σ ops es t1).own (σ.nx+q)) b;rw[lo_del];have h5:=halk.own b;have h6:lo (allR σ ops es t1).own b=lo (accum σ σ.nx ops es (isR t1) ops.size).own b:=rfl;rw[h6,h5,add_own,hqfz]
   by_cases hb:b=σ.nx+q
   ·rw[if_pos hb,hb];exact hnone
   rw[if_neg hb];show lo (accum σ σ.nx ops es (isR t2) ops.size).own b=_;have hfi:frzIf [] b=id:=by funext v;simp[frzIf]
   cases(es q).blk with
   |none=>simp only[hfi,Option.map_id,id]
   |some B=>simp only[hfi,Option.map_id,id,if_neg hb]
  show(accum σ σ.nx ops es (isR t2) ops.size).n=(accum σ σ.nx ops es (isR t1) ops.size).n
  rw[accum_n,accum_n]
 refine wExec (ws:=t2) (σ:=σ) (es:=es) (F:=False) (ex:=none) hP h.size h.down his hp (by simp[isR,hiW2]) (pre:=[]) (fun j hj hjR=>?_) (fun k hk=>by cases hk) hwok hop k4 hu2 (fun q hq=>by cases hq) fun a w hst=>?_
 ·constructor
  ·intro k;rw[hlR2 j k]at hjR;cases hjR
  intro k;cases k
 refine wpAny_standG (ex:=none) (F:=False) hk.g2 (fun h=>h.elim) (fun h=>h.elim) hfz (fun h=>h.elim) (fun h=>h.elim) (fun h=>h.elim) hQ hP fuel _ a w hst ?_
 have:=toCome_set h.size his hu
 omega
end
end Go.Eng
namespace Go.Eng
open Go
def isNilC:Value→Bool
 |.slice a _ _=>match a with
  |none=>true
  |some _=>false
 |_=>false
def isNilO:Operand→Bool
 |.const v=>isNilC v
 |_=>false
def isEql:BinOp→Bool
 |.eql=>true
 |_=>false
def isWr:Op→Bool
 |.store _ _ _=>true
 |.binOp op _ _ y _=>isEql op&&isNilO y
 |.call c=>match c.callee with
  |.builtin b=>match b with
   |.append=>true
   |.cap=>true
   |.clear=>true
   |.copy=>true
   |_=>false
  |_=>false
 |_=>false
def isCallV:Op→Bool
 |.call c=>match c.callee with
  |.value _=>true
  |_=>false
 |_=>false
def orM (A B:Prop):Prop:=A∨B
def isLast:Op→Bool
 |.assign _=>true
 |op=>isWr op
def isTmp (d:Tmp):Operand→Bool
 |.tmp t=>t==d
 |_=>false
def cvUse (d:Tmp)(o:Op):Bool:=
 match o with
 |.convert _ _ x=>isTmp d x
 |_=>false
def frozenUse (d:Option Tmp)(os:List Oper):Bool:=
 match d with
 |none=>false
 |some d=>os.any fun o=>cvUse d o.op||match o.op with
  |.call c=>match c.callee with
   |.value _=>c.args.toList.any (isTmp d)
   |_=>false
  |.build _ ps=>ps.toList.any fun p=>isTmp d p.2
  |.buildSlice _ _ ps=>ps.toList.any fun p=>isTmp d p.2
  |_=>false
def uG (i:Nat)(os:List Oper):Bool:=os.any fun o=>match o.guard with
 |some (g,_)=>g==i
 |none=>false
def wCap (T:Tab)(s:St)(dst:Option Tmp)(t:TypeId)(x:Operand)(K:St→Prop):Prop:=
 match T t with
 |some E=>match E.k with
  |.sl _=>match s.ev x with
   |.one c=>match lenC c with
    |some n=>∀m:Nat,n≤m→(c= .nil→m=0)→Later K (s.put dst (.one (.int .i64 m)))
    |none=>False
   |_=>False
  |_=>False
 |none=>False
def slT (T:Tab)(t:TypeId):Prop:=
 match T t with
 |some S=>(match S.k with
  |.sl _=>True
  |_=>False)
 |none=>False
theorem slT_ok {T:Tab}{P:Program}(hT:TabOk P T){t:TypeId}(h:slT T t):∃e,P.underlying t=some (.slice e):=by
 unfold slT at h
 cases hTt:T t with
 |none=>rw[hTt]at h;exact h.elim
 |some S=>
  rw[hTt]at h;simp only at h
  split at h
  ·rename_i e hk
   exact⟨e,T_slice hT hTt hk⟩
  exact h.elim
def wNil (T:Tab)(s:St)(dst:Option Tmp)(t:TypeId)(x:Operand)(K:St→Prop):Prop:=
 match T t with
 |some E=>match E.k with
  |.sl _=>match s.ev x with
   |.one c=>match lenC c with
    |some n=>∀b:Bool,(0<n→b=false)→Later K (s.put dst (.one (.bool b)))
    |none=>False
   |_=>False
  |_=>False
 |none=>False
def wOp (T:Tab)(op:Op)(dst:Option Tmp)(s:St)(K:St→Prop):Prop:=
 match op with
 |.store t x y=>dst=none∧wStore T s t x y K
 |.binOp op t x y _=>isEql op=true∧isNilO y=true∧wNil T s dst t x K
 |.call c=>match c.callee with
  |.builtin b=>match b,c.args.toList,c.argTypes.toList with
   |.append,[x,y],[t,t']=>slT T t'∧wAppend T s dst t x y K
   |.cap,[x],[t]=>wCap T s dst t x K
   |.clear,[x],[t]=>wClear T s dst t x K
   |.copy,[x,y],[t,t']=>slT T t'∧wCopy T s dst t x y K
   |_,_,_=>False
  |_=>False
 |_=>False
def gsplit (u:Bool)(e:Eff)(K:Eff→Prop):Prop:=
 if u then(match e.val with
  |.one (.bool b)=>(b=true→Later K ⟨.one (.bool true),e.blk,e.fz⟩)∧(b=false→Later K ⟨.one (.bool false),e.blk,e.fz⟩)
  |_=>False)
 else K e
def after (s:St)(dst:Option Tmp)(e:Eff):St:={s.add dst s.nx e with nx:=s.nx+1}
def gset (u:Bool)(i:Nat)(dst:Option Tmp)(gd:List (Nat×Tmp)):List (Nat×Tmp):=
 if u then(match dst with
  |some d=>(i,d)::gd
  |none=>gd)else gd
def glook:List (Nat×Tmp)→Nat→Option Tmp
 |[],_=>none
 |(i',t)::r,i=>if i=i' then some t else glook r i
def guarded (s:St)(gd:List (Nat×Tmp))(g:Option (Nat×Bool))(A B:Prop):Prop:=
 match g with
 |none=>A
 |some (g,want)=>match glook gd g with
  |some t=>match gv (lk s.env t)with
   |some b=>if b=some want then A else B
   |none=>False
  |none=>False
def dstB (dst:Option Tmp)(n:Nat):Prop:=
 match dst with
 |none=>True
 |some d=>d<n
def fzB (nx0:Nat):List Nat→Prop
 |[]=>True
 |b::r=>b<nx0∧fzB nx0 r
def vcW (T:Tab)(P:Program):Nat→List Oper→List (Nat×Tmp)→St→(St→Prop)→Prop
 |_,[],_,s,K=>K s
 |i,o::os,gd,s,K=>
  dstB o.dst s.n∧guarded s gd o.guard
   (
    if isWr o.op then wOp T o.op o.dst s (fun s'=>vcW T P (i+1) os gd s' K)
    else if isCallV o.op then orM (rOp T P o.op s s.nx s.nx (frozenUse o.dst os) (fun e=>gsplit (uG i os) e fun e'=>vcW T P (i+1) os (gset (uG i os) i o.dst gd) (after s o.dst e') K)) (mCall P o.op o.dst s (fun s'=>vcW T P (i+1) os gd s' K))
    else rOp T P o.op s s.nx s.nx (frozenUse o.dst os) (fun e=>gsplit (uG i os) e fun e'=>vcW T P (i+1) os (gset (uG i os) i o.dst gd) (after s o.dst e') K))
   (vcW T P (i+1) os (gset (uG i os) i o.dst gd) (s.put o.dst (.tup [])) K)
def vcR (T:Tab)(P:Program)(nx0 len:Nat):Nat→List Oper→List (Nat×Tmp)→St→(St→Prop)→Prop
 |_,[],_,s,K=>K {s with nx:=nx0+len}
 |i,o::os,gd,s,K=>
  if isLast o.op then vcW T P i (o::os) gd {s with nx:=nx0+len} K
  else dstB o.dst s.n∧guarded s gd o.guard
   (if isCallV o.op then orM (rOp T P o.op s nx0 (nx0+i) (frozenUse o.dst os) (fun e=>fzB nx0 e.fz∧gsplit (uG i os) e fun e'=>vcR T P nx0 len (i+1) os (gset (uG i os) i o.dst gd) (s.add o.dst (nx0+i) e') K)) False else rOp T P o.op s nx0 (nx0+i) (frozenUse o.dst os) (fun e=>fzB nx0 e.fz∧gsplit (uG i os) e fun e'=>vcR T P nx0 len (i+1) os (gset (uG i os) i o.dst gd) (s.add o.dst (nx0+i) e') K))
   (vcR T P nx0 len (i+1) os (gset (uG i os) i o.dst gd) (s.put o.dst (.tup [])) K)
def vcGR (T:Tab)(P:Program)(nx0 len:Nat)(ws:WL):Nat→List Oper→List (Nat×Tmp)→St→(St→Prop)→Prop
 |_,[],_,s,K=>K {s with nx:=nx0+len}
 |i,o::os,gd,s,K=>
  if wHas ws i then vcGR T P nx0 len ws (i+1) os gd s K
  else dstB o.dst s.n∧guarded s gd o.guard
   (if isCallV o.op then orM (rOp T P o.op s nx0 (nx0+i) (frozenUse o.dst os) (fun e=>fzB nx0 e.fz∧gsplit (uG i os) e fun e'=>vcGR T P nx0 len ws (i+1) os (gset (uG i os) i o.dst gd) (s.add o.dst (nx0+i) e') K)) False else rOp T P o.op s nx0 (nx0+i) (frozenUse o.dst os) (fun e=>fzB nx0 e.fz∧gsplit (uG i os) e fun e'=>vcGR T P nx0 len ws (i+1) os (gset (uG i os) i o.dst gd) (s.add o.dst (nx0+i) e') K))
   (vcGR T P nx0 len ws (i+1) os (gset (uG i os) i o.dst gd) (s.put o.dst (.tup [])) K)
def promO (T:Tab)(P:Program)(os:List Oper)(o:Oper)(d:Nat)(s:St):Prop:=match o.guard with
 |none=>rOp T P o.op s s.nx s.nx false (fun e=>e.val=lk s.env d)
 |some (g,want)=>match(os[g]?).bind (·.dst)with
  |some t=>match gv (lk s.env t)with
   |some b=>if b=some want then rOp T P o.op s s.nx s.nx false (fun e=>e.val=lk s.env d)else lk s.env d= .tup []
   |none=>False
  |none=>False
def prom (T:Tab)(P:Program)(os:List Oper):List Nat→St→Prop
 |[],_=>True
 |j::r,s=>(match os[j]? with
  |some o=>match o.dst with
   |some d=>d<s.n∧promO T P os o d s
   |none=>False
  |none=>False)∧prom T P os r s
def wAny (T:Tab)(P:Program)(o:Oper)(os:List Oper)(s:St)(K:St→Prop):Prop:=
 if isWr o.op then wOp T o.op o.dst s K
 else if isCallV o.op then orM (rOp T P o.op s s.nx s.nx (frozenUse o.dst os) (fun e=>K (after s o.dst e))) (mCall P o.op o.dst s K)
 else rOp T P o.op s s.nx s.nx (frozenUse o.dst os) (fun e=>K (after s o.dst e))
def wGd (T:Tab)(P:Program)(os:List Oper)(o:Oper)(s:St)(K:St→Prop):Prop:=match o.guard with
 |none=>wAny T P o os s K
 |some (g,want)=>match(os[g]?).bind (·.dst)with
  |some t=>match gv (lk s.env t)with
   |some b=>if b=some want then wAny T P o os s K else K (s.put o.dst (.tup []))
   |none=>False
  |none=>False
def vcGS (T:Tab)(P:Program)(os:List Oper)(i:Nat)(pd:List Nat)(s:St)(K:St→Prop):Prop:=match os[i]? with
  |some o=>dstB o.dst s.n∧wGd T P os o s (fun s'=>prom T P os pd s'∧K s')
  |none=>False
def vcGW (T:Tab)(P:Program)(os:List Oper):WL→St→(St→Prop)→Prop
 |.nil,s,K=>K s
 |.cons i pd sub .nil,s,K=>vcGS T P os i pd s (fun s'=>vcGW T P os sub s' K)
 |.cons i pd sub (.cons i' pd' sub' alt'),s,K=>vcGS T P os i pd s (fun s'=>vcGW T P os sub s' K)∧vcGW T P os (.cons i' pd' sub' alt') s K
 |.cons _ _ _ (.opt _ _ _ _),_,_=>False
 |.opt _ _ _ _,_,_=>False
structure Kp where
 ks:List Nat
 ms:List (Nat×WL)
def modeOf:List (Nat×WL)→Nat→Option WL
 |[],_=>none
 |(i,ws)::r,id=>if id=i then some ws else modeOf r id
def gc (keep:List Nat)(s:St):St:={s with env:=keep.map fun t=>(t,lk s.env t)}
def vcDraw (T:Tab)(P:Program)(m:Option WL)(os:List Oper)(s:St)(K:St→Prop):Prop:=
 match m with
 |none=>vcR T P s.nx os.length 0 os [] s K
 |some (.opt q d t1 t2)=>vcGR T P s.nx os.length t1 0 os [] s (fun s'=>vcGW T P os t1 s' K∧vcGW T P os t2 (unQ d (s.nx+q) s') K)
 |some ws=>vcGR T P s.nx os.length ws 0 os [] s (fun s'=>vcGW T P os ws s' K)
def vcRegion (T:Tab)(P:Program)(ms:List (Nat×WL))(id:Nat)(draw:Bool)(os:List Oper)(s:St)(K:St→Prop):Prop:=
 if draw then vcDraw T P (modeOf ms id) os s K else vcW T P 0 os [] s K
def Sub (s s':St):Prop:=∀G a w,Sim G s a w→Sim G s' a w
def vc (T:Tab)(P:Program)(keep:Kp):Code→St→(Exit→St→Prop)→Prop
 |.skip,s,Q=>Q .normal s
 |.region id ops draw,s,Q=>vcRegion T P keep.ms id draw ops.toList s (fun s'=>Q .normal (gc keep.ks s'))
 |.seq a b,s,Q=>vc T P keep a s (fun e s'=>match e with
  |.normal=>vc T P keep b s' Q
  |e=>Q e s')
 |.cond c a b,s,Q=>match s.ev c with
  |.one (.bool t)=>(t=true→Later (fun s=>vc T P keep a s Q) s)∧(t=false→Later (fun s=>vc T P keep b s Q) s)
  |_=>False
 |.block id c,s,Q=>vc T P keep c s (fun e s'=>match e with
  |.exit id'=>if id'=id then Q .normal s' else Q (.exit id') s'
  |e=>Q e s')
 |.loop c,s,Q=>∃(ι:Type) (I:ι→St) (m:ι→Nat) (x0:ι),Sub s (I x0)∧∀x,Later (fun s=>vc T P keep c s (fun e s'=>match e with
  |.normal=>∃y,Sub s' (I y)∧m y<m x
  |e=>Q e s')) (I x)
 |.exit id,s,Q=>Q (.exit id) s
 |.ret,s,Q=>Q .ret s
 |_,_,_=>False
theorem OpW.mono {P:Program}{ops:Array Oper}{o:Oper}{s:St}{K K':St→Prop}(h:OpW P ops o s K)(hk:∀s',K s'→K' s'):OpW P ops o s K':=by
 unfold OpW at*
 have hw:WEff P o s K→WEff P o s K':=fun h G a w hs Q next hn=>h G a w hs Q next (fun s' a' w' h1 h2=>hn s' a' w' (hk s' h1) h2)
 split at h
 ·exact hw h
 obtain⟨t,b,h1,h2,h3,h4⟩:=h;exact⟨t,b,h1,h2,fun e=>hw (h3 e),fun e=>hk _ (h4 e)⟩
def GdOk (ops:Array Oper)(gd:List (Nat×Tmp)):Prop:=∀g t,glook gd g=some t→dstOf ops g=some t
theorem GdOk.set {ops:Array Oper}{gd:List (Nat×Tmp)}(h:GdOk ops gd){i:Nat}{o:Oper}(ho:ops[i]? =some o)(u:Bool):GdOk ops (gset u i o.dst gd):=by
 unfold gset
 split
 ·cases hd:o.dst with
  |none=>exact h
  |some d=>
   intro g t hg;simp only[glook]at hg
   split at hg
   ·rename_i hgi
    subst hgi;simp only[Q6]at hg;subst hg;unfold dstOf;rw[ho];exact hd
   exact h g t hg
 exact h
theorem gsplit_use {u:Bool}{e:Eff}{K:Eff→Prop}(h:gsplit u e K):K e:=by
 unfold gsplit at h
 split at h
 ·split at h
  ·rename_i b hb
   obtain⟨v,bl,fz⟩:=e;simp only at hb;subst hb
   cases b
   ·exact h.2 rfl
   exact h.1 rfl
  exact h.elim
 exact h
section
variable {T:Tab}{P:Program}(hT:TabOk P T)
include hT
theorem sCap {o:Oper}{s:St}{K:St→Prop}{c:Call}(ho:o.op= .call c)(hcal:c.callee= .builtin .cap){x:Operand}(hargs:c.args= #[x]){t:TypeId}(htys:c.argTypes= #[t])(hdn:dstLt o s.n)(h:wCap T s o.dst t x K):WEff P o s K:=by
 unfold wCap at h
 cases hTt:T t with
 |none=>rw[hTt]at h;exact h.elim
 |some E=>
  rw[hTt]at h;simp only at h
  split at h
  ·rename_i e hEk
   have hu:=T_slice hT hTt hEk
   split at h
   ·rename_i cc hx
    split at h
    ·rename_i n hl
     intro G a w hsim Q next hk;obtain⟨ρ,hs⟩:=hsim;have hev:=hs.ev x;rw[hx]at hev;obtain⟨ad,cap,hv,hc,hn⟩:=lenC_is hl hev;have hr:(execOp a.eval o).run P w= .ok (.value (.int .i64 cap)) w:=by
      unfold execOp;rw[ho];simp only[resolve,hcal,Sem.run_bind,Sem.run_pure,Q7,invoke,Go.builtin,hargs,htys];simp only[Builtin.cap_,hv,List.map_toArray,List.map_cons,List.map_nil,List.getElem?_toArray,List.getElem?_cons_zero,Sem.run_bind,run_underlying' hu,Q7,Sem.run_pure];rfl
     refine Oper.wp_value hr (hk _ _ _ (h cap hc hn) ⟨ρ,?_⟩);have h1:=hs.put (dst:=o.dst) (x:=.one (.int .i64 cap)) (v:=.int .i64 cap) hdn rfl
     cases hd:o.dst with
     |none=>rw[hd]at h1;exact h1
     |some d=>rw[hd]at h1;exact h1
    exact h.elim
   exact h.elim
  exact h.elim
omit hT in
theorem lenC_addr {ρ:Nat→Loc}{dom ok:Nat→Prop}{w:World}{c:C}{n:Nat}{v:Value}(hl:lenC c=some n)(h:RepC ρ dom ok w c v):∃a cap,v= .slice a n cap∧(0<n→∃ad,a=some ad):=by
 cases c with
 |own b wd off len=>
  simp only[lenC,Q6]at hl;subst hl;obtain⟨_,_,cap,_,hr⟩:=h
  rcases hr with⟨g,o1,o2,_,hv,_⟩|⟨_,hv,h0,_⟩
  ·exact⟨_,_,hv,fun _=>⟨_,rfl⟩⟩
  exact⟨none,0,by rw[hv,h0],fun hp=>by omega⟩
 |win b b2 off len=>
  simp only[lenC,Q6]at hl;subst hl;obtain⟨_,_,_,cap,_,hr⟩:=h
  rcases hr with⟨g,o1,o2,_,hv,_⟩|⟨_,hv,h0,_⟩
  ·exact⟨_,_,hv,fun _=>⟨_,rfl⟩⟩
  exact⟨none,0,by rw[hv,h0],fun hp=>by omega⟩
 |ints k xs=>
  simp only[lenC,Q6]at hl;subst hl;obtain⟨a,cap,hv,_,hr⟩:=h
  rcases hr with hr|⟨g,o,ha,_⟩
  ·exact⟨a,cap,hv,fun hp=>by omega⟩
  exact⟨a,cap,hv,fun _=>⟨_,ha⟩⟩
 |rows wd m f=>
  simp only[lenC,Q6]at hl;subst hl;obtain⟨a,cap,hv,_,hr⟩:=h
  rcases hr with hr|⟨g,o,ha,_⟩
  ·exact⟨a,cap,hv,fun hp=>by omega⟩
  exact⟨a,cap,hv,fun _=>⟨_,ha⟩⟩
 |nil=>
  simp only[lenC,Q6]at hl;subst hl;exact⟨none,0,h,fun hp=>by omega⟩
 |any=>simp[lenC]at hl
 |bool b=>simp[lenC]at hl
 |int k n=>simp[lenC]at hl
 |str b=>simp[lenC]at hl
 |ptr b off=>simp[lenC]at hl
 |eptr b wd i off=>simp[lenC]at hl
 |elt c wd i off=>simp[lenC]at hl
 |fn f n caps=>simp[lenC]at hl
omit hT in
theorem run_equalIn_nil (w:World)(d:Nat){t e:TypeId}(hu:P.underlying t=some (.slice e))(ad:Option Addr)(n cap l c0:Nat):(Op.equalIn (d+1) t (.slice ad n cap) (.slice none l c0)).run P w= .ok ad.isNone w:=by
 cases ad<;>simp only[Op.equalIn,Sem.run_bind,run_underlying' hu,Q7,Sem.run_pure,Option.isNone]
theorem sNil {
       o:Oper} {s:St} {K:St→Prop} {op:BinOp} {t t':TypeId} {x y:Operand} (ho:o.op= .binOp op t x y t') (hop:isEql op=true) (hy:isNilO y=true) (hdn:dstLt o s.n) (h:wNil T s o.dst t x K):WEff P o s K:=by
 have hop:op= .eql:=by cases op<;>simp [isEql]at hop⊢
 subst hop;have hyv:∃l c,y= .const (.slice none l c):=by
  cases y<;>simp [isNilO]at hy
  rename_i v
  cases v<;>simp [isNilC]at hy
  rename_i a l c
  cases a<;>simp at hy
  exact⟨l,c,rfl⟩
 obtain⟨l,c0,rfl⟩:=hyv;unfold wNil at h
 cases hTt:T t with
 |none=>rw[hTt]at h;exact h.elim
 |some E=>
  rw[hTt]at h;simp only at h
  split at h
  ·rename_i e hEk
   have hu:=T_slice hT hTt hEk
   split at h
   ·rename_i cc hx
    split at h
    ·rename_i n hl
     intro G a w hsim Q next hk;obtain⟨ρ,hs⟩:=hsim;have hev:=hs.ev x;rw[hx]at hev;obtain⟨ad,cap,hv,hn⟩:=lenC_addr hl hev;have hr:(execOp a.eval o).run P w= .ok (.value (.bool ad.isNone)) w:=by
      unfold execOp;rw[ho];refine run_v ?_;have hce:a.eval (.const (.slice none l c0))= .slice none l c0:=rfl;rw[hv,hce];have hg:(eqGuard .eql t x (.const (.slice none l c0)) (.slice ad n cap) (.slice none l c0)).run P w= .ok () w:=by
       unfold eqGuard;rfl
      have he:(Op.equal t (.slice ad n cap) (.slice none l c0)).run P w= .ok ad.isNone w:=by
       exact run_equalIn_nil w 9999 hu ad n cap l c0
      rw[Sem.run_bind,hg,Q7];simp only[Go.binOp,Sem.run_bind,he,Q7,Sem.run_pure]
     refine Oper.wp_value hr (hk _ _ _ (h ad.isNone (fun hp=>by obtain⟨x,rfl⟩:=hn hp;rfl)) ⟨ρ,?_⟩);have h1:=hs.put (dst:=o.dst) (x:=.one (.bool ad.isNone)) (v:=.bool ad.isNone) hdn rfl
     cases hd:o.dst with
     |none=>rw[hd]at h1;exact h1
     |some d=>rw[hd]at h1;exact h1
    exact h.elim
   exact h.elim
  exact h.elim
theorem wOp_sound {o:Oper}{s:St}{K:St→Prop}(hdn:dstLt o s.n)(h:wOp T o.op o.dst s K):WEff P o s K:=by
 unfold wOp at h
 split at h
 ·rename_i t x y ho
  exact sStore hT ho h.1 h.2
 ·rename_i op t x y t' ho
  exact sNil hT ho h.1 h.2.1 hdn h.2.2
 ·rename_i c ho
  split at h
  ·rename_i b hb
   split at h
   ·rename_i x y t t' hb2 hargs htys
    obtain⟨hsl,h⟩:=h;obtain⟨e',he'⟩:=slT_ok hT hsl;exact sAppend hT ho hb (Array.toList_inj.1 hargs) (Array.toList_inj.1 htys) he' hdn h
   ·rename_i x t hb2 hargs htys
    exact sCap hT ho hb (Array.toList_inj.1 hargs) (Array.toList_inj.1 htys) hdn h
   ·rename_i x t hb2 hargs htys
    exact sClear hT ho hb (Array.toList_inj.1 hargs) (Array.toList_inj.1 htys) hdn h
   ·rename_i x y t t' hb2 hargs htys
    exact sCopy hT ho hb (Array.toList_inj.1 hargs) (Array.toList_inj.1 htys) hdn h.2
   exact h.elim
  exact h.elim
 exact h.elim
omit hT in
theorem dstB_lt {o:Oper}{n:Nat}(h:dstB o.dst n):dstLt o n:=fun d hd=>by rw[hd]at h;exact h
theorem vcW_sound {ops:Array Oper}:∀(os:List Oper) (i:Nat) (gd:List (Nat×Tmp)) (s:St) (K:St→Prop),ops.toList.drop i=os→GdOk ops gd→vcW T P i os gd s K→OpsW P ops os s K
 |[],_,_,_,_,_,_,h=>h
 |o::os,i,gd,s,K,hdrop,hgd,h=>by
  simp only[vcW]at h;obtain⟨hd,h⟩:=h;have hdl:=dstB_lt hd;have ho:ops[i]? =some o:=by
   have:(ops.toList.drop i)[0]? =some o:=by rw[hdrop];rfl
   rw[List.getElem?_drop]at this
   simpa using this
  have hdrop':ops.toList.drop (i+1)=os:=by
   rw[←List.drop_drop,hdrop];rfl
  have taken:(if isWr o.op then wOp T o.op o.dst s (fun s'=>vcW T P (i+1) os gd s' K)
    else if isCallV o.op then orM (rOp T P o.op s s.nx s.nx (frozenUse o.dst os) (fun e=>gsplit (uG i os) e fun e'=>vcW T P (i+1) os (gset (uG i os) i o.dst gd) (after s o.dst e') K)) (mCall P o.op o.dst s (fun s'=>vcW T P (i+1) os gd s' K))
    else rOp T P o.op s s.nx s.nx (frozenUse o.dst os) (fun e=>gsplit (uG i os) e fun e'=>vcW T P (i+1) os (gset (uG i os) i o.dst gd) (after s o.dst e') K))→WEff P o s (fun s'=>OpsW P ops os s' K):=by
   intro h
   split at h
   ·have:=wOp_sound hT hdl h
    intro G a w hs Q next hn;exact this G a w hs Q next (fun s' a' w' h1 h2=>hn s' a' w' (vcW_sound os (i+1) gd s' K hdrop' hgd h1) h2)
   split at h
   ·rcases h with h|h
    ·obtain⟨e,hK,hre⟩:=rOp_sound hT hdl h;exact hre.toW (vcW_sound os (i+1) _ _ K hdrop' (hgd.set ho _) (gsplit_use hK))
    have:=sMCall hdl h
    intro G a w hs Q next hn;exact this G a w hs Q next (fun s' a' w' h1 h2=>hn s' a' w' (vcW_sound os (i+1) gd s' K hdrop' hgd h1) h2)
   obtain⟨e,hK,hre⟩:=rOp_sound hT hdl h;exact hre.toW (vcW_sound os (i+1) _ _ K hdrop' (hgd.set ho _) (gsplit_use hK))
  refine⟨hdl,?_⟩;unfold OpW;unfold guarded at h
  cases hg:o.guard with
  |none=>rw[hg]at h;exact taken h
  |some gw=>
   obtain⟨g,want⟩:=gw;rw[hg]at h;simp only at h
   cases hgl:glook gd g with
   |none=>rw[hgl]at h;exact h.elim
   |some t=>
    rw[hgl]at h;simp only at h
    split at h
    ·rename_i b hb
     refine⟨t,b,hgd g t hgl,hb,fun e=>?_,fun e=>?_⟩
     ·rw[if_pos e]at h;exact taken h
     rw[if_neg e]at h;exact vcW_sound os (i+1) _ _ K hdrop' (hgd.set ho _) h
    exact h.elim
theorem wAny_sound {o:Oper}{os:List Oper}{s:St}{K:St→Prop}(hd:dstLt o s.n)(h:wAny T P o os s K):WEff P o s K:=by
 unfold wAny at h
 split at h
 ·exact wOp_sound hT hd h
 split at h
 ·rcases h with h|h
  ·obtain⟨e,hK,hre⟩:=rOp_sound hT hd h;exact hre.toW hK
  exact sMCall hd h
 obtain⟨e,hK,hre⟩:=rOp_sound hT hd h;exact hre.toW hK
theorem prom_sound {ops:Array Oper}{s:St}:∀(pd:List Nat),(∀j∈pd,∃o,ops[j]? =some o∧isLate o.op=true)→prom T P ops.toList pd s→Promise P ops s pd
 |[],_,_=>fun j hj=>by cases hj
 |i::r,hl,h=>by
  simp only[prom]at h;obtain⟨h1,h2⟩:=h;intro j hj
  rcases List.mem_cons.1 hj with rfl|hj
  ·obtain⟨o,ho,hlate⟩:=hl j (by simp);rw[Array.getElem?_toList,ho]at h1;simp only at h1
   cases hd:o.dst with
   |none=>rw[hd]at h1;exact h1.elim
   |some d=>
    rw[hd]at h1;obtain⟨hdn,h1⟩:=h1;have doit:rOp T P o.op s s.nx s.nx false (fun e=>e.val=lk s.env d)→PEff P o s s.nx (lk s.env d):=fun h1=>by
     obtain⟨e,he,hre⟩:=rOp_sound hT (fun d' hd'=>by rw[hd]at hd';obtain rfl:=Option.some.inj hd';exact hdn) h1;have he:e.val=lk s.env d:=he;rw[←he];exact(hre.2 hlate).2.2
    refine⟨o,d,ho,hd,?_,hdn⟩;unfold promO at h1;unfold PromG
    split at h1
    ·rename_i hg;(try rw[hg]);exact doit h1
    rename_i g want hg
    try rw[hg]
    split at h1
    ·rename_i t ht
     split at h1
     ·rename_i b hb
      refine⟨t,b,?_,hb,?_⟩
      ·unfold dstOf;rw[←Array.getElem?_toList];exact ht
      split at h1
      ·rename_i hbw;rw[if_pos hbw];exact doit h1
      rename_i hbw;rw[if_neg hbw];exact h1
     exact h1.elim
    exact h1.elim
  exact prom_sound r (fun j hj=>hl j (by simp[hj])) h2 j hj
theorem vcGS_sound {ops:Array Oper}{ws:WL}{ex:Option Nat}{pre:List Nat}{i:Nat}{pd:List Nat}{sub:WL}{s:St}{K K':St→Prop}(h1:WOk ops ws ex pre i pd sub)(h:vcGS T P ops.toList i pd s K)(hK:∀s',K s'→K' s'):OpS P ops i pd s K':=by
 simp only[vcGS,Array.getElem?_toList]at h;obtain⟨o,ho,_,_,hop⟩:=h1.op;rw[ho]at h;obtain⟨hd,h⟩:=h;have hdl:dstLt o s.n:=dstB_lt hd;have hpr:∀s',prom T P ops.toList pd s'→Promise P ops s' pd:=fun s' k=>prom_sound hT pd (fun j hj=>by obtain⟨oj,d,_,k1,k2,_⟩:=hop j hj;exact⟨oj,k1,k2⟩) k;have hgo:wAny T P o ops.toList s (fun s'=>prom T P ops.toList pd s'∧K s')→WEff P o s (fun s'=>Promise P ops s' pd∧K' s'):=fun h G a w hs Q next hk=>wAny_sound hT hdl h G a w hs Q next fun s' a' w' k1 k2=>hk s' a' w' ⟨hpr _ k1.1,hK _ k1.2⟩ k2;refine⟨o,ho,hdl,?_⟩;unfold wGd at h;unfold OpG
 split at h
 ·rename_i hg;(try rw[hg]);exact hgo h
 rename_i g want hg
 try rw[hg]
 split at h
 ·rename_i t ht
  split at h
  ·rename_i b hb
   refine⟨t,b,by unfold dstOf;rw[←Array.getElem?_toList];exact ht,hb,?_⟩
   split at h
   ·rename_i hbw;rw[if_pos hbw];exact hgo h
   rename_i hbw;rw[if_neg hbw];exact⟨hpr _ h.1,hK _ h.2⟩
  exact h.elim
 exact h.elim
theorem vcGW_sound {ops:Array Oper}{ws:WL}{ex:Option Nat}:∀(t:WL) (pre:List Nat) (s:St) (K:St→Prop),gOkW ops ws ex pre t=true→vcGW T P ops.toList t s K→OpsG P ops t s K
 |.nil,_,_,_,_,h=>h
 |.opt _ _ _ _,_,_,_,_,h=>h.elim
 |.cons _ _ _ (.opt _ _ _ _),_,_,_,_,h=>by rw[vcGW]at h;exact h.elim
 |.cons i pd sub .nil,pre,s,K,hg,h=>by
  obtain⟨h1,_⟩:=gOkW_cons hg;rw[vcGW]at h;rw[OpsG];exact vcGS_sound hT h1 h fun s' k=>vcGW_sound sub (i::pre) s' K h1.sub k
 |.cons i pd sub (.cons i' pd' sub' alt'),pre,s,K,hg,h=>by
  obtain⟨h1,h2⟩:=gOkW_cons hg;rw[vcGW]at h;rw[OpsG];exact⟨vcGS_sound hT h1 h.1 fun s' k=>vcGW_sound sub (i::pre) s' K h1.sub k,vcGW_sound (.cons i' pd' sub' alt') pre s K h2 h.2⟩
def LaidG (P:Program)(ops:Array Oper)(ws:WL)(σ:St)(es:Nat→Eff)(k:Nat):Prop:=
 (∀j,∀b∈(es j).fz,b<σ.nx)∧(∀(j:Nat) o,j<k→isR ws j=true→ops[j]? =some o→stepOk P ops σ.nx j o (accum σ σ.nx ops es (isR ws) j) (es j))∧
  ∀(j:Nat) o,j<k→isR ws j=true→ops[j]? =some o→isAlloc o.op=true→(es j).fz=[]
omit hT in
theorem rOp_fz {op:Op}{s:St}{nx0 id:Nat}{fz:Bool}{K:Eff→Prop}(ha:isAlloc op=true)(h:rOp T P op s nx0 id fz K):rOp T P op s nx0 id fz (fun e=>K e∧e.fz=[]):=by
 cases op<;>simp only[isAlloc,Bool.false_eq_true]at ha
 simp only[rOp]at h⊢
 split at h
 ·exact⟨h,trivial⟩
 exact h.elim
def nRof (os:List Oper):Nat:=(os.takeWhile fun o=>!isLast o.op).length
omit hT in
theorem fzB_lt {nx0:Nat}:∀{l:List Nat},fzB nx0 l→∀b∈l,b<nx0
 |[],_,b,hb=>by simp at hb
 |x::r,h,b,hb=>by
  rcases List.mem_cons.1 hb with rfl|hb
  ·exact h.1
  exact fzB_lt h.2 b hb
omit hT in
theorem accum_es {σ:St}{nx0:Nat}{ops:Array Oper}{e e':Nat→Eff}{L:Nat→Bool}:∀k,(∀j,j<k→e j=e' j)→accum σ nx0 ops e L k=accum σ nx0 ops e' L k:=by
 intro k
 induction k with
 |zero=>intro _;rfl
 |succ k ih=>intro h;simp only[accum,ih (fun j hj=>h j (by omega)),h k (by omega)]
def Laid (P:Program)(ops:Array Oper)(σ:St)(es:Nat→Eff)(k:Nat):Prop:=
 (∀j,∀b∈(es j).fz,b<σ.nx)∧∀(j:Nat) o,j<k→ops[j]? =some o→stepOk P ops σ.nx j o (accum σ σ.nx ops es (fun _=>true) j) (es j)
theorem vcR_sound {ops:Array Oper}{σ:St}:∀(os:List Oper) (i:Nat) (gd:List (Nat×Tmp)) (s:St) (K:St→Prop) (es:Nat→Eff),ops.toList.drop i=os→GdOk ops gd→s=accum σ σ.nx ops es (fun _=>true) i→
  Laid P ops σ es i→vcR T P σ.nx ops.size i os gd s K→
  ∃es',Laid P ops σ es' (i+nRof os)∧OpsW P ops (ops.toList.drop (i+nRof os)) {accum σ σ.nx ops es' (fun _=>true) (i+nRof os)with nx:=σ.nx+ops.size} K
 |[],i,gd,s,K,es,hdrop,hgd,hs,hl,h=>by
  refine⟨es,hl,?_⟩;simp only[nRof,List.takeWhile_nil,List.length_nil,Nat.add_zero,hdrop];rw[←hs];exact h
 |o::os,i,gd,s,K,es,hdrop,hgd,hs,hl,h=>by
  simp only[vcR]at h;have ho:ops[i]? =some o:=by
   have:(ops.toList.drop i)[0]? =some o:=by rw[hdrop];rfl
   rw[List.getElem?_drop]at this
   simpa using this
  have hdrop':ops.toList.drop (i+1)=os:=by
   rw[←List.drop_drop,hdrop];rfl
  by_cases hlast:isLast o.op=true
  ·rw[if_pos hlast]at h;have hn:nRof (o::os)=0:=by simp[nRof,List.takeWhile_cons,hlast]
   rw[hn,Nat.add_zero,hdrop];refine⟨es,hl,?_⟩
   have:=vcW_sound hT (ops:=ops) (o::os) i gd _ K hdrop hgd h
   rw[hs]at this;exact this
  rw[if_neg hlast]at h;obtain⟨hd,h⟩:=h;have hdl:=dstB_lt hd;have hn:nRof (o::os)=nRof os+1:=by simp[nRof,List.takeWhile_cons,hlast]
  rw[hn,show i+(nRof os+1)=i+1+nRof os by omega]
  -- one more laid down
  have more:∀(e:Eff) (gd':List (Nat×Tmp)),GdOk ops gd'→(∀b∈e.fz,b<σ.nx)→stepOk P ops σ.nx i o s e→vcR T P σ.nx ops.size (i+1) os gd' (s.add o.dst (σ.nx+i) e) K→
    ∃es',Laid P ops σ es' (i+1+nRof os)∧OpsW P ops (ops.toList.drop (i+1+nRof os)) {accum σ σ.nx ops es' (fun _=>true) (i+1+nRof os)with nx:=σ.nx+ops.size} K:=by
   intro e gd' hgd' hfz hst hv;have hsame:∀j,j<i→es j=(fun j=>if j=i then e else es j) j:=fun j hj=>by simp only;rw[if_neg (by omega)]
   have hacc:∀j,j≤i→accum σ σ.nx ops (fun j=>if j=i then e else es j) (fun _=>true) j=accum σ σ.nx ops es (fun _=>true) j:=fun j hj=>(accum_es j (fun m hm=>hsame m (by omega))).symm;refine vcR_sound os (i+1) gd' (s.add o.dst (σ.nx+i) e) K (fun j=>if j=i then e else es j) hdrop' hgd' ?_ ⟨fun j b hb=>?_,fun j o' hj ho'=>?_⟩ hv
   ·simp only[accum,if_true];rw[hacc i (O1 _),←hs]
    have:dstOf ops i=o.dst:=by unfold dstOf;rw[ho];rfl
    rw[this]
   ·simp only at hb
    split at hb
    ·exact hfz b hb
    exact hl.1 j b hb
   rw[hacc j (by omega)]
   by_cases hji:j=i
   ·subst hji;rw[ho]at ho';obtain rfl:=Option.some.inj ho';simp only[if_true];rw[←hs];exact hst
   simp only[hji,if_false];exact hl.2 j o' (by omega) ho'
  have taken:(if isCallV o.op then orM (rOp T P o.op s σ.nx (σ.nx+i) (frozenUse o.dst os) (fun e=>fzB σ.nx e.fz∧gsplit (uG i os) e fun e'=>vcR T P σ.nx ops.size (i+1) os (gset (uG i os) i o.dst gd) (s.add o.dst (σ.nx+i) e') K)) False else rOp T P o.op s σ.nx (σ.nx+i) (frozenUse o.dst os) (fun e=>fzB σ.nx e.fz∧gsplit (uG i os) e fun e'=>vcR T P σ.nx ops.size (i+1) os (gset (uG i os) i o.dst gd) (s.add o.dst (σ.nx+i) e') K))→
    ∃e,REff P o s σ.nx (σ.nx+i) e∧(∀b∈e.fz,b<σ.nx)∧vcR T P σ.nx ops.size (i+1) os (gset (uG i os) i o.dst gd) (s.add o.dst (σ.nx+i) e) K:=by
   intro h;have h:rOp T P o.op s σ.nx (σ.nx+i) (frozenUse o.dst os) (fun e=>fzB σ.nx e.fz∧gsplit (uG i os) e fun e'=>vcR T P σ.nx ops.size (i+1) os (gset (uG i os) i o.dst gd) (s.add o.dst (σ.nx+i) e') K):=by
    split at h
    ·rcases h with h|h
     ·exact h
     exact h.elim
    exact h
   obtain⟨e,hK,hre⟩:=rOp_sound hT hdl h;exact⟨e,hre,fzB_lt hK.1,gsplit_use hK.2⟩
  unfold guarded at h
  cases hg:o.guard with
  |none=>
   rw[hg]at h;obtain⟨e,hre,hfz,hv⟩:=taken h;exact more e _ (hgd.set ho _) hfz ⟨hdl,by rw[hg];exact hre⟩ hv
  |some gw=>
   obtain⟨g,want⟩:=gw;rw[hg]at h;simp only at h
   cases hgl:glook gd g with
   |none=>rw[hgl]at h;exact h.elim
   |some t=>
    rw[hgl]at h;simp only at h
    split at h
    ·rename_i b hb
     by_cases hbw:b=some want
     ·rw[if_pos hbw]at h;obtain⟨e,hre,hfz,hv⟩:=taken h;exact more e _ (hgd.set ho _) hfz ⟨hdl,by rw[hg];exact⟨t,b,hgd g t hgl,hb,by rw[if_pos hbw];exact hre⟩⟩ hv
     rw[if_neg hbw]at h;refine more Eff.skip (gset (uG i os) i o.dst gd) (hgd.set ho _) (fun b hb=>by simp[Eff.skip]at hb) ⟨hdl,by rw[hg];exact⟨t,b,hgd g t hgl,hb,by rw[if_neg hbw]⟩⟩ ?_;unfold Eff.skip;rw[St.add_plain];exact h
    exact h.elim
theorem vcGR_sound {ops:Array Oper}{σ:St}{ws:WL}:∀(os:List Oper) (i:Nat) (gd:List (Nat×Tmp)) (s:St) (K:St→Prop) (es:Nat→Eff),i≤ops.size→ops.toList.drop i=os→GdOk ops gd→s=accum σ σ.nx ops es (isR ws) i→
  LaidG P ops ws σ es i→vcGR T P σ.nx ops.size ws i os gd s K→
  ∃es',LaidG P ops ws σ es' ops.size∧K (allR σ ops es' ws)
 |[],i,gd,s,K,es,hi,hdrop,hgd,hs,hl,h=>by
  have:i=ops.size:=by
   have:=List.drop_eq_nil_iff.1 hdrop
   simp at this;omega
  subst this;refine⟨es,hl,?_⟩;unfold allR;rw[←hs];exact h
 |o::os,i,gd,s,K,es,hi,hdrop,hgd,hs,hl,h=>by
  simp only[vcGR]at h;have ho:ops[i]? =some o:=by
   have:(ops.toList.drop i)[0]? =some o:=by rw[hdrop];rfl
   rw[List.getElem?_drop]at this
   simpa using this
  have hlt:=(Array.getElem?_eq_some_iff.1 ho).1;have hdrop':ops.toList.drop (i+1)=os:=by
   rw[←List.drop_drop,hdrop];rfl
  by_cases hw:wHas ws i=true
  ·rw[if_pos hw]at h;have hnR:isR ws i=false:=by simp[isR,hw]
   refine vcGR_sound os (i+1) gd s K es (by omega) hdrop' hgd ?_ ⟨hl.1,fun j o' hj hR ho'=>?_,fun j o' hj hR ho'=>?_⟩ h
   ·simp only[accum,hnR,Bool.false_eq_true,if_false];exact hs
   ·by_cases hji:j=i
    ·rw[hji,hnR]at hR;cases hR
    exact hl.2.1 j o' (by omega) hR ho'
   by_cases hji:j=i
   ·rw[hji,hnR]at hR;cases hR
   exact hl.2.2 j o' (by omega) hR ho'
  rw[if_neg hw]at h;have hR:isR ws i=true:=by simp[isR,hw]
  obtain⟨hd,h⟩:=h;have hdl:=dstB_lt hd;have more:∀(e:Eff) (gd':List (Nat×Tmp)),GdOk ops gd'→(∀b∈e.fz,b<σ.nx)→(isAlloc o.op=true→e.fz=[])→stepOk P ops σ.nx i o s e→vcGR T P σ.nx ops.size ws (i+1) os gd' (s.add o.dst (σ.nx+i) e) K→
    ∃es',LaidG P ops ws σ es' ops.size∧K (allR σ ops es' ws):=by
   intro e gd' hgd' hfz hfa hst hv;have hsame:∀j,j<i→es j=(fun j=>if j=i then e else es j) j:=fun j hj=>by simp only;rw[if_neg (by omega)]
   have hacc:∀j,j≤i→accum σ σ.nx ops (fun j=>if j=i then e else es j) (isR ws) j=accum σ σ.nx ops es (isR ws) j:=fun j hj=>(accum_es j (fun m hm=>hsame m (by omega))).symm;refine vcGR_sound os (i+1) gd' (s.add o.dst (σ.nx+i) e) K (fun j=>if j=i then e else es j) (by omega) hdrop' hgd' ?_ ⟨fun j b hb=>?_,fun j o' hj hRj ho'=>?_,fun j o' hj hRj ho'=>?_⟩ hv
   ·simp only[accum,hR,if_true];rw[hacc i (O1 _),←hs]
    have:dstOf ops i=o.dst:=by unfold dstOf;rw[ho];rfl
    rw[this]
   ·simp only at hb
    split at hb
    ·exact hfz b hb
    exact hl.1 j b hb
   ·rw[hacc j (by omega)]
    by_cases hji:j=i
    ·subst hji;rw[ho]at ho';obtain rfl:=Option.some.inj ho';simp only[if_true];rw[←hs];exact hst
    simp only[hji,if_false];exact hl.2.1 j o' (by omega) hRj ho'
   by_cases hji:j=i
   ·subst hji;rw[ho]at ho';obtain rfl:=Option.some.inj ho';simp only[if_true];exact hfa
   simp only[hji,if_false];exact hl.2.2 j o' (by omega) hRj ho'
  have taken:(if isCallV o.op then orM (rOp T P o.op s σ.nx (σ.nx+i) (frozenUse o.dst os) (fun e=>fzB σ.nx e.fz∧gsplit (uG i os) e fun e'=>vcGR T P σ.nx ops.size ws (i+1) os (gset (uG i os) i o.dst gd) (s.add o.dst (σ.nx+i) e') K)) False else rOp T P o.op s σ.nx (σ.nx+i) (frozenUse o.dst os) (fun e=>fzB σ.nx e.fz∧gsplit (uG i os) e fun e'=>vcGR T P σ.nx ops.size ws (i+1) os (gset (uG i os) i o.dst gd) (s.add o.dst (σ.nx+i) e') K))→
    ∃e,REff P o s σ.nx (σ.nx+i) e∧(∀b∈e.fz,b<σ.nx)∧(isAlloc o.op=true→e.fz=[])∧vcGR T P σ.nx ops.size ws (i+1) os (gset (uG i os) i o.dst gd) (s.add o.dst (σ.nx+i) e) K:=by
   intro h;have h:rOp T P o.op s σ.nx (σ.nx+i) (frozenUse o.dst os) (fun e=>fzB σ.nx e.fz∧gsplit (uG i os) e fun e'=>vcGR T P σ.nx ops.size ws (i+1) os (gset (uG i os) i o.dst gd) (s.add o.dst (σ.nx+i) e') K):=by
    split at h
    ·rcases h with h|h
     ·exact h
     exact h.elim
    exact h
   by_cases ha:isAlloc o.op=true
   ·obtain⟨e,hK,hre⟩:=rOp_sound hT hdl (rOp_fz ha h);exact⟨e,hre,fzB_lt hK.1.1,fun _=>hK.2,gsplit_use hK.1.2⟩
   obtain⟨e,hK,hre⟩:=rOp_sound hT hdl h;exact⟨e,hre,fzB_lt hK.1,fun h=>absurd h ha,gsplit_use hK.2⟩
  unfold guarded at h
  cases hg:o.guard with
  |none=>
   rw[hg]at h;obtain⟨e,hre,hfz,hfa,hv⟩:=taken h;exact more e _ (hgd.set ho _) hfz hfa ⟨hdl,by rw[hg];exact hre⟩ hv
  |some gw=>
   obtain⟨g,want⟩:=gw;rw[hg]at h;simp only at h
   cases hgl:glook gd g with
   |none=>rw[hgl]at h;exact h.elim
   |some t=>
    rw[hgl]at h;simp only at h
    split at h
    ·rename_i b hb
     by_cases hbw:b=some want
     ·rw[if_pos hbw]at h;obtain⟨e,hre,hfz,hfa,hv⟩:=taken h;exact more e _ (hgd.set ho _) hfz hfa ⟨hdl,by rw[hg];exact⟨t,b,hgd g t hgl,hb,by rw[if_pos hbw];exact hre⟩⟩ hv
     rw[if_neg hbw]at h;refine more Eff.skip (gset (uG i os) i o.dst gd) (hgd.set ho _) (fun b hb=>by simp[Eff.skip]at hb) (fun _=>rfl) ⟨hdl,by rw[hg];exact⟨t,b,hgd g t hgl,hb,by rw[if_neg hbw]⟩⟩ ?_;unfold Eff.skip;rw[St.add_plain];exact h
    exact h.elim
end
def codeOk (kp:Kp):Code→Bool
 |.region id ops draw=>!draw||(match modeOf kp.ms id with
  |none=>drawOk ops (nRof ops.toList)
  |some ws=>gOk ops ws)
 |.seq a b=>codeOk kp a&&codeOk kp b
 |.cond _ a b=>codeOk kp a&&codeOk kp b
 |.block _ c=>codeOk kp c
 |.loop c=>codeOk kp c
 |.skip=>true
 |.exit _=>true
 |.ret=>true
 |_=>false
theorem vcRegion_sound {T:Tab}{P:Program}(hT:TabOk P T)(hm:P.follows .mixedOrders=true){id:Nat}{ops:Array Oper}{draw:Bool}{kp:Kp}(hck:codeOk kp (.region id ops draw)=true){s:St}{K:St→Prop}(h:vcRegion T P kp.ms id draw ops.toList s K)
  {G:Ctx} {a:Act} {w:World} (hs:Sim G s a w):(Code.region id ops draw).wp P (fun e a w=>e= .normal∧∃s',K s'∧Sim G s' a w) a w:=by
 unfold vcRegion at h
 cases draw with
 |false=>
  simp only[Bool.false_eq_true,if_false]at h;have hW:=vcW_sound hT (ops:=ops) ops.toList 0 [] s K (by simp) (fun g t hg=>by simp[glook]at hg) h;refine wp_region ?_;have key:∀(os:List Oper) (i:Nat) (s:St) (a:Act) (w:World),ops.toList.drop i=os→OpsW P ops os s K→Sim G s a w→wpOps P ops (fun e a w=>e= .normal∧∃s',K s'∧Sim G s' a w) (List.range' i os.length) a w:=by
   intro os
   induction os with
   |nil=>intro i s a w _ hW hs;exact⟨rfl,s,hW,hs⟩
   |cons o os ih=>
    intro i s a w hdrop hW hs;have ho:ops[i]? =some o:=by
     have:(ops.toList.drop i)[0]? =some o:=by rw[hdrop];rfl
     rw[List.getElem?_drop]at this
     simpa using this
    have hdrop':ops.toList.drop (i+1)=os:=by
     rw[←List.drop_drop,hdrop];rfl
    rw[List.length_cons,List.range'_succ,wpOps_cons];exact OpW.step ho hW.2 hW.1 hs fun s' a' w' h1 h2=>ih (i+1) s' a' w' hdrop' h1 h2
  have:=key ops.toList 0 s a w (by simp) hW hs
  rw[List.range_eq_range']
  simpa using this
 |true=>
  simp only[if_true]at h;have hck0:(match modeOf kp.ms id with
   |none=>drawOk ops (nRof ops.toList)
   |some ws=>gOk ops ws)=true:=by simpa[codeOk]using hck
  have hsz:ops.toList.length=ops.size:=by simp
  unfold vcDraw at h;rw[hsz]at h
  cases hmd:modeOf kp.ms id with
  |some ws=>
   rw[hmd]at h hck0;simp only at hck0;obtain⟨ρ,hr⟩:=hs;have hacc0:∀(es:Nat→Eff) (wt:WL) k,accum s s.nx ops es (fun j=>isR wt j&&(Array.replicate ops.size false).getD j false) k=s:=by
    intro es wt k
    induction k with
    |zero=>rfl
    |succ k ih=>
     simp only[accum];rw[if_neg (by simp[Array.getD]),ih]
   have hcnt:toCome ops (Array.replicate ops.size false)≤ops.size:=by
    unfold toCome
    have:=List.countP_le_length (p:=fun i=>!(Array.replicate ops.size false).getD i false) (l:=List.range ops.size)
    simpa using this
   have hstart:∀(es:Nat→Eff) (wt:WL) (ex:Option Nat),StandG P G ops wt ex True s es K (Array.replicate ops.size false) a w.drew:=fun es wt ex=>by
    refine⟨by simp,fun i hi=>by simp[Array.getD]at hi,.inl ⟨trivial,fun i hi=>by simp[Array.getD]at hi,ρ,?_⟩⟩;rw[hacc0];have h1:SimR G (fun b=>b<s.nx) ρ s a w.drew:=hr.drew;exact h1.mono_dom (fun b hb=>Or.inl hb)
   refine wp_region_any hm ?_;have plain:(∀q d t1 t2,ws≠ .opt q d t1 t2)→wpAny P .any ops (fun e a w=>e= .normal∧∃s',K s'∧Sim G s' a w) ops.size (Array.replicate ops.size false) a w.drew:=fun hno=>by
    have hg3:gOkB ops ws=true∧covers ops ws [] ws=true∧gOkW ops ws none [] ws=true:=by
     cases ws with
     |opt q d t1 t2=>exact absurd rfl (hno q d t1 t2)
     |nil=>simpa[gOk,and_assoc]using hck0
     |cons _ _ _ _=>simpa[gOk,and_assoc]using hck0
    have h':vcGR T P s.nx ops.size ws 0 ops.toList [] s (fun s'=>vcGW T P ops.toList ws s' K):=by
     cases ws with
     |opt q d t1 t2=>exact absurd rfl (hno q d t1 t2)
     |nil=>exact h
     |cons _ _ _ _=>exact h
    have hg:=gOk_spec hg3.1;obtain⟨es,hl,hW⟩:=vcGR_sound hT (ops:=ops) (σ:=s) (ws:=ws) ops.toList 0 [] s _ (fun _=>Eff.skip) (O2 _) (by simp) (fun g t hg=>by simp[glook]at hg) rfl ⟨fun j b hb=>by simp[Eff.skip]at hb,fun j o hj=>by omega,fun j o hj=>by omega⟩ h';have hW':=vcGW_sound hT (ops:=ops) ws [] _ K hg3.2.2 hW;exact wpAny_standG (ex:=none) (F:=True) hg (fun _=>hg3.2.1) (fun _=>hg3.2.2) hl.1 (fun _ i o hR ho=>hl.2.1 i o (Array.getElem?_eq_some_iff.1 ho).1 hR ho) (fun _=>hW') (fun _ q hq=>by cases hq) (fun s' a' w' h1 h2=>⟨rfl,s',h1,h2⟩) (fun ch a a' w h=>by cases h.1) ops.size _ a _ (hstart es ws none) hcnt
   cases ws with
   |nil=>exact plain fun _ _ _ _ e=>by cases e
   |cons _ _ _ _=>exact plain fun _ _ _ _ e=>by cases e
   |opt q d t1 t2=>
    have hk:=gOk_opt hck0;obtain⟨es,hl,hW1,hW2⟩:=vcGR_sound hT (ops:=ops) (σ:=s) (ws:=t1) ops.toList 0 [] s _ (fun _=>Eff.skip) (O2 _) (by simp) (fun g t hg=>by simp[glook]at hg) rfl ⟨fun j b hb=>by simp[Eff.skip]at hb,fun j o hj=>by omega,fun j o hj=>by omega⟩ h;obtain⟨oq,hoq,_,haq⟩:=hk.al;exact wpAny_standO hk hl.1 (hl.2.2 q oq hk.qs hk.qR hoq haq) (fun i o hR ho=>hl.2.1 i o (Array.getElem?_eq_some_iff.1 ho).1 hR ho) (vcGW_sound hT (ops:=ops) t1 [] _ K hk.w1 hW1) (vcGW_sound hT (ops:=ops) t2 [] _ K hk.w2 hW2)
     (fun s' a' w' h1 h2=>⟨rfl,s',h1,h2⟩) (fun ch a a' w h=>by cases h.1) ops.size _ a _ (hstart es t1 (some q)) hcnt
  |none=>
  rw[hmd]at h hck0;simp only at h hck0;have hck':drawOk ops (nRof ops.toList)=true:=hck0;obtain⟨es,hl,hW⟩:=vcR_sound hT (ops:=ops) (σ:=s) ops.toList 0 [] s K (fun _=>Eff.skip) (by simp) (fun g t hg=>by simp[glook]at hg) rfl ⟨fun j b hb=>by simp[Eff.skip]at hb,fun j o hj=>by omega⟩ h;rw[Nat.zero_add]at hl hW;refine wp_region_any hm ?_;obtain⟨ρ,hr⟩:=hs;have hacc0:∀k,accum s s.nx ops es (fun j=>(Array.replicate ops.size false).getD j false) k=s:=by
   intro k
   induction k with
   |zero=>rfl
   |succ k ih=>
    simp only[accum];rw[if_neg (by simp[Array.getD]),ih]
  refine wpAny_stand (drawOk_spec hck') hl.1 hl.2 hW (fun s' a' w' h1 h2=>⟨rfl,s',h1,h2⟩) ops.size _ a _ ⟨by simp,fun i hi=>by simp[Array.getD]at hi,.inl ⟨fun i hi=>by simp[Array.getD]at hi,ρ,?_⟩⟩ ?_
  ·rw[hacc0];have h1:SimR G (fun b=>b<s.nx) ρ s a w.drew:=hr.drew;exact h1.mono_dom (fun b hb=>Or.inl hb)
  unfold toCome
  have:=List.countP_le_length (p:=fun i=>!(Array.replicate ops.size false).getD i false) (l:=List.range ops.size)
  simpa using this
theorem lk_gc (keep:List Nat)(s:St)(t:Nat):lk (gc keep s).env t=if t∈keep then lk s.env t else .unk:=by
 simp only[gc]
 induction keep with
 |nil=>simp[lk]
 |cons x r ih=>
  simp only[List.map_cons,lk,List.mem_cons]
  by_cases h:t=x
  ·subst h;simp
  rw[if_neg h,ih]
  simp[h]
theorem gc_sub (keep:List Nat)(s:St):Sub s (gc keep s):=by
 rintro G a w ⟨ρ,h⟩;refine⟨ρ,{hd:=h.hd,hn:=h.hn,env:=fun t=>?_,own:=h.own,inj:=h.inj,os:=h.os,tape:=h.tape,output:=h.output,size:=h.size,keep:=h.keep,wf:=h.wf,home:=h.home,room:=h.room}⟩;rw[lk_gc]
 split
 ·exact h.env t
 trivial
theorem vc_sound {T:Tab}{P:Program}(hT:TabOk P T)(hm:P.follows .mixedOrders=true)(keep:Kp):∀(c:Code),codeOk keep c=true→∀(s:St) (Q:Exit→St→Prop),vc T P keep c s Q→∀(G:Ctx) (a:Act) (w:World),Sim G s a w→
  c.wp P (fun e a w=>∃s',Q e s'∧Sim G s' a w) a w:=by
 intro c
 induction c with
 |skip=>intro _ s Q h G a w hs;exact wp_skip ⟨s,h,hs⟩
 |region id ops draw=>
  intro hck s Q h G a w hs;refine wp_mono (vcRegion_sound hT hm hck h hs) ?_;rintro e a w ⟨rfl,s',h1,h2⟩;exact⟨_,h1,gc_sub keep.ks s' G a w h2⟩
 |seq x y ihx ihy=>
  intro hck s Q h G a w hs;simp only[codeOk,Bool.and_eq_true]at hck;refine wp_seq (wp_mono (ihx hck.1 s _ h G a w hs) ?_);rintro e a w ⟨s',h1,h2⟩
  cases e with
  |normal=>exact ihy hck.2 s' Q h1 G a w h2
  |_=>exact⟨s',h1,h2⟩
 |cond c x y ihx ihy=>
  intro hck s Q h G a w hs;simp only[codeOk,Bool.and_eq_true]at hck;simp only[vc]at h
  split at h
  ·rename_i t ht
   have hev:a.eval c= .bool t:=by
    obtain⟨ρ,hr⟩:=hs
    have:=hr.ev c
    rw[ht]at this;exact this
   exact wp_cond_split hev (fun e=>ihx hck.1 s Q (h.1 e) G a w hs) (fun e=>ihy hck.2 s Q (h.2 e) G a w hs)
  exact h.elim
 |block id c ih=>
  intro hck s Q h G a w hs;refine wp_block (wp_mono (ih hck s _ h G a w hs) ?_);rintro e a w ⟨s',h1,h2⟩
  cases e with
  |exit id'=>
   simp only[Exit.inBlock];simp only at h1
   split
   ·rename_i he;rw[if_pos he]at h1;exact⟨s',h1,h2⟩
   rename_i he;rw[if_neg he]at h1;exact⟨s',h1,h2⟩
  |_=>exact⟨s',h1,h2⟩
 |loop c ih=>
  intro hck s Q h G a w hs;obtain⟨ι,I,m,x0,hsub,hround⟩:=h;refine wp_loop_ghost (fun n a w=>∃x,m x=n∧Sim G (I x) a w) (m x0) ⟨x0,rfl,hsub G a w hs⟩ ?_;rintro n a w ⟨x,rfl,hx⟩;refine wp_mono (ih hck (I x) _ (hround x) G a w hx) ?_;rintro e a w ⟨s',h1,h2⟩
  cases e with
  |normal=>
   obtain⟨y,hy,hlt⟩:=h1;exact⟨m y,hlt,y,rfl,hy G a w h2⟩
  |_=>exact⟨s',h1,h2⟩
 |exit id=>intro _ s Q h G a w hs;exact wp_exit ⟨s,h,hs⟩
 |ret=>intro _ s Q h G a w hs;exact wp_ret ⟨s,h,hs⟩
 |_=>intro hck;simp[codeOk]at hck
end Go.Eng
namespace Go.Eng
open Go
def eO:Nat→List V→List (Nat×V)
 |_,[]=>[]
 |i,v::r=>(i,v)::eO (i+1) r
def iS (args:List V)(n:Nat):St:={env:=eO 0 args,own:=[],nx:=1,n:=n}
def VLe (x y:V):Prop:=∀ok w v,RepV loc0 dom0 ok w x v→RepV loc0 dom0 ok w y v
theorem VLe.refl (x:V):VLe x x:=fun _ _ _ h=>h
theorem Ve {x y:V}(h:x=y):VLe x y:=h▸VLe.refl x
def okLd (E:Ty):Bool:=
 match E.k.agg with
 |some true=>true
 |some false=>E.size==1
 |none=>false
def resV (
     T:Tab) (s:St):ResultVar→Option V
 |.tmp t=>some (vwV s.own s.nx (lk s.env t))
 |.cell a t=>match T t with
  |some E=>match lk s.env a with
   |.one (.ptr b off)=>match lo s.own b with
    |some B=>match B.bk with
     |.var cs=>if off=0∧cs.length=E.size∧okLd E=true then some (vwV s.own s.nx (mkV E.k cs))else none
     |_=>none
    |none=>none
   |_=>none
  |none=>none
def resL (T:Tab)(s:St):List ResultVar→Option (List V)
 |[]=>some []
 |r::rs=>match resV T s r,resL T s rs with
  |some v,some vs=>some (v::vs)
  |_,_=>none
def resR:List V→V
 |[v]=>v
 |vs=>.tup vs
def someP {α:Type}(x:Option α)(K:α→Prop):Prop:=
 match x with
 |some a=>K a
 |none=>False
theorem someP_some {α:Type}(a:α)(K:α→Prop):someP (some a) K=K a:=rfl
def retQ (T:Tab)(rs:List ResultVar)(R:V→Prop):Exit→St→Prop
 |.ret,s=>someP (resL T s rs) fun vs=>R (resR vs)
 |.normal,s=>someP (resL T s rs) fun vs=>R (resR vs)
 |_,_=>False
theorem okLd_is {E:Ty}(h:okLd E=true):E.k.agg=some true∨(E.k.agg=some false∧E.size=1):=by
 unfold okLd at h
 cases ha:E.k.agg with
 |none=>rw[ha]at h;cases h
 |some b=>cases b with
  |true=>exact .inl rfl
  |false=>rw[ha]at h;exact .inr ⟨rfl,by simpa using h⟩
def okEnd (G:Ctx)(w:World)(g:Nat):Prop:=g<w.heap.size∧¬G.forb g
theorem okIds_end {G:Ctx}{dom:Nat→Prop}{ρ:Nat→Loc}{s:St}{a:Act}{w:World}(hs:SimR G dom ρ s a w){ids:List Nat}{g:Nat}(h:okIds G s.own ρ w ids g):okEnd G w g:=by
 rcases h with h|⟨b,_,B,o,hl,ha⟩
 ·exact⟨h.1,h.2.1⟩
 have:=(hs.own b B hl).2.2.2 g o ha
 exact⟨this.1,this.2.1⟩
theorem view_end {G:Ctx}{dom:Nat→Prop}{ρ:Nat→Loc}{s:St}{a:Act}{w:World}(hs:SimR G dom ρ s a w){x:V}{v:Value}(h:RepV ρ dom (okOf G s.own ρ w) w x v):RepV1 loc0 dom0 (okEnd G w) w (vwV s.own s.nx x) v:=by
 have o:Oper:=default;have h1:=vwV_sound hs (Agr.refl s s.nx o) (idsV x) x v (fun b hb _=>hb) h;exact RepV1.ext (Ext.of_imp fun g hg=>okIds_end hs hg) ⟨fun b hb=>hb.elim,fun b hb=>hb.elim⟩ _ _ h1
def evRes (tmps:Array Value)(r:ResultVar):Sem Value:=
 match r with
 |.tmp t=>pure (tmps.getD t undef)
 |.cell a t=>do loadVar t (←asAddr (tmps.getD a undef))
theorem resV_run {P:Program}{T:Tab}(hT:TabOk P T){G:Ctx}{dom:Nat→Prop}{ρ:Nat→Loc}{s:St}{a:Act}{w:World}(hs:SimR G dom ρ s a w){r:ResultVar}{x:V}(h:resV T s r=some x):
  ∃v,(evRes a.tmps r).run P w= .ok v w∧RepV1 loc0 dom0 (okEnd G w) w x v:=by
 cases r with
 |tmp t=>
  simp only[resV,Q6]at h;subst h;exact⟨_,rfl,view_end hs (hs.env t)⟩
 |cell ad t=>
  simp only[resV]at h
  cases hTt:T t with
  |none=>rw[hTt]at h;cases h
  |some E=>
   rw[hTt]at h;simp only at h;obtain⟨i,d,z,hi,hu,_,hk,hsz,_⟩:=T_parts hT hTt
   split at h
   ·rename_i b off hx
    cases hlo:lo s.own b with
    |none=>rw[hlo]at h;cases h
    |some B=>
     rw[hlo]at h;simp only at h
     split at h
     ·rename_i cs hB
      split at h
      ·rename_i hc
       obtain⟨rfl,hlen,hld0⟩:=hc;simp only[Q6]at h;subst h;have hev:=hs.env ad;rw[hx]at hev;obtain⟨_,g,o',haddr,hval⟩:=hev;obtain⟨_,_,hrep,_⟩:=hs.own b B hlo;unfold RepBk at hrep;rw[haddr]at hrep;obtain⟨cur,e,hg,hcell⟩:=hrep;rw[hB]at hcell;simp only at hcell;have hld:=okLd_is hld0;rw[hk]at hld;obtain⟨v,hv,hr⟩:=loadVar_run (P:=P) (t:=t) hi hu g (o'+0) cs (by omega) (by
        rcases hld with h|⟨h1,h2⟩
        ·exact .inl h
        ·exact .inr ⟨h1,by omega⟩) (fun j c hj=>by
        obtain⟨u,hu',hr⟩:=hcell j c (by simpa[Bk.cell]using hj);exact⟨u,by rw[cell_of_row w g _ cur e (0,0) hg];exact hu',hr⟩)
       rw[←hk]at hr;refine⟨v,?_,view_end hs hr⟩;simp only[evRes,Sem.run_bind];have hval':a.tmps.getD ad undef= .pointer (some ⟨g,o'+0,none⟩):=hval;rw[hval'];exact hv
      cases h
     cases h
   cases h
def resX (
     T:Tab) (s:St):ResultVar→Option V
 |.tmp t=>some (lk s.env t)
 |.cell a t=>match T t with
  |some E=>match lk s.env a with
   |.one (.ptr b off)=>match lo s.own b with
    |some B=>match B.bk with
     |.var cs=>if off=0∧cs.length=E.size∧okLd E=true then some (mkV E.k cs)else none
     |_=>none
    |none=>none
   |_=>none
  |none=>none
theorem resX_run {P:Program}{T:Tab}(hT:TabOk P T){G:Ctx}{dom:Nat→Prop}{ρ:Nat→Loc}{s:St}{a:Act}{w:World}(hs:SimR G dom ρ s a w){r:ResultVar}{x:V}(h:resX T s r=some x):
  ∃v,(evRes a.tmps r).run P w= .ok v w∧RepV ρ dom (okOf G s.own ρ w) w x v:=by
 cases r with
 |tmp t=>
  simp only[resX,Q6]at h;subst h;exact⟨_,rfl,hs.env t⟩
 |cell ad t=>
  simp only[resX]at h
  cases hTt:T t with
  |none=>rw[hTt]at h;cases h
  |some E=>
   rw[hTt]at h;simp only at h;obtain⟨i,d,z,hi,hu,_,hk,hsz,_⟩:=T_parts hT hTt
   split at h
   ·rename_i b off hx
    cases hlo:lo s.own b with
    |none=>rw[hlo]at h;cases h
    |some B=>
     rw[hlo]at h;simp only at h
     split at h
     ·rename_i cs hB
      split at h
      ·rename_i hc
       obtain⟨rfl,hlen,hld0⟩:=hc;simp only[Q6]at h;subst h;have hev:=hs.env ad;rw[hx]at hev;obtain⟨_,g,o',haddr,hval⟩:=hev;obtain⟨_,_,hrep,_⟩:=hs.own b B hlo;unfold RepBk at hrep;rw[haddr]at hrep;obtain⟨cur,e,hg,hcell⟩:=hrep;rw[hB]at hcell;simp only at hcell;have hld:=okLd_is hld0;rw[hk]at hld;obtain⟨v,hv,hr⟩:=loadVar_run (P:=P) (t:=t) hi hu g (o'+0) cs (by omega) (by
        rcases hld with h|⟨h1,h2⟩
        ·exact .inl h
        ·exact .inr ⟨h1,by omega⟩) (fun j c hj=>by
        obtain⟨u,hu',hr⟩:=hcell j c (by simpa[Bk.cell]using hj);exact⟨u,by rw[cell_of_row w g _ cur e (0,0) hg];exact hu',hr⟩)
       rw[←hk]at hr;refine⟨v,?_,hr⟩;simp only[evRes,Sem.run_bind];have hval':a.tmps.getD ad undef= .pointer (some ⟨g,o'+0,none⟩):=hval;rw[hval'];exact hv
      cases h
     cases h
   cases h
theorem resL_run {P:Program}{T:Tab}(hT:TabOk P T){G:Ctx}{dom:Nat→Prop}{ρ:Nat→Loc}{s:St}{a:Act}{w:World}(hs:SimR G dom ρ s a w):∀(rs:List ResultVar) (xs:List V),resL T s rs=some xs→
  ∃vs,(rs.mapM (evRes a.tmps)).run P w= .ok vs w∧RepVL loc0 dom0 (okEnd G w) w xs vs
 |[],xs,h=>by
  simp only[resL,Q6]at h;subst h;exact⟨[],rfl,trivial⟩
 |r::rs,xs,h=>by
  simp only[resL]at h
  split at h
  ·rename_i x xs' hx hxs
   simp only[Q6]at h;subst h;obtain⟨v,hv,hr⟩:=resV_run hT hs hx;obtain⟨vs,hvs,hrs⟩:=resL_run hT hs rs xs' hxs;refine⟨v::vs,?_,hr,hrs⟩;rw[List.mapM_cons];simp only[Sem.run_bind,hv,Q7,hvs,Sem.run_pure]
  cases h
theorem envOf_get:∀(args:List V) (i t:Nat),lk (eO i args) t=if i≤t∧t<i+args.length then args.getD (t-i) .unk else .unk
 |[],i,t=>by simp[eO,lk]
 |v::r,i,t=>by
  simp only[eO,lk,List.length_cons]
  by_cases h:t=i
  ·subst h;rw[if_pos rfl,if_pos (by omega)];simp
  rw[if_neg h,envOf_get r (i+1) t]
  by_cases h2:i+1≤t∧t<i+1+r.length
  ·rw[if_pos h2,if_pos (by omega)];obtain⟨q,hq⟩:∃q,t=i+1+q:=⟨t-(i+1),by omega⟩;subst hq;rw[show i+1+q-(i+1)=q by omega,show i+1+q-i=q+1 by omega]
   simp
  rw[if_neg h2,if_neg (by omega)]
theorem RepVL.length {ρ:Nat→Loc}{dom ok:Nat→Prop}{w:World}:∀{xs:List V} {vs:List Value},RepVL ρ dom ok w xs vs→xs.length=vs.length
 |[],[],_=>rfl
 |_::xs,_::vs,h=>by simp[RepVL.length h.2]
 |[],_::_,h=>h.elim
 |_::_,[],h=>h.elim
theorem pv {P:Program}{T:Tab}(hT:TabOk P T)(hm:P.follows .mixedOrders=true){f:FuncId}{fn:Func}{c:Code}(hf:P.funcs[f]? =some fn)(hb:fn.body=some c)(hn:(fn.name== "runtime.NumGoroutine")=false)
  (args:List V) (hargs:args.length≤fn.ntmps) (keep:Kp) (hck:codeOk keep c=true) (r:V)
  (h:vc T P keep c (iS args fn.ntmps) (retQ T fn.results.toList (fun x=>VLe x r))):Pr P f args r:=by
 refine⟨⟨fn,hf,by rw[hb];rfl,hn⟩,fun ok w vs hok hvs=>?_⟩;have hlen:=RepVL.length hvs;simp only[Array.length_toList]at hlen
 let G:Ctx:={W0:=w,forb:=fun g=>g<w.heap.size∧¬ok g,mine:=fun _=>False}
 let a0:Act:={tmps:=vs++Array.replicate (fn.ntmps-vs.size) undef,defers:=[]}
 have hokG:∀g,ok g→okOf G [] loc0 w g:=fun g hg=>⟨hok g hg,fun hf=>hf.2 hg,fun b B hl=>by cases hl⟩;have hsim:Sim G (iS args fn.ntmps) a0 w:=by
  refine⟨loc0,{hd:=rfl,hn:=?_,env:=fun t=>?_,own:=fun b B hl=>(by cases hl),inj:=fun b B b' B' hl=>(by cases hl),os:=rfl,tape:=rfl,output:=rfl,size:=O1 _,keep:=fun _ _ _=>rfl,wf:=fun k hk=>hk.1,home:=fun l hl=>(by cases hl),room:=fun _=>O1 _}⟩
  ·simp[a0,iS];omega
  simp only[iS,envOf_get]
  split
  ·rename_i ht
   simp only[Nat.sub_zero,Nat.zero_add]at ht⊢;have hx:args[t]? =some (args.getD t .unk):=by
    rw[X7,X8 ht.2];rfl
   obtain⟨v,hv,hr⟩:=RepVL.get hvs t _ hx;have hv':a0.tmps.getD t undef=v:=by
    rw[Array.getElem?_toList]at hv;have hlt:=(Array.getElem?_eq_some_iff.1 hv).1;simp only[a0,Array.getD_eq_getD_getElem?];rw[Array.getElem?_append_left hlt,hv];rfl
   rw[hv'];exact RepV.of_V1 (RepV1.ext (Ext.of_imp hokG) ⟨fun b hb=>hb.elim,fun b hb=>hb.elim⟩ _ _ hr)
  trivial
 refine calls_of_wp hf hb (wp_mono (vc_sound hT hm keep c hck _ _ h G a0 w hsim) ?_);rintro e a w' ⟨s',hq,ρ,hs⟩;have fin:someP (resL T s' fn.results.toList) (fun vs=>VLe (resR vs) r)→a.defers=[]∧∃v,(results fn a.tmps).run P w'= .ok v w'∧∃u,Ending.returned v= .returned u∧Go.RowKit.Below w.heap.size w w'∧RepV loc0 dom0 (fun g=>ok g∨(w.heap.size≤g∧g<w'.heap.size)) w' r u:=by
  intro hq;unfold someP at hq
  split at hq
  ·rename_i xs hxs
   obtain⟨us,hus,hrep⟩:=resL_run hT hs _ _ hxs;refine⟨hs.hd,?_⟩;have hend:∀g,okEnd G w' g→ok g∨(w.heap.size≤g∧g<w'.heap.size):=fun g hg=>by
    by_cases hgs:g<w.heap.size
    ·by_cases hok':ok g
     ·exact .inl hok'
     exact absurd ⟨hgs,hok'⟩ hg.2
    exact .inr ⟨by omega,hg.1⟩
   have hbelow:Go.RowKit.Below w.heap.size w w':=⟨hs.os,hs.tape,hs.output,hs.size,fun k hk=>hs.keep k hk (fun hf=>hf)⟩;have hmap:(fn.results.mapM fun
     |.tmp t=>pure (a.tmps.getD t undef)
     |.cell ad t=>do loadVar t (←asAddr (a.tmps.getD ad undef)):Sem (Array Value)).run P w'= .ok us.toArray w':=by
    have e:(fun r:ResultVar=>(match r with
     |.tmp t=>pure (a.tmps.getD t undef)
     |.cell ad t=>do loadVar t (←asAddr (a.tmps.getD ad undef)):Sem Value))=evRes a.tmps:=by
     funext r;cases r<;>rfl
    have e2:=congrArg (fun g=>(fn.results.mapM g).run P w') e;refine e2.trans ?_;rw[Array.mapM_eq_mapM_toList,Sem.run_map,hus];rfl
   have hres:(results fn a.tmps).run P w'= .ok (if h:us.toArray.size=1 then us.toArray[0]else .tuple us.toArray) w':=by
    unfold results;rw[Sem.run_bind];refine Eq.trans (congrArg (fun x=>Result.andThen x _) hmap) ?_;rfl
   refine⟨_,hres,_,rfl,hbelow,?_⟩;have hrr:RepV loc0 dom0 (fun g=>ok g∨(w.heap.size≤g∧g<w'.heap.size)) w' (resR xs) (if h:us.toArray.size=1 then us.toArray[0]else .tuple us.toArray):=by
    have hx:Ext (okEnd G w') (fun g=>ok g∨(w.heap.size≤g∧g<w'.heap.size)) w' w':=Ext.of_imp hend;have hsame:Same dom0 dom0 loc0 loc0:=⟨fun _ h=>h,fun _ _=>rfl⟩;have hl2:=RepVL.length hrep
    match xs,us,hrep,hl2 with
    |[x],[u],hrep,_=>
     rw[dif_pos (by simp)];exact RepV.of_V1 (RepV1.ext hx hsame _ _ hrep.1)
    |[],[],_,_=>
     rw[dif_neg (by simp)];exact⟨#[],rfl,trivial⟩
    |x::y::xs,u::v::us,hrep,_=>
     rw[dif_neg (by simp)];exact⟨_,rfl,RepVL.ext hx hsame _ _ (by simpa using hrep)⟩
   exact hq _ _ _ hrr
  exact hq.elim
 cases e with
 |normal=>exact fin hq
 |ret=>exact fin hq
 |_=>exact hq.elim
end Go.Eng
namespace Go.Eng
open Go
def ren:List (Nat×Option Nat)→Nat→Option Nat
 |[],b=>some b
 |(b',x)::r,b=>if b=b' then x else ren r b
def eltB:C→Bool
 |.elt _ _ _ _=>true
 |_=>false
def Y2 (rn:List (Nat×Option Nat))(nx:Nat)(c:C)(c':C):Prop:=
 match c' with
 |.any=>True
 |.own b' w' o' l'=>b'<nx∧match c with
  |.own b w o l=>ren rn b'=some b∧w=w'∧o=o'∧l=l'
  |.nil=>ren rn b'=none∧o'=0∧l'=0
  |.win b _ o l=>ren rn b'=some b∧w'=1∧o=o'∧l=l'
  |_=>False
 |.win b' b2' o' l'=>b'<nx∧b2'<nx∧match c with
  |.own b w o l=>ren rn b'=some b∧w=1∧o=o'∧l=l'
  |.win b _ o l=>ren rn b'=some b∧o=o'∧l=l'
  |_=>False
 |.ptr b' o'=>b'<nx∧match c with
  |.ptr b o=>ren rn b'=some b∧o=o'
  |_=>False
 |.int k' n'=>match c with
  |.int k n=>k=k'∧n=n'
  |_=>False
 |.bool b'=>match c with
  |.bool b=>b=b'
  |_=>False
 |.str s'=>match c with
  |.str s=>s=s'
  |_=>False
 |.nil=>match c with
  |.nil=>True
  |_=>False
 |.ints k' xs'=>match c with
  |.ints k xs=>k=k'∧xs=xs'
  |.nil=>xs'=[]
  |_=>False
 |.rows w' n' f'=>match c with
  |.rows w n f=>w=w'∧n=n'∧∀i j,i<n→j<w→f i j=f' i j
  |.nil=>n'=0
  |_=>False
 |.fn f' n' caps'=>match c with
  |.fn f n caps=>f=f'∧((n=0∧n'=0)∨(n=1∧n'=1∧eltB (caps 0)=true∧caps 0=caps' 0))
  |_=>False
 |.elt s' w' i' o'=>match c with
  |.elt s w i o=>s=s'∧w=w'∧i=i'∧o=o'
  |_=>False
 |_=>False
def Y3 (rn:List (Nat×Option Nat))(nx:Nat):List C→List C→Prop
 |[],[]=>True
 |c::cs,c'::cs'=>Y2 rn nx c c'∧Y3 rn nx cs cs'
 |_,_=>False
def Y1 (rn:List (Nat×Option Nat))(nx:Nat)(x x':V):Prop:=
 match x' with
 |.unk=>True
 |.one c'=>match x with
  |.one c=>Y2 rn nx c c'
  |_=>False
 |.agg cs'=>match x with
  |.agg cs=>Y3 rn nx cs cs'
  |_=>False
 |.tup _=>False
def frzC:C→Bool
 |.nil=>true
 |.ints _ _=>true
 |.rows _ _ _=>true
 |_=>false
theorem frzC_rep {ρ:Nat→Loc}{dom ok:Nat→Prop}{w:World}{c:C}{v:Value}(hc:frzC c=true)(h:RepC ρ dom ok w c v):RepI ok w c v:=by
 cases c<;>simp [frzC]at hc<;>exact h
def Y5 (rn:List (Nat×Option Nat))(nx:Nat)(B B':Bk):Prop:=
 match B' with
 |.var cs'=>match B with
  |.var cs=>Y3 rn nx cs cs'
  |_=>False
 |.ints _ k' xs'=>match B with
  |.ints _ k xs=>k=k'∧xs=xs'
  |_=>False
 |.rows _ w' n' f'=>match B with
  |.rows _ w n f=>w=w'∧n=n'∧∀i j,i<n→j<w→f i j=f' i j
  |.wins _ _ n g=>w'=1∧n=n'∧∀i,i<n→frzC (g i)=true∧g i=f' i 0
  |_=>False
 |.wins _ _ n' g'=>match B with
  |.wins _ _ n g=>n=n'∧∀i,i<n→Y2 rn nx (g i) (g' i)
  |.rows _ w n f=>w=1∧n=n'∧∀i,i<n→Y2 rn nx (f i 0) (g' i)
  |_=>False
def Y7:Bk→Prop
 |.var _=>False
 |.ints _ _ xs=>xs=[]
 |.rows _ _ n _=>n=0
 |.wins _ _ n _=>n=0
def Y0 (rn:List (Nat×Option Nat))(nx:Nat)(env:List (Nat×V)):List (Nat×V)→Prop
 |[]=>True
 |(t,x')::r=>Y1 rn nx (lk env t) x'∧Y0 rn nx env r
def Y4 (rn:List (Nat×Option Nat))(nx:Nat)(own:List (Nat×Blk)):List (Nat×Blk)→Prop
 |[]=>True
 |(b',B')::r=>(b'<nx∧match ren rn b' with
  |none=>Y7 B'.bk
  |some b=>match lo own b with
   |some B=>(B'.rw=true→B.rw=true)∧Y5 rn nx B.bk B'.bk
   |none=>False)∧Y4 rn nx own r
def Y6 (rn:List (Nat×Option Nat)):List (Nat×Blk)→Prop
 |[]=>True
 |(b',_)::r=>(∀p∈r,p.1=b'∨ren rn p.1=none∨ren rn p.1≠ren rn b')∧Y6 rn r
section
variable {rn:List (Nat×Option Nat)}{nx:Nat}{ρ ρ':Nat→Loc}{dom ok ok':Nat→Prop}{w:World}
def renLoc (rn:List (Nat×Option Nat))(ρ:Nat→Loc)(b':Nat):Loc:=
 match ren rn b' with
 |some b=>ρ b
 |none=>⟨none,0⟩
theorem rowsI_congr {wd n:Nat}{f f':Nat→Nat→C}{v:Value}(h:∀i j,i<n→j<wd→f i j=f' i j)(hr:RepI ok w (.rows wd n f) v):RepI ok w (.rows wd n f') v:=by
 obtain⟨a,cap,hv,hc,hr⟩:=hr;refine⟨a,cap,hv,hc,?_⟩
 rcases hr with hr|⟨g,o,ha,hg,hcs⟩
 ·exact .inl hr
 refine .inr ⟨g,o,ha,hg,fun i j hi hj=>?_⟩;rw[←h i j hi hj];exact hcs i j hi hj
theorem cRen_sound (hx:Ext ok ok' w w){c c':C}{v:Value}(h:Y2 rn nx c c')(hr:RepC ρ dom ok w c v):RepC (renLoc rn ρ) (fun b=>b<nx) ok' w c' v:=by
 cases c' with
 |any=>exact(RepC.plain hr).1
 |own b' w' o' l'=>
  obtain⟨hb,h⟩:=h
  cases c with
  |own b wd o l=>
   obtain⟨h1,rfl,rfl,rfl⟩:=h;obtain⟨_,h2,cap,h3,h4⟩:=hr;have e:renLoc rn ρ b'=ρ b:=by unfold renLoc;rw[h1]
   exact⟨hb,by rw[e];exact h2,cap,h3,by rw[e];exact h4⟩
  |nil=>
   obtain⟨h1,rfl,rfl⟩:=h;have e:renLoc rn ρ b'=⟨none,0⟩:=by unfold renLoc;rw[h1]
   exact⟨hb,by rw[e];simp,0,O1 _,.inr ⟨by rw[e],hr,rfl,rfl⟩⟩
  |win b b2 o l=>
   obtain⟨h1,rfl,rfl,rfl⟩:=h;obtain⟨_,_,h2,cap,h3,h4⟩:=hr;have e:renLoc rn ρ b'=ρ b:=by unfold renLoc;rw[h1]
   exact⟨hb,by rw[e];exact h2,cap,h3,by rw[e];exact h4⟩
  |_=>exact h.elim
 |win b' b2' o' l'=>
  obtain⟨hb,hb2,h⟩:=h
  cases c with
  |own b wd o l=>
   obtain⟨h1,rfl,rfl,rfl⟩:=h;obtain⟨_,h2,cap,h3,h4⟩:=hr;have e:renLoc rn ρ b'=ρ b:=by unfold renLoc;rw[h1]
   exact⟨hb2,hb,by rw[e];exact h2,cap,h3,by rw[e];exact h4⟩
  |win b b2 o l=>
   obtain⟨h1,rfl,rfl⟩:=h;obtain⟨_,_,h2,cap,h3,h4⟩:=hr;have e:renLoc rn ρ b'=ρ b:=by unfold renLoc;rw[h1]
   exact⟨hb2,hb,by rw[e];exact h2,cap,h3,by rw[e];exact h4⟩
  |_=>exact h.elim
 |ptr b' o'=>
  obtain⟨hb,h⟩:=h
  cases c with
  |ptr b o=>
   obtain⟨h1,rfl⟩:=h;obtain⟨_,g,o1,h2,h3⟩:=hr;have e:renLoc rn ρ b'=ρ b:=by unfold renLoc;rw[h1]
   exact⟨hb,g,o1,by rw[e];exact h2,h3⟩
  |_=>exact h.elim
 |int k' n'=>
  cases c with
  |int k n=>obtain⟨rfl,rfl⟩:=h;exact hr
  |_=>exact h.elim
 |bool b'=>
  cases c with
  |bool b=>cases h;exact hr
  |_=>exact h.elim
 |str s'=>
  cases c with
  |str s=>cases h;exact hr
  |_=>exact h.elim
 |nil=>
  cases c with
  |nil=>exact hr
  |_=>exact h.elim
 |ints k' xs'=>
  cases c with
  |ints k xs=>obtain⟨rfl,rfl⟩:=h;exact RepI.ext hx (.ints k xs) v hr
  |nil=>cases h;exact⟨none,0,hr,O1 _,.inl rfl⟩
  |_=>exact h.elim
 |rows w' n' f'=>
  cases c with
  |rows wd n f=>
   obtain⟨rfl,rfl,hf⟩:=h;exact RepI.ext hx (.rows wd n f') v (rowsI_congr hf hr)
  |nil=>cases h;exact⟨none,0,hr,O1 _,.inl rfl⟩
  |_=>exact h.elim
 |fn f' n' caps'=>
  cases c with
  |fn f n caps=>
   obtain⟨rfl,⟨rfl,rfl⟩|⟨rfl,rfl,h1,h2⟩⟩:=h
   ·obtain⟨cs,hv,hn,_⟩:=hr;exact⟨cs,hv,hn,fun i hi=>absurd hi (O5 _)⟩
   obtain⟨cs,hv,hn,hc⟩:=hr;refine⟨cs,hv,hn,fun i hi=>?_⟩;obtain rfl:i=0:=by omega
   have h3:=hc 0 hi;rw[←h2]
   cases hcc:caps 0 with
   |elt s w i o=>rw[hcc]at h3;exact RepI.ext hx (.elt s w i o) _ h3
   |_=>rw[hcc]at h1;cases h1
  |_=>exact h.elim
 |elt s' w' i' o'=>
  cases c with
  |elt s w i o=>obtain⟨rfl,rfl,rfl,rfl⟩:=h;exact RepI.ext hx (.elt s w i o) v hr
  |_=>exact h.elim
 |eptr b wd i off=>exact h.elim
theorem lRen_sound (hx:Ext ok ok' w w):∀{cs cs':List C} {vs:List Value},Y3 rn nx cs cs'→RepL ρ dom ok w cs vs→RepL (renLoc rn ρ) (fun b=>b<nx) ok' w cs' vs
 |[],[],[],_,_=>trivial
 |c::cs,c'::cs',v::vs,h,hr=>⟨cRen_sound hx h.1 hr.1,lRen_sound hx h.2 hr.2⟩
 |[],_::_,_,h,_=>h.elim
 |_::_,[],_,h,_=>h.elim
 |[],[],_::_,_,hr=>hr.elim
 |_::_,_::_,[],_,hr=>hr.elim
theorem vRen_sound (hx:Ext ok ok' w w){x x':V}{v:Value}(h:Y1 rn nx x x')(hr:RepV ρ dom ok w x v):RepV (renLoc rn ρ) (fun b=>b<nx) ok' w x' v:=by
 cases x' with
 |unk=>trivial
 |one c'=>
  cases x with
  |one c=>exact cRen_sound hx h hr
  |_=>exact h.elim
 |agg cs'=>
  cases x with
  |agg cs=>obtain⟨vs,hv,hl⟩:=hr;exact⟨vs,hv,lRen_sound hx h hl⟩
  |_=>exact h.elim
 |tup xs=>exact h.elim
theorem lRen_get:∀{cs cs':List C},Y3 rn nx cs cs'→∀(j:Nat) c',cs'[j]? =some c'→∃c,cs[j]? =some c∧Y2 rn nx c c'
 |[],[],_,j,c',hj=>by simp at hj
 |c::cs,c0::cs',h,0,c',hj=>by simp at hj;subst hj;exact⟨c,rfl,h.1⟩
 |c::cs,c0::cs',h,j+1,c',hj=>by simpa using lRen_get h.2 j c' (by simpa using hj)
 |[],_::_,h,_,_,_=>h.elim
 |_::_,[],h,_,_,_=>h.elim
theorem bRen_len {B B':Bk}(h:Y5 rn nx B B'):B'.len=B.len:=by
 cases B' with
 |var cs'=>cases B<;>first|rfl|exact h.elim
 |ints e' k' xs'=>
  cases B with
  |ints e k xs=>obtain⟨_,rfl⟩:=h;rfl
  |_=>exact h.elim
 |rows e' w' n' f'=>
  cases B with
  |rows e wd n f=>obtain⟨_,rfl,_⟩:=h;rfl
  |wins e b2 n g=>obtain⟨_,rfl,_⟩:=h;rfl
  |_=>exact h.elim
 |wins e' b2' n' g'=>
  cases B with
  |rows e wd n f=>obtain⟨_,rfl,_⟩:=h;rfl
  |wins e b2 n g=>obtain⟨rfl,_⟩:=h;rfl
  |_=>exact h.elim
theorem bRen_sound (hx:Ext ok ok' w w){B B':Bk}{l:Loc}(h:Y5 rn nx B B')(hr:RepBk ρ dom ok w l B):RepBk (renLoc rn ρ) (fun b=>b<nx) ok' w l B':=by
 unfold RepBk at*
 cases ha:l.addr with
 |none=>
  rw[ha]at hr;simp only at hr⊢;intro j
  cases B' with
  |var cs'=>
   cases B with
   |var cs=>
    cases hj:(Bk.var cs').cell j with
    |none=>rfl
    |some c'=>
     obtain⟨c,hc,_⟩:=lRen_get h j c' hj
     have:=hr j
     simp only[Bk.cell]at this;rw[hc]at this;cases this
   |_=>exact h.elim
  |ints e' k' xs'=>
   cases B with
   |ints e k xs=>obtain⟨rfl,rfl⟩:=h;exact hr j
   |_=>exact h.elim
  |rows e' w' n' f'=>
   cases B with
   |rows e wd n f=>
    obtain⟨rfl,rfl,_⟩:=h
    have:=hr j
    simp only[Bk.cell]at this⊢
    split
    ·rename_i hlt;rw[if_pos hlt]at this;cases this
    rfl
   |wins e b2 n g=>
    obtain⟨rfl,rfl,_⟩:=h
    have:=hr j
    simp only[Bk.cell,Nat.mul_one]at this⊢
    split
    ·rename_i hlt;rw[if_pos hlt]at this;cases this
    rfl
   |_=>exact h.elim
  |wins e' b2' n' g'=>
   cases B with
   |rows e wd n f=>
    obtain⟨rfl,rfl,_⟩:=h
    have:=hr j
    simp only[Bk.cell,Nat.mul_one]at this⊢
    split
    ·rename_i hlt;rw[if_pos hlt]at this;cases this
    rfl
   |wins e b2 n g=>
    obtain⟨rfl,_⟩:=h
    have:=hr j
    simp only[Bk.cell]at this⊢
    split
    ·rename_i hlt;rw[if_pos hlt]at this;cases this
    rfl
   |_=>exact h.elim
 |some p=>
  obtain⟨g,o⟩:=p;rw[ha]at hr;simp only at hr⊢;obtain⟨cur,e,hg,hc⟩:=hr;refine⟨cur,e,hg,fun j c' hj=>?_⟩
  cases B' with
  |var cs'=>
   cases B with
   |var cs=>
    obtain⟨c,hcj,hcr⟩:=lRen_get h j c' hj;obtain⟨u,hu,hr⟩:=hc j c hcj;exact⟨u,hu,cRen_sound hx hcr hr⟩
   |_=>exact h.elim
  |ints e' k' xs'=>
   cases B with
   |ints e k xs=>
    obtain⟨rfl,rfl⟩:=h;obtain⟨u,hu,hr⟩:=hc j c' hj;exact⟨u,hu,RepI.ext hx _ _ hr⟩
   |_=>exact h.elim
  |rows e' w' n' f'=>
   cases B with
   |rows e wd n f=>
    obtain⟨rfl,rfl,hf⟩:=h;simp only[Bk.cell]at hj
    split at hj
    ·rename_i hlt
     simp only[Q6]at hj
     have hwd:0<wd:=by rcases Nat.eq_zero_or_pos wd with h0|h0;(subst h0;simp at hlt);exact h0
     have h1:j/wd<n:=by rw[Nat.div_lt_iff_lt_mul hwd];exact hlt
     obtain⟨u,hu,hr⟩:=hc j (f (j/wd) (j%wd)) (by simp only[Bk.cell,if_pos hlt]);rw[hf _ _ h1 (Nat.mod_lt _ hwd),hj]at hr;exact⟨u,hu,RepI.ext hx _ _ hr⟩
    cases hj
   |wins e b2 n g=>
    obtain⟨rfl,rfl,hf⟩:=h;simp only[Bk.cell,Nat.mul_one,Nat.div_one,Nat.mod_one]at hj
    split at hj
    ·rename_i hlt
     simp only[Q6]at hj;obtain⟨u,hu,hr⟩:=hc j (g j) (by simp only[Bk.cell,if_pos hlt]);obtain⟨f1,f2⟩:=hf j hlt;have hr:=frzC_rep f1 hr;rw[f2,hj]at hr;exact⟨u,hu,RepI.ext hx _ _ hr⟩
    cases hj
   |_=>exact h.elim
  |wins e' b2' n' g'=>
   cases B with
   |rows e wd n f=>
    obtain⟨rfl,rfl,hf⟩:=h;simp only[Bk.cell]at hj
    split at hj
    ·rename_i hlt
     simp only[Q6]at hj;obtain⟨u,hu,hr⟩:=hc j (f j 0) (by simp only[Bk.cell,Nat.mul_one,if_pos hlt,Nat.div_one,Nat.mod_one])
     have:=cRen_sound (ρ:=ρ) (dom:=dom) hx (hf j hlt) (RepC.of_repI hr)
     rw[hj]at this;exact⟨u,hu,this⟩
    cases hj
   |wins e b2 n g=>
    obtain⟨rfl,hf⟩:=h;simp only[Bk.cell]at hj
    split at hj
    ·rename_i hlt
     simp only[Q6]at hj;obtain⟨u,hu,hr⟩:=hc j (g j) (by simp only[Bk.cell,if_pos hlt])
     have:=cRen_sound hx (hf j hlt) hr
     rw[hj]at this;exact⟨u,hu,this⟩
    cases hj
   |_=>exact h.elim
theorem envRen_get {env env':List (Nat×V)}(h:Y0 rn nx env env')(t:Nat):Y1 rn nx (lk env t) (lk env' t):=by
 induction env' with
 |nil=>trivial
 |cons p r ih=>
  obtain⟨t',x'⟩:=p;simp only[lk]
  split
  ·rename_i he;subst he;exact h.1
  exact ih h.2
theorem ownRen_get {own own':List (Nat×Blk)}(h:Y4 rn nx own own'){b':Nat}{B':Blk}(hl:lo own' b'=some B'):b'<nx∧((ren rn b'=none∧Y7 B'.bk)∨∃b B,ren rn b'=some b∧lo own b=some B∧(B'.rw=true→B.rw=true)∧Y5 rn nx B.bk B'.bk):=by
 induction own' with
 |nil=>cases hl
 |cons p r ih=>
  obtain⟨c,v⟩:=p;simp only[lo]at hl
  split at hl
  ·rename_i he
   subst he;obtain rfl:=Option.some.inj hl;obtain⟨h1,h2⟩:=h.1;refine⟨h1,?_⟩
   split at h2
   ·rename_i hr;exact .inl ⟨hr,h2⟩
   rename_i b hr
   split at h2
   ·rename_i B hB;exact .inr ⟨b,B,hr,hB,h2⟩
   exact h2.elim
  exact ih h.2 hl
theorem lo_mem {own:List (Nat×Blk)}{b:Nat}{B:Blk}(h:lo own b=some B):∃p∈own,p.1=b:=by
 induction own with
 |nil=>cases h
 |cons p r ih=>
  obtain⟨c,v⟩:=p;simp only[lo]at h
  split at h
  ·rename_i he;exact⟨(c,v),by simp,he.symm⟩
  obtain⟨q,hq,he⟩:=ih h;exact⟨q,by simp[hq],he⟩
theorem apart_get {own:List (Nat×Blk)}(h:Y6 rn own){b1 b2:Nat}(h1:∃p∈own,p.1=b1)(h2:∃p∈own,p.1=b2)(hne:b1≠b2)(hr:ren rn b1=ren rn b2):ren rn b1=none:=by
 induction own with
 |nil=>obtain⟨p,hp,_⟩:=h1;simp at hp
 |cons q r ih=>
  obtain⟨p1,hp1,rfl⟩:=h1;obtain⟨p2,hp2,rfl⟩:=h2
  rcases List.mem_cons.1 hp1 with e1|hm1
  ·rcases List.mem_cons.1 hp2 with e2|hm2
   ·exact absurd (by rw[e1,e2]) hne
   rcases h.1 p2 hm2 with h3|h3|h3
   ·exact absurd (by rw[h3,e1]) hne
   ·rw[hr];exact h3
   exact absurd (by rw[←hr,e1]) h3
  rcases List.mem_cons.1 hp2 with e2|hm2
  ·rcases h.1 p1 hm1 with h3|h3|h3
   ·exact absurd (by rw[h3,e2]) hne
   ·exact h3
   exact absurd (by rw[hr,e2]) h3
  exact ih h.2 ⟨p1,hm1,rfl⟩ ⟨p2,hm2,rfl⟩
end
theorem Sub.of (rn:List (Nat×Option Nat)){s s':St}(hz:ren rn 0=some 0∧0<s'.nx)(hn:s.n=s'.n)(he:Y0 rn s'.nx s.env s'.env)(ho:Y4 rn s'.nx s.own s'.own)(ha:Y6 rn s'.own):Sub s s':=by
 rintro G a w ⟨ρ,h⟩;have hinj:∀b1 B1 b2 B2,lo s'.own b1=some B1→lo s'.own b2=some B2→b1≠b2→∀c,ren rn b1=some c→ren rn b2≠some c:=by
  intro b1 B1 b2 B2 h1 h2 hne c hc hc2
  have:=apart_get ha (lo_mem h1) (lo_mem h2) hne (hc.trans hc2.symm)
  rw[hc]at this;cases this
 have hok:∀g,okOf G s.own ρ w g→okOf G s'.own (renLoc rn ρ) w g:=fun g hg=>⟨hg.1,hg.2.1,fun b' B' hl hrw o hadr=>by
  obtain⟨_,hc⟩:=ownRen_get ho hl
  rcases hc with⟨hr,_⟩|⟨b,B,hr,hlo,hrw',_⟩
  ·unfold renLoc at hadr;rw[hr]at hadr;cases hadr
  unfold renLoc at hadr;rw[hr]at hadr;exact hg.2.2 b B hlo (hrw' hrw) o hadr⟩
 have hx:Ext (okOf G s.own ρ w) (okOf G s'.own (renLoc rn ρ) w) w w:=Ext.of_imp hok;refine⟨renLoc rn ρ,{hd:=h.hd,hn:=h.hn.trans hn,env:=fun t=>vRen_sound hx (envRen_get he t) (h.env t),own:=fun b' B' hl=>?_,inj:=fun b1 B1 b2 B2 h1 h2 hne hrw g o o' hadr=>?_,os:=h.os,tape:=h.tape,output:=h.output,size:=h.size,keep:=h.keep,wf:=h.wf,home:=fun l hl=>⟨hz.2,by unfold renLoc;rw[hz.1];exact(h.home l hl).2⟩,room:=h.room}⟩
 ·obtain⟨hlt,hc⟩:=ownRen_get ho hl
  rcases hc with⟨hr,hem⟩|⟨b,B,hr,hlo,hrw',hbr⟩
  ·have e:renLoc rn ρ b'=⟨none,0⟩:=by unfold renLoc;rw[hr]
   rw[e];refine⟨hlt,?_,?_,fun g o hadr=>by cases hadr⟩
   ·cases hB:B'.bk with
    |var cs=>rw[hB]at hem;exact hem.elim
    |ints e k xs=>rw[hB]at hem;have hem:xs=[]:=hem;subst hem;rfl
    |rows e wd n f=>rw[hB]at hem;have hem:n=0:=hem;subst hem;rfl
    |wins e b2 n g=>rw[hB]at hem;have hem:n=0:=hem;subst hem;rfl
   unfold RepBk;intro j
   cases hB:B'.bk with
   |var cs=>rw[hB]at hem;exact hem.elim
   |ints e k xs=>rw[hB]at hem;have hem:xs=[]:=hem;subst hem;simp[Bk.cell]
   |rows e wd n f=>rw[hB]at hem;have hem:n=0:=hem;subst hem;simp[Bk.cell]
   |wins e b2 n g=>rw[hB]at hem;have hem:n=0:=hem;subst hem;simp[Bk.cell]
  have e:renLoc rn ρ b'=ρ b:=by unfold renLoc;rw[hr]
  obtain⟨_,h2,h3,h4⟩:=h.own b B hlo;rw[e];exact⟨hlt,by rw[h2,bRen_len hbr],bRen_sound hx hbr h3,h4⟩
 obtain⟨_,hc1⟩:=ownRen_get ho h1;obtain⟨_,hc2⟩:=ownRen_get ho h2
 rcases hc1 with⟨hr1,_⟩|⟨c1,D1,hr1,hl1,hw1,_⟩
 ·unfold renLoc at hadr;rw[hr1]at hadr;cases hadr
 rcases hc2 with⟨hr2,_⟩|⟨c2,D2,hr2,hl2,_,_⟩
 ·unfold renLoc;rw[hr2];simp
 unfold renLoc at hadr⊢;rw[hr1]at hadr;rw[hr2];refine h.inj c1 D1 c2 D2 hl1 hl2 (fun e=>?_) (hw1 hrw) g o o' hadr;subst e;exact hinj b1 B1 b2 B2 h1 h2 hne c1 hr1 hr2
theorem Sub.trans {s1 s2 s3:St}(h:Sub s1 s2)(k:Sub s2 s3):Sub s1 s3:=fun G a w hs=>k G a w (h G a w hs)
def frzW (b3:Nat)(B:Bk):C→C
 |.own b w o l=>if b=b3 then vwBk B w o l else .own b w o l
 |.any=>.any
 |.bool b=>.bool b
 |.int k n=>.int k n
 |.str s=>.str s
 |.nil=>.nil
 |.ints k xs=>.ints k xs
 |.rows w n f=>.rows w n f
 |.win b b2 o l=>.win b b2 o l
 |.ptr b o=>.ptr b o
 |.elt c w i o=>.elt c w i o
 |.eptr b w i o=>.eptr b w i o
 |.fn f n caps=>.fn f n caps
end Go.Eng
namespace Go.Eng
open Go
section
variable {T:Tab}{P:Program}{kp:Kp}{e:List (Nat×V)}{o:List (Nat×Blk)}{x n:Nat}{Q:Exit→St→Prop}{K:St→Prop}{KE:Eff→Prop}
theorem vc_skip:vc T P kp .skip ⟨e,o,x,n⟩ Q=Q .normal ⟨e,o,x,n⟩:=rfl
theorem vc_region {id:Nat}{ops:Array Oper}{d:Bool}:vc T P kp (.region id ops d) ⟨e,o,x,n⟩ Q=vcRegion T P kp.ms id d ops.toList ⟨e,o,x,n⟩ (fun s'=>Q .normal (gc kp.ks s')):=rfl
def seqQ (T:Tab)(P:Program)(kp:Kp)(b:Code)(Q:Exit→St→Prop):Exit→St→Prop:=fun e s'=>match e with
  |.normal=>vc T P kp b s' Q
  |e=>Q e s'
theorem vc_seq {a b:Code}:vc T P kp (.seq a b) ⟨e,o,x,n⟩ Q=vc T P kp a ⟨e,o,x,n⟩ (seqQ T P kp b Q):=rfl
theorem seqQ_normal {b:Code}:seqQ T P kp b Q .normal ⟨e,o,x,n⟩=vc T P kp b ⟨e,o,x,n⟩ Q:=rfl
theorem seqQ_ret {b:Code}:seqQ T P kp b Q .ret ⟨e,o,x,n⟩=Q .ret ⟨e,o,x,n⟩:=rfl
theorem seqQ_exit {b:Code}{id:Nat}:seqQ T P kp b Q (.exit id) ⟨e,o,x,n⟩=Q (.exit id) ⟨e,o,x,n⟩:=rfl
def condK (v:V)(A B:St→Prop)(s:St):Prop:=match v with
 |.one (.bool t)=>(t=true→Later A s)∧(t=false→Later B s)
 |_=>False
theorem condK_bool {t:Bool}{A B:St→Prop}{s:St}:condK (.one (.bool t)) A B s=((t=true→Later A s)∧(t=false→Later B s)):=rfl
theorem later_t {α:Type}{A:α→Prop}{s:α}:(True→Later A s)=A s:=by simp only[true_imp_iff];rfl
theorem later_f {α:Type}{A:α→Prop}{s:α}:(False→Later A s)=True:=by simp only[false_imp_iff]
theorem vc_cond {c:Operand}{a b:Code}:vc T P kp (.cond c a b) ⟨e,o,x,n⟩ Q=condK (St.ev ⟨e,o,x,n⟩ c) (fun s=>vc T P kp a s Q) (fun s=>vc T P kp b s Q) ⟨e,o,x,n⟩:=rfl
def blockQ (id:Nat)(Q:Exit→St→Prop):Exit→St→Prop:=fun e s'=>match e with
  |.exit id'=>if id'=id then Q .normal s' else Q (.exit id') s'
  |e=>Q e s'
theorem vc_block {id:Nat}{c:Code}:vc T P kp (.block id c) ⟨e,o,x,n⟩ Q=vc T P kp c ⟨e,o,x,n⟩ (blockQ id Q):=rfl
theorem blockQ_normal {id:Nat}:blockQ id Q .normal ⟨e,o,x,n⟩=Q .normal ⟨e,o,x,n⟩:=rfl
theorem blockQ_ret {id:Nat}:blockQ id Q .ret ⟨e,o,x,n⟩=Q .ret ⟨e,o,x,n⟩:=rfl
theorem blockQ_exit {id id':Nat}:blockQ id Q (.exit id') ⟨e,o,x,n⟩=if id'=id then Q .normal ⟨e,o,x,n⟩else Q (.exit id') ⟨e,o,x,n⟩:=rfl
def loopQ {ι:Type}(I:ι→St)(m:ι→Nat)(k:Nat)(Q:Exit→St→Prop):Exit→St→Prop:=fun e s'=>match e with
  |.normal=>∃y,Sub s' (I y)∧m y<k
  |e=>Q e s'
def LoopK (T:Tab)(P:Program)(kp:Kp)(c:Code)(Q:Exit→St→Prop)(s:St):Prop:=
 ∃(ι:Type) (I:ι→St) (m:ι→Nat) (x0:ι),Sub s (I x0)∧∀x,vc T P kp c (I x) (loopQ I m (m x) Q)
theorem vc_loop {c:Code}:vc T P kp (.loop c) ⟨e,o,x,n⟩ Q=LoopK T P kp c Q ⟨e,o,x,n⟩:=rfl
theorem Lk {c:Code}{s:St}{ι:Type}(I:ι→St)(m:ι→Nat)(x0:ι)(h0:Sub s (I x0))(h:∀x,vc T P kp c (I x) (loopQ I m (m x) Q)):LoopK T P kp c Q s:=⟨ι,I,m,x0,h0,h⟩
theorem loopQ_ret {ι:Type}{I:ι→St}{m:ι→Nat}{k:Nat}:loopQ I m k Q .ret ⟨e,o,x,n⟩=Q .ret ⟨e,o,x,n⟩:=rfl
theorem loopQ_exit {ι:Type}{I:ι→St}{m:ι→Nat}{k id:Nat}:loopQ I m k Q (.exit id) ⟨e,o,x,n⟩=Q (.exit id) ⟨e,o,x,n⟩:=rfl
theorem Lq {ι:Type}{I:ι→St}{m:ι→Nat}{k:Nat}{s:St}(y:ι)(h:Sub s (I y))(h1:m y<k):loopQ I m k Q .normal s:=⟨y,h,h1⟩
theorem vc_exit {id:Nat}:vc T P kp (.exit id) ⟨e,o,x,n⟩ Q=Q (.exit id) ⟨e,o,x,n⟩:=rfl
theorem vc_ret:vc T P kp .ret ⟨e,o,x,n⟩ Q=Q .ret ⟨e,o,x,n⟩:=rfl
theorem vcRegion_t {ms:List (Nat×WL)}{id:Nat}{os:List Oper}:vcRegion T P ms id true os ⟨e,o,x,n⟩ K=vcDraw T P (modeOf ms id) os ⟨e,o,x,n⟩ K:=by simp only[vcRegion,if_true]
theorem vcDraw_none {os:List Oper}:vcDraw T P none os ⟨e,o,x,n⟩ K=vcR T P x os.length 0 os [] ⟨e,o,x,n⟩ K:=rfl
theorem vcDraw_nil {os:List Oper}:vcDraw T P (some .nil) os ⟨e,o,x,n⟩ K=vcGR T P x os.length .nil 0 os [] ⟨e,o,x,n⟩ (fun s'=>vcGW T P os .nil s' K):=rfl
theorem vcDraw_cons {i:Nat}{pd:List Nat}{r al:WL}{os:List Oper}:vcDraw T P (some (.cons i pd r al)) os ⟨e,o,x,n⟩ K=vcGR T P x os.length (.cons i pd r al) 0 os [] ⟨e,o,x,n⟩ (fun s'=>vcGW T P os (.cons i pd r al) s' K):=rfl
theorem vcDraw_opt {q d:Nat}{t1 t2:WL}{os:List Oper}:vcDraw T P (some (.opt q d t1 t2)) os ⟨e,o,x,n⟩ K=vcGR T P x os.length t1 0 os [] ⟨e,o,x,n⟩ (fun s'=>vcGW T P os t1 s' K∧vcGW T P os t2 (unQ d (x+q) s') K):=rfl
theorem unQ_mk {d id:Nat}:unQ d id ⟨e,o,x,n⟩=⟨drp e d,del o id,x,n⟩:=rfl
theorem vcRegion_f {ms:List (Nat×WL)}{id:Nat}{os:List Oper}:vcRegion T P ms id false os ⟨e,o,x,n⟩ K=vcW T P 0 os [] ⟨e,o,x,n⟩ K:=by simp only[vcRegion,Bool.false_eq_true,if_false]
def stepW (T:Tab)(P:Program)(i:Nat)(os:List Oper)(gd:List (Nat×Tmp))(dst:Option Tmp)(op:Op)(K:St→Prop)(s:St):Prop:=
 if isWr op then wOp T op dst s (fun s'=>vcW T P (i+1) os gd s' K)
 else if isCallV op then orM (rOp T P op s s.nx s.nx (frozenUse dst os) (fun e=>gsplit (uG i os) e fun e'=>vcW T P (i+1) os (gset (uG i os) i dst gd) (after s dst e') K)) (mCall P op dst s (fun s'=>vcW T P (i+1) os gd s' K))
 else rOp T P op s s.nx s.nx (frozenUse dst os) (fun e=>gsplit (uG i os) e fun e'=>vcW T P (i+1) os (gset (uG i os) i dst gd) (after s dst e') K)
def gsel (v:Option V)(want:Bool)(A B:St→Prop)(s:St):Prop:=
 match v.bind gv with
 |some b=>if b=some want then A s else B s
 |none=>False
theorem vcW_nil {i:Nat}{gd:List (Nat×Tmp)}:vcW T P i [] gd ⟨e,o,x,n⟩ K=K ⟨e,o,x,n⟩:=rfl
theorem vcW_none {i:Nat}{gd:List (Nat×Tmp)}{dst:Option Tmp}{op:Op}{ty:TypeId}{pos:String}{af:Array Edge}{os:List Oper}:
  vcW T P i (⟨dst,op,ty,pos,af,none⟩::os) gd ⟨e,o,x,n⟩ K=(dstB dst n∧stepW T P i os gd dst op K ⟨e,o,x,n⟩):=rfl
theorem vcW_some {i g:Nat}{want:Bool}{gd:List (Nat×Tmp)}{dst:Option Tmp}{op:Op}{ty:TypeId}{pos:String}{af:Array Edge}{os:List Oper}:
  vcW T P i (⟨dst,op,ty,pos,af,some (g,want)⟩::os) gd ⟨e,o,x,n⟩ K=(dstB dst n∧gsel ((glook gd g).map (lk e)) want (stepW T P i os gd dst op K) (fun s=>vcW T P (i+1) os (gset (uG i os) i dst gd) (s.put dst (.tup [])) K) ⟨e,o,x,n⟩):=by
 simp only[vcW,guarded,gsel]
 cases glook gd g with
 |none=>rfl
 |some t=>rfl
def stepR (T:Tab)(P:Program)(nx0 len:Nat)(i:Nat)(os:List Oper)(gd:List (Nat×Tmp))(dst:Option Tmp)(op:Op)(K:St→Prop)(s:St):Prop:=
 if isCallV op then orM (rOp T P op s nx0 (nx0+i) (frozenUse dst os) (fun e=>fzB nx0 e.fz∧gsplit (uG i os) e fun e'=>vcR T P nx0 len (i+1) os (gset (uG i os) i dst gd) (s.add dst (nx0+i) e') K)) False else rOp T P op s nx0 (nx0+i) (frozenUse dst os) (fun e=>fzB nx0 e.fz∧gsplit (uG i os) e fun e'=>vcR T P nx0 len (i+1) os (gset (uG i os) i dst gd) (s.add dst (nx0+i) e') K)
theorem vcR_nil {nx0 len i:Nat}{gd:List (Nat×Tmp)}:vcR T P nx0 len i [] gd ⟨e,o,x,n⟩ K=K ⟨e,o,nx0+len,n⟩:=rfl
def lastK (l:Bool)(A B:St→Prop)(s:St):Prop:=if l then A s else B s
theorem lastK_t {A B:St→Prop}{s:St}:lastK true A B s=A s:=rfl
theorem lastK_f {A B:St→Prop}{s:St}:lastK false A B s=B s:=rfl
def setNx (s:St)(m:Nat):St:={s with nx:=m}
theorem setNx_mk {m:Nat}:setNx ⟨e,o,x,n⟩ m=⟨e,o,m,n⟩:=rfl
theorem vcR_none {nx0 len i:Nat}{gd:List (Nat×Tmp)}{dst:Option Tmp}{op:Op}{ty:TypeId}{pos:String}{af:Array Edge}{os:List Oper}:
  vcR T P nx0 len i (⟨dst,op,ty,pos,af,none⟩::os) gd ⟨e,o,x,n⟩ K=lastK (isLast op) (fun s=>vcW T P i (⟨dst,op,ty,pos,af,none⟩::os) gd (setNx s (nx0+len)) K) (fun s=>dstB dst n∧stepR T P nx0 len i os gd dst op K s) ⟨e,o,x,n⟩:=rfl
theorem vcR_some {nx0 len i g:Nat}{want:Bool}{gd:List (Nat×Tmp)}{dst:Option Tmp}{op:Op}{ty:TypeId}{pos:String}{af:Array Edge}{os:List Oper}:
  vcR T P nx0 len i (⟨dst,op,ty,pos,af,some (g,want)⟩::os) gd ⟨e,o,x,n⟩ K=lastK (isLast op) (fun s=>vcW T P i (⟨dst,op,ty,pos,af,some (g,want)⟩::os) gd (setNx s (nx0+len)) K)
   (fun s=>dstB dst n∧gsel ((glook gd g).map (lk s.env)) want (stepR T P nx0 len i os gd dst op K) (fun s=>vcR T P nx0 len (i+1) os (gset (uG i os) i dst gd) (s.put dst (.tup [])) K) s) ⟨e,o,x,n⟩:=by
 simp only[vcR,guarded,gsel,lastK]
 cases glook gd g with
 |none=>rfl
 |some t=>rfl
def stepG (T:Tab)(P:Program)(nx0 len:Nat)(ws:WL)(i:Nat)(os:List Oper)(gd:List (Nat×Tmp))(dst:Option Tmp)(op:Op)(K:St→Prop)(s:St):Prop:=
 if isCallV op then orM (rOp T P op s nx0 (nx0+i) (frozenUse dst os) (fun e=>fzB nx0 e.fz∧gsplit (uG i os) e fun e'=>vcGR T P nx0 len ws (i+1) os (gset (uG i os) i dst gd) (s.add dst (nx0+i) e') K)) False else rOp T P op s nx0 (nx0+i) (frozenUse dst os) (fun e=>fzB nx0 e.fz∧gsplit (uG i os) e fun e'=>vcGR T P nx0 len ws (i+1) os (gset (uG i os) i dst gd) (s.add dst (nx0+i) e') K)
theorem vcGR_nil {nx0 len i:Nat}{ws:WL}{gd:List (Nat×Tmp)}:vcGR T P nx0 len ws i [] gd ⟨e,o,x,n⟩ K=K ⟨e,o,nx0+len,n⟩:=rfl
theorem vcGR_none {nx0 len i:Nat}{ws:WL}{gd:List (Nat×Tmp)}{dst:Option Tmp}{op:Op}{ty:TypeId}{pos:String}{af:Array Edge}{os:List Oper}:
  vcGR T P nx0 len ws i (⟨dst,op,ty,pos,af,none⟩::os) gd ⟨e,o,x,n⟩ K=lastK (wHas ws i) (fun s=>vcGR T P nx0 len ws (i+1) os gd s K) (fun s=>dstB dst n∧stepG T P nx0 len ws i os gd dst op K s) ⟨e,o,x,n⟩:=by
 simp only[vcGR,guarded,lastK,stepG]
theorem vcGR_some {nx0 len i g:Nat}{want:Bool}{ws:WL}{gd:List (Nat×Tmp)}{dst:Option Tmp}{op:Op}{ty:TypeId}{pos:String}{af:Array Edge}{os:List Oper}:
  vcGR T P nx0 len ws i (⟨dst,op,ty,pos,af,some (g,want)⟩::os) gd ⟨e,o,x,n⟩ K=lastK (wHas ws i) (fun s=>vcGR T P nx0 len ws (i+1) os gd s K)
   (fun s=>dstB dst n∧gsel ((glook gd g).map (lk s.env)) want (stepG T P nx0 len ws i os gd dst op K) (fun s=>vcGR T P nx0 len ws (i+1) os (gset (uG i os) i dst gd) (s.put dst (.tup [])) K) s) ⟨e,o,x,n⟩:=by
 simp only[vcGR,lastK]
 congr 1
 simp only[guarded,gsel,stepG]
 cases glook gd g with
 |none=>rfl
 |some t=>rfl
theorem stepG_c {nx0 len i:Nat}{ws:WL}{os:List Oper}{gd:List (Nat×Tmp)}{dst:Option Tmp}{op:Op}(h1:isCallV op=true):stepG T P nx0 len ws i os gd dst op K ⟨e,o,x,n⟩=
 orM (rOp T P op ⟨e,o,x,n⟩ nx0 (nx0+i) (frozenUse dst os) (fun e'=>fzB nx0 e'.fz∧gsplit (uG i os) e' fun e''=>vcGR T P nx0 len ws (i+1) os (gset (uG i os) i dst gd) (St.add ⟨e,o,x,n⟩ dst (nx0+i) e'') K)) False:=by
 unfold stepG;rw[if_pos h1]
theorem stepG_r {nx0 len i:Nat}{ws:WL}{os:List Oper}{gd:List (Nat×Tmp)}{dst:Option Tmp}{op:Op}(h1:isCallV op=false):stepG T P nx0 len ws i os gd dst op K ⟨e,o,x,n⟩=
 rOp T P op ⟨e,o,x,n⟩ nx0 (nx0+i) (frozenUse dst os) (fun e'=>fzB nx0 e'.fz∧gsplit (uG i os) e' fun e''=>vcGR T P nx0 len ws (i+1) os (gset (uG i os) i dst gd) (St.add ⟨e,o,x,n⟩ dst (nx0+i) e'') K):=by
 unfold stepG;rw[if_neg (by rw[h1];simp)]
theorem vcGW_nil {os:List Oper}:vcGW T P os .nil ⟨e,o,x,n⟩ K=K ⟨e,o,x,n⟩:=by rw[vcGW]
theorem vcGW_one {os:List Oper}{i:Nat}{pd:List Nat}{r:WL}:vcGW T P os (.cons i pd r .nil) ⟨e,o,x,n⟩ K=someP os[i]? (fun p=>dstB p.dst n∧wGd T P os p ⟨e,o,x,n⟩ (fun s'=>prom T P os pd s'∧vcGW T P os r s' K)):=by
 rw[vcGW,vcGS]
 cases os[i]? <;>rfl
theorem vcGW_more {os:List Oper}{i j:Nat}{pd pd':List Nat}{r r' al:WL}:vcGW T P os (.cons i pd r (.cons j pd' r' al)) ⟨e,o,x,n⟩ K=(someP os[i]? (fun p=>dstB p.dst n∧wGd T P os p ⟨e,o,x,n⟩ (fun s'=>prom T P os pd s'∧vcGW T P os r s' K))∧vcGW T P os (.cons j pd' r' al) ⟨e,o,x,n⟩ K):=by
 rw[vcGW,vcGS]
 cases os[i]? <;>rfl
theorem wGd_n {os:List Oper}{dst:Option Tmp}{op:Op}{ty:TypeId}{pos:String}{af:Array Edge}:wGd T P os ⟨dst,op,ty,pos,af,none⟩ ⟨e,o,x,n⟩ K=wAny T P ⟨dst,op,ty,pos,af,none⟩ os ⟨e,o,x,n⟩ K:=rfl
theorem wGd_s {os:List Oper}{g:Nat}{want:Bool}{dst:Option Tmp}{op:Op}{ty:TypeId}{pos:String}{af:Array Edge}:wGd T P os ⟨dst,op,ty,pos,af,some (g,want)⟩ ⟨e,o,x,n⟩ K=
  someP os[g]? (fun p=>someP p.dst fun t=>gsel (some (lk e t)) want (fun _=>wAny T P ⟨dst,op,ty,pos,af,some (g,want)⟩ os ⟨e,o,x,n⟩ K) (fun _=>K (St.put ⟨e,o,x,n⟩ dst (.tup []))) ⟨e,o,x,n⟩):=by
 unfold wGd;simp only[gsel,Option.bind_some]
 cases os[g]? with
 |none=>rfl
 |some p=>
  simp only[Option.bind_some,someP]
  cases p.dst with
  |none=>rfl
  |some t=>first|(simp only[someP];done)|(simp only[someP];cases gv (lk e t)<;>rfl)
theorem wAny_w {os:List Oper}{dst:Option Tmp}{op:Op}{ty:TypeId}{pos:String}{af:Array Edge}{g:Option (Nat×Bool)}(h:isWr op=true):wAny T P ⟨dst,op,ty,pos,af,g⟩ os ⟨e,o,x,n⟩ K=wOp T op dst ⟨e,o,x,n⟩ K:=by
 unfold wAny;exact if_pos h
theorem wAny_c {os:List Oper}{dst:Option Tmp}{op:Op}{ty:TypeId}{pos:String}{af:Array Edge}{g:Option (Nat×Bool)}(h:isWr op=false)(h1:isCallV op=true):wAny T P ⟨dst,op,ty,pos,af,g⟩ os ⟨e,o,x,n⟩ K=
  orM (rOp T P op ⟨e,o,x,n⟩ x x (frozenUse dst os) (fun e'=>K (after ⟨e,o,x,n⟩ dst e'))) (mCall P op dst ⟨e,o,x,n⟩ K):=by
 unfold wAny;simp only[h,h1,Bool.false_eq_true,if_false,if_true]
theorem wAny_r {os:List Oper}{dst:Option Tmp}{op:Op}{ty:TypeId}{pos:String}{af:Array Edge}{g:Option (Nat×Bool)}(h:isWr op=false)(h1:isCallV op=false):wAny T P ⟨dst,op,ty,pos,af,g⟩ os ⟨e,o,x,n⟩ K=
  rOp T P op ⟨e,o,x,n⟩ x x (frozenUse dst os) (fun e'=>K (after ⟨e,o,x,n⟩ dst e')):=by
 unfold wAny;simp only[h,h1,Bool.false_eq_true,if_false]
theorem prom_nil {os:List Oper}{s:St}:prom T P os [] s=True:=rfl
theorem prom_cons {os:List Oper}{j:Nat}{r:List Nat}:prom T P os (j::r) ⟨e,o,x,n⟩=(someP os[j]? (fun p=>someP p.dst fun d=>d<n∧promO T P os p d ⟨e,o,x,n⟩)∧prom T P os r ⟨e,o,x,n⟩):=by
 simp only[prom]
 cases os[j]? with
 |none=>rfl
 |some p=>cases h:p.dst<;>simp only[someP,h]
theorem promO_n {os:List Oper}{d:Nat}{dst:Option Tmp}{op:Op}{ty:TypeId}{pos:String}{af:Array Edge}:promO T P os ⟨dst,op,ty,pos,af,none⟩ d ⟨e,o,x,n⟩=rOp T P op ⟨e,o,x,n⟩ x x false (fun e'=>e'.val=lk e d):=rfl
theorem promO_s {os:List Oper}{d g:Nat}{want:Bool}{dst:Option Tmp}{op:Op}{ty:TypeId}{pos:String}{af:Array Edge}:promO T P os ⟨dst,op,ty,pos,af,some (g,want)⟩ d ⟨e,o,x,n⟩=
  someP os[g]? (fun p=>someP p.dst fun t=>gsel (some (lk e t)) want (fun _=>rOp T P op ⟨e,o,x,n⟩ x x false (fun e'=>e'.val=lk e d)) (fun _=>lk e d= .tup []) ⟨e,o,x,n⟩):=by
 unfold promO;simp only[gsel,Option.bind_some]
 cases os[g]? with
 |none=>rfl
 |some p=>
  simp only[Option.bind_some,someP]
  cases p.dst with
  |none=>rfl
  |some t=>first|(simp only[someP];done)|(simp only[someP];cases gv (lk e t)<;>rfl)
theorem gsel_tt {A B:St→Prop}{s:St}:gsel (some (.one (.bool true))) true A B s=A s:=rfl
theorem frzs_e {o:List (Nat×Blk)}:frzs o []=o:=rfl
theorem gsel_s {A B:St→Prop}{s:St}{w:Bool}:gsel (some (.tup [])) w A B s=B s:=rfl
theorem gsel_tf {A B:St→Prop}{s:St}:gsel (some (.one (.bool true))) false A B s=B s:=rfl
theorem gsel_ft {A B:St→Prop}{s:St}:gsel (some (.one (.bool false))) true A B s=B s:=rfl
theorem gsel_ff {A B:St→Prop}{s:St}:gsel (some (.one (.bool false))) false A B s=A s:=rfl
theorem stepW_w {i:Nat}{os:List Oper}{gd:List (Nat×Tmp)}{dst:Option Tmp}{op:Op}(h:isWr op=true):stepW T P i os gd dst op K ⟨e,o,x,n⟩=wOp T op dst ⟨e,o,x,n⟩ (fun s'=>vcW T P (i+1) os gd s' K):=if_pos h
theorem stepW_c {i:Nat}{os:List Oper}{gd:List (Nat×Tmp)}{dst:Option Tmp}{op:Op}(h:isWr op=false)(h1:isCallV op=true):stepW T P i os gd dst op K ⟨e,o,x,n⟩=
 orM (rOp T P op ⟨e,o,x,n⟩ x x (frozenUse dst os) (fun e'=>gsplit (uG i os) e' fun e''=>vcW T P (i+1) os (gset (uG i os) i dst gd) (after ⟨e,o,x,n⟩ dst e'') K)) (mCall P op dst ⟨e,o,x,n⟩ (fun s'=>vcW T P (i+1) os gd s' K)):=by
 unfold stepW;rw[h,h1];rfl
theorem stepW_r {i:Nat}{os:List Oper}{gd:List (Nat×Tmp)}{dst:Option Tmp}{op:Op}(h:isWr op=false)(h1:isCallV op=false):stepW T P i os gd dst op K ⟨e,o,x,n⟩=
 rOp T P op ⟨e,o,x,n⟩ x x (frozenUse dst os) (fun e'=>gsplit (uG i os) e' fun e''=>vcW T P (i+1) os (gset (uG i os) i dst gd) (after ⟨e,o,x,n⟩ dst e'') K):=by
 unfold stepW;rw[h,h1];rfl
theorem stepR_c {nx0 len i:Nat}{os:List Oper}{gd:List (Nat×Tmp)}{dst:Option Tmp}{op:Op}(h1:isCallV op=true):stepR T P nx0 len i os gd dst op K ⟨e,o,x,n⟩=
 orM (rOp T P op ⟨e,o,x,n⟩ nx0 (nx0+i) (frozenUse dst os) (fun e'=>fzB nx0 e'.fz∧gsplit (uG i os) e' fun e''=>vcR T P nx0 len (i+1) os (gset (uG i os) i dst gd) (St.add ⟨e,o,x,n⟩ dst (nx0+i) e'') K)) False:=by
 unfold stepR;rw[h1];rfl
theorem stepR_r {nx0 len i:Nat}{os:List Oper}{gd:List (Nat×Tmp)}{dst:Option Tmp}{op:Op}(h1:isCallV op=false):stepR T P nx0 len i os gd dst op K ⟨e,o,x,n⟩=
 rOp T P op ⟨e,o,x,n⟩ nx0 (nx0+i) (frozenUse dst os) (fun e'=>fzB nx0 e'.fz∧gsplit (uG i os) e' fun e''=>vcR T P nx0 len (i+1) os (gset (uG i os) i dst gd) (St.add ⟨e,o,x,n⟩ dst (nx0+i) e'') K):=by
 unfold stepR;rw[h1];rfl
theorem gsplit_f {v:V}{b:Option Bk}{f:List Nat}:gsplit false ⟨v,b,f⟩ KE=KE ⟨v,b,f⟩:=rfl
theorem gsplit_t {t:Bool}{b:Option Bk}{f:List Nat}:gsplit true ⟨.one (.bool t),b,f⟩ KE=((t=true→Later KE ⟨.one (.bool true),b,f⟩)∧(t=false→Later KE ⟨.one (.bool false),b,f⟩)):=rfl
theorem put_some {d:Nat}{v:V}:St.put ⟨e,o,x,n⟩ (some d) v=⟨(d,v)::e,o,x,n⟩:=rfl
theorem put_none {v:V}:St.put ⟨e,o,x,n⟩ none v=⟨e,o,x,n⟩:=rfl
theorem after_some {d:Nat}{v:V}:after ⟨e,o,x,n⟩ (some d) ⟨v,none,[]⟩=⟨(d,v)::e,o,x+1,n⟩:=rfl
theorem after_none {v:V}:after ⟨e,o,x,n⟩ none ⟨v,none,[]⟩=⟨e,o,x+1,n⟩:=rfl
theorem after_fz {d b:Nat}{v:V}{l:List Nat}:after ⟨e,o,x,n⟩ (some d) ⟨v,none,b::l⟩=⟨(d,v)::e,frz o (b::l),x+1,n⟩:=rfl
theorem after_blk {d:Nat}{v:V}{B:Bk}:after ⟨e,o,x,n⟩ (some d) ⟨v,some B,[]⟩=⟨(d,v)::e,upd o x ⟨B,true⟩,x+1,n⟩:=rfl
theorem after_bf {d b:Nat}{v:V}{l:List Nat}{B:Bk}:after ⟨e,o,x,n⟩ (some d) ⟨v,some B,b::l⟩=⟨(d,v)::e,upd (frz o (b::l)) x ⟨B,true⟩,x+1,n⟩:=rfl
theorem add_bf {d b id:Nat}{v:V}{l:List Nat}{B:Bk}:St.add ⟨e,o,x,n⟩ (some d) id ⟨v,some B,b::l⟩=⟨(d,v)::e,upd (frz o (b::l)) id ⟨B,true⟩,x,n⟩:=rfl
theorem add_some {d id:Nat}{v:V}:St.add ⟨e,o,x,n⟩ (some d) id ⟨v,none,[]⟩=⟨(d,v)::e,o,x,n⟩:=rfl
theorem add_none {id:Nat}{v:V}:St.add ⟨e,o,x,n⟩ none id ⟨v,none,[]⟩=⟨e,o,x,n⟩:=rfl
theorem add_fz {d b id:Nat}{v:V}{l:List Nat}:St.add ⟨e,o,x,n⟩ (some d) id ⟨v,none,b::l⟩=⟨(d,v)::e,frz o (b::l),x,n⟩:=rfl
theorem add_blk {d id:Nat}{v:V}{B:Bk}:St.add ⟨e,o,x,n⟩ (some d) id ⟨v,some B,[]⟩=⟨(d,v)::e,upd o id ⟨B,true⟩,x,n⟩:=rfl
theorem gc_mk {ks:List Nat}:gc ks ⟨e,o,x,n⟩=⟨ks.map (fun t=>(t,lk e t)),o,x,n⟩:=rfl
theorem ev_tmp {t:Nat}:St.ev ⟨e,o,x,n⟩ (.tmp t)=lk e t:=rfl
theorem ev_const {v:Value}:St.ev ⟨e,o,x,n⟩ (.const v)=cv v:=rfl
theorem ev_func {f:Nat}:St.ev ⟨e,o,x,n⟩ (.func f)= .one (.fn f 0 (fun _=>.any)):=rfl
theorem cv_int {k:IntKind}{i:Int}:cv (.int k i)= .one (.int k i):=rfl
theorem cv_bool {b:Bool}:cv (.bool b)= .one (.bool b):=rfl
theorem cv_nil:cv (.slice none 0 0)= .one .nil:=rfl
theorem cv_str {b:ByteArray}:cv (.string b)= .one (.str b):=rfl
theorem rOp_move {a:Operand}{nx id:Nat}{fz:Bool}:rOp T P (.move a) ⟨e,o,x,n⟩ nx id fz KE=KE ⟨St.ev ⟨e,o,x,n⟩ a,none,[]⟩:=rfl
theorem rOp_assign {a:Operand}{nx id:Nat}{fz:Bool}:rOp T P (.assign a) ⟨e,o,x,n⟩ nx id fz KE=KE ⟨St.ev ⟨e,o,x,n⟩ a,none,[]⟩:=rfl
def pickV (t a b:V):Option V:=match t with
 |.one (.bool t)=>some (if t then a else b)
 |_=>none
theorem pickV_t {a b:V}:pickV (.one (.bool true)) a b=some a:=rfl
theorem pickV_f {a b:V}:pickV (.one (.bool false)) a b=some b:=rfl
theorem rOp_pick {c a b:Operand}{nx id:Nat}{fz:Bool}:rOp T P (.pick c a b) ⟨e,o,x,n⟩ nx id fz KE=someP (pickV (St.ev ⟨e,o,x,n⟩ c) (St.ev ⟨e,o,x,n⟩ a) (St.ev ⟨e,o,x,n⟩ b)) (fun v=>KE ⟨v,none,[]⟩):=by
 simp only[rOp]
 cases St.ev ⟨e,o,x,n⟩ c with
 |one c=>cases c<;>rfl
 |_=>rfl
theorem rOp_alloc {t:Nat}{nx id:Nat}{fz:Bool}:rOp T P (.alloc t) ⟨e,o,x,n⟩ nx id fz KE=someP (T t) (fun E=>KE ⟨.one (.ptr id 0),some (.var E.zero),[]⟩):=by
 simp only[rOp];cases T t<;>rfl
theorem rOp_box {t:Nat}{a:Operand}{nx id:Nat}{fz:Bool}:rOp T P (.box t a) ⟨e,o,x,n⟩ nx id fz KE=((St.ev ⟨e,o,x,n⟩ a).solid=true∧KE ⟨.one (.ptr id 0),some (.var (cellsOf (St.ev ⟨e,o,x,n⟩ a))),[]⟩):=rfl
theorem rOp_build {t:Nat}{ps:Array (Nat×Operand)}{nx id:Nat}{fz:Bool}:rOp T P (.build t ps) ⟨e,o,x,n⟩ nx id fz KE=someP (T t) (fun E=>someP (bldPl T E.k) fun fs=>someP (fillC fs E.zero (ps.toList.map fun p=>(p.1,St.ev ⟨e,o,x,n⟩ p.2))) fun cs=>KE ⟨.agg cs,none,[]⟩):=by
 simp only[rOp]
 cases T t with
 |none=>rfl
 |some E=>
  simp only[someP_some]
  cases bldPl T E.k with
  |none=>rfl
  |some fs=>simp only[someP_some];cases fillC fs E.zero (ps.toList.map fun p=>(p.1,St.ev ⟨e,o,x,n⟩ p.2))<;>rfl
theorem rOp_buildSlice {t l:Nat}{ps:Array (Nat×Operand)}{nx id:Nat}{fz:Bool}:rOp T P (.buildSlice t l ps) ⟨e,o,x,n⟩ nx id fz KE=rBuildSlice T ⟨e,o,x,n⟩ nx id fz t l ps KE:=rfl
theorem rOp_load {t:Nat}{a:Operand}{nx id:Nat}{fz:Bool}:rOp T P (.load t a) ⟨e,o,x,n⟩ nx id fz KE=rLoad T ⟨e,o,x,n⟩ nx t a KE:=rfl
theorem rOp_bin {op:BinOp}{t t':Nat}{a b:Operand}{nx id:Nat}{fz:Bool}:rOp T P (.binOp op t a b t') ⟨e,o,x,n⟩ nx id fz KE=rBin T ⟨e,o,x,n⟩ op t a b KE:=rfl
theorem rOp_un {op:UnOp}{t:Nat}{a:Operand}{nx id:Nat}{fz:Bool}:rOp T P (.unOp op t a) ⟨e,o,x,n⟩ nx id fz KE=rUn ⟨e,o,x,n⟩ op a KE:=rfl
theorem rOp_conv {t t':Nat}{a:Operand}{nx id:Nat}{fz:Bool}:rOp T P (.convert t t' a) ⟨e,o,x,n⟩ nx id fz KE=rConvert T ⟨e,o,x,n⟩ t t' a KE:=rfl
theorem rOp_make {t:Nat}{a b:Operand}{nx id:Nat}{fz:Bool}:rOp T P (.makeSlice t a b) ⟨e,o,x,n⟩ nx id fz KE=rMakeSlice T ⟨e,o,x,n⟩ id fz t a b KE:=rfl
theorem rOp_slice {t:Nat}{a:Operand}{lo hi mx:Option Operand}{nx id:Nat}{fz:Bool}:rOp T P (.slice t a lo hi mx) ⟨e,o,x,n⟩ nx id fz KE=rSlice T ⟨e,o,x,n⟩ t a lo hi mx KE:=rfl
theorem rOp_field {t f:Nat}{a:Operand}{nx id:Nat}{fz:Bool}:rOp T P (.fieldAddr t a f) ⟨e,o,x,n⟩ nx id fz KE=rFieldAddr T ⟨e,o,x,n⟩ t a f KE:=rfl
theorem rOp_fieldv {t f:Nat}{a:Operand}{nx id:Nat}{fz:Bool}:rOp T P (.field t a f) ⟨e,o,x,n⟩ nx id fz KE=rField T ⟨e,o,x,n⟩ t a f KE:=rfl
theorem rOp_makeFunc {f:FuncId}{cs:Array Operand}{nx id:Nat}{fz:Bool}:rOp T P (.makeFunc (.func f) #[] cs) ⟨e,o,x,n⟩ nx id fz KE=((cs.toList.all fun a=>capOk (St.ev ⟨e,o,x,n⟩ a))=true∧KE ⟨.one (.fn f cs.toList.length (fun i=>capOf ((cs.toList.map (St.ev ⟨e,o,x,n⟩)).getD i .unk))),none,[]⟩):=rfl
theorem rOp_index {t:Nat}{a b:Operand}{nx id:Nat}{fz:Bool}:rOp T P (.indexAddr t a b) ⟨e,o,x,n⟩ nx id fz KE=rIndexAddr T ⟨e,o,x,n⟩ t a b KE:=rfl
theorem rOp_indexs {t:Nat}{a b:Operand}{nx id:Nat}{fz:Bool}:rOp T P (.index t a b) ⟨e,o,x,n⟩ nx id fz KE=rIndex T ⟨e,o,x,n⟩ t a b KE:=rfl
def tupAt (v:V)(i:Nat):Option V:=match v with
 |.tup vs=>vs[i]?
 |_=>none
theorem tupAt_0 {v:V}{vs:List V}:tupAt (.tup (v::vs)) 0=some v:=rfl
theorem tupAt_1 {v u:V}{vs:List V}:tupAt (.tup (v::u::vs)) 1=some u:=rfl
theorem tupAt_2 {v u t:V}{vs:List V}:tupAt (.tup (v::u::t::vs)) 2=some t:=rfl
theorem rOp_extract {i:Nat}{a:Operand}{nx id:Nat}{fz:Bool}:rOp T P (.extract a i) ⟨e,o,x,n⟩ nx id fz KE=someP (tupAt (St.ev ⟨e,o,x,n⟩ a) i) (fun v=>KE ⟨v,none,[]⟩):=by
 simp only[rOp,tupAt]
 cases St.ev ⟨e,o,x,n⟩ a with
 |tup vs=>simp only;cases vs[i]? <;>rfl
 |_=>rfl
theorem rOp_callv {g:Operand}{az:Array Operand}{ts:Array TypeId}{nx id:Nat}{fz:Bool}:rOp T P (.call ⟨.value g,az,ts⟩) ⟨e,o,x,n⟩ nx id fz KE=rCall P ⟨e,o,x,n⟩ nx id g az.toList KE:=rfl
theorem rOp_callb {b:Builtin}{az:Array Operand}{ts:Array TypeId}{nx id:Nat}{fz:Bool}:rOp T P (.call ⟨.builtin b,az,ts⟩) ⟨e,o,x,n⟩ nx id fz KE=rBuiltin T ⟨e,o,x,n⟩ b az.toList ts.toList KE:=rfl
def fnOf:V→Option FuncId
 |.one (.fn f 0 _)=>some f
 |_=>none
def CallK (P:Program)(f:FuncId)(args:List V)(ids:List Nat)(id:Nat)(KE:Eff→Prop):Prop:=(∃r,Pr P f args r∧Later KE ⟨r,none,if scalarV r then[]else ids⟩)∨(∃B,Fr P f args B∧Later KE ⟨.one (.own id B.wd 0 B.len),some B,ids⟩)∨(∃B c,FreshT P f args B c∧Later KE ⟨.tup [.one (.own id B.wd 0 B.len),.one c],some B,ids⟩)
theorem Cg {f:FuncId}{args:List V}{ids:List Nat}{id:Nat}{r:V}{M:Prop}(h:Pr P f args r)(hk:KE ⟨r,none,if scalarV r then[]else ids⟩):orM (CallK P f args ids id KE) M:=.inl (.inl ⟨r,h,hk⟩)
theorem CallK.fresh {f:FuncId}{args:List V}{ids:List Nat}{id:Nat}{B:Bk}{M:Prop}(h:Fr P f args B)(hk:KE ⟨.one (.own id B.wd 0 B.len),some B,ids⟩):orM (CallK P f args ids id KE) M:=.inl (.inr (.inl ⟨B,h,hk⟩))
theorem Cm {f:FuncId}{raw:List V}{s:St}{dst:Option Tmp}{A:Prop}(b:Nat){B:Bk}{R:V→Bk→Prop}(hl:lo s.own b=some ⟨B,true⟩)(hp:B.plain)(h:Mc P f (raw.map (muV b s.own s.nx)) B R)
  (hk:∀r B',R r B'→B'.len=B.len→K (mSt s dst b raw r B')):orM A (MCallK P f raw s dst K):=.inr (.inl ⟨b,B,R,hl,hp,h,hk⟩)
def fnCap:V→Option (FuncId×List V)
 |.one (.fn f n cs)=>some (f,capL n cs)
 |_=>none
theorem fnCap_0 {f:FuncId}{c:Nat→C}:fnCap (.one (.fn f 0 c))=some (f,[]):=rfl
theorem fnCap_1 {f:FuncId}{c:Nat→C}:fnCap (.one (.fn f 1 c))=some (f,[.one (c 0)]):=rfl
theorem fnCap_2 {f:FuncId}{c:Nat→C}:fnCap (.one (.fn f 2 c))=some (f,[.one (c 0),.one (c 1)]):=rfl
theorem fnCap_3 {f:FuncId}{c:Nat→C}:fnCap (.one (.fn f 3 c))=some (f,[.one (c 0),.one (c 1),.one (c 2)]):=rfl
theorem rCall_mk {g:Operand}{az:List Operand}{nx id:Nat}:rCall P ⟨e,o,x,n⟩ nx id g az KE=someP (fnCap (St.ev ⟨e,o,x,n⟩ g)) (fun f=>CallK P f.1 ((az.map (St.ev ⟨e,o,x,n⟩)++f.2).map (vwG o nx)) (((az.map (St.ev ⟨e,o,x,n⟩)++f.2).map idsG).flatten.filter (fun b=>decide (b<nx))) id KE):=by
 unfold rCall fnCap
 cases St.ev ⟨e,o,x,n⟩ g with
 |one c=>cases c<;>rfl
 |agg cs=>rfl
 |tup cs=>rfl
 |unk=>rfl
theorem mCall_mk {g:Operand}{az:Array Operand}{ts:Array TypeId}{d:Option Tmp}:mCall P (.call ⟨.value g,az,ts⟩) d ⟨e,o,x,n⟩ K=someP (fnOf (St.ev ⟨e,o,x,n⟩ g)) (fun f=>MCallK P f (az.toList.map (St.ev ⟨e,o,x,n⟩)) ⟨e,o,x,n⟩ d K):=by
 unfold mCall fnOf
 cases h:St.ev ⟨e,o,x,n⟩ g with
 |one c=>cases c with
  |fn f m caps=>cases m with
   |zero=>simp only[h,true_and];rfl
   |succ m=>simp[someP,h]
  |_=>simp only[h];rfl
 |_=>simp only[h];rfl
theorem fnOf_mk {f:FuncId}{c:Nat→C}:fnOf (.one (.fn f 0 c))=some f:=rfl
theorem wOp_store {t:Nat}{a b:Operand}:wOp T (.store t a b) none ⟨e,o,x,n⟩ K=wStore T ⟨e,o,x,n⟩ t a b K:=by simp only[wOp,true_and]
theorem wOp_append {a b:Operand}{t t':Nat}{d:Option Tmp}:wOp T (.call ⟨.builtin .append,#[a,b],#[t,t']⟩) d ⟨e,o,x,n⟩ K=(slT T t'∧wAppend T ⟨e,o,x,n⟩ d t a b K):=by
 rfl
theorem wOp_clear {a:Operand}{t:Nat}{d:Option Tmp}:wOp T (.call ⟨.builtin .clear,#[a],#[t]⟩) d ⟨e,o,x,n⟩ K=wClear T ⟨e,o,x,n⟩ d t a K:=rfl
theorem wOp_copy {a b:Operand}{t t':Nat}{d:Option Tmp}:wOp T (.call ⟨.builtin .copy,#[a,b],#[t,t']⟩) d ⟨e,o,x,n⟩ K=(slT T t'∧wCopy T ⟨e,o,x,n⟩ d t a b K):=rfl
theorem wOp_nil {t t':Nat}{a:Operand}{d:Option Tmp}{l c:Nat}:wOp T (.binOp .eql t a (.const (.slice none l c)) t') d ⟨e,o,x,n⟩ K=wNil T ⟨e,o,x,n⟩ d t a K:=by simp only[wOp,isEql,isNilO,isNilC,true_and]
theorem wOp_cap {a:Operand}{t:Nat}{d:Option Tmp}:wOp T (.call ⟨.builtin .cap,#[a],#[t]⟩) d ⟨e,o,x,n⟩ K=wCap T ⟨e,o,x,n⟩ d t a K:=rfl
theorem retQ_ret {rs:List ResultVar}{R:V→Prop}:retQ T rs R .ret ⟨e,o,x,n⟩=someP (resL T ⟨e,o,x,n⟩ rs) fun vs=>R (resR vs):=rfl
theorem retQ_normal {rs:List ResultVar}{R:V→Prop}:retQ T rs R .normal ⟨e,o,x,n⟩=someP (resL T ⟨e,o,x,n⟩ rs) fun vs=>R (resR vs):=rfl
end
set_option linter.defProp false in
def vcs:=Q3 @vc_skip (Q3 @vc_region (Q3 @vc_seq (Q3 @seqQ_normal (Q3 @seqQ_ret (Q3 @seqQ_exit (Q3 @condK_bool (Q3 @vc_cond (Q3 @vc_block (Q3 @blockQ_normal
 (Q3 @blockQ_ret (Q3 @blockQ_exit (Q3 @vc_loop (Q3 @loopQ_ret (Q3 @loopQ_exit (Q3 @vc_exit (Q3 @vc_ret (Q3 @vcRegion_t (Q3 @vcRegion_f (Q3 @vcDraw_none (Q3 @vcDraw_nil (Q3 @vcDraw_cons (Q3 @vcDraw_opt (Q3 @unQ_mk (Q3 @vcGR_nil (Q3 @vcGR_none (Q3 @vcGR_some (Q3 @stepG_c (Q3 @stepG_r (Q3 @vcGW_nil (Q3 @vcGW_one (Q3 @vcGW_more (Q3 @promO_n (Q3 @promO_s (Q3 @wGd_n (Q3 @wGd_s (Q3 @wAny_w (Q3 @wAny_c (Q3 @wAny_r (Q3 @prom_nil (Q3 @prom_cons (Q3 @vcW_nil
 (Q3 @vcW_none (Q3 @vcW_some (Q3 @vcR_nil (Q3 @lastK_t (Q3 @lastK_f (Q3 @setNx_mk (Q3 @vcR_none (Q3 @vcR_some (Q3 @gsel_tt (Q3 @gsel_tf
 (Q3 @frzs_e (Q3 @gsel_s (Q3 @gsel_ft (Q3 @gsel_ff (Q3 @stepW_w (Q3 @stepW_c (Q3 @stepW_r (Q3 @stepR_c (Q3 @stepR_r (Q3 @mCall_mk (Q3 @gsplit_f (Q3 @gsplit_t (Q3 @put_some (Q3 @put_none (Q3 @after_some (Q3 @after_none
 (Q3 @after_fz (Q3 @after_blk (Q3 @add_some (Q3 @add_none (Q3 @add_fz (Q3 @after_bf (Q3 @add_bf (Q3 @add_blk (Q3 @gc_mk (Q3 @ev_tmp (Q3 @ev_const (Q3 @ev_func
 (Q3 @cv_int (Q3 @cv_bool (Q3 @cv_nil (Q3 @cv_str (Q3 @rOp_move (Q3 @rOp_assign (Q3 @pickV_t (Q3 @pickV_f (Q3 @rOp_pick (Q3 @rOp_alloc
 (Q3 @rOp_box (Q3 @rOp_build (Q3 @rOp_buildSlice (Q3 @rOp_load (Q3 @rOp_bin (Q3 @rOp_un (Q3 @rOp_conv (Q3 @rOp_make (Q3 @rOp_slice (Q3 @rOp_field
 (Q3 @rOp_indexs (Q3 @rOp_index (Q3 @tupAt_0 (Q3 @tupAt_1 (Q3 @tupAt_2 (Q3 @rOp_extract (Q3 @rOp_callv (Q3 @rOp_callb (Q3 @rCall_mk (Q3 @fnOf_mk (Q3 @wOp_store
 (Q3 @wOp_append (Q3 @wOp_nil (Q3 @wOp_clear (Q3 @wOp_copy (Q3 @rOp_fieldv (Q3 @rOp_makeFunc (Q3 @fnCap_0 (Q3 @fnCap_1 (Q3 @fnCap_2 (Q3 @fnCap_3 (Q3 @wOp_cap (Q3 @retQ_ret (Q3 @retQ_normal @someP_some)))))))))))))))))))))))))))))))))))))))))))))))))))))))))))))))))))))))))))))))))))))))))))))))))))))))))))))))))))))))))))
set_option linter.defProp false in
def vcu:=Q3 @rSlice3.eq_def (Q3 @rIndex.eq_def (Q3 @strI.eq_def (Q3 @arrI.eq_def (Q3 @rBuildSlice.eq_def (Q3 @rLoad.eq_def (Q3 @rBin.eq_def (Q3 @rUn.eq_def (Q3 @rConvert.eq_def (Q3 @rMakeSlice.eq_def (Q3 @rSlice.eq_def (Q3 @rFieldAddr.eq_def
 (Q3 @rIndexAddr.eq_def (Q3 @rBuiltin.eq_def (Q3 @wStore.eq_def (Q3 @slT.eq_def (Q3 @wAppend.eq_def (Q3 @wCap.eq_def (Q3 @bnd.eq_def (Q3 @newSl.eq_def (Q3 @wNil.eq_def (Q3 @wClear.eq_def (Q3 @wCopy.eq_def (Q3 @rField.eq_def @binI.eq_def))))))))))))))))))))
)))
set_option linter.defProp false in
def vcn:=Q3 @eltB.eq_def (Q3 @frzW.eq_def (Q3 @lk.eq_1 (Q3 @lk.eq_2 (Q3 @lo.eq_1 (Q3 @lo.eq_2 (Q3 @upd.eq_1 (Q3 @upd.eq_2 (Q3 @del.eq_1 (Q3 @del.eq_2 (Q3 @frz.eq_1 (Q3 @frz.eq_2
 (Q3 @glook.eq_1 (Q3 @glook.eq_2 (Q3 @fzB.eq_1 (Q3 @fzB.eq_2 (Q3 @cellsFrom.eq_1 (Q3 @cellsFrom.eq_2 (Q3 @zerosC.eq_1 (Q3 @zerosC.eq_2 (Q3 @placesC.eq_1
 (Q3 @placesC.eq_2 (Q3 @fillC.eq_1 (Q3 @fillC.eq_2 (Q3 @resL.eq_1 (Q3 @resL.eq_2 (Q3 @eO.eq_1 (Q3 @eO.eq_2 (Q3 @intsOf.eq_1 (Q3 @intsOf.eq_2
 (Q3 @iS.eq_1 (Q3 @dstB.eq_def (Q3 @isWr.eq_def (Q3 @wHas.eq_1 (Q3 @wHas.eq_2 (Q3 @modeOf.eq_1 (Q3 @modeOf.eq_2 (Q3 @drp.eq_1 (Q3 @drp.eq_2 (Q3 @isNilC.eq_def (Q3 @isNilO.eq_def (Q3 @isEql.eq_def (Q3 @capOk.eq_def (Q3 @capOf.eq_def (Q3 @plC.eq_def (Q3 @vwP.eq_def (Q3 @back1.eq_def (Q3 @isLast.eq_def (Q3 @isCallV.eq_def (Q3 @mSt.eq_1 (Q3 (Q3 @gSt.eq_1 (Q3 @wSt.eq_1 (Q3 @wVal.eq_1 (Q3 @wVal.eq_2 (Q3 @keepM.eq_def (Q3 @oneOwn.eq_def (Q3 @asOwn.eq_def (Q3 @isWin.eq_def (Q3 @winR.eq_def (Q3 @retagE.eq_1 (Q3 @retagE.eq_2 @retagV.eq_def))))))))))) (Q3 @wIds.eq_1 (Q3 @muV.eq_def (Q3 @muC.eq_def (Q3 @backV.eq_def (Q3 @backC.eq_def (Q3 @mIds.eq_1 (Q3 @Bk.wd.eq_def (Q3 @Bk.len.eq_def (Q3 @Bk.plain.eq_def (Q3 @isTmp.eq_def (Q3 @frozenUse.eq_def (Q3 @cvUse.eq_def (Q3 @uG.eq_def (Q3 @gset.eq_def (Q3
 @lenC.eq_def (Q3 @mkV.eq_def (Q3 @cellsOf.eq_def (Q3 @V.solid.eq_def (Q3 @vwV.eq_def (Q3 @vwG.eq_def (Q3 @idsG.eq_def (Q3 @vwK.eq_def (Q3 @vwW.eq_def (Q3 @vwBW.eq_def (Q3 @vwA.eq_def (Q3 @winC.eq_def (Q3 @winId.eq_def (Q3 @vwC.eq_def (Q3 @vwBk.eq_def (Q3 @idsV.eq_def (Q3 @idsC.eq_def (Q3
 @scalarV.eq_def (Q3 @scalarC.eq_def (Q3 @eltCell.eq_def (Q3 @eltW.eq_def (Q3 @bkElt.eq_def (Q3 @bkW.eq_def (Q3 @ldOk.eq_1 (Q3 @TyK.agg.eq_def (Q3 @maxC.eq_def
 (Q3 @base0.eq_def (Q3 @intsC.eq_def (Q3 @rowsR.eq_def (Q3 @splice.eq_1 (Q3 @resV.eq_def (Q3 @resR.eq_def (Q3 @okLd.eq_def (Q3 @bldPl.eq_def (Q3
 @Nat.zero_add (Q3 @Nat.add_zero (Q3 @decide_true (Q3 @decide_false (Q3 @true_and (Q3 @and_true (Q3 @Bool.or_false (Q3 @Bool.false_or (Q3 @Bool.or_true (Q3
 @Bool.true_or (Q3 @Bool.and_true (Q3 @Bool.true_and (Q3 @Bool.false_and (Q3 @Bool.and_false (Q3 @Bool.not_true (Q3 @Bool.not_false (Q3 @or_false (Q3 @or_true
 (Q3 @false_or (@true_or))))))))))))))))))))))))))))))))))))))))))))))))))))))))))))))))))))))))))))))))))))))))))))))))))))))))))))
))))))))))
end Go.Eng
namespace Go.Eng
open Go
def Y9 (v' v:V)(r:List (Nat×Option Nat)):List (Nat×Option Nat):=
 match v' with
 |.one (.own b' _ _ _)=>match v with
  |.one (.own b _ _ _)=>(b',some b)::r
  |.one .nil=>(b',none)::r
  |_=>r
 |.one (.ptr b' _)=>match v with
  |.one (.ptr b _)=>(b',some b)::r
  |_=>r
 |.one (.win b' c' _ _)=>match v with
  |.one (.win b c _ _)=>(b',some b)::(c',some c)::r
  |.one (.own b _ _ _)=>(b',some b)::r
  |_=>r
 |_=>r
def Y8 (env:List (Nat×V)):List (Nat×V)→List (Nat×Option Nat)
 |[]=>[]
 |(t,v')::r=>Y9 v' (lk env t) (Y8 env r)
theorem Sa {e e':List (Nat×V)}{o o':List (Nat×Blk)}{x x' n:Nat}(h:(ren (Y8 e e') 0=some 0∧0<x')∧Y0 (Y8 e e') x' e e'∧Y4 (Y8 e e') x' o o'∧Y6 (Y8 e e') o'):Sub ⟨e,o,x,n⟩ ⟨e',o',x',n⟩:=
 Sub.of (Y8 e e') h.1 rfl h.2.1 h.2.2.1 h.2.2.2
def vLeL:List V→List V→Prop
 |[],[]=>True
 |x::xs,y::ys=>Y1 [] 0 x y∧vLeL xs ys
 |_,_=>False
def vLe (x y:V):Prop:=
 match y with
 |.tup ys=>match x with
  |.tup xs=>vLeL xs ys
  |_=>False
 |_=>Y1 [] 0 x y
theorem vRen_le {x y:V}(h:Y1 [] 0 x y)(ok:Nat→Prop)(w:World)(v:Value)(hr:RepV loc0 dom0 ok w x v):RepV loc0 dom0 ok w y v:=by
 have h1:=vRen_sound (ok':=ok) (Ext.refl ok w) h hr;have e:(fun b=>b<0)=dom0:=by funext b;simp[dom0]
 have e2:renLoc [] loc0=loc0:=by funext b;rfl
 rw[e,e2]at h1;exact h1
theorem Va {
      x y:V} (h:vLe x y):VLe x y:=by
 intro ok w v hr
 cases y with
 |tup ys=>
  cases x with
  |tup xs=>
   obtain⟨vs,hv,hl⟩:=hr;refine⟨vs,hv,?_⟩;have key:∀(xs ys:List V) (vs:List Value),vLeL xs ys→RepVL loc0 dom0 ok w xs vs→RepVL loc0 dom0 ok w ys vs:=by
    intro xs
    induction xs with
    |nil=>
     intro ys vs h hl
     cases ys with
     |nil=>exact hl
     |cons y ys=>exact h.elim
    |cons x xs ih=>
     intro ys vs h hl
     cases ys with
     |nil=>exact h.elim
     |cons y ys=>
      cases vs with
      |nil=>exact hl.elim
      |cons v vs=>
       refine⟨?_,ih ys vs h.2 hl.2⟩;have h1:=h.1;have hx:∀t,x≠ .tup t:=by
        intro t ht
        have:=hl.1
        rw[ht]at this;exact this
       have hy:∀t,y≠ .tup t:=by
        intro t ht;rw[ht]at h1;exact h1
       have h2:RepV loc0 dom0 ok w x v:=by
        cases x with
        |tup t=>exact absurd rfl (hx t)
        |_=>exact hl.1
       have h3:=vRen_le h1 ok w v h2
       cases y with
       |tup t=>exact absurd rfl (hy t)
       |_=>exact h3
   exact key xs ys vs.toList h hl
  |_=>exact h.elim
 |unk=>exact vRen_le (by cases x<;>exact h) ok w v hr
 |one c=>exact vRen_le (by cases x<;>exact h) ok w v hr
 |agg cs=>exact vRen_le (by cases x<;>exact h) ok w v hr
end Go.Eng
namespace Go.Eng
open Go
def freshV (s:St)(B:Bk)(x:V):Prop:=
 match x with
 |.one (.own b wd off len)=>off=0∧wd=B.wd∧len=B.len∧someP (lo s.own b) fun B'=>B'.rw=true∧Y5 [] 0 B'.bk B
 |.one .nil=>Y7 B
 |_=>False
def retF (rs:List ResultVar)(B:Bk):Exit→St→Prop
 |.ret,s=>match rs with
  |[.tmp t]=>freshV s B (lk s.env t)
  |_=>False
 |.normal,s=>match rs with
  |[.tmp t]=>freshV s B (lk s.env t)
  |_=>False
 |_,_=>False
def bPre (B' B:Bk):Prop:=
 match B with
 |.ints _ k xs=>match B' with
  |.ints _ k' xs'=>k'=k∧xs'.take xs.length=xs
  |_=>False
 |.rows _ w n f=>match B' with
  |.rows _ w' n' f'=>w'=w∧n≤n'∧∀i j,i<n→j<w→f' i j=f i j
  |.wins _ _ n' g=>w=1∧n≤n'∧∀i,i<n→frzC (g i)=true∧g i=f i 0
  |_=>False
 |.var _=>False
 |.wins .. =>False
def retT (rs:List ResultVar)(B:Bk)(c:C):Exit→St→Prop
 |.ret,s=>match rs with
  |[.tmp t,.tmp u]=>freshV s B (lk s.env t)∧lk s.env u= .one c
  |_=>False
 |.normal,s=>match rs with
  |[.tmp t,.tmp u]=>freshV s B (lk s.env t)∧lk s.env u= .one c
  |_=>False
 |_,_=>False
def freshG (s:St)(B:Bk)(x:V):Prop:=
 match x with
 |.one (.own b wd off len)=>off=0∧wd=B.wd∧len=B.len∧someP (lo s.own b) fun B'=>B'.rw=true∧bPre B'.bk B
 |.one .nil=>Y7 B
 |_=>False
theorem bRen_pre {B' B:Bk}(hB:B.flat)(h:Y5 [] 0 B' B):bPre B' B:=by
 cases B with
 |var cs=>exact hB.elim
 |wins e b2 n g=>exact hB.elim
 |ints e k xs=>
  cases B' with
  |ints e' k' xs'=>obtain⟨rfl,rfl⟩:=h;exact⟨rfl,List.take_length⟩
  |_=>exact h.elim
 |rows e w n f=>
  cases B' with
  |rows e' w' n' f'=>obtain⟨rfl,rfl,h⟩:=h;exact⟨rfl,O1 _,h⟩
  |wins e' b2 n' g=>obtain⟨rfl,rfl,h⟩:=h;exact⟨rfl,O1 _,h⟩
  |_=>exact h.elim
theorem freshV_G {s:St}{B:Bk}{x:V}(hB:B.flat)(h:freshV s B x):freshG s B x:=by
 unfold freshV at h;unfold freshG
 split at h
 ·obtain⟨h1,h2,h3,h4⟩:=h;refine⟨h1,h2,h3,?_⟩;unfold someP at h4⊢
  split at h4
  ·exact⟨h4.1,bRen_pre hB h4.2⟩
  exact h4.elim
 ·exact h
 exact h.elim
theorem bPre_cell {B' B:Bk}(h:bPre B' B)(j:Nat)(c:C)(hc:B.cell j=some c):B'.cell j=some c:=by
 cases B with
 |var cs=>exact h.elim
 |wins e b2 n g=>exact h.elim
 |ints e k xs=>
  cases B' with
  |ints e' k' xs'=>
   obtain⟨rfl,h⟩:=h;simp only[Bk.cell]at hc⊢;rw[←h,List.getElem?_take]at hc
   split at hc
   ·exact hc
   cases hc
  |_=>exact h.elim
 |rows e w n f=>
  cases B' with
  |rows e' w' n' f'=>
   obtain⟨rfl,hn,h⟩:=h;simp only[Bk.cell]at hc⊢
   split at hc
   ·rename_i hlt
    have hw:0<w':=Nat.pos_of_ne_zero fun h0=>by subst h0;simp at hlt
    have h1:j/w'<n:=by rw[Nat.div_lt_iff_lt_mul hw];exact hlt
    rw[if_pos (Nat.lt_of_lt_of_le hlt (O8 _ hn)),h _ _ h1 (Nat.mod_lt _ hw)];exact hc
   cases hc
  |wins e' b2 n' g=>
   obtain⟨rfl,hn,h⟩:=h;simp only[Bk.cell,Nat.mul_one,Nat.div_one,Nat.mod_one]at hc⊢
   split at hc
   ·rename_i hlt
    rw[if_pos (by omega),(h j hlt).2];exact hc
   cases hc
  |_=>exact h.elim
theorem bPre_flat {B' B:Bk}(h:bPre B' B):B.flat∧∀cs,B'≠ .var cs:=by
 cases B<;>cases B'<;>first|exact h.elim|exact ⟨trivial,fun _ e=>by cases e⟩
theorem bPre_frz {B:Bk}{e:TypeId}{b2 n:Nat}{g:Nat→C}(h:bPre (.wins e b2 n g) B){j:Nat}{c:C}(hc:B.cell j=some c):frzC c=true:=by
 cases B with
 |rows e w n f=>
  obtain⟨rfl,hn,h⟩:=h;simp only[Bk.cell,Nat.mul_one,Nat.div_one,Nat.mod_one]at hc
  split at hc
  ·rename_i hlt
   obtain⟨h1,h2⟩:=h j hlt;rw[h2]at h1;obtain rfl:=Option.some.inj hc;exact h1
  cases hc
 |_=>exact h.elim
theorem Bk.flat_plain {B:Bk}(h:B.flat):B.plain:=by cases B<;>first|exact h.elim|trivial
theorem results_tmp {P:Program}{fn:Func}{t:Tmp}(h:fn.results.toList=[.tmp t])(tmps:Array Value)(w:World):(results fn tmps).run P w= .ok (tmps.getD t undef) w:=by
 have:fn.results= #[.tmp t]:=Array.toList_inj.1 h
 unfold results;rw[this]
 simp[Sem.run_bind,Sem.run_pure]
def retP (rs:List ResultVar)(B:Bk):Exit→St→Prop
 |.ret,s=>match rs with
  |[.tmp t]=>freshG s B (lk s.env t)
  |_=>False
 |.normal,s=>match rs with
  |[.tmp t]=>freshG s B (lk s.env t)
  |_=>False
 |_,_=>False
theorem retF_tmp {rs:List ResultVar}{B:Bk}{e:Exit}{s:St}(h:retF rs B e s):(e= .normal∨e= .ret)∧∃t,rs=[.tmp t]∧freshV s B (lk s.env t):=by
 unfold retF at h
 split at h
 ·split at h
  ·exact⟨.inr rfl,_,rfl,h⟩
  exact h.elim
 ·split at h
  ·exact⟨.inl rfl,_,rfl,h⟩
  exact h.elim
 exact h.elim
theorem freshG_fin {w w':World}{ok:Nat→Prop}{ρ:Nat→Loc}{s':St}{a:Act}{t:Tmp}{B:Bk}(hB:B.flat)
  (hs:SimR {W0:=w,forb:=fun g=>g<w.heap.size∧¬ok g,mine:=fun _=>False} (fun b=>b<s'.nx) ρ s' a w') (hfv:freshG s' B (lk s'.env t)):
  ∃l:Loc,l.len=B.len∧(∀g o,l.addr=some (g,o)→w.heap.size≤g∧g<w'.heap.size)∧
   RepBk loc0 dom0 (fun g=>ok g∨(w.heap.size≤g∧g<w'.heap.size∧∀o,l.addr≠some (g,o))) w' l B∧RepB (fun _=>l) (fun _=>True) (fun _=>False) w' (.own 0 B.wd 0 B.len) (a.tmps.getD t undef)∧
   ∀g,okOf {W0:=w,forb:=fun g=>g<w.heap.size∧¬ok g,mine:=fun _=>False} s'.own ρ w' g→ok g∨(w.heap.size≤g∧g<w'.heap.size∧∀o,l.addr≠some (g,o)):=by
 have hev:=hs.env t;unfold freshG at hfv
 split at hfv
 ·rename_i b wd off len hx
  obtain⟨rfl,rfl,rfl,h4⟩:=hfv
  cases hlo:lo s'.own b with
  |none=>rw[hlo]at h4;exact h4.elim
  |some B'=>
   rw[hlo]at h4;obtain⟨h5,h6⟩:=h4;obtain⟨hd,hlB,hrB,hgB⟩:=hs.own b B' hlo;rw[hx]at hev;obtain⟨_,h7,h8⟩:=hev;have hokk:∀g,okOf {W0:=w,forb:=fun g=>g<w.heap.size∧¬ok g,mine:=fun _=>False} s'.own ρ w' g→ok g∨(w.heap.size≤g∧g<w'.heap.size∧∀o,(ρ b).addr≠some (g,o)):=fun g hg=>by
    by_cases hgs:g<w.heap.size
    ·by_cases hok':ok g
     ·exact .inl hok'
     exact absurd ⟨hgs,hok'⟩ hg.2.1
    exact .inr ⟨by omega,hg.1,fun o ha=>hg.2.2 b B' hlo h5 o ha⟩
   refine⟨⟨(ρ b).addr,B.len⟩,rfl,fun g o ha=>?_,?_,⟨trivial,(by simp),h8⟩,hokk⟩
   ·obtain⟨h9,_,h10⟩:=hgB g o ha
    rcases h10 with h10|h10
    ·exact⟨h10,h9⟩
    exact h10.elim
   have h9:RepBk ρ (fun b=>b<s'.nx) (okOf {W0:=w,forb:=fun g=>g<w.heap.size∧¬ok g,mine:=fun _=>False} s'.own ρ w') w' ⟨(ρ b).addr,B.len⟩ B:=by
    unfold RepBk at hrB⊢;simp only
    cases ha:(ρ b).addr with
    |none=>
     rw[ha]at hrB;intro j
     cases hc:B.cell j with
     |none=>rfl
     |some c=>exact absurd (hrB j) (by simp[bPre_cell h6 j c hc])
    |some x=>
     obtain⟨g,o⟩:=x;rw[ha]at hrB;obtain⟨cur,e,hg,hc⟩:=hrB;refine⟨cur,e,hg,fun j c hj=>?_⟩;obtain⟨u,hu,hr⟩:=hc j c (bPre_cell h6 j c hj);refine⟨u,hu,?_⟩;obtain⟨hf2,hf1⟩:=bPre_flat h6;have hrI:RepI (okOf {W0:=w,forb:=fun g=>g<w.heap.size∧¬ok g,mine:=fun _=>False} s'.own ρ w') w' c u:=by
      cases hb':B'.bk with
      |var cs=>exact absurd hb' (hf1 cs)
      |ints e' k' xs'=>rw[hb']at hr;exact hr
      |rows e' w'' n' f'=>rw[hb']at hr;exact hr
      |wins e' b2 n' g'=>rw[hb']at hr h6;exact frzC_rep (bPre_frz h6 hj) hr
     cases B with
     |var cs=>exact hf2.elim
     |wins e b2 n g=>exact hf2.elim
     |ints e k xs=>exact hrI
     |rows e w2 n f=>exact hrI
   exact h9.plain_ext (Bk.flat_plain hB) hokk
 ·rename_i hx
  rw[hx]at hev;have hev:a.tmps.getD t undef= .slice none 0 0:=hev;have hB0:B.len=0:=by
   cases B with
   |var cs=>exact hfv.elim
   |ints e k xs=>have:xs=[]:=hfv;subst this;rfl
   |rows e wd n f=>have:n=0:=hfv;subst this;rfl
   |wins e b2 n g=>exact hB.elim
  have hBc:∀j,B.cell j=none:=by
   intro j
   cases B with
   |var cs=>exact hfv.elim
   |ints e k xs=>have:xs=[]:=hfv;subst this;simp[Bk.cell]
   |rows e wd n f=>have:n=0:=hfv;subst this;simp[Bk.cell]
   |wins e b2 n g=>exact hB.elim
  have hval:RepB (fun _=>(⟨none,0⟩:Loc)) (fun _=>True) (fun _=>False) w' (.own 0 B.wd 0 B.len) (a.tmps.getD t undef):=by
   rw[hB0];exact⟨trivial,O1 _,0,O1 _,.inr ⟨rfl,hev,rfl,rfl⟩⟩
  refine⟨⟨none,0⟩,hB0.symm,fun g o ha=>absurd ha (by simp),hBc,hval,fun g hg=>?_⟩
  by_cases hgs:g<w.heap.size
  ·by_cases hok':ok g
   ·exact .inl hok'
   exact absurd ⟨hgs,hok'⟩ hg.2.1
  exact .inr ⟨by omega,hg.1,fun o ha=>absurd ha (by simp)⟩
 exact hfv.elim
theorem initSim {w:World}{ok:Nat→Prop}{args:List V}{n:Nat}(hargs:args.length≤n){vs:Array Value}(hok:∀g,ok g→g<w.heap.size)(hvs:RepVL loc0 dom0 ok w args vs.toList):
  Sim {W0:=w,forb:=fun g=>g<w.heap.size∧¬ok g,mine:=fun _=>False} (iS args n) {tmps:=vs++Array.replicate (n-vs.size) undef,defers:=[]} w:=by
 have hlen:=RepVL.length hvs;simp only[Array.length_toList]at hlen
 let G:Ctx:={W0:=w,forb:=fun g=>g<w.heap.size∧¬ok g,mine:=fun _=>False}
 let a0:Act:={tmps:=vs++Array.replicate (n-vs.size) undef,defers:=[]}
 have hokG:∀g,ok g→okOf G [] loc0 w g:=fun g hg=>⟨hok g hg,fun hf=>hf.2 hg,fun b B hl=>by cases hl⟩;show Sim G (iS args n) a0 w;refine⟨loc0,{hd:=rfl,hn:=?_,env:=fun t=>?_,own:=fun b B hl=>(by cases hl),inj:=fun b B b' B' hl=>(by cases hl),os:=rfl,tape:=rfl,output:=rfl,size:=O1 _,keep:=fun _ _ _=>rfl,wf:=fun k hk=>hk.1,home:=fun l hl=>(by cases hl),room:=fun _=>O1 _}⟩
 ·simp[a0,iS];omega
 simp only[iS,envOf_get]
 split
 ·rename_i ht
  simp only[Nat.sub_zero,Nat.zero_add]at ht⊢;have hx:args[t]? =some (args.getD t .unk):=by
   rw[X7,X8 ht.2];rfl
  obtain⟨v,hv,hr⟩:=RepVL.get hvs t _ hx;have hv':a0.tmps.getD t undef=v:=by
   rw[Array.getElem?_toList]at hv;have hlt:=(Array.getElem?_eq_some_iff.1 hv).1;simp only[a0,Array.getD_eq_getD_getElem?];rw[Array.getElem?_append_left hlt,hv];rfl
  rw[hv'];exact RepV.of_V1 (RepV1.ext (Ext.of_imp hokG) ⟨fun b hb=>hb.elim,fun b hb=>hb.elim⟩ _ _ hr)
 trivial
theorem fresh_of_vcG {P:Program}{T:Tab}(hT:TabOk P T)(hm:P.follows .mixedOrders=true){f:FuncId}{fn:Func}{c:Code}(hf:P.funcs[f]? =some fn)(hb:fn.body=some c)(hn:(fn.name== "runtime.NumGoroutine")=false)
  (args:List V) (hargs:args.length≤fn.ntmps) (keep:Kp) (hck:codeOk keep c=true) (B:Bk) (hB:B.flat)
  (RET:Exit→St→Prop) (hret:∀e s,RET e s→(e= .normal∨e= .ret)∧∃t,fn.results.toList=[.tmp t]∧freshG s B (lk s.env t))
  (h:vc T P keep c (iS args fn.ntmps) RET):Fr P f args B:=by
 refine⟨⟨fn,hf,by rw[hb];rfl,hn⟩,hB,fun ok w vs hok hvs=>?_⟩
 let G:Ctx:={W0:=w,forb:=fun g=>g<w.heap.size∧¬ok g,mine:=fun _=>False}
 have hsim:=initSim hargs hok hvs;refine calls_of_wp hf hb (wp_mono (vc_sound hT hm keep c hck _ _ h G _ w hsim) ?_);rintro e a w' ⟨s',hq,ρ,hs⟩;obtain⟨he,t,hrs,hfv⟩:=hret _ _ hq;have hres:=results_tmp (P:=P) hrs a.tmps w';have hbelow:Go.RowKit.Below w.heap.size w w':=⟨hs.os,hs.tape,hs.output,hs.size,fun k hk=>hs.keep k hk (fun hf=>hf)⟩;obtain⟨l,h1,h2,h3,h4,h5⟩:=freshG_fin hB hs hfv;have fin:a.defers=[]∧∃v,(results fn a.tmps).run P w'= .ok v w'∧∃u l,Ending.returned v= .returned u∧Go.RowKit.Below w.heap.size w w'∧l.len=B.len∧(∀g o,l.addr=some (g,o)→w.heap.size≤g∧g<w'.heap.size)∧
   RepBk loc0 dom0 (fun g=>ok g∨(w.heap.size≤g∧g<w'.heap.size∧∀o,l.addr≠some (g,o))) w' l B∧RepB (fun _=>l) (fun _=>True) (fun _=>False) w' (.own 0 B.wd 0 B.len) u:=
  ⟨hs.hd,_,hres,_,l,rfl,hbelow,h1,h2,h3,h4⟩
 rcases he with rfl|rfl
 ·exact fin
 exact fin
def retG (T:Tab)(rs:List ResultVar)(x:V)(B:Bk)(c:C):Exit→St→Prop
 |.ret,s=>match rs with
  |[r,.tmp t,.tmp u]=>someP (resX T s r) (fun y=>y=x)∧freshV s B (lk s.env t)∧lk s.env u= .one c
  |_=>False
 |.normal,s=>match rs with
  |[r,.tmp t,.tmp u]=>someP (resX T s r) (fun y=>y=x)∧freshV s B (lk s.env t)∧lk s.env u= .one c
  |_=>False
 |_,_=>False
theorem fresh_of_vc {P:Program}{T:Tab}(hT:TabOk P T)(hm:P.follows .mixedOrders=true){f:FuncId}{fn:Func}{c:Code}(hf:P.funcs[f]? =some fn)(hb:fn.body=some c)(hn:(fn.name== "runtime.NumGoroutine")=false)
  (args:List V) (hargs:args.length≤fn.ntmps) (keep:Kp) (hck:codeOk keep c=true) (B:Bk) (hB:B.flat)
  (h:vc T P keep c (iS args fn.ntmps) (retF fn.results.toList B)):Fr P f args B:=
 fresh_of_vcG hT hm hf hb hn args hargs keep hck B hB _ (fun _ _ hr=>by obtain⟨h1,t,h2,h3⟩:=retF_tmp hr;exact⟨h1,t,h2,freshV_G hB h3⟩) h
def resML (T:Tab)(s:St):List ResultVar→Option (List V)
 |[]=>some []
 |r::rs=>match resX T s r,resML T s rs with
  |some v,some vs=>some (muV 0 s.own s.nx v::vs)
  |_,_=>none
def resM (T:Tab)(s:St)(rs:List ResultVar):Option V:=match resML T s rs with
 |some vs=>some (resR vs)
 |none=>none
def retM (T:Tab)(rs:List ResultVar)(R:V→Bk→Prop):Exit→St→Prop
 |.ret,s=>someP (lo s.own 0) fun B'=>B'.rw=true∧B'.bk.plain∧someP (resM T s rs) fun r=>R r B'.bk
 |.normal,s=>someP (lo s.own 0) fun B'=>B'.rw=true∧B'.bk.plain∧someP (resM T s rs) fun r=>R r B'.bk
 |_,_=>False
def iM (args:List V)(B:Bk)(n:Nat):St:={env:=eO 0 args,own:=[(0,⟨B,true⟩)],nx:=1,n:=n}
theorem retM_is {T:Tab}{rs:List ResultVar}{R:V→Bk→Prop}{e:Exit}{s:St}(h:retM T rs R e s):(e= .normal∨e= .ret)∧∃B' r,lo s.own 0=some B'∧B'.rw=true∧B'.bk.plain∧resM T s rs=some r∧R r B'.bk:=by
 have key:(someP (lo s.own 0) fun B'=>B'.rw=true∧B'.bk.plain∧someP (resM T s rs) fun r=>R r B'.bk)→∃B' r,lo s.own 0=some B'∧B'.rw=true∧B'.bk.plain∧resM T s rs=some r∧R r B'.bk:=by
  intro h;unfold someP at h
  split at h
  ·rename_i B' hB
   obtain⟨h1,h2,h3⟩:=h
   split at h3
   ·rename_i r hr;exact⟨B',r,hB,h1,h2,hr,h3⟩
   exact h3.elim
  exact h.elim
 unfold retM at h
 split at h
 ·exact⟨.inr rfl,key h⟩
 ·exact⟨.inl rfl,key h⟩
 exact h.elim
theorem mut_of_vc {P:Program}{T:Tab}(hT:TabOk P T)(hm:P.follows .mixedOrders=true){f:FuncId}{fn:Func}{c:Code}(hf:P.funcs[f]? =some fn)(hb:fn.body=some c)(hn:(fn.name== "runtime.NumGoroutine")=false)
  (args:List V) (hargs:args.length≤fn.ntmps) (keep:Kp) (hck:codeOk keep c=true) (B:Bk) (hBp:B.plain) (R:V→Bk→Prop)
  (h:vc T P keep c (iM args B fn.ntmps) (retM T fn.results.toList R)):Mc P f args B R:=by
 refine⟨⟨fn,hf,by rw[hb];rfl,hn⟩,fun ok w vs l hok hlB hnot hrB hvs=>?_⟩;have hlen:=RepVL.length hvs;simp only[Array.length_toList]at hlen
 let G:Ctx:={W0:=w,forb:=fun g=>g<w.heap.size∧¬ok g∧∀o,l.addr≠some (g,o),mine:=fun g=>∃o,l.addr=some (g,o),home:=some l}
 let a0:Act:={tmps:=vs++Array.replicate (fn.ntmps-vs.size) undef,defers:=[]}
 have hokG:∀g,ok g→okOf G [(0,⟨B,true⟩)] (fun _=>l) w g:=fun g hg=>⟨hok g hg,fun hf=>hf.2.1 hg,fun b B2 hl hrw o ha=>(hnot g o ha).2 hg⟩;have hsim:Sim G (iM args B fn.ntmps) a0 w:=by
  refine⟨fun _=>l,{hd:=rfl,hn:=?_,env:=fun t=>?_,own:=fun b B2 hl=>?_,inj:=fun b B1 b' B' hl hl' hne=>?_,os:=rfl,tape:=rfl,output:=rfl,size:=O1 _,keep:=fun _ _ _=>rfl,wf:=fun k hk=>hk.1,home:=fun l' hl=>?_,room:=fun _=>O1 _}⟩
  ·simp[a0,iM];omega
  ·simp only[iM,envOf_get]
   split
   ·rename_i ht
    simp only[Nat.sub_zero,Nat.zero_add]at ht⊢;have hx:args[t]? =some (args.getD t .unk):=by
     rw[X7,X8 ht.2];rfl
    obtain⟨v,hv,hr⟩:=RepVL.get hvs t _ hx;have hv':a0.tmps.getD t undef=v:=by
     rw[Array.getElem?_toList]at hv;have hlt:=(Array.getElem?_eq_some_iff.1 hv).1;simp only[a0,Array.getD_eq_getD_getElem?];rw[Array.getElem?_append_left hlt,hv];rfl
    rw[hv'];exact RepV.of_V1 (RepV1.ext (Ext.of_imp hokG) ⟨fun b hb=>by omega,fun b hb=>rfl⟩ _ _ hr)
   trivial
  ·simp only[iM,lo]at hl
   split at hl
   ·rename_i hb0
    subst hb0;obtain rfl:=Option.some.inj hl;refine⟨by simp[iM],hlB,hrB.plain_ext hBp hokG,fun g o ha=>⟨(hnot g o ha).1,fun hf=>hf.2.2 o ha,.inr ⟨o,ha⟩⟩⟩
   cases hl
  ·simp only[iM,lo]at hl hl'
   split at hl
   ·split at hl'
    ·rename_i h1 h2;exact absurd (h1.trans h2.symm) hne
    cases hl'
   cases hl
  exact⟨by simp[iM],(Option.some.inj hl)⟩
 refine calls_of_wp hf hb (wp_mono (vc_sound hT hm keep c hck _ _ h G _ w hsim) ?_);rintro e a w' ⟨s',hq,ρ,hs⟩;obtain⟨he,B',r,hlo,hrw,hpl,hres,hR⟩:=retM_is hq;obtain⟨hd0,hρ0⟩:=hs.home l rfl;obtain⟨_,hlB',hrB',hgB'⟩:=hs.own 0 B' hlo;have hmb:MBelow l w w':=⟨hs.os,hs.tape,hs.output,hs.size,fun k hk hno=>hs.keep k hk (fun hf=>by obtain⟨o,ho⟩:=hf;exact hno o ho),hs.room⟩;have hone:∀g,g<w'.heap.size→¬G.forb g→(∀o,l.addr≠some (g,o))→okM ok w w' g:=fun g h1 h2 h3=>by
  by_cases hgs:g<w.heap.size
  ·by_cases hok':ok g
   ·exact .inl hok'
   exact absurd ⟨hgs,hok',h3⟩ h2
  exact .inr ⟨by omega,h1⟩
 have hokE:∀ids,0∉ids→∀g,okIds G s'.own ρ w' ids g→okM ok w w' g:=by
  rintro ids hids g (h1|⟨b1,hb1,B1,o',hl1,ha'⟩)
  ·exact hone g h1.1 h1.2.1 fun o ha=>h1.2.2 0 B' hlo hrw o (by rw[hρ0];exact ha)
  obtain⟨_,_,_,h4⟩:=hs.own b1 B1 hl1;obtain⟨h5,h6,_⟩:=h4 g o' ha';exact hone g h5 h6 fun o ha=>hs.inj 0 B' b1 B1 hlo hl1 (fun e=>hids (e▸hb1)) hrw g o o' (by rw[hρ0];exact ha) ha'
 have hend:∃v,(results fn a.tmps).run P w'= .ok v w'∧RepV (fun _=>l) (fun b=>b=0) (okM ok w w') w' r v:=by
  have hmu:∀(r:ResultVar) x,resX T s' r=some x→∃v,(evRes a.tmps r).run P w'= .ok v w'∧RepV1 (fun _=>l) (fun b=>b=0) (okM ok w w') w' (muV 0 s'.own s'.nx x) v:=by
   intro r x hr;obtain⟨v,hv,hrx⟩:=resX_run (P:=P) hT hs hr;have h1:=muV_sound hs 0 ((idsV x).filter (fun b=>b !=0)) x _ (fun b hb hne=>List.mem_filter.2 ⟨hb,by simpa using hne⟩) hrx;rw[hρ0]at h1;exact⟨v,hv,RepV1.ext (Ext.of_imp (hokE _ (by simp))) ⟨fun _ h=>h,fun _ _=>rfl⟩ _ _ h1⟩
  have hml:∀(rs:List ResultVar) xs,resML T s' rs=some xs→∃vs,(rs.mapM (evRes a.tmps)).run P w'= .ok vs w'∧RepVL (fun _=>l) (fun b=>b=0) (okM ok w w') w' xs vs:=by
   intro rs
   induction rs with
   |nil=>
    intro xs h;simp only[resML,Q6]at h;subst h;exact⟨[],rfl,trivial⟩
   |cons r rs ih=>
    intro xs h;simp only[resML]at h
    split at h
    ·rename_i x xs' hx hxs
     simp only[Q6]at h;subst h;obtain⟨v,hv,hr⟩:=hmu r x hx;obtain⟨vs,hvs,hrs⟩:=ih xs' hxs;refine⟨v::vs,?_,hr,hrs⟩;rw[List.mapM_cons];simp only[Sem.run_bind,hv,Q7,hvs,Sem.run_pure]
    cases h
  unfold resM at hres
  split at hres
  ·rename_i xs hxs
   obtain rfl:=Option.some.inj hres;obtain⟨us,hus,hrep⟩:=hml _ _ hxs;have hmap:(fn.results.mapM fun
     |.tmp t=>pure (a.tmps.getD t undef)
     |.cell ad t=>do loadVar t (←asAddr (a.tmps.getD ad undef)):Sem (Array Value)).run P w'= .ok us.toArray w':=by
    have e:(fun r:ResultVar=>(match r with
     |.tmp t=>pure (a.tmps.getD t undef)
     |.cell ad t=>do loadVar t (←asAddr (a.tmps.getD ad undef)):Sem Value))=evRes a.tmps:=by
     funext r;cases r<;>rfl
    have e2:=congrArg (fun g=>(fn.results.mapM g).run P w') e;refine e2.trans ?_;rw[Array.mapM_eq_mapM_toList,Sem.run_map,hus];rfl
   have hres2:(results fn a.tmps).run P w'= .ok (if h:us.toArray.size=1 then us.toArray[0]else .tuple us.toArray) w':=by
    unfold results;rw[Sem.run_bind];refine Eq.trans (congrArg (fun x=>Result.andThen x _) hmap) ?_;rfl
   refine⟨_,hres2,?_⟩;have hl2:=RepVL.length hrep
   match xs,us,hrep,hl2 with
   |[x],[u],hrep,_=>
    rw[dif_pos (by simp)];exact RepV.of_V1 hrep.1
   |[],[],_,_=>
    rw[dif_neg (by simp)];exact⟨#[],rfl,trivial⟩
   |x::y::xs,u::v::us,hrep,_=>
    rw[dif_neg (by simp)];exact⟨_,rfl,by simpa using hrep⟩
  cases hres
 obtain⟨v,hrun,hval⟩:=hend;have hfinal:RepBk loc0 dom0 (okM ok w w') w' l B'.bk:=by
  rw[hρ0]at hrB';exact hrB'.plain_ext hpl fun g hg=>hokE [] (by simp) g (.inl hg)
 have hB'len:B'.bk.len=B.len:=by rw[←hlB',hρ0,hlB]
 have fin:a.defers=[]∧∃v,(results fn a.tmps).run P w'= .ok v w'∧∃u r B2,Ending.returned v= .returned u∧R r B2∧B2.plain∧B2.len=B.len∧MBelow l w w'∧RepBk loc0 dom0 (okM ok w w') w' l B2∧RepV (fun _=>l) (fun b=>b=0) (okM ok w w') w' r u:=
  ⟨hs.hd,v,hrun,v,r,B'.bk,rfl,hR,hpl,hB'len,hmb,hfinal,hval⟩
 rcases he with rfl|rfl
 ·exact fin
 exact fin
set_option linter.defProp false in
def vcl:=Q3 @List.contains_cons.{0} (Q3 @List.contains_nil.{0} (Q3 @beq_self_eq_true.{0} (Q3 @bne_self_eq_false.{0} (Q3 @bne_iff_ne.{0} (Q3 @List.take_length.{0} (Q3 @List.toList_toArray.{0} (Q3 @List.map_nil.{0,0} (Q3 @List.map_cons.{0,0} (Q3 @List.flatten_nil.{0} (Q3 @List.flatten_cons.{0} (Q3 @List.filter_nil.{0} (Q3 @List.filter_cons.{0} (Q3 @List.nil_append.{0} (Q3 @List.cons_append.{0} (Q3 @List.append_nil.{0} (Q3 @List.any_nil.{0} (Q3 @List.any_cons.{0} (Q3 @List.all_nil.{0} (Q3 @List.all_cons.{0} (Q3 @List.take_zero.{0} (Q3 @List.take_succ_cons.{0} (Q3 @List.take_nil.{0} (Q3 @List.drop_zero.{0} (Q3 @List.drop_succ_cons.{0} (Q3 @List.drop_nil.{0} (Q3 @List.getElem?_cons_zero.{0} (Q3 @List.getElem?_cons_succ.{0} (Q3 @List.getD_cons_zero.{0} (Q3 @List.getD_cons_succ.{0} (Q3 @List.length_cons.{0} (Q3 @List.length_nil.{0} (Q3 @List.flatMap_cons.{0,0} (Q3 @List.flatMap_nil.{0,0} (Q3 @Option.map_some.{0,0} (Q3 @Option.map_none.{0,0} (Q3 @eq_self.{1} (Q3 @Bool.false_eq_true (Q3 @Q1 (Q3 @decide_eq_true_eq (Q3 @decide_eq_false_iff_not (Q3 @ne_eq.{1} (Q3 @not_true_eq_false (Q3 @not_false_eq_true (Q3 @Classical.not_not (Q3 @later_t (Q3 @later_f (Q3 @Bool.true_eq_false (Q3 @Int.sub_zero (Q3 @Int.zero_add (@Int.add_zero))))))))))))))))))))))))))))))))))))))))))))))))))
set_option linter.defProp false in
def vcr:=Q3 @resX.eq_1 (Q3 @resX.eq_2 (Q3 @retG.eq_def (Q3 @retT.eq_def (Q3 @retF.eq_def (Q3 @freshV.eq_def (Q3 @retP.eq_def (Q3 @freshG.eq_def (Q3 @bPre.eq_def (Q3 @retM.eq_def (Q3 @resML.eq_1 (Q3 @resML.eq_2 (@resM.eq_def))))))))))))
set_option linter.defProp false in
def vcq:=Q3 @Option.some.injEq.{0} (Q3 @List.not_mem_nil.{0} (Q3 @false_imp_iff (Q3 @List.forall_mem_cons.{0} (Q3 @implies_true.{1} (@implies_true.{0})))))
end Go.Eng
