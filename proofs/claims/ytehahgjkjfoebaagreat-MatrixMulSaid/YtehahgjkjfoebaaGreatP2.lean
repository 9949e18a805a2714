/-
  MatrixMul: for every input the law returns true, and each argument reads afterwards as it read before. No condition.
  (Text 2 of 9; made by a program out of smaller texts.)
-/
import Derived.Test.YtehahgjkjfoebaaGreatP1
set_option linter.unusedSimpArgs false
set_option linter.unusedVariables false
set_option maxHeartbeats 16000000
set_option maxRecDepth 10000
open Nat renaming reduceAdd→J1,reduceMul→J2,reduceSub→J3,reduceEqDiff→J4,reduceLT→J5,reduceLeDiff→J6,reduceBEq→J7,reduceDiv→J8,reduceMod→J9,reducePow→J0
open Int renaming reduceToNat→K1,reduceLE→K2,reduceLT→K3,reduceEq→K4,reducePow→K5,reduceSub→K6,reduceNeg→K7,natCast_add→X2,natCast_one→X3,natCast_zero→X4
open List renaming getD_cons_zero→X0,getD_cons_succ→X1,length_take→X5,length_append→X6,getD_eq_getElem?_getD→X7,getElem?_eq_getElem→X8
open Nat renaming le_refl→O1,not_lt_zero→O5,mul_comm→O6,mod_eq_of_lt→O7,mul_le_mul_right→O8
open Option.some renaming injEq→Q6
open Go.Result renaming andThen_ok→Q7
namespace Go.Eng
open Go
def mY (P:Program)(o:Oper)(s:St)(K:St→Prop):Prop:=
 ∀G a w,oT G s a w→∀Q next,(∀s' a' w',K s'→oT G s' a' w'→next a' w')→o.wp P a w next Q
theorem Hg (l:List (Nat×fI)):dG l []=l:=by
 induction l with
 |nil=>rfl
 |cons x l ih=>obtain⟨b,B⟩:=x;simp[dG,ih]
theorem yC (l:List (Nat×fI))(ids:List Nat):vv l ids=dG l ids:=by
 cases ids with
 |nil=>rw[Hg];rfl
 |cons x r=>rfl
theorem dJ {w:World}{g:Nat}{cur:Array Value}{e:TypeId}{f:Nat×Nat}(h:w.heap[g]? =some (.cells cur e f)):b7 w g=cur.size:=by simp[b7,h]
theorem aS.rewrite {G:Ctx}{dom:Nat→Prop}{ρ:Nat→Loc}{s:St}{a:Act}{w:World}(h:aS G dom ρ s a w){b g o:Nat}{B:Bk}(hl:lo s.own b=some ⟨B,true⟩)(SH:(ρ b).addr=some (g,o))
  {cur cur':Array Value} {e:TypeId} (hg:w.heap[g]? =some (.cells cur e (0,0))) (TN:cur'.size=cur.size) {id:Nat} (hid:¬dom id) (B':Bk) (o1:Nat)
  (SK:∀j c,B'.cell j=some c→∃u,cur'[o1+j]? =some u∧(match B' with|.var _=>aF ρ dom (aI G s.own ρ w) w c u|.wins .. =>aF ρ dom (aI G s.own ρ w) w c u|_=>aQ (aI G s.own ρ w) w c u)):
  aS G (fun b=>dom b∨b=id) (a6 ρ id ⟨some (g,o1),B'.len⟩) {s with own:=eD (del s.own b) id ⟨B',true⟩} a (w.setRow g cur'):=by
 have hs:=iC.a6 ρ ⟨some (g,o1),B'.len⟩ hid;have SW:∀b B',lo s.own b=some B'→b≠id:=fun b B' hl e=>hid (e▸(h.own b B' hl).1);obtain⟨_,_,_,XE⟩:=h.own b _ hl;obtain⟨Vq,hgf,VZ⟩:=XE g o SH;have Ul:∀g',g'≠g→(w.setRow g cur').heap[g']? =w.heap[g']? :=fun g' hn=>setRow_other w g g' cur' hn;have SR:Ext (aI G s.own ρ w) (aI G (eD (del s.own b) id ⟨B',true⟩) (a6 ρ id ⟨some (g,o1),B'.len⟩) (w.setRow g cur')) w (w.setRow g cur'):=by
  refine⟨fun g' VQ=>?_,fun g'=>?_⟩
  ·have WM:g'≠g:=fun e=>by subst e;exact VQ.2.2 b _ hl rfl o SH
   refine⟨⟨by simpa using VQ.1,VQ.2.1,fun b2 B2 SJ S2 o2=>?_⟩,Ul g' WM⟩;rw[b9]at SJ
   by_cases SX:b2=id
   ·subst SX;rw[mq];intro he
    have:g=g':=by simpa using congrArg (Option.map Prod.fst) he
    exact WM this.symm
   rw[if_neg SX,kv]at SJ;rw[aW _ _ SX]
   split at SJ
   ·cases SJ
   exact VQ.2.2 b2 B2 SJ S2 o2
  by_cases WM:g'=g
  ·subst WM;rw[dJ hg,dJ (setRow_heap w g' cur cur' e (0,0) hg),TN];exact O1 _
  rw[cI (Ul g' WM)];exact O1 _
 refine h.sA SR hs ?_ ?_ rfl rfl rfl (by simp) (fun k hk hm=>Ul k (fun e=>?_))
 ·intro b2 B2 SJ;rw[b9]at SJ
  by_cases SX:b2=id
  ·subst SX;rw[if_pos rfl]at SJ;obtain rfl:=Option.some.inj SJ;rw[mq];refine⟨.inr rfl,rfl,?_,fun g' o' ha=>?_⟩
   ·unfold aM;refine⟨cur',e,setRow_heap w g cur cur' e (0,0) hg,fun j c hj=>?_⟩;obtain⟨u,hu,hr⟩:=SK j c hj;refine⟨u,hu,?_⟩
    cases B' with
    |var cs=>exact aF.ext SR hs _ _ hr
    |ints e k xs=>exact aQ.ext SR _ _ hr
    |rows e wd n f=>exact aQ.ext SR _ _ hr
    |wins e b2 n g=>exact aF.ext SR hs _ _ hr
   have:g=g':=by simpa using congrArg (Option.map Prod.fst) ha
   subst this;exact⟨by simpa using Vq,hgf,VZ⟩
  rw[if_neg SX,kv]at SJ;rw[aW _ _ SX]
  split at SJ
  ·cases SJ
  rename_i UX
  obtain⟨h1,h2,h3,h4⟩:=h.own b2 B2 SJ;refine⟨.inl h1,h2,aM.ext SR hs _ _ (fun g' o' ha=>Ul g' (fun e=>?_)) h3,fun g' o' ha=>by simpa using h4 g' o' ha⟩;subst e;exact h.inj b _ b2 B2 hl SJ (fun e=>UX e.symm) rfl g' o o' SH ha
 ·intro b2 B2 b3 B3 SJ Tn TY S2 g' o2 o3 ha;rw[b9]at SJ Tn
  by_cases SX:b2=id
  ·subst SX;rw[if_neg (fun e=>TY e.symm),kv]at Tn;rw[mq]at ha;rw[aW _ _ (fun e=>TY e.symm)];have hgg:g=g':=by simpa using congrArg (Option.map Prod.fst) ha
   subst hgg
   split at Tn
   ·cases Tn
   rename_i UX
   exact h.inj b _ b3 B3 hl Tn (fun e=>UX e.symm) rfl g o o3 SH
  rw[if_neg SX,kv]at SJ;rw[aW _ _ SX]at ha
  split at SJ
  ·cases SJ
  rename_i UX
  by_cases TF:b3=id
  ·subst TF;rw[mq];intro To;have hgg:g=g':=by simpa using congrArg (Option.map Prod.fst) To
   subst hgg;exact h.inj b2 B2 b _ SJ hl UX S2 g o2 o ha SH
  rw[if_neg TF,kv]at Tn;rw[aW _ _ TF]
  split at Tn
  ·cases Tn
  exact h.inj b2 B2 b3 B3 SJ Tn TY S2 g' o2 o3 ha
 subst e
 rcases VZ with VZ|VZ
 ·omega
 exact hm VZ
theorem aS.write {G:Ctx}{dom:Nat→Prop}{ρ:Nat→Loc}{s:St}{a:Act}{w:World}(h:aS G dom ρ s a w){b g o:Nat}{B:Bk}(hl:lo s.own b=some ⟨B,true⟩)(SH:(ρ b).addr=some (g,o))
  {cur cur':Array Value} {e:TypeId} (hg:w.heap[g]? =some (.cells cur e (0,0))) (TN:cur'.size=cur.size) (B':Bk) (hlen:B'.len=B.len)
  (SK:∀j c,B'.cell j=some c→∃u,cur'[o+j]? =some u∧(match B' with|.var _=>aF ρ dom (aI G s.own ρ w) w c u|.wins .. =>aF ρ dom (aI G s.own ρ w) w c u|_=>aQ (aI G s.own ρ w) w c u)):
  aS G dom ρ {s with own:=eD s.own b ⟨B',true⟩} a (w.setRow g cur'):=by
 have hs:iC dom dom ρ ρ:=⟨fun _ h=>h,fun _ _=>rfl⟩;obtain⟨hdomb,Yd,_,XE⟩:=h.own b _ hl;obtain⟨Vq,hgf,VZ⟩:=XE g o SH;have Ul:∀g',g'≠g→(w.setRow g cur').heap[g']? =w.heap[g']? :=fun g' hn=>setRow_other w g g' cur' hn;have SR:Ext (aI G s.own ρ w) (aI G (eD s.own b ⟨B',true⟩) ρ (w.setRow g cur')) w (w.setRow g cur'):=by
  refine⟨fun g' VQ=>?_,fun g'=>?_⟩
  ·have WM:g'≠g:=fun e=>by subst e;exact VQ.2.2 b _ hl rfl o SH
   refine⟨⟨by simpa using VQ.1,VQ.2.1,fun b2 B2 SJ S2 o2=>?_⟩,Ul g' WM⟩;rw[b9]at SJ
   by_cases SX:b2=b
   ·subst SX;intro he;rw[SH]at he
    have:g=g':=by simpa using congrArg (Option.map Prod.fst) he
    exact WM this.symm
   rw[if_neg SX]at SJ;exact VQ.2.2 b2 B2 SJ S2 o2
  by_cases WM:g'=g
  ·subst WM;rw[dJ hg,dJ (setRow_heap w g' cur cur' e (0,0) hg),TN];exact O1 _
  rw[cI (Ul g' WM)];exact O1 _
 refine h.sA SR hs ?_ ?_ rfl rfl rfl (by simp) (fun k hk hm=>Ul k (fun e=>?_))
 ·intro b2 B2 SJ;rw[b9]at SJ
  by_cases SX:b2=b
  ·subst SX;rw[if_pos rfl]at SJ;obtain rfl:=Option.some.inj SJ;refine⟨hdomb,by rw[Yd];exact hlen.symm,?_,fun g' o' ha=>by simpa using XE g' o' ha⟩;unfold aM;rw[SH];refine⟨cur',e,setRow_heap w g cur cur' e (0,0) hg,fun j c hj=>?_⟩;obtain⟨u,hu,hr⟩:=SK j c hj;refine⟨u,hu,?_⟩
   cases B' with
   |var cs=>exact aF.ext SR hs _ _ hr
   |ints e k xs=>exact aQ.ext SR _ _ hr
   |rows e wd n f=>exact aQ.ext SR _ _ hr
   |wins e b2 n g=>exact aF.ext SR hs _ _ hr
  rw[if_neg SX]at SJ;obtain⟨h1,h2,h3,h4⟩:=h.own b2 B2 SJ;refine⟨h1,h2,aM.ext SR hs _ _ (fun g' o' ha=>Ul g' (fun e=>?_)) h3,fun g' o' ha=>by simpa using h4 g' o' ha⟩;subst e;exact h.inj b _ b2 B2 hl SJ (fun e=>SX e.symm) rfl g' o o' SH ha
 ·intro b2 B2 b3 B3 SJ Tn TY S2 g' o2 o3 ha;rw[b9]at SJ Tn
  by_cases SX:b2=b
  ·subst SX;rw[if_neg (fun e=>TY e.symm)]at Tn;exact h.inj b2 _ b3 B3 hl Tn TY rfl g' o2 o3 ha
  rw[if_neg SX]at SJ
  by_cases TF:b3=b
  ·subst TF;exact h.inj b2 B2 b3 _ SJ hl TY S2 g' o2 o3 ha
  rw[if_neg TF]at Tn;exact h.inj b2 B2 b3 B3 SJ Tn TY S2 g' o2 o3 ha
 subst e
 rcases VZ with VZ|VZ
 ·omega
 exact hm VZ
def bz (f:Nat→Nat→C)(i off:Nat)(l:List C):Nat→Nat→C:=
 fun i' j'=>if i'=i then(if off≤j' then(if j'<off+l.length then l.getD (j'-off) .any else f i' j')else f i' j')else f i' j'
def PS:C→Bool
 |.own _ _ _ _=>true
 |.nil=>true
 |.ints _ _=>true
 |.rows _ _ _=>true
 |_=>false
def rW (b2:Nat):C→Nat
 |.own b _ _ _=>b
 |_=>b2
def pg (b b3:Nat):V→V
 |.one (.win b' x o l)=>if b'=b then .one (.win b' b3 o l)else .one (.win b' x o l)
 |v=>v
def mG (b b3:Nat):List (Nat×V)→List (Nat×V)
 |[]=>[]
 |p::r=>(p.1,pg b b3 p.2)::mG b b3 r
theorem AL (b b3:Nat):∀(l:List (Nat×V)) (t:Nat),lk (mG b b3 l) t=pg b b3 (lk l t)
 |[],_=>rfl
 |(t',v)::r,t=>by
  show(if t=t' then pg b b3 v else lk (mG b b3 r) t)=pg b b3 (if t=t' then v else lk r t)
  split
  ·rfl
  exact AL b b3 r t
theorem Cd {ρ:Nat→Loc}{dom ok:Nat→Prop}{w:World}{b b3:Nat}(hd:dom b3){x:V}{v:Value}(h:cE ρ dom ok w x v):cE ρ dom ok w (pg b b3 x) v:=by
 unfold pg
 split
 ·split
  ·exact⟨hd,h.2⟩
  exact h
 exact h
theorem aS.Qr {G:Ctx}{dom:Nat→Prop}{ρ:Nat→Loc}{s:St}{a:Act}{w:World}(h:aS G dom ρ s a w)(b b3:Nat)(hd:dom b3):aS G dom ρ {s with env:=mG b b3 s.env} a w:=
 {h with env:=fun t=>by rw[AL];exact Cd hd (h.env t)}
def ua (T:fS)(s:St)(t:TypeId)(x y:Operand)(K:St→Prop):Prop:=
 match T t with
 |some E=>match s.ev x with
  |.one (.ptr b off)=>match lo s.own b with
   |some ⟨.var cs,rw⟩=>rw=true∧0<E.size∧(s.ev y).oI=true∧(cellsOf (s.ev y)).length=E.size∧off+E.size≤cs.length∧
     K {s with own:=eD s.own b ⟨.var (lI cs off (cellsOf (s.ev y))),true⟩}
   |_=>False
  |.one (.eptr b wd i off)=>match lo s.own b with
   |some ⟨.ints e k xs,rw⟩=>match s.ev y with
    |.one (.int k' n)=>rw=true∧k'=k∧wd=1∧E.size=1∧off=0∧K {s with own:=eD s.own b ⟨.ints e k (xs.set i n),true⟩}
    |_=>False
   |some ⟨.rows e w n f,rw⟩=>rw=true∧wd=w∧0<E.size∧(s.ev y).oI=true∧(cellsOf (s.ev y)).length=E.size∧off+E.size≤wd∧(kP (s.ev y)).contains b=false∧
     K {s with own:=eD (vv s.own (kP (s.ev y))) b ⟨.rows e w n (bz f i off ((cellsOf (s.ev y)).map (jU s.own s.nx))),true⟩}
   |some ⟨.wins e b2 n g,rw⟩=>match s.ev y with
    |.one c=>rw=true∧wd=1∧E.size=1∧off=0∧PS c=true∧K {s with env:=if rW b2 c=b2 then s.env else mG b (rW b2 c) s.env,own:=eD s.own b ⟨.wins e (rW b2 c) n (fun j=>if j=i then c else g j),true⟩}
    |_=>False
   |_=>False
  |_=>False
 |none=>False
theorem jg {P:Program}{w:World}{t:TypeId}{i:TypeInfo}(hi:P.info? t=some i){g o:Nat}{cur:Array Value}{e:TypeId}(hg:w.heap[g]? =some (.cells cur e (0,0)))(v:Value)(hv:v.cells.size=i.size)
  (Tl:o+i.size≤cur.size) (h1:∀u∈v.cells.toList,u.oneCell'=true):
  (storeVar t ⟨g,o,none⟩ v).run P w= .ok () (w.setRow g (cur.toList.take o++v.cells.toList++cur.toList.drop (o+i.size)).toArray):=by
 have S1:=run_storeCells_at P g o e v.cells.toList 0 cur w hg (by simp;omega) h1;simp only[Nat.add_zero,Array.length_toList,hv]at S1;simp only[storeVar,Sem.run_bind,run_sizeOf hi,Q7,hv,ne_eq,not_true_eq_false,↓reduceIte,Sem.run_ite,Sem.run_pure,S1]
theorem g9 (cur:List Value)(o:Nat)(us:List Value)(h:o+us.length≤cur.length)(j:Nat):
  (cur.take o++us++cur.drop (o+us.length))[j]? =if o≤j∧j<o+us.length then us[j-o]? else cur[j]? :=by
 rw[List.append_assoc,List.getElem?_append,List.getElem?_append,X5]
 by_cases h1:j<o
 ·rw[if_pos (by omega),if_neg (by omega),List.getElem?_take,if_pos h1]
 rw[if_neg (by omega)]
 by_cases h2:j<o+us.length
 ·rw[if_pos (by omega),if_pos (by omega)];congr 1;omega
 rw[if_neg (by omega),if_neg (by omega),List.getElem?_drop];congr 1;omega
theorem bJ.uV {ρ:Nat→Loc}{dom ok:Nat→Prop}{w:World}:∀{cs:List C} {vs:List Value},bJ ρ dom ok w cs vs→∀u∈vs,u.oneCell'=true
 |[],[],_,u,hu=>by simp at hu
 |_::cs,_::vs,h,u,hu=>by
  rcases List.mem_cons.1 hu with rfl|hu
  ·exact(aF.plain h.1).1
  exact bJ.uV h.2 u hu
 |[],_::_,h,_,_=>h.elim
 |_::_,[],h,_,_=>h.elim
section
variable {P:Program}{T:fS}(hT:eN P T){o:Oper}{s:St}{K:St→Prop}
include hT in
theorem N2 {t:TypeId}{x y:Operand}(ho:o.op= .store t x y)(hd:o.dst=none)(h:ua T s t x y K):mY P o s K:=by
 intro G a w SP Q next hk;obtain⟨ρ,hs⟩:=SP;have XF:=hs.ev x;have U8:=hs.ev y;have SO:∀(g off:Nat) (w':World),a.eval x= .pointer (some ⟨g,off,none⟩)→(storeVar t ⟨g,off,none⟩ (a.eval y)).run P w= .ok () w'→next a w'→o.wp P a w next Q:=by
  intro g off w' he hr hn;unfold Oper.wp execOp;rw[ho];simp only[Instr.storeAt,he,Instr.sureAddr,Sem.run_bind,Sem.run_pure,Q7,hr,Oper.upon_skip,hd];exact hn
 unfold ua at h
 cases SZ:T t with
 |none=>rw[SZ]at h;exact h.elim
 |some E=>
  rw[SZ]at h;simp only at h;obtain⟨i,d,z,hi,hu,_,XG,TN,_⟩:=bF hT SZ
  split at h
  ·rename_i b off hx
   rw[hx]at XF;obtain⟨_,g,o',SH,SV⟩:=XF
   split at h
   ·rename_i cs rw_ hl
    obtain⟨rfl,S6,YC,hlen,hle,hK⟩:=h;obtain⟨_,_,SK,_⟩:=hs.own b _ hl;unfold aM at SK;rw[SH]at SK;obtain⟨cur,e,hg,hc⟩:=SK;simp only at hc;have Ta:=cE.cells U8 YC;have Ti:(a.eval y).cells.size=i.size:=by have:=bJ.length Ta;simp only[Array.length_toList]at this;omega
    have Tl:o'+off+i.size≤cur.size:=by
     obtain⟨u,S4,_⟩:=hc (off+i.size-1) cs[off+i.size-1] (by simp only[Bk.cell];exact X8 (by omega))
     have:=(Array.getElem?_eq_some_iff.1 S4).1
     omega
    refine SO g _ _ SV (jg hi hg _ Ti Tl (bJ.uV Ta)) (hk _ _ _ hK ⟨ρ,?_⟩);have U9:(a.eval y).cells.toList.length=i.size:=by simpa using Ti
    refine hs.write hl SH hg (by simp[Ti];omega) (.var (lI cs off (cellsOf (s.ev y)))) rfl fun j c hj=>?_;simp only[Bk.cell]at hj;rw[uN _ _ _ (by omega)]at hj;have Uw:=g9 cur.toList (o'+off) (a.eval y).cells.toList (by simp only[Array.length_toList]at U9⊢;omega) (o'+j);rw[U9]at Uw;simp only[List.getElem?_toArray,Uw]
    by_cases hm:off≤j∧j<off+(cellsOf (s.ev y)).length
    ·rw[if_pos hm]at hj;rw[if_pos (by omega),show o'+j-(o'+off)=j-off by omega];exact bJ.get Ta _ _ hj
    rw[if_neg hm]at hj;rw[if_neg (by omega),Array.getElem?_toList];exact hc j c hj
   exact h.elim
  ·rename_i b wd ix off hx
   rw[hx]at XF;obtain⟨_,Uv,g,o',SH,SV⟩:=XF
   split at h
   ·rename_i e k xs rw_ hl
    split at h
    ·rename_i k' n hy
     obtain⟨rfl,rfl,rfl,VK,rfl,hK⟩:=h;obtain⟨_,hlenρ,SK,_⟩:=hs.own b _ hl;unfold aM at SK;rw[SH]at SK;obtain⟨cur,e',hg,hc⟩:=SK;simp only at hc;rw[hlenρ]at Uv;simp only[Bk.len]at Uv;rw[hy]at U8;have Vw:a.eval y= .int k' n:=U8;have Tl:o'+(ix*1+0)+i.size≤cur.size:=by
      obtain⟨u,S4,_⟩:=hc ix (.int k' (xs.getD ix 0)) (by simp[Bk.cell,X8 Uv])
      have:=(Array.getElem?_eq_some_iff.1 S4).1
      omega
     have Ti:(a.eval y).cells.size=i.size:=by rw[Vw,←TN,VK];rfl
     have U9:(a.eval y).cells.toList.length=i.size:=by simpa using Ti
     refine SO g _ _ SV (jg hi hg _ Ti Tl (by rw[Vw];simp[Value.cells,Value.oneCell'])) (hk _ _ _ hK ⟨ρ,?_⟩);refine hs.write hl SH hg (by simp[Ti];omega) (.ints e k' (xs.set ix n)) (by simp[Bk.len]) fun j c hj=>?_;have Uw:=g9 cur.toList (o'+(ix*1+0)) (a.eval y).cells.toList (by simp only[Array.length_toList]at U9⊢;omega) (o'+j);rw[U9]at Uw;simp only[List.getElem?_toArray,Uw];simp only[Bk.cell,List.getElem?_set]at hj
     by_cases hm:j=ix
     ·subst hm;rw[if_pos (by omega),Vw];rw[if_pos rfl,if_pos Uv]at hj;simp only[Option.map_some,Q6]at hj;subst hj;exact⟨.int k' n,by simp[Value.cells],rfl⟩
     rw[if_neg (by omega),Array.getElem?_toList];rw[if_neg (fun e=>hm e.symm)]at hj;exact hc j c hj
    exact h.elim
   ·rename_i e wd' n f rw_ hl
    obtain⟨rfl,rfl,S6,YC,hlen,hle,hnid,hK⟩:=h;obtain⟨_,hlenρ,SK,_⟩:=hs.own b _ hl;unfold aM at SK;rw[SH]at SK;obtain⟨cur,e',hg,hc⟩:=SK;simp only at hc;rw[hlenρ]at Uv;simp only[Bk.len]at Uv;have Ta:=cE.cells U8 YC;have Ti:(a.eval y).cells.size=i.size:=by have:=bJ.length Ta;simp only[Array.length_toList]at this;omega
    have U9:(a.eval y).cells.toList.length=i.size:=by simpa using Ti
    have YD:∀j,j<wd→ix*wd+j<n*wd:=fun j hj=>by
     have:(ix+1)*wd≤n*wd:=O8 _ Uv
     rw[Nat.add_mul]at this;omega
    have Tl:o'+(ix*wd+off)+i.size≤cur.size:=by
     have SI:=YD (off+i.size-1) (by omega);obtain⟨u,S4,_⟩:=hc (ix*wd+(off+i.size-1)) (f ((ix*wd+(off+i.size-1))/wd) ((ix*wd+(off+i.size-1))%wd)) (by simp only[Bk.cell,if_pos SI])
     have:=(Array.getElem?_eq_some_iff.1 S4).1
     omega
    have T7:∀x:V,(cellsOf x).flatMap gz=kP x:=fun x=>by cases x<;>simp [cellsOf,kP]
    have hview:=q0 hs (iO.refl s s.nx o) (kP (s.ev y)) (cellsOf (s.ev y)) _ (fun b hb _=>by rw[T7]at hb;exact hb) Ta;have h1:=hs.dG (kP (s.ev y));have Uh:lo (dG s.own (kP (s.ev y))) b=some ⟨.rows e wd n f,true⟩:=by
     rw[fH,hl];simp only[Option.map_some,hnid,Bool.false_eq_true,↓reduceIte]
    rw[yC]at hK;refine SO g _ _ SV (jg hi hg _ Ti Tl (bJ.uV Ta)) (hk _ _ _ hK ⟨ρ,?_⟩);refine h1.write Uh SH hg (by simp[Ti];omega) (.rows e wd n (bz f ix off ((cellsOf (s.ev y)).map (jU s.own s.nx)))) rfl fun j c hj=>?_;have Uw:=g9 cur.toList (o'+(ix*wd+off)) (a.eval y).cells.toList (by simp only[Array.length_toList]at U9⊢;omega) (o'+j);rw[U9]at Uw;simp only[List.getElem?_toArray,Uw];simp only[Bk.cell]at hj
    split at hj
    ·rename_i Wp
     simp only[Q6,bz,List.length_map]at hj;have UY:0<wd:=by omega
     have Wq:j/wd*wd+j%wd=j:=by rw[O6];exact Nat.div_add_mod j wd
     have YE:j%wd<wd:=Nat.mod_lt _ UY
     by_cases hm:ix*wd+off≤j∧j<ix*wd+off+i.size
     ·have U0:j/wd=ix:=by
       rw[Nat.div_eq_iff UY]
       constructor
       ·omega
       omega
      have hjm:j%wd=j-ix*wd:=by rw[U0]at Wq;omega
      rw[if_pos U0,hjm,if_pos (by omega),if_pos (by omega)]at hj;rw[if_pos (by omega),show o'+j-(o'+(ix*wd+off))=j-ix*wd-off by omega];have hq:j-ix*wd-off<(cellsOf (s.ev y)).length:=by omega
      have Vq:((cellsOf (s.ev y)).map (jU s.own s.nx))[j-ix*wd-off]? =some c:=by
       rw[←hj,X7];rw[X8 (by simpa using hq)];rfl
      obtain⟨u,S4,hr⟩:=bJ.get hview _ _ Vq;exact⟨u,S4,aQ.ext (Ext.dy fun g' VQ=>vZ hs _ VQ) _ _ (aQ.dZ hr)⟩
     rw[if_neg (by omega),Array.getElem?_toList];have hfc:f (j/wd) (j%wd)=c:=by
      by_cases U0:j/wd=ix
      ·rw[if_pos U0]at hj;have hjm:j%wd=j-ix*wd:=by rw[U0]at Wq;omega
       have XH:ix*wd≤j:=by rw[U0]at Wq;omega
       by_cases h2:off≤j%wd
       ·rw[if_pos h2,if_neg (by omega)]at hj;exact hj
       rw[if_neg h2]at hj;exact hj
      rw[if_neg U0]at hj;exact hj
     obtain⟨u,S4,hr⟩:=hc j c (by simp only[Bk.cell,if_pos Wp,hfc]);exact⟨u,S4,aQ.ext (Ext.dy fun g' VQ=>kK VQ) _ _ hr⟩
    cases hj
   ·rename_i e b2 n f rw_ hl
    split at h
    ·rename_i c hy
     obtain⟨rfl,rfl,VK,rfl,_,hK⟩:=h;obtain⟨_,hlenρ,SK,_⟩:=hs.own b _ hl;unfold aM at SK;rw[SH]at SK;obtain⟨cur,e',hg,hc⟩:=SK;simp only at hc;rw[hlenρ]at Uv;simp only[Bk.len]at Uv;rw[hy]at U8;have Vw:aF ρ (fun b=>b<s.nx) (aI G s.own ρ w) w c (a.eval y):=U8;have UC:=aF.plain Vw;have Tl:o'+(ix*1+0)+i.size≤cur.size:=by
      obtain⟨u,S4,_⟩:=hc ix (f ix) (by simp only[Bk.cell,if_pos Uv])
      have:=(Array.getElem?_eq_some_iff.1 S4).1
      omega
     have Ti:(a.eval y).cells.size=i.size:=by rw[UC.2,←TN,VK];rfl
     have U9:(a.eval y).cells.toList.length=i.size:=by simpa using Ti
     refine SO g _ _ SV (jg hi hg _ Ti Tl (by rw[UC.2];simpa using UC.1)) (hk _ _ _ hK ⟨ρ,?_⟩);have key:∀s',aS G (fun b=>b<s.nx) ρ s' a (w.setRow g (cur.toList.take (o'+(ix*1+0))++(a.eval y).cells.toList++cur.toList.drop (o'+(ix*1+0)+i.size)).toArray)→∀b3,(b3=rW b2 c)→aS G (fun b=>b<s.nx) ρ {s' with env:=if b3=b2 then s'.env else mG b b3 s'.env} a (w.setRow g (cur.toList.take (o'+(ix*1+0))++(a.eval y).cells.toList++cur.toList.drop (o'+(ix*1+0)+i.size)).toArray):=by
      intro s' h' b3 e3
      by_cases e4:b3=b2
      ·rw[if_pos e4];exact h'
      rw[if_neg e4];refine h'.Qr b b3 ?_
      cases c with
      |own bb ww oo ll=>subst e3;exact Vw.1
      |_=>exact absurd e3 e4
     refine key {s with own:=eD s.own b ⟨.wins e (rW b2 c) n (fun j=>if j=ix then c else f j),true⟩} ?_ (rW b2 c) rfl;refine hs.write hl SH hg (by simp[Ti];omega) (.wins e (rW b2 c) n (fun j=>if j=ix then c else f j)) rfl fun j c' hj=>?_;have Uw:=g9 cur.toList (o'+(ix*1+0)) (a.eval y).cells.toList (by simp only[Array.length_toList]at U9⊢;omega) (o'+j);rw[U9]at Uw;simp only[List.getElem?_toArray,Uw];simp only[Bk.cell]at hj
     split at hj
     ·rename_i Wp
      simp only[Q6]at hj
      by_cases hm:j=ix
      ·subst hm;rw[if_pos rfl]at hj;rw[if_pos (by omega),UC.2,←hj];exact⟨a.eval y,by simp,Vw⟩
      rw[if_neg hm]at hj;rw[if_neg (by omega),Array.getElem?_toList];exact hc j c' (by simp only[Bk.cell,if_pos Wp,hj])
     cases hj
    exact h.elim
   exact h.elim
  exact h.elim
end
end Go.Eng
namespace Go.Eng
open Go
def kf (w:World)(a:Option Addr)(us:List Value):Prop:=us=[]∨∃ad,a=some ad∧∀(j:Nat) u,us[j]? =some u→w.cell? (ad.add j)=some u
theorem dQ {P:Program}{w:World}(size n:Nat)(a:Option Addr)(len cap:Nat)(us:List Value)(hl:us.length=n*size)(h:kf w a us):
  (Builtin.firstCells size n (.slice a len cap)).run P w= .ok us.toArray w:=by
 rcases h with rfl|⟨ad,rfl,h⟩
 ·cases a with
  |none=>simp[Builtin.firstCells]
  |some ad=>
   simp only[Builtin.firstCells];rw[←hl];exact ku ad [] (fun j u hj=>by simp at hj)
 exact run_firstCells_some w size n ad len cap us hl h
structure Cells (ok:Nat→Prop) (w:World) (wd n:Nat) (f:Nat→Nat→C) (a:Option Addr) (us:List Value):Prop where
 len:us.length=n*wd
 at_:kf w a us
 one:∀u∈us,u.oneCell'=true
 rep:∀i j,i<n→j<wd→∃u,us[i*wd+j]? =some u∧aQ ok w (f i j) u
theorem p7 {ok:Nat→Prop}{w:World}{wd n g o:Nat}{f:Nat→Nat→C}(h:∀i j,i<n→j<wd→∃u,w.cell? ⟨g,o+(i*wd+j),none⟩=some u∧aQ ok w (f i j) u):
  ∃us,Cells ok w wd n f (some ⟨g,o,none⟩) us:=by
 refine⟨(List.range (n*wd)).map (fun t=>(w.cell? ⟨g,o+t,none⟩).getD undef),?_⟩;have key:∀t,t<n*wd→∃u,w.cell? ⟨g,o+t,none⟩=some u∧aQ ok w (f (t/wd) (t%wd)) u:=by
  intro t ht
  have UY:0<wd:=by rcases Nat.eq_zero_or_pos wd with h0|h0;(subst h0;simp at ht);exact h0
  have h1:t/wd<n:=by rw[Nat.div_lt_iff_lt_mul UY];exact ht
  obtain⟨u,hu,hr⟩:=h (t/wd) (t%wd) h1 (Nat.mod_lt _ UY)
  have:t/wd*wd+t%wd=t:=by rw[O6];exact Nat.div_add_mod t wd
  rw[this]at hu;exact⟨u,hu,hr⟩
 refine⟨by simp,.inr ⟨_,rfl,fun j u hj=>?_⟩,fun u hu=>?_,fun i j hi hj=>?_⟩
 ·simp only[List.getElem?_map]at hj;obtain⟨t,ht,he⟩:=Option.map_eq_some_iff.1 hj;obtain⟨SI,rfl⟩:j<n*wd∧j=t:=by
   have:=List.getElem?_eq_some_iff.1 ht
   obtain⟨h1,h2⟩:=this;simp at h1 h2;exact⟨h1,h2⟩
  obtain⟨u',S4,_⟩:=key j SI;rw[fj,S4];rw[S4]at he
  simpa using he
 ·obtain⟨t,ht,he⟩:=List.mem_map.1 hu;obtain⟨u',S4,hr⟩:=key t (by simpa using ht);rw[S4]at he;simp only[Option.getD_some]at he;subst he;exact(aQ.plain hr).1
 obtain⟨u,hu,hr⟩:=h i j hi hj;have SI:i*wd+j<n*wd:=by
  have:(i+1)*wd≤n*wd:=O8 _ hi
  rw[Nat.add_mul]at this;omega
 exact⟨u,by simp[SI,hu],hr⟩
theorem jk {ok:Nat→Prop}{w:World}{wd:Nat}{f:Nat→Nat→C}{a:Option Addr}:Cells ok w wd 0 f a []:=
 ⟨by simp,.inl rfl,fun u hu=>by simp at hu,fun i j hi=>absurd hi (O5 _)⟩
def ic (k:IntKind):C→Option (List Int)
 |.nil=>some []
 |.ints k' xs=>if k'=k then some xs else none
 |_=>none
theorem pU {ok:Nat→Prop}{w:World}{c:C}{v:Value}(h:aQ ok w c v):
  (∀k xs,ic k c=some xs→∃a cap us,v= .slice a xs.length cap∧Cells ok w 1 xs.length (fun i _=>.int k (xs.getD i 0)) a us)∧
  (∀wd n f,(match c with|.nil=>n=0|.rows w' n' f'=>w'=wd∧n'=n∧f'=f|_=>False)→∃a cap us,v= .slice a n cap∧Cells ok w wd n f a us):=by
 constructor
 ·intro k xs hx
  cases c with
  |nil=>
   simp only[ic,Q6]at hx;subst hx;exact⟨none,0,[],h,jk⟩
  |ints k' ys=>
   simp only[ic]at hx
   split at hx
   ·rename_i hk
    simp only[Q6]at hx;subst hx;subst hk;obtain⟨a,cap,rfl,_,hr⟩:=h
    rcases hr with hr|⟨g,o,rfl,_,Th⟩
    ·refine⟨a,cap,[],rfl,?_⟩;rw[hr];exact jk
    obtain⟨us,U6⟩:=p7 (ok:=ok) (wd:=1) (n:=ys.length) (f:=fun i _=>.int k' (ys.getD i 0)) (fun i j hi hj=>⟨_,by rw[show i*1+j=i by omega];exact Th i hi,rfl⟩);exact⟨_,cap,us,rfl,U6⟩
   cases hx
  |_=>simp[ic]at hx
 intro wd n f hm
 cases c with
 |nil=>
  simp only at hm;subst hm;exact⟨none,0,[],h,jk⟩
 |rows w' n' f'=>
  simp only at hm;obtain⟨rfl,rfl,rfl⟩:=hm;obtain⟨a,cap,rfl,_,hr⟩:=h
  rcases hr with hr|⟨g,o,rfl,_,Th⟩
  ·refine⟨a,cap,[],rfl,?_⟩;rw[hr];exact jk
  obtain⟨us,U6⟩:=p7 Th;exact⟨_,cap,us,rfl,U6⟩
 |_=>exact hm.elim
theorem um {P:Program}{w:World}{t ty e:TypeId}{i:TypeInfo}{z:Value}(ht:P.underlying t=some (.slice e))(hi:P.info? e=some i)(hz:i.zero=some z)
  (b:Option Addr) (sLen rC:Nat) (olds:List Value) (S7:olds.length=sLen*i.size) (holds:kf w b olds)
  (a:Option Addr) (n c:Nat) (news:List Value) (hl:news.length=n*i.size) (WN:kf w a news)
  (hg:rC<sLen+n) (hb:(sLen+n)*i.bytes≤140737488355328) (Ye:sLen+n≤9223372036854775807):
  (Builtin.append_ #[t,t] ty #[.slice b sLen rC,.slice a n c]).run P w=
   .ok (.slice (some ⟨w.heap.size,0,none⟩) (sLen+n) (grownCap w (sLen+n) rC e))
    (w.drew.alloc (.cells (olds.toArray++news.toArray++Builtin.zeroCells z.cells (grownCap w (sLen+n) rC e-(sLen+n))) e)):=by
 have hn:¬(sLen+n≤rC):=by omega
 have h63':¬(9223372036854775807<((sLen:Int)+(n:Int))):=by omega
 have Tl:=growslice_fits hg hb;have h48':¬(281474976710656<Builtin.nextslicecap (sLen+n) rC*i.bytes):=by omega
 have hf:=dQ (P:=P) (w:=w.drew) i.size n a n c news hl WN;have hfo:=dQ (P:=P) (w:=w.drew) i.size sLen b sLen rC olds S7 holds
 simp[Builtin.append_,Go.run_underlying ht,sizeOf,typeInfo,zeroValue,hi,hz,Builtin.lenOf,hn,h63',h48',Question.forced,hf,hfo,newRow,grownCap]
 congr 2
 apply Array.ext'
 simp[List.append_assoc]
theorem sE {P:Program}{w:World}{t ty e:TypeId}{i:TypeInfo}(ht:P.underlying t=some (.slice e))(hi:P.info? e=some i)
  (g o sLen rC:Nat) {cur:Array Value} {e':TypeId} (hg:w.heap[g]? =some (.cells cur e' (0,0)))
  (a:Option Addr) (n c:Nat) (news:List Value) (hl:news.length=n*i.size) (WN:kf w a news) (h1:∀u∈news,u.oneCell'=true)
  (Tt:sLen+n≤rC) (Tl:o+sLen*i.size+news.length≤cur.size):
  (Builtin.append_ #[t,t] ty #[.slice (some ⟨g,o,none⟩) sLen rC,.slice a n c]).run P w=
   .ok (.slice (some ⟨g,o,none⟩) (sLen+n) rC) (w.setRow g (cur.toList.take (o+sLen*i.size)++news++cur.toList.drop (o+sLen*i.size+news.length)).toArray):=by
 have hf:=dQ (P:=P) (w:=w) i.size n a n c news hl WN;have S1:=run_storeCells_at P g (o+sLen*i.size) e' news 0 cur w hg (by simpa using Tl) h1;simp only[Nat.add_zero]at S1
 simp[Builtin.append_,Go.run_underlying ht,sizeOf,typeInfo,hi,Builtin.lenOf,Tt,hf,fj,S1]
theorem ml {P:Program}{w:World}{t ty e:TypeId}{i:TypeInfo}(ht:P.underlying t=some (.slice e))(hi:P.info? e=some i)(a:Option Addr)(c:Nat):
  (Builtin.append_ #[t,t] ty #[.slice none 0 0,.slice a 0 c]).run P w= .ok (.slice none 0 0) w:=by
 have hf:=dQ (P:=P) (w:=w) i.size 0 a 0 c [] (by simp) (.inl rfl)
 simp[Builtin.append_,Go.run_underlying ht,sizeOf,typeInfo,hi,Builtin.lenOf,hf]
end Go.Eng
namespace Go.Eng
open Go
def iB (wd:Nat):C→Option (Nat×(Nat→Nat→C))
 |.nil=>some (0,fun _ _=>.any)
 |.rows w n f=>if w=wd then some (n,f)else none
 |_=>none
def zd (own:List (Nat×fI))(wd:Nat):C→Option (List (Nat×fI))
 |.nil=>some own
 |.own b w _ _=>if w=wd then(match lo own b with
  |some B=>if B.rw then some (del own b)else none
  |none=>none)else none
 |_=>none
def yB (own:List (Nat×fI))(nx0:Nat):C→C
 |.win _ _ _ _=>.any
 |.any=>jU own nx0 .any
 |.bool b=>jU own nx0 (.bool b)
 |.int k n=>jU own nx0 (.int k n)
 |.str s=>jU own nx0 (.str s)
 |.nil=>jU own nx0 .nil
 |.ints k xs=>jU own nx0 (.ints k xs)
 |.rows w n f=>jU own nx0 (.rows w n f)
 |.own b w o l=>jU own nx0 (.own b w o l)
 |.ptr b o=>jU own nx0 (.ptr b o)
 |.elt c w i o=>jU own nx0 (.elt c w i o)
 |.eptr b w i o=>jU own nx0 (.eptr b w i o)
 |.fn f n caps=>jU own nx0 (.fn f n caps)
def tn:C→Bool
 |.win _ _ _ _=>true
 |_=>false
def D3:C→C
 |.win b _ o l=>.own b 1 o l
 |c=>c
def IF (own:List (Nat×fI))(nx0:Nat)(c:C):Option (Nat×Nat×(Nat→C)):=
 match c with
 |.win b _ off len=>match lo own b with
  |some ⟨.wins _ b3 n g,_⟩=>if off=0 then(if len=n then some (b3,n,g)else none)else none
  |_=>none
 |c=>match iB 1 (yB own nx0 c)with
  |some (n,f)=>some (0,n,fun i=>f i 0)
  |none=>none
def pQ (T:fS)(s:St)(dst:Option Tmp)(t:TypeId)(x y:Operand)(K:St→Prop):Prop:=
 match dst with
 |none=>False
 |some d=>
       match T t with
  |some S=>
        match S.k with
   |.sl e=>match T e with
    |some E=>
          match s.ev x,s.ev y with
     |.one cx,.one cy=>match zd s.own E.size (D3 cx)with
      |some Um=>match E.k with
       |.int k=>match ic k (yB s.own s.nx cx),ic k (yB s.own s.nx cy)with
        |some xs,some ys=>E.zero.length=E.size∧E.size=1∧((xs.length+ys.length)*E.bytes≤140737488355328∧xs.length+ys.length≤9223372036854775807)∧
          K {env:=(d,.one (.own s.nx 1 0 (xs++ys).length))::s.env,own:=eD Um s.nx ⟨.ints e k (xs++ys),true⟩,nx:=s.nx+1,n:=s.n}
        |_,_=>False
       |_=>if(tn cx||tn cy)=true then(match IF s.own s.nx cx,IF s.own s.nx cy with
        |some (b3,n,f),some (b4,m,g)=>E.zero.length=E.size∧E.size=1∧((n+m)*E.bytes≤140737488355328∧n+m≤9223372036854775807)∧(if tn cy=true then b4 else b3)<s.nx∧
          K {env:=(d,.one (.win s.nx (if tn cy=true then b4 else b3) 0 (n+m)))::s.env,own:=eD Um s.nx ⟨.wins e (if tn cy=true then b4 else b3) (n+m) (fun i=>if i<n then f i else g (i-n)),true⟩,nx:=s.nx+1,n:=s.n}
        |_,_=>False)else match iB E.size (yB s.own s.nx cx),iB E.size (yB s.own s.nx cy)with
        |some (n,f),some (m,g)=>E.zero.length=E.size∧0<E.size∧((n+m)*E.bytes≤140737488355328∧n+m≤9223372036854775807)∧
          K {env:=(d,.one (.own s.nx E.size 0 (n+m)))::s.env,own:=eD Um s.nx ⟨.rows e E.size (n+m) (fun i j=>if i<n then f i j else g (i-n) j),true⟩,nx:=s.nx+1,n:=s.n}
        |_,_=>False
      |none=>False
     |_,_=>False
    |none=>False
   |_=>False
  |none=>False
section
variable {G:Ctx}{dom:Nat→Prop}{ρ:Nat→Loc}{s:St}{a:Act}{w:World}
theorem xg (hs:aS G dom ρ s a w){b wd off len:Nat}{B:fI}{v:Value}(hl:lo s.own b=some B)(hw:MA B.bk=wd)(WG:B.bk.flat)(hr:aF ρ dom (aI G s.own ρ w) w (.own b wd off len) v):
  ∃ad cap us,v= .slice ad len cap∧Cells (aI G s.own ρ w) w wd len (fun i j=>oG B.bk (off+i) j) ad us:=by
 obtain⟨_,hlen,SK,_⟩:=hs.own b B hl;obtain⟨_,hle,cap,hc,hr⟩:=hr
 rcases hr with⟨g,o,o',SH,rfl,ho,_⟩|⟨_,rfl,rfl,_⟩
 ·by_cases h0:len=0
  ·subst h0;exact⟨_,cap,[],rfl,jk⟩
  unfold aM at SK;rw[SH]at SK;obtain⟨cur,e,hg,S5⟩:=SK
  have TV:o'=o+off*wd:=by rcases ho with ho|ho<;>omega
  rw[hlen]at hle;obtain⟨us,U6⟩:=p7 (ok:=aI G s.own ρ w) (w:=w) (wd:=wd) (n:=len) (g:=g) (o:=o') (f:=fun i j=>oG B.bk (off+i) j) (fun i j hi hj=>by
   rw[cell_of_row w g _ cur e (0,0) hg,TV]
   cases hB:B.bk with
   |var cs=>rw[hB]at WG;exact WG.elim
   |wins e b2 n g=>rw[hB]at WG;exact WG.elim
   |ints e' k xs=>
    rw[hB]at S5 hw hle;simp only[MA]at hw;subst hw;simp only[Bk.len]at hle;have hx:off+i<xs.length:=by omega
    obtain⟨u,S4,hr⟩:=S5 (off+i) (.int k (xs.getD (off+i) 0)) (by simp[Bk.cell,X8 hx]);exact⟨u,by rw[show o+off*1+(i*1+j)=o+(off+i) by omega];exact S4,hr⟩
   |rows e' wd' n' f=>
    rw[hB]at S5 hw hle;simp only[MA]at hw;subst hw;simp only[Bk.len]at hle;have SI:(off+i)*wd'+j<n'*wd':=by
     have:(off+i+1)*wd'≤n'*wd':=O8 _ (by omega)
     rw[Nat.add_mul (off+i)]at this;omega
    obtain⟨u,S4,hr⟩:=S5 ((off+i)*wd'+j) (f (off+i) j) (by
     simp only[Bk.cell,if_pos SI];rw[O6 (off+i) wd',Nat.mul_add_div (by omega),Nat.div_eq_of_lt hj,Nat.mul_add_mod,O7 hj];simp)
    exact⟨u,by rw[show o+off*wd'+(i*wd'+j)=o+((off+i)*wd'+j) by rw[Nat.add_mul];omega];exact S4,hr⟩)
  exact⟨_,cap,us,rfl,U6⟩
 exact⟨none,0,[],rfl,jk⟩
theorem Cells.congr {ok:Nat→Prop}{wd n:Nat}{f g:Nat→Nat→C}{ad:Option Addr}{us:List Value}(h:Cells ok w wd n f ad us)(he:∀i j,i<n→j<wd→f i j=g i j):Cells ok w wd n g ad us:=
 ⟨h.len,h.at_,h.one,fun i j hi hj=>by rw[←he i j hi hj];exact h.rep i j hi hj⟩
def G2 (B:Bk)(ρ:Nat→Loc)(dom ok:Nat→Prop)(w:World)(c:C)(u:Value):Prop:=match B with
 |.wins .. =>aF ρ dom ok w c u
 |_=>aQ ok w c u
structure tZ (R:C→Value→Prop) (w:World) (wd n:Nat) (f:Nat→Nat→C) (a:Option Addr) (us:List Value):Prop where
 len:us.length=n*wd
 at_:kf w a us
 one:∀u∈us,u.oneCell'=true
 rep:∀i j,i<n→j<wd→∃u,us[i*wd+j]? =some u∧R (f i j) u
theorem Cells.Qs {ok:Nat→Prop}{w:World}{wd n:Nat}{f:Nat→Nat→C}{a:Option Addr}{us:List Value}(B:Bk){ρ:Nat→Loc}{dom:Nat→Prop}(h:Cells ok w wd n f a us):tZ (G2 B ρ dom ok w) w wd n f a us:=
 ⟨h.len,h.at_,h.one,fun i j hi hj=>by
  obtain⟨u,hu,hr⟩:=h.rep i j hi hj;refine⟨u,hu,?_⟩
  cases B with
  |wins e b2 n g=>exact aF.bn hr
  |_=>exact hr⟩
theorem E3 (hs:aS G dom ρ s a w){b n:Nat}{e:TypeId}{b3:Nat}{g:Nat→C}{rw_:Bool}{v:Value}(hl:lo s.own b=some ⟨.wins e b3 n g,rw_⟩)(hr:aF ρ dom (aI G s.own ρ w) w (.own b 1 0 n) v):
  ∃ad cap us,v= .slice ad n cap∧tZ (aF ρ dom (aI G s.own ρ w) w) w 1 n (fun i _=>g i) ad us:=by
 obtain⟨_,hlen,SK,_⟩:=hs.own b _ hl;obtain⟨_,hle,cap,hc,hr⟩:=hr
 rcases hr with⟨q,o,o',SH,rfl,ho,_⟩|⟨_,rfl,rfl,_⟩
 ·by_cases h0:n=0
  ·subst h0;exact⟨_,cap,[],rfl,rfl,.inl rfl,(by simp),fun i j hi=>absurd hi (O5 _)⟩
  unfold aM at SK;rw[SH]at SK;obtain⟨cur,e',hg,S5⟩:=SK
  have TV:o'=o:=by rcases ho with ho|ho<;>omega
  subst TV;have UG:∀i,i<n→∃u,w.cell? ⟨q,o'+i,none⟩=some u∧aF ρ dom (aI G s.own ρ w) w (g i) u:=fun i hi=>by
   obtain⟨u,S4,hr⟩:=S5 i (g i) (if_pos hi);exact⟨u,by rw[cell_of_row w q _ cur e' (0,0) hg];exact S4,hr⟩
  obtain⟨us,U6⟩:=p7 (ok:=aI G s.own ρ w) (w:=w) (wd:=1) (n:=n) (g:=q) (o:=o') (f:=fun _ _=>.any) (fun i j hi hj=>by
   obtain⟨u,hu,hr⟩:=UG i hi;obtain rfl:j=0:=by omega
   exact⟨u,by rw[show o'+(i*1+0)=o'+i by omega];exact hu,(aF.plain hr).1⟩)
  refine⟨_,cap,us,rfl,U6.len,U6.at_,U6.one,fun i j hi hj=>?_⟩;obtain rfl:j=0:=by omega
  obtain⟨u,hu,_⟩:=U6.rep i 0 hi hj;obtain⟨u',S4,hr⟩:=UG i hi;refine⟨u,hu,?_⟩
  rcases U6.at_ with h1|⟨ad,had,hat⟩
  ·rw[h1]at hu;simp at hu
  obtain rfl:=Option.some.inj had
  have:=hat _ u hu
  rw[show i*1+0=i by omega,fj,S4]at this;rw[←Option.some.inj this];exact hr
 exact⟨none,0,[],rfl,rfl,.inl rfl,(by simp),fun i j hi=>absurd hi (O5 _)⟩
theorem A3 (own:List (Nat×fI))(nx b off:Nat)(k:IntKind)(wd:Nat):ic k (jU own nx (.ptr b off))=none∧iB wd (jU own nx (.ptr b off))=none:=by
 simp only[jU]
 split
 ·cases lo own b with
  |none=>exact⟨rfl,rfl⟩
  |some B=>obtain⟨B,r⟩:=B;cases B<;>exact ⟨rfl,rfl⟩
 exact⟨rfl,rfl⟩
theorem AY (hs:aS G dom ρ s a w)(T1:∀b,dom b→b<s.nx){c:C}{v:Value}(hr:aF ρ dom (aI G s.own ρ w) w c v){k:IntKind}{xs:List Int}(hx:ic k (yB s.own s.nx c)=some xs):
  ∃ad cap us,v= .slice ad xs.length cap∧Cells (aI G s.own ρ w) w 1 xs.length (fun i _=>.int k (xs.getD i 0)) ad us:=by
 cases c with
 |own b wd off len=>
  have hb:=T1 b hr.1;simp only[yB,jU,if_pos hb]at hx
  cases hl:lo s.own b with
  |none=>rw[hl]at hx;simp[ic]at hx
  |some B=>
   rw[hl]at hx;simp only at hx
   cases hB:B.bk with
   |var cs=>rw[hB]at hx;simp[gq,ic]at hx
   |wins e b2 n g=>rw[hB]at hx;simp[gq,ic]at hx
   |rows e w' n f=>rw[hB]at hx;simp only[gq]at hx;split at hx<;>simp [ic]at hx
   |ints e k' ys=>
    rw[hB]at hx;simp only[gq]at hx
    split at hx
    ·rename_i UY
     subst UY;simp only[ic]at hx
     split at hx
     ·rename_i hk
      subst hk;simp only[Q6]at hx;obtain⟨ad,cap,us,hv,hc⟩:=xg hs hl (by rw[hB];rfl) (by rw[hB];trivial) hr;obtain⟨_,hlen,_,_⟩:=hs.own b B hl;have hle:=hr.2.1;rw[hlen,hB]at hle;simp only[Bk.len]at hle;have Wb:xs.length=len:=by rw[←hx];simp;omega
      refine⟨ad,cap,us,by rw[Wb];exact hv,?_⟩;rw[Wb];refine hc.congr fun i j hi hj=>?_;simp only[hB,oG,←hx,X7,List.getElem?_take,List.getElem?_drop];rw[if_pos hi]
     cases hx
    simp[ic]at hx
 |nil=>exact(pU (c:=.nil) hr).1 k xs hx
 |ints k' ys=>exact(pU (c:=.ints k' ys) hr).1 k xs hx
 |fn f n caps=>simp only[yB,jU]at hx;split at hx<;>simp [ic]at hx
 |ptr b off=>rw[yB,(A3 s.own s.nx b off k 0).1]at hx;cases hx
 |_=>simp[yB,jU,ic]at hx
theorem qe (hs:aS G dom ρ s a w)(T1:∀b,dom b→b<s.nx){c:C}{v:Value}(hr:aF ρ dom (aI G s.own ρ w) w c v){wd n:Nat}{f:Nat→Nat→C}(hx:iB wd (yB s.own s.nx c)=some (n,f)):
  ∃ad cap us,v= .slice ad n cap∧Cells (aI G s.own ρ w) w wd n f ad us:=by
 cases c with
 |own b wd' off len=>
  have hb:=T1 b hr.1;simp only[yB,jU,if_pos hb]at hx
  cases hl:lo s.own b with
  |none=>rw[hl]at hx;simp[iB]at hx
  |some B=>
   rw[hl]at hx;simp only at hx
   cases hB:B.bk with
   |var cs=>rw[hB]at hx;simp[gq,iB]at hx
   |wins e b2 n g=>rw[hB]at hx;simp[gq,iB]at hx
   |ints e k' ys=>rw[hB]at hx;simp only[gq]at hx;split at hx<;>simp [iB]at hx
   |rows e w' n' f'=>
    rw[hB]at hx;simp only[gq]at hx
    split at hx
    ·rename_i UY
     subst UY;simp only[iB]at hx
     split at hx
     ·rename_i hww
      subst hww;simp only[Q6,Prod.mk.injEq]at hx;obtain⟨rfl,rfl⟩:=hx;obtain⟨ad,cap,us,hv,hc⟩:=xg hs hl (by rw[hB];rfl) (by rw[hB];trivial) hr;refine⟨ad,cap,us,hv,hc.congr fun i j hi hj=>by rw[hB];rfl⟩
     cases hx
    simp[iB]at hx
 |nil=>
  simp only[yB,jU,iB,Q6,Prod.mk.injEq]at hx;exact(pU (c:=.nil) hr).2 wd n f hx.1.symm
 |rows w' n' f'=>
  simp only[yB,jU,iB]at hx
  split at hx
  ·rename_i hw
   simp only[Q6,Prod.mk.injEq]at hx;exact(pU (c:=.rows w' n' f') hr).2 wd n f ⟨hw,hx.1,hx.2⟩
  cases hx
 |fn f n caps=>simp only[yB,jU]at hx;split at hx<;>simp [iB]at hx
 |ptr b off=>rw[yB,(A3 s.own s.nx b off .i64 wd).2]at hx;cases hx
 |_=>simp[yB,jU,iB]at hx
theorem aS.del (h:aS G dom ρ s a w)(b:Nat):aS G dom ρ {s with own:=Eng.del s.own b} a w:=by
 have SR:Ext (aI G s.own ρ w) (aI G (Eng.del s.own b) ρ w) w w:=Ext.dy fun g hg=>⟨hg.1,hg.2.1,fun b2 B2 SJ S2=>by
  rw[kv]at SJ
  split at SJ
  ·cases SJ
  exact hg.2.2 b2 B2 SJ S2⟩
 have hs:iC dom dom ρ ρ:=⟨fun _ h=>h,fun _ _=>rfl⟩;refine h.sA SR hs (fun b2 B2 SJ=>?_) (fun b2 B2 b3 B3 SJ Tn=>?_) rfl rfl rfl (O1 _) (fun _ _ _=>rfl)
 ·rw[kv]at SJ
  split at SJ
  ·cases SJ
  obtain⟨h1,h2,h3,h4⟩:=h.own b2 B2 SJ;exact⟨h1,h2,aM.ext SR hs _ _ (fun _ _ _=>rfl) h3,h4⟩
 rw[kv]at SJ Tn
 split at SJ
 ·cases SJ
 split at Tn
 ·cases Tn
 exact h.inj b2 B2 b3 B3 SJ Tn
theorem aS.DW (h:aS G dom ρ s a w){id:Nat}(hid:¬dom id)(B:Bk)(hB:∀j,B.cell j=none)(hlen:B.len=0):
  aS G (fun b=>dom b∨b=id) (a6 ρ id ⟨none,0⟩) {s with own:=eD s.own id ⟨B,true⟩} a w:=by
 have hs:=iC.a6 ρ ⟨none,0⟩ hid;have SR:Ext (aI G s.own ρ w) (aI G (eD s.own id ⟨B,true⟩) (Eng.a6 ρ id ⟨none,0⟩) w) w w:=Ext.dy fun g hg=>⟨hg.1,hg.2.1,fun b2 B2 SJ S2 o=>by
  rw[b9]at SJ
  by_cases SX:b2=id
  ·subst SX;rw[mq];simp
  rw[if_neg SX]at SJ;rw[aW _ _ SX];exact hg.2.2 b2 B2 SJ S2 o⟩
 refine h.sA SR hs (fun b2 B2 SJ=>?_) (fun b2 B2 b3 B3 SJ Tn SW S2 g o o' ha=>?_) rfl rfl rfl (O1 _) (fun _ _ _=>rfl)
 ·rw[b9]at SJ
  by_cases SX:b2=id
  ·subst SX;rw[if_pos rfl]at SJ;obtain rfl:=Option.some.inj SJ;rw[mq];exact⟨.inr rfl,hlen.symm,hB,fun g o ha=>by cases ha⟩
  rw[if_neg SX]at SJ;rw[aW _ _ SX];obtain⟨h1,h2,h3,h4⟩:=h.own b2 B2 SJ;exact⟨.inl h1,h2,aM.ext SR hs _ _ (fun _ _ _=>rfl) h3,h4⟩
 rw[b9]at SJ Tn
 by_cases SX:b2=id
 ·subst SX;rw[mq]at ha;cases ha
 rw[if_neg SX]at SJ;rw[aW _ _ SX]at ha
 by_cases TF:b3=id
 ·subst TF;rw[mq];simp
 rw[if_neg TF]at Tn;rw[aW _ _ TF];exact h.inj b2 B2 b3 B3 SJ Tn SW S2 g o o' ha
theorem aS.drew (h:aS G dom ρ s a w):aS G dom ρ s a w.drew:=h.grown ((Go.RowKit.Below.refl _ _).drew)
end
theorem ss {P:Program}{w:World}{t ty e:TypeId}{i:TypeInfo}(ht:P.underlying t=some (.slice e))(hi:P.info? e=some i)(b:Option Addr)(n cap:Nat)(a:Option Addr)(c:Nat)(h:n≤cap):
  (Builtin.append_ #[t,t] ty #[.slice b n cap,.slice a 0 c]).run P w= .ok (.slice b n cap) w:=by
 have hf:=dQ (P:=P) (w:=w) i.size 0 a 0 c [] (by simp) (.inl rfl)
 cases b<;>simp [Builtin.append_,Go.run_underlying ht,sizeOf,typeInfo,hi,Builtin.lenOf,hf,h,storeCells]
section
variable {P:Program}{T:fS}{o:Oper}{s:St}{K:St→Prop}
theorem xJ {P:Program}{t t' e e':TypeId}(ht:P.underlying t=some (.slice e))(Vb:P.underlying t'=some (.slice e'))(ty:TypeId)(u v:Value)(w:World):
  (Builtin.append_ #[t,t'] ty #[u,v]).run P w=(Builtin.append_ #[t,t] ty #[u,v]).run P w:=by
 simp only[Builtin.append_,List.getElem?_toArray,List.getElem?_cons_zero,List.getElem?_cons_succ,Sem.run_bind,ay ht,ay Vb,Q7,Sem.run_pure]
 cases u<;>simp only[Sem.run_bind,ay ht,ay Vb,Q7,Sem.run_pure]
theorem lT {d:Tmp}(hd:o.dst=some d)(TP:d<s.n){c:Call}(ho:o.op= .call c)(UK:c.callee= .builtin .append){x y:Operand}(SL:c.args= #[x,y]){t t':TypeId}(Tx:c.argTypes= #[t,t']){e':TypeId}(Vb:P.underlying t'=some (.slice e'))
  {e:TypeId} {ei:TypeInfo} {ez:Value} (ht:P.underlying t=some (.slice e)) (Uj:P.info? e=some ei) (Wd:ei.zero=some ez) (TO:ez.cells.size=ei.size)
  {cx:C} (Zk:∀G ρ a w,aS G (fun b=>b<s.nx) ρ s a w→aF ρ (fun b=>b<s.nx) (aI G s.own ρ w) w cx (a.eval x)) {wd:Nat} (UY:wd=ei.size) (S6:0<wd) {Um:List (Nat×fI)} (Tf:zd s.own wd cx=some Um)
  {n m:Nat} {f0 f1:Nat→Nat→C} (B':Bk) (YF:∀cs,B'≠ .var cs) (Zl:B'.len=n+m)
  (ZT:∀j c,B'.cell j=some c→j<(n+m)*wd∧c=if j/wd<n then f0 (j/wd) (j%wd)else f1 (j/wd-n) (j%wd))
  (hb:(n+m)*ei.bytes≤140737488355328) (Ye:n+m≤9223372036854775807)
  (Zm:∀G ρ a w,aS G (fun b=>b<s.nx) ρ s a w→∃ad cap us,a.eval x= .slice ad n cap∧tZ (G2 B' ρ (fun b=>b<s.nx) (aI G s.own ρ w) w) w wd n f0 ad us)
  (ZU:∀G ρ a w,aS G (fun b=>b<s.nx) ρ s a w→∃ad cap us,a.eval y= .slice ad m cap∧tZ (G2 B' ρ (fun b=>b<s.nx) (aI G s.own ρ w) w) w wd m f1 ad us)
  (rv:C) (hrv:∀ρ' ok' w' v,aF ρ' (fun b=>b<s.nx∨b=s.nx) ok' w' (.own s.nx wd 0 (n+m)) v→aF ρ' (fun b=>b<s.nx∨b=s.nx) ok' w' rv v)
  (hK:K {env:=(d,.one rv)::s.env,own:=eD Um s.nx ⟨B',true⟩,nx:=s.nx+1,n:=s.n}):mY P o s K:=by
 subst UY;intro G a w SP Q next hk;obtain⟨ρ,hs⟩:=SP;obtain⟨ad0,UZ,YG,TK,T6⟩:=Zm G ρ a w hs;obtain⟨ZW,WO,Wr,YH,VR⟩:=ZU G ρ a w hs;have hid:¬(s.nx<s.nx):=Nat.lt_irrefl _;have Vx:∀(v:Value) (w':World),(Builtin.append_ #[t,t] o.type #[a.eval x,a.eval y]).run P w= .ok v w'→(execOp a.eval o).run P w= .ok (.value v) w':=by
  intro v w' hr;unfold execOp;rw[ho];simp only[resolve,UK,Sem.run_bind,Sem.run_pure,Q7,invoke,Go.builtin,SL,Tx];rw[show Array.map a.eval #[x,y]= #[a.eval x,a.eval y] by simp,xJ ht Vb,hr];rfl
 -- from the block's state to the whole
 have fin:∀(v:Value) (w':World) (ρ':Nat→Loc),(execOp a.eval o).run P w= .ok (.value v) w'→
   aS G (fun b=>b<s.nx∨b=s.nx) ρ' {s with own:=eD Um s.nx ⟨B',true⟩} a w'→aF ρ' (fun b=>b<s.nx∨b=s.nx) (aI G (eD Um s.nx ⟨B',true⟩) ρ' w') w' (.own s.nx ei.size 0 (n+m)) v→o.wp P a w next Q:=by
  intro v w' ρ' hr h1 h2;refine Oper.cX hr (hk _ _ _ hK ⟨ρ',?_⟩);rw[hd];have h3:=h1.put (dst:=some d) (x:=.one rv) (v:=v) (fun d' hh=>by cases hh;exact TP) (hrv _ _ _ _ h2)
  have h4:=h3.cU (dom':=fun b=>b<s.nx+1) (fun b hb=>by rcases hb with hb|hb<;>omega)
  exact{hd:=h4.hd,hn:=h4.hn,env:=h4.env,own:=h4.own,inj:=h4.inj,os:=h4.os,tape:=h4.tape,output:=h4.output,size:=h4.size,keep:=h4.keep,wf:=h4.wf,home:=h4.home,room:=h4.room}
 -- a new row
 have cellAt:∀(pre:List Value),pre=YG++Wr→∀j c,B'.cell j=some c→∃u,pre[j]? =some u∧G2 B' ρ (fun b=>b<s.nx) (aI G s.own ρ w) w c u:=by
  intro pre ZX j c hj;obtain⟨SI,rfl⟩:=ZT j c hj;have Wq:j/ei.size*ei.size+j%ei.size=j:=by rw[O6];exact Nat.div_add_mod j ei.size
  have YE:j%ei.size<ei.size:=Nat.mod_lt _ S6;have TB:j/ei.size<n+m:=(Nat.div_lt_iff_lt_mul S6).2 SI;have Uz:=T6.len
  by_cases hn:j/ei.size<n
  ·rw[if_pos hn];obtain⟨u,hu,hr⟩:=T6.rep _ _ hn YE;rw[Wq]at hu;refine⟨u,?_,hr⟩;have hju:=(List.getElem?_eq_some_iff.1 hu).1;rw[ZX,List.getElem?_append_left hju];exact hu
  rw[if_neg hn];obtain⟨u,hu,hr⟩:=VR.rep (j/ei.size-n) _ (by omega) YE;refine⟨u,?_,hr⟩;have XH:n*ei.size≤j:=by
   have:n*ei.size≤j/ei.size*ei.size:=O8 _ (by omega)
   omega
  rw[ZX,List.getElem?_append_right (by omega),Uz,←hu]
  congr 1
  have hmul:n*ei.size≤j/ei.size*ei.size:=O8 _ (by omega);rw[Nat.sub_mul,←Nat.sub_add_comm hmul,Wq]
 have hzz:(YG.toArray++Wr.toArray).toList=YG++Wr:=by simp
 have newRow:UZ<n+m→(Um=s.own∨∃b,Um=Eng.del s.own b)→o.wp P a w next Q:=by
  intro Te Xz;have hr:=um (ty:=o.type) ht Uj Wd ad0 n UZ YG T6.len T6.at_ ZW m WO Wr VR.len VR.at_ Te hb Ye;rw[←TK,←YH]at hr;have hgc:n+m≤grownCap w (n+m) UZ e:=grownCap_ge w _ _ _;have h1:aS G (fun b=>b<s.nx) ρ {s with own:=Um} a w.drew:=by
   rcases Xz with rfl|⟨b,rfl⟩
   ·exact hs.drew
   exact hs.drew.del b
  have hokm:∀g,aI G s.own ρ w g→aI G Um ρ w.drew g:=fun g hg=>by
   rcases Xz with rfl|⟨b,rfl⟩
   ·exact hg
   exact⟨hg.1,hg.2.1,fun b2 B2 SJ S2=>by
    rw[kv]at SJ
    split at SJ
    ·cases SJ
    exact hg.2.2 b2 B2 SJ S2⟩
  have WQ:Ext (aI G s.own ρ w) (aI G Um ρ w.drew) w w.drew:=⟨fun g hg=>⟨hokm g hg,rfl⟩,fun _=>O1 _⟩;have h2:=h1.xR hid B' (YG.toArray++Wr.toArray++Builtin.zeroCells ez.cells (grownCap w (n+m) UZ e-(n+m))) e (fun j c hj=>by
   obtain⟨u,hu,hr⟩:=cellAt _ rfl j c hj;refine⟨u,?_,?_⟩
   ·have hju:=(List.getElem?_eq_some_iff.1 hu).1;rw[Array.getElem?_append_left (by simpa using hju)];rw[←Array.getElem?_toList,hzz];exact hu
   cases B' with
   |var cs=>exact absurd rfl (YF cs)
   |ints e k xs=>exact aQ.ext WQ _ _ hr
   |rows e w n f=>exact aQ.ext WQ _ _ hr
   |wins e b2 n g=>exact aF.ext WQ ⟨fun _ h=>h,fun _ _=>rfl⟩ _ _ hr)
  refine fin _ _ _ (Vx _ _ hr) h2 ⟨.inr rfl,by rw[mq];simp[Zl],grownCap w (n+m) UZ e,hgc,.inl ⟨w.heap.size,0,0,by rw[mq];rfl,rfl,.inr (by simp),?_⟩⟩;have Ud:b7 (w.drew.alloc (.cells (YG.toArray++Wr.toArray++Builtin.zeroCells ez.cells (grownCap w (n+m) UZ e-(n+m))) e)) w.heap.size=(YG.toArray++Wr.toArray++Builtin.zeroCells ez.cells (grownCap w (n+m) UZ e-(n+m))).size:=dJ (heap_alloc_new w.drew _);rw[Ud];simp only[Array.size_append,List.size_toArray,size_zeroCells,T6.len,VR.len,TO]
  have:grownCap w (n+m) UZ e=n+m+(grownCap w (n+m) UZ e-(n+m)):=by omega
  rw[Nat.zero_add,Nat.zero_add]
  conv=>lhs;rw[this]
  rw[Nat.add_mul,Nat.add_mul];exact O1 _
 unfold zd at Tf
 split at Tf
 ·-- the base is nil
  simp only[Q6]at Tf;have ZY:=Zk G ρ a w hs;have ZY:a.eval x= .slice none 0 0:=ZY;rw[ZY]at TK;simp only[Value.slice.injEq]at TK;obtain⟨rfl,rfl,rfl⟩:=TK
  by_cases hm:m=0
  ·subst hm;have hr:=ml (P:=P) (w:=w) (ty:=o.type) ht Uj ZW WO;rw[←YH,←ZY]at hr;subst Tf;have h2:=hs.DW hid B' (fun j=>by
    cases hc:B'.cell j with
    |none=>rfl
    |some c=>have:=(ZT j c hc).1;simp at this) (by rw[Zl])
   exact fin _ _ _ (Vx _ _ hr) h2 ⟨.inr rfl,by rw[mq];simp,0,by simp,.inr ⟨by rw[mq],ZY,by simp,rfl⟩⟩
  exact newRow (by omega) (.inl Tf.symm)
 ·-- it is a slice of the frame's own
  rename_i b w' off len
  split at Tf
  ·rename_i hww
   subst hww
   cases S7:lo s.own b with
   |none=>rw[S7]at Tf;simp at Tf
   |some B=>
    rw[S7]at Tf;simp only at Tf
    split at Tf
    ·rename_i S2
     simp only[Q6]at Tf
     by_cases Te:UZ<n+m
     ·exact newRow Te (.inr ⟨b,Tf.symm⟩)
     have hxo:=Zk G ρ a w hs;obtain⟨X9,hle,cap,hc,hxo⟩:=hxo
     rcases hxo with⟨g,o1,o2,SH,S8,ho,Tt⟩|⟨SH,S8,rfl,rfl⟩
     ·rw[S8]at TK;simp only[Value.slice.injEq]at TK;obtain⟨rfl,rfl,rfl⟩:=TK;obtain⟨_,Yd,WR,hlocb⟩:=hs.own b B S7;unfold aM at WR;rw[SH]at WR;obtain⟨cur,e',hg,Ta⟩:=WR;rw[dJ hg]at Tt;have ZZ:lo s.own b=some ⟨B.bk,true⟩:=by rw[S7,←S2]
      -- the base's place
      have Tl:o2+len*ei.size+Wr.length≤cur.size∨len+m=0:=by
       by_cases h0:len+m=0
       ·exact .inr h0
       left
       have UQ:o2=o1+off*ei.size:=by rcases ho with ho|ho<;>omega
       have Uh:=VR.len;have h3:(len+m)*ei.size≤cap*ei.size:=O8 _ (by omega);rw[Nat.add_mul]at h3 Tt;omega
      rcases Tl with Tl|h0
      ·have hr:=sE (P:=P) (w:=w) (ty:=o.type) ht Uj g o2 len cap hg ZW m WO Wr VR.len VR.at_ VR.one (by omega) Tl;rw[←S8,←YH]at hr;have YI:((cur.toList.take (o2+len*ei.size)++Wr++cur.toList.drop (o2+len*ei.size+Wr.length)).toArray).size=cur.size:=by simp;omega
       have h2:=hs.rewrite ZZ SH hg YI hid B' o2 (fun j c hj=>by
        obtain⟨SI,rfl⟩:=ZT j c hj;have Wq:j/ei.size*ei.size+j%ei.size=j:=by rw[O6];exact Nat.div_add_mod j ei.size
        have YE:j%ei.size<ei.size:=Nat.mod_lt _ S6;have TB:j/ei.size<len+m:=(Nat.div_lt_iff_lt_mul S6).2 SI;have Uw:=g9 cur.toList (o2+len*ei.size) Wr (by simpa using Tl) (o2+j);have Uh:=VR.len
        by_cases hn:j/ei.size<len
        ·rw[if_pos hn];obtain⟨u,hu,hr⟩:=T6.rep _ _ hn YE;rw[Wq]at hu;have Tj:j<len*ei.size:=by
          have:(j/ei.size+1)*ei.size≤len*ei.size:=O8 _ hn
          rw[Nat.add_mul]at this;omega
         rw[if_neg (by omega)]at Uw;refine⟨u,?_,?_⟩
         ·rw[List.getElem?_toArray,Uw,Array.getElem?_toList]
          rcases T6.at_ with h0|⟨ad,had,hat⟩
          ·rw[h0]at hu;simp at hu
          simp only[Q6]at had;subst had
          have:=hat j u hu
          rw[fj,cell_of_row w g _ cur e' (0,0) hg]at this;exact this
         cases B' with
         |var cs=>exact absurd rfl (YF cs)
         |ints e k xs=>exact hr
         |rows e w n f=>exact hr
         |wins e b2 n g=>exact hr
        rw[if_neg hn];obtain⟨u,hu,hr⟩:=VR.rep (j/ei.size-len) _ (by omega) YE;have hmul:len*ei.size≤j/ei.size*ei.size:=O8 _ (by omega);have XH:len*ei.size≤j:=by omega
        rw[Nat.sub_mul,←Nat.sub_add_comm hmul,Wq]at hu;have hju:=(List.getElem?_eq_some_iff.1 hu).1;rw[if_pos (by omega),show o2+j-(o2+len*ei.size)=j-len*ei.size by omega]at Uw;refine⟨u,?_,?_⟩
        ·rw[List.getElem?_toArray,Uw,←hu]
        cases B' with
        |var cs=>exact absurd rfl (YF cs)
        |ints e k xs=>exact hr
        |rows e w n f=>exact hr
        |wins e b2 n g=>exact hr)
       subst Tf;refine fin _ _ _ (Vx _ _ hr) h2 ⟨.inr rfl,by rw[mq];simp[Zl],cap,by omega,.inl ⟨g,o2,o2,by rw[mq],rfl,.inr (by simp),?_⟩⟩;rw[dJ (setRow_heap w g cur _ e' (0,0) hg),YI]
       by_cases hc0':cap=0
       ·subst hc0';simp;omega
       have UQ:o2=o1+off*ei.size:=by rcases ho with ho|ho<;>omega
       rw[Nat.add_mul]at Tt;rw[UQ,Nat.zero_add];omega
      -- nothing at all is laid
      have Uz:len=0:=by omega
      have hm0:m=0:=by omega
      subst Uz;subst hm0;have hr:=ss (P:=P) (w:=w) (ty:=o.type) ht Uj (some ⟨g,o2,none⟩) 0 cap ZW WO hc;rw[←S8,←YH]at hr;have h2:=hs.rewrite (cur':=cur) ZZ SH hg rfl hid B' (o1+off*ei.size) (fun j c hj=>by have:=(ZT j c hj).1;simp at this);rw[setRow_self w g cur e' (0,0) hg]at h2;subst Tf;refine fin _ _ _ (Vx _ _ hr) h2 ⟨.inr rfl,by rw[mq];simp,cap,hc,.inl ⟨g,o1+off*ei.size,o2,by rw[mq],S8,?_,?_⟩⟩
      ·rcases ho with ho|ho
       ·exact .inl ho
       exact .inr (by rw[ho];omega)
      rw[dJ hg];rw[Nat.add_mul]at Tt;rw[Nat.zero_add];omega
     rw[S8]at TK;simp only[Value.slice.injEq]at TK;obtain⟨rfl,rfl,rfl⟩:=TK;have hm:m=0:=by omega
     subst hm;have hr:=ml (P:=P) (w:=w) (ty:=o.type) ht Uj ZW WO;rw[←YH,←S8]at hr;subst Tf;have h2:=(hs.del b).DW hid B' (fun j=>by
      cases hc:B'.cell j with
      |none=>rfl
      |some c=>have:=(ZT j c hc).1;simp at this) (by rw[Zl])
     exact fin _ _ _ (Vx _ _ hr) h2 ⟨.inr rfl,by rw[mq];simp,0,by simp,.inr ⟨by rw[mq],S8,by simp,rfl⟩⟩
    cases Tf
  cases Tf
 cases Tf
theorem Mf (hT:eN P T){c:Call}(ho:o.op= .call c)(UK:c.callee= .builtin .append){x y:Operand}(SL:c.args= #[x,y]){t t':TypeId}(Tx:c.argTypes= #[t,t']){e':TypeId}(Vb:P.underlying t'=some (.slice e'))
  (TP:bY o s.n) (h:pQ T s o.dst t x y K):mY P o s K:=by
 unfold pQ at h
 cases hd:o.dst with
 |none=>rw[hd]at h;exact h.elim
 |some d=>
  rw[hd]at h;simp only at h
  cases SZ:T t with
  |none=>rw[SZ]at h;exact h.elim
  |some S=>
   rw[SZ]at h;simp only at h
   split at h
   ·rename_i e UW
    have hu:=fx hT SZ UW
    cases TD:T e with
    |none=>rw[TD]at h;exact h.elim
    |some E=>
     rw[TD]at h;simp only at h;obtain⟨ei,ed,ez,Uj,Ya,Wd,Yb,UH,ZQ,UB,SM⟩:=bF hT TD
     split at h
     ·rename_i cx cy hx hy
      cases hb:zd s.own E.size (D3 cx)with
      |none=>rw[hb]at h;exact h.elim
      |some Um=>
       rw[hb]at h;simp only at h;have Zm:∀G ρ a w,aS G (fun b=>b<s.nx) ρ s a w→aF ρ (fun b=>b<s.nx) (aI G s.own ρ w) w cx (a.eval x):=fun G ρ a w hs=>by
        have:=hs.ev x;rw[hx]at this;exact this
       have ZU:∀G ρ a w,aS G (fun b=>b<s.nx) ρ s a w→aF ρ (fun b=>b<s.nx) (aI G s.own ρ w) w cy (a.eval y):=fun G ρ a w hs=>by
        have:=hs.ev y;rw[hy]at this;exact this
       have Zk:∀G ρ a w,aS G (fun b=>b<s.nx) ρ s a w→aF ρ (fun b=>b<s.nx) (aI G s.own ρ w) w (D3 cx) (a.eval x):=fun G ρ a w hs=>by
        have:=Zm G ρ a w hs
        cases cx with
        |win b b2 o l=>exact this.2
        |_=>exact this
       split at h
       ·rename_i k hk
        split at h
        ·rename_i xs ys VH XI
         obtain⟨TW,VK,⟨Z0,Ye⟩,hK⟩:=h;have TO:ez.cells.size=ei.size:=by rw[←UH,←TW,UB];simp
         refine lT (wd:=E.size) (n:=xs.length) (m:=ys.length) (f0:=fun i _=>.int k (xs.getD i 0)) (f1:=fun i _=>.int k (ys.getD i 0)) hd (TP d hd) ho UK SL Tx Vb hu Uj Wd TO Zk UH (by omega) hb (.ints e k (xs++ys)) (fun cs=>by simp) (by simp[Bk.len]) (fun j c hj=>?_) (by rw[←ZQ];exact Z0) Ye (fun G ρ a w hs=>?_) (fun G ρ a w hs=>?_) _ (fun _ _ _ _ h=>h) (by rw[VK,←X6];exact hK)
         ·simp only[Bk.cell]at hj;obtain⟨v,hv,rfl⟩:=Option.map_eq_some_iff.1 hj;obtain⟨Tj,hjv⟩:=List.getElem?_eq_some_iff.1 hv;rw[X6]at Tj;rw[VK,Nat.mul_one,Nat.div_one];refine⟨Tj,?_⟩;subst hjv
          by_cases hjx:j<xs.length
          ·rw[if_pos hjx]
           congr 1
           rw[List.getElem_append_left hjx]
           simp[X8 hjx]
          rw[if_neg hjx]
          congr 1
          rw[List.getElem_append_right (by omega)]
          have:j-xs.length<ys.length:=by omega
          simp[X8 this]
         ·rw[VK];obtain⟨ad,cap,us,h1,h2⟩:=AY hs (fun _ h=>h) (Zm G ρ a w hs) VH;exact⟨ad,cap,us,h1,h2.Qs _⟩
         rw[VK];obtain⟨ad,cap,us,h1,h2⟩:=AY hs (fun _ h=>h) (ZU G ρ a w hs) XI;exact⟨ad,cap,us,h1,h2.Qs _⟩
        exact h.elim
       split at h
       ·split at h
        ·rename_i b3 n f b4 m g VH XI
         obtain⟨TW,VK,⟨Z0,Ye⟩,htag,hK⟩:=h;have TO:ez.cells.size=ei.size:=by rw[←UH,←TW,UB];simp
         have src:∀{c:C} {v:Value} {G:Ctx} {ρ:Nat→Loc} {a:Act} {w:World} {bb k:Nat} {h:Nat→C} (B:Bk) (_:∃e b n g,B= .wins e b n g),aS G (fun b=>b<s.nx) ρ s a w→aF ρ (fun b=>b<s.nx) (aI G s.own ρ w) w c v→IF s.own s.nx c=some (bb,k,h)→
           ∃ad cap us,v= .slice ad k cap∧tZ (G2 B ρ (fun b=>b<s.nx) (aI G s.own ρ w) w) w 1 k (fun i _=>h i) ad us:=by
          intro c v G ρ a w bb k h B hB hs hr hw;obtain⟨e1,b1,n1,g1,rfl⟩:=hB;unfold IF at hw
          split at hw
          ·rename_i b b2 off len
           split at hw
           ·rename_i e3 b3 n3 g3 rw3 Tn
            split at hw
            ·rename_i h0
             split at hw
             ·rename_i hln
              subst h0;subst hln;simp only[Q6,Prod.mk.injEq]at hw;obtain⟨rfl,rfl,rfl⟩:=hw;exact E3 hs Tn hr.2
             cases hw
            cases hw
           cases hw
          split at hw
          ·rename_i n3 f3 hr3
           simp only[Q6,Prod.mk.injEq]at hw;obtain⟨rfl,rfl,rfl⟩:=hw;obtain⟨ad,cap,us,h1,h2⟩:=qe hs (fun _ h=>h) hr hr3;exact⟨ad,cap,us,h1,(h2.congr (g:=fun i _=>f3 i 0) (fun i j _ hj=>by rw[show j=0 by omega])).Qs _⟩
          cases hw
         refine lT (wd:=E.size) (n:=n) (m:=m) (f0:=fun i _=>f i) (f1:=fun i _=>g i) hd (TP d hd) ho UK SL Tx Vb hu Uj Wd TO Zk UH (by omega) hb (.wins e (if tn cy=true then b4 else b3) (n+m) (fun i=>if i<n then f i else g (i-n))) (fun cs=>by simp) rfl (fun j c hj=>?_) (by rw[←ZQ];exact Z0) Ye (fun G ρ a w hs=>?_) (fun G ρ a w hs=>?_) _ (fun ρ' ok' w' v h=>?_) hK
         ·simp only[Bk.cell]at hj;rw[VK,Nat.mul_one,Nat.div_one]
          split at hj
          ·rename_i SI
           simp only[Q6]at hj;exact⟨SI,hj.symm⟩
          cases hj
         ·rw[VK];exact src _ ⟨_,_,_,_,rfl⟩ hs (Zm G ρ a w hs) VH
         ·rw[VK];exact src _ ⟨_,_,_,_,rfl⟩ hs (ZU G ρ a w hs) XI
         rw[VK]at h;exact⟨.inl htag,h⟩
        exact h.elim
       split at h
       ·rename_i n f m g VH XI
        obtain⟨TW,S6,⟨Z0,Ye⟩,hK⟩:=h;have TO:ez.cells.size=ei.size:=by rw[←UH,←TW,UB];simp
        refine lT (wd:=E.size) (n:=n) (m:=m) (f0:=f) (f1:=g) hd (TP d hd) ho UK SL Tx Vb hu Uj Wd TO Zk UH S6 hb (.rows e E.size (n+m) (fun i j=>if i<n then f i j else g (i-n) j)) (fun cs=>by simp) rfl (fun j c hj=>?_) (by rw[←ZQ];exact Z0) Ye (fun G ρ a w hs=>?_) (fun G ρ a w hs=>?_) _ (fun _ _ _ _ h=>h) hK
        ·simp only[Bk.cell]at hj
         split at hj
         ·rename_i SI
          simp only[Q6]at hj;exact⟨SI,hj.symm⟩
         cases hj
        ·obtain⟨ad,cap,us,h1,h2⟩:=qe hs (fun _ h=>h) (Zm G ρ a w hs) VH;exact⟨ad,cap,us,h1,h2.Qs _⟩
        obtain⟨ad,cap,us,h1,h2⟩:=qe hs (fun _ h=>h) (ZU G ρ a w hs) XI;exact⟨ad,cap,us,h1,h2.Qs _⟩
       exact h.elim
     exact h.elim
   exact h.elim
end
end Go.Eng
namespace Go.Eng
open Go
def Bk.plain:Bk→Prop
 |.var cs=>cs.all gp=true
 |.wins .. =>False
 |_=>True
structure ye (l:Loc) (w w':World):Prop where
 os:w'.os=w.os
 tape:w'.tape=w.tape
 output:w'.output=w.output
 size:w.heap.size≤w'.heap.size
 block:∀k,k<w.heap.size→(∀o,l.addr≠some (k,o))→w'.heap[k]? =w.heap[k]?
 room:∀g,b7 w g≤b7 w' g
def Ge (ok:Nat→Prop)(w w':World)(g:Nat):Prop:=ok g∨(w.heap.size≤g∧g<w'.heap.size)
def Mc (P:Program)(f:FuncId)(args:List V)(B:Bk)(R:V→Bk→Prop):Prop:=
 gY P f∧∀(ok:Nat→Prop) (w:World) (vs:Array Value) (l:Loc),(∀g,ok g→g<w.heap.size)→l.len=B.len→(∀g o,l.addr=some (g,o)→g<w.heap.size∧¬ok g)→
  aM bm bo ok w l B→a8 (fun _=>l) (fun b=>b=0) ok w args vs.toList→
  Calls P f vs w fun e w'=>∃v r B',e= .returned v∧R r B'∧B'.plain∧B'.len=B.len∧ye l w w'∧
   aM bm bo (Ge ok w w') w' l B'∧cE (fun _=>l) (fun b=>b=0) (Ge ok w w') w' r v
def Ni (b:Nat)(own:List (Nat×fI))(nx:Nat)(c:C):C:=
 match c with
 |.own b' wd off len=>if b'=b then .own 0 wd off len else jU own nx (.own b' wd off len)
 |.ptr b' off=>if b'=b then .ptr 0 off else jU own nx (.ptr b' off)
 |.win _ _ _ _=>.any
 |c=>jU own nx c
def JA (b:Nat)(own:List (Nat×fI))(nx:Nat):V→V
 |.one c=>.one (Ni b own nx c)
 |.agg cs=>.agg (cs.map (Ni b own nx))
 |_=>.unk
def Ec (b:Nat)(c:C):C:=
 match c with
 |.own _ wd off len=>.own b wd off len
 |.ptr _ off=>.ptr b off
 |.eptr _ _ _ _=>.any
 |.win _ _ _ _=>.any
 |.fn _ _ _=>.any
 |c=>c
def Hz (b:Nat):V→V
 |.one c=>.one (Ec b c)
 |_=>.unk
def vd (b:Nat):V→V
 |.one c=>.one (Ec b c)
 |.aB xs=>.aB (xs.map (Hz b))
 |_=>.unk
theorem aM.gH {ρ ρ':Nat→Loc}{dom dom' ok ok':Nat→Prop}{w:World}{l:Loc}{B:Bk}(hp:B.plain)(h:∀g,ok g→ok' g)(hr:aM ρ dom ok w l B):aM ρ' dom' ok' w l B:=by
 unfold aM at*
 cases ha:l.addr with
 |none=>rw[ha]at hr;exact hr
 |some p=>
  obtain⟨g,o⟩:=p;rw[ha]at hr;obtain⟨cur,e,hg,hc⟩:=hr;refine⟨cur,e,hg,fun j c hj=>?_⟩;obtain⟨u,hu,hr⟩:=hc j c hj;refine⟨u,hu,?_⟩
  cases B with
  |var cs=>
   have hm:c∈cs:=List.mem_of_getElem? hj;exact ka (List.all_eq_true.1 hp c hm) hr
  |ints e k xs=>exact aQ.ext (Ext.dy h) _ _ hr
  |rows e wd n f=>exact aQ.ext (Ext.dy h) _ _ hr
  |wins e b2 n g=>exact hp.elim
section
variable {G:Ctx}{dom:Nat→Prop}{ρ:Nat→Loc}{s:St}{a:Act}{w:World}
theorem wM (hs:aS G dom ρ s a w)(b:Nat)(ids:List Nat)(c:C)(v:Value)(hi:∀b'∈gz c,b'≠b→b'∈ids)(hr:aF ρ dom (aI G s.own ρ w) w c v):
  aF (fun _=>ρ b) (fun i=>i=0) (cS G s.own ρ w ids) w (Ni b s.own s.nx c) v:=by
 have o:Oper:=default;have TR:iC bo (fun i:Nat=>i=0) bm (fun _=>ρ b):=⟨fun _ h=>h.elim,fun _ h=>h.elim⟩;have hx:Ext (cS G s.own ρ w ids) (cS G s.own ρ w ids) w w:=Ext.refl _ _;have view:(∀b'∈gz c,b'<s.nx→b'∈ids)→aF (fun _=>ρ b) (fun i=>i=0) (cS G s.own ρ w ids) w (jU s.own s.nx c) v:=fun Uk=>
  aF.ext hx TR _ _ (ou hs (iO.refl s s.nx o) c v ids Uk hr)
 cases c with
 |own b' wd off len=>
  show aF _ _ _ w (Ni b s.own s.nx (.own b' wd off len)) v;simp only[Ni]
  by_cases hb:b'=b
  ·rw[if_pos hb];subst hb;obtain⟨_,h2,h3⟩:=hr;exact⟨rfl,h2,h3⟩
  rw[if_neg hb];refine view fun b2 Tr _=>hi b2 Tr ?_;simp only[gz,List.mem_singleton]at Tr;subst Tr;exact hb
 |ptr b' off=>
  show aF _ _ _ w (Ni b s.own s.nx (.ptr b' off)) v;simp only[Ni]
  by_cases hb:b'=b
  ·rw[if_pos hb];subst hb;obtain⟨_,h2⟩:=hr;exact⟨rfl,h2⟩
  rw[if_neg hb];refine view fun b2 Tr _=>hi b2 Tr ?_;simp only[gz,List.mem_singleton]at Tr;subst Tr;exact hb
 |win b' b2 off len=>exact(aF.plain (c:=.win b' b2 off len) hr).1
 |any=>exact view (fun _ h=>by simp[gz]at h)
 |bool t=>exact view (fun _ h=>by simp[gz]at h)
 |int k n=>exact view (fun _ h=>by simp[gz]at h)
 |str t=>exact view (fun _ h=>by simp[gz]at h)
 |nil=>exact view (fun _ h=>by simp[gz]at h)
 |ints k xs=>exact view (fun _ h=>by simp[gz]at h)
 |rows wd n f=>exact view (fun _ h=>by simp[gz]at h)
 |elt c wd i off=>exact view (fun _ h=>by simp[gz]at h)
 |eptr b wd i off=>exact view (fun _ h=>by simp[gz]at h)
 |fn f n caps=>exact view (fun _ h=>by simp[gz]at h)
theorem we (hs:aS G dom ρ s a w)(b:Nat)(ids:List Nat)(x:V)(v:Value)(hi:∀b'∈kP x,b'≠b→b'∈ids)(hr:cE ρ dom (aI G s.own ρ w) w x v):
  dM (fun _=>ρ b) (fun i=>i=0) (cS G s.own ρ w ids) w (JA b s.own s.nx x) v:=by
 cases x with
 |one c=>exact wM hs b ids c v hi hr
 |agg cs=>
  obtain⟨vs,hv,hl⟩:=hr;refine⟨vs,hv,?_⟩
  generalize vs.toList=l at hl
  have Uk:∀c∈cs,∀b'∈gz c,b'≠b→b'∈ids:=fun c hc b' Tq=>hi b' (List.mem_flatMap.2 ⟨c,hc,Tq⟩);clear hv hi
  induction cs generalizing l with
  |nil=>cases l with
   |nil=>trivial
   |cons u l=>exact hl.elim
  |cons c cs ih=>
   cases l with
   |nil=>exact hl.elim
   |cons u l=>exact⟨wM hs b ids c u (Uk c (List.mem_cons_self ..)) hl.1,ih l hl.2 fun c' hc=>Uk c' (List.mem_cons_of_mem _ hc)⟩
 |aB xs=>trivial
 |unk=>trivial
theorem r8 {dom:Nat→Prop}{ρ:Nat→Loc}{ok ok':Nat→Prop}{w:World}{b:Nat}(hb:dom b)(h:∀g,ok g→ok' g){c:C}{v:Value}(hr:aF (fun _=>ρ b) (fun i=>i=0) ok w c v):aF ρ dom ok' w (Ec b c) v:=by
 have hx:Ext ok ok' w w:=Ext.dy h
 cases c with
 |own b' wd off len=>
  obtain⟨_,h2,h3⟩:=hr;exact⟨hb,h2,h3⟩
 |ptr b' off=>
  obtain⟨_,h2⟩:=hr;exact⟨hb,h2⟩
 |eptr b' wd i off=>exact(aF.plain (c:=.eptr b' wd i off) hr).1
 |win b' b2 off len=>exact(aF.plain (c:=.win b' b2 off len) hr).1
 |fn f n caps=>exact(aF.plain (c:=.fn f n caps) hr).1
 |any=>exact aQ.ext hx .any v hr
 |bool t=>exact aQ.ext hx (.bool t) v hr
 |int k n=>exact aQ.ext hx (.int k n) v hr
 |str t=>exact aQ.ext hx (.str t) v hr
 |nil=>exact aQ.ext hx .nil v hr
 |ints k xs=>exact aQ.ext hx (.ints k xs) v hr
 |rows wd n f=>exact aQ.ext hx (.rows wd n f) v hr
 |elt c wd i off=>exact aQ.ext hx (.elt c wd i off) v hr
theorem sk {dom:Nat→Prop}{ρ:Nat→Loc}{ok ok':Nat→Prop}{w:World}{b:Nat}(hb:dom b)(h:∀g,ok g→ok' g):∀{xs:List V} {vs:List Value},a8 (fun _=>ρ b) (fun i=>i=0) ok w xs vs→a8 ρ dom ok' w (xs.map (Hz b)) vs
 |[],[],_=>trivial
 |x::xs,v::vs,hr=>by
  refine⟨?_,sk hb h hr.2⟩
  cases x with
  |one c=>exact r8 (c:=c) hb h hr.1
  |unk=>trivial
  |agg cs=>trivial
  |aB ys=>trivial
 |[],_::_,hr=>hr.elim
 |_::_,[],hr=>hr.elim
theorem AW {dom:Nat→Prop}{ρ:Nat→Loc}{ok ok':Nat→Prop}{w:World}{b:Nat}(hb:dom b)(h:∀g,ok g→ok' g){x:V}{v:Value}(hr:cE (fun _=>ρ b) (fun i=>i=0) ok w x v):cE ρ dom ok' w (vd b x) v:=by
 cases x with
 |one c=>exact r8 (c:=c) hb h hr
 |unk=>trivial
 |agg cs=>trivial
 |aB xs=>
  obtain⟨vs,h1,h2⟩:=hr;exact⟨vs,h1,sk hb h h2⟩
theorem aS.Ot (h:aS G dom ρ s a w){b:Nat}{B:Bk}(hl:lo s.own b=some ⟨B,true⟩){ids:List Nat}(T7:b∉ids){w':World}(hm:ye (ρ b) w w'){B':Bk}(hp:B'.plain)(hlen:B'.len=B.len)
  (SK:aM bm bo (Ge (cS G s.own ρ w ids) w w') w' (ρ b) B'):
  aS G dom ρ {s with own:=eD (Eng.dG s.own ids) b ⟨B',true⟩} a w'∧∀g,Ge (cS G s.own ρ w ids) w w' g→aI G (eD (Eng.dG s.own ids) b ⟨B',true⟩) ρ w' g:=by
 obtain⟨hd,XJ,Ws,Yf⟩:=h.own b _ hl;have S7:∀b2 B2,b2≠b→lo (Eng.dG s.own ids) b2=some B2→∃B3,lo s.own b2=some B3∧B2.bk=B3.bk∧(B2.rw=true→B3.rw=true∧b2∉ids):=by
  intro b2 B2 _ h2;rw[fH]at h2
  cases h3:lo s.own b2 with
  |none=>rw[h3]at h2;simp at h2
  |some B3=>
   rw[h3]at h2;simp only[Option.map_some,Q6]at h2
   by_cases hm:ids.contains b2=true
   ·rw[if_pos hm]at h2;subst h2;exact⟨B3,rfl,rfl,fun h=>by simp at h⟩
   rw[if_neg hm]at h2;subst h2;exact⟨B3,rfl,rfl,fun h=>⟨h,by simpa using hm⟩⟩
 have Tc:∀g,Ge (cS G s.own ρ w ids) w w' g→aI G (eD (Eng.dG s.own ids) b ⟨B',true⟩) ρ w' g:=by
  have step:∀g,g<w'.heap.size→¬G.forb g→(∀o,(ρ b).addr≠some (g,o))→(∀b2 B2,b2≠b→lo (Eng.dG s.own ids) b2=some B2→B2.rw=true→∀o2,(ρ b2).addr≠some (g,o2))→aI G (eD (Eng.dG s.own ids) b ⟨B',true⟩) ρ w' g:=by
   intro g h1 h2 h3 h4;refine⟨h1,h2,fun b2 B2 SJ S2 o2=>?_⟩;rw[b9]at SJ
   by_cases SX:b2=b
   ·subst SX;exact h3 o2
   rw[if_neg SX]at SJ;exact h4 b2 B2 SX SJ S2 o2
  rintro g ((h3|⟨b1,SX,B2,o',Uh,To⟩)|⟨h3,h4⟩)
  ·refine step g (Nat.lt_of_lt_of_le h3.1 hm.size) h3.2.1 (h3.2.2 b _ hl rfl) fun b2 B2 SW h2 S2 o2=>?_;obtain⟨B3,h5,_,h6⟩:=S7 b2 B2 SW h2;exact h3.2.2 b2 B3 h5 (h6 S2).1 o2
  ·obtain⟨_,_,_,h4⟩:=h.own b1 B2 Uh;obtain⟨h5,h6,_⟩:=h4 g o' To;have hne1:b≠b1:=fun e=>T7 (e▸SX);refine step g (Nat.lt_of_lt_of_le h5 hm.size) h6 (fun o he=>h.inj b _ b1 B2 hl Uh hne1 rfl g o o' he To) fun b2 B3 SW h2 S2 o2 he=>?_;obtain⟨B4,h7,_,h8⟩:=S7 b2 B3 SW h2;obtain⟨h9,U1⟩:=h8 S2;exact h.inj b2 B4 b1 B2 h7 Uh (fun e=>U1 (e▸SX)) h9 g o2 o' he To
  refine step g h4 (fun hf=>absurd (h.wf _ hf) (by have:=h.size;omega)) (fun o he=>absurd (Yf g o he).1 (by omega)) fun b2 B2 SW h2 S2 o2 he=>?_;obtain⟨B3,h5,_,_⟩:=S7 b2 B2 SW h2;exact absurd ((h.own b2 B3 h5).2.2.2 g o2 he).1 (by omega)
 have SR:Ext (aI G s.own ρ w) (aI G (eD (Eng.dG s.own ids) b ⟨B',true⟩) ρ w') w w':=
  ⟨fun g hg=>⟨Tc g (.inl (.inl hg)),hm.block g hg.1 (hg.2.2 b _ hl rfl)⟩,hm.room⟩
 have hs:iC dom dom ρ ρ:=⟨fun _ h=>h,fun _ _=>rfl⟩;refine⟨h.sA SR hs ?_ ?_ hm.os hm.tape hm.output hm.size ?_,Tc⟩
 ·intro b2 B2 SJ;rw[b9]at SJ
  by_cases SX:b2=b
  ·subst SX;rw[if_pos rfl]at SJ;obtain rfl:=Option.some.inj SJ;exact⟨hd,by rw[XJ];exact hlen.symm,SK.gH hp Tc,fun g o ha=>⟨Nat.lt_of_lt_of_le (Yf g o ha).1 hm.size,(Yf g o ha).2⟩⟩
  rw[if_neg SX]at SJ;obtain⟨B3,h5,h6,_⟩:=S7 b2 B2 SX SJ;obtain⟨h7,h8,h9,U1⟩:=h.own b2 B3 h5;rw[h6];exact⟨h7,h8,aM.ext SR hs _ _ (fun g o ha=>hm.block g (U1 g o ha).1 fun o2 he=>h.inj b _ b2 B3 hl h5 (fun e=>SX e.symm) rfl g o2 o he ha) h9,fun g o ha=>⟨Nat.lt_of_lt_of_le (U1 g o ha).1 hm.size,(U1 g o ha).2⟩⟩
 ·have VP:∀b2 B2,lo (eD (Eng.dG s.own ids) b ⟨B',true⟩) b2=some B2→∃B3,lo s.own b2=some B3∧(B2.rw=true→B3.rw=true):=by
   intro b2 B2 SJ;rw[b9]at SJ
   by_cases SX:b2=b
   ·subst SX;exact⟨_,hl,fun _=>rfl⟩
   rw[if_neg SX]at SJ;obtain⟨B3,h5,_,h7⟩:=S7 b2 B2 SX SJ;exact⟨B3,h5,fun h=>(h7 h).1⟩
  intro b1 B1 b2 B2 Uh SJ SW S2;obtain⟨B3,h5,h6⟩:=VP b1 B1 Uh;obtain⟨B4,h7,_⟩:=VP b2 B2 SJ;exact h.inj b1 B3 b2 B4 h5 h7 SW (h6 S2)
 intro k hk hmine;refine hm.block k (Nat.lt_of_lt_of_le hk h.size) fun o he=>?_
 rcases(Yf k o he).2.2 with h1|h1
 ·omega
 exact hmine h1
end
def LB (b:Nat)(raw:List V):List Nat:=(raw.map kP).flatten.filter (fun b'=>b' !=b)
def PE (s:St)(dst:Option Tmp)(b:Nat)(raw:List V)(r:V)(B':Bk):St:={s.put dst (vd b r)with own:=eD (dG s.own (LB b raw)) b ⟨B',true⟩}
def zl (c:Option C)(v u:Value):Value:=match c with
 |some _=>.tuple #[v,u]
 |none=>v
def uw (P:Program)(f:FuncId)(args:List V)(n:Nat)(g:Nat→Nat→C)(B:Bk)(c:Option C):Prop:=
 (∀c',c=some c'→ni c')∧gY P f∧B.flat∧∀(ok:Nat→Prop) (w:World) (vs:Array Value),(∀g,ok g→g<w.heap.size)→a8 bm bo ok w args vs.toList→
  Calls P f vs w fun e w'=>∃v u l1 l2,e= .returned (zl c v u)∧Go.RowKit.Below w.heap.size w w'∧l1.len=n∧l2.len=B.len∧
   (∀g o,l1.addr=some (g,o)→w.heap.size≤g∧g<w'.heap.size)∧(∀g o,l2.addr=some (g,o)→w.heap.size≤g∧g<w'.heap.size)∧(∀g o o',l1.addr=some (g,o)→l2.addr≠some (g,o'))∧
   aM bm bo (fun g=>ok g∨(w.heap.size≤g∧g<w'.heap.size∧∀o,l1.addr≠some (g,o)∧l2.addr≠some (g,o))) w' l2 B∧
   (∀(ρ:Nat→Loc) (dom ok':Nat→Prop) (b b2:Nat),ρ b=l1→ρ b2=l2→dom b→dom b2→(∀g,(ok g∨(w.heap.size≤g∧g<w'.heap.size∧∀o,l1.addr≠some (g,o)∧l2.addr≠some (g,o)))→ok' g)→
    aM ρ dom ok' w' l1 (.wins 0 b2 n (g b2))∧aF ρ dom ok' w' (.win b b2 0 n) v)∧∀c',c=some c'→aF bm bo (fun _=>False) w' c' u
def Il (c:Option C)(x:C):V:=match c with
 |some c=>.aB [.one x,.one c]
 |none=>.one x
def Jm (raw:List V):List Nat:=(raw.map kP).flatten
def PG (s:St)(dst:Option Tmp)(raw:List V)(n:Nat)(g:Nat→Nat→C)(B:Bk)(c:Option C):St:=
 {s.put dst (Il c (.win s.nx (s.nx+1) 0 n))with own:=eD (eD (dG s.own (Jm raw)) s.nx ⟨.wins 0 (s.nx+1) n (g (s.nx+1)),true⟩) (s.nx+1) ⟨B,true⟩,nx:=s.nx+2}
def yd (P:Program)(f:FuncId)(raw:List V)(s:St)(dst:Option Tmp)(K:St→Prop):Prop:=
 (∃b B R,lo s.own b=some ⟨B,true⟩∧B.plain∧Mc P f (raw.map (JA b s.own s.nx)) B R∧∀r B',R r B'→B'.len=B.len→eQ K (PE s dst b raw r B'))∨
 (∃n g B c,uw P f (raw.map (Cw s.own s.nx)) n g B c∧eQ K (PG s dst raw n g B c))
theorem Px {P:Program}{f:FuncId}{s:St}{dst:Option Tmp}{K:St→Prop}{raw:List V}{n:Nat}{g:Nat→Nat→C}{B:Bk}{c0:Option C}(hF:uw P f (raw.map (Cw s.own s.nx)) n g B c0)(hK:K (PG s dst raw n g B c0))(hd:∀d,dst=some d→d<s.n)
  {G:Ctx} {a:Act} {w:World} {ρ:Nat→Loc} (hs:aS G (fun b=>b<s.nx) ρ s a w) {vs:Array Value} (Ti:a8 bm bo (cS G s.own ρ w (Jm raw)) w (raw.map (Cw s.own s.nx)) vs.toList):
  Calls P f vs w fun e w'=>∃v,e= .returned v∧∃s',K s'∧oT G s' (a.put dst v) w':=by
 obtain⟨XD,TE,WG,hF⟩:=hF;have o:Oper:=default
 let ids:=Jm raw
 have SI:∀g,cS G s.own ρ w ids g→g<w.heap.size:=by
  rintro g (h1|⟨b,_,B,o',hl,To⟩)
  ·exact h1.1
  exact((hs.own b B hl).2.2.2 g o' To).1
 refine Calls.mono (hF _ w _ SI Ti) fun e w' he=>?_;obtain⟨v,u,l1,l2,rfl,hb,Uh,SJ,hn1,Xp,hdj,SK,hwin,hu⟩:=he;refine⟨_,rfl,_,hK,?_⟩;have h2:=hs.dG ids
 let WS:=eD (eD (dG s.own ids) s.nx ⟨.wins 0 (s.nx+1) n (g (s.nx+1)),true⟩) (s.nx+1) ⟨B,true⟩
 let ρ2:=a6 (a6 ρ s.nx l1) (s.nx+1) l2
 have Vc:ρ2 s.nx=l1:=by show a6 _ _ _ _=_;rw[aW _ _ (by omega),mq]
 have Vy:ρ2 (s.nx+1)=l2:=mq ..;have Wo:∀b B3,lo WS b=some B3→(ρ2 b=l2)∨(ρ2 b=l1)∨(lo (dG s.own ids) b=some B3∧ρ2 b=ρ b):=by
  intro b B3 hl;rw[b9]at hl
  by_cases h1:b=s.nx+1
  ·exact .inl (by rw[h1];exact Vy)
  rw[if_neg h1,b9]at hl
  by_cases h3:b=s.nx
  ·exact .inr (.inl (by rw[h3];exact Vc))
  rw[if_neg h3]at hl;exact .inr (.inr ⟨hl,by show a6 _ _ _ _=_;rw[aW _ _ h1,aW _ _ h3]⟩)
 have Tc:∀g,(cS G s.own ρ w ids g∨(w.heap.size≤g∧g<w'.heap.size∧∀o,l1.addr≠some (g,o)∧l2.addr≠some (g,o)))→aI G WS ρ2 w' g:=by
  have step:∀g,g<w'.heap.size→¬G.forb g→(∀o,l1.addr≠some (g,o)∧l2.addr≠some (g,o))→(∀b2 B2,lo (dG s.own ids) b2=some B2→B2.rw=true→∀o2,(ρ b2).addr≠some (g,o2))→aI G WS ρ2 w' g:=by
   intro g h1 h2 h3 h4;refine⟨h1,h2,fun b2 B2 SJ S2 o2=>?_⟩
   rcases Wo b2 B2 SJ with e|e|⟨e1,e⟩<;>rw [e]
   ·exact(h3 o2).2
   ·exact(h3 o2).1
   exact h4 b2 B2 e1 S2 o2
  rintro g ((h3|⟨b,SX,B2,o',hl,To⟩)|⟨h3,h4,h5⟩)
  ·exact step g (Nat.lt_of_lt_of_le h3.1 hb.size) h3.2.1 (fun o=>⟨fun he=>absurd h3.1 (by have:=(hn1 g o he).1;omega),fun he=>absurd h3.1 (by have:=(Xp g o he).1;omega)⟩) (kK h3).2.2
  ·obtain⟨_,_,_,h4⟩:=hs.own b B2 hl;obtain⟨h5,h6,_⟩:=h4 g o' To;refine step g (Nat.lt_of_lt_of_le h5 hb.size) h6 (fun o=>⟨fun he=>absurd h5 (by have:=(hn1 g o he).1;omega),fun he=>absurd h5 (by have:=(Xp g o he).1;omega)⟩) fun b2 B3 SJ S2 o2 S9=>?_;rw[fH]at SJ
   cases Tn:lo s.own b2 with
   |none=>rw[Tn]at SJ;simp at SJ
   |some B4=>
    rw[Tn]at SJ;simp only[Option.map_some,Q6]at SJ
    by_cases hm:ids.contains b2=true
    ·rw[if_pos hm]at SJ;subst SJ;simp at S2
    rw[if_neg hm]at SJ;subst SJ
    by_cases UX:b2=b
    ·subst UX;exact hm (by simpa using SX)
    exact hs.inj b2 B4 b B2 Tn hl UX S2 g o2 o' S9 To
  refine step g h4 (fun hf=>absurd (hs.wf _ hf) (by have:=hs.size;omega)) h5 fun b2 B2 SJ _ o2 S9=>?_;rw[fH]at SJ
  cases Tn:lo s.own b2 with
  |none=>rw[Tn]at SJ;simp at SJ
  |some B3=>exact absurd ((hs.own b2 B3 Tn).2.2.2 g o2 S9).1 (by omega)
 let XK:Nat→Prop:=fun b=>(b<s.nx∨b=s.nx)∨b=s.nx+1
 obtain⟨Yh,XL⟩:=hwin ρ2 XK (aI G WS ρ2 w') s.nx (s.nx+1) Vc Vy (.inl (.inr rfl)) (.inr rfl) Tc;have h3:=h2.Kv hb (i:=s.nx) (j:=s.nx+1) (Nat.lt_irrefl _) (by omega) (by omega) (.wins 0 (s.nx+1) n (g (s.nx+1))) B l1 l2 Uh SJ hn1 Xp hdj Yh
  (aM.ext (dom:=bo) (ρ:=bm) (Ext.dy Tc) ⟨fun b hb=>hb.elim,fun b hb=>hb.elim⟩ _ _ (fun _ _ _=>rfl) SK)
 have Z1:cE ρ2 XK (aI G WS ρ2 w') w' (Il c0 (.win s.nx (s.nx+1) 0 n)) (zl c0 v u):=by
  cases c0 with
  |none=>exact XL
  |some c=>
   have h1:=XD c rfl;have h2:=hu c rfl
   exact⟨_,rfl,XL,(by cases c<;>first|exact h1.elim|exact h2),trivial⟩
 have h4:=h3.put (dst:=dst) (x:=Il c0 (.win s.nx (s.nx+1) 0 n)) (v:=zl c0 v u) hd Z1;refine⟨ρ2,?_⟩;have e2:aS G XK ρ2 (PG s dst raw n g B c0) (a.put dst (zl c0 v u)) w':=by
  obtain⟨q1,q2,q3,q4,q5,q6,q7,q8,q9,q10,q11,q12,q13⟩:=h4
  cases dst
  ·exact⟨q1,q2,q3,q4,q5,q6,q7,q8,q9,q10,q11,q12,q13⟩
  exact⟨q1,q2,q3,q4,q5,q6,q7,q8,q9,q10,q11,q12,q13⟩
 have e3:XK=fun b=>b<(PG s dst raw n g B c0).nx:=by
  funext b
  show((b<s.nx∨b=s.nx)∨b=s.nx+1)=(b<s.nx+2)
  exact propext ⟨fun h=>by omega,fun h=>by omega⟩
 rw[e3]at e2;exact e2
def oK (P:Program)(op:Op)(dst:Option Tmp)(s:St)(K:St→Prop):Prop:=
 match op with
 |.call c=>match c.callee with
  |.value g=>match s.ev g with
   |.one (.fn f n _)=>n=0∧yd P f (c.args.toList.map s.ev) s dst K
   |_=>False
  |_=>False
 |_=>False
theorem H0 {P:Program}{o:Oper}{s:St}{K:St→Prop}(hd:bY o s.n)(h:oK P o.op o.dst s K):mY P o s K:=by
 unfold oK at h
 split at h
 ·rename_i c ho
  split at h
  ·rename_i g hc
   split at h
   ·rename_i f n caps hg
    obtain⟨rfl,h⟩:=h;intro G a w SP Q next hk;obtain⟨ρ,hs⟩:=SP;have V0:=hs.ev g;rw[hg]at V0;obtain⟨cs,V0,Th,_⟩:=V0;obtain rfl:cs= #[]:=Array.eq_empty_of_size_eq_zero Th;have SO:gY P f→(execOp a.eval o).run P w= .ok (.enter f (c.args.map a.eval)) w:=by
     intro TE;unfold execOp;rw[ho];simp only[resolve,hc,Sem.run_bind,V0,Deferred.ofValue,Sem.run_pure,Q7,invoke]
     have:=lP (w:=w) TE (c.args.map a.eval)
     simpa using this
    rcases h with⟨b,B,R,hl,UC,⟨TE,hmut⟩,hK⟩|⟨n0,g0,B,c0,hF,hK⟩
    rotate_left
    ·unfold Oper.wp;rw[SO hF.2.1,Oper.upon_enter];refine Calls.mono (Px hF hK (dst:=o.dst) hd hs (vs:=c.args.map a.eval) ?_) fun e w' he=>?_
     ·rw[Array.toList_map]
      have:=a8.mS (ρ:=bm) (dom:=bo) (ok:=cS G s.own ρ w (Jm (c.args.toList.map s.ev))) (w:=w) (fun x=>Cw s.own s.nx (s.ev x)) a.eval c.args.toList fun x hx=>
       n8 hs (iO.refl s s.nx o) _ _ _ (fun b' Tq _=>List.mem_flatten.2 ⟨_,List.mem_map.2 ⟨s.ev x,List.mem_map.2 ⟨x,hx,rfl⟩,rfl⟩,Tq⟩) (hs.ev x)
      simpa[List.map_map,Function.comp_def]using this
     obtain⟨v,rfl,s',h1,h2⟩:=he;exact hk _ _ _ h1 h2
    unfold Oper.wp;rw[SO TE,Oper.upon_enter]
    let raw:=c.args.toList.map s.ev
    let ids:=LB b raw
    have T7:b∉ids:=by simp[ids,LB]
    obtain⟨X9,XJ,Ws,Yf⟩:=hs.own b _ hl;have SI:∀g,cS G s.own ρ w ids g→g<w.heap.size:=by
     rintro g (h1|⟨b,_,B,o',hl,To⟩)
     ·exact h1.1
     exact((hs.own b B hl).2.2.2 g o' To).1
    have XM:∀g o1,(ρ b).addr=some (g,o1)→g<w.heap.size∧¬cS G s.own ρ w ids g:=by
     intro g o1 ha;refine⟨(Yf g o1 ha).1,?_⟩
     rintro(h1|⟨b1,Vs,B1,o',Uh,To⟩)
     ·exact h1.2.2 b _ hl rfl o1 ha
     exact hs.inj b _ b1 B1 hl Uh (fun e=>T7 (e▸Vs)) rfl g o1 o' ha To
    have SL:a8 (fun _=>ρ b) (fun i=>i=0) (cS G s.own ρ w ids) w (raw.map (JA b s.own s.nx)) (c.args.map a.eval).toList:=by
     rw[Array.toList_map]
     have:=a8.mS (ρ:=fun _=>ρ b) (dom:=fun i=>i=0) (ok:=cS G s.own ρ w ids) (w:=w) (fun x=>JA b s.own s.nx (s.ev x)) a.eval c.args.toList fun x hx=>by
      refine we hs b ids _ _ (fun b' Tq SW=>?_) (hs.ev x);refine List.mem_filter.2 ⟨List.mem_flatten.2 ⟨_,List.mem_map.2 ⟨s.ev x,List.mem_map.2 ⟨x,hx,rfl⟩,rfl⟩,Tq⟩,by simpa using SW⟩
     simpa[raw,List.map_map,Function.comp_def]using this
    have XN:aM bm bo (cS G s.own ρ w ids) w (ρ b) B:=Ws.gH UC fun g hg=>.inl hg;refine Calls.mono (hmut _ w _ (ρ b) SI XJ XM XN SL) fun e w' he=>?_;obtain⟨v,r,B',rfl,hR,Xq,Yi,hm,SK,SV⟩:=he;obtain⟨WT,Tc⟩:=hs.Ot hl T7 hm Xq Yi SK;refine hk _ _ _ (hK r B' hR Yi) ⟨ρ,?_⟩;have UP:cE ρ (fun i=>i<s.nx) (aI G (eD (dG s.own ids) b ⟨B',true⟩) ρ w') w' (vd b r) v:=AW (dom:=fun i=>i<s.nx) X9 Tc SV;have h4:=WT.put (dst:=o.dst) (x:=vd b r) (v:=v) hd UP;have e2:PE s o.dst b raw r B'=St.put {s with own:=eD (dG s.own ids) b ⟨B',true⟩} o.dst (vd b r):=by
     unfold PE St.put
     cases o.dst<;>rfl
    show aS G _ _ (PE s o.dst b raw r B') _ w';rw[e2]
    have TC:(St.put {s with own:=eD (dG s.own ids) b ⟨B',true⟩} o.dst (vd b r)).nx=s.nx:=by cases o.dst<;>rfl
    rw[TC];exact h4
   exact h.elim
  exact h.elim
 exact h.elim
end Go.Eng
namespace Go.Eng
open Go
structure Al (s s':St):Prop where
 env:∀t,lk s.env t=lk s'.env t
 own:∀b,lo s.own b=lo s'.own b
 n:s.n=s'.n
theorem Al.refl (s:St):Al s s:=⟨fun _=>rfl,fun _=>rfl,rfl⟩
theorem Al.trans {a b c:St}(h:Al a b)(k:Al b c):Al a c:=⟨fun t=>(h.env t).trans (k.env t),fun t=>(h.own t).trans (k.own t),h.n.trans k.n⟩
theorem Al.symm {a b:St}(h:Al a b):Al b a:=⟨fun t=>(h.env t).symm,fun t=>(h.own t).symm,h.n.symm⟩
theorem aS.Jl {G:Ctx}{dom:Nat→Prop}{ρ:Nat→Loc}{s s':St}{a:Act}{w:World}(h:aS G dom ρ s a w)(hs:Al s s'):aS G dom ρ s' a w:=by
 have Tc:aI G s'.own ρ w=aI G s.own ρ w:=by
  funext g
  unfold aI;simp only[hs.own]
 exact{
     hd:=h.hd,hn:=h.hn.trans hs.n,env:=fun t=>by rw[Tc,←hs.env t];exact h.env t,own:=fun b B hl=>by rw[Tc];exact h.own b B (by rw[hs.own];exact hl),
     inj:=fun b B b' B' hl TH=>h.inj b B b' B' (by rw[hs.own];exact hl) (by rw[hs.own];exact TH),os:=h.os,tape:=h.tape,output:=h.output,size:=h.size,keep:=h.keep,wf:=h.wf,home:=h.home,room:=h.room}
theorem En (s:St)(dst:Option Tmp)(v:V)(t:Nat):lk (s.put dst v).env t=if dst=some t then v else lk s.env t:=by
 cases dst with
 |none=>simp[St.put]
 |some d=>
  simp only[St.put,Es,Q6]
  by_cases h:t=d
  ·subst h;simp
  rw[if_neg h,if_neg (fun e=>h e.symm)]
theorem kb (s:St)(dst:Option Tmp)(id:Nat)(e:eX)(t:Nat):lk (s.add dst id e).env t=if dst=some t then e.val else lk s.env t:=by
 have:(s.add dst id e).env=(s.put dst e.val).env:=by unfold St.add;split<;>rfl
 rw[this,En]
def gk (fz:List Nat)(b:Nat)(v:fI):fI:=if fz.contains b then⟨v.bk,false⟩else v
theorem pL (s:St)(dst:Option Tmp)(id:Nat)(e:eX)(b:Nat):lo (s.add dst id e).own b=(match e.wz with
  |some B=>if b=id then some ⟨B,true⟩else(lo s.own b).map (gk e.fz b)
  |none=>(lo s.own b).map (gk e.fz b)):=by
 unfold St.add
 cases e.wz with
 |none=>simp only[yC];rw[fH];rfl
 |some B=>simp only[yC,b9];split<;>first|rfl|(rw[fH];rfl)
theorem DH (s:St)(dst:Option Tmp)(id:Nat)(e:eX):(s.add dst id e).n=s.n:=by
 unfold St.add;split<;>(cases dst<;>rfl)
theorem Al.add {s s':St}(h:Al s s')(dst:Option Tmp)(id:Nat)(e:eX):Al (s.add dst id e) (s'.add dst id e):=
 ⟨fun t=>by rw[kb,kb,h.env],fun b=>by rw[pL,pL,h.own],by rw[DH,DH,h.n]⟩
theorem E7 (s:St){d1 d2:Option Tmp}{i1 i2:Nat}{e1 e2:eX}(hd:∀t,d1=some t→d2≠some t)(hi:i1≠i2)(h1:∀b∈e1.fz,b≠i2)(h2:∀b∈e2.fz,b≠i1):
  Al ((s.add d1 i1 e1).add d2 i2 e2) ((s.add d2 i2 e2).add d1 i1 e1):=by
 refine⟨fun t=>?_,fun b=>?_,by simp only[DH]⟩
 ·simp only[kb]
  by_cases h:d1=some t
  ·rw[if_pos h,if_neg (hd t h),if_pos h]
  rw[if_neg h,if_neg h]
 simp only[pL];have hc:∀(v:fI),gk e2.fz b (gk e1.fz b v)=gk e1.fz b (gk e2.fz b v):=fun v=>by
  unfold gk;split<;>split<;>rfl
 have V3:(lo s.own b).map (gk e2.fz b∘gk e1.fz b)=(lo s.own b).map (gk e1.fz b∘gk e2.fz b):=by
  congr 1;funext v;exact hc v
 have n1:b=i2→∀B:Bk,(some (⟨B,true⟩:fI)).map (gk e1.fz b)=some ⟨B,true⟩:=fun hb B=>by
  subst hb;simp only[Option.map_some,gk];rw[if_neg (fun hc=>h1 b (by simpa using hc) rfl)]
 have n2:b=i1→∀B:Bk,(some (⟨B,true⟩:fI)).map (gk e2.fz b)=some ⟨B,true⟩:=fun hb B=>by
  subst hb;simp only[Option.map_some,gk];rw[if_neg (fun hc=>h2 b (by simpa using hc) rfl)]
 cases e1.wz with
 |none=>
  cases e2.wz with
  |none=>simp only[Option.map_map];exact V3
  |some B2=>
   simp only
   by_cases hb:b=i2
   ·rw[if_pos hb,if_pos hb,n1 hb]
   rw[if_neg hb,if_neg hb];simp only[Option.map_map];exact V3
 |some B1=>
  cases e2.wz with
  |none=>
   simp only
   by_cases hb:b=i1
   ·rw[if_pos hb,if_pos hb,n2 hb]
   rw[if_neg hb,if_neg hb];simp only[Option.map_map];exact V3
  |some B2=>
   simp only
   by_cases hb:b=i1
   ·rw[if_pos hb,if_neg (fun e=>hi (hb.symm.trans e)),if_pos hb,n2 hb]
   by_cases Tr:b=i2
   ·rw[if_pos Tr,if_neg hb,if_pos Tr,n1 Tr]
   rw[if_neg Tr,if_neg hb,if_neg hb,if_neg Tr];simp only[Option.map_map];exact V3
def eX.skip:eX:=⟨.aB [],none,[]⟩
def gv:V→Option (Option Bool)
 |.one (.bool b)=>some (some b)
 |.aB []=>some none
 |_=>none
def l9 (P:Program)(ops:Array Oper)(nx0 i:Nat)(o:Oper)(s:St)(e:eX):Prop:=
 bY o s.n∧match o.guard with
 |none=>a7 P o s nx0 (nx0+i) e
 |some (g,want)=>∃t b,(ops[g]?).bind (·.dst)=some t∧gv (lk s.env t)=some b∧(if b=some want then a7 P o s nx0 (nx0+i) e else e=eX.skip)
def bt (ops:Array Oper)(k:Nat):Option Tmp:=(ops[k]?).bind (·.dst)
def aL (σ:St)(nx0:Nat)(ops:Array Oper)(e:Nat→eX)(L:Nat→Bool):Nat→St
 |0=>σ
 |k+1=>if L k then(aL σ nx0 ops e L k).add (bt ops k) (nx0+k) (e k)else aL σ nx0 ops e L k
section
variable {σ:St}{nx0:Nat}{ops:Array Oper}{e:Nat→eX}
theorem fV (L:Nat→Bool)(k:Nat):(aL σ nx0 ops e L k).n=σ.n:=by
 induction k with
 |zero=>rfl
 |succ k ih=>simp only[aL];split<;>simp only[DH,ih]
theorem cQ {L L':Nat→Bool}(k:Nat)(h:∀j,j<k→L j=L' j):aL σ nx0 ops e L k=aL σ nx0 ops e L' k:=by
 induction k with
 |zero=>rfl
 |succ k ih=>simp only[aL,h k (Nat.lt_succ_self k),ih (fun j hj=>h j (Nat.lt_succ_of_lt hj))]
theorem nD {N:Nat}{L:Nat→Bool}{i:Nat}(hi:L i=false)(TS:∀j k t,j<N→k<N→j≠k→bt ops j=some t→bt ops k=some t→False)(Up:∀j,∀b∈(e j).fz,b<nx0):
  ∀k,k≤N→i<k→Al (aL σ nx0 ops e (fun j=>L j||j==i) k) ((aL σ nx0 ops e L k).add (bt ops i) (nx0+i) (e i)):=by
 intro k
 induction k with
 |zero=>intro _ h;omega
 |succ k ih=>
  intro Zn Vd
  by_cases hk:i=k
  ·subst hk;simp only[aL,beq_self_eq_true,Bool.or_true,if_true,hi,Bool.false_eq_true,if_false]
   rw[cQ (L:=fun j=>L j||j==i) (L':=L) i (fun j hj=>by simp;omega)]
   exact Al.refl _
  have ih':=ih (by omega) (by omega);have SW:(k==i)=false:=by simp;omega
  simp only[aL,SW,Bool.or_false]
  by_cases hL:L k=true
  ·simp only[hL,if_true];exact(ih'.add _ _ _).trans (E7 _ (fun t h1 h2=>TS i k t (by omega) (by omega) hk h1 h2) (by omega) (fun b hb h=>by have:=Up i b hb;omega) (fun b hb h=>by have:=Up k b hb;omega))
  simp only[hL,Bool.false_eq_true,if_false];exact ih'
theorem oz (L:Nat→Bool)(t:Nat):∀k,(∀j,j<k→bt ops j≠some t)→lk (aL σ nx0 ops e L k).env t=lk σ.env t:=by
 intro k
 induction k with
 |zero=>intro _;rfl
 |succ k ih=>
  intro h;simp only[aL]
  split
  ·rw[kb,if_neg (h k (Nat.lt_succ_self k))];exact ih (fun j hj=>h j (Nat.lt_succ_of_lt hj))
  exact ih (fun j hj=>h j (Nat.lt_succ_of_lt hj))
theorem dA {N:Nat}(L:Nat→Bool){t j:Nat}(hj:bt ops j=some t)(hL:L j=true)(TS:∀j k t,j<N→k<N→j≠k→bt ops j=some t→bt ops k=some t→False):
  ∀k,k≤N→j<k→lk (aL σ nx0 ops e L k).env t=(e j).val:=by
 intro k
 induction k with
 |zero=>intro _ h;omega
 |succ k ih=>
  intro Zn h;simp only[aL]
  by_cases We:j=k
  ·subst We;rw[if_pos hL,kb];exact if_pos hj
  have ih':=ih (by omega) (by omega)
  split
  ·rw[kb,if_neg (fun h2=>TS j k t (by omega) (by omega) We hj h2)];exact ih'
  exact ih'
theorem jj (L:Nat→Bool):∀k b,b<nx0→(lo (aL σ nx0 ops e L k).own b).map (·.bk)=(lo σ.own b).map (·.bk):=by
 intro k
 induction k with
 |zero=>intro b _;rfl
 |succ k ih=>
  intro b hb;simp only[aL]
  split
  ·rw[pL];have hm:((lo (aL σ nx0 ops e L k).own b).map (gk (e k).fz b)).map (·.bk)=(lo σ.own b).map (·.bk):=by
    rw[←ih b hb,Option.map_map]
    congr 1
    funext v
    simp only[Function.comp,gk]
    split<;>rfl
   cases(e k).wz with
   |none=>exact hm
   |some B=>simp only;rw[if_neg (by omega)];exact hm
  exact ih b hb
end
def Hn (P:Program)(ops:Array Oper)(o:Oper)(s:St)(K:St→Prop):Prop:=
 match o.guard with
 |none=>mY P o s K
 |some (g,want)=>∃t b,bt ops g=some t∧gv (lk s.env t)=some b∧(b=some want→mY P o s K)∧(b≠some want→K (s.put o.dst (.aB [])))
def vE (P:Program)(ops:Array Oper):List Oper→St→(St→Prop)→Prop
 |[],s,K=>K s
 |o::os,s,K=>bY o s.n∧Hn P ops o s (fun s'=>vE P ops os s' K)
theorem E5 {a:Array Value}{t:Nat}{b:Bool}(h:a.getD t undef= .bool b):a[t]? =some (.bool b):=by
 rw[Array.getD_eq_getD_getElem?]at h
 cases ha:a[t]? with
 |none=>rw[ha]at h;cases h
 |some v=>rw[ha]at h;simpa using h
theorem nE {G:Ctx}{dom:Nat→Prop}{ρ:Nat→Loc}{s:St}{a:Act}{w:World}(hs:aS G dom ρ s a w){ops:Array Oper}{o:Oper}{g:Nat}{want:Bool}{b:Option Bool}{t:Nat}(hg:o.guard=some (g,want))(ht:bt ops g=some t)
  (hb:gv (lk s.env t)=some b):Region.wanted o (yielded ops a.tmps)=(b==some want):=by
 have SN:=hs.env t;have hd:(ops[g]?).bind (·.dst)=some t:=ht;have hy:yielded ops a.tmps g=b:=by
  unfold gv at hb
  split at hb
  ·rename_i b' he
   obtain rfl:=Option.some.inj hb;rw[he]at SN;have SN:a.tmps.getD t undef= .bool b':=SN;unfold yielded;simp only[hd,Option.bind_some,E5 SN]
  ·rename_i he
   obtain rfl:=Option.some.inj hb;rw[he]at SN;obtain⟨vs,hv,_⟩:=SN;unfold yielded;simp only[hd,Option.bind_some]
   cases ha:a.tmps[t]? with
   |none=>rfl
   |some v=>
    rw[Array.getD_eq_getD_getElem?,ha]at hv;simp only[Option.getD_some]at hv;rw[hv]
  cases hb
 unfold Region.wanted;simp only[hg,hy]
theorem il {o:Oper}{y:Nat→Option Bool}(hg:o.guard=none):Region.wanted o y=true:=by unfold Region.wanted;rw[hg]
theorem Hn.step {P:Program}{ops:Array Oper}{i:Nat}{o:Oper}(ho:ops[i]? =some o){s:St}{K:St→Prop}(h:Hn P ops o s K)(hd:bY o s.n){G:Ctx}{a:Act}{w:World}(hs:oT G s a w){Q:Exit→Act→World→Prop}{next:Act→World→Prop}
  (hk:∀s' a' w',K s'→oT G s' a' w'→next a' w'):wpOp P ops Q i next a w:=by
 unfold wpOp;simp only[ho];unfold Hn at h
 split at h
 ·rename_i hg
  rw[il hg,if_pos rfl];exact .inl (h G a w hs Q next hk)
 rename_i g want hg
 obtain⟨t,b,ht,hb,h1,h2⟩:=h;obtain⟨ρ,hr⟩:=hs;rw[nE hr hg ht hb]
 by_cases TL:b=some want
 ·rw[if_pos (by simp[TL])];exact .inl (h1 TL G a w ⟨ρ,hr⟩ Q next hk)
 rw[if_neg (by simpa using TL)]
 have:=hr.put (dst:=o.dst) (x:=.aB []) (v:=undef) hd ⟨#[],rfl,trivial⟩
 refine hk _ _ _ (h2 TL) ⟨ρ,?_⟩
 cases TS:o.dst with
 |none=>rw[TS]at this;exact this
 |some d=>rw[TS]at this;exact this
theorem a7.Q9 {P:Program}{o:Oper}{s:St}{e:eX}{K:St→Prop}(h:a7 P o s s.nx s.nx e)(hK:K {s.add o.dst s.nx e with nx:=s.nx+1}):mY P o s K:=by
 intro G a w SP Q next hk;obtain⟨ρ,hs⟩:=SP;refine h.1 G (fun b=>b<s.nx) ρ s a w hs (Nat.lt_irrefl _) (iO.refl _ _ _) Q next fun v w' U2=>?_;refine hk _ _ _ hK ?_;obtain⟨ρ',h1⟩:=U2
 have h2:=h1.cU (dom':=fun b=>b<s.nx+1) (fun b hb=>by rcases hb with hb|hb<;>omega)
 exact⟨ρ',h2.Jl ⟨fun _=>rfl,fun _=>rfl,rfl⟩⟩
def df (ops:Array Oper)(i:Nat):List Nat:=
 match ops[i]? with
 |some o=>(o.after.toList.filter (Region.binds .any)).map (·.on)
 |none=>[]
def ff (ops:Array Oper):Nat→Nat→Nat→Bool
 |0,_,_=>false
 |n+1,i,j=>(df ops i).contains j||(df ops i).any (fun p=>ff ops n p j)
def tmpsOf (o:Oper):List Tmp:=o.op.operands.toList.filterMap fun|.tmp t=>some t|_=>none
def oh (ops:Array Oper)(nR i:Nat)(o:Oper):Bool:=
 ((tmpsOf o).all fun t=>(List.range nR).all fun j=>bt ops j !=some t||(decide (j<i)&&(df ops i).contains j))&&
 (
  match o.guard with
  |none=>true
  |some (g,_)=>decide (g<i)&&(df ops i).contains g)&&
 ((List.range nR).all fun j=>j==i||(bt ops j).isNone||bt ops j !=bt ops i)
def tF (ops:Array Oper)(nR:Nat):Bool:=
 decide (nR≤ops.size)&&
 (List.range ops.size).all fun i=>match ops[i]? with
  |none=>false
  |some o=>((df ops i).all fun p=>decide (p<i))&&
   (if i<nR then oh ops nR i o else(List.range i).all fun j=>ff ops ops.size i j)
structure xQ (ops:Array Oper) (nR:Nat):Prop where
 le:nR≤ops.size
 pred:∀i o,ops[i]? =some o→∀p∈df ops i,p<i
 data:∀i o,ops[i]? =some o→i<nR→∀t,t∈tmpsOf o→∀j,j<nR→bt ops j=some t→j<i∧j∈df ops i
 guard:∀i o g want,ops[i]? =some o→i<nR→o.guard=some (g,want)→g<i∧g∈df ops i
 dst:∀j k t,j<nR→k<nR→j≠k→bt ops j=some t→bt ops k=some t→False
 clos:∀i,i<ops.size→nR≤i→∀j,j<i→ff ops ops.size i j=true
theorem ze {ops:Array Oper}{nR:Nat}(h:tF ops nR=true):xQ ops nR:=by
 unfold tF at h;simp only[Bool.and_eq_true,decide_eq_true_eq,List.all_eq_true,List.mem_range]at h;obtain⟨hle,h⟩:=h;have hi:∀i o,ops[i]? =some o→((df ops i).all fun p=>decide (p<i))=true∧(if i<nR then oh ops nR i o else(List.range i).all fun j=>ff ops ops.size i j)=true:=by
  intro i o ho
  have:=h i (Array.getElem?_eq_some_iff.1 ho).1
  rw[ho]at this
  simpa using this
 have hR:∀i o,ops[i]? =some o→i<nR→oh ops nR i o=true:=fun i o ho SI=>by
  have:=(hi i o ho).2
  rw[if_pos SI]at this;exact this
 refine⟨hle,fun i o ho p hp=>?_,fun i o ho SI t ht j hj hd=>?_,fun i o g want ho SI hg=>?_,fun j k t hj hk We h1 h2=>?_,fun i Uk XH j hj=>?_⟩
 ·have:=List.all_eq_true.1 (hi i o ho).1 p hp
  simpa using this
 ·have:=hR i o ho SI
  unfold oh at this;simp only[Bool.and_eq_true,List.all_eq_true,List.mem_range]at this
  have:=this.1.1 t ht j hj
  rw[hd]at this;simp at this;exact this
 ·have:=hR i o ho SI
  unfold oh at this;simp only[Bool.and_eq_true]at this
  have:=this.1.2
  rw[hg]at this
  simpa using this
 ·have XG:k<ops.size:=by omega
  have:=hR k ops[k] (Array.getElem?_eq_getElem XG) hk
  unfold oh at this;simp only[Bool.and_eq_true,List.all_eq_true,List.mem_range]at this
  have:=this.2 j hj
  rw[h1,h2]at this;simp at this;exact We this
 have:=(hi i ops[i] (Array.getElem?_eq_getElem Uk)).2
 rw[if_neg (by omega)]at this;exact List.all_eq_true.1 this j (by simpa using hj)
end Go.Eng
namespace Go.Eng
open Go
section
variable {P:Program}{ops:Array Oper}{nR:Nat}
theorem aZ {listed:Array Bool}{i j:Nat}(hi:i<listed.size):(listed.setIfInBounds i true).getD j false=(listed.getD j false||j==i):=by
 by_cases h:i=j
 ·subst h
  simp[Array.getD,hi]
 rw[getD_set_ne false h]
 simp;intro e;exact absurd e.symm h
theorem fK {listed:Array Bool}(Yj:∀i,listed.getD i false=true→∀p∈df ops i,listed.getD p false=true):∀n i j,(∀p∈df ops i,listed.getD p false=true)→ff ops n i j=true→listed.getD j false=true:=by
 intro n
 induction n with
 |zero=>intro i j _ h;simp[ff]at h
 |succ n ih=>
  intro i j hp h;simp only[ff,Bool.or_eq_true,List.any_eq_true]at h
  rcases h with h|⟨p,Zh,h⟩
  ·exact hp j (by simpa using h)
  exact ih p j (Yj p (hp p Zh)) h
theorem g7 {listed:Array Bool}{i:Nat}(h:i∈Region.ready .any ops listed):(∀p∈df ops i,listed.getD p false=true)∧i<ops.size∧listed.getD i true=false:=by
 obtain⟨h0,o,ho,SM⟩:=mem_ready.1 h;refine⟨fun p hp=>?_,(Array.getElem?_eq_some_iff.1 ho).1,h0⟩;unfold df at hp;rw[ho]at hp;obtain⟨e,he,rfl⟩:=List.mem_map.1 hp;obtain⟨he1,ZI⟩:=List.mem_filter.1 he;exact SM e (by simpa using he1) ZI
theorem mV {listed:Array Bool}{i:Nat}{o:Oper}(ho:ops[i]? =some o)(hu:listed.getD i true=false)(h:∀p∈df ops i,listed.getD p false=true):i∈Region.ready .any ops listed:=by
 refine mem_ready.2 ⟨hu,o,ho,fun e he hb=>h e.on ?_⟩;unfold df;rw[ho];exact List.mem_map.2 ⟨e,List.mem_filter.2 ⟨by simpa using he,hb⟩,rfl⟩
def iG (ops:Array Oper)(listed:Array Bool):Nat:=(List.range ops.size).countP (fun i=>!listed.getD i false)
theorem o8 {listed:Array Bool}{i:Nat}(TN:listed.size=ops.size)(hi:i<ops.size)(hu:listed.getD i true=false):iG ops (listed.setIfInBounds i true)+1=iG ops listed:=by
 unfold iG;have hf:listed.getD i false=false:=by
  have SI:i<listed.size:=by omega
  simp[Array.getD,SI]at hu⊢
  exact hu
 have key:∀l:List Nat,l.Nodup→(l.countP (fun j=>!(listed.setIfInBounds i true).getD j false))+(if i∈l then 1 else 0)=l.countP (fun j=>!listed.getD j false):=by
  intro l
  induction l with
  |nil=>intro _;simp
  |cons x l ih=>
   intro hnd;obtain⟨hx,hnd⟩:=List.nodup_cons.1 hnd;have ih':=ih hnd;simp only[List.countP_cons,aZ (by omega:i<listed.size)]
   by_cases hxi:x=i
   ·subst hxi;rw[if_neg hx]at ih';simp only[hf,beq_self_eq_true,Bool.or_true,Bool.not_true,Bool.false_eq_true,if_false,Bool.not_false,if_true,List.mem_cons,true_or];simp only[aZ (by omega:x<listed.size)]at ih';omega
   have SW:(x==i)=false:=by simpa using hxi
   have WU:(i∈x::l)↔i∈l:=by simp[List.mem_cons];intro e;exact absurd e.symm hxi
   simp only[SW,Bool.or_false];simp only[WU];simp only[aZ (by omega:i<listed.size)]at ih';omega
 have:=key (List.range ops.size) List.nodup_range
 rw[if_pos (by simpa using hi)]at this;exact this
theorem rR {listed:Array Bool}(h:iG ops listed=0):∀i,i<ops.size→listed.getD i false=true:=by
 intro i hi;unfold iG at h;rw[List.countP_eq_zero]at h
 have:=h i (by simpa using hi)
 simpa using this
variable {σ:St}{es:Nat→eX}{K:St→Prop}
structure DV (P:Program) (G:Ctx) (ops:Array Oper) (nR:Nat) (σ:St) (es:Nat→eX) (K:St→Prop) (listed:Array Bool) (a:Act) (w:World):Prop where
 size:listed.size=ops.size
 down:∀i,listed.getD i false=true→∀p∈df ops i,listed.getD p false=true
 where_:((∀i,listed.getD i false=true→i<nR)∧vk G (fun b=>b<σ.nx∨∃j,j<nR∧listed.getD j false=true∧b=σ.nx+j) (aL σ σ.nx ops es (fun j=>listed.getD j false) nR) a w)∨
  (∃k,nR≤k∧k≤ops.size∧(∀i,i<ops.size→(listed.getD i false=true↔i<k))∧∃s,vE P ops (ops.toList.drop k) s K∧oT G s a w)
theorem DV.later (S3:xQ ops nR)(hW:vE P ops (ops.toList.drop nR) {aL σ σ.nx ops es (fun _=>true) nR with nx:=σ.nx+ops.size} K)
  {G:Ctx} {listed:Array Bool} {a:Act} {w:World} (h:DV P G ops nR σ es K listed a w) (SM:∀j,j<nR→listed.getD j false=true):
  ∃k,nR≤k∧k≤ops.size∧(∀i,i<ops.size→(listed.getD i false=true↔i<k))∧∃s,vE P ops (ops.toList.drop k) s K∧oT G s a w:=by
 rcases h.where_ with⟨SI,ρ,SP⟩|hk
 ·refine⟨nR,O1 _,S3.le,fun i _=>⟨SI i,SM i⟩,_,hW,ρ,?_⟩;rw[cQ (L:=fun j=>listed.getD j false) (L':=fun _=>true) nR (fun j hj=>SM j hj)]at SP;have h2:=SP.cU (dom':=fun b=>b<σ.nx+ops.size) (fun b hb=>by
   have:=S3.le
   rcases hb with hb|⟨j,hj,_,rfl⟩<;>omega)
  exact h2.Jl ⟨fun _=>rfl,fun _=>rfl,rfl⟩
 exact hk
theorem Pu (S3:xQ ops nR){i:Nat}{o:Oper}(ho:ops[i]? =some o)(hi:i<nR){listed:Array Bool}(hp:∀p∈df ops i,listed.getD p false=true):
  iO (aL σ σ.nx ops es (fun _=>true) i) (aL σ σ.nx ops es (fun j=>listed.getD j false) nR) σ.nx o:=by
 refine⟨by rw[fV,fV],fun x hx=>?_,fun b hb=>by rw[jj _ nR b hb,jj _ i b hb]⟩
 cases x with
 |tmp t=>
  have Vz:t∈tmpsOf o:=List.mem_filterMap.2 ⟨.tmp t,by simpa using hx,rfl⟩;show lk _ t=lk _ t
  by_cases hex:∃j,j<nR∧bt ops j=some t
  ·obtain⟨j,hj,hd⟩:=hex;obtain⟨Ux,Z3⟩:=S3.data i o ho hi t Vz j hj hd;rw[dA (N:=nR) (fun j=>listed.getD j false) hd (hp j Z3) S3.dst nR (O1 _) hj,dA (N:=nR) (fun _=>true) hd rfl S3.dst i (by omega) Ux]
  rw[oz _ t nR (fun j hj h=>hex ⟨j,hj,h⟩),oz _ t i (fun j hj h=>hex ⟨j,by omega,h⟩)]
 |const v=>rfl
 |global g=>rfl
 |func f=>rfl
theorem Ay (S3:xQ ops nR)(Up:∀j,∀b∈(es j).fz,b<σ.nx)
  (Un:∀(i:Nat) o,i<nR→ops[i]? =some o→l9 P ops σ.nx i o (aL σ σ.nx ops es (fun _=>true) i) (es i))
  (hW:vE P ops (ops.toList.drop nR) {aL σ σ.nx ops es (fun _=>true) nR with nx:=σ.nx+ops.size} K)
  {G:Ctx} {Q:Exit→Act→World→Prop} (hQ:∀s a w,K s→oT G s a w→Q .normal a w):
  ∀(fuel:Nat) (listed:Array Bool) (a:Act) (w:World),DV P G ops nR σ es K listed a w→iG ops listed≤fuel→wpAny P .any ops Q fuel listed a w:=by
 intro fuel
 induction fuel with
 |zero=>
  intro listed a w h hf;have SM:=rR (Nat.le_zero.1 hf);refine⟨?_,?_⟩
  ·cases hr:Region.ready .any ops listed with
   |nil=>rfl
   |cons i l=>
    obtain⟨_,hi,hu⟩:=g7 (i:=i) (listed:=listed) (ops:=ops) (by rw[hr];simp);have h1:=SM i hi;have SI:i<listed.size:=by rw[h.size];exact hi
    simp[Array.getD,SI]at h1 hu
    rw[h1]at hu;cases hu
  obtain⟨k,YJ,TZ,Vo,s,hs,SP⟩:=h.later S3 hW (fun j hj=>SM j (by have:=S3.le;omega));have hke:k=ops.size:=by
   rcases Nat.lt_or_ge k ops.size with SI|XH
   ·have:=(Vo k SI).1 (SM k SI);omega
   omega
  subst hke;rw[List.drop_eq_nil_of_le (by simp)]at hs;exact hQ s a w hs SP
 |succ fuel ih=>
  intro listed a w h hf;refine⟨fun hr=>?_,fun i hi=>?_⟩
  ·-- none is ready: all have been
   have SM:∀n i,i<n→i<ops.size→listed.getD i false=true:=by
    intro n
    induction n with
    |zero=>intro i hi;omega
    |succ n ihn=>
     intro i Tb Tz
     by_cases hu:listed.getD i false=true
     ·exact hu
     have SI:i<listed.size:=by rw[h.size];exact Tz
     have S4:listed.getD i true=false:=by
      simp[Array.getD,SI]at hu⊢
      exact hu
     have hm:=mV (ops:=ops) (Array.getElem?_eq_getElem Tz) S4 (fun p hp=>ihn p (by have:=S3.pred i _ (Array.getElem?_eq_getElem Tz) p hp;omega) (by have:=S3.pred i _ (Array.getElem?_eq_getElem Tz) p hp;omega));rw[hr]at hm;cases hm
   obtain⟨k,YJ,TZ,Vo,s,hs,SP⟩:=h.later S3 hW (fun j hj=>SM _ j (Nat.lt_succ_self _) (by have:=S3.le;omega));have hke:k=ops.size:=by
    rcases Nat.lt_or_ge k ops.size with SI|XH
    ·have:=(Vo k SI).1 (SM _ k (Nat.lt_succ_self _) SI);omega
    omega
   subst hke;rw[List.drop_eq_nil_of_le (by simp)]at hs;exact hQ s a w hs SP
  obtain⟨hp,Tz,hu⟩:=g7 hi;have ho:=Array.getElem?_eq_getElem Tz;have hcount:=o8 h.size Tz hu;have SI:i<listed.size:=by rw[h.size];exact Tz
  have S4:listed.getD i false=false:=by
   simp[Array.getD,SI]at hu⊢
   exact hu
  have Ue:∀j,(listed.setIfInBounds i true).getD j false=true→∀p∈df ops j,(listed.setIfInBounds i true).getD p false=true:=by
   intro j hj p Yk;rw[aZ SI]at hj⊢
   rcases Bool.or_eq_true_iff.1 hj with hj|hj
   ·rw[h.down j hj p Yk];rfl
   have:j=i:=by simpa using hj
   subst this;rw[hp p Yk];rfl
  by_cases VL:i<nR
  ·-- one that only looks
   rcases h.where_ with⟨Wu,ρ,SP⟩|⟨k,YJ,TZ,Vo,_⟩
   ·have S1:=Un i ops[i] VL ho;have UL:=Pu (σ:=σ) (es:=es) S3 ho VL hp;have UM:∀a' w',vk G (fun b=>(b<σ.nx∨∃j,j<nR∧listed.getD j false=true∧b=σ.nx+j)∨b=σ.nx+i) ((aL σ σ.nx ops es (fun j=>listed.getD j false) nR).add (bt ops i) (σ.nx+i) (es i)) a' w'→
      DV P G ops nR σ es K (listed.setIfInBounds i true) a' w':=by
     rintro a' w' ⟨ρ',h1⟩;refine⟨by simpa using h.size,Ue,.inl ⟨fun j hj=>?_,ρ',?_⟩⟩
     ·rw[aZ SI]at hj
      rcases Bool.or_eq_true_iff.1 hj with hj|hj
      ·exact Wu j hj
      have:j=i:=by simpa using hj
      omega
     have h2:=h1.cU (dom':=fun b=>b<σ.nx∨∃j,j<nR∧(listed.setIfInBounds i true).getD j false=true∧b=σ.nx+j) (fun b hb=>by
      rcases hb with(hb|⟨j,hj,ZE,rfl⟩)|rfl
      ·exact .inl hb
      ·exact .inr ⟨j,hj,by rw[aZ SI,ZE];rfl,rfl⟩
      exact .inr ⟨i,VL,by rw[aZ SI];simp,rfl⟩)
     have h3:=nD (σ:=σ) (nx0:=σ.nx) (e:=es) (N:=nR) (L:=fun j=>listed.getD j false) (i:=i) S4 S3.dst Up nR (O1 _) VL;have h4:=h2.Jl h3.symm
     rw[cQ (L:=fun j=>listed.getD j false||j==i) (L':=fun j=>(listed.setIfInBounds i true).getD j false) nR (fun j _=>(aZ SI).symm)]at h4
     exact h4
    have TS:bt ops i=ops[i].dst:=by unfold bt;rw[ho];rfl
    have hid:¬(σ.nx+i<σ.nx∨∃j,j<nR∧listed.getD j false=true∧σ.nx+i=σ.nx+j):=by
     rintro(h1|⟨j,_,hj,he⟩)
     ·omega
     have:i=j:=by omega
     subst this;rw[S4]at hj;cases hj
    unfold wpOp;simp only[ho];obtain⟨TB,S1⟩:=S1;have doit:a7 P ops[i] (aL σ σ.nx ops es (fun _=>true) i) σ.nx (σ.nx+i) (es i)→ops[i].wp P a w (wpAny P .any ops Q fuel (listed.setIfInBounds i true)) Q:=by
     intro TT;refine TT.1 G _ ρ _ a w SP hid UL Q _ fun v w' h5=>?_;refine ih _ _ _ (UM _ _ ?_) (by omega);rw[TS];exact h5
    split at S1
    ·rename_i hg
     rw[il hg,if_pos rfl];exact .inl (doit S1)
    rename_i g want hg
    obtain⟨t,b,ht,hb,S1⟩:=S1;obtain⟨UR,Yl⟩:=S3.guard i _ g want ho VL hg;have YK:g<nR:=by omega
    have Tq:gv (lk (aL σ σ.nx ops es (fun j=>listed.getD j false) nR).env t)=some b:=by
     rw[dA (N:=nR) (fun j=>listed.getD j false) (t:=t) (j:=g) ht (hp g Yl) S3.dst nR (O1 _) YK];rw[dA (N:=nR) (fun _=>true) (t:=t) (j:=g) ht rfl S3.dst i (by omega) UR]at hb;exact hb
    rw[nE SP hg ht Tq]
    by_cases TL:b=some want
    ·rw[if_pos TL]at S1;rw[if_pos (by simp[TL])];exact .inl (doit S1)
    rw[if_neg TL]at S1;rw[if_neg (by simpa using TL)];refine ih _ _ _ (UM _ _ ⟨ρ,?_⟩) (by omega);rw[S1,TS];have h5:=SP.put (dst:=ops[i].dst) (x:=.aB []) (v:=undef) (fun d hd=>by have:=TB d hd;rw[fV]at this⊢;exact this) ⟨#[],rfl,trivial⟩;have h6:=h5.cU (dom':=fun b=>(b<σ.nx∨∃j,j<nR∧listed.getD j false=true∧b=σ.nx+j)∨b=σ.nx+i) (fun b hb=>Or.inl hb);unfold eX.skip;rw[St.add_plain];exact h6
   have:=(Vo i Tz).2 (by omega)
   rw[S4]at this;cases this
  -- one that writes: all that stand ahead of it have been
  have WV:∀j,j<i→listed.getD j false=true:=fun j hj=>fK h.down _ i j hp (S3.clos i Tz (by omega) j hj);obtain⟨k,YJ,TZ,Vo,s,hs,SP⟩:=h.later S3 hW (fun j hj=>WV j (by omega));have Wf:k=i:=by
   rcases Nat.lt_trichotomy k i with YL|rfl|hgt
   ·have:=(Vo k (by omega)).1 (WV k YL);omega
   ·rfl
   have:=(Vo i Tz).2 hgt;rw[S4]at this;cases this
  subst Wf;have Tg:ops.toList.drop k=ops[k]::ops.toList.drop (k+1):=by
   rw[List.drop_eq_getElem_cons (by simpa using Tz)];rfl
  rw[Tg]at hs;refine Hn.step ho hs.2 hs.1 SP fun s' a' w' hs'' WT=>ih _ _ _ ?_ (by omega);refine⟨by simpa using h.size,Ue,.inr ⟨k+1,by omega,by omega,fun j hj=>?_,s',hs'',WT⟩⟩;rw[aZ SI]
  by_cases We:j=k
  ·subst We;simp
  have SW:(j==k)=false:=by simpa using We
  rw[SW,Bool.or_false,Vo j hj];omega
end
def FC (f:Nat→Nat→C)(off len:Nat):Nat→Nat→C:=fun i j=>if off≤i then(if i<off+len then .any else f i j)else f i j
def Au (xs:List Int)(off len:Nat):List Int:=xs.take off++(List.replicate len 0++xs.drop (off+len))
def uF (T:fS)(s:St)(dst:Option Tmp)(t:TypeId)(x:Operand)(K:St→Prop):Prop:=
 match T t with
 |some S=>match S.k with
  |.sl e=>match T e with
   |some E=>match s.ev x with
    |.one (.own b wd off len)=>match lo s.own b with
     |some ⟨.rows e' w n f,rw⟩=>rw=true∧wd=w∧E.size=w∧E.zero.length=w∧0<w∧K {s.put dst .unk with own:=eD s.own b ⟨.rows e' w n (FC f off len),true⟩}
     |some ⟨.ints e' k xs,rw⟩=>rw=true∧wd=1∧E.size=1∧E.zero=[.int k 0]∧K {s.put dst .unk with own:=eD s.own b ⟨.ints e' k (Au xs off len),true⟩}
     |_=>False
    |_=>False
   |none=>False
  |_=>False
 |none=>False
theorem Ic (xs:List Int)(off len:Nat)(h:off+len≤xs.length)(j:Nat):(Au xs off len)[j]? =if off≤j∧j<off+len then some 0 else xs[j]? :=by
 unfold Au;rw[List.getElem?_append,List.getElem?_append,X5,List.length_replicate]
 by_cases h1:j<off
 ·rw[if_pos (by omega),if_neg (by omega),List.getElem?_take,if_pos h1]
 rw[if_neg (by omega)]
 by_cases h2:j<off+len
 ·rw[if_pos (by omega),if_pos (by omega),List.getElem?_replicate,if_pos (by omega)]
 rw[if_neg (by omega),if_neg (by omega),List.getElem?_drop];congr 1;omega
theorem Be (xs:List Int)(off len:Nat)(h:off+len≤xs.length):(Au xs off len).length=xs.length:=by
 unfold Au;simp;omega
theorem xu {P:Program}{w:World}{t ty e:TypeId}{i:TypeInfo}{z:Value}(ht:P.underlying t=some (.slice e))(hi:P.info? e=some i)(hz:i.zero=some z)(g o len cap:Nat){cur:Array Value}{e':TypeId}(hg:w.heap[g]? =some (.cells cur e' (0,0)))
  (Tl:o+len*z.cells.size≤cur.size) (h1:z.cells.toList.all Value.oneCell'=true) (TN:0<z.cells.size) (hlen:0<len):
  (Builtin.clear_ #[t] ty #[.slice (some ⟨g,o,none⟩) len cap]).run P w= .ok (.tuple #[]) (w.setRow g (cur.toList.take o++(Builtin.zeroCells z.cells len).toList++cur.toList.drop (o+len*z.cells.size)).toArray):=by
 have TW:(Builtin.zeroCells z.cells len).toList.length=len*z.cells.size:=by simp[Builtin.zeroCells]
 have SS:∀u∈(Builtin.zeroCells z.cells len).toList,u.oneCell'=true:=by
  intro u hu;simp only[Builtin.zeroCells,Array.toList_map,List.mem_map]at hu;obtain⟨k,_,rfl⟩:=hu;have hk:k%z.cells.size<z.cells.size:=Nat.mod_lt _ TN;rw[getElem!_pos z.cells _ hk];exact List.all_eq_true.1 h1 _ (by simp)
 have S1:=run_storeCells_at P g o e' (Builtin.zeroCells z.cells len).toList 0 cur w hg (by rw[TW];simpa using Tl) SS;simp only[Nat.add_zero,TW]at S1
 cases len with
 |zero=>omega
 |succ len=>
  simp only[Builtin.clear_,List.getElem?_toArray,List.getElem?_cons_zero,Sem.run_bind,ay ht,Q7,fT hi hz,S1,Sem.run_pure]
section
variable {P:Program}{T:fS}(hT:eN P T)
include hT
theorem NI {
        o:Oper} {s:St} {K:St→Prop} {c:Call} (ho:o.op= .call c) (UK:c.callee= .builtin .clear) {x:Operand} (SL:c.args= #[x]) {t:TypeId} (Tx:c.argTypes= #[t]) (TP:bY o s.n) (h:uF T s o.dst t x K):mY P o s K:=by
 unfold uF at h
 cases SZ:T t with
 |none=>rw[SZ]at h;exact h.elim
 |some S=>
  rw[SZ]at h;simp only at h
  split at h
  ·rename_i e UW
   have hu:=fx hT SZ UW
   cases TD:T e with
   |none=>rw[TD]at h;exact h.elim
   |some E=>
    rw[TD]at h;simp only at h;obtain⟨ei,ed,ez,Uj,Ya,Wd,Yb,UH,_,UB,SM⟩:=bF hT TD;have TW:E.zero.length=ez.cells.size:=by rw[UB];simp
    split at h
    ·rename_i b wd off len hx
     intro G a w SP Q next hk;obtain⟨ρ,hs⟩:=SP;have SN:=hs.ev x;rw[hx]at SN;have SO:∀(v:Value) (w':World),a.eval x=v→(∀ty,(Builtin.clear_ #[t] ty #[v]).run P w= .ok (.tuple #[]) w')→(execOp a.eval o).run P w= .ok (.value (.tuple #[])) w':=by
      intro v w' hv hr;unfold execOp;rw[ho];simp only[resolve,UK,Sem.run_bind,Sem.run_pure,Q7,invoke,Go.builtin,SL,Tx,List.map_toArray,List.map_cons,List.map_nil,hv,hr]
     obtain⟨_,hle,cap,Te,SV⟩:=SN;have VS:∀(w':World) (own':List (Nat×fI)),aS G (fun b=>b<s.nx) ρ {s with own:=own'} a w'→oT G {s.put o.dst .unk with own:=own'} (a.put o.dst (.tuple #[])) w':=by
      intro w' own' h1;have h2:=h1.put (dst:=o.dst) (x:=.unk) (v:=.tuple #[]) TP trivial
      cases hd:o.dst with
      |none=>rw[hd]at h2;exact⟨ρ,h2⟩
      |some d=>rw[hd]at h2;exact⟨ρ,h2⟩
     by_cases Uz:len=0
     ·subst Uz;have hclr:∀v,v=a.eval x→(∃ad,v= .slice ad 0 cap)→∀ty,(Builtin.clear_ #[t] ty #[v]).run P w= .ok (.tuple #[]) w:=by
       rintro v _ ⟨ad,rfl⟩ ty
       cases ad<;>simp only[Builtin.clear_,List.getElem?_toArray,List.getElem?_cons_zero,Sem.run_bind,ay hu,Q7,Sem.run_pure]
      have V4:∃ad,a.eval x= .slice ad 0 cap:=by
       rcases SV with⟨g,o1,o2,_,hv,_⟩|⟨_,hv,_,T6⟩
       ·exact⟨_,hv⟩
       exact⟨none,by rw[hv,T6]⟩
      have hr:=SO _ w rfl (hclr _ rfl V4);have TR:∀own',(∀b',lo own' b'=lo s.own b')→aS G (fun b=>b<s.nx) ρ {s with own:=own'} a w:=fun own' he=>hs.Jl ⟨fun _=>rfl,fun b'=>(he b').symm,rfl⟩
      split at h
      ·rename_i e' w0 n f rw_ S7
       obtain⟨rfl,rfl,_,_,_,hK⟩:=h;refine Oper.cX hr (hk _ _ _ hK (VS _ _ (TR _ fun b'=>?_)));rw[b9]
       split
       ·rename_i hb;subst hb;rw[S7]
        have:FC f off 0=f:=by funext i j;unfold FC;by_cases h1:off≤i<;>simp [h1];omega
        rw[this]
       rfl
      ·rename_i e' k xs rw_ S7
       obtain⟨rfl,rfl,_,_,hK⟩:=h;refine Oper.cX hr (hk _ _ _ hK (VS _ _ (TR _ fun b'=>?_)));rw[b9]
       split
       ·rename_i hb;subst hb;rw[S7]
        have:Au xs off 0=xs:=by unfold Au;simp
        rw[this]
       rfl
      exact h.elim
     rcases SV with⟨g,o1,o2,SH,hv,UQ,_⟩|⟨_,_,h0,_⟩
     ·have ho3:o2=o1+off*wd:=by rcases UQ with h1|h1<;>omega
      subst ho3
      split at h
      ·rename_i e' w0 n f rw_ S7
       obtain⟨rfl,rfl,hE,hEz,S6,hK⟩:=h;have TO:ez.cells.size=wd:=by omega
       obtain⟨_,hlenρ,SK,_⟩:=hs.own b _ S7;unfold aM at SK;rw[SH]at SK;obtain⟨cur,ee,hg,hc⟩:=SK;simp only at hc;rw[hlenρ]at hle;simp only[Bk.len]at hle;have hmul:(off+len)*wd≤n*wd:=O8 _ hle;have hmul2:(off+len)*wd=off*wd+len*wd:=Nat.add_mul _ _ _;have hlw:0<len*wd:=Nat.mul_pos (by omega) S6;have Tl:o1+off*wd+len*ez.cells.size≤cur.size:=by
        rw[TO];obtain⟨u,S4,_⟩:=hc (n*wd-1) (f ((n*wd-1)/wd) ((n*wd-1)%wd)) (by simp only[Bk.cell];rw[if_pos (by omega)])
        have:=(Array.getElem?_eq_some_iff.1 S4).1
        omega
       have hr:=SO _ _ hv (fun ty=>xu (ty:=ty) hu Uj Wd g (o1+off*wd) len cap hg Tl SM (by omega) (by omega));refine Oper.cX hr (hk _ _ _ hK (VS _ _ ?_));have Vf:(Builtin.zeroCells ez.cells len).toList.length=len*wd:=by simp[Builtin.zeroCells,TO]
       have TN:((cur.toList.take (o1+off*wd)++(Builtin.zeroCells ez.cells len).toList++cur.toList.drop (o1+off*wd+len*ez.cells.size)).toArray).size=cur.size:=by
        simp only[List.size_toArray,X6,X5,List.length_drop,Vf,Array.length_toList];rw[TO]at Tl⊢;omega
       refine hs.write S7 SH hg TN (.rows e' wd n (FC f off len)) rfl fun j c' hj=>?_;simp only[Bk.cell]at hj
       split at hj
       ·rename_i Wp
        simp only[Q6]at hj;have Uw:=g9 cur.toList (o1+off*wd) (Builtin.zeroCells ez.cells len).toList (by rw[Vf];simp only[Array.length_toList];rw[TO]at Tl;omega) (o1+j);rw[Vf]at Uw;have Wv:=Nat.div_add_mod j wd;have VX:=Nat.mod_lt j S6;simp only[List.getElem?_toArray,TO,Uw]
        by_cases hm:off*wd≤j∧j<off*wd+len*wd
        ·rw[if_pos (by omega)];have Ww:off≤j/wd:=(Nat.le_div_iff_mul_le S6).2 hm.1;have VM:j/wd<off+len:=(Nat.div_lt_iff_lt_mul S6).2 (by omega);have hcany:c'= .any:=by rw[←hj];unfold FC;rw[if_pos Ww,if_pos VM]
         subst hcany;have SI:o1+j-(o1+off*wd)<(Builtin.zeroCells ez.cells len).toList.length:=by rw[Vf];omega
         refine⟨_,X8 SI,?_⟩;show Value.oneCell' _=true;simp only[Builtin.zeroCells,Array.getElem_toList,Array.getElem_map,Array.getElem_range];have XG:(o1+j-(o1+off*wd))%ez.cells.size<ez.cells.size:=Nat.mod_lt _ (by omega);rw[getElem!_pos ez.cells _ XG];exact List.all_eq_true.1 SM _ (by simp)
        rw[if_neg (by omega),Array.getElem?_toList];have VY:c'=f (j/wd) (j%wd):=by
         rw[←hj];unfold FC
         by_cases Ww:off≤j/wd
         ·rw[if_pos Ww,if_neg];intro VM;have a1:=(Nat.le_div_iff_mul_le S6).1 Ww;have a2:=(Nat.div_lt_iff_lt_mul S6).1 VM;omega
         rw[if_neg Ww]
        exact hc j c' (by simp only[Bk.cell];rw[if_pos Wp,VY])
       cases hj
      ·rename_i e' k xs rw_ S7
       obtain⟨rfl,rfl,hE,hEz,hK⟩:=h;have TO:ez.cells.size=1:=by rw[←TW,hEz];rfl
       have ZK:len*ez.cells.size=len:=by rw[TO,Nat.mul_one]
       obtain⟨_,hlenρ,SK,_⟩:=hs.own b _ S7;unfold aM at SK;rw[SH]at SK;obtain⟨cur,ee,hg,hc⟩:=SK;simp only at hc;rw[hlenρ]at hle;simp only[Bk.len]at hle;have Tl:o1+off*1+len*ez.cells.size≤cur.size:=by
        obtain⟨u,S4,_⟩:=hc (xs.length-1) (.int k xs[xs.length-1]) (by simp only[Bk.cell];rw[X8 (by omega)];rfl)
        have:=(Array.getElem?_eq_some_iff.1 S4).1
        omega
       have hr:=SO _ _ hv (fun ty=>xu (ty:=ty) hu Uj Wd g (o1+off*1) len cap hg Tl SM (by omega) (by omega));refine Oper.cX hr (hk _ _ _ hK (VS _ _ ?_));have Vf:(Builtin.zeroCells ez.cells len).toList.length=len:=by simp[Builtin.zeroCells,TO]
       have TN:((cur.toList.take (o1+off*1)++(Builtin.zeroCells ez.cells len).toList++cur.toList.drop (o1+off*1+len*ez.cells.size)).toArray).size=cur.size:=by
        simp only[List.size_toArray,X6,X5,List.length_drop,Vf,Array.length_toList];omega
       refine hs.write S7 SH hg TN (.ints e' k (Au xs off len)) (Be xs off len hle) fun j c' hj=>?_;simp only[Bk.cell,Ic xs off len hle]at hj;have Uw:=g9 cur.toList (o1+off*1) (Builtin.zeroCells ez.cells len).toList (by rw[Vf];simp only[Array.length_toList];omega) (o1+j);rw[Vf]at Uw;simp only[List.getElem?_toArray,ZK,Uw]
       by_cases hm:off≤j∧j<off+len
       ·rw[if_pos hm]at hj;simp only[Option.map_some,Q6]at hj;subst hj;rw[if_pos (by omega)];have SI:o1+j-(o1+off*1)<(Builtin.zeroCells ez.cells len).toList.length:=by rw[Vf];omega
        refine⟨_,X8 SI,?_⟩;simp only[Builtin.zeroCells,Array.getElem_toList,Array.getElem_map,Array.getElem_range];have hz0:ez.cells.toList.map DR=[.int k 0]:=by rw[←UB];exact hEz
        obtain⟨v0,TK⟩:∃v0,ez.cells.toList=[v0]:=List.length_eq_one_iff.1 (by simpa using TO);rw[TK]at hz0;have Zj:DR v0= .int k 0:=by simpa using hz0
        have SS:v0.oneCell'=true:=List.all_eq_true.1 SM _ (by rw[TK];simp);have SQ:=zW (ok:=aI G s.own ρ w) (w:=w) v0 SS;rw[Zj]at SQ;have XG:(o1+j-(o1+off*1))%ez.cells.size<ez.cells.size:=Nat.mod_lt _ (by omega);rw[getElem!_pos ez.cells _ XG];have YH:ez.cells[(o1+j-(o1+off*1))%ez.cells.size]=v0:=by
         have:ez.cells.toList[(o1+j-(o1+off*1))%ez.cells.size]? =some v0:=by
          rw[TK,TO,Nat.mod_one];rfl
         rw[Array.getElem?_toList,Array.getElem?_eq_getElem XG]at this;exact Option.some.inj this
        rw[YH];exact SQ
       rw[if_neg hm]at hj;rw[if_neg (by omega),Array.getElem?_toList];exact hc j c' hj
      exact h.elim
     omega
    exact h.elim
  exact h.elim
end
def z7 (f g:Nat→Nat→C)(off n:Nat):Nat→Nat→C:=fun i j=>if off≤i then(if i<off+n then g (i-off) j else f i j)else f i j
def A8 (T:fS)(s:St)(dst:Option Tmp)(t:TypeId)(x y:Operand)(K:St→Prop):Prop:=
 match T t with
 |some S=>
       match S.k with
  |.sl e=>match T e with
   |some E=>match s.ev x with
    |.one (.own b wd off len)=>match lo s.own b with
     |some ⟨.rows e' w n f,rw⟩=>match s.ev y with
      |.one cy=>match iB w (yB s.own s.nx cy)with
       |some (m,g)=>rw=true∧wd=w∧E.size=w∧0<w∧K {s.put dst (.one (.int .i64 ((if m<len then m else len:Nat):Int)))with own:=eD s.own b ⟨.rows e' w n (z7 f g off (if m<len then m else len)),true⟩}
       |none=>False
      |_=>False
     |_=>False
    |_=>False
   |none=>False
  |_=>False
 |none=>False
theorem GN {P:Program}{w:World}{t t' ty e:TypeId}{i:TypeInfo}(ht:P.underlying t=some (.slice e))(hi:P.info? e=some i)(dv sv:Option Addr)(len cap m cap' n:Nat)(hn:n=if m<len then m else len){us:List Value}(hl:us.length=n*i.size)(hh:kf w sv us){w':World}
  (S1:(match dv with|some a=>storeCells a us|none=>pure ()).run P w= .ok () w'):
  (Builtin.copy_ #[t,t'] ty #[.slice dv len cap,.slice sv m cap']).run P w= .ok (goInt n) w':=by
 have hf:=dQ (P:=P) i.size n sv m cap' us hl hh
 have hm:Nat.min m len=n:=by rw[hn];show min m len=_;split<;>omega
 cases dv with
 |none=>
  obtain rfl:w=w':=by simpa using S1
  simp[Builtin.copy_,Go.run_underlying ht,sizeOf,typeInfo,hi,Builtin.lenOf,hm,hf]
 |some a=>
  simp only at S1
  simp[Builtin.copy_,Go.run_underlying ht,sizeOf,typeInfo,hi,Builtin.lenOf,hm,hf,S1]
section
variable {P:Program}{T:fS}(hT:eN P T)
include hT
theorem Qb {o:Oper}{s:St}{K:St→Prop}{c:Call}(ho:o.op= .call c)(UK:c.callee= .builtin .copy){x y:Operand}(SL:c.args= #[x,y]){t t':TypeId}(Tx:c.argTypes= #[t,t'])(TP:bY o s.n)(h:A8 T s o.dst t x y K):mY P o s K:=by
 unfold A8 at h
 cases SZ:T t with
 |none=>rw[SZ]at h;exact h.elim
 |some S=>
  rw[SZ]at h;simp only at h
  split at h
  rotate_left
  ·exact h.elim
  rename_i e UW
  have hu:=fx hT SZ UW
  cases TD:T e with
  |none=>rw[TD]at h;exact h.elim
  |some E=>
   rw[TD]at h;simp only at h;obtain⟨ei,ed,ez,Uj,Ya,Wd,Yb,UH,_,UB,SM⟩:=bF hT TD
   split at h
   rotate_left
   ·exact h.elim
   rename_i b wd off len hx
   split at h
   rotate_left
   ·exact h.elim
   rename_i e' w0 n f rw_ S7
   split at h
   rotate_left
   ·exact h.elim
   rename_i cy hy
   split at h
   rotate_left
   ·exact h.elim
   rename_i m g hm
   obtain⟨rfl,rfl,hE,S6,hK⟩:=h;intro G a w SP Q next hk;obtain⟨ρ,hs⟩:=SP;have SN:=hs.ev x;rw[hx]at SN;have U8:=hs.ev y;rw[hy]at U8;obtain⟨ad,cap',us,TI,Th⟩:=qe hs (fun _ hb=>hb) U8 hm;obtain⟨_,hle,cap,Te,SV⟩:=SN;obtain⟨nn,SY⟩:∃nn,nn=if m<len then m else len:=⟨_,rfl⟩
   rw[←SY]at hK
   have YM:nn≤m∧nn≤len:=by rw[SY];split<;>omega
   have hmul:nn*wd≤m*wd:=O8 _ YM.1;have Z4:ei.size=wd:=by omega
   have hl:(us.take (nn*wd)).length=nn*ei.size:=by rw[X5,Th.len,Z4];omega
   have hh:kf w ad (us.take (nn*wd)):=by
    rcases Th.at_ with h1|⟨a1,h1,h2⟩
    ·left;rw[h1];simp
    refine .inr ⟨a1,h1,fun j u hj=>h2 j u ?_⟩;rw[List.getElem?_take]at hj
    split at hj
    ·exact hj
    cases hj
   have SO:∀(v:Value) (w':World) (dv:Option Addr),a.eval x=v→v= .slice dv len cap→(match dv with|some a=>storeCells a (us.take (nn*wd))|none=>pure ()).run P w= .ok () w'→(execOp a.eval o).run P w= .ok (.value (goInt nn)) w':=by
    intro v w' dv hv UP S1;subst UP;have hr:=GN (t':=t') (ty:=o.type) hu Uj dv ad len cap m cap' nn SY hl hh S1;unfold execOp;rw[ho];simp only[resolve,UK,Sem.run_bind,Sem.run_pure,Q7,invoke,Go.builtin,SL,Tx,List.map_toArray,List.map_cons,List.map_nil,hv,TI,hr]
   have VS:∀(w':World) (own':List (Nat×fI)),aS G (fun b=>b<s.nx) ρ {s with own:=own'} a w'→oT G {s.put o.dst (.one (.int .i64 (nn:Int)))with own:=own'} (a.put o.dst (goInt nn)) w':=by
    intro w' own' h1;have h2:=h1.put (dst:=o.dst) (x:=.one (.int .i64 (nn:Int))) (v:=goInt nn) TP rfl
    cases hd:o.dst with
    |none=>rw[hd]at h2;exact⟨ρ,h2⟩
    |some d=>rw[hd]at h2;exact⟨ρ,h2⟩
   by_cases Uz:nn=0
   ·subst Uz;have V4:∃dv,a.eval x= .slice dv len cap:=by
     rcases SV with⟨g,o1,o2,_,hv,_⟩|⟨_,hv,h1,h2⟩
     ·exact⟨_,hv⟩
     exact⟨none,by rw[hv,h1,h2]⟩
    obtain⟨dv,hv⟩:=V4
    have hr:=SO _ w dv hv rfl (by cases dv<;>simp [storeCells])
    refine Oper.cX hr (hk _ _ _ hK (VS _ _ (hs.Jl ⟨fun _=>rfl,fun b'=>?_,rfl⟩)));rw[b9]
    split
    ·rename_i hb;subst hb;rw[S7]
     have:z7 f g off 0=f:=by funext i j;unfold z7;by_cases h1:off≤i<;>simp [h1];omega
     rw[this]
    rfl
   rcases SV with⟨g1,o1,o2,SH,hv,UQ,_⟩|⟨_,_,h0,_⟩
   rotate_left
   ·omega
   have ho3:o2=o1+off*wd:=by rcases UQ with h1|h1<;>omega
   subst ho3;obtain⟨_,hlenρ,SK,_⟩:=hs.own b _ S7;unfold aM at SK;rw[SH]at SK;obtain⟨cur,ee,hg,hc⟩:=SK;simp only at hc;rw[hlenρ]at hle;simp only[Bk.len]at hle;have hmul1:(off+nn)*wd≤n*wd:=O8 _ (by omega);have hmul2:(off+nn)*wd=off*wd+nn*wd:=Nat.add_mul _ _ _;have hlw:0<nn*wd:=Nat.mul_pos (by omega) S6;have SJ:(us.take (nn*wd)).length=nn*wd:=by rw[hl,Z4]
   have Tl:o1+off*wd+nn*wd≤cur.size:=by
    obtain⟨u,S4,_⟩:=hc (n*wd-1) (f ((n*wd-1)/wd) ((n*wd-1)%wd)) (by simp only[Bk.cell];rw[if_pos (by omega)])
    have:=(Array.getElem?_eq_some_iff.1 S4).1
    omega
   have SS:∀u∈us.take (nn*wd),u.oneCell'=true:=fun u hu=>Th.one u (List.mem_of_mem_take hu);have S1:=run_storeCells_at P g1 (o1+off*wd) ee (us.take (nn*wd)) 0 cur w hg (by rw[SJ];omega) SS;simp only[Nat.add_zero,SJ]at S1;have hr:=SO _ _ _ hv rfl S1;refine Oper.cX hr (hk _ _ _ hK (VS _ _ ?_));refine hs.write S7 SH hg (by simp only[List.size_toArray,X6,X5,List.length_drop,Array.length_toList,Th.len];omega) (.rows e' wd n (z7 f g off nn)) rfl fun j c' hj=>?_;simp only[Bk.cell]at hj
   split at hj
   rotate_left
   ·cases hj
   rename_i Wp
   simp only[Q6]at hj;have Uw:=g9 cur.toList (o1+off*wd) (us.take (nn*wd)) (by rw[SJ];simp only[Array.length_toList];omega) (o1+j);rw[SJ]at Uw;have Wv:=Nat.div_add_mod j wd;have VX:=Nat.mod_lt j S6;simp only[List.getElem?_toArray,Uw]
   by_cases ZK:off*wd≤j∧j<off*wd+nn*wd
   ·rw[if_pos (by omega)];have Ww:off≤j/wd:=(Nat.le_div_iff_mul_le S6).2 ZK.1;have VM:j/wd<off+nn:=(Nat.div_lt_iff_lt_mul S6).2 (by omega);have hcg:c'=g (j/wd-off) (j%wd):=by rw[←hj];unfold z7;rw[if_pos Ww,if_pos VM]
    obtain⟨u,XB,TU⟩:=Th.rep (j/wd-off) (j%wd) (by omega) VX;refine⟨u,?_,by rw[hcg];exact TU⟩;have ej:o1+j-(o1+off*wd)=(j/wd-off)*wd+j%wd:=by
     rw[Nat.sub_mul]
     have:off*wd≤j/wd*wd:=O8 _ Ww
     have:=O6 (j/wd) wd
     omega
    rw[List.getElem?_take,if_pos (by omega),ej,XB]
   rw[if_neg (by omega),Array.getElem?_toList];have VY:c'=f (j/wd) (j%wd):=by
    rw[←hj];unfold z7
    by_cases Ww:off≤j/wd
    ·rw[if_pos Ww,if_neg];intro VM;have a1:=(Nat.le_div_iff_mul_le S6).1 Ww;have a2:=(Nat.div_lt_iff_lt_mul S6).1 VM;omega
    rw[if_neg Ww]
   exact hc j c' (by simp only[Bk.cell];rw[if_pos Wp,VY])
end
end Go.Eng
namespace Go.Eng
open Go
inductive WL where
 |nil
 |cons (i:Nat) (pd:List Nat) (sub alt:WL)
 /-- a new variable (operation 'q', slot 'd') that may be made before those that write, or behind the first of them -/
 |opt (q d:Nat) (t1 t2:WL)
def jc:WL→Nat→Bool
 |.nil,_=>false
 |.cons i _ sub _,j=>if j=i then true else jc sub j
 |.opt _ _ _ _,_=>false
def bK (ws:WL)(i:Nat):Bool:=!jc ws i
def r9:WL→Nat→Bool
 |.nil,_=>false
 |.cons i _ _ alt,j=>if j=i then true else r9 alt j
 |.opt _ _ _ _,_=>false
def j9:Op→Bool
 |.alloc _=>true
 |_=>false
def xZ:Op→Bool
 |.select _ _=>false
 |_=>true
def Ky (ops:Array Oper)(ws:WL)(i:Nat)(o:Oper):Bool:=
 ((tmpsOf o).all fun t=>(List.range ops.size).all fun j=>bt ops j !=some t||(if bK ws j then decide (j<i)&&(df ops i).contains j else ff ops ops.size j i))&&
 (
  match o.guard with
  |none=>true
  |some (g,_)=>decide (g<i)&&(df ops i).contains g&&bK ws g)
def qK (ops:Array Oper)(l:List Nat)(j:Nat):Bool:=l.any fun i=>ff ops ops.size i j
def kA (ops:Array Oper)(ws:WL)(pre:List Nat)(t:WL):Bool:=
 (List.range ops.size).all fun i=>!jc ws i||pre.contains i||r9 t i||(List.range ops.size).any fun j=>jc ws j&&!pre.contains j&&ff ops ops.size i j
def np (
     ops:Array Oper) (ws:WL) (ex:Option Nat):List Nat→WL→Bool
 |_,.nil=>true
 |_,.opt _ _ _ _=>false
 |pre,.cons i pd sub alt=>(match ops[i]? with
   |none=>false
   |some o=>o.guard.isNone&&xZ o.op&&!pre.contains i&&jc ws i&&
     ((List.range ops.size).all fun j=>!bK ws j||pd.contains j||ex==some j||qK ops (i::pre) j)&&
     (pd.all fun j=>bK ws j&&(match ops[j]? with
      |none=>false
      |some oj=>iE oj.op&&(match oj.dst with
       |none=>false
       |some d=>!(tmpsOf o).contains d))))&&
  kA ops ws (i::pre) sub&&np ops ws ex (i::pre) sub&&np ops ws ex pre alt
def Dv (ops:Array Oper)(ws:WL)(q:Nat)(t:WL):Bool:=
 (List.range ops.size).all fun i=>!jc ws i||i==q||r9 t i||(List.range ops.size).any fun j=>jc ws j&&ff ops ops.size i j
def EY (ops:Array Oper)(ws:WL):Bool:=
 (List.range ops.size).all fun i=>match ops[i]? with
  |none=>false
  |some o=>((df ops i).all fun p=>decide (p<i))&&((List.range ops.size).all fun j=>j==i||(bt ops j).isNone||bt ops j !=bt ops i)&&(!bK ws i||Ky ops ws i o)
def PK (ops:Array Oper):WL→Bool
 |.opt q d t1 t2=>EY ops t1&&kA ops t1 [] t1&&np ops t1 (some q) [] t1&&EY ops t2&&Dv ops t2 q t2&&np ops t2 none [] t2&&
   decide (q<ops.size)&&bK t1 q&&(bt ops q==some d)&&((List.range ops.size).all fun j=>jc t2 j==(jc t1 j||j==q))&&
   ((List.range ops.size).all fun j=>!bK t2 j||match ops[j]? with|none=>true|some o=>!(tmpsOf o).contains d)&&(match ops[q]? with|none=>false|some o=>o.guard.isNone&&j9 o.op)
 |ws=>EY ops ws&&kA ops ws [] ws&&np ops ws none [] ws
structure PX (ops:Array Oper) (ws:WL) (ex:Option Nat) (pre:List Nat) (i:Nat) (pd:List Nat) (sub:WL):Prop where
 op:∃o,ops[i]? =some o∧o.guard=none∧xZ o.op=true∧∀j∈pd,∃oj d,bK ws j=true∧ops[j]? =some oj∧iE oj.op=true∧oj.dst=some d∧d∉tmpsOf o
 all:∀j,j<ops.size→bK ws j=true→j∈pd∨ex=some j∨∃k∈i::pre,ff ops ops.size k j=true
 cov:kA ops ws (i::pre) sub=true
 sub:np ops ws ex (i::pre) sub=true
structure PI (ops:Array Oper) (ws:WL):Prop where
 pred:∀i o,ops[i]? =some o→∀p∈df ops i,p<i
 dst:∀j k t,j<ops.size→k<ops.size→j≠k→bt ops j=some t→bt ops k=some t→False
 data:∀i o,ops[i]? =some o→bK ws i=true→∀t,t∈tmpsOf o→∀j,j<ops.size→bt ops j=some t→(bK ws j=true→j<i∧j∈df ops i)∧(bK ws j=false→ff ops ops.size j i=true)
 guard:∀i o g want,ops[i]? =some o→bK ws i=true→o.guard=some (g,want)→g<i∧g∈df ops i∧bK ws g=true
theorem jh {ops:Array Oper}{ws:WL}{ex:Option Nat}{pre:List Nat}{i:Nat}{pd:List Nat}{sub alt:WL}(h:np ops ws ex pre (.cons i pd sub alt)=true):PX ops ws ex pre i pd sub∧np ops ws ex pre alt=true:=by
 simp only[np,Bool.and_eq_true]at h;obtain⟨⟨⟨h1,hc⟩,hs⟩,h2⟩:=h;refine⟨?_,h2⟩
 cases ho:ops[i]? with
 |none=>rw[ho]at h1;cases h1
 |some o=>
  rw[ho]at h1;simp only[Bool.and_eq_true,List.all_eq_true,Option.isNone_iff_eq_none,Bool.not_eq_true']at h1;obtain⟨⟨⟨⟨⟨g1,g2⟩,_⟩,_⟩,g5⟩,g6⟩:=h1;refine⟨⟨o,ho,g1,g2,fun j hj=>?_⟩,fun j hj hr=>?_,hc,hs⟩
  ·have h3:=g6 j hj;obtain⟨k1,k2⟩:=h3
   cases hoj:ops[j]? with
   |none=>rw[hoj]at k2;cases k2
   |some oj=>
    rw[hoj]at k2;simp only[Bool.and_eq_true]at k2;obtain⟨k3,k5⟩:=k2
    cases hd:oj.dst with
    |none=>rw[hd]at k5;cases k5
    |some d=>
     rw[hd]at k5;exact⟨oj,d,k1,rfl,k3,hd,by simpa using k5⟩
  have h3:=g5 j (by simpa using hj);rw[hr]at h3;have h4:(pd.contains j=true∨ex=some j)∨qK ops (i::pre) j=true:=by simpa using h3
  rcases h4 with(h4|h4)|h4
  ·exact .inl (by simpa using h4)
  ·exact .inr (.inl h4)
  refine .inr (.inr ?_);unfold qK at h4;obtain⟨k,hk,hc⟩:=List.any_eq_true.1 h4;exact⟨k,hk,hc⟩
theorem sd {ops:Array Oper}{ws:WL}{pre:List Nat}{t:WL}(h:kA ops ws pre t=true){i:Nat}(hi:i<ops.size)(hw:jc ws i=true):i∈pre∨r9 t i=true∨∃j,j<ops.size∧jc ws j=true∧j∉pre∧ff ops ops.size i j=true:=by
 unfold kA at h;have h1:=List.all_eq_true.1 h i (by simpa using hi);rw[hw]at h1;simp only[Bool.not_true,Bool.false_or,Bool.or_eq_true]at h1
 rcases h1 with(h1|h1)|h1
 ·exact .inl (by simpa using h1)
 ·exact .inr (.inl h1)
 obtain⟨j,hj,h2⟩:=List.any_eq_true.1 h1;simp only[Bool.and_eq_true,Bool.not_eq_true']at h2;exact .inr (.inr ⟨j,by simpa using hj,h2.1.1,by simpa using h2.1.2,h2.2⟩)
theorem uo {ops:Array Oper}{ws:WL}(h1:EY ops ws=true):PI ops ws:=by
 unfold EY at h1;have hi:∀i o,ops[i]? =some o→((∀p∈df ops i,p<i)∧(∀j,j<ops.size→j≠i→∀t,bt ops j=some t→bt ops i≠some t))∧(bK ws i=true→Ky ops ws i o=true):=by
  intro i o ho;have SI:=(Array.getElem?_eq_some_iff.1 ho).1;have h3:=List.all_eq_true.1 h1 i (by simpa using SI);rw[ho]at h3;simp only[Bool.and_eq_true,List.all_eq_true,decide_eq_true_eq]at h3;obtain⟨⟨a1,a2⟩,a3⟩:=h3;refine⟨⟨a1,fun j hj SW t ht hti=>?_⟩,fun hr=>by rw[hr]at a3;simpa using a3⟩;have h4:=a2 j (by simpa using hj);rw[ht,hti]at h4
  simp[SW]at h4
 refine⟨fun i o ho=>(hi i o ho).1.1,fun j k t hj hk SW h3 h4=>?_,fun i o ho hr t ht j hj hd=>?_,fun i o g want ho hr hg=>?_⟩
 ·exact(hi k ops[k] (Array.getElem?_eq_getElem hk)).1.2 j hj SW t h3 h4
 ·have h3:=(hi i o ho).2 hr;unfold Ky at h3;rw[Bool.and_eq_true]at h3;have h4:=List.all_eq_true.1 (List.all_eq_true.1 h3.1 t ht) j (by simpa using hj);rw[hd]at h4;refine⟨fun ZF=>?_,fun ZF=>?_⟩
  ·rw[ZF]at h4;simpa using h4
  rw[ZF]at h4;simpa using h4
 have h3:=(hi i o ho).2 hr;unfold Ky at h3;rw[Bool.and_eq_true,hg]at h3
 simpa[and_assoc]using h3.2
open Classical in
noncomputable def ug (s:St)(H:Tmp→Prop):St:={s with env:=s.env.filter fun p=>decide (¬H p.1)}
open Classical in
theorem rO (H:Tmp→Prop)(t:Tmp):∀l:List (Nat×V),lk (l.filter fun p=>decide (¬H p.1)) t=if H t then .unk else lk l t
 |[]=>by simp[lk]
 |(t',v)::r=>by
  have ih:=rO H t r
  by_cases hH:H t'
  ·rw[List.filter_cons_of_neg (by simpa using hH),ih]
   by_cases ht:t=t'
   ·subst ht;simp[hH]
   simp[lk,ht]
  rw[List.filter_cons_of_pos (by simpa using hH)];simp only[lk]
  by_cases ht:t=t'
  ·subst ht;simp[hH]
  simp only[ht,if_false];exact ih
theorem s6 (s:St)(H:Tmp→Prop)(t:Tmp)(h:¬H t):lk (ug s H).env t=lk s.env t:=by
 unfold ug;simp only[rO,if_neg h]
theorem zH (s:St)(H:Tmp→Prop)(t:Tmp)(h:H t):lk (ug s H).env t= .unk:=by
 unfold ug;simp only[rO,if_pos h]
structure RU (H:Tmp→Prop) (a a':Act):Prop where
 defers:a.defers=a'.defers
 size:a.tmps.size=a'.tmps.size
 tmps:∀t,¬H t→a.tmps[t]? =a'.tmps[t]?
theorem RU.refl (H:Tmp→Prop)(a:Act):RU H a a:=⟨rfl,rfl,fun _ _=>rfl⟩
theorem RU.eq {H:Tmp→Prop}{a a':Act}(h:RU H a a')(hH:∀t,¬H t):a=a':=by
 obtain⟨h1,h2,h3⟩:=h
 cases a;cases a'
 simp only[Act.mk.injEq];exact⟨Array.ext_getElem? fun i=>h3 i (hH i),h1⟩
theorem RU.getD {H:Tmp→Prop}{a a':Act}(h:RU H a a'){t:Tmp}(ht:¬H t):a.tmps.getD t undef=a'.tmps.getD t undef:=by
 rw[Array.getD_eq_getD_getElem?,Array.getD_eq_getD_getElem?,h.tmps t ht]
theorem RU.put {H:Tmp→Prop}{a a':Act}(h:RU H a a')(dst:Option Tmp)(v:Value):RU H (a.put dst v) (a'.put dst v):=by
 cases dst with
 |none=>exact h
 |some d=>
  refine⟨h.defers,by simp[Act.put,h.size],fun t ht=>?_⟩;simp only[Act.put,Array.getElem?_setIfInBounds,h.size]
  split
  ·rfl
  exact h.tmps t ht
theorem nj {a:Act}{d t:Tmp}{v:Value}:(a.put (some d) v).tmps[t]? =if t=d∧d<a.tmps.size then some v else a.tmps[t]? :=by
 simp only[Act.put,Array.getElem?_setIfInBounds]
 by_cases h1:d=t
 ·subst h1
  by_cases h2:d<a.tmps.size
  ·simp[h2]
  simp[h2]
 rw[if_neg h1,if_neg (fun h=>h1 h.1.symm)]
theorem aS.ug {G:Ctx}{dom:Nat→Prop}{ρ:Nat→Loc}{s:St}{a a':Act}{w:World}{H:Tmp→Prop}(h:aS G dom ρ s a' w)(hu:RU H a a'):aS G dom ρ (ug s H) a w:=
 {
  h with
  hd:=by rw[hu.defers];exact h.hd
  hn:=by rw[hu.size];exact h.hn
  env:=fun t=>by
   by_cases ht:H t
   ·rw[zH _ _ _ ht];trivial
   rw[s6 _ _ _ ht,hu.getD ht];exact h.env t}
theorem RU.exec {H:Tmp→Prop}{a a':Act}(h:RU H a a'){o:Oper}(Xt:xZ o.op=true)(ht:∀t∈tmpsOf o,¬H t):execOp a.eval o=execOp a'.eval o:=by
 refine execOp_congr o (fun cs b he=>by rw[he]at Xt;cases Xt) fun x hx=>?_
 cases x with
 |tmp t=>exact h.getD (ht t (List.mem_filterMap.2 ⟨.tmp t,by simpa using hx,rfl⟩))
 |const v=>rfl
 |global g=>rfl
 |func f=>rfl
theorem RU.wp {P:Program}{H:Tmp→Prop}{a a':Act}(h:RU H a a'){o:Oper}(Xt:xZ o.op=true)(ht:∀t∈tmpsOf o,¬H t){w:World}{next next':Act→World→Prop}{Q:Exit→Act→World→Prop}
  (hQ:∀ch a a' w,Q (.panic ch) a w→Q (.panic ch) a' w) (hn:∀b b' w,RU H b b'→next' b' w→next b w) (hw:o.wp P a' w next' Q):o.wp P a w next Q:=by
 unfold Oper.wp at hw⊢;rw[h.exec Xt ht]
 cases hr:(execOp a'.eval o).run P w with
 |halt x w'=>
  rw[hr]at hw
  cases x<;>first|exact hQ _ _ _ _ hw|exact hw.elim
 |ok x w'=>
  rw[hr]at hw
  cases x with
  |value v=>exact hn _ _ _ (h.put _ v) hw
  |skip=>exact hn _ _ _ (h.put _ undef) hw
  |defer d=>
   refine hn _ _ _ (RU.put (⟨?_,h.size,h.tmps⟩:RU H {a with defers:=d::a.defers} {a' with defers:=d::a'.defers}) _ undef) hw;simp only[h.defers]
  |enter f args=>
   refine Calls.mono hw fun e w'' he=>?_
   cases e with
   |returned v=>exact hn _ _ _ (h.put _ v) he
   |panicked ch=>exact hQ _ _ _ _ he
   |outgrown=>exact he
  |row r args=>exact Rows.mono hw fun v w'' he=>hn _ _ _ (h.put _ v) he
  |_=>exact hw.elim
section
variable {P:Program}{ops:Array Oper}{ws:WL}{σ:St}{es:Nat→eX}{K:St→Prop}
def Jt (P:Program)(ops:Array Oper)(s:St)(o:Oper)(d:Nat):Prop:=match o.guard with
 |none=>Mm P o s s.nx (lk s.env d)
 |some (g,want)=>∃t b,bt ops g=some t∧gv (lk s.env t)=some b∧(if b=some want then Mm P o s s.nx (lk s.env d)else lk s.env d= .aB [])
def Promise (P:Program)(ops:Array Oper)(s:St)(pd:List Nat):Prop:=∀j∈pd,∃o d,ops[j]? =some o∧o.dst=some d∧Jt P ops s o d∧d<s.n
def Eg (P:Program)(ops:Array Oper)(i:Nat)(pd:List Nat)(s:St)(K:St→Prop):Prop:=∃o,ops[i]? =some o∧bY o s.n∧mY P o s (fun s'=>Promise P ops s' pd∧K s')
def mo (P:Program)(ops:Array Oper):WL→St→(St→Prop)→Prop
 |.nil,s,K=>K s
 |.cons i pd sub .nil,s,K=>Eg P ops i pd s (fun s'=>mo P ops sub s' K)
 |.cons i pd sub (.cons i' pd' sub' alt'),s,K=>Eg P ops i pd s (fun s'=>mo P ops sub s' K)∧mo P ops (.cons i' pd' sub' alt') s K
 |.cons _ _ _ (.opt _ _ _ _),_,_=>False
 |.opt _ _ _ _,_,_=>False
theorem nJ {P:Program}{ops:Array Oper}{ws:WL}{ex:Option Nat}{pre:List Nat}{i:Nat}{s:St}{K:St→Prop}:∀{t:WL},mo P ops t s K→np ops ws ex pre t=true→r9 t i=true→∃pd sub,Eg P ops i pd s (fun s'=>mo P ops sub s' K)∧PX ops ws ex pre i pd sub
 |.nil,_,_,hn=>by cases hn
 |.opt _ _ _ _,_,_,hn=>by cases hn
 |.cons _ _ _ (.opt _ _ _ _),h,_,_=>by rw[mo]at h;exact h.elim
 |.cons i0 pd sub .nil,h,hg,hn=>by
  simp only[r9]at hn
  by_cases he:i=i0
  ·subst he;rw[mo]at h;exact⟨pd,sub,h,(jh hg).1⟩
  rw[if_neg he]at hn;cases hn
 |.cons i0 pd sub (.cons i' pd' sub' alt'),h,hg,hn=>by
  rw[mo]at h
  by_cases he:i=i0
  ·subst he;exact⟨pd,sub,h.1,(jh hg).1⟩
  refine nJ h.2 (jh hg).2 ?_;rw[r9,if_neg he]at hn;exact hn
def hid (ops:Array Oper)(ws:WL)(listed:Array Bool)(t:Tmp):Prop:=∃j,j<ops.size∧bK ws j=true∧listed.getD j false=false∧bt ops j=some t
def uK (σ:St)(ops:Array Oper)(es:Nat→eX)(ws:WL):St:={aL σ σ.nx ops es (bK ws) ops.size with nx:=σ.nx+ops.size}
structure pf (P:Program) (G:Ctx) (ops:Array Oper) (ws:WL) (ex:Option Nat) (F:Prop) (σ:St) (es:Nat→eX) (K:St→Prop) (listed:Array Bool) (a:Act) (w:World):Prop where
 size:listed.size=ops.size
 down:∀i,listed.getD i false=true→∀p∈df ops i,listed.getD p false=true
 where_:(F∧(∀i,listed.getD i false=true→bK ws i=true)∧vk G (fun b=>b<σ.nx∨∃j,j<ops.size∧listed.getD j false=true∧b=σ.nx+j) (aL σ σ.nx ops es (fun j=>bK ws j&&listed.getD j false) ops.size) a w)∨
  (∃(pre:List Nat) (rest:WL) (pd:List Nat) (s:St) (a':Act),(∀j,j<ops.size→bK ws j=false→(listed.getD j false=true↔j∈pre))∧(∀k∈pre,listed.getD k false=true)∧np ops ws ex pre rest=true∧(kA ops ws pre rest=true∧∀q,ex=some q→listed.getD q false=true)∧
   (∀j,j<ops.size→bK ws j=true→listed.getD j false=false→j∈pd)∧mo P ops rest s K∧Promise P ops s pd∧oT G s a' w∧RU (hid ops ws listed) a a')
theorem mI (L:Nat→Bool)(t:Nat):∀k,(∀j,j<k→L j=true→bt ops j≠some t)→lk (aL σ σ.nx ops es L k).env t=lk σ.env t:=by
 intro k
 induction k with
 |zero=>intro _;rfl
 |succ k ih=>
  intro h;simp only[aL]
  split
  ·rename_i hL
   rw[kb,if_neg (h k (Nat.lt_succ_self k) hL)];exact ih (fun j hj=>h j (Nat.lt_succ_of_lt hj))
  exact ih (fun j hj=>h j (Nat.lt_succ_of_lt hj))
theorem P9 (S3:PI ops ws){i:Nat}{o:Oper}(ho:ops[i]? =some o)(hi:bK ws i=true){L:Nat→Bool}(hL:∀j,L j=true→bK ws j=true)(hp:∀p∈df ops i,bK ws p=true→L p=true):
  iO (aL σ σ.nx ops es (bK ws) i) (aL σ σ.nx ops es L ops.size) σ.nx o:=by
 have Tz:=(Array.getElem?_eq_some_iff.1 ho).1;refine⟨by rw[fV,fV],fun x hx=>?_,fun b hb=>by rw[jj _ ops.size b hb,jj _ i b hb]⟩
 cases x with
 |tmp t=>
  have Vz:t∈tmpsOf o:=List.mem_filterMap.2 ⟨.tmp t,by simpa using hx,rfl⟩;show lk _ t=lk _ t
  by_cases hex:∃j,j<ops.size∧bK ws j=true∧bt ops j=some t
  ·obtain⟨j,hj,TM,hd⟩:=hex;obtain⟨Ux,Z3⟩:=(S3.data i o ho hi t Vz j hj hd).1 TM;rw[dA (N:=ops.size) L hd (hp j Z3 TM) S3.dst ops.size (O1 _) hj,dA (N:=ops.size) (bK ws) hd TM S3.dst i (by omega) Ux]
  rw[mI L t ops.size (fun j hj hLj h=>hex ⟨j,hj,hL j hLj,h⟩),mI (bK ws) t i (fun j hj hLj h=>hex ⟨j,by omega,hLj,h⟩)]
 |const v=>rfl
 |global g=>rfl
 |func f=>rfl
theorem ghost (S3:PI ops ws)(Up:∀j,∀b∈(es j).fz,b<σ.nx)
  (Un:∀(i:Nat) o,bK ws i=true→ops[i]? =some o→l9 P ops σ.nx i o (aL σ σ.nx ops es (bK ws) i) (es i))
  {G:Ctx} {listed:Array Bool} {a:Act} {w:World} {dom:Nat→Prop} (hW:∀i,listed.getD i false=true→bK ws i=true)
  (WW:∀j,j<ops.size→bK ws j=true→listed.getD j false=false→∃o,ops[j]? =some o∧iE o.op=true)
  (hs:vk G dom (aL σ σ.nx ops es (fun j=>bK ws j&&listed.getD j false) ops.size) a w) (Yj:∀i,listed.getD i false=true→∀p∈df ops i,listed.getD p false=true):
  ∀n,n≤ops.size→∃a',vk G dom (aL σ σ.nx ops es (fun j=>bK ws j&&(listed.getD j false||decide (j<n))) ops.size) a' w∧RU (hid ops ws listed) a a':=by
 intro n
 induction n with
 |zero=>
  intro _;refine⟨a,?_,RU.refl _ _⟩;rw[cQ (L':=fun j=>bK ws j&&listed.getD j false) ops.size (fun j _=>by simp)];exact hs
 |succ n ih=>
  intro hn;obtain⟨a',⟨ρ,h1⟩,hu⟩:=ih (by omega)
  by_cases hc:bK ws n=true∧listed.getD n false=false
  ·obtain⟨hR,hl⟩:=hc;obtain⟨o,ho,SI⟩:=WW n (by omega) hR hl;obtain⟨TB,S1⟩:=Un n o hR ho
   have UL:=P9 (σ:=σ) (es:=es) S3 ho hR (L:=fun j=>bK ws j&&(listed.getD j false||decide (j<n))) (fun j hj=>by simp at hj;exact hj.1) (fun p hp hpR=>by
    have:=S3.pred n o ho p hp
    simp[hpR,this])
   have SV:(es n).wz=none∧(es n).fz=[]∧∃v,cE ρ dom (aI G (aL σ σ.nx ops es (fun j=>bK ws j&&(listed.getD j false||decide (j<n))) ops.size).own ρ w) w (es n).val v:=by
    have doit:a7 P o (aL σ σ.nx ops es (bK ws) n) σ.nx (σ.nx+n) (es n)→(es n).wz=none∧(es n).fz=[]∧∃v,cE ρ dom (aI G (aL σ σ.nx ops es (fun j=>bK ws j&&(listed.getD j false||decide (j<n))) ops.size).own ρ w) w (es n).val v:=fun TT=>by
     obtain⟨WX,WY,Vp⟩:=TT.2 SI;obtain⟨v,_,hv⟩:=Vp G dom ρ _ a' w h1 UL;exact⟨WX,WY,v,hv⟩
    split at S1
    ·exact doit S1
    obtain⟨t,b,_,_,S1⟩:=S1
    split at S1
    ·exact doit S1
    rw[S1];exact⟨rfl,rfl,undef,⟨#[],rfl,trivial⟩⟩
   obtain⟨WX,WY,v,hv⟩:=SV;have TS:bt ops n=o.dst:=by unfold bt;rw[ho];rfl
   have h2:=h1.put (dst:=o.dst) (x:=(es n).val) (v:=v) (fun d hd=>by have:=TB d hd;rw[fV]at this⊢;exact this) hv;refine⟨a'.put o.dst v,⟨ρ,?_⟩,?_⟩
   ·have he:es n=⟨(es n).val,none,[]⟩:=by
     cases hen:es n with
     |mk v b f=>rw[hen]at WX WY;simp only at WX WY;rw[WX,WY]
    have h3:=nD (σ:=σ) (nx0:=σ.nx) (e:=es) (N:=ops.size) (L:=fun j=>bK ws j&&(listed.getD j false||decide (j<n))) (i:=n) (by simp[hl]) S3.dst Up ops.size (O1 _) (by omega)
    rw[he,St.add_plain,TS]at h3;have h4:=h2.Jl h3.symm
    rw[cQ (L':=fun j=>(bK ws j&&(listed.getD j false||decide (j<n)))||j==n) ops.size (fun j _=>?_)]
    ·exact h4
    by_cases Wp:j=n
    ·subst Wp;simp[hR]
    have e1:decide (j<n+1)=decide (j<n):=by simp;omega
    have e2:(j==n)=false:=by simpa using Wp
    rw[e1,e2,Bool.or_false]
   cases hd:o.dst with
   |none=>exact hu
   |some d=>
    refine⟨hu.defers,by rw[hu.size];simp[Act.put],fun t ht=>?_⟩;rw[nj,if_neg,hu.tmps t ht];rintro⟨rfl,_⟩;exact ht ⟨n,by omega,hR,hl,by rw[TS,hd]⟩
  refine⟨a',⟨ρ,?_⟩,hu⟩
  rw[cQ (L':=fun j=>bK ws j&&(listed.getD j false||decide (j<n))) ops.size (fun j _=>?_)]
  ·exact h1
  by_cases Wp:j=n
  ·subst Wp
   cases hR:bK ws j with
   |false=>rfl
   |true=>
    have:listed.getD j false=true:=by
     cases hl:listed.getD j false with
     |true=>rfl
     |false=>exact absurd ⟨hR,hl⟩ hc
    rw[this];rfl
  have e1:decide (j<n+1)=decide (j<n):=by simp;omega
  rw[e1]
theorem lY {L:Nat→Bool}(h:∀j,j<ops.size→bK ws j=true→L j=true):aL σ σ.nx ops es (fun j=>bK ws j&&L j) ops.size=aL σ σ.nx ops es (bK ws) ops.size:=
 cQ ops.size fun j hj=>by
  cases hR:bK ws j with
  |false=>rfl
  |true=>rw[h j hj hR];rfl
theorem Nm {ex:Option Nat}{F:Prop}{G:Ctx}{Q:Exit→Act→World→Prop}(hP:∀ch a a' w,Q (.panic ch) a w→Q (.panic ch) a' w){fuel:Nat}{listed:Array Bool}{a:Act}{w:World}(UF:listed.size=ops.size)(TP:∀i,listed.getD i false=true→∀p∈df ops i,listed.getD p false=true)
  {i:Nat} (Tz:i<ops.size) (hp:∀p∈df ops i,listed.getD p false=true) (hiW:bK ws i=false) {pre:List Nat} {sub:WL} {pdi:List Nat} {s:St} {a':Act} (h1:∀j,j<ops.size→bK ws j=false→(listed.getD j false=true↔j∈pre)) (UC:∀k∈pre,listed.getD k false=true)
  (T8:PX ops ws ex pre i pdi sub) (h6:Eg P ops i pdi s (fun s'=>mo P ops sub s' K)) (h8:oT G s a' w) (h9:RU (hid ops ws listed) a a') (VT:∀q,ex=some q→listed.getD q false=true)
  (ih:∀a w,pf P G ops ws ex F σ es K (listed.setIfInBounds i true) a w→wpAny P .any ops Q fuel (listed.setIfInBounds i true) a w):wpOp P ops Q i (wpAny P .any ops Q fuel (listed.setIfInBounds i true)) a w:=by
 have ho:=Array.getElem?_eq_getElem Tz;have SI:i<listed.size:=by rw[UF];exact Tz
 have Ue:∀j,(listed.setIfInBounds i true).getD j false=true→∀p∈df ops j,(listed.setIfInBounds i true).getD p false=true:=by
  intro j hj p Yk;rw[aZ SI]at hj⊢
  rcases Bool.or_eq_true_iff.1 hj with hj|hj
  ·rw[TP j hj p Yk];rfl
  have:j=i:=by simpa using hj
  subst this;rw[hp p Yk];rfl
 have Uu:∀j,ff ops ops.size i j=true→listed.getD j false=true:=fun j hj=>fK TP _ i j hp hj;obtain⟨o,TV,hg,Xt,VA⟩:=T8.op;rw[ho]at TV;obtain rfl:=Option.some.inj TV;obtain⟨o2,UQ,TB,hwe⟩:=h6;rw[ho]at UQ;obtain rfl:=Option.some.inj UQ;have Ym:∀j,j<ops.size→bK ws j=true→listed.getD j false=false→j∈pdi:=fun j hj TM Tj=>by
  rcases T8.all j hj TM with k|ke|⟨k0,WZ,k⟩
  ·exact k
  ·rw[VT j ke]at Tj;cases Tj
  rcases List.mem_cons.1 WZ with rfl|WZ
  ·rw[Uu j k]at Tj;cases Tj
  rw[fK TP _ k0 j (TP k0 (UC k0 WZ)) k]at Tj;cases Tj
 unfold wpOp;simp only[ho];rw[il hg,if_pos rfl];refine .inl (h9.wp Xt (fun t ht hh=>?_) hP ?_ (hwe G a' w h8 Q (fun b' w'=>∃s',(Promise P ops s' pdi∧mo P ops sub s' K)∧oT G s' b' w') fun s' b' w' k1 k2=>⟨s',k1,k2⟩))
 ·obtain⟨j,hj,TM,Tj,U0⟩:=hh;obtain⟨oj,d,_,k1,_,k2,k3⟩:=VA j (Ym j hj TM Tj)
  have:bt ops j=some d:=by unfold bt;rw[k1];exact k2
  rw[this]at U0;obtain rfl:=Option.some.inj U0;exact k3 ht
 rintro b b' w' ZL ⟨s',⟨k1,k2⟩,k3⟩;refine ih _ _ ⟨by simpa using UF,Ue,.inr ⟨i::pre,sub,pdi,s',b',fun j hj TM=>?_,fun k hk=>?_,T8.sub,⟨T8.cov,fun q hq=>by rw[aZ SI,VT q hq];rfl⟩,fun j hj TM Tj=>?_,k2,k1,k3,⟨ZL.defers,ZL.size,fun t ht=>ZL.tmps t fun hh=>ht ?_⟩⟩⟩
 ·rw[aZ SI,Bool.or_eq_true,h1 j hj TM,List.mem_cons,beq_iff_eq]
  constructor
  ·rintro(k|k)
   ·exact .inr k
   exact .inl k
  rintro(k|k)
  ·exact .inr k
  exact .inl k
 ·rw[aZ SI,Bool.or_eq_true,beq_iff_eq]
  rcases List.mem_cons.1 hk with hk|hk
  ·exact .inr hk
  exact .inl (UC k hk)
 ·rw[aZ SI]at Tj;simp only[Bool.or_eq_false_iff]at Tj;exact Ym j hj TM Tj.1
 obtain⟨j,hj,TM,Tj,U0⟩:=hh;refine⟨j,hj,TM,?_,U0⟩;rw[aZ SI,Tj,Bool.false_or,beq_eq_false_iff_ne];intro e;rw[e,hiW]at TM;cases TM
theorem mc {ex:Option Nat}{F:Prop}(S3:PI ops ws)(hcov:F→kA ops ws [] ws=true)(hgw:F→np ops ws ex [] ws=true)(Up:∀j,∀b∈(es j).fz,b<σ.nx)
  (Un:F→∀(i:Nat) o,bK ws i=true→ops[i]? =some o→l9 P ops σ.nx i o (aL σ σ.nx ops es (bK ws) i) (es i))
  (hW:F→mo P ops ws (uK σ ops es ws) K)
  {G:Ctx} {Q:Exit→Act→World→Prop} (W1:F→∀q,ex=some q→∀(fuel:Nat) (listed:Array Bool) (a:Act) (w:World) (i:Nat),pf P G ops ws ex F σ es K listed a w→(∀j,listed.getD j false=true→bK ws j=true)→
   vk G (fun b=>b<σ.nx∨∃j,j<ops.size∧listed.getD j false=true∧b=σ.nx+j) (aL σ σ.nx ops es (fun j=>bK ws j&&listed.getD j false) ops.size) a w→listed.getD q false=false→
   i∈Region.ready .any ops listed→jc ws i=true→iG ops listed≤fuel+1→wpOp P ops Q i (wpAny P .any ops Q fuel (listed.setIfInBounds i true)) a w) (hQ:∀s a w,K s→oT G s a w→Q .normal a w) (hP:∀ch a a' w,Q (.panic ch) a w→Q (.panic ch) a' w):
  ∀(fuel:Nat) (listed:Array Bool) (a:Act) (w:World),pf P G ops ws ex F σ es K listed a w→iG ops listed≤fuel→wpAny P .any ops Q fuel listed a w:=by
 have Wg:∀(listed:Array Bool) (a:Act) (w:World),pf P G ops ws ex F σ es K listed a w→(∀j,j<ops.size→listed.getD j false=true)→Q .normal a w:=by
  intro listed a w h SM
  rcases h.where_ with⟨hF,hR,ρ,SP⟩|⟨pre,rest,pd,s,a',h1,h2,h3,h4,h5,h6,h7,h8,h9⟩
  ·have hW:=hW hF;have Zo:∀i,i<ops.size→jc ws i=false:=fun i hi=>by
    have:=hR i (SM i hi)
    simpa[bK]using this
   cases hws:ws with
   |nil=>
    rw[hws]at hW SP;refine hQ _ a w hW ⟨ρ,?_⟩;rw[lY (fun j hj _=>SM j hj)]at SP
    have U1:=SP.cU (dom':=fun b=>b<σ.nx+ops.size) (fun b hb=>by rcases hb with hb|⟨j,hj,_,rfl⟩<;>omega)
    exact U1.Jl ⟨fun _=>rfl,fun _=>rfl,rfl⟩
   |cons i pd sub alt=>
    exfalso
    have hw:=hgw hF;rw[hws]at hw;obtain⟨o,ho,_⟩:=(jh hw).1.op
    have:=Zo i (Array.getElem?_eq_some_iff.1 ho).1
    rw[hws]at this
    simp[jc]at this
   |opt _ _ _ _=>rw[hws]at hW;exact hW.elim
  cases W2:rest with
  |nil=>
   rw[W2]at h6;have ha:a=a':=h9.eq fun t ht=>by
    obtain⟨j,hj,_,hl,_⟩:=ht;rw[SM j hj]at hl;cases hl
   subst ha;exact hQ s a w h6 h8
  |opt _ _ _ _=>rw[W2]at h6;exact h6.elim
  |cons i pd' sub alt=>
   exfalso
   rw[W2]at h3;have XO:=h3;simp only[np,Bool.and_eq_true]at XO;obtain⟨⟨⟨V5,_⟩,_⟩,_⟩:=XO
   cases ho:ops[i]? with
   |none=>rw[ho]at V5;cases V5
   |some o=>
    rw[ho]at V5;simp only[Bool.and_eq_true,Bool.not_eq_true']at V5;obtain⟨⟨⟨⟨⟨_,_⟩,hnp⟩,hwi⟩,_⟩,_⟩:=V5;have Tz:=(Array.getElem?_eq_some_iff.1 ho).1
    have:=(h1 i Tz (by simp[bK,hwi])).1 (SM i Tz)
    simp[this]at hnp
 intro fuel
 induction fuel with
 |zero=>
  intro listed a w h hf;have SM:=rR (Nat.le_zero.1 hf);refine⟨?_,Wg listed a w h SM⟩
  cases hr:Region.ready .any ops listed with
  |nil=>rfl
  |cons i l=>
   obtain⟨_,hi,hu⟩:=g7 (i:=i) (listed:=listed) (ops:=ops) (by rw[hr];simp);have h1:=SM i hi;have SI:i<listed.size:=by rw[h.size];exact hi
   simp[Array.getD,SI]at h1 hu
   rw[h1]at hu;cases hu
 |succ fuel ih=>
  intro listed a w h hf;refine⟨fun hr=>?_,fun i hi=>?_⟩
  ·have SM:∀n i,i<n→i<ops.size→listed.getD i false=true:=by
    intro n
    induction n with
    |zero=>intro i hi;omega
    |succ n ihn=>
     intro i Tb Tz
     by_cases hu:listed.getD i false=true
     ·exact hu
     have SI:i<listed.size:=by rw[h.size];exact Tz
     have S4:listed.getD i true=false:=by
      simp[Array.getD,SI]at hu⊢
      exact hu
     have hm:=mV (ops:=ops) (Array.getElem?_eq_getElem Tz) S4 (fun p hp=>ihn p (by have:=S3.pred i _ (Array.getElem?_eq_getElem Tz) p hp;omega) (by have:=S3.pred i _ (Array.getElem?_eq_getElem Tz) p hp;omega));rw[hr]at hm;cases hm
   exact Wg listed a w h (fun j hj=>SM _ j (Nat.lt_succ_self _) hj)
  obtain⟨hp,Tz,hu⟩:=g7 hi;have ho:=Array.getElem?_eq_getElem Tz;have hcount:=o8 h.size Tz hu;have SI:i<listed.size:=by rw[h.size];exact Tz
  have S4:listed.getD i false=false:=by
   simp[Array.getD,SI]at hu⊢
   exact hu
  have Ue:∀j,(listed.setIfInBounds i true).getD j false=true→∀p∈df ops j,(listed.setIfInBounds i true).getD p false=true:=by
   intro j hj p Yk;rw[aZ SI]at hj⊢
   rcases Bool.or_eq_true_iff.1 hj with hj|hj
   ·rw[h.down j hj p Yk];rfl
   have:j=i:=by simpa using hj
   subst this;rw[hp p Yk];rfl
  have Uu:∀j,ff ops ops.size i j=true→listed.getD j false=true:=fun j hj=>fK h.down _ i j hp hj
  by_cases VL:bK ws i=true
  ·rcases h.where_ with⟨hF,Wu,ρ,SP⟩|⟨pre,rest,pd,s,a',h1,h2,h3,h4,h5,h6,h7,h8,h9⟩
   ·have S1:=Un hF i ops[i] VL ho;have UL:=P9 (σ:=σ) (es:=es) S3 ho VL (L:=fun j=>bK ws j&&listed.getD j false) (fun j hj=>by simp at hj;exact hj.1) (fun p VU hpR=>by rw[hpR,hp p VU];rfl);have UM:∀a' w',vk G (fun b=>(b<σ.nx∨∃j,j<ops.size∧listed.getD j false=true∧b=σ.nx+j)∨b=σ.nx+i) ((aL σ σ.nx ops es (fun j=>bK ws j&&listed.getD j false) ops.size).add (bt ops i) (σ.nx+i) (es i)) a' w'→
      pf P G ops ws ex F σ es K (listed.setIfInBounds i true) a' w':=by
     rintro a' w' ⟨ρ',k1⟩;refine⟨by simpa using h.size,Ue,.inl ⟨hF,fun j hj=>?_,ρ',?_⟩⟩
     ·rw[aZ SI]at hj
      rcases Bool.or_eq_true_iff.1 hj with hj|hj
      ·exact Wu j hj
      have:j=i:=by simpa using hj
      rw[this];exact VL
     have k2:=k1.cU (dom':=fun b=>b<σ.nx∨∃j,j<ops.size∧(listed.setIfInBounds i true).getD j false=true∧b=σ.nx+j) (fun b hb=>by
      rcases hb with(hb|⟨j,hj,ZE,rfl⟩)|rfl
      ·exact .inl hb
      ·exact .inr ⟨j,hj,by rw[aZ SI,ZE];rfl,rfl⟩
      exact .inr ⟨i,Tz,by rw[aZ SI];simp,rfl⟩)
     have k3:=nD (σ:=σ) (nx0:=σ.nx) (e:=es) (N:=ops.size) (L:=fun j=>bK ws j&&listed.getD j false) (i:=i) (by simp[S4]) S3.dst Up ops.size (O1 _) Tz;have k4:=k2.Jl k3.symm
     rw[cQ (L:=fun j=>(bK ws j&&listed.getD j false)||j==i) (L':=fun j=>bK ws j&&(listed.setIfInBounds i true).getD j false) ops.size (fun j _=>by
      rw[aZ SI]
      by_cases Ux:j=i
      ·subst Ux;simp[VL]
      have:(j==i)=false:=by simpa using Ux
      rw[this,Bool.or_false,Bool.or_false])]at k4
     exact k4
    have TS:bt ops i=ops[i].dst:=by unfold bt;rw[ho];rfl
    have hid':¬(σ.nx+i<σ.nx∨∃j,j<ops.size∧listed.getD j false=true∧σ.nx+i=σ.nx+j):=by
     rintro(k1|⟨j,_,hj,he⟩)
     ·omega
     have:i=j:=by omega
     subst this;rw[S4]at hj;cases hj
    unfold wpOp;simp only[ho];obtain⟨TB,S1⟩:=S1;have doit:a7 P ops[i] (aL σ σ.nx ops es (bK ws) i) σ.nx (σ.nx+i) (es i)→ops[i].wp P a w (wpAny P .any ops Q fuel (listed.setIfInBounds i true)) Q:=by
     intro TT;refine TT.1 G _ ρ _ a w SP hid' UL Q _ fun v w' k5=>?_;refine ih _ _ _ (UM _ _ ?_) (by omega);rw[TS];exact k5
    split at S1
    ·rename_i hg
     rw[il hg,if_pos rfl];exact .inl (doit S1)
    rename_i g want hg
    obtain⟨t,b,ht,hb,S1⟩:=S1;obtain⟨UR,Yl,YK⟩:=S3.guard i _ g want ho VL hg;have Tq:gv (lk (aL σ σ.nx ops es (fun j=>bK ws j&&listed.getD j false) ops.size).env t)=some b:=by
     rw[dA (N:=ops.size) (fun j=>bK ws j&&listed.getD j false) (t:=t) (j:=g) ht (by rw[YK,hp g Yl];rfl) S3.dst ops.size (O1 _) (by omega)];rw[dA (N:=ops.size) (bK ws) (t:=t) (j:=g) ht YK S3.dst i (by omega) UR]at hb;exact hb
    rw[nE SP hg ht Tq]
    by_cases TL:b=some want
    ·rw[if_pos TL]at S1;rw[if_pos (by simp[TL])];exact .inl (doit S1)
    rw[if_neg TL]at S1;rw[if_neg (by simpa using TL)];refine ih _ _ _ (UM _ _ ⟨ρ,?_⟩) (by omega);rw[S1,TS];have k5:=SP.put (dst:=ops[i].dst) (x:=.aB []) (v:=undef) (fun d hd=>by have:=TB d hd;rw[fV]at this⊢;exact this) ⟨#[],rfl,trivial⟩;have k6:=k5.cU (dom':=fun b=>(b<σ.nx∨∃j,j<ops.size∧listed.getD j false=true∧b=σ.nx+j)∨b=σ.nx+i) (fun b hb=>Or.inl hb);unfold eX.skip;rw[St.add_plain];exact k6
   -- one that is late
   have hipd:=h5 i Tz VL S4;obtain⟨o,d,TV,hd,Vp,TP⟩:=h7 i hipd;rw[ho]at TV;obtain rfl:=Option.some.inj TV;obtain⟨ρ,SP⟩:=h8;have TS:bt ops i=some d:=by unfold bt;rw[ho];exact hd
   have W4:=SP.ug h9;have UL:iO s (ug s (hid ops ws listed)) s.nx ops[i]:=by
    refine⟨rfl,fun x hx=>?_,fun b _=>rfl⟩
    cases x with
    |tmp t=>
     have Vz:t∈tmpsOf ops[i]:=List.mem_filterMap.2 ⟨.tmp t,by simpa using hx,rfl⟩;refine s6 _ _ _ fun hh=>?_;obtain⟨j,hj,TM,Tj,U0⟩:=hh;rw[hp j ((S3.data i _ ho VL t Vz j hj U0).1 TM).2]at Tj;cases Tj
    |const v=>rfl
    |global g=>rfl
    |func f=>rfl
   have fin:∀v,cE ρ (fun b=>b<s.nx) (aI G s.own ρ w) w (lk s.env d) v→wpAny P .any ops Q fuel (listed.setIfInBounds i true) (a.put (some d) v) w:=by
    intro v hv;refine ih _ _ _ ?_ (by omega);have TA:aS G (fun b=>b<s.nx) ρ s (a'.put (some d) v) w:=by
     have k1:=SP.put (dst:=some d) (x:=lk s.env d) (v:=v) (fun d' hd'=>by obtain rfl:=Option.some.inj hd';exact TP) hv;refine k1.Jl ⟨fun t=>?_,fun _=>rfl,rfl⟩;rw[En]
     by_cases ht:some d=some t
     ·obtain rfl:=Option.some.inj ht;rw[if_pos rfl]
     rw[if_neg ht]
    refine⟨by simpa using h.size,Ue,.inr ⟨pre,rest,pd,s,a'.put (some d) v,fun j hj TM=>?_,fun k hk=>by rw[aZ SI,h2 k hk];rfl,h3,⟨h4.1,fun q hq=>by rw[aZ SI,h4.2 q hq];rfl⟩,fun j hj TM Tj=>?_,h6,h7,⟨ρ,TA⟩,?_⟩⟩
    ·rw[←h1 j hj TM,aZ SI]
     have:(j==i)=false:=by
      rw[beq_eq_false_iff_ne];intro e;rw[e,VL]at TM;cases TM
     rw[this,Bool.or_false]
    ·rw[aZ SI]at Tj;simp only[Bool.or_eq_false_iff]at Tj;exact h5 j hj TM Tj.1
    refine⟨h9.defers,by simp[Act.put,h9.size],fun t ht=>?_⟩;rw[nj,nj,h9.size]
    split
    ·rfl
    rename_i SW
    by_cases htd:t=d
    ·subst htd;have U1:a'.tmps.size≤t:=Nat.le_of_not_lt fun XO=>SW ⟨rfl,XO⟩;rw[Array.getElem?_eq_none (by rw[h9.size];exact U1),Array.getElem?_eq_none U1]
    refine h9.tmps t fun hh=>ht ?_;obtain⟨j,hj,TM,Tj,U0⟩:=hh;refine⟨j,hj,TM,?_,U0⟩;rw[aZ SI,Tj,Bool.false_or,beq_eq_false_iff_ne];intro e;subst e;rw[TS]at U0;exact htd (Option.some.inj U0).symm
   unfold wpOp;simp only[ho];unfold Jt at Vp
   split at Vp
   ·rename_i hg
    obtain⟨v,SO,hv⟩:=Vp G _ ρ _ a w W4 UL;rw[il hg,if_pos rfl];refine .inl (Oper.cX SO ?_);rw[hd];exact fin v hv
   rename_i g want hg
   obtain⟨t,b,ht,hb,Vp⟩:=Vp;obtain⟨UR,Yl,YK⟩:=S3.guard i _ g want ho VL hg;have Tq:gv (lk (ug s (hid ops ws listed)).env t)=some b:=by
    rw[s6 _ _ _ ?_]
    ·exact hb
    rintro⟨j,hj,TM,Tj,U0⟩
    by_cases hjg:j=g
    ·subst hjg;rw[hp j Yl]at Tj;cases Tj
    exact S3.dst j g t hj (by omega) hjg U0 ht
   rw[nE W4 hg ht Tq]
   by_cases TL:b=some want
   ·rw[if_pos TL]at Vp;rw[if_pos (by simp[TL])];obtain⟨v,SO,hv⟩:=Vp G _ ρ _ a w W4 UL;refine .inl (Oper.cX SO ?_);rw[hd];exact fin v hv
   rw[if_neg TL]at Vp;rw[if_neg (by simpa using TL)];rw[hd];refine fin undef ?_;rw[Vp];exact⟨#[],rfl,trivial⟩
  have hiW:bK ws i=false:=by simpa using VL
  have Zp:jc ws i=true:=by simpa[bK]using hiW
  by_cases hx:∃q,ex=some q∧listed.getD q false=false
  ·obtain⟨q,hq,Vt⟩:=hx
   rcases h.where_ with⟨hF,Wu,SP⟩|⟨pre,rest,pd,s,a',h1,h2,h3,h4,h5,h6,h7,h8,h9⟩
   ·exact W1 hF q hq fuel listed a w i h Wu SP Vt hi Zp hf
   rw[h4.2 q hq]at Vt;cases Vt
  have VT:∀q,ex=some q→listed.getD q false=true:=fun q hq=>by
   cases hl:listed.getD q false with
   |true=>rfl
   |false=>exact absurd ⟨q,hq,hl⟩ hx
  -- where it stands among those that write
  have data:∃(pre:List Nat) (sub:WL) (pdi:List Nat) (s:St) (a':Act),(∀j,j<ops.size→bK ws j=false→(listed.getD j false=true↔j∈pre))∧(∀k∈pre,listed.getD k false=true)∧PX ops ws ex pre i pdi sub∧
    Eg P ops i pdi s (fun s'=>mo P ops sub s' K)∧oT G s a' w∧RU (hid ops ws listed) a a'∧∀q,ex=some q→listed.getD q false=true:=by
   rcases h.where_ with⟨hF,Wu,SP⟩|⟨pre,rest,pd,s,a',h1,h2,h3,h4,h5,h6,h7,h8,h9⟩
   ·rcases sd (hcov hF) Tz Zp with k|k|⟨j,hj,hjw,_,UG⟩
    ·cases k
    ·obtain⟨pdi,sub,VA,T8⟩:=nJ (hW hF) (hgw hF) k;obtain⟨ρ,SP⟩:=SP;obtain⟨a',U2,TU⟩:=ghost (P:=P) S3 Up (Un hF) Wu (fun j hj TM Tj=>by
      rcases T8.all j hj TM with kd|ke|⟨k0,WZ,kc⟩
      ·obtain⟨o,_,_,_,VA⟩:=T8.op;obtain⟨oj,d,_,k1,k2,_⟩:=VA j kd;exact⟨oj,k1,k2⟩
      ·rw[VT j ke]at Tj;cases Tj
      have WZ:k0=i:=by simpa using WZ
      rw[WZ]at kc;rw[Uu j kc]at Tj;cases Tj) ⟨ρ,SP⟩ h.down ops.size (O1 _)
     refine⟨[],sub,pdi,uK σ ops es ws,a',fun j hj TM=>?_,fun k hk=>by(cases hk),T8,VA,?_,TU,VT⟩
     ·constructor
      ·intro k;rw[Wu j k]at TM;cases TM
      intro k;cases k
     obtain⟨ρ',k1⟩:=U2;rw[lY (fun j hj _=>by simp[hj])]at k1
     have k2:=k1.cU (dom':=fun b=>b<σ.nx+ops.size) (fun b hb=>by rcases hb with hb|⟨j,hj,_,rfl⟩<;>omega)
     exact⟨ρ',k2.Jl ⟨fun _=>rfl,fun _=>rfl,rfl⟩⟩
    exfalso
    have k2:=Wu j (Uu j UG)
    simp[bK,hjw]at k2
   rcases sd h4.1 Tz Zp with k|k|⟨j,hj,hjw,Z3,UG⟩
   ·exfalso;rw[h2 i k]at S4;cases S4
   ·obtain⟨pdi,sub,VA,T8⟩:=nJ h6 h3 k;exact⟨pre,sub,pdi,s,a',h1,h2,T8,VA,h8,h9,h4.2⟩
   exfalso
   exact Z3 ((h1 j hj (by simp[bK,hjw])).1 (Uu j UG))
  obtain⟨pre,sub,pdi,s,a',h1,UC,T8,h6,h8,h9,VT⟩:=data;exact Nm hP h.size h.down Tz hp hiW h1 UC T8 h6 h8 h9 VT fun a w S1=>ih _ _ _ S1 (by omega)
def Jz:List (Nat×V)→Nat→List (Nat×V)
 |[],_=>[]
 |(t,v)::r,d=>if t=d then Jz r d else(t,v)::Jz r d
def QE (d id:Nat)(s:St):St:={s with env:=Jz s.env d,own:=del s.own id}
theorem He (d t:Nat):∀l:List (Nat×V),lk (Jz l d) t=if t=d then .unk else lk l t
 |[]=>by simp[Jz,lk]
 |(t',v)::r=>by
  have ih:=He d t r;simp only[Jz]
  by_cases h:t'=d
  ·rw[if_pos h,ih]
   by_cases h2:t=d
   ·rw[if_pos h2,if_pos h2]
   rw[if_neg h2,if_neg h2,lk,if_neg (fun e=>h2 (e.trans h))]
  rw[if_neg h];simp only[lk]
  by_cases h2:t=t'
  ·subst h2;rw[if_pos rfl,if_neg h,if_pos rfl]
  rw[if_neg h2,if_neg h2,ih]
structure RV (ops:Array Oper) (q d:Nat) (t1 t2:WL):Prop where
 g1:PI ops t1
 c1:kA ops t1 [] t1=true
 w1:np ops t1 (some q) [] t1=true
 g2:PI ops t2
 c2:Dv ops t2 q t2=true
 w2:np ops t2 none [] t2=true
 qs:q<ops.size
 qR:bK t1 q=true
 qd:bt ops q=some d
 same:∀j,j<ops.size→jc t2 j=(jc t1 j||j==q)
 rd:∀j o,bK t2 j=true→ops[j]? =some o→d∉tmpsOf o
 al:∃o,ops[q]? =some o∧o.guard=none∧j9 o.op=true
theorem JT {ops:Array Oper}{q d:Nat}{t1 t2:WL}(h:PK ops (.opt q d t1 t2)=true):RV ops q d t1 t2:=by
 simp only[PK,Bool.and_eq_true]at h;obtain⟨⟨⟨⟨⟨⟨⟨⟨⟨⟨⟨h1,h2⟩,h3⟩,h4⟩,h5⟩,h6⟩,h7⟩,h8⟩,h9⟩,U1⟩,XO⟩,V5⟩:=h;refine⟨uo h1,h2,h3,uo h4,h5,h6,of_decide_eq_true h7,h8,by simpa using h9,fun j hj=>?_,fun j o hj ho=>?_,?_⟩
 ·have:=List.all_eq_true.1 U1 j (by simpa using hj)
  exact beq_iff_eq.1 this
 ·have SI:=(Array.getElem?_eq_some_iff.1 ho).1
  have:=List.all_eq_true.1 XO j (by simpa using SI)
  rw[hj,ho]at this
  simpa using this
 cases ho:ops[q]? with
 |none=>rw[ho]at V5;cases V5
 |some o=>
  rw[ho]at V5;simp only[Bool.and_eq_true,Option.isNone_iff_eq_none]at V5;exact⟨o,rfl,V5.1,V5.2⟩
theorem xP {q d:Nat}{t1 t2:WL}(hk:RV ops q d t1 t2)(Up:∀j,∀b∈(es j).fz,b<σ.nx)(hqfz:(es q).fz=[])
  (Un:∀(i:Nat) o,bK t1 i=true→ops[i]? =some o→l9 P ops σ.nx i o (aL σ σ.nx ops es (bK t1) i) (es i))
  (hW1:mo P ops t1 (uK σ ops es t1) K) (hW2:mo P ops t2 (QE d (σ.nx+q) (uK σ ops es t1)) K)
  {G:Ctx} {Q:Exit→Act→World→Prop} (hQ:∀s a w,K s→oT G s a w→Q .normal a w) (hP:∀ch a a' w,Q (.panic ch) a w→Q (.panic ch) a' w):
  ∀(fuel:Nat) (listed:Array Bool) (a:Act) (w:World),pf P G ops t1 (some q) True σ es K listed a w→iG ops listed≤fuel→wpAny P .any ops Q fuel listed a w:=by
 have hR2:∀j,j<ops.size→bK t1 j=true→j≠q→bK t2 j=true:=fun j hj h1 hq=>by
  have:(j==q)=false:=by simpa using hq
  simp only[bK,hk.same j hj,this,Bool.or_false];exact h1
 have hR1:∀j,j<ops.size→bK t2 j=true→bK t1 j=true∧j≠q:=fun j hj h2=>by
  simp only[bK,hk.same j hj,Bool.not_eq_true',Bool.or_eq_false_iff]at h2;exact⟨by simp[bK,h2.1],by simpa using h2.2⟩
 have Z5:bK t2 q=false:=by simp[bK,hk.same q hk.qs]
 -- the runs with and without the new variable
 have Vg:∀k,k≤ops.size→(k≤q→aL σ σ.nx ops es (bK t1) k=aL σ σ.nx ops es (bK t2) k)∧(q<k→Al (aL σ σ.nx ops es (bK t1) k) ((aL σ σ.nx ops es (bK t2) k).add (some d) (σ.nx+q) (es q))):=fun k Zn=>by
  refine⟨fun hkq=>cQ k fun j hj=>?_,fun hqk=>?_⟩
  ·have h1:j<ops.size:=by omega
   have h2:(j==q)=false:=by rw[beq_eq_false_iff_ne];omega
   simp only[bK,hk.same j h1,h2,Bool.or_false]
  have h3:=nD (σ:=σ) (nx0:=σ.nx) (e:=es) (N:=ops.size) (L:=bK t2) (i:=q) Z5 hk.g1.dst Up k Zn hqk;rw[hk.qd]at h3
  rw[cQ (L:=bK t1) (L':=fun j=>bK t2 j||j==q) k fun j hj=>?_]
  ·exact h3
  have h1:j<ops.size:=by omega
  by_cases hjq:j=q
  ·subst hjq;rw[hk.qR];simp
  have h2:(j==q)=false:=by simpa using hjq
  simp only[bK,hk.same j h1,h2,Bool.or_false]
 have hlk:∀k,k≤ops.size→∀t,t≠d→lk (aL σ σ.nx ops es (bK t1) k).env t=lk (aL σ σ.nx ops es (bK t2) k).env t:=fun k Zn t ht=>by
  by_cases hkq:k≤q
  ·rw[(Vg k Zn).1 hkq]
  rw[((Vg k Zn).2 (by omega)).env t,kb,if_neg (fun e=>ht (Option.some.inj e).symm)]
 have UL:∀j o,bK t2 j=true→ops[j]? =some o→∀Z,iO (aL σ σ.nx ops es (bK t2) j) Z σ.nx o→iO (aL σ σ.nx ops es (bK t1) j) Z σ.nx o:=fun j o hj ho Z hZ=>by
  have hjs:=(Array.getElem?_eq_some_iff.1 ho).1;refine⟨by rw[hZ.n,fV,fV],fun x hx=>?_,fun b hb=>by rw[hZ.own b hb,jj _ j b hb,jj _ j b hb]⟩;rw[hZ.ev x hx]
  cases x with
  |tmp t=>
   have Vz:t∈tmpsOf o:=List.mem_filterMap.2 ⟨.tmp t,by simpa using hx,rfl⟩;exact(hlk j (Nat.le_of_lt hjs) t (fun e=>hk.rd j o hj ho (e▸Vz))).symm
  |const v=>rfl
  |global g=>rfl
  |func f=>rfl
 have TT:∀j o e,bK t2 j=true→ops[j]? =some o→a7 P o (aL σ σ.nx ops es (bK t1) j) σ.nx (σ.nx+j) e→a7 P o (aL σ σ.nx ops es (bK t2) j) σ.nx (σ.nx+j) e:=fun j o e hj ho h=>
  ⟨fun G dom ρ Z a w hs hd hZ=>h.1 G dom ρ Z a w hs hd (UL j o hj ho Z hZ),fun hl=>⟨(h.2 hl).1,(h.2 hl).2.1,fun G dom ρ Z a w hs hZ=>(h.2 hl).2.2 G dom ρ Z a w hs (UL j o hj ho Z hZ)⟩⟩
 have hstep2:∀(i:Nat) o,bK t2 i=true→ops[i]? =some o→l9 P ops σ.nx i o (aL σ σ.nx ops es (bK t2) i) (es i):=fun i o hi ho=>by
  have Tz:=(Array.getElem?_eq_some_iff.1 ho).1;obtain⟨hd,hs⟩:=Un i o (hR1 i Tz hi).1 ho;refine⟨fun t ht=>by have:=hd t ht;rw[fV]at this⊢;exact this,?_⟩
  cases hg:o.guard with
  |none=>rw[hg]at hs;exact TT i o _ hi ho hs
  |some gw=>
   obtain⟨g,want⟩:=gw;rw[hg]at hs;obtain⟨t,b,ht,hb,hs⟩:=hs;obtain⟨UR,Yl,YK⟩:=hk.g2.guard i o g want ho hi hg;have htd:t≠d:=fun e=>by
    subst e;exact hk.g2.dst g q t (by omega) hk.qs (hR1 g (by omega) YK).2 ht hk.qd
   refine⟨t,b,ht,by rw[←hlk i (Nat.le_of_lt Tz) t htd];exact hb,?_⟩
   by_cases TL:b=some want
   ·rw[if_pos TL]at hs⊢;exact TT i o _ hi ho hs
   rw[if_neg TL]at hs⊢;exact hs
 refine mc (ex:=some q) (F:=True) hk.g1 (fun _=>hk.c1) (fun _=>hk.w1) Up (fun _=>Un) (fun _=>hW1) (fun _ q' hq' fuel listed a w i h Wu SP Vt hi Zp hf=>?_) hQ hP;obtain rfl:=Option.some.inj hq';obtain⟨hp,Tz,hu⟩:=g7 hi;have SI:i<listed.size:=by rw[h.size];exact Tz
 have hiq:i≠q:=fun e=>by subst e;have:=hk.qR;rw[bK,Zp]at this;cases this
 have Z6:jc t2 i=true:=by rw[hk.same i Tz,Zp];rfl
 have XP:∀j,listed.getD j false=true→bK t2 j=true:=fun j hj=>by
  have hjs:j<ops.size:=by
   rw[←h.size];refine Nat.lt_of_not_le fun hle=>?_
   simp[Array.getD,Nat.not_lt.2 hle]at hj
  refine hR2 j hjs (Wu j hj) fun e=>?_;subst e;rw[Vt]at hj;cases hj
 have Uu:∀j,ff ops ops.size i j=true→listed.getD j false=true:=fun j hj=>fK h.down _ i j hp hj;have W5:r9 t2 i=true:=by
  have h1:=List.all_eq_true.1 hk.c2 i (by simpa using Tz);rw[Z6]at h1;have h2:(i==q)=false:=by simpa using hiq
  rw[h2]at h1;simp only[Bool.not_true,Bool.false_or,Bool.or_eq_true]at h1
  rcases h1 with h1|h1
  ·exact h1
  obtain⟨j,_,h3⟩:=List.any_eq_true.1 h1;simp only[Bool.and_eq_true]at h3;have h4:=XP j (Uu j h3.2)
  simp[bK,h3.1]at h4
 obtain⟨pdi,sub,VA,T8⟩:=nJ hW2 hk.w2 W5;have hsim2:vk G (fun b=>b<σ.nx∨∃j,j<ops.size∧listed.getD j false=true∧b=σ.nx+j) (aL σ σ.nx ops es (fun j=>bK t2 j&&listed.getD j false) ops.size) a w:=by
  rw[cQ (L:=fun j=>bK t2 j&&listed.getD j false) (L':=fun j=>bK t1 j&&listed.getD j false) ops.size fun j hj=>?_]
  ·exact SP
  cases hl:listed.getD j false with
  |false=>simp
  |true=>rw[XP j hl,Wu j hl]
 obtain⟨a',U2,TU⟩:=ghost (P:=P) hk.g2 Up hstep2 XP (fun j hj TM Tj=>by
  rcases T8.all j hj TM with kd|ke|⟨k0,WZ,kc⟩
  ·obtain⟨o,_,_,_,VA⟩:=T8.op;obtain⟨oj,d',_,k1,k2,_⟩:=VA j kd;exact⟨oj,k1,k2⟩
  ·cases ke
  have WZ:k0=i:=by simpa using WZ
  rw[WZ]at kc;rw[Uu j kc]at Tj;cases Tj) hsim2 h.down ops.size (O1 _)
 obtain⟨ρ',k1⟩:=U2;rw[lY (ws:=t2) (fun j hj _=>by simp[hj])]at k1
 have k2:=k1.cU (dom':=fun b=>b<σ.nx+ops.size) (fun b hb=>by rcases hb with hb|⟨j,hj,_,rfl⟩<;>omega)
 have hnone:lo (aL σ σ.nx ops es (bK t2) ops.size).own (σ.nx+q)=none:=by
  cases hB:lo (aL σ σ.nx ops es (bK t2) ops.size).own (σ.nx+q)with
  |none=>rfl
  |some B=>
   exfalso
   rcases(k1.own _ _ hB).1 with hd|⟨j,_,Tj,hd⟩
   ·omega
   have:j=q:=by omega
   subst this;rw[Vt]at Tj;cases Tj
 -- the state without the new variable
 have halk:=(Vg ops.size (O1 _)).2 hk.qs;have k3:aS G (fun b=>b<σ.nx+ops.size) ρ' (ug (aL σ σ.nx ops es (bK t2) ops.size) (fun t=>t=d)) a' w:=k2.ug (RU.refl _ _);have k4:oT G (QE d (σ.nx+q) (uK σ ops es t1)) a' w:=by
  refine⟨ρ',k3.Jl ⟨fun t=>?_,fun b=>?_,?_⟩⟩
  ·show _=lk (Jz (uK σ ops es t1).env d) t;rw[He]
   by_cases ht:t=d
   ·rw[if_pos ht,zH _ (fun t=>t=d) _ ht]
   rw[if_neg ht,s6 _ (fun t=>t=d) _ ht];exact(hlk ops.size (O1 _) t ht).symm
  ·show _=lo (del (uK σ ops es t1).own (σ.nx+q)) b;rw[kv];have h5:=halk.own b;have h6:lo (uK σ ops es t1).own b=lo (aL σ σ.nx ops es (bK t1) ops.size).own b:=rfl;rw[h6,h5,pL,hqfz]
   by_cases hb:b=σ.nx+q
   ·rw[if_pos hb,hb];exact hnone
   rw[if_neg hb];show lo (aL σ σ.nx ops es (bK t2) ops.size).own b=_;have VI:gk [] b=id:=by funext v;simp[gk]
   cases(es q).wz with
   |none=>simp only[VI,Option.map_id,id]
   |some B=>simp only[VI,Option.map_id,id,if_neg hb]
  show(aL σ σ.nx ops es (bK t2) ops.size).n=(aL σ σ.nx ops es (bK t1) ops.size).n
  rw[fV,fV]
 refine Nm (ws:=t2) (σ:=σ) (es:=es) (F:=False) (ex:=none) hP h.size h.down Tz hp (by simp[bK,Z6]) (pre:=[]) (fun j hj TM=>?_) (fun k hk=>by cases hk) T8 VA k4 TU (fun q hq=>by cases hq) fun a w S1=>?_
 ·constructor
  ·intro k;rw[XP j k]at TM;cases TM
  intro k;cases k
 refine mc (ex:=none) (F:=False) hk.g2 (fun h=>h.elim) (fun h=>h.elim) Up (fun h=>h.elim) (fun h=>h.elim) (fun h=>h.elim) hQ hP fuel _ a w S1 ?_
 have:=o8 h.size Tz hu
 omega
end
end Go.Eng
