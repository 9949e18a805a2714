/-
  MatrixDeterminant: for every input the law returns true, and each argument reads afterwards as it read before. No condition beyond the given row's own cells.
  (Text 2 of 9; made by a program out of smaller texts.)
-/
import Derived.Test.YtchkplkghknabaaGreatP1
set_option linter.unusedSimpArgs false
set_option linter.unusedVariables false
set_option maxHeartbeats 16000000
set_option maxRecDepth 10000
open Nat renaming reduceAdd→J1,reduceMul→J2,reduceSub→J3,reduceEqDiff→J4,reduceLT→J5,reduceLeDiff→J6,reduceBEq→J7,reduceDiv→J8,reduceMod→J9,reducePow→J0
open Int renaming reduceToNat→K1,reduceLE→K2,reduceLT→K3,reduceEq→K4,reducePow→K5,reduceSub→K6,reduceNeg→K7,natCast_add→X2,natCast_one→X3,natCast_zero→X4
open List renaming getD_cons_zero→X0,getD_cons_succ→X1,length_take→X5,length_append→X6,getD_eq_getElem?_getD→X7,getElem?_eq_getElem→X8
namespace Go.Eng
open Go
def ml (P:Program)(o:Oper)(s:St)(K:St→Prop):Prop:=
 ∀G a w,ot G s a w→∀Q next,(∀s' a' w',K s'→ot G s' a' w'→next a' w')→o.wp P a w next Q
theorem Ir (l:List (Nat×fA)):dJ l []=l:=by
 induction l with
 |nil=>rfl
 |cons x l ih=>obtain⟨b,B⟩:=x;simp[dJ,ih]
theorem yc (l:List (Nat×fA))(ids:List Nat):uO l ids=dJ l ids:=by
 cases ids with
 |nil=>rw[Ir];rfl
 |cons x r=>rfl
theorem dK {w:World}{g:Nat}{cur:Array Value}{e:TypeId}{f:Nat×Nat}(h:w.heap[g]? =some (.cells cur e f)):bZ w g=cur.size:=by simp[bZ,h]
theorem aR.rewrite {G:Ctx}{dom:Nat→Prop}{ρ:Nat→Loc}{s:St}{a:Act}{w:World}(h:aR G dom ρ s a w){b g o:Nat}{B:Bk}(hl:lo s.own b=some ⟨B,true⟩)(RD:(ρ b).addr=some (g,o))
  {cur cur':Array Value} {e:TypeId} (hg:w.heap[g]? =some (.cells cur e (0,0))) (SJ:cur'.size=cur.size) {id:Nat} (hid:¬dom id) (B':Bk) (o1:Nat)
  (RG:∀j c,B'.cell j=some c→∃u,cur'[o1+j]? =some u∧(match B' with|.var _=>aC ρ dom (aG G s.own ρ w) w c u|.wins .. =>aC ρ dom (aG G s.own ρ w) w c u|_=>aP (aG G s.own ρ w) w c u)):
  aR G (fun b=>dom b∨b=id) (aZ ρ id ⟨some (g,o1),B'.len⟩) {s with own:=eD (del s.own b) id ⟨B',true⟩} a (w.setRow g cur'):=by
 have hs:=hC.aZ ρ ⟨some (g,o1),B'.len⟩ hid;have RT:∀b B',lo s.own b=some B'→b≠id:=fun b B' hl e=>hid (e▸(h.own b B' hl).1);obtain⟨_,_,_,Wq⟩:=h.own b _ hl;obtain⟨Up,hgf,UW⟩:=Wq g o RD;have Tb:∀g',g'≠g→(w.setRow g cur').heap[g']? =w.heap[g']? :=fun g' hn=>setRow_other w g g' cur' hn;have RN:Ext (aG G s.own ρ w) (aG G (eD (del s.own b) id ⟨B',true⟩) (aZ ρ id ⟨some (g,o1),B'.len⟩) (w.setRow g cur')) w (w.setRow g cur'):=by
  refine⟨fun g' UL=>?_,fun g'=>?_⟩
  ·have VI:g'≠g:=fun e=>by subst e;exact UL.2.2 b _ hl rfl o RD
   refine⟨⟨by simpa using UL.1,UL.2.1,fun b2 B2 RF RX o2=>?_⟩,Tb g' VI⟩;rw[b7]at RF
   by_cases RR:b2=id
   ·subst RR;rw[lP];intro he
    have:g=g':=by simpa using congrArg (Option.map Prod.fst) he
    exact VI this.symm
   rw[if_neg RR,j5]at RF;rw[aW _ _ RR]
   split at RF
   ·cases RF
   exact UL.2.2 b2 B2 RF RX o2
  by_cases VI:g'=g
  ·subst VI;rw[dK hg,dK (setRow_heap w g' cur cur' e (0,0) hg),SJ];exact Nat.le_refl _
  rw[cH (Tb g' VI)];exact Nat.le_refl _
 refine h.rY RN hs ?_ ?_ rfl rfl rfl (by simp) (fun k hk hm=>Tb k (fun e=>?_))
 ·intro b2 B2 RF;rw[b7]at RF
  by_cases RR:b2=id
  ·subst RR;rw[if_pos rfl]at RF;obtain rfl:=Option.some.inj RF;rw[lP];refine⟨.inr rfl,rfl,?_,fun g' o' ha=>?_⟩
   ·unfold aL;refine⟨cur',e,setRow_heap w g cur cur' e (0,0) hg,fun j c hj=>?_⟩;obtain⟨u,hu,hr⟩:=RG j c hj;refine⟨u,hu,?_⟩
    cases B' with
    |var cs=>exact aC.ext RN hs _ _ hr
    |ints e k xs=>exact aP.ext RN _ _ hr
    |rows e wd n f=>exact aP.ext RN _ _ hr
    |wins e b2 n g=>exact aC.ext RN hs _ _ hr
   have:g=g':=by simpa using congrArg (Option.map Prod.fst) ha
   subst this;exact⟨by simpa using Up,hgf,UW⟩
  rw[if_neg RR,j5]at RF;rw[aW _ _ RR]
  split at RF
  ·cases RF
  rename_i TR
  obtain⟨h1,h2,h3,h4⟩:=h.own b2 B2 RF;refine⟨.inl h1,h2,aL.ext RN hs _ _ (fun g' o' ha=>Tb g' (fun e=>?_)) h3,fun g' o' ha=>by simpa using h4 g' o' ha⟩;subst e;exact h.inj b _ b2 B2 hl RF (fun e=>TR e.symm) rfl g' o o' RD ha
 ·intro b2 B2 b3 B3 RF Si SR RX g' o2 o3 ha;rw[b7]at RF Si
  by_cases RR:b2=id
  ·subst RR;rw[if_neg (fun e=>SR e.symm),j5]at Si;rw[lP]at ha;rw[aW _ _ (fun e=>SR e.symm)];have hgg:g=g':=by simpa using congrArg (Option.map Prod.fst) ha
   subst hgg
   split at Si
   ·cases Si
   rename_i TR
   exact h.inj b _ b3 B3 hl Si (fun e=>TR e.symm) rfl g o o3 RD
  rw[if_neg RR,j5]at RF;rw[aW _ _ RR]at ha
  split at RF
  ·cases RF
  rename_i TR
  by_cases SD:b3=id
  ·subst SD;rw[lP];intro Sj;have hgg:g=g':=by simpa using congrArg (Option.map Prod.fst) Sj
   subst hgg;exact h.inj b2 B2 b _ RF hl TR RX g o2 o ha RD
  rw[if_neg SD,j5]at Si;rw[aW _ _ SD]
  split at Si
  ·cases Si
  exact h.inj b2 B2 b3 B3 RF Si SR RX g' o2 o3 ha
 subst e
 rcases UW with UW|UW
 ·omega
 exact hm UW
theorem aR.write {G:Ctx}{dom:Nat→Prop}{ρ:Nat→Loc}{s:St}{a:Act}{w:World}(h:aR G dom ρ s a w){b g o:Nat}{B:Bk}(hl:lo s.own b=some ⟨B,true⟩)(RD:(ρ b).addr=some (g,o))
  {cur cur':Array Value} {e:TypeId} (hg:w.heap[g]? =some (.cells cur e (0,0))) (SJ:cur'.size=cur.size) (B':Bk) (hlen:B'.len=B.len)
  (RG:∀j c,B'.cell j=some c→∃u,cur'[o+j]? =some u∧(match B' with|.var _=>aC ρ dom (aG G s.own ρ w) w c u|.wins .. =>aC ρ dom (aG G s.own ρ w) w c u|_=>aP (aG G s.own ρ w) w c u)):
  aR G dom ρ {s with own:=eD s.own b ⟨B',true⟩} a (w.setRow g cur'):=by
 have hs:hC dom dom ρ ρ:=⟨fun _ h=>h,fun _ _=>rfl⟩;obtain⟨hdomb,WX,_,Wq⟩:=h.own b _ hl;obtain⟨Up,hgf,UW⟩:=Wq g o RD;have Tb:∀g',g'≠g→(w.setRow g cur').heap[g']? =w.heap[g']? :=fun g' hn=>setRow_other w g g' cur' hn;have RN:Ext (aG G s.own ρ w) (aG G (eD s.own b ⟨B',true⟩) ρ (w.setRow g cur')) w (w.setRow g cur'):=by
  refine⟨fun g' UL=>?_,fun g'=>?_⟩
  ·have VI:g'≠g:=fun e=>by subst e;exact UL.2.2 b _ hl rfl o RD
   refine⟨⟨by simpa using UL.1,UL.2.1,fun b2 B2 RF RX o2=>?_⟩,Tb g' VI⟩;rw[b7]at RF
   by_cases RR:b2=b
   ·subst RR;intro he;rw[RD]at he
    have:g=g':=by simpa using congrArg (Option.map Prod.fst) he
    exact VI this.symm
   rw[if_neg RR]at RF;exact UL.2.2 b2 B2 RF RX o2
  by_cases VI:g'=g
  ·subst VI;rw[dK hg,dK (setRow_heap w g' cur cur' e (0,0) hg),SJ];exact Nat.le_refl _
  rw[cH (Tb g' VI)];exact Nat.le_refl _
 refine h.rY RN hs ?_ ?_ rfl rfl rfl (by simp) (fun k hk hm=>Tb k (fun e=>?_))
 ·intro b2 B2 RF;rw[b7]at RF
  by_cases RR:b2=b
  ·subst RR;rw[if_pos rfl]at RF;obtain rfl:=Option.some.inj RF;refine⟨hdomb,by rw[WX];exact hlen.symm,?_,fun g' o' ha=>by simpa using Wq g' o' ha⟩;unfold aL;rw[RD];refine⟨cur',e,setRow_heap w g cur cur' e (0,0) hg,fun j c hj=>?_⟩;obtain⟨u,hu,hr⟩:=RG j c hj;refine⟨u,hu,?_⟩
   cases B' with
   |var cs=>exact aC.ext RN hs _ _ hr
   |ints e k xs=>exact aP.ext RN _ _ hr
   |rows e wd n f=>exact aP.ext RN _ _ hr
   |wins e b2 n g=>exact aC.ext RN hs _ _ hr
  rw[if_neg RR]at RF;obtain⟨h1,h2,h3,h4⟩:=h.own b2 B2 RF;refine⟨h1,h2,aL.ext RN hs _ _ (fun g' o' ha=>Tb g' (fun e=>?_)) h3,fun g' o' ha=>by simpa using h4 g' o' ha⟩;subst e;exact h.inj b _ b2 B2 hl RF (fun e=>RR e.symm) rfl g' o o' RD ha
 ·intro b2 B2 b3 B3 RF Si SR RX g' o2 o3 ha;rw[b7]at RF Si
  by_cases RR:b2=b
  ·subst RR;rw[if_neg (fun e=>SR e.symm)]at Si;exact h.inj b2 _ b3 B3 hl Si SR rfl g' o2 o3 ha
  rw[if_neg RR]at RF
  by_cases SD:b3=b
  ·subst SD;exact h.inj b2 B2 b3 _ RF hl SR RX g' o2 o3 ha
  rw[if_neg SD]at Si;exact h.inj b2 B2 b3 B3 RF Si SR RX g' o2 o3 ha
 subst e
 rcases UW with UW|UW
 ·omega
 exact hm UW
def bt (f:Nat→Nat→C)(i off:Nat)(l:List C):Nat→Nat→C:=
 fun i' j'=>if i'=i then(if off≤j' then(if j'<off+l.length then l.getD (j'-off) .any else f i' j')else f i' j')else f i' j'
def P1:C→Bool
 |.own _ _ _ _=>true
 |.nil=>true
 |.ints _ _=>true
 |.rows _ _ _=>true
 |_=>false
def rG (b2:Nat):C→Nat
 |.own b _ _ _=>b
 |_=>b2
def oB (b b3:Nat):V→V
 |.one (.win b' x o l)=>if b'=b then .one (.win b' b3 o l)else .one (.win b' x o l)
 |v=>v
def mJ (b b3:Nat):List (Nat×V)→List (Nat×V)
 |[]=>[]
 |p::r=>(p.1,oB b b3 p.2)::mJ b b3 r
theorem AP (b b3:Nat):∀(l:List (Nat×V)) (t:Nat),lk (mJ b b3 l) t=oB b b3 (lk l t)
 |[],_=>rfl
 |(t',v)::r,t=>by
  show(if t=t' then oB b b3 v else lk (mJ b b3 r) t)=oB b b3 (if t=t' then v else lk r t)
  split
  ·rfl
  exact AP b b3 r t
theorem CQ {ρ:Nat→Loc}{dom ok:Nat→Prop}{w:World}{b b3:Nat}(hd:dom b3){x:V}{v:Value}(h:b6 ρ dom ok w x v):b6 ρ dom ok w (oB b b3 x) v:=by
 unfold oB
 split
 ·split
  ·exact⟨hd,h.2⟩
  exact h
 exact h
theorem aR.PI {G:Ctx}{dom:Nat→Prop}{ρ:Nat→Loc}{s:St}{a:Act}{w:World}(h:aR G dom ρ s a w)(b b3:Nat)(hd:dom b3):aR G dom ρ {s with env:=mJ b b3 s.env} a w:=
 {h with env:=fun t=>by rw[AP];exact CQ hd (h.env t)}
def tE (T:fH)(s:St)(t:TypeId)(x y:Operand)(K:St→Prop):Prop:=
 match T t with
 |some E=>match s.ev x with
  |.one (.ptr b off)=>match lo s.own b with
   |some ⟨.var cs,rw⟩=>rw=true∧0<E.size∧(s.ev y).n7=true∧(cellsOf (s.ev y)).length=E.size∧off+E.size≤cs.length∧
     K {s with own:=eD s.own b ⟨.var (kT cs off (cellsOf (s.ev y))),true⟩}
   |_=>False
  |.one (.eptr b wd i off)=>match lo s.own b with
   |some ⟨.ints e k xs,rw⟩=>match s.ev y with
    |.one (.int k' n)=>rw=true∧k'=k∧wd=1∧E.size=1∧off=0∧K {s with own:=eD s.own b ⟨.ints e k (xs.set i n),true⟩}
    |_=>False
   |some ⟨.rows e w n f,rw⟩=>rw=true∧wd=w∧0<E.size∧(s.ev y).n7=true∧(cellsOf (s.ev y)).length=E.size∧off+E.size≤wd∧(kv (s.ev y)).contains b=false∧
     K {s with own:=eD (uO s.own (kv (s.ev y))) b ⟨.rows e w n (bt f i off ((cellsOf (s.ev y)).map (jM s.own s.nx))),true⟩}
   |some ⟨.wins e b2 n g,rw⟩=>match s.ev y with
    |.one c=>rw=true∧wd=1∧E.size=1∧off=0∧P1 c=true∧K {s with env:=if rG b2 c=b2 then s.env else mJ b (rG b2 c) s.env,own:=eD s.own b ⟨.wins e (rG b2 c) n (fun j=>if j=i then c else g j),true⟩}
    |_=>False
   |_=>False
  |_=>False
 |none=>False
theorem iF {P:Program}{w:World}{t:TypeId}{i:TypeInfo}(hi:P.info? t=some i){g o:Nat}{cur:Array Value}{e:TypeId}(hg:w.heap[g]? =some (.cells cur e (0,0)))(v:Value)(hv:v.cells.size=i.size)
  (Sg:o+i.size≤cur.size) (h1:∀u∈v.cells.toList,u.oneCell'=true):
  (storeVar t ⟨g,o,none⟩ v).run P w= .ok () (w.setRow g (cur.toList.take o++v.cells.toList++cur.toList.drop (o+i.size)).toArray):=by
 have RW:=run_storeCells_at P g o e v.cells.toList 0 cur w hg (by simp;omega) h1;simp only[Nat.add_zero,Array.length_toList,hv]at RW;simp only[storeVar,Sem.run_bind,run_sizeOf hi,Result.andThen_ok,hv,ne_eq,not_true_eq_false,↓reduceIte,Sem.run_ite,Sem.run_pure,RW]
theorem ic (cur:List Value)(o:Nat)(us:List Value)(h:o+us.length≤cur.length)(j:Nat):
  (cur.take o++us++cur.drop (o+us.length))[j]? =if o≤j∧j<o+us.length then us[j-o]? else cur[j]? :=by
 rw[List.append_assoc,List.getElem?_append,List.getElem?_append,X5]
 by_cases h1:j<o
 ·rw[if_pos (by omega),if_neg (by omega),List.getElem?_take,if_pos h1]
 rw[if_neg (by omega)]
 by_cases h2:j<o+us.length
 ·rw[if_pos (by omega),if_pos (by omega)];congr 1;omega
 rw[if_neg (by omega),if_neg (by omega),List.getElem?_drop];congr 1;omega
theorem bG.s6 {ρ:Nat→Loc}{dom ok:Nat→Prop}{w:World}:∀{cs:List C} {vs:List Value},bG ρ dom ok w cs vs→∀u∈vs,u.oneCell'=true
 |[],[],_,u,hu=>by simp at hu
 |_::cs,_::vs,h,u,hu=>by
  rcases List.mem_cons.1 hu with rfl|hu
  ·exact(aC.plain h.1).1
  exact bG.s6 h.2 u hu
 |[],_::_,h,_,_=>h.elim
 |_::_,[],h,_,_=>h.elim
section
variable {P:Program}{T:fH}(hT:eJ P T){o:Oper}{s:St}{K:St→Prop}
include hT in
theorem N5 {t:TypeId}{x y:Operand}(ho:o.op= .store t x y)(hd:o.dst=none)(h:tE T s t x y K):ml P o s K:=by
 intro G a w RL Q next hk;obtain⟨ρ,hs⟩:=RL;have Wr:=hs.ev x;have T8:=hs.ev y;have RK:∀(g off:Nat) (w':World),a.eval x= .pointer (some ⟨g,off,none⟩)→(storeVar t ⟨g,off,none⟩ (a.eval y)).run P w= .ok () w'→next a w'→o.wp P a w next Q:=by
  intro g off w' he hr hn;unfold Oper.wp execOp;rw[ho];simp only[Instr.storeAt,he,Instr.sureAddr,Sem.run_bind,Sem.run_pure,Result.andThen_ok,hr,Oper.upon_skip,hd];exact hn
 unfold tE at h
 cases RV:T t with
 |none=>rw[RV]at h;exact h.elim
 |some E=>
  rw[RV]at h;simp only at h;obtain⟨i,d,z,hi,hu,_,Ws,SJ,_⟩:=bB hT RV
  split at h
  ·rename_i b off hx
   rw[hx]at Wr;obtain⟨_,g,o',RD,RQ⟩:=Wr
   split at h
   ·rename_i cs rw_ hl
    obtain⟨rfl,R1,Xo,hlen,hle,hK⟩:=h;obtain⟨_,_,RG,_⟩:=hs.own b _ hl;unfold aL at RG;rw[RD]at RG;obtain⟨cur,e,hg,hc⟩:=RG;simp only at hc;have R5:=b6.cells T8 Xo;have Sd:(a.eval y).cells.size=i.size:=by have:=bG.length R5;simp only[Array.length_toList]at this;omega
    have Sg:o'+off+i.size≤cur.size:=by
     obtain⟨u,RZ,_⟩:=hc (off+i.size-1) cs[off+i.size-1] (by simp only[Bk.cell];exact X8 (by omega))
     have:=(Array.getElem?_eq_some_iff.1 RZ).1
     omega
    refine RK g _ _ RQ (iF hi hg _ Sd Sg (bG.s6 R5)) (hk _ _ _ hK ⟨ρ,?_⟩);have Ua:(a.eval y).cells.toList.length=i.size:=by simpa using Sd
    refine hs.write hl RD hg (by simp[Sd];omega) (.var (kT cs off (cellsOf (s.ev y)))) rfl fun j c hj=>?_;simp only[Bk.cell]at hj;rw[uD _ _ _ (by omega)]at hj;have Tn:=ic cur.toList (o'+off) (a.eval y).cells.toList (by simp only[Array.length_toList]at Ua⊢;omega) (o'+j);rw[Ua]at Tn;simp only[List.getElem?_toArray,Tn]
    by_cases hm:off≤j∧j<off+(cellsOf (s.ev y)).length
    ·rw[if_pos hm]at hj;rw[if_pos (by omega),show o'+j-(o'+off)=j-off by omega];exact bG.get R5 _ _ hj
    rw[if_neg hm]at hj;rw[if_neg (by omega),Array.getElem?_toList];exact hc j c hj
   exact h.elim
  ·rename_i b wd ix off hx
   rw[hx]at Wr;obtain⟨_,Tl,g,o',RD,RQ⟩:=Wr
   split at h
   ·rename_i e k xs rw_ hl
    split at h
    ·rename_i k' n hy
     obtain⟨rfl,rfl,rfl,UF,rfl,hK⟩:=h;obtain⟨_,hlenρ,RG,_⟩:=hs.own b _ hl;unfold aL at RG;rw[RD]at RG;obtain⟨cur,e',hg,hc⟩:=RG;simp only at hc;rw[hlenρ]at Tl;simp only[Bk.len]at Tl;rw[hy]at T8;have Uu:a.eval y= .int k' n:=T8;have Sg:o'+(ix*1+0)+i.size≤cur.size:=by
      obtain⟨u,RZ,_⟩:=hc ix (.int k' (xs.getD ix 0)) (by simp[Bk.cell,X8 Tl])
      have:=(Array.getElem?_eq_some_iff.1 RZ).1
      omega
     have Sd:(a.eval y).cells.size=i.size:=by rw[Uu,←SJ,UF];rfl
     have Ua:(a.eval y).cells.toList.length=i.size:=by simpa using Sd
     refine RK g _ _ RQ (iF hi hg _ Sd Sg (by rw[Uu];simp[Value.cells,Value.oneCell'])) (hk _ _ _ hK ⟨ρ,?_⟩);refine hs.write hl RD hg (by simp[Sd];omega) (.ints e k' (xs.set ix n)) (by simp[Bk.len]) fun j c hj=>?_;have Tn:=ic cur.toList (o'+(ix*1+0)) (a.eval y).cells.toList (by simp only[Array.length_toList]at Ua⊢;omega) (o'+j);rw[Ua]at Tn;simp only[List.getElem?_toArray,Tn];simp only[Bk.cell,List.getElem?_set]at hj
     by_cases hm:j=ix
     ·subst hm;rw[if_pos (by omega),Uu];rw[if_pos rfl,if_pos Tl]at hj;simp only[Option.map_some,Option.some.injEq]at hj;subst hj;exact⟨.int k' n,by simp[Value.cells],rfl⟩
     rw[if_neg (by omega),Array.getElem?_toList];rw[if_neg (fun e=>hm e.symm)]at hj;exact hc j c hj
    exact h.elim
   ·rename_i e wd' n f rw_ hl
    obtain⟨rfl,rfl,R1,Xo,hlen,hle,hnid,hK⟩:=h;obtain⟨_,hlenρ,RG,_⟩:=hs.own b _ hl;unfold aL at RG;rw[RD]at RG;obtain⟨cur,e',hg,hc⟩:=RG;simp only at hc;rw[hlenρ]at Tl;simp only[Bk.len]at Tl;have R5:=b6.cells T8 Xo;have Sd:(a.eval y).cells.size=i.size:=by have:=bG.length R5;simp only[Array.length_toList]at this;omega
    have Ua:(a.eval y).cells.toList.length=i.size:=by simpa using Sd
    have Xp:∀j,j<wd→ix*wd+j<n*wd:=fun j hj=>by
     have:(ix+1)*wd≤n*wd:=Nat.mul_le_mul_right _ Tl
     rw[Nat.add_mul]at this;omega
    have Sg:o'+(ix*wd+off)+i.size≤cur.size:=by
     have RE:=Xp (off+i.size-1) (by omega);obtain⟨u,RZ,_⟩:=hc (ix*wd+(off+i.size-1)) (f ((ix*wd+(off+i.size-1))/wd) ((ix*wd+(off+i.size-1))%wd)) (by simp only[Bk.cell,if_pos RE])
     have:=(Array.getElem?_eq_some_iff.1 RZ).1
     omega
    have SV:∀x:V,(cellsOf x).flatMap gr=kv x:=fun x=>by cases x<;>simp [cellsOf,kv]
    have hview:=qU hs (gN.refl s s.nx o) (kv (s.ev y)) (cellsOf (s.ev y)) _ (fun b hb _=>by rw[SV]at hb;exact hb) R5;have h1:=hs.dJ (kv (s.ev y));have S7:lo (dJ s.own (kv (s.ev y))) b=some ⟨.rows e wd n f,true⟩:=by
     rw[fy,hl];simp only[Option.map_some,hnid,Bool.false_eq_true,↓reduceIte]
    rw[yc]at hK;refine RK g _ _ RQ (iF hi hg _ Sd Sg (bG.s6 R5)) (hk _ _ _ hK ⟨ρ,?_⟩);refine h1.write S7 RD hg (by simp[Sd];omega) (.rows e wd n (bt f ix off ((cellsOf (s.ev y)).map (jM s.own s.nx)))) rfl fun j c hj=>?_;have Tn:=ic cur.toList (o'+(ix*wd+off)) (a.eval y).cells.toList (by simp only[Array.length_toList]at Ua⊢;omega) (o'+j);rw[Ua]at Tn;simp only[List.getElem?_toArray,Tn];simp only[Bk.cell]at hj
    split at hj
    ·rename_i Vq
     simp only[Option.some.injEq,bt,List.length_map]at hj;have TT:0<wd:=by omega
     have Vs:j/wd*wd+j%wd=j:=by rw[Nat.mul_comm];exact Nat.div_add_mod j wd
     have Xq:j%wd<wd:=Nat.mod_lt _ TT
     by_cases hm:ix*wd+off≤j∧j<ix*wd+off+i.size
     ·have TV:j/wd=ix:=by
       rw[Nat.div_eq_iff TT]
       constructor
       ·omega
       omega
      have hjm:j%wd=j-ix*wd:=by rw[TV]at Vs;omega
      rw[if_pos TV,hjm,if_pos (by omega),if_pos (by omega)]at hj;rw[if_pos (by omega),show o'+j-(o'+(ix*wd+off))=j-ix*wd-off by omega];have hq:j-ix*wd-off<(cellsOf (s.ev y)).length:=by omega
      have Up:((cellsOf (s.ev y)).map (jM s.own s.nx))[j-ix*wd-off]? =some c:=by
       rw[←hj,X7];rw[X8 (by simpa using hq)];rfl
      obtain⟨u,RZ,hr⟩:=bG.get hview _ _ Up;exact⟨u,RZ,aP.ext (Ext.dA fun g' UL=>v8 hs _ UL) _ _ (aP.dZ hr)⟩
     rw[if_neg (by omega),Array.getElem?_toList];have hfc:f (j/wd) (j%wd)=c:=by
      by_cases TV:j/wd=ix
      ·rw[if_pos TV]at hj;have hjm:j%wd=j-ix*wd:=by rw[TV]at Vs;omega
       have Wd:ix*wd≤j:=by rw[TV]at Vs;omega
       by_cases h2:off≤j%wd
       ·rw[if_pos h2,if_neg (by omega)]at hj;exact hj
       rw[if_neg h2]at hj;exact hj
      rw[if_neg TV]at hj;exact hj
     obtain⟨u,RZ,hr⟩:=hc j c (by simp only[Bk.cell,if_pos Vq,hfc]);exact⟨u,RZ,aP.ext (Ext.dA fun g' UL=>kn UL) _ _ hr⟩
    cases hj
   ·rename_i e b2 n f rw_ hl
    split at h
    ·rename_i c hy
     obtain⟨rfl,rfl,UF,rfl,_,hK⟩:=h;obtain⟨_,hlenρ,RG,_⟩:=hs.own b _ hl;unfold aL at RG;rw[RD]at RG;obtain⟨cur,e',hg,hc⟩:=RG;simp only at hc;rw[hlenρ]at Tl;simp only[Bk.len]at Tl;rw[hy]at T8;have Uu:aC ρ (fun b=>b<s.nx) (aG G s.own ρ w) w c (a.eval y):=T8;have TS:=aC.plain Uu;have Sg:o'+(ix*1+0)+i.size≤cur.size:=by
      obtain⟨u,RZ,_⟩:=hc ix (f ix) (by simp only[Bk.cell,if_pos Tl])
      have:=(Array.getElem?_eq_some_iff.1 RZ).1
      omega
     have Sd:(a.eval y).cells.size=i.size:=by rw[TS.2,←SJ,UF];rfl
     have Ua:(a.eval y).cells.toList.length=i.size:=by simpa using Sd
     refine RK g _ _ RQ (iF hi hg _ Sd Sg (by rw[TS.2];simpa using TS.1)) (hk _ _ _ hK ⟨ρ,?_⟩);have key:∀s',aR G (fun b=>b<s.nx) ρ s' a (w.setRow g (cur.toList.take (o'+(ix*1+0))++(a.eval y).cells.toList++cur.toList.drop (o'+(ix*1+0)+i.size)).toArray)→∀b3,(b3=rG b2 c)→aR G (fun b=>b<s.nx) ρ {s' with env:=if b3=b2 then s'.env else mJ b b3 s'.env} a (w.setRow g (cur.toList.take (o'+(ix*1+0))++(a.eval y).cells.toList++cur.toList.drop (o'+(ix*1+0)+i.size)).toArray):=by
      intro s' h' b3 e3
      by_cases e4:b3=b2
      ·rw[if_pos e4];exact h'
      rw[if_neg e4];refine h'.PI b b3 ?_
      cases c with
      |own bb ww oo ll=>subst e3;exact Uu.1
      |_=>exact absurd e3 e4
     refine key {s with own:=eD s.own b ⟨.wins e (rG b2 c) n (fun j=>if j=ix then c else f j),true⟩} ?_ (rG b2 c) rfl;refine hs.write hl RD hg (by simp[Sd];omega) (.wins e (rG b2 c) n (fun j=>if j=ix then c else f j)) rfl fun j c' hj=>?_;have Tn:=ic cur.toList (o'+(ix*1+0)) (a.eval y).cells.toList (by simp only[Array.length_toList]at Ua⊢;omega) (o'+j);rw[Ua]at Tn;simp only[List.getElem?_toArray,Tn];simp only[Bk.cell]at hj
     split at hj
     ·rename_i Vq
      simp only[Option.some.injEq]at hj
      by_cases hm:j=ix
      ·subst hm;rw[if_pos rfl]at hj;rw[if_pos (by omega),TS.2,←hj];exact⟨a.eval y,by simp,Uu⟩
      rw[if_neg hm]at hj;rw[if_neg (by omega),Array.getElem?_toList];exact hc j c' (by simp only[Bk.cell,if_pos Vq,hj])
     cases hj
    exact h.elim
   exact h.elim
  exact h.elim
end
end Go.Eng
namespace Go.Eng
open Go
def jL (w:World)(a:Option Addr)(us:List Value):Prop:=us=[]∨∃ad,a=some ad∧∀(j:Nat) u,us[j]? =some u→w.cell? (ad.add j)=some u
theorem dU {P:Program}{w:World}(size n:Nat)(a:Option Addr)(len cap:Nat)(us:List Value)(hl:us.length=n*size)(h:jL w a us):
  (Builtin.firstCells size n (.slice a len cap)).run P w= .ok us.toArray w:=by
 rcases h with rfl|⟨ad,rfl,h⟩
 ·cases a with
  |none=>simp[Builtin.firstCells]
  |some ad=>
   simp only[Builtin.firstCells];rw[←hl];exact j6 ad [] (fun j u hj=>by simp at hj)
 exact run_firstCells_some w size n ad len cap us hl h
structure Cells (ok:Nat→Prop) (w:World) (wd n:Nat) (f:Nat→Nat→C) (a:Option Addr) (us:List Value):Prop where
 len:us.length=n*wd
 at_:jL w a us
 one:∀u∈us,u.oneCell'=true
 rep:∀i j,i<n→j<wd→∃u,us[i*wd+j]? =some u∧aP ok w (f i j) u
theorem ph {ok:Nat→Prop}{w:World}{wd n g o:Nat}{f:Nat→Nat→C}(h:∀i j,i<n→j<wd→∃u,w.cell? ⟨g,o+(i*wd+j),none⟩=some u∧aP ok w (f i j) u):
  ∃us,Cells ok w wd n f (some ⟨g,o,none⟩) us:=by
 refine⟨(List.range (n*wd)).map (fun t=>(w.cell? ⟨g,o+t,none⟩).getD undef),?_⟩;have key:∀t,t<n*wd→∃u,w.cell? ⟨g,o+t,none⟩=some u∧aP ok w (f (t/wd) (t%wd)) u:=by
  intro t ht
  have TT:0<wd:=by rcases Nat.eq_zero_or_pos wd with h0|h0;(subst h0;simp at ht);exact h0
  have h1:t/wd<n:=by rw[Nat.div_lt_iff_lt_mul TT];exact ht
  obtain⟨u,hu,hr⟩:=h (t/wd) (t%wd) h1 (Nat.mod_lt _ TT)
  have:t/wd*wd+t%wd=t:=by rw[Nat.mul_comm];exact Nat.div_add_mod t wd
  rw[this]at hu;exact⟨u,hu,hr⟩
 refine⟨by simp,.inr ⟨_,rfl,fun j u hj=>?_⟩,fun u hu=>?_,fun i j hi hj=>?_⟩
 ·simp only[List.getElem?_map]at hj;obtain⟨t,ht,he⟩:=Option.map_eq_some_iff.1 hj;obtain⟨RE,rfl⟩:j<n*wd∧j=t:=by
   have:=List.getElem?_eq_some_iff.1 ht
   obtain⟨h1,h2⟩:=this;simp at h1 h2;exact⟨h1,h2⟩
  obtain⟨u',RZ,_⟩:=key j RE;rw[fb,RZ];rw[RZ]at he
  simpa using he
 ·obtain⟨t,ht,he⟩:=List.mem_map.1 hu;obtain⟨u',RZ,hr⟩:=key t (by simpa using ht);rw[RZ]at he;simp only[Option.getD_some]at he;subst he;exact(aP.plain hr).1
 obtain⟨u,hu,hr⟩:=h i j hi hj;have RE:i*wd+j<n*wd:=by
  have:(i+1)*wd≤n*wd:=Nat.mul_le_mul_right _ hi
  rw[Nat.add_mul]at this;omega
 exact⟨u,by simp[RE,hu],hr⟩
theorem iV {ok:Nat→Prop}{w:World}{wd:Nat}{f:Nat→Nat→C}{a:Option Addr}:Cells ok w wd 0 f a []:=
 ⟨by simp,.inl rfl,fun u hu=>by simp at hu,fun i j hi=>absurd hi (Nat.not_lt_zero _)⟩
def hO (k:IntKind):C→Option (List Int)
 |.nil=>some []
 |.ints k' xs=>if k'=k then some xs else none
 |_=>none
theorem pk {ok:Nat→Prop}{w:World}{c:C}{v:Value}(h:aP ok w c v):
  (∀k xs,hO k c=some xs→∃a cap us,v= .slice a xs.length cap∧Cells ok w 1 xs.length (fun i _=>.int k (xs.getD i 0)) a us)∧
  (∀wd n f,(match c with|.nil=>n=0|.rows w' n' f'=>w'=wd∧n'=n∧f'=f|_=>False)→∃a cap us,v= .slice a n cap∧Cells ok w wd n f a us):=by
 constructor
 ·intro k xs hx
  cases c with
  |nil=>
   simp only[hO,Option.some.injEq]at hx;subst hx;exact⟨none,0,[],h,iV⟩
  |ints k' ys=>
   simp only[hO]at hx
   split at hx
   ·rename_i hk
    simp only[Option.some.injEq]at hx;subst hx;subst hk;obtain⟨a,cap,rfl,_,hr⟩:=h
    rcases hr with hr|⟨g,o,rfl,_,Sc⟩
    ·refine⟨a,cap,[],rfl,?_⟩;rw[hr];exact iV
    obtain⟨us,T6⟩:=ph (ok:=ok) (wd:=1) (n:=ys.length) (f:=fun i _=>.int k' (ys.getD i 0)) (fun i j hi hj=>⟨_,by rw[show i*1+j=i by omega];exact Sc i hi,rfl⟩);exact⟨_,cap,us,rfl,T6⟩
   cases hx
  |_=>simp[hO]at hx
 intro wd n f hm
 cases c with
 |nil=>
  simp only at hm;subst hm;exact⟨none,0,[],h,iV⟩
 |rows w' n' f'=>
  simp only at hm;obtain⟨rfl,rfl,rfl⟩:=hm;obtain⟨a,cap,rfl,_,hr⟩:=h
  rcases hr with hr|⟨g,o,rfl,_,Sc⟩
  ·refine⟨a,cap,[],rfl,?_⟩;rw[hr];exact iV
  obtain⟨us,T6⟩:=ph Sc;exact⟨_,cap,us,rfl,T6⟩
 |_=>exact hm.elim
theorem tR {P:Program}{w:World}{t ty e:TypeId}{i:TypeInfo}{z:Value}(ht:P.underlying t=some (.slice e))(hi:P.info? e=some i)(hz:i.zero=some z)
  (b:Option Addr) (sLen qf:Nat) (olds:List Value) (R2:olds.length=sLen*i.size) (holds:jL w b olds)
  (a:Option Addr) (n c:Nat) (news:List Value) (hl:news.length=n*i.size) (VJ:jL w a news)
  (hg:qf<sLen+n) (hb:(sLen+n)*i.bytes≤140737488355328) (WY:sLen+n≤9223372036854775807):
  (Builtin.append_ #[t,t] ty #[.slice b sLen qf,.slice a n c]).run P w=
   .ok (.slice (some ⟨w.heap.size,0,none⟩) (sLen+n) (grownCap w (sLen+n) qf e))
    (w.drew.alloc (.cells (olds.toArray++news.toArray++Builtin.zeroCells z.cells (grownCap w (sLen+n) qf e-(sLen+n))) e)):=by
 have hn:¬(sLen+n≤qf):=by omega
 have h63':¬(9223372036854775807<((sLen:Int)+(n:Int))):=by omega
 have Sg:=growslice_fits hg hb;have h48':¬(281474976710656<Builtin.nextslicecap (sLen+n) qf*i.bytes):=by omega
 have hf:=dU (P:=P) (w:=w.drew) i.size n a n c news hl VJ;have hfo:=dU (P:=P) (w:=w.drew) i.size sLen b sLen qf olds R2 holds
 simp[Builtin.append_,Go.run_underlying ht,sizeOf,typeInfo,zeroValue,hi,hz,Builtin.lenOf,hn,h63',h48',Question.forced,hf,hfo,newRow,grownCap]
 congr 2
 apply Array.ext'
 simp[List.append_assoc]
theorem rT {P:Program}{w:World}{t ty e:TypeId}{i:TypeInfo}(ht:P.underlying t=some (.slice e))(hi:P.info? e=some i)
  (g o sLen qf:Nat) {cur:Array Value} {e':TypeId} (hg:w.heap[g]? =some (.cells cur e' (0,0)))
  (a:Option Addr) (n c:Nat) (news:List Value) (hl:news.length=n*i.size) (VJ:jL w a news) (h1:∀u∈news,u.oneCell'=true)
  (Sr:sLen+n≤qf) (Sg:o+sLen*i.size+news.length≤cur.size):
  (Builtin.append_ #[t,t] ty #[.slice (some ⟨g,o,none⟩) sLen qf,.slice a n c]).run P w=
   .ok (.slice (some ⟨g,o,none⟩) (sLen+n) qf) (w.setRow g (cur.toList.take (o+sLen*i.size)++news++cur.toList.drop (o+sLen*i.size+news.length)).toArray):=by
 have hf:=dU (P:=P) (w:=w) i.size n a n c news hl VJ;have RW:=run_storeCells_at P g (o+sLen*i.size) e' news 0 cur w hg (by simpa using Sg) h1;simp only[Nat.add_zero]at RW
 simp[Builtin.append_,Go.run_underlying ht,sizeOf,typeInfo,hi,Builtin.lenOf,Sr,hf,fb,RW]
theorem lI {P:Program}{w:World}{t ty e:TypeId}{i:TypeInfo}(ht:P.underlying t=some (.slice e))(hi:P.info? e=some i)(a:Option Addr)(c:Nat):
  (Builtin.append_ #[t,t] ty #[.slice none 0 0,.slice a 0 c]).run P w= .ok (.slice none 0 0) w:=by
 have hf:=dU (P:=P) (w:=w) i.size 0 a 0 c [] (by simp) (.inl rfl)
 simp[Builtin.append_,Go.run_underlying ht,sizeOf,typeInfo,hi,Builtin.lenOf,hf]
end Go.Eng
namespace Go.Eng
open Go
def g8 (wd:Nat):C→Option (Nat×(Nat→Nat→C))
 |.nil=>some (0,fun _ _=>.any)
 |.rows w n f=>if w=wd then some (n,f)else none
 |_=>none
def yP (own:List (Nat×fA))(wd:Nat):C→Option (List (Nat×fA))
 |.nil=>some own
 |.own b w _ _=>if w=wd then(match lo own b with
  |some B=>if B.rw then some (del own b)else none
  |none=>none)else none
 |_=>none
def xL (own:List (Nat×fA))(nx0:Nat):C→C
 |.win _ _ _ _=>.any
 |.any=>jM own nx0 .any
 |.bool b=>jM own nx0 (.bool b)
 |.int k n=>jM own nx0 (.int k n)
 |.str s=>jM own nx0 (.str s)
 |.nil=>jM own nx0 .nil
 |.ints k xs=>jM own nx0 (.ints k xs)
 |.rows w n f=>jM own nx0 (.rows w n f)
 |.own b w o l=>jM own nx0 (.own b w o l)
 |.ptr b o=>jM own nx0 (.ptr b o)
 |.elt c w i o=>jM own nx0 (.elt c w i o)
 |.eptr b w i o=>jM own nx0 (.eptr b w i o)
 |.fn f n caps=>jM own nx0 (.fn f n caps)
def tA:C→Bool
 |.win _ _ _ _=>true
 |_=>false
def C9:C→C
 |.win b _ o l=>.own b 1 o l
 |c=>c
def HJ (own:List (Nat×fA))(nx0:Nat)(c:C):Option (Nat×Nat×(Nat→C)):=
 match c with
 |.win b _ off len=>match lo own b with
  |some ⟨.wins _ b3 n g,_⟩=>if off=0 then(if len=n then some (b3,n,g)else none)else none
  |_=>none
 |c=>match g8 1 (xL own nx0 c)with
  |some (n,f)=>some (0,n,fun i=>f i 0)
  |none=>none
def pq (T:fH)(s:St)(dst:Option Tmp)(t:TypeId)(x y:Operand)(K:St→Prop):Prop:=
 match dst with
 |none=>False
 |some d=>
       match T t with
  |some S=>
        match S.k with
   |.sl e=>match T e with
    |some E=>
          match s.ev x,s.ev y with
     |.one cx,.one cy=>match yP s.own E.size (C9 cx)with
      |some Tc=>match E.k with
       |.int k=>match hO k (xL s.own s.nx cx),hO k (xL s.own s.nx cy)with
        |some xs,some ys=>E.zero.length=E.size∧E.size=1∧((xs.length+ys.length)*E.bytes≤140737488355328∧xs.length+ys.length≤9223372036854775807)∧
          K {env:=(d,.one (.own s.nx 1 0 (xs++ys).length))::s.env,own:=eD Tc s.nx ⟨.ints e k (xs++ys),true⟩,nx:=s.nx+1,n:=s.n}
        |_,_=>False
       |_=>if(tA cx||tA cy)=true then(match HJ s.own s.nx cx,HJ s.own s.nx cy with
        |some (b3,n,f),some (b4,m,g)=>E.zero.length=E.size∧E.size=1∧((n+m)*E.bytes≤140737488355328∧n+m≤9223372036854775807)∧(if tA cy=true then b4 else b3)<s.nx∧
          K {env:=(d,.one (.win s.nx (if tA cy=true then b4 else b3) 0 (n+m)))::s.env,own:=eD Tc s.nx ⟨.wins e (if tA cy=true then b4 else b3) (n+m) (fun i=>if i<n then f i else g (i-n)),true⟩,nx:=s.nx+1,n:=s.n}
        |_,_=>False)else match g8 E.size (xL s.own s.nx cx),g8 E.size (xL s.own s.nx cy)with
        |some (n,f),some (m,g)=>E.zero.length=E.size∧0<E.size∧((n+m)*E.bytes≤140737488355328∧n+m≤9223372036854775807)∧
          K {env:=(d,.one (.own s.nx E.size 0 (n+m)))::s.env,own:=eD Tc s.nx ⟨.rows e E.size (n+m) (fun i j=>if i<n then f i j else g (i-n) j),true⟩,nx:=s.nx+1,n:=s.n}
        |_,_=>False
      |none=>False
     |_,_=>False
    |none=>False
   |_=>False
  |none=>False
section
variable {G:Ctx}{dom:Nat→Prop}{ρ:Nat→Loc}{s:St}{a:Act}{w:World}
theorem wC (hs:aR G dom ρ s a w){b wd off len:Nat}{B:fA}{v:Value}(hl:lo s.own b=some B)(hw:Kd B.bk=wd)(VD:B.bk.flat)(hr:aC ρ dom (aG G s.own ρ w) w (.own b wd off len) v):
  ∃ad cap us,v= .slice ad len cap∧Cells (aG G s.own ρ w) w wd len (fun i j=>n9 B.bk (off+i) j) ad us:=by
 obtain⟨_,hlen,RG,_⟩:=hs.own b B hl;obtain⟨_,hle,cap,hc,hr⟩:=hr
 rcases hr with⟨g,o,o',RD,rfl,ho,_⟩|⟨_,rfl,rfl,_⟩
 ·by_cases h0:len=0
  ·subst h0;exact⟨_,cap,[],rfl,iV⟩
  unfold aL at RG;rw[RD]at RG;obtain⟨cur,e,hg,R0⟩:=RG
  have SO:o'=o+off*wd:=by rcases ho with ho|ho<;>omega
  rw[hlen]at hle;obtain⟨us,T6⟩:=ph (ok:=aG G s.own ρ w) (w:=w) (wd:=wd) (n:=len) (g:=g) (o:=o') (f:=fun i j=>n9 B.bk (off+i) j) (fun i j hi hj=>by
   rw[cell_of_row w g _ cur e (0,0) hg,SO]
   cases hB:B.bk with
   |var cs=>rw[hB]at VD;exact VD.elim
   |wins e b2 n g=>rw[hB]at VD;exact VD.elim
   |ints e' k xs=>
    rw[hB]at R0 hw hle;simp only[Kd]at hw;subst hw;simp only[Bk.len]at hle;have hx:off+i<xs.length:=by omega
    obtain⟨u,RZ,hr⟩:=R0 (off+i) (.int k (xs.getD (off+i) 0)) (by simp[Bk.cell,X8 hx]);exact⟨u,by rw[show o+off*1+(i*1+j)=o+(off+i) by omega];exact RZ,hr⟩
   |rows e' wd' n' f=>
    rw[hB]at R0 hw hle;simp only[Kd]at hw;subst hw;simp only[Bk.len]at hle;have RE:(off+i)*wd'+j<n'*wd':=by
     have:(off+i+1)*wd'≤n'*wd':=Nat.mul_le_mul_right _ (by omega)
     rw[Nat.add_mul (off+i)]at this;omega
    obtain⟨u,RZ,hr⟩:=R0 ((off+i)*wd'+j) (f (off+i) j) (by
     simp only[Bk.cell,if_pos RE];rw[Nat.mul_comm (off+i) wd',Nat.mul_add_div (by omega),Nat.div_eq_of_lt hj,Nat.mul_add_mod,Nat.mod_eq_of_lt hj];simp)
    exact⟨u,by rw[show o+off*wd'+(i*wd'+j)=o+((off+i)*wd'+j) by rw[Nat.add_mul];omega];exact RZ,hr⟩)
  exact⟨_,cap,us,rfl,T6⟩
 exact⟨none,0,[],rfl,iV⟩
theorem Cells.congr {ok:Nat→Prop}{wd n:Nat}{f g:Nat→Nat→C}{ad:Option Addr}{us:List Value}(h:Cells ok w wd n f ad us)(he:∀i j,i<n→j<wd→f i j=g i j):Cells ok w wd n g ad us:=
 ⟨h.len,h.at_,h.one,fun i j hi hj=>by rw[←he i j hi hj];exact h.rep i j hi hj⟩
def G6 (B:Bk)(ρ:Nat→Loc)(dom ok:Nat→Prop)(w:World)(c:C)(u:Value):Prop:=match B with
 |.wins .. =>aC ρ dom ok w c u
 |_=>aP ok w c u
structure tX (R:C→Value→Prop) (w:World) (wd n:Nat) (f:Nat→Nat→C) (a:Option Addr) (us:List Value):Prop where
 len:us.length=n*wd
 at_:jL w a us
 one:∀u∈us,u.oneCell'=true
 rep:∀i j,i<n→j<wd→∃u,us[i*wd+j]? =some u∧R (f i j) u
theorem Cells.P2 {ok:Nat→Prop}{w:World}{wd n:Nat}{f:Nat→Nat→C}{a:Option Addr}{us:List Value}(B:Bk){ρ:Nat→Loc}{dom:Nat→Prop}(h:Cells ok w wd n f a us):tX (G6 B ρ dom ok w) w wd n f a us:=
 ⟨h.len,h.at_,h.one,fun i j hi hj=>by
  obtain⟨u,hu,hr⟩:=h.rep i j hi hj;refine⟨u,hu,?_⟩
  cases B with
  |wins e b2 n g=>exact aC.bh hr
  |_=>exact hr⟩
theorem E3 (hs:aR G dom ρ s a w){b n:Nat}{e:TypeId}{b3:Nat}{g:Nat→C}{rw_:Bool}{v:Value}(hl:lo s.own b=some ⟨.wins e b3 n g,rw_⟩)(hr:aC ρ dom (aG G s.own ρ w) w (.own b 1 0 n) v):
  ∃ad cap us,v= .slice ad n cap∧tX (aC ρ dom (aG G s.own ρ w) w) w 1 n (fun i _=>g i) ad us:=by
 obtain⟨_,hlen,RG,_⟩:=hs.own b _ hl;obtain⟨_,hle,cap,hc,hr⟩:=hr
 rcases hr with⟨q,o,o',RD,rfl,ho,_⟩|⟨_,rfl,rfl,_⟩
 ·by_cases h0:n=0
  ·subst h0;exact⟨_,cap,[],rfl,rfl,.inl rfl,(by simp),fun i j hi=>absurd hi (Nat.not_lt_zero _)⟩
  unfold aL at RG;rw[RD]at RG;obtain⟨cur,e',hg,R0⟩:=RG
  have SO:o'=o:=by rcases ho with ho|ho<;>omega
  subst SO;have Tx:∀i,i<n→∃u,w.cell? ⟨q,o'+i,none⟩=some u∧aC ρ dom (aG G s.own ρ w) w (g i) u:=fun i hi=>by
   obtain⟨u,RZ,hr⟩:=R0 i (g i) (if_pos hi);exact⟨u,by rw[cell_of_row w q _ cur e' (0,0) hg];exact RZ,hr⟩
  obtain⟨us,T6⟩:=ph (ok:=aG G s.own ρ w) (w:=w) (wd:=1) (n:=n) (g:=q) (o:=o') (f:=fun _ _=>.any) (fun i j hi hj=>by
   obtain⟨u,hu,hr⟩:=Tx i hi;obtain rfl:j=0:=by omega
   exact⟨u,by rw[show o'+(i*1+0)=o'+i by omega];exact hu,(aC.plain hr).1⟩)
  refine⟨_,cap,us,rfl,T6.len,T6.at_,T6.one,fun i j hi hj=>?_⟩;obtain rfl:j=0:=by omega
  obtain⟨u,hu,_⟩:=T6.rep i 0 hi hj;obtain⟨u',RZ,hr⟩:=Tx i hi;refine⟨u,hu,?_⟩
  rcases T6.at_ with h1|⟨ad,ZJ,hat⟩
  ·rw[h1]at hu;simp at hu
  obtain rfl:=Option.some.inj ZJ
  have:=hat _ u hu
  rw[show i*1+0=i by omega,fb,RZ]at this;rw[←Option.some.inj this];exact hr
 exact⟨none,0,[],rfl,rfl,.inl rfl,(by simp),fun i j hi=>absurd hi (Nat.not_lt_zero _)⟩
theorem AG (own:List (Nat×fA))(nx b off:Nat)(k:IntKind)(wd:Nat):hO k (jM own nx (.ptr b off))=none∧g8 wd (jM own nx (.ptr b off))=none:=by
 simp only[jM]
 split
 ·cases lo own b with
  |none=>exact⟨rfl,rfl⟩
  |some B=>obtain⟨B,r⟩:=B;cases B<;>exact ⟨rfl,rfl⟩
 exact⟨rfl,rfl⟩
theorem ze (hs:aR G dom ρ s a w)(SS:∀b,dom b→b<s.nx){c:C}{v:Value}(hr:aC ρ dom (aG G s.own ρ w) w c v){k:IntKind}{xs:List Int}(hx:hO k (xL s.own s.nx c)=some xs):
  ∃ad cap us,v= .slice ad xs.length cap∧Cells (aG G s.own ρ w) w 1 xs.length (fun i _=>.int k (xs.getD i 0)) ad us:=by
 cases c with
 |own b wd off len=>
  have hb:=SS b hr.1;simp only[xL,jM,if_pos hb]at hx
  cases hl:lo s.own b with
  |none=>rw[hl]at hx;simp[hO]at hx
  |some B=>
   rw[hl]at hx;simp only at hx
   cases hB:B.bk with
   |var cs=>rw[hB]at hx;simp[ga,hO]at hx
   |wins e b2 n g=>rw[hB]at hx;simp[ga,hO]at hx
   |rows e w' n f=>rw[hB]at hx;simp only[ga]at hx;split at hx<;>simp [hO]at hx
   |ints e k' ys=>
    rw[hB]at hx;simp only[ga]at hx
    split at hx
    ·rename_i TT
     subst TT;simp only[hO]at hx
     split at hx
     ·rename_i hk
      subst hk;simp only[Option.some.injEq]at hx;obtain⟨ad,cap,us,hv,hc⟩:=wC hs hl (by rw[hB];rfl) (by rw[hB];trivial) hr;obtain⟨_,hlen,_,_⟩:=hs.own b B hl;have hle:=hr.2.1;rw[hlen,hB]at hle;simp only[Bk.len]at hle;have U8:xs.length=len:=by rw[←hx];simp;omega
      refine⟨ad,cap,us,by rw[U8];exact hv,?_⟩;rw[U8];refine hc.congr fun i j hi hj=>?_;simp only[hB,n9,←hx,X7,List.getElem?_take,List.getElem?_drop];rw[if_pos hi]
     cases hx
    simp[hO]at hx
 |nil=>exact(pk (c:=.nil) hr).1 k xs hx
 |ints k' ys=>exact(pk (c:=.ints k' ys) hr).1 k xs hx
 |fn f n caps=>simp only[xL,jM]at hx;split at hx<;>simp [hO]at hx
 |ptr b off=>rw[xL,(AG s.own s.nx b off k 0).1]at hx;cases hx
 |_=>simp[xL,jM,hO]at hx
theorem pU (hs:aR G dom ρ s a w)(SS:∀b,dom b→b<s.nx){c:C}{v:Value}(hr:aC ρ dom (aG G s.own ρ w) w c v){wd n:Nat}{f:Nat→Nat→C}(hx:g8 wd (xL s.own s.nx c)=some (n,f)):
  ∃ad cap us,v= .slice ad n cap∧Cells (aG G s.own ρ w) w wd n f ad us:=by
 cases c with
 |own b wd' off len=>
  have hb:=SS b hr.1;simp only[xL,jM,if_pos hb]at hx
  cases hl:lo s.own b with
  |none=>rw[hl]at hx;simp[g8]at hx
  |some B=>
   rw[hl]at hx;simp only at hx
   cases hB:B.bk with
   |var cs=>rw[hB]at hx;simp[ga,g8]at hx
   |wins e b2 n g=>rw[hB]at hx;simp[ga,g8]at hx
   |ints e k' ys=>rw[hB]at hx;simp only[ga]at hx;split at hx<;>simp [g8]at hx
   |rows e w' n' f'=>
    rw[hB]at hx;simp only[ga]at hx
    split at hx
    ·rename_i TT
     subst TT;simp only[g8]at hx
     split at hx
     ·rename_i hww
      subst hww;simp only[Option.some.injEq,Prod.mk.injEq]at hx;obtain⟨rfl,rfl⟩:=hx;obtain⟨ad,cap,us,hv,hc⟩:=wC hs hl (by rw[hB];rfl) (by rw[hB];trivial) hr;refine⟨ad,cap,us,hv,hc.congr fun i j hi hj=>by rw[hB];rfl⟩
     cases hx
    simp[g8]at hx
 |nil=>
  simp only[xL,jM,g8,Option.some.injEq,Prod.mk.injEq]at hx;exact(pk (c:=.nil) hr).2 wd n f hx.1.symm
 |rows w' n' f'=>
  simp only[xL,jM,g8]at hx
  split at hx
  ·rename_i hw
   simp only[Option.some.injEq,Prod.mk.injEq]at hx;exact(pk (c:=.rows w' n' f') hr).2 wd n f ⟨hw,hx.1,hx.2⟩
  cases hx
 |fn f n caps=>simp only[xL,jM]at hx;split at hx<;>simp [g8]at hx
 |ptr b off=>rw[xL,(AG s.own s.nx b off .i64 wd).2]at hx;cases hx
 |_=>simp[xL,jM,g8]at hx
theorem aR.del (h:aR G dom ρ s a w)(b:Nat):aR G dom ρ {s with own:=Eng.del s.own b} a w:=by
 have RN:Ext (aG G s.own ρ w) (aG G (Eng.del s.own b) ρ w) w w:=Ext.dA fun g hg=>⟨hg.1,hg.2.1,fun b2 B2 RF RX=>by
  rw[j5]at RF
  split at RF
  ·cases RF
  exact hg.2.2 b2 B2 RF RX⟩
 have hs:hC dom dom ρ ρ:=⟨fun _ h=>h,fun _ _=>rfl⟩;refine h.rY RN hs (fun b2 B2 RF=>?_) (fun b2 B2 b3 B3 RF Si=>?_) rfl rfl rfl (Nat.le_refl _) (fun _ _ _=>rfl)
 ·rw[j5]at RF
  split at RF
  ·cases RF
  obtain⟨h1,h2,h3,h4⟩:=h.own b2 B2 RF;exact⟨h1,h2,aL.ext RN hs _ _ (fun _ _ _=>rfl) h3,h4⟩
 rw[j5]at RF Si
 split at RF
 ·cases RF
 split at Si
 ·cases Si
 exact h.inj b2 B2 b3 B3 RF Si
theorem aR.C0 (h:aR G dom ρ s a w){id:Nat}(hid:¬dom id)(B:Bk)(hB:∀j,B.cell j=none)(hlen:B.len=0):
  aR G (fun b=>dom b∨b=id) (aZ ρ id ⟨none,0⟩) {s with own:=eD s.own id ⟨B,true⟩} a w:=by
 have hs:=hC.aZ ρ ⟨none,0⟩ hid;have RN:Ext (aG G s.own ρ w) (aG G (eD s.own id ⟨B,true⟩) (Eng.aZ ρ id ⟨none,0⟩) w) w w:=Ext.dA fun g hg=>⟨hg.1,hg.2.1,fun b2 B2 RF RX o=>by
  rw[b7]at RF
  by_cases RR:b2=id
  ·subst RR;rw[lP];simp
  rw[if_neg RR]at RF;rw[aW _ _ RR];exact hg.2.2 b2 B2 RF RX o⟩
 refine h.rY RN hs (fun b2 B2 RF=>?_) (fun b2 B2 b3 B3 RF Si RT RX g o o' ha=>?_) rfl rfl rfl (Nat.le_refl _) (fun _ _ _=>rfl)
 ·rw[b7]at RF
  by_cases RR:b2=id
  ·subst RR;rw[if_pos rfl]at RF;obtain rfl:=Option.some.inj RF;rw[lP];exact⟨.inr rfl,hlen.symm,hB,fun g o ha=>by cases ha⟩
  rw[if_neg RR]at RF;rw[aW _ _ RR];obtain⟨h1,h2,h3,h4⟩:=h.own b2 B2 RF;exact⟨.inl h1,h2,aL.ext RN hs _ _ (fun _ _ _=>rfl) h3,h4⟩
 rw[b7]at RF Si
 by_cases RR:b2=id
 ·subst RR;rw[lP]at ha;cases ha
 rw[if_neg RR]at RF;rw[aW _ _ RR]at ha
 by_cases SD:b3=id
 ·subst SD;rw[lP];simp
 rw[if_neg SD]at Si;rw[aW _ _ SD];exact h.inj b2 B2 b3 B3 RF Si RT RX g o o' ha
theorem aR.drew (h:aR G dom ρ s a w):aR G dom ρ s a w.drew:=h.grown ((Go.RowKit.Below.refl _ _).drew)
end
theorem rW {P:Program}{w:World}{t ty e:TypeId}{i:TypeInfo}(ht:P.underlying t=some (.slice e))(hi:P.info? e=some i)(b:Option Addr)(n cap:Nat)(a:Option Addr)(c:Nat)(h:n≤cap):
  (Builtin.append_ #[t,t] ty #[.slice b n cap,.slice a 0 c]).run P w= .ok (.slice b n cap) w:=by
 have hf:=dU (P:=P) (w:=w) i.size 0 a 0 c [] (by simp) (.inl rfl)
 cases b<;>simp [Builtin.append_,Go.run_underlying ht,sizeOf,typeInfo,hi,Builtin.lenOf,hf,h,storeCells]
section
variable {P:Program}{T:fH}{o:Oper}{s:St}{K:St→Prop}
theorem xe {P:Program}{t t' e e':TypeId}(ht:P.underlying t=some (.slice e))(Ub:P.underlying t'=some (.slice e'))(ty:TypeId)(u v:Value)(w:World):
  (Builtin.append_ #[t,t'] ty #[u,v]).run P w=(Builtin.append_ #[t,t] ty #[u,v]).run P w:=by
 simp only[Builtin.append_,List.getElem?_toArray,List.getElem?_cons_zero,List.getElem?_cons_succ,Sem.run_bind,av ht,av Ub,Result.andThen_ok,Sem.run_pure]
 cases u<;>simp only[Sem.run_bind,av ht,av Ub,Result.andThen_ok,Sem.run_pure]
theorem lB {d:Tmp}(hd:o.dst=some d)(SW:d<s.n){c:Call}(ho:o.op= .call c)(TC:c.callee= .builtin .append){x y:Operand}(RH:c.args= #[x,y]){t t':TypeId}(Sv:c.argTypes= #[t,t']){e':TypeId}(Ub:P.underlying t'=some (.slice e'))
  {e:TypeId} {ei:TypeInfo} {ez:Value} (ht:P.underlying t=some (.slice e)) (Ta:P.info? e=some ei) (U9:ei.zero=some ez) (SK:ez.cells.size=ei.size)
  {cx:C} (XZ:∀G ρ a w,aR G (fun b=>b<s.nx) ρ s a w→aC ρ (fun b=>b<s.nx) (aG G s.own ρ w) w cx (a.eval x)) {wd:Nat} (TT:wd=ei.size) (R1:0<wd) {Tc:List (Nat×fA)} (R9:yP s.own wd cx=some Tc)
  {n m:Nat} {f0 f1:Nat→Nat→C} (B':Bk) (Xt:∀cs,B'≠ .var cs) (X9:B'.len=n+m)
  (YG:∀j c,B'.cell j=some c→j<(n+m)*wd∧c=if j/wd<n then f0 (j/wd) (j%wd)else f1 (j/wd-n) (j%wd))
  (hb:(n+m)*ei.bytes≤140737488355328) (WY:n+m≤9223372036854775807)
  (Ya:∀G ρ a w,aR G (fun b=>b<s.nx) ρ s a w→∃ad cap us,a.eval x= .slice ad n cap∧tX (G6 B' ρ (fun b=>b<s.nx) (aG G s.own ρ w) w) w wd n f0 ad us)
  (YH:∀G ρ a w,aR G (fun b=>b<s.nx) ρ s a w→∃ad cap us,a.eval y= .slice ad m cap∧tX (G6 B' ρ (fun b=>b<s.nx) (aG G s.own ρ w) w) w wd m f1 ad us)
  (rv:C) (hrv:∀ρ' ok' w' v,aC ρ' (fun b=>b<s.nx∨b=s.nx) ok' w' (.own s.nx wd 0 (n+m)) v→aC ρ' (fun b=>b<s.nx∨b=s.nx) ok' w' rv v)
  (hK:K {env:=(d,.one rv)::s.env,own:=eD Tc s.nx ⟨B',true⟩,nx:=s.nx+1,n:=s.n}):ml P o s K:=by
 subst TT;intro G a w RL Q next hk;obtain⟨ρ,hs⟩:=RL;obtain⟨ad0,TU,Xu,SG,SU⟩:=Ya G ρ a w hs;obtain⟨YI,VK,Vt,Xv,UZ⟩:=YH G ρ a w hs;have hid:¬(s.nx<s.nx):=Nat.lt_irrefl _;have Uv:∀(v:Value) (w':World),(Builtin.append_ #[t,t] o.type #[a.eval x,a.eval y]).run P w= .ok v w'→(execOp a.eval o).run P w= .ok (.value v) w':=by
  intro v w' hr;unfold execOp;rw[ho];simp only[resolve,TC,Sem.run_bind,Sem.run_pure,Result.andThen_ok,invoke,Go.builtin,RH,Sv];rw[show Array.map a.eval #[x,y]= #[a.eval x,a.eval y] by simp,xe ht Ub,hr];rfl
 -- from the block's state to the whole
 have fin:∀(v:Value) (w':World) (ρ':Nat→Loc),(execOp a.eval o).run P w= .ok (.value v) w'→
   aR G (fun b=>b<s.nx∨b=s.nx) ρ' {s with own:=eD Tc s.nx ⟨B',true⟩} a w'→aC ρ' (fun b=>b<s.nx∨b=s.nx) (aG G (eD Tc s.nx ⟨B',true⟩) ρ' w') w' (.own s.nx ei.size 0 (n+m)) v→o.wp P a w next Q:=by
  intro v w' ρ' hr h1 h2;refine Oper.cQ hr (hk _ _ _ hK ⟨ρ',?_⟩);rw[hd];have h3:=h1.put (dst:=some d) (x:=.one rv) (v:=v) (fun d' hh=>by cases hh;exact SW) (hrv _ _ _ _ h2)
  have h4:=h3.cR (dom':=fun b=>b<s.nx+1) (fun b hb=>by rcases hb with hb|hb<;>omega)
  exact{hd:=h4.hd,hn:=h4.hn,env:=h4.env,own:=h4.own,inj:=h4.inj,os:=h4.os,tape:=h4.tape,output:=h4.output,size:=h4.size,keep:=h4.keep,wf:=h4.wf,home:=h4.home,room:=h4.room}
 -- a new row
 have cellAt:∀(pre:List Value),pre=Xu++Vt→∀j c,B'.cell j=some c→∃u,pre[j]? =some u∧G6 B' ρ (fun b=>b<s.nx) (aG G s.own ρ w) w c u:=by
  intro pre YJ j c hj;obtain⟨RE,rfl⟩:=YG j c hj;have Vs:j/ei.size*ei.size+j%ei.size=j:=by rw[Nat.mul_comm];exact Nat.div_add_mod j ei.size
  have Xq:j%ei.size<ei.size:=Nat.mod_lt _ R1;have Sy:j/ei.size<n+m:=(Nat.div_lt_iff_lt_mul R1).2 RE;have Tr:=SU.len
  by_cases hn:j/ei.size<n
  ·rw[if_pos hn];obtain⟨u,hu,hr⟩:=SU.rep _ _ hn Xq;rw[Vs]at hu;refine⟨u,?_,hr⟩;have ZK:=(List.getElem?_eq_some_iff.1 hu).1;rw[YJ,List.getElem?_append_left ZK];exact hu
  rw[if_neg hn];obtain⟨u,hu,hr⟩:=UZ.rep (j/ei.size-n) _ (by omega) Xq;refine⟨u,?_,hr⟩;have Wd:n*ei.size≤j:=by
   have:n*ei.size≤j/ei.size*ei.size:=Nat.mul_le_mul_right _ (by omega)
   omega
  rw[YJ,List.getElem?_append_right (by omega),Tr,←hu]
  congr 1
  have hmul:n*ei.size≤j/ei.size*ei.size:=Nat.mul_le_mul_right _ (by omega);rw[Nat.sub_mul,←Nat.sub_add_comm hmul,Vs]
 have hzz:(Xu.toArray++Vt.toArray).toList=Xu++Vt:=by simp
 have newRow:TU<n+m→(Tc=s.own∨∃b,Tc=Eng.del s.own b)→o.wp P a w next Q:=by
  intro R8 Wm;have hr:=tR (ty:=o.type) ht Ta U9 ad0 n TU Xu SU.len SU.at_ YI m VK Vt UZ.len UZ.at_ R8 hb WY;rw[←SG,←Xv]at hr;have hgc:n+m≤grownCap w (n+m) TU e:=grownCap_ge w _ _ _;have h1:aR G (fun b=>b<s.nx) ρ {s with own:=Tc} a w.drew:=by
   rcases Wm with rfl|⟨b,rfl⟩
   ·exact hs.drew
   exact hs.drew.del b
  have hokm:∀g,aG G s.own ρ w g→aG G Tc ρ w.drew g:=fun g hg=>by
   rcases Wm with rfl|⟨b,rfl⟩
   ·exact hg
   exact⟨hg.1,hg.2.1,fun b2 B2 RF RX=>by
    rw[j5]at RF
    split at RF
    ·cases RF
    exact hg.2.2 b2 B2 RF RX⟩
  have VL:Ext (aG G s.own ρ w) (aG G Tc ρ w.drew) w w.drew:=⟨fun g hg=>⟨hokm g hg,rfl⟩,fun _=>Nat.le_refl _⟩;have h2:=h1.xH hid B' (Xu.toArray++Vt.toArray++Builtin.zeroCells ez.cells (grownCap w (n+m) TU e-(n+m))) e (fun j c hj=>by
   obtain⟨u,hu,hr⟩:=cellAt _ rfl j c hj;refine⟨u,?_,?_⟩
   ·have ZK:=(List.getElem?_eq_some_iff.1 hu).1;rw[Array.getElem?_append_left (by simpa using ZK)];rw[←Array.getElem?_toList,hzz];exact hu
   cases B' with
   |var cs=>exact absurd rfl (Xt cs)
   |ints e k xs=>exact aP.ext VL _ _ hr
   |rows e w n f=>exact aP.ext VL _ _ hr
   |wins e b2 n g=>exact aC.ext VL ⟨fun _ h=>h,fun _ _=>rfl⟩ _ _ hr)
  refine fin _ _ _ (Uv _ _ hr) h2 ⟨.inr rfl,by rw[lP];simp[X9],grownCap w (n+m) TU e,hgc,.inl ⟨w.heap.size,0,0,by rw[lP];rfl,rfl,.inr (by simp),?_⟩⟩;have S3:bZ (w.drew.alloc (.cells (Xu.toArray++Vt.toArray++Builtin.zeroCells ez.cells (grownCap w (n+m) TU e-(n+m))) e)) w.heap.size=(Xu.toArray++Vt.toArray++Builtin.zeroCells ez.cells (grownCap w (n+m) TU e-(n+m))).size:=dK (heap_alloc_new w.drew _);rw[S3];simp only[Array.size_append,List.size_toArray,size_zeroCells,SU.len,UZ.len,SK]
  have:grownCap w (n+m) TU e=n+m+(grownCap w (n+m) TU e-(n+m)):=by omega
  rw[Nat.zero_add,Nat.zero_add]
  conv=>lhs;rw[this]
  rw[Nat.add_mul,Nat.add_mul];exact Nat.le_refl _
 unfold yP at R9
 split at R9
 ·-- the base is nil
  simp only[Option.some.injEq]at R9;have YK:=XZ G ρ a w hs;have YK:a.eval x= .slice none 0 0:=YK;rw[YK]at SG;simp only[Value.slice.injEq]at SG;obtain⟨rfl,rfl,rfl⟩:=SG
  by_cases hm:m=0
  ·subst hm;have hr:=lI (P:=P) (w:=w) (ty:=o.type) ht Ta YI VK;rw[←Xv,←YK]at hr;subst R9;have h2:=hs.C0 hid B' (fun j=>by
    cases hc:B'.cell j with
    |none=>rfl
    |some c=>have:=(YG j c hc).1;simp at this) (by rw[X9])
   exact fin _ _ _ (Uv _ _ hr) h2 ⟨.inr rfl,by rw[lP];simp,0,by simp,.inr ⟨by rw[lP],YK,by simp,rfl⟩⟩
  exact newRow (by omega) (.inl R9.symm)
 ·-- it is a slice of the frame's own
  rename_i b w' off len
  split at R9
  ·rename_i hww
   subst hww
   cases R2:lo s.own b with
   |none=>rw[R2]at R9;simp at R9
   |some B=>
    rw[R2]at R9;simp only at R9
    split at R9
    ·rename_i RX
     simp only[Option.some.injEq]at R9
     by_cases R8:TU<n+m
     ·exact newRow R8 (.inr ⟨b,R9.symm⟩)
     have hxo:=XZ G ρ a w hs;obtain⟨WT,hle,cap,hc,hxo⟩:=hxo
     rcases hxo with⟨g,o1,o2,RD,R3,ho,Sr⟩|⟨RD,R3,rfl,rfl⟩
     ·rw[R3]at SG;simp only[Value.slice.injEq]at SG;obtain⟨rfl,rfl,rfl⟩:=SG;obtain⟨_,WX,VM,hlocb⟩:=hs.own b B R2;unfold aL at VM;rw[RD]at VM;obtain⟨cur,e',hg,R5⟩:=VM;rw[dK hg]at Sr;have YL:lo s.own b=some ⟨B.bk,true⟩:=by rw[R2,←RX]
      -- the base's place
      have Sg:o2+len*ei.size+Vt.length≤cur.size∨len+m=0:=by
       by_cases h0:len+m=0
       ·exact .inr h0
       left
       have TJ:o2=o1+off*ei.size:=by rcases ho with ho|ho<;>omega
       have S7:=UZ.len;have h3:(len+m)*ei.size≤cap*ei.size:=Nat.mul_le_mul_right _ (by omega);rw[Nat.add_mul]at h3 Sr;omega
      rcases Sg with Sg|h0
      ·have hr:=rT (P:=P) (w:=w) (ty:=o.type) ht Ta g o2 len cap hg YI m VK Vt UZ.len UZ.at_ UZ.one (by omega) Sg;rw[←R3,←Xv]at hr;have Xw:((cur.toList.take (o2+len*ei.size)++Vt++cur.toList.drop (o2+len*ei.size+Vt.length)).toArray).size=cur.size:=by simp;omega
       have h2:=hs.rewrite YL RD hg Xw hid B' o2 (fun j c hj=>by
        obtain⟨RE,rfl⟩:=YG j c hj;have Vs:j/ei.size*ei.size+j%ei.size=j:=by rw[Nat.mul_comm];exact Nat.div_add_mod j ei.size
        have Xq:j%ei.size<ei.size:=Nat.mod_lt _ R1;have Sy:j/ei.size<len+m:=(Nat.div_lt_iff_lt_mul R1).2 RE;have Tn:=ic cur.toList (o2+len*ei.size) Vt (by simpa using Sg) (o2+j);have S7:=UZ.len
        by_cases hn:j/ei.size<len
        ·rw[if_pos hn];obtain⟨u,hu,hr⟩:=SU.rep _ _ hn Xq;rw[Vs]at hu;have Sf:j<len*ei.size:=by
          have:(j/ei.size+1)*ei.size≤len*ei.size:=Nat.mul_le_mul_right _ hn
          rw[Nat.add_mul]at this;omega
         rw[if_neg (by omega)]at Tn;refine⟨u,?_,?_⟩
         ·rw[List.getElem?_toArray,Tn,Array.getElem?_toList]
          rcases SU.at_ with h0|⟨ad,ZJ,hat⟩
          ·rw[h0]at hu;simp at hu
          simp only[Option.some.injEq]at ZJ;subst ZJ
          have:=hat j u hu
          rw[fb,cell_of_row w g _ cur e' (0,0) hg]at this;exact this
         cases B' with
         |var cs=>exact absurd rfl (Xt cs)
         |ints e k xs=>exact hr
         |rows e w n f=>exact hr
         |wins e b2 n g=>exact hr
        rw[if_neg hn];obtain⟨u,hu,hr⟩:=UZ.rep (j/ei.size-len) _ (by omega) Xq;have hmul:len*ei.size≤j/ei.size*ei.size:=Nat.mul_le_mul_right _ (by omega);have Wd:len*ei.size≤j:=by omega
        rw[Nat.sub_mul,←Nat.sub_add_comm hmul,Vs]at hu;have ZK:=(List.getElem?_eq_some_iff.1 hu).1;rw[if_pos (by omega),show o2+j-(o2+len*ei.size)=j-len*ei.size by omega]at Tn;refine⟨u,?_,?_⟩
        ·rw[List.getElem?_toArray,Tn,←hu]
        cases B' with
        |var cs=>exact absurd rfl (Xt cs)
        |ints e k xs=>exact hr
        |rows e w n f=>exact hr
        |wins e b2 n g=>exact hr)
       subst R9;refine fin _ _ _ (Uv _ _ hr) h2 ⟨.inr rfl,by rw[lP];simp[X9],cap,by omega,.inl ⟨g,o2,o2,by rw[lP],rfl,.inr (by simp),?_⟩⟩;rw[dK (setRow_heap w g cur _ e' (0,0) hg),Xw]
       by_cases hc0':cap=0
       ·subst hc0';simp;omega
       have TJ:o2=o1+off*ei.size:=by rcases ho with ho|ho<;>omega
       rw[Nat.add_mul]at Sr;rw[TJ,Nat.zero_add];omega
      -- nothing at all is laid
      have Tr:len=0:=by omega
      have ZL:m=0:=by omega
      subst Tr;subst ZL;have hr:=rW (P:=P) (w:=w) (ty:=o.type) ht Ta (some ⟨g,o2,none⟩) 0 cap YI VK hc;rw[←R3,←Xv]at hr;have h2:=hs.rewrite (cur':=cur) YL RD hg rfl hid B' (o1+off*ei.size) (fun j c hj=>by have:=(YG j c hj).1;simp at this);rw[setRow_self w g cur e' (0,0) hg]at h2;subst R9;refine fin _ _ _ (Uv _ _ hr) h2 ⟨.inr rfl,by rw[lP];simp,cap,hc,.inl ⟨g,o1+off*ei.size,o2,by rw[lP],R3,?_,?_⟩⟩
      ·rcases ho with ho|ho
       ·exact .inl ho
       exact .inr (by rw[ho];omega)
      rw[dK hg];rw[Nat.add_mul]at Sr;rw[Nat.zero_add];omega
     rw[R3]at SG;simp only[Value.slice.injEq]at SG;obtain⟨rfl,rfl,rfl⟩:=SG;have hm:m=0:=by omega
     subst hm;have hr:=lI (P:=P) (w:=w) (ty:=o.type) ht Ta YI VK;rw[←Xv,←R3]at hr;subst R9;have h2:=(hs.del b).C0 hid B' (fun j=>by
      cases hc:B'.cell j with
      |none=>rfl
      |some c=>have:=(YG j c hc).1;simp at this) (by rw[X9])
     exact fin _ _ _ (Uv _ _ hr) h2 ⟨.inr rfl,by rw[lP];simp,0,by simp,.inr ⟨by rw[lP],R3,by simp,rfl⟩⟩
    cases R9
  cases R9
 cases R9
theorem Kz (hT:eJ P T){c:Call}(ho:o.op= .call c)(TC:c.callee= .builtin .append){x y:Operand}(RH:c.args= #[x,y]){t t':TypeId}(Sv:c.argTypes= #[t,t']){e':TypeId}(Ub:P.underlying t'=some (.slice e'))
  (SW:bT o s.n) (h:pq T s o.dst t x y K):ml P o s K:=by
 unfold pq at h
 cases hd:o.dst with
 |none=>rw[hd]at h;exact h.elim
 |some d=>
  rw[hd]at h;simp only at h
  cases RV:T t with
  |none=>rw[RV]at h;exact h.elim
  |some S=>
   rw[RV]at h;simp only at h
   split at h
   ·rename_i e TP
    have hu:=fm hT RV TP
    cases SB:T e with
    |none=>rw[SB]at h;exact h.elim
    |some E=>
     rw[SB]at h;simp only at h;obtain⟨ei,ed,ez,Ta,WU,U9,WV,Tz,YD,Tt,RI⟩:=bB hT SB
     split at h
     ·rename_i cx cy hx hy
      cases hb:yP s.own E.size (C9 cx)with
      |none=>rw[hb]at h;exact h.elim
      |some Tc=>
       rw[hb]at h;simp only at h;have Ya:∀G ρ a w,aR G (fun b=>b<s.nx) ρ s a w→aC ρ (fun b=>b<s.nx) (aG G s.own ρ w) w cx (a.eval x):=fun G ρ a w hs=>by
        have:=hs.ev x;rw[hx]at this;exact this
       have YH:∀G ρ a w,aR G (fun b=>b<s.nx) ρ s a w→aC ρ (fun b=>b<s.nx) (aG G s.own ρ w) w cy (a.eval y):=fun G ρ a w hs=>by
        have:=hs.ev y;rw[hy]at this;exact this
       have XZ:∀G ρ a w,aR G (fun b=>b<s.nx) ρ s a w→aC ρ (fun b=>b<s.nx) (aG G s.own ρ w) w (C9 cx) (a.eval x):=fun G ρ a w hs=>by
        have:=Ya G ρ a w hs
        cases cx with
        |win b b2 o l=>exact this.2
        |_=>exact this
       split at h
       ·rename_i k hk
        split at h
        ·rename_i xs ys UD Wu
         obtain⟨SP,UF,⟨YM,WY⟩,hK⟩:=h;have SK:ez.cells.size=ei.size:=by rw[←Tz,←SP,Tt];simp
         refine lB (wd:=E.size) (n:=xs.length) (m:=ys.length) (f0:=fun i _=>.int k (xs.getD i 0)) (f1:=fun i _=>.int k (ys.getD i 0)) hd (SW d hd) ho TC RH Sv Ub hu Ta U9 SK XZ Tz (by omega) hb (.ints e k (xs++ys)) (fun cs=>by simp) (by simp[Bk.len]) (fun j c hj=>?_) (by rw[←YD];exact YM) WY (fun G ρ a w hs=>?_) (fun G ρ a w hs=>?_) _ (fun _ _ _ _ h=>h) (by rw[UF,←X6];exact hK)
         ·simp only[Bk.cell]at hj;obtain⟨v,hv,rfl⟩:=Option.map_eq_some_iff.1 hj;obtain⟨Sf,hjv⟩:=List.getElem?_eq_some_iff.1 hv;rw[X6]at Sf;rw[UF,Nat.mul_one,Nat.div_one];refine⟨Sf,?_⟩;subst hjv
          by_cases ZM:j<xs.length
          ·rw[if_pos ZM]
           congr 1
           rw[List.getElem_append_left ZM]
           simp[X8 ZM]
          rw[if_neg ZM]
          congr 1
          rw[List.getElem_append_right (by omega)]
          have:j-xs.length<ys.length:=by omega
          simp[X8 this]
         ·rw[UF];obtain⟨ad,cap,us,h1,h2⟩:=ze hs (fun _ h=>h) (Ya G ρ a w hs) UD;exact⟨ad,cap,us,h1,h2.P2 _⟩
         rw[UF];obtain⟨ad,cap,us,h1,h2⟩:=ze hs (fun _ h=>h) (YH G ρ a w hs) Wu;exact⟨ad,cap,us,h1,h2.P2 _⟩
        exact h.elim
       split at h
       ·split at h
        ·rename_i b3 n f b4 m g UD Wu
         obtain⟨SP,UF,⟨YM,WY⟩,htag,hK⟩:=h;have SK:ez.cells.size=ei.size:=by rw[←Tz,←SP,Tt];simp
         have src:∀{c:C} {v:Value} {G:Ctx} {ρ:Nat→Loc} {a:Act} {w:World} {bb k:Nat} {h:Nat→C} (B:Bk) (_:∃e b n g,B= .wins e b n g),aR G (fun b=>b<s.nx) ρ s a w→aC ρ (fun b=>b<s.nx) (aG G s.own ρ w) w c v→HJ s.own s.nx c=some (bb,k,h)→
           ∃ad cap us,v= .slice ad k cap∧tX (G6 B ρ (fun b=>b<s.nx) (aG G s.own ρ w) w) w 1 k (fun i _=>h i) ad us:=by
          intro c v G ρ a w bb k h B hB hs hr hw;obtain⟨e1,b1,n1,g1,rfl⟩:=hB;unfold HJ at hw
          split at hw
          ·rename_i b b2 off len
           split at hw
           ·rename_i e3 b3 n3 g3 rw3 Si
            split at hw
            ·rename_i h0
             split at hw
             ·rename_i hln
              subst h0;subst hln;simp only[Option.some.injEq,Prod.mk.injEq]at hw;obtain⟨rfl,rfl,rfl⟩:=hw;exact E3 hs Si hr.2
             cases hw
            cases hw
           cases hw
          split at hw
          ·rename_i n3 f3 hr3
           simp only[Option.some.injEq,Prod.mk.injEq]at hw;obtain⟨rfl,rfl,rfl⟩:=hw;obtain⟨ad,cap,us,h1,h2⟩:=pU hs (fun _ h=>h) hr hr3;exact⟨ad,cap,us,h1,(h2.congr (g:=fun i _=>f3 i 0) (fun i j _ hj=>by rw[show j=0 by omega])).P2 _⟩
          cases hw
         refine lB (wd:=E.size) (n:=n) (m:=m) (f0:=fun i _=>f i) (f1:=fun i _=>g i) hd (SW d hd) ho TC RH Sv Ub hu Ta U9 SK XZ Tz (by omega) hb (.wins e (if tA cy=true then b4 else b3) (n+m) (fun i=>if i<n then f i else g (i-n))) (fun cs=>by simp) rfl (fun j c hj=>?_) (by rw[←YD];exact YM) WY (fun G ρ a w hs=>?_) (fun G ρ a w hs=>?_) _ (fun ρ' ok' w' v h=>?_) hK
         ·simp only[Bk.cell]at hj;rw[UF,Nat.mul_one,Nat.div_one]
          split at hj
          ·rename_i RE
           simp only[Option.some.injEq]at hj;exact⟨RE,hj.symm⟩
          cases hj
         ·rw[UF];exact src _ ⟨_,_,_,_,rfl⟩ hs (Ya G ρ a w hs) UD
         ·rw[UF];exact src _ ⟨_,_,_,_,rfl⟩ hs (YH G ρ a w hs) Wu
         rw[UF]at h;exact⟨.inl htag,h⟩
        exact h.elim
       split at h
       ·rename_i n f m g UD Wu
        obtain⟨SP,R1,⟨YM,WY⟩,hK⟩:=h;have SK:ez.cells.size=ei.size:=by rw[←Tz,←SP,Tt];simp
        refine lB (wd:=E.size) (n:=n) (m:=m) (f0:=f) (f1:=g) hd (SW d hd) ho TC RH Sv Ub hu Ta U9 SK XZ Tz R1 hb (.rows e E.size (n+m) (fun i j=>if i<n then f i j else g (i-n) j)) (fun cs=>by simp) rfl (fun j c hj=>?_) (by rw[←YD];exact YM) WY (fun G ρ a w hs=>?_) (fun G ρ a w hs=>?_) _ (fun _ _ _ _ h=>h) hK
        ·simp only[Bk.cell]at hj
         split at hj
         ·rename_i RE
          simp only[Option.some.injEq]at hj;exact⟨RE,hj.symm⟩
         cases hj
        ·obtain⟨ad,cap,us,h1,h2⟩:=pU hs (fun _ h=>h) (Ya G ρ a w hs) UD;exact⟨ad,cap,us,h1,h2.P2 _⟩
        obtain⟨ad,cap,us,h1,h2⟩:=pU hs (fun _ h=>h) (YH G ρ a w hs) Wu;exact⟨ad,cap,us,h1,h2.P2 _⟩
       exact h.elim
     exact h.elim
   exact h.elim
end
end Go.Eng
namespace Go.Eng
open Go
def Bk.plain:Bk→Prop
 |.var cs=>cs.all gp=true
 |.wins .. =>False
 |_=>True
structure yf (l:Loc) (w w':World):Prop where
 os:w'.os=w.os
 tape:w'.tape=w.tape
 output:w'.output=w.output
 size:w.heap.size≤w'.heap.size
 block:∀k,k<w.heap.size→(∀o,l.addr≠some (k,o))→w'.heap[k]? =w.heap[k]?
 room:∀g,bZ w g≤bZ w' g
def FJ (ok:Nat→Prop)(w w':World)(g:Nat):Prop:=ok g∨(w.heap.size≤g∧g<w'.heap.size)
def Mc (P:Program)(f:FuncId)(args:List V)(B:Bk)(R:V→Bk→Prop):Prop:=
 g7 P f∧∀(ok:Nat→Prop) (w:World) (vs:Array Value) (l:Loc),(∀g,ok g→g<w.heap.size)→l.len=B.len→(∀g o,l.addr=some (g,o)→g<w.heap.size∧¬ok g)→
  aL bg bm ok w l B→a7 (fun _=>l) (fun b=>b=0) ok w args vs.toList→
  Calls P f vs w fun e w'=>∃v r B',e= .returned v∧R r B'∧B'.plain∧B'.len=B.len∧yf l w w'∧
   aL bg bm (FJ ok w w') w' l B'∧b6 (fun _=>l) (fun b=>b=0) (FJ ok w w') w' r v
def Mw (b:Nat)(own:List (Nat×fA))(nx:Nat)(c:C):C:=
 match c with
 |.own b' wd off len=>if b'=b then .own 0 wd off len else jM own nx (.own b' wd off len)
 |.ptr b' off=>if b'=b then .ptr 0 off else jM own nx (.ptr b' off)
 |.win _ _ _ _=>.any
 |c=>jM own nx c
def I3 (b:Nat)(own:List (Nat×fA))(nx:Nat):V→V
 |.one c=>.one (Mw b own nx c)
 |.agg cs=>.agg (cs.map (Mw b own nx))
 |_=>.unk
def DE (b:Nat)(c:C):C:=
 match c with
 |.own _ wd off len=>.own b wd off len
 |.ptr _ off=>.ptr b off
 |.eptr _ _ _ _=>.any
 |.win _ _ _ _=>.any
 |.fn _ _ _=>.any
 |c=>c
def GK (b:Nat):V→V
 |.one c=>.one (DE b c)
 |_=>.unk
def uA (b:Nat):V→V
 |.one c=>.one (DE b c)
 |.aB xs=>.aB (xs.map (GK b))
 |_=>.unk
theorem aL.gx {ρ ρ':Nat→Loc}{dom dom' ok ok':Nat→Prop}{w:World}{l:Loc}{B:Bk}(hp:B.plain)(h:∀g,ok g→ok' g)(hr:aL ρ dom ok w l B):aL ρ' dom' ok' w l B:=by
 unfold aL at*
 cases ha:l.addr with
 |none=>rw[ha]at hr;exact hr
 |some p=>
  obtain⟨g,o⟩:=p;rw[ha]at hr;obtain⟨cur,e,hg,hc⟩:=hr;refine⟨cur,e,hg,fun j c hj=>?_⟩;obtain⟨u,hu,hr⟩:=hc j c hj;refine⟨u,hu,?_⟩
  cases B with
  |var cs=>
   have hm:c∈cs:=List.mem_of_getElem? hj;exact jP (List.all_eq_true.1 hp c hm) hr
  |ints e k xs=>exact aP.ext (Ext.dA h) _ _ hr
  |rows e wd n f=>exact aP.ext (Ext.dA h) _ _ hr
  |wins e b2 n g=>exact hp.elim
section
variable {G:Ctx}{dom:Nat→Prop}{ρ:Nat→Loc}{s:St}{a:Act}{w:World}
theorem vA (hs:aR G dom ρ s a w)(b:Nat)(ids:List Nat)(c:C)(v:Value)(hi:∀b'∈gr c,b'≠b→b'∈ids)(hr:aC ρ dom (aG G s.own ρ w) w c v):
  aC (fun _=>ρ b) (fun i=>i=0) (cS G s.own ρ w ids) w (Mw b s.own s.nx c) v:=by
 have o:Oper:=default;have SL:hC bm (fun i:Nat=>i=0) bg (fun _=>ρ b):=⟨fun _ h=>h.elim,fun _ h=>h.elim⟩;have hx:Ext (cS G s.own ρ w ids) (cS G s.own ρ w ids) w w:=Ext.refl _ _;have view:(∀b'∈gr c,b'<s.nx→b'∈ids)→aC (fun _=>ρ b) (fun i=>i=0) (cS G s.own ρ w ids) w (jM s.own s.nx c) v:=fun Tm=>
  aC.ext hx SL _ _ (mV hs (gN.refl s s.nx o) c v ids Tm hr)
 cases c with
 |own b' wd off len=>
  show aC _ _ _ w (Mw b s.own s.nx (.own b' wd off len)) v;simp only[Mw]
  by_cases hb:b'=b
  ·rw[if_pos hb];subst hb;obtain⟨_,h2,h3⟩:=hr;exact⟨rfl,h2,h3⟩
  rw[if_neg hb];refine view fun b2 Sn _=>hi b2 Sn ?_;simp only[gr,List.mem_singleton]at Sn;subst Sn;exact hb
 |ptr b' off=>
  show aC _ _ _ w (Mw b s.own s.nx (.ptr b' off)) v;simp only[Mw]
  by_cases hb:b'=b
  ·rw[if_pos hb];subst hb;obtain⟨_,h2⟩:=hr;exact⟨rfl,h2⟩
  rw[if_neg hb];refine view fun b2 Sn _=>hi b2 Sn ?_;simp only[gr,List.mem_singleton]at Sn;subst Sn;exact hb
 |win b' b2 off len=>exact(aC.plain (c:=.win b' b2 off len) hr).1
 |any=>exact view (fun _ h=>by simp[gr]at h)
 |bool t=>exact view (fun _ h=>by simp[gr]at h)
 |int k n=>exact view (fun _ h=>by simp[gr]at h)
 |str t=>exact view (fun _ h=>by simp[gr]at h)
 |nil=>exact view (fun _ h=>by simp[gr]at h)
 |ints k xs=>exact view (fun _ h=>by simp[gr]at h)
 |rows wd n f=>exact view (fun _ h=>by simp[gr]at h)
 |elt c wd i off=>exact view (fun _ h=>by simp[gr]at h)
 |eptr b wd i off=>exact view (fun _ h=>by simp[gr]at h)
 |fn f n caps=>exact view (fun _ h=>by simp[gr]at h)
theorem vC (hs:aR G dom ρ s a w)(b:Nat)(ids:List Nat)(x:V)(v:Value)(hi:∀b'∈kv x,b'≠b→b'∈ids)(hr:b6 ρ dom (aG G s.own ρ w) w x v):
  dM (fun _=>ρ b) (fun i=>i=0) (cS G s.own ρ w ids) w (I3 b s.own s.nx x) v:=by
 cases x with
 |one c=>exact vA hs b ids c v hi hr
 |agg cs=>
  obtain⟨vs,hv,hl⟩:=hr;refine⟨vs,hv,?_⟩
  generalize vs.toList=l at hl
  have Tm:∀c∈cs,∀b'∈gr c,b'≠b→b'∈ids:=fun c hc b' Sl=>hi b' (List.mem_flatMap.2 ⟨c,hc,Sl⟩);clear hv hi
  induction cs generalizing l with
  |nil=>cases l with
   |nil=>trivial
   |cons u l=>exact hl.elim
  |cons c cs ih=>
   cases l with
   |nil=>exact hl.elim
   |cons u l=>exact⟨vA hs b ids c u (Tm c (List.mem_cons_self ..)) hl.1,ih l hl.2 fun c' hc=>Tm c' (List.mem_cons_of_mem _ hc)⟩
 |aB xs=>trivial
 |unk=>trivial
theorem rr {dom:Nat→Prop}{ρ:Nat→Loc}{ok ok':Nat→Prop}{w:World}{b:Nat}(hb:dom b)(h:∀g,ok g→ok' g){c:C}{v:Value}(hr:aC (fun _=>ρ b) (fun i=>i=0) ok w c v):aC ρ dom ok' w (DE b c) v:=by
 have hx:Ext ok ok' w w:=Ext.dA h
 cases c with
 |own b' wd off len=>
  obtain⟨_,h2,h3⟩:=hr;exact⟨hb,h2,h3⟩
 |ptr b' off=>
  obtain⟨_,h2⟩:=hr;exact⟨hb,h2⟩
 |eptr b' wd i off=>exact(aC.plain (c:=.eptr b' wd i off) hr).1
 |win b' b2 off len=>exact(aC.plain (c:=.win b' b2 off len) hr).1
 |fn f n caps=>exact(aC.plain (c:=.fn f n caps) hr).1
 |any=>exact aP.ext hx .any v hr
 |bool t=>exact aP.ext hx (.bool t) v hr
 |int k n=>exact aP.ext hx (.int k n) v hr
 |str t=>exact aP.ext hx (.str t) v hr
 |nil=>exact aP.ext hx .nil v hr
 |ints k xs=>exact aP.ext hx (.ints k xs) v hr
 |rows wd n f=>exact aP.ext hx (.rows wd n f) v hr
 |elt c wd i off=>exact aP.ext hx (.elt c wd i off) v hr
theorem rK {dom:Nat→Prop}{ρ:Nat→Loc}{ok ok':Nat→Prop}{w:World}{b:Nat}(hb:dom b)(h:∀g,ok g→ok' g):∀{xs:List V} {vs:List Value},a7 (fun _=>ρ b) (fun i=>i=0) ok w xs vs→a7 ρ dom ok' w (xs.map (GK b)) vs
 |[],[],_=>trivial
 |x::xs,v::vs,hr=>by
  refine⟨?_,rK hb h hr.2⟩
  cases x with
  |one c=>exact rr (c:=c) hb h hr.1
  |unk=>trivial
  |agg cs=>trivial
  |aB ys=>trivial
 |[],_::_,hr=>hr.elim
 |_::_,[],hr=>hr.elim
theorem yS {dom:Nat→Prop}{ρ:Nat→Loc}{ok ok':Nat→Prop}{w:World}{b:Nat}(hb:dom b)(h:∀g,ok g→ok' g){x:V}{v:Value}(hr:b6 (fun _=>ρ b) (fun i=>i=0) ok w x v):b6 ρ dom ok' w (uA b x) v:=by
 cases x with
 |one c=>exact rr (c:=c) hb h hr
 |unk=>trivial
 |agg cs=>trivial
 |aB xs=>
  obtain⟨vs,h1,h2⟩:=hr;exact⟨vs,h1,rK hb h h2⟩
theorem aR.MX (h:aR G dom ρ s a w){b:Nat}{B:Bk}(hl:lo s.own b=some ⟨B,true⟩){ids:List Nat}(SV:b∉ids){w':World}(hm:yf (ρ b) w w'){B':Bk}(hp:B'.plain)(hlen:B'.len=B.len)
  (RG:aL bg bm (FJ (cS G s.own ρ w ids) w w') w' (ρ b) B'):
  aR G dom ρ {s with own:=eD (Eng.dJ s.own ids) b ⟨B',true⟩} a w'∧∀g,FJ (cS G s.own ρ w ids) w w' g→aG G (eD (Eng.dJ s.own ids) b ⟨B',true⟩) ρ w' g:=by
 obtain⟨hd,Ww,Vu,WZ⟩:=h.own b _ hl;have R2:∀b2 B2,b2≠b→lo (Eng.dJ s.own ids) b2=some B2→∃B3,lo s.own b2=some B3∧B2.bk=B3.bk∧(B2.rw=true→B3.rw=true∧b2∉ids):=by
  intro b2 B2 _ h2;rw[fy]at h2
  cases h3:lo s.own b2 with
  |none=>rw[h3]at h2;simp at h2
  |some B3=>
   rw[h3]at h2;simp only[Option.map_some,Option.some.injEq]at h2
   by_cases hm:ids.contains b2=true
   ·rw[if_pos hm]at h2;subst h2;exact⟨B3,rfl,rfl,fun h=>by simp at h⟩
   rw[if_neg hm]at h2;subst h2;exact⟨B3,rfl,rfl,fun h=>⟨h,by simpa using hm⟩⟩
 have R6:∀g,FJ (cS G s.own ρ w ids) w w' g→aG G (eD (Eng.dJ s.own ids) b ⟨B',true⟩) ρ w' g:=by
  have step:∀g,g<w'.heap.size→¬G.forb g→(∀o,(ρ b).addr≠some (g,o))→(∀b2 B2,b2≠b→lo (Eng.dJ s.own ids) b2=some B2→B2.rw=true→∀o2,(ρ b2).addr≠some (g,o2))→aG G (eD (Eng.dJ s.own ids) b ⟨B',true⟩) ρ w' g:=by
   intro g h1 h2 h3 h4;refine⟨h1,h2,fun b2 B2 RF RX o2=>?_⟩;rw[b7]at RF
   by_cases RR:b2=b
   ·subst RR;exact h3 o2
   rw[if_neg RR]at RF;exact h4 b2 B2 RR RF RX o2
  rintro g ((h3|⟨b1,RR,B2,o',S7,Sj⟩)|⟨h3,h4⟩)
  ·refine step g (Nat.lt_of_lt_of_le h3.1 hm.size) h3.2.1 (h3.2.2 b _ hl rfl) fun b2 B2 RT h2 RX o2=>?_;obtain⟨B3,h5,_,h6⟩:=R2 b2 B2 RT h2;exact h3.2.2 b2 B3 h5 (h6 RX).1 o2
  ·obtain⟨_,_,_,h4⟩:=h.own b1 B2 S7;obtain⟨h5,h6,_⟩:=h4 g o' Sj;have hne1:b≠b1:=fun e=>SV (e▸RR);refine step g (Nat.lt_of_lt_of_le h5 hm.size) h6 (fun o he=>h.inj b _ b1 B2 hl S7 hne1 rfl g o o' he Sj) fun b2 B3 RT h2 RX o2 he=>?_;obtain⟨B4,h7,_,h8⟩:=R2 b2 B3 RT h2;obtain⟨h9,TW⟩:=h8 RX;exact h.inj b2 B4 b1 B2 h7 S7 (fun e=>TW (e▸RR)) h9 g o2 o' he Sj
  refine step g h4 (fun hf=>absurd (h.wf _ hf) (by have:=h.size;omega)) (fun o he=>absurd (WZ g o he).1 (by omega)) fun b2 B2 RT h2 RX o2 he=>?_;obtain⟨B3,h5,_,_⟩:=R2 b2 B2 RT h2;exact absurd ((h.own b2 B3 h5).2.2.2 g o2 he).1 (by omega)
 have RN:Ext (aG G s.own ρ w) (aG G (eD (Eng.dJ s.own ids) b ⟨B',true⟩) ρ w') w w':=
  ⟨fun g hg=>⟨R6 g (.inl (.inl hg)),hm.block g hg.1 (hg.2.2 b _ hl rfl)⟩,hm.room⟩
 have hs:hC dom dom ρ ρ:=⟨fun _ h=>h,fun _ _=>rfl⟩;refine⟨h.rY RN hs ?_ ?_ hm.os hm.tape hm.output hm.size ?_,R6⟩
 ·intro b2 B2 RF;rw[b7]at RF
  by_cases RR:b2=b
  ·subst RR;rw[if_pos rfl]at RF;obtain rfl:=Option.some.inj RF;exact⟨hd,by rw[Ww];exact hlen.symm,RG.gx hp R6,fun g o ha=>⟨Nat.lt_of_lt_of_le (WZ g o ha).1 hm.size,(WZ g o ha).2⟩⟩
  rw[if_neg RR]at RF;obtain⟨B3,h5,h6,_⟩:=R2 b2 B2 RR RF;obtain⟨h7,h8,h9,TW⟩:=h.own b2 B3 h5;rw[h6];exact⟨h7,h8,aL.ext RN hs _ _ (fun g o ha=>hm.block g (TW g o ha).1 fun o2 he=>h.inj b _ b2 B3 hl h5 (fun e=>RR e.symm) rfl g o2 o he ha) h9,fun g o ha=>⟨Nat.lt_of_lt_of_le (TW g o ha).1 hm.size,(TW g o ha).2⟩⟩
 ·have UK:∀b2 B2,lo (eD (Eng.dJ s.own ids) b ⟨B',true⟩) b2=some B2→∃B3,lo s.own b2=some B3∧(B2.rw=true→B3.rw=true):=by
   intro b2 B2 RF;rw[b7]at RF
   by_cases RR:b2=b
   ·subst RR;exact⟨_,hl,fun _=>rfl⟩
   rw[if_neg RR]at RF;obtain⟨B3,h5,_,h7⟩:=R2 b2 B2 RR RF;exact⟨B3,h5,fun h=>(h7 h).1⟩
  intro b1 B1 b2 B2 S7 RF RT RX;obtain⟨B3,h5,h6⟩:=UK b1 B1 S7;obtain⟨B4,h7,_⟩:=UK b2 B2 RF;exact h.inj b1 B3 b2 B4 h5 h7 RT (h6 RX)
 intro k hk hmine;refine hm.block k (Nat.lt_of_lt_of_le hk h.size) fun o he=>?_
 rcases(WZ k o he).2.2 with h1|h1
 ·omega
 exact hmine h1
end
def L0 (b:Nat)(raw:List V):List Nat:=(raw.map kv).flatten.filter (fun b'=>b' !=b)
def OO (s:St)(dst:Option Tmp)(b:Nat)(raw:List V)(r:V)(B':Bk):St:={s.put dst (uA b r)with own:=eD (dJ s.own (L0 b raw)) b ⟨B',true⟩}
def yD (c:Option C)(v u:Value):Value:=match c with
 |some _=>.tuple #[v,u]
 |none=>v
def ub (P:Program)(f:FuncId)(args:List V)(n:Nat)(g:Nat→Nat→C)(B:Bk)(c:Option C):Prop:=
 (∀c',c=some c'→me c')∧g7 P f∧B.flat∧∀(ok:Nat→Prop) (w:World) (vs:Array Value),(∀g,ok g→g<w.heap.size)→a7 bg bm ok w args vs.toList→
  Calls P f vs w fun e w'=>∃v u l1 l2,e= .returned (yD c v u)∧Go.RowKit.Below w.heap.size w w'∧l1.len=n∧l2.len=B.len∧
   (∀g o,l1.addr=some (g,o)→w.heap.size≤g∧g<w'.heap.size)∧(∀g o,l2.addr=some (g,o)→w.heap.size≤g∧g<w'.heap.size)∧(∀g o o',l1.addr=some (g,o)→l2.addr≠some (g,o'))∧
   aL bg bm (fun g=>ok g∨(w.heap.size≤g∧g<w'.heap.size∧∀o,l1.addr≠some (g,o)∧l2.addr≠some (g,o))) w' l2 B∧
   (∀(ρ:Nat→Loc) (dom ok':Nat→Prop) (b b2:Nat),ρ b=l1→ρ b2=l2→dom b→dom b2→(∀g,(ok g∨(w.heap.size≤g∧g<w'.heap.size∧∀o,l1.addr≠some (g,o)∧l2.addr≠some (g,o)))→ok' g)→
    aL ρ dom ok' w' l1 (.wins 0 b2 n (g b2))∧aC ρ dom ok' w' (.win b b2 0 n) v)∧∀c',c=some c'→aC bg bm (fun _=>False) w' c' u
def GW (c:Option C)(x:C):V:=match c with
 |some c=>.aB [.one x,.one c]
 |none=>.one x
def Gs (raw:List V):List Nat:=(raw.map kv).flatten
def OR (s:St)(dst:Option Tmp)(raw:List V)(n:Nat)(g:Nat→Nat→C)(B:Bk)(c:Option C):St:=
 {s.put dst (GW c (.win s.nx (s.nx+1) 0 n))with own:=eD (eD (dJ s.own (Gs raw)) s.nx ⟨.wins 0 (s.nx+1) n (g (s.nx+1)),true⟩) (s.nx+1) ⟨B,true⟩,nx:=s.nx+2}
def wJ (P:Program)(f:FuncId)(raw:List V)(s:St)(dst:Option Tmp)(K:St→Prop):Prop:=
 (∃b B R,lo s.own b=some ⟨B,true⟩∧B.plain∧Mc P f (raw.map (I3 b s.own s.nx)) B R∧∀r B',R r B'→B'.len=B.len→eI K (OO s dst b raw r B'))∨
 (∃n g B c,ub P f (raw.map (Bq s.own s.nx)) n g B c∧eI K (OR s dst raw n g B c))
theorem NI {P:Program}{f:FuncId}{s:St}{dst:Option Tmp}{K:St→Prop}{raw:List V}{n:Nat}{g:Nat→Nat→C}{B:Bk}{c0:Option C}(hF:ub P f (raw.map (Bq s.own s.nx)) n g B c0)(hK:K (OR s dst raw n g B c0))(hd:∀d,dst=some d→d<s.n)
  {G:Ctx} {a:Act} {w:World} {ρ:Nat→Loc} (hs:aR G (fun b=>b<s.nx) ρ s a w) {vs:Array Value} (Sd:a7 bg bm (cS G s.own ρ w (Gs raw)) w (raw.map (Bq s.own s.nx)) vs.toList):
  Calls P f vs w fun e w'=>∃v,e= .returned v∧∃s',K s'∧ot G s' (a.put dst v) w':=by
 obtain⟨Wp,SC,VD,hF⟩:=hF;have o:Oper:=default
 let ids:=Gs raw
 have RE:∀g,cS G s.own ρ w ids g→g<w.heap.size:=by
  rintro g (h1|⟨b,_,B,o',hl,Sj⟩)
  ·exact h1.1
  exact((hs.own b B hl).2.2.2 g o' Sj).1
 refine Calls.mono (hF _ w _ RE Sd) fun e w' he=>?_;obtain⟨v,u,l1,l2,rfl,hb,S7,RF,hn1,We,hdj,RG,hwin,hu⟩:=he;refine⟨_,rfl,_,hK,?_⟩;have h2:=hs.dJ ids
 let VN:=eD (eD (dJ s.own ids) s.nx ⟨.wins 0 (s.nx+1) n (g (s.nx+1)),true⟩) (s.nx+1) ⟨B,true⟩
 let ρ2:=aZ (aZ ρ s.nx l1) (s.nx+1) l2
 have Uc:ρ2 s.nx=l1:=by show aZ _ _ _ _=_;rw[aW _ _ (by omega),lP]
 have Vb:ρ2 (s.nx+1)=l2:=lP ..;have Vn:∀b B3,lo VN b=some B3→(ρ2 b=l2)∨(ρ2 b=l1)∨(lo (dJ s.own ids) b=some B3∧ρ2 b=ρ b):=by
  intro b B3 hl;rw[b7]at hl
  by_cases h1:b=s.nx+1
  ·exact .inl (by rw[h1];exact Vb)
  rw[if_neg h1,b7]at hl
  by_cases h3:b=s.nx
  ·exact .inr (.inl (by rw[h3];exact Uc))
  rw[if_neg h3]at hl;exact .inr (.inr ⟨hl,by show aZ _ _ _ _=_;rw[aW _ _ h1,aW _ _ h3]⟩)
 have R6:∀g,(cS G s.own ρ w ids g∨(w.heap.size≤g∧g<w'.heap.size∧∀o,l1.addr≠some (g,o)∧l2.addr≠some (g,o)))→aG G VN ρ2 w' g:=by
  have step:∀g,g<w'.heap.size→¬G.forb g→(∀o,l1.addr≠some (g,o)∧l2.addr≠some (g,o))→(∀b2 B2,lo (dJ s.own ids) b2=some B2→B2.rw=true→∀o2,(ρ b2).addr≠some (g,o2))→aG G VN ρ2 w' g:=by
   intro g h1 h2 h3 h4;refine⟨h1,h2,fun b2 B2 RF RX o2=>?_⟩
   rcases Vn b2 B2 RF with e|e|⟨e1,e⟩<;>rw [e]
   ·exact(h3 o2).2
   ·exact(h3 o2).1
   exact h4 b2 B2 e1 RX o2
  rintro g ((h3|⟨b,RR,B2,o',hl,Sj⟩)|⟨h3,h4,h5⟩)
  ·exact step g (Nat.lt_of_lt_of_le h3.1 hb.size) h3.2.1 (fun o=>⟨fun he=>absurd h3.1 (by have:=(hn1 g o he).1;omega),fun he=>absurd h3.1 (by have:=(We g o he).1;omega)⟩) (kn h3).2.2
  ·obtain⟨_,_,_,h4⟩:=hs.own b B2 hl;obtain⟨h5,h6,_⟩:=h4 g o' Sj;refine step g (Nat.lt_of_lt_of_le h5 hb.size) h6 (fun o=>⟨fun he=>absurd h5 (by have:=(hn1 g o he).1;omega),fun he=>absurd h5 (by have:=(We g o he).1;omega)⟩) fun b2 B3 RF RX o2 R4=>?_;rw[fy]at RF
   cases Si:lo s.own b2 with
   |none=>rw[Si]at RF;simp at RF
   |some B4=>
    rw[Si]at RF;simp only[Option.map_some,Option.some.injEq]at RF
    by_cases hm:ids.contains b2=true
    ·rw[if_pos hm]at RF;subst RF;simp at RX
    rw[if_neg hm]at RF;subst RF
    by_cases TR:b2=b
    ·subst TR;exact hm (by simpa using RR)
    exact hs.inj b2 B4 b B2 Si hl TR RX g o2 o' R4 Sj
  refine step g h4 (fun hf=>absurd (hs.wf _ hf) (by have:=hs.size;omega)) h5 fun b2 B2 RF _ o2 R4=>?_;rw[fy]at RF
  cases Si:lo s.own b2 with
  |none=>rw[Si]at RF;simp at RF
  |some B3=>exact absurd ((hs.own b2 B3 Si).2.2.2 g o2 R4).1 (by omega)
 let Wx:Nat→Prop:=fun b=>(b<s.nx∨b=s.nx)∨b=s.nx+1
 obtain⟨Xx,W1⟩:=hwin ρ2 Wx (aG G VN ρ2 w') s.nx (s.nx+1) Uc Vb (.inl (.inr rfl)) (.inr rfl) R6;have h3:=h2.Lh hb (i:=s.nx) (j:=s.nx+1) (Nat.lt_irrefl _) (by omega) (by omega) (.wins 0 (s.nx+1) n (g (s.nx+1))) B l1 l2 S7 RF hn1 We hdj Xx
  (aL.ext (dom:=bm) (ρ:=bg) (Ext.dA R6) ⟨fun b hb=>hb.elim,fun b hb=>hb.elim⟩ _ _ (fun _ _ _=>rfl) RG)
 have YN:b6 ρ2 Wx (aG G VN ρ2 w') w' (GW c0 (.win s.nx (s.nx+1) 0 n)) (yD c0 v u):=by
  cases c0 with
  |none=>exact W1
  |some c=>
   have h1:=Wp c rfl;have h2:=hu c rfl
   exact⟨_,rfl,W1,(by cases c<;>first|exact h1.elim|exact h2),trivial⟩
 have h4:=h3.put (dst:=dst) (x:=GW c0 (.win s.nx (s.nx+1) 0 n)) (v:=yD c0 v u) hd YN;refine⟨ρ2,?_⟩;have e2:aR G Wx ρ2 (OR s dst raw n g B c0) (a.put dst (yD c0 v u)) w':=by
  obtain⟨q1,q2,q3,q4,q5,q6,q7,q8,q9,q10,q11,q12,q13⟩:=h4
  cases dst
  ·exact⟨q1,q2,q3,q4,q5,q6,q7,q8,q9,q10,q11,q12,q13⟩
  exact⟨q1,q2,q3,q4,q5,q6,q7,q8,q9,q10,q11,q12,q13⟩
 have e3:Wx=fun b=>b<(OR s dst raw n g B c0).nx:=by
  funext b
  show((b<s.nx∨b=s.nx)∨b=s.nx+1)=(b<s.nx+2)
  exact propext ⟨fun h=>by omega,fun h=>by omega⟩
 rw[e3]at e2;exact e2
def nZ (P:Program)(op:Op)(dst:Option Tmp)(s:St)(K:St→Prop):Prop:=
 match op with
 |.call c=>match c.callee with
  |.value g=>match s.ev g with
   |.one (.fn f n _)=>n=0∧wJ P f (c.args.toList.map s.ev) s dst K
   |_=>False
  |_=>False
 |_=>False
theorem IA {P:Program}{o:Oper}{s:St}{K:St→Prop}(hd:bT o s.n)(h:nZ P o.op o.dst s K):ml P o s K:=by
 unfold nZ at h
 split at h
 ·rename_i c ho
  split at h
  ·rename_i g hc
   split at h
   ·rename_i f n caps hg
    obtain⟨rfl,h⟩:=h;intro G a w RL Q next hk;obtain⟨ρ,hs⟩:=RL;have UX:=hs.ev g;rw[hg]at UX;obtain⟨cs,UX,Sc,_⟩:=UX;obtain rfl:cs= #[]:=Array.eq_empty_of_size_eq_zero Sc;have RK:g7 P f→(execOp a.eval o).run P w= .ok (.enter f (c.args.map a.eval)) w:=by
     intro SC;unfold execOp;rw[ho];simp only[resolve,hc,Sem.run_bind,UX,Deferred.ofValue,Sem.run_pure,Result.andThen_ok,invoke]
     have:=kM (w:=w) SC (c.args.map a.eval)
     simpa using this
    rcases h with⟨b,B,R,hl,TS,⟨SC,hmut⟩,hK⟩|⟨n0,g0,B,c0,hF,hK⟩
    rotate_left
    ·unfold Oper.wp;rw[RK hF.2.1,Oper.upon_enter];refine Calls.mono (NI hF hK (dst:=o.dst) hd hs (vs:=c.args.map a.eval) ?_) fun e w' he=>?_
     ·rw[Array.toList_map]
      have:=a7.mT (ρ:=bg) (dom:=bm) (ok:=cS G s.own ρ w (Gs (c.args.toList.map s.ev))) (w:=w) (fun x=>Bq s.own s.nx (s.ev x)) a.eval c.args.toList fun x hx=>
       nG hs (gN.refl s s.nx o) _ _ _ (fun b' Sl _=>List.mem_flatten.2 ⟨_,List.mem_map.2 ⟨s.ev x,List.mem_map.2 ⟨x,hx,rfl⟩,rfl⟩,Sl⟩) (hs.ev x)
      simpa[List.map_map,Function.comp_def]using this
     obtain⟨v,rfl,s',h1,h2⟩:=he;exact hk _ _ _ h1 h2
    unfold Oper.wp;rw[RK SC,Oper.upon_enter]
    let raw:=c.args.toList.map s.ev
    let ids:=L0 b raw
    have SV:b∉ids:=by simp[ids,L0]
    obtain⟨WT,Ww,Vu,WZ⟩:=hs.own b _ hl;have RE:∀g,cS G s.own ρ w ids g→g<w.heap.size:=by
     rintro g (h1|⟨b,_,B,o',hl,Sj⟩)
     ·exact h1.1
     exact((hs.own b B hl).2.2.2 g o' Sj).1
    have Wy:∀g o1,(ρ b).addr=some (g,o1)→g<w.heap.size∧¬cS G s.own ρ w ids g:=by
     intro g o1 ha;refine⟨(WZ g o1 ha).1,?_⟩
     rintro(h1|⟨b1,Uq,B1,o',S7,Sj⟩)
     ·exact h1.2.2 b _ hl rfl o1 ha
     exact hs.inj b _ b1 B1 hl S7 (fun e=>SV (e▸Uq)) rfl g o1 o' ha Sj
    have RH:a7 (fun _=>ρ b) (fun i=>i=0) (cS G s.own ρ w ids) w (raw.map (I3 b s.own s.nx)) (c.args.map a.eval).toList:=by
     rw[Array.toList_map]
     have:=a7.mT (ρ:=fun _=>ρ b) (dom:=fun i=>i=0) (ok:=cS G s.own ρ w ids) (w:=w) (fun x=>I3 b s.own s.nx (s.ev x)) a.eval c.args.toList fun x hx=>by
      refine vC hs b ids _ _ (fun b' Sl RT=>?_) (hs.ev x);refine List.mem_filter.2 ⟨List.mem_flatten.2 ⟨_,List.mem_map.2 ⟨s.ev x,List.mem_map.2 ⟨x,hx,rfl⟩,rfl⟩,Sl⟩,by simpa using RT⟩
     simpa[raw,List.map_map,Function.comp_def]using this
    have Wz:aL bg bm (cS G s.own ρ w ids) w (ρ b) B:=Vu.gx TS fun g hg=>.inl hg;refine Calls.mono (hmut _ w _ (ρ b) RE Ww Wy Wz RH) fun e w' he=>?_;obtain⟨v,r,B',rfl,hR,Wf,W2,hm,RG,RQ⟩:=he;obtain⟨VO,R6⟩:=hs.MX hl SV hm Wf W2 RG;refine hk _ _ _ (hK r B' hR W2) ⟨ρ,?_⟩;have TI:b6 ρ (fun i=>i<s.nx) (aG G (eD (dJ s.own ids) b ⟨B',true⟩) ρ w') w' (uA b r) v:=yS (dom:=fun i=>i<s.nx) WT R6 RQ;have h4:=VO.put (dst:=o.dst) (x:=uA b r) (v:=v) hd TI;have e2:OO s o.dst b raw r B'=St.put {s with own:=eD (dJ s.own ids) b ⟨B',true⟩} o.dst (uA b r):=by
     unfold OO St.put
     cases o.dst<;>rfl
    show aR G _ _ (OO s o.dst b raw r B') _ w';rw[e2]
    have SA:(St.put {s with own:=eD (dJ s.own ids) b ⟨B',true⟩} o.dst (uA b r)).nx=s.nx:=by cases o.dst<;>rfl
    rw[SA];exact h4
   exact h.elim
  exact h.elim
 exact h.elim
end Go.Eng
namespace Go.Eng
open Go
structure yE (s s':St):Prop where
 env:∀t,lk s.env t=lk s'.env t
 own:∀b,lo s.own b=lo s'.own b
 n:s.n=s'.n
theorem yE.refl (s:St):yE s s:=⟨fun _=>rfl,fun _=>rfl,rfl⟩
theorem yE.trans {a b c:St}(h:yE a b)(k:yE b c):yE a c:=⟨fun t=>(h.env t).trans (k.env t),fun t=>(h.own t).trans (k.own t),h.n.trans k.n⟩
theorem yE.symm {a b:St}(h:yE a b):yE b a:=⟨fun t=>(h.env t).symm,fun t=>(h.own t).symm,h.n.symm⟩
theorem aR.IB {G:Ctx}{dom:Nat→Prop}{ρ:Nat→Loc}{s s':St}{a:Act}{w:World}(h:aR G dom ρ s a w)(hs:yE s s'):aR G dom ρ s' a w:=by
 have R6:aG G s'.own ρ w=aG G s.own ρ w:=by
  funext g
  unfold aG;simp only[hs.own]
 exact{
     hd:=h.hd,hn:=h.hn.trans hs.n,env:=fun t=>by rw[R6,←hs.env t];exact h.env t,own:=fun b B hl=>by rw[R6];exact h.own b B (by rw[hs.own];exact hl),
     inj:=fun b B b' B' hl SE=>h.inj b B b' B' (by rw[hs.own];exact hl) (by rw[hs.own];exact SE),os:=h.os,tape:=h.tape,output:=h.output,size:=h.size,keep:=h.keep,wf:=h.wf,home:=h.home,room:=h.room}
theorem Dj (s:St)(dst:Option Tmp)(v:V)(t:Nat):lk (s.put dst v).env t=if dst=some t then v else lk s.env t:=by
 cases dst with
 |none=>simp[St.put]
 |some d=>
  simp only[St.put,Da,Option.some.injEq]
  by_cases h:t=d
  ·subst h;simp
  rw[if_neg h,if_neg (fun e=>h e.symm)]
theorem jR (s:St)(dst:Option Tmp)(id:Nat)(e:eK)(t:Nat):lk (s.add dst id e).env t=if dst=some t then e.val else lk s.env t:=by
 have:(s.add dst id e).env=(s.put dst e.val).env:=by unfold St.add;split<;>rfl
 rw[this,Dj]
def gk (fz:List Nat)(b:Nat)(v:fA):fA:=if fz.contains b then⟨v.bk,false⟩else v
theorem pC (s:St)(dst:Option Tmp)(id:Nat)(e:eK)(b:Nat):lo (s.add dst id e).own b=(match e.vX with
  |some B=>if b=id then some ⟨B,true⟩else(lo s.own b).map (gk e.fz b)
  |none=>(lo s.own b).map (gk e.fz b)):=by
 unfold St.add
 cases e.vX with
 |none=>simp only[yc];rw[fy];rfl
 |some B=>simp only[yc,b7];split<;>first|rfl|(rw[fy];rfl)
theorem D7 (s:St)(dst:Option Tmp)(id:Nat)(e:eK):(s.add dst id e).n=s.n:=by
 unfold St.add;split<;>(cases dst<;>rfl)
theorem yE.add {s s':St}(h:yE s s')(dst:Option Tmp)(id:Nat)(e:eK):yE (s.add dst id e) (s'.add dst id e):=
 ⟨fun t=>by rw[jR,jR,h.env],fun b=>by rw[pC,pC,h.own],by rw[D7,D7,h.n]⟩
theorem E1 (s:St){d1 d2:Option Tmp}{i1 i2:Nat}{e1 e2:eK}(hd:∀t,d1=some t→d2≠some t)(hi:i1≠i2)(h1:∀b∈e1.fz,b≠i2)(h2:∀b∈e2.fz,b≠i1):
  yE ((s.add d1 i1 e1).add d2 i2 e2) ((s.add d2 i2 e2).add d1 i1 e1):=by
 refine⟨fun t=>?_,fun b=>?_,by simp only[D7]⟩
 ·simp only[jR]
  by_cases h:d1=some t
  ·rw[if_pos h,if_neg (hd t h),if_pos h]
  rw[if_neg h,if_neg h]
 simp only[pC];have hc:∀(v:fA),gk e2.fz b (gk e1.fz b v)=gk e1.fz b (gk e2.fz b v):=fun v=>by
  unfold gk;split<;>split<;>rfl
 have U0:(lo s.own b).map (gk e2.fz b∘gk e1.fz b)=(lo s.own b).map (gk e1.fz b∘gk e2.fz b):=by
  congr 1;funext v;exact hc v
 have n1:b=i2→∀B:Bk,(some (⟨B,true⟩:fA)).map (gk e1.fz b)=some ⟨B,true⟩:=fun hb B=>by
  subst hb;simp only[Option.map_some,gk];rw[if_neg (fun hc=>h1 b (by simpa using hc) rfl)]
 have n2:b=i1→∀B:Bk,(some (⟨B,true⟩:fA)).map (gk e2.fz b)=some ⟨B,true⟩:=fun hb B=>by
  subst hb;simp only[Option.map_some,gk];rw[if_neg (fun hc=>h2 b (by simpa using hc) rfl)]
 cases e1.vX with
 |none=>
  cases e2.vX with
  |none=>simp only[Option.map_map];exact U0
  |some B2=>
   simp only
   by_cases hb:b=i2
   ·rw[if_pos hb,if_pos hb,n1 hb]
   rw[if_neg hb,if_neg hb];simp only[Option.map_map];exact U0
 |some B1=>
  cases e2.vX with
  |none=>
   simp only
   by_cases hb:b=i1
   ·rw[if_pos hb,if_pos hb,n2 hb]
   rw[if_neg hb,if_neg hb];simp only[Option.map_map];exact U0
  |some B2=>
   simp only
   by_cases hb:b=i1
   ·rw[if_pos hb,if_neg (fun e=>hi (hb.symm.trans e)),if_pos hb,n2 hb]
   by_cases Sn:b=i2
   ·rw[if_pos Sn,if_neg hb,if_pos Sn,n1 Sn]
   rw[if_neg Sn,if_neg hb,if_neg hb,if_neg Sn];simp only[Option.map_map];exact U0
def eK.skip:eK:=⟨.aB [],none,[]⟩
def gv:V→Option (Option Bool)
 |.one (.bool b)=>some (some b)
 |.aB []=>some none
 |_=>none
def k9 (P:Program)(ops:Array Oper)(nx0 i:Nat)(o:Oper)(s:St)(e:eK):Prop:=
 bT o s.n∧match o.guard with
 |none=>a6 P o s nx0 (nx0+i) e
 |some (g,want)=>∃t b,(ops[g]?).bind (·.dst)=some t∧gv (lk s.env t)=some b∧(if b=some want then a6 P o s nx0 (nx0+i) e else e=eK.skip)
def bq (ops:Array Oper)(k:Nat):Option Tmp:=(ops[k]?).bind (·.dst)
def aK (σ:St)(nx0:Nat)(ops:Array Oper)(e:Nat→eK)(L:Nat→Bool):Nat→St
 |0=>σ
 |k+1=>if L k then(aK σ nx0 ops e L k).add (bq ops k) (nx0+k) (e k)else aK σ nx0 ops e L k
section
variable {σ:St}{nx0:Nat}{ops:Array Oper}{e:Nat→eK}
theorem fM (L:Nat→Bool)(k:Nat):(aK σ nx0 ops e L k).n=σ.n:=by
 induction k with
 |zero=>rfl
 |succ k ih=>simp only[aK];split<;>simp only[D7,ih]
theorem cN {L L':Nat→Bool}(k:Nat)(h:∀j,j<k→L j=L' j):aK σ nx0 ops e L k=aK σ nx0 ops e L' k:=by
 induction k with
 |zero=>rfl
 |succ k ih=>simp only[aK,h k (Nat.lt_succ_self k),ih (fun j hj=>h j (Nat.lt_succ_of_lt hj))]
theorem m9 {N:Nat}{L:Nat→Bool}{i:Nat}(hi:L i=false)(SM:∀j k t,j<N→k<N→j≠k→bq ops j=some t→bq ops k=some t→False)(Tf:∀j,∀b∈(e j).fz,b<nx0):
  ∀k,k≤N→i<k→yE (aK σ nx0 ops e (fun j=>L j||j==i) k) ((aK σ nx0 ops e L k).add (bq ops i) (nx0+i) (e i)):=by
 intro k
 induction k with
 |zero=>intro _ h;omega
 |succ k ih=>
  intro Yb Ud
  by_cases hk:i=k
  ·subst hk;simp only[aK,beq_self_eq_true,Bool.or_true,if_true,hi,Bool.false_eq_true,if_false]
   rw[cN (L:=fun j=>L j||j==i) (L':=L) i (fun j hj=>by simp;omega)]
   exact yE.refl _
  have ih':=ih (by omega) (by omega);have RT:(k==i)=false:=by simp;omega
  simp only[aK,RT,Bool.or_false]
  by_cases hL:L k=true
  ·simp only[hL,if_true];exact(ih'.add _ _ _).trans (E1 _ (fun t h1 h2=>SM i k t (by omega) (by omega) hk h1 h2) (by omega) (fun b hb h=>by have:=Tf i b hb;omega) (fun b hb h=>by have:=Tf k b hb;omega))
  simp only[hL,Bool.false_eq_true,if_false];exact ih'
theorem od (L:Nat→Bool)(t:Nat):∀k,(∀j,j<k→bq ops j≠some t)→lk (aK σ nx0 ops e L k).env t=lk σ.env t:=by
 intro k
 induction k with
 |zero=>intro _;rfl
 |succ k ih=>
  intro h;simp only[aK]
  split
  ·rw[jR,if_neg (h k (Nat.lt_succ_self k))];exact ih (fun j hj=>h j (Nat.lt_succ_of_lt hj))
  exact ih (fun j hj=>h j (Nat.lt_succ_of_lt hj))
theorem dD {N:Nat}(L:Nat→Bool){t j:Nat}(hj:bq ops j=some t)(hL:L j=true)(SM:∀j k t,j<N→k<N→j≠k→bq ops j=some t→bq ops k=some t→False):
  ∀k,k≤N→j<k→lk (aK σ nx0 ops e L k).env t=(e j).val:=by
 intro k
 induction k with
 |zero=>intro _ h;omega
 |succ k ih=>
  intro Yb h;simp only[aK]
  by_cases Vc:j=k
  ·subst Vc;rw[if_pos hL,jR];exact if_pos hj
  have ih':=ih (by omega) (by omega)
  split
  ·rw[jR,if_neg (fun h2=>SM j k t (by omega) (by omega) Vc hj h2)];exact ih'
  exact ih'
theorem iU (L:Nat→Bool):∀k b,b<nx0→(lo (aK σ nx0 ops e L k).own b).map (·.bk)=(lo σ.own b).map (·.bk):=by
 intro k
 induction k with
 |zero=>intro b _;rfl
 |succ k ih=>
  intro b hb;simp only[aK]
  split
  ·rw[pC];have hm:((lo (aK σ nx0 ops e L k).own b).map (gk (e k).fz b)).map (·.bk)=(lo σ.own b).map (·.bk):=by
    rw[←ih b hb,Option.map_map]
    congr 1
    funext v
    simp only[Function.comp,gk]
    split<;>rfl
   cases(e k).vX with
   |none=>exact hm
   |some B=>simp only;rw[if_neg (by omega)];exact hm
  exact ih b hb
end
def Il (P:Program)(ops:Array Oper)(o:Oper)(s:St)(K:St→Prop):Prop:=
 match o.guard with
 |none=>ml P o s K
 |some (g,want)=>∃t b,bq ops g=some t∧gv (lk s.env t)=some b∧(b=some want→ml P o s K)∧(b≠some want→K (s.put o.dst (.aB [])))
def uQ (P:Program)(ops:Array Oper):List Oper→St→(St→Prop)→Prop
 |[],s,K=>K s
 |o::os,s,K=>bT o s.n∧Il P ops o s (fun s'=>uQ P ops os s' K)
theorem EM {a:Array Value}{t:Nat}{b:Bool}(h:a.getD t undef= .bool b):a[t]? =some (.bool b):=by
 rw[Array.getD_eq_getD_getElem?]at h
 cases ha:a[t]? with
 |none=>rw[ha]at h;cases h
 |some v=>rw[ha]at h;simpa using h
theorem ni {G:Ctx}{dom:Nat→Prop}{ρ:Nat→Loc}{s:St}{a:Act}{w:World}(hs:aR G dom ρ s a w){ops:Array Oper}{o:Oper}{g:Nat}{want:Bool}{b:Option Bool}{t:Nat}(hg:o.guard=some (g,want))(ht:bq ops g=some t)
  (hb:gv (lk s.env t)=some b):Region.wanted o (yielded ops a.tmps)=(b==some want):=by
 have RJ:=hs.env t;have hd:(ops[g]?).bind (·.dst)=some t:=ht;have hy:yielded ops a.tmps g=b:=by
  unfold gv at hb
  split at hb
  ·rename_i b' he
   obtain rfl:=Option.some.inj hb;rw[he]at RJ;have RJ:a.tmps.getD t undef= .bool b':=RJ;unfold yielded;simp only[hd,Option.bind_some,EM RJ]
  ·rename_i he
   obtain rfl:=Option.some.inj hb;rw[he]at RJ;obtain⟨vs,hv,_⟩:=RJ;unfold yielded;simp only[hd,Option.bind_some]
   cases ha:a.tmps[t]? with
   |none=>rfl
   |some v=>
    rw[Array.getD_eq_getD_getElem?,ha]at hv;simp only[Option.getD_some]at hv;rw[hv]
  cases hb
 unfold Region.wanted;simp only[hg,hy]
theorem ik {o:Oper}{y:Nat→Option Bool}(hg:o.guard=none):Region.wanted o y=true:=by unfold Region.wanted;rw[hg]
theorem Il.step {P:Program}{ops:Array Oper}{i:Nat}{o:Oper}(ho:ops[i]? =some o){s:St}{K:St→Prop}(h:Il P ops o s K)(hd:bT o s.n){G:Ctx}{a:Act}{w:World}(hs:ot G s a w){Q:Exit→Act→World→Prop}{next:Act→World→Prop}
  (hk:∀s' a' w',K s'→ot G s' a' w'→next a' w'):wpOp P ops Q i next a w:=by
 unfold wpOp;simp only[ho];unfold Il at h
 split at h
 ·rename_i hg
  rw[ik hg,if_pos rfl];exact .inl (h G a w hs Q next hk)
 rename_i g want hg
 obtain⟨t,b,ht,hb,h1,h2⟩:=h;obtain⟨ρ,hr⟩:=hs;rw[ni hr hg ht hb]
 by_cases SH:b=some want
 ·rw[if_pos (by simp[SH])];exact .inl (h1 SH G a w ⟨ρ,hr⟩ Q next hk)
 rw[if_neg (by simpa using SH)]
 have:=hr.put (dst:=o.dst) (x:=.aB []) (v:=undef) hd ⟨#[],rfl,trivial⟩
 refine hk _ _ _ (h2 SH) ⟨ρ,?_⟩
 cases SM:o.dst with
 |none=>rw[SM]at this;exact this
 |some d=>rw[SM]at this;exact this
theorem a6.P4 {P:Program}{o:Oper}{s:St}{e:eK}{K:St→Prop}(h:a6 P o s s.nx s.nx e)(hK:K {s.add o.dst s.nx e with nx:=s.nx+1}):ml P o s K:=by
 intro G a w RL Q next hk;obtain⟨ρ,hs⟩:=RL;refine h.1 G (fun b=>b<s.nx) ρ s a w hs (Nat.lt_irrefl _) (gN.refl _ _ _) Q next fun v w' TX=>?_;refine hk _ _ _ hK ?_;obtain⟨ρ',h1⟩:=TX
 have h2:=h1.cR (dom':=fun b=>b<s.nx+1) (fun b hb=>by rcases hb with hb|hb<;>omega)
 exact⟨ρ',h2.IB ⟨fun _=>rfl,fun _=>rfl,rfl⟩⟩
def da (ops:Array Oper)(i:Nat):List Nat:=
 match ops[i]? with
 |some o=>(o.after.toList.filter (Region.binds .any)).map (·.on)
 |none=>[]
def e9 (ops:Array Oper):Nat→Nat→Nat→Bool
 |0,_,_=>false
 |n+1,i,j=>(da ops i).contains j||(da ops i).any (fun p=>e9 ops n p j)
def tmpsOf (o:Oper):List Tmp:=o.op.operands.toList.filterMap fun|.tmp t=>some t|_=>none
def nj (ops:Array Oper)(nR i:Nat)(o:Oper):Bool:=
 ((tmpsOf o).all fun t=>(List.range nR).all fun j=>bq ops j !=some t||(decide (j<i)&&(da ops i).contains j))&&
 (
  match o.guard with
  |none=>true
  |some (g,_)=>decide (g<i)&&(da ops i).contains g)&&
 ((List.range nR).all fun j=>j==i||(bq ops j).isNone||bq ops j !=bq ops i)
def tH (ops:Array Oper)(nR:Nat):Bool:=
 decide (nR≤ops.size)&&
 (List.range ops.size).all fun i=>match ops[i]? with
  |none=>false
  |some o=>((da ops i).all fun p=>decide (p<i))&&
   (if i<nR then nj ops nR i o else(List.range i).all fun j=>e9 ops ops.size i j)
structure xO (ops:Array Oper) (nR:Nat):Prop where
 le:nR≤ops.size
 pred:∀i o,ops[i]? =some o→∀p∈da ops i,p<i
 data:∀i o,ops[i]? =some o→i<nR→∀t,t∈tmpsOf o→∀j,j<nR→bq ops j=some t→j<i∧j∈da ops i
 guard:∀i o g want,ops[i]? =some o→i<nR→o.guard=some (g,want)→g<i∧g∈da ops i
 dst:∀j k t,j<nR→k<nR→j≠k→bq ops j=some t→bq ops k=some t→False
 clos:∀i,i<ops.size→nR≤i→∀j,j<i→e9 ops ops.size i j=true
theorem AB {ops:Array Oper}{nR:Nat}(h:tH ops nR=true):xO ops nR:=by
 unfold tH at h;simp only[Bool.and_eq_true,decide_eq_true_eq,List.all_eq_true,List.mem_range]at h;obtain⟨hle,h⟩:=h;have hi:∀i o,ops[i]? =some o→((da ops i).all fun p=>decide (p<i))=true∧(if i<nR then nj ops nR i o else(List.range i).all fun j=>e9 ops ops.size i j)=true:=by
  intro i o ho
  have:=h i (Array.getElem?_eq_some_iff.1 ho).1
  rw[ho]at this
  simpa using this
 have hR:∀i o,ops[i]? =some o→i<nR→nj ops nR i o=true:=fun i o ho RE=>by
  have:=(hi i o ho).2
  rw[if_pos RE]at this;exact this
 refine⟨hle,fun i o ho p hp=>?_,fun i o ho RE t ht j hj hd=>?_,fun i o g want ho RE hg=>?_,fun j k t hj hk Vc h1 h2=>?_,fun i Tm Wd j hj=>?_⟩
 ·have:=List.all_eq_true.1 (hi i o ho).1 p hp
  simpa using this
 ·have:=hR i o ho RE
  unfold nj at this;simp only[Bool.and_eq_true,List.all_eq_true,List.mem_range]at this
  have:=this.1.1 t ht j hj
  rw[hd]at this;simp at this;exact this
 ·have:=hR i o ho RE
  unfold nj at this;simp only[Bool.and_eq_true]at this
  have:=this.1.2
  rw[hg]at this
  simpa using this
 ·have Ws:k<ops.size:=by omega
  have:=hR k ops[k] (Array.getElem?_eq_getElem Ws) hk
  unfold nj at this;simp only[Bool.and_eq_true,List.all_eq_true,List.mem_range]at this
  have:=this.2 j hj
  rw[h1,h2]at this;simp at this;exact Vc this
 have:=(hi i ops[i] (Array.getElem?_eq_getElem Tm)).2
 rw[if_neg (by omega)]at this;exact List.all_eq_true.1 this j (by simpa using hj)
end Go.Eng
namespace Go.Eng
open Go
section
variable {P:Program}{ops:Array Oper}{nR:Nat}
theorem aX {listed:Array Bool}{i j:Nat}(hi:i<listed.size):(listed.setIfInBounds i true).getD j false=(listed.getD j false||j==i):=by
 by_cases h:i=j
 ·subst h
  simp[Array.getD,hi]
 rw[getD_set_ne false h]
 simp;intro e;exact absurd e.symm h
theorem fJ {listed:Array Bool}(W4:∀i,listed.getD i false=true→∀p∈da ops i,listed.getD p false=true):∀n i j,(∀p∈da ops i,listed.getD p false=true)→e9 ops n i j=true→listed.getD j false=true:=by
 intro n
 induction n with
 |zero=>intro i j _ h;simp[e9]at h
 |succ n ih=>
  intro i j hp h;simp only[e9,Bool.or_eq_true,List.any_eq_true]at h
  rcases h with h|⟨p,XV,h⟩
  ·exact hp j (by simpa using h)
  exact ih p j (W4 p (hp p XV)) h
theorem gT {listed:Array Bool}{i:Nat}(h:i∈Region.ready .any ops listed):(∀p∈da ops i,listed.getD p false=true)∧i<ops.size∧listed.getD i true=false:=by
 obtain⟨h0,o,ho,RI⟩:=mem_ready.1 h;refine⟨fun p hp=>?_,(Array.getElem?_eq_some_iff.1 ho).1,h0⟩;unfold da at hp;rw[ho]at hp;obtain⟨e,he,rfl⟩:=List.mem_map.1 hp;obtain⟨he1,Yv⟩:=List.mem_filter.1 he;exact RI e (by simpa using he1) Yv
theorem mc {listed:Array Bool}{i:Nat}{o:Oper}(ho:ops[i]? =some o)(hu:listed.getD i true=false)(h:∀p∈da ops i,listed.getD p false=true):i∈Region.ready .any ops listed:=by
 refine mem_ready.2 ⟨hu,o,ho,fun e he hb=>h e.on ?_⟩;unfold da;rw[ho];exact List.mem_map.2 ⟨e,List.mem_filter.2 ⟨by simpa using he,hb⟩,rfl⟩
def iB (ops:Array Oper)(listed:Array Bool):Nat:=(List.range ops.size).countP (fun i=>!listed.getD i false)
theorem oG {listed:Array Bool}{i:Nat}(SJ:listed.size=ops.size)(hi:i<ops.size)(hu:listed.getD i true=false):iB ops (listed.setIfInBounds i true)+1=iB ops listed:=by
 unfold iB;have hf:listed.getD i false=false:=by
  have RE:i<listed.size:=by omega
  simp[Array.getD,RE]at hu⊢
  exact hu
 have key:∀l:List Nat,l.Nodup→(l.countP (fun j=>!(listed.setIfInBounds i true).getD j false))+(if i∈l then 1 else 0)=l.countP (fun j=>!listed.getD j false):=by
  intro l
  induction l with
  |nil=>intro _;simp
  |cons x l ih=>
   intro ZN;obtain⟨hx,ZN⟩:=List.nodup_cons.1 ZN;have ih':=ih ZN;simp only[List.countP_cons,aX (by omega:i<listed.size)]
   by_cases hxi:x=i
   ·subst hxi;rw[if_neg hx]at ih';simp only[hf,beq_self_eq_true,Bool.or_true,Bool.not_true,Bool.false_eq_true,if_false,Bool.not_false,if_true,List.mem_cons,true_or];simp only[aX (by omega:x<listed.size)]at ih';omega
   have RT:(x==i)=false:=by simpa using hxi
   have VP:(i∈x::l)↔i∈l:=by simp[List.mem_cons];intro e;exact absurd e.symm hxi
   simp only[RT,Bool.or_false];simp only[VP];simp only[aX (by omega:i<listed.size)]at ih';omega
 have:=key (List.range ops.size) List.nodup_range
 rw[if_pos (by simpa using hi)]at this;exact this
theorem rH {listed:Array Bool}(h:iB ops listed=0):∀i,i<ops.size→listed.getD i false=true:=by
 intro i hi;unfold iB at h;rw[List.countP_eq_zero]at h
 have:=h i (by simpa using hi)
 simpa using this
variable {σ:St}{es:Nat→eK}{K:St→Prop}
structure C8 (P:Program) (G:Ctx) (ops:Array Oper) (nR:Nat) (σ:St) (es:Nat→eK) (K:St→Prop) (listed:Array Bool) (a:Act) (w:World):Prop where
 size:listed.size=ops.size
 down:∀i,listed.getD i false=true→∀p∈da ops i,listed.getD p false=true
 where_:((∀i,listed.getD i false=true→i<nR)∧uU G (fun b=>b<σ.nx∨∃j,j<nR∧listed.getD j false=true∧b=σ.nx+j) (aK σ σ.nx ops es (fun j=>listed.getD j false) nR) a w)∨
  (∃k,nR≤k∧k≤ops.size∧(∀i,i<ops.size→(listed.getD i false=true↔i<k))∧∃s,uQ P ops (ops.toList.drop k) s K∧ot G s a w)
theorem C8.later (RY:xO ops nR)(hW:uQ P ops (ops.toList.drop nR) {aK σ σ.nx ops es (fun _=>true) nR with nx:=σ.nx+ops.size} K)
  {G:Ctx} {listed:Array Bool} {a:Act} {w:World} (h:C8 P G ops nR σ es K listed a w) (RI:∀j,j<nR→listed.getD j false=true):
  ∃k,nR≤k∧k≤ops.size∧(∀i,i<ops.size→(listed.getD i false=true↔i<k))∧∃s,uQ P ops (ops.toList.drop k) s K∧ot G s a w:=by
 rcases h.where_ with⟨RE,ρ,RL⟩|hk
 ·refine⟨nR,Nat.le_refl _,RY.le,fun i _=>⟨RE i,RI i⟩,_,hW,ρ,?_⟩;rw[cN (L:=fun j=>listed.getD j false) (L':=fun _=>true) nR (fun j hj=>RI j hj)]at RL;have h2:=RL.cR (dom':=fun b=>b<σ.nx+ops.size) (fun b hb=>by
   have:=RY.le
   rcases hb with hb|⟨j,hj,_,rfl⟩<;>omega)
  exact h2.IB ⟨fun _=>rfl,fun _=>rfl,rfl⟩
 exact hk
theorem NT (RY:xO ops nR){i:Nat}{o:Oper}(ho:ops[i]? =some o)(hi:i<nR){listed:Array Bool}(hp:∀p∈da ops i,listed.getD p false=true):
  gN (aK σ σ.nx ops es (fun _=>true) i) (aK σ σ.nx ops es (fun j=>listed.getD j false) nR) σ.nx o:=by
 refine⟨by rw[fM,fM],fun x hx=>?_,fun b hb=>by rw[iU _ nR b hb,iU _ i b hb]⟩
 cases x with
 |tmp t=>
  have Uw:t∈tmpsOf o:=List.mem_filterMap.2 ⟨.tmp t,by simpa using hx,rfl⟩;show lk _ t=lk _ t
  by_cases hex:∃j,j<nR∧bq ops j=some t
  ·obtain⟨j,hj,hd⟩:=hex;obtain⟨To,YO⟩:=RY.data i o ho hi t Uw j hj hd;rw[dD (N:=nR) (fun j=>listed.getD j false) hd (hp j YO) RY.dst nR (Nat.le_refl _) hj,dD (N:=nR) (fun _=>true) hd rfl RY.dst i (by omega) To]
  rw[od _ t nR (fun j hj h=>hex ⟨j,hj,h⟩),od _ t i (fun j hj h=>hex ⟨j,by omega,h⟩)]
 |const v=>rfl
 |global g=>rfl
 |func f=>rfl
theorem zG (RY:xO ops nR)(Tf:∀j,∀b∈(es j).fz,b<σ.nx)
  (Td:∀(i:Nat) o,i<nR→ops[i]? =some o→k9 P ops σ.nx i o (aK σ σ.nx ops es (fun _=>true) i) (es i))
  (hW:uQ P ops (ops.toList.drop nR) {aK σ σ.nx ops es (fun _=>true) nR with nx:=σ.nx+ops.size} K)
  {G:Ctx} {Q:Exit→Act→World→Prop} (hQ:∀s a w,K s→ot G s a w→Q .normal a w):
  ∀(fuel:Nat) (listed:Array Bool) (a:Act) (w:World),C8 P G ops nR σ es K listed a w→iB ops listed≤fuel→wpAny P .any ops Q fuel listed a w:=by
 intro fuel
 induction fuel with
 |zero=>
  intro listed a w h hf;have RI:=rH (Nat.le_zero.1 hf);refine⟨?_,?_⟩
  ·cases hr:Region.ready .any ops listed with
   |nil=>rfl
   |cons i l=>
    obtain⟨_,hi,hu⟩:=gT (i:=i) (listed:=listed) (ops:=ops) (by rw[hr];simp);have h1:=RI i hi;have RE:i<listed.size:=by rw[h.size];exact hi
    simp[Array.getD,RE]at h1 hu
    rw[h1]at hu;cases hu
  obtain⟨k,Yc,S8,Un,s,hs,RL⟩:=h.later RY hW (fun j hj=>RI j (by have:=RY.le;omega));have hke:k=ops.size:=by
   rcases Nat.lt_or_ge k ops.size with RE|Wd
   ·have:=(Un k RE).1 (RI k RE);omega
   omega
  subst hke;rw[List.drop_eq_nil_of_le (by simp)]at hs;exact hQ s a w hs RL
 |succ fuel ih=>
  intro listed a w h hf;refine⟨fun hr=>?_,fun i hi=>?_⟩
  ·-- none is ready: all have been
   have RI:∀n i,i<n→i<ops.size→listed.getD i false=true:=by
    intro n
    induction n with
    |zero=>intro i hi;omega
    |succ n ihn=>
     intro i Se Sw
     by_cases hu:listed.getD i false=true
     ·exact hu
     have RE:i<listed.size:=by rw[h.size];exact Sw
     have RZ:listed.getD i true=false:=by
      simp[Array.getD,RE]at hu⊢
      exact hu
     have hm:=mc (ops:=ops) (Array.getElem?_eq_getElem Sw) RZ (fun p hp=>ihn p (by have:=RY.pred i _ (Array.getElem?_eq_getElem Sw) p hp;omega) (by have:=RY.pred i _ (Array.getElem?_eq_getElem Sw) p hp;omega));rw[hr]at hm;cases hm
   obtain⟨k,Yc,S8,Un,s,hs,RL⟩:=h.later RY hW (fun j hj=>RI _ j (Nat.lt_succ_self _) (by have:=RY.le;omega));have hke:k=ops.size:=by
    rcases Nat.lt_or_ge k ops.size with RE|Wd
    ·have:=(Un k RE).1 (RI _ k (Nat.lt_succ_self _) RE);omega
    omega
   subst hke;rw[List.drop_eq_nil_of_le (by simp)]at hs;exact hQ s a w hs RL
  obtain⟨hp,Sw,hu⟩:=gT hi;have ho:=Array.getElem?_eq_getElem Sw;have hcount:=oG h.size Sw hu;have RE:i<listed.size:=by rw[h.size];exact Sw
  have RZ:listed.getD i false=false:=by
   simp[Array.getD,RE]at hu⊢
   exact hu
  have S4:∀j,(listed.setIfInBounds i true).getD j false=true→∀p∈da ops j,(listed.setIfInBounds i true).getD p false=true:=by
   intro j hj p W5;rw[aX RE]at hj⊢
   rcases Bool.or_eq_true_iff.1 hj with hj|hj
   ·rw[h.down j hj p W5];rfl
   have:j=i:=by simpa using hj
   subst this;rw[hp p W5];rfl
  by_cases UG:i<nR
  ·-- one that only looks
   rcases h.where_ with⟨Vv,ρ,RL⟩|⟨k,Yc,S8,Un,_⟩
   ·have RW:=Td i ops[i] UG ho;have TD:=NT (σ:=σ) (es:=es) RY ho UG hp;have TE:∀a' w',uU G (fun b=>(b<σ.nx∨∃j,j<nR∧listed.getD j false=true∧b=σ.nx+j)∨b=σ.nx+i) ((aK σ σ.nx ops es (fun j=>listed.getD j false) nR).add (bq ops i) (σ.nx+i) (es i)) a' w'→
      C8 P G ops nR σ es K (listed.setIfInBounds i true) a' w':=by
     rintro a' w' ⟨ρ',h1⟩;refine⟨by simpa using h.size,S4,.inl ⟨fun j hj=>?_,ρ',?_⟩⟩
     ·rw[aX RE]at hj
      rcases Bool.or_eq_true_iff.1 hj with hj|hj
      ·exact Vv j hj
      have:j=i:=by simpa using hj
      omega
     have h2:=h1.cR (dom':=fun b=>b<σ.nx∨∃j,j<nR∧(listed.setIfInBounds i true).getD j false=true∧b=σ.nx+j) (fun b hb=>by
      rcases hb with(hb|⟨j,hj,Yr,rfl⟩)|rfl
      ·exact .inl hb
      ·exact .inr ⟨j,hj,by rw[aX RE,Yr];rfl,rfl⟩
      exact .inr ⟨i,UG,by rw[aX RE];simp,rfl⟩)
     have h3:=m9 (σ:=σ) (nx0:=σ.nx) (e:=es) (N:=nR) (L:=fun j=>listed.getD j false) (i:=i) RZ RY.dst Tf nR (Nat.le_refl _) UG;have h4:=h2.IB h3.symm
     rw[cN (L:=fun j=>listed.getD j false||j==i) (L':=fun j=>(listed.setIfInBounds i true).getD j false) nR (fun j _=>(aX RE).symm)]at h4
     exact h4
    have SM:bq ops i=ops[i].dst:=by unfold bq;rw[ho];rfl
    have hid:¬(σ.nx+i<σ.nx∨∃j,j<nR∧listed.getD j false=true∧σ.nx+i=σ.nx+j):=by
     rintro(h1|⟨j,_,hj,he⟩)
     ·omega
     have:i=j:=by omega
     subst this;rw[RZ]at hj;cases hj
    unfold wpOp;simp only[ho];obtain⟨Sy,RW⟩:=RW;have doit:a6 P ops[i] (aK σ σ.nx ops es (fun _=>true) i) σ.nx (σ.nx+i) (es i)→ops[i].wp P a w (wpAny P .any ops Q fuel (listed.setIfInBounds i true)) Q:=by
     intro S2;refine S2.1 G _ ρ _ a w RL hid TD Q _ fun v w' h5=>?_;refine ih _ _ _ (TE _ _ ?_) (by omega);rw[SM];exact h5
    split at RW
    ·rename_i hg
     rw[ik hg,if_pos rfl];exact .inl (doit RW)
    rename_i g want hg
    obtain⟨t,b,ht,hb,RW⟩:=RW;obtain⟨TK,W6⟩:=RY.guard i _ g want ho UG hg;have Xy:g<nR:=by omega
    have Sl:gv (lk (aK σ σ.nx ops es (fun j=>listed.getD j false) nR).env t)=some b:=by
     rw[dD (N:=nR) (fun j=>listed.getD j false) (t:=t) (j:=g) ht (hp g W6) RY.dst nR (Nat.le_refl _) Xy];rw[dD (N:=nR) (fun _=>true) (t:=t) (j:=g) ht rfl RY.dst i (by omega) TK]at hb;exact hb
    rw[ni RL hg ht Sl]
    by_cases SH:b=some want
    ·rw[if_pos SH]at RW;rw[if_pos (by simp[SH])];exact .inl (doit RW)
    rw[if_neg SH]at RW;rw[if_neg (by simpa using SH)];refine ih _ _ _ (TE _ _ ⟨ρ,?_⟩) (by omega);rw[RW,SM];have h5:=RL.put (dst:=ops[i].dst) (x:=.aB []) (v:=undef) (fun d hd=>by have:=Sy d hd;rw[fM]at this⊢;exact this) ⟨#[],rfl,trivial⟩;have h6:=h5.cR (dom':=fun b=>(b<σ.nx∨∃j,j<nR∧listed.getD j false=true∧b=σ.nx+j)∨b=σ.nx+i) (fun b hb=>Or.inl hb);unfold eK.skip;rw[St.add_plain];exact h6
   have:=(Un i Sw).2 (by omega)
   rw[RZ]at this;cases this
  -- one that writes: all that stand ahead of it have been
  have VQ:∀j,j<i→listed.getD j false=true:=fun j hj=>fJ h.down _ i j hp (RY.clos i Sw (by omega) j hj);obtain⟨k,Yc,S8,Un,s,hs,RL⟩:=h.later RY hW (fun j hj=>VQ j (by omega));have Vd:k=i:=by
   rcases Nat.lt_trichotomy k i with Xz|rfl|hgt
   ·have:=(Un k (by omega)).1 (VQ k Xz);omega
   ·rfl
   have:=(Un i Sw).2 hgt;rw[RZ]at this;cases this
  subst Vd;have Sb:ops.toList.drop k=ops[k]::ops.toList.drop (k+1):=by
   rw[List.drop_eq_getElem_cons (by simpa using Sw)];rfl
  rw[Sb]at hs;refine Il.step ho hs.2 hs.1 RL fun s' a' w' hs'' VO=>ih _ _ _ ?_ (by omega);refine⟨by simpa using h.size,S4,.inr ⟨k+1,by omega,by omega,fun j hj=>?_,s',hs'',VO⟩⟩;rw[aX RE]
  by_cases Vc:j=k
  ·subst Vc;simp
  have RT:(j==k)=false:=by simpa using Vc
  rw[RT,Bool.or_false,Un j hj];omega
end
def Fp (f:Nat→Nat→C)(off len:Nat):Nat→Nat→C:=fun i j=>if off≤i then(if i<off+len then .any else f i j)else f i j
def Aa (xs:List Int)(off len:Nat):List Int:=xs.take off++(List.replicate len 0++xs.drop (off+len))
def ug (T:fH)(s:St)(dst:Option Tmp)(t:TypeId)(x:Operand)(K:St→Prop):Prop:=
 match T t with
 |some S=>match S.k with
  |.sl e=>match T e with
   |some E=>match s.ev x with
    |.one (.own b wd off len)=>match lo s.own b with
     |some ⟨.rows e' w n f,rw⟩=>rw=true∧wd=w∧E.size=w∧E.zero.length=w∧0<w∧K {s.put dst .unk with own:=eD s.own b ⟨.rows e' w n (Fp f off len),true⟩}
     |some ⟨.ints e' k xs,rw⟩=>rw=true∧wd=1∧E.size=1∧E.zero=[.int k 0]∧K {s.put dst .unk with own:=eD s.own b ⟨.ints e' k (Aa xs off len),true⟩}
     |_=>False
    |_=>False
   |none=>False
  |_=>False
 |none=>False
theorem FO (xs:List Int)(off len:Nat)(h:off+len≤xs.length)(j:Nat):(Aa xs off len)[j]? =if off≤j∧j<off+len then some 0 else xs[j]? :=by
 unfold Aa;rw[List.getElem?_append,List.getElem?_append,X5,List.length_replicate]
 by_cases h1:j<off
 ·rw[if_pos (by omega),if_neg (by omega),List.getElem?_take,if_pos h1]
 rw[if_neg (by omega)]
 by_cases h2:j<off+len
 ·rw[if_pos (by omega),if_pos (by omega),List.getElem?_replicate,if_pos (by omega)]
 rw[if_neg (by omega),if_neg (by omega),List.getElem?_drop];congr 1;omega
theorem Am (xs:List Int)(off len:Nat)(h:off+len≤xs.length):(Aa xs off len).length=xs.length:=by
 unfold Aa;simp;omega
theorem wu {P:Program}{w:World}{t ty e:TypeId}{i:TypeInfo}{z:Value}(ht:P.underlying t=some (.slice e))(hi:P.info? e=some i)(hz:i.zero=some z)(g o len cap:Nat){cur:Array Value}{e':TypeId}(hg:w.heap[g]? =some (.cells cur e' (0,0)))
  (Sg:o+len*z.cells.size≤cur.size) (h1:z.cells.toList.all Value.oneCell'=true) (SJ:0<z.cells.size) (hlen:0<len):
  (Builtin.clear_ #[t] ty #[.slice (some ⟨g,o,none⟩) len cap]).run P w= .ok (.tuple #[]) (w.setRow g (cur.toList.take o++(Builtin.zeroCells z.cells len).toList++cur.toList.drop (o+len*z.cells.size)).toArray):=by
 have SP:(Builtin.zeroCells z.cells len).toList.length=len*z.cells.size:=by simp[Builtin.zeroCells]
 have RO:∀u∈(Builtin.zeroCells z.cells len).toList,u.oneCell'=true:=by
  intro u hu;simp only[Builtin.zeroCells,Array.toList_map,List.mem_map]at hu;obtain⟨k,_,rfl⟩:=hu;have hk:k%z.cells.size<z.cells.size:=Nat.mod_lt _ SJ;rw[getElem!_pos z.cells _ hk];exact List.all_eq_true.1 h1 _ (by simp)
 have RW:=run_storeCells_at P g o e' (Builtin.zeroCells z.cells len).toList 0 cur w hg (by rw[SP];simpa using Sg) RO;simp only[Nat.add_zero,SP]at RW
 cases len with
 |zero=>omega
 |succ len=>
  simp only[Builtin.clear_,List.getElem?_toArray,List.getElem?_cons_zero,Sem.run_bind,av ht,Result.andThen_ok,fC hi hz,RW,Sem.run_pure]
section
variable {P:Program}{T:fH}(hT:eJ P T)
include hT
theorem MV {
        o:Oper} {s:St} {K:St→Prop} {c:Call} (ho:o.op= .call c) (TC:c.callee= .builtin .clear) {x:Operand} (RH:c.args= #[x]) {t:TypeId} (Sv:c.argTypes= #[t]) (SW:bT o s.n) (h:ug T s o.dst t x K):ml P o s K:=by
 unfold ug at h
 cases RV:T t with
 |none=>rw[RV]at h;exact h.elim
 |some S=>
  rw[RV]at h;simp only at h
  split at h
  ·rename_i e TP
   have hu:=fm hT RV TP
   cases SB:T e with
   |none=>rw[SB]at h;exact h.elim
   |some E=>
    rw[SB]at h;simp only at h;obtain⟨ei,ed,ez,Ta,WU,U9,WV,Tz,_,Tt,RI⟩:=bB hT SB;have SP:E.zero.length=ez.cells.size:=by rw[Tt];simp
    split at h
    ·rename_i b wd off len hx
     intro G a w RL Q next hk;obtain⟨ρ,hs⟩:=RL;have RJ:=hs.ev x;rw[hx]at RJ;have RK:∀(v:Value) (w':World),a.eval x=v→(∀ty,(Builtin.clear_ #[t] ty #[v]).run P w= .ok (.tuple #[]) w')→(execOp a.eval o).run P w= .ok (.value (.tuple #[])) w':=by
      intro v w' hv hr;unfold execOp;rw[ho];simp only[resolve,TC,Sem.run_bind,Sem.run_pure,Result.andThen_ok,invoke,Go.builtin,RH,Sv,List.map_toArray,List.map_cons,List.map_nil,hv,hr]
     obtain⟨_,hle,cap,R8,RQ⟩:=RJ;have UM:∀(w':World) (own':List (Nat×fA)),aR G (fun b=>b<s.nx) ρ {s with own:=own'} a w'→ot G {s.put o.dst .unk with own:=own'} (a.put o.dst (.tuple #[])) w':=by
      intro w' own' h1;have h2:=h1.put (dst:=o.dst) (x:=.unk) (v:=.tuple #[]) SW trivial
      cases hd:o.dst with
      |none=>rw[hd]at h2;exact⟨ρ,h2⟩
      |some d=>rw[hd]at h2;exact⟨ρ,h2⟩
     by_cases Tr:len=0
     ·subst Tr;have hclr:∀v,v=a.eval x→(∃ad,v= .slice ad 0 cap)→∀ty,(Builtin.clear_ #[t] ty #[v]).run P w= .ok (.tuple #[]) w:=by
       rintro v _ ⟨ad,rfl⟩ ty
       cases ad<;>simp only[Builtin.clear_,List.getElem?_toArray,List.getElem?_cons_zero,Sem.run_bind,av hu,Result.andThen_ok,Sem.run_pure]
      have U1:∃ad,a.eval x= .slice ad 0 cap:=by
       rcases RQ with⟨g,o1,o2,_,hv,_⟩|⟨_,hv,_,SU⟩
       ·exact⟨_,hv⟩
       exact⟨none,by rw[hv,SU]⟩
      have hr:=RK _ w rfl (hclr _ rfl U1);have SL:∀own',(∀b',lo own' b'=lo s.own b')→aR G (fun b=>b<s.nx) ρ {s with own:=own'} a w:=fun own' he=>hs.IB ⟨fun _=>rfl,fun b'=>(he b').symm,rfl⟩
      split at h
      ·rename_i e' w0 n f rw_ R2
       obtain⟨rfl,rfl,_,_,_,hK⟩:=h;refine Oper.cQ hr (hk _ _ _ hK (UM _ _ (SL _ fun b'=>?_)));rw[b7]
       split
       ·rename_i hb;subst hb;rw[R2]
        have:Fp f off 0=f:=by funext i j;unfold Fp;by_cases h1:off≤i<;>simp [h1];omega
        rw[this]
       rfl
      ·rename_i e' k xs rw_ R2
       obtain⟨rfl,rfl,_,_,hK⟩:=h;refine Oper.cQ hr (hk _ _ _ hK (UM _ _ (SL _ fun b'=>?_)));rw[b7]
       split
       ·rename_i hb;subst hb;rw[R2]
        have:Aa xs off 0=xs:=by unfold Aa;simp
        rw[this]
       rfl
      exact h.elim
     rcases RQ with⟨g,o1,o2,RD,hv,TJ,_⟩|⟨_,_,h0,_⟩
     ·have ho3:o2=o1+off*wd:=by rcases TJ with h1|h1<;>omega
      subst ho3
      split at h
      ·rename_i e' w0 n f rw_ R2
       obtain⟨rfl,rfl,hE,hEz,R1,hK⟩:=h;have SK:ez.cells.size=wd:=by omega
       obtain⟨_,hlenρ,RG,_⟩:=hs.own b _ R2;unfold aL at RG;rw[RD]at RG;obtain⟨cur,ee,hg,hc⟩:=RG;simp only at hc;rw[hlenρ]at hle;simp only[Bk.len]at hle;have hmul:(off+len)*wd≤n*wd:=Nat.mul_le_mul_right _ hle;have hmul2:(off+len)*wd=off*wd+len*wd:=Nat.add_mul _ _ _;have hlw:0<len*wd:=Nat.mul_pos (by omega) R1;have Sg:o1+off*wd+len*ez.cells.size≤cur.size:=by
        rw[SK];obtain⟨u,RZ,_⟩:=hc (n*wd-1) (f ((n*wd-1)/wd) ((n*wd-1)%wd)) (by simp only[Bk.cell];rw[if_pos (by omega)])
        have:=(Array.getElem?_eq_some_iff.1 RZ).1
        omega
       have hr:=RK _ _ hv (fun ty=>wu (ty:=ty) hu Ta U9 g (o1+off*wd) len cap hg Sg RI (by omega) (by omega));refine Oper.cQ hr (hk _ _ _ hK (UM _ _ ?_));have Ue:(Builtin.zeroCells ez.cells len).toList.length=len*wd:=by simp[Builtin.zeroCells,SK]
       have SJ:((cur.toList.take (o1+off*wd)++(Builtin.zeroCells ez.cells len).toList++cur.toList.drop (o1+off*wd+len*ez.cells.size)).toArray).size=cur.size:=by
        simp only[List.size_toArray,X6,X5,List.length_drop,Ue,Array.length_toList];rw[SK]at Sg⊢;omega
       refine hs.write R2 RD hg SJ (.rows e' wd n (Fp f off len)) rfl fun j c' hj=>?_;simp only[Bk.cell]at hj
       split at hj
       ·rename_i Vq
        simp only[Option.some.injEq]at hj;have Tn:=ic cur.toList (o1+off*wd) (Builtin.zeroCells ez.cells len).toList (by rw[Ue];simp only[Array.length_toList];rw[SK]at Sg;omega) (o1+j);rw[Ue]at Tn;have Vw:=Nat.div_add_mod j wd;have UR:=Nat.mod_lt j R1;simp only[List.getElem?_toArray,SK,Tn]
        by_cases hm:off*wd≤j∧j<off*wd+len*wd
        ·rw[if_pos (by omega)];have Vx:off≤j/wd:=(Nat.le_div_iff_mul_le R1).2 hm.1;have UH:j/wd<off+len:=(Nat.div_lt_iff_lt_mul R1).2 (by omega);have hcany:c'= .any:=by rw[←hj];unfold Fp;rw[if_pos Vx,if_pos UH]
         subst hcany;have RE:o1+j-(o1+off*wd)<(Builtin.zeroCells ez.cells len).toList.length:=by rw[Ue];omega
         refine⟨_,X8 RE,?_⟩;show Value.oneCell' _=true;simp only[Builtin.zeroCells,Array.getElem_toList,Array.getElem_map,Array.getElem_range];have Ws:(o1+j-(o1+off*wd))%ez.cells.size<ez.cells.size:=Nat.mod_lt _ (by omega);rw[getElem!_pos ez.cells _ Ws];exact List.all_eq_true.1 RI _ (by simp)
        rw[if_neg (by omega),Array.getElem?_toList];have UU:c'=f (j/wd) (j%wd):=by
         rw[←hj];unfold Fp
         by_cases Vx:off≤j/wd
         ·rw[if_pos Vx,if_neg];intro UH;have a1:=(Nat.le_div_iff_mul_le R1).1 Vx;have a2:=(Nat.div_lt_iff_lt_mul R1).1 UH;omega
         rw[if_neg Vx]
        exact hc j c' (by simp only[Bk.cell];rw[if_pos Vq,UU])
       cases hj
      ·rename_i e' k xs rw_ R2
       obtain⟨rfl,rfl,hE,hEz,hK⟩:=h;have SK:ez.cells.size=1:=by rw[←SP,hEz];rfl
       have Yx:len*ez.cells.size=len:=by rw[SK,Nat.mul_one]
       obtain⟨_,hlenρ,RG,_⟩:=hs.own b _ R2;unfold aL at RG;rw[RD]at RG;obtain⟨cur,ee,hg,hc⟩:=RG;simp only at hc;rw[hlenρ]at hle;simp only[Bk.len]at hle;have Sg:o1+off*1+len*ez.cells.size≤cur.size:=by
        obtain⟨u,RZ,_⟩:=hc (xs.length-1) (.int k xs[xs.length-1]) (by simp only[Bk.cell];rw[X8 (by omega)];rfl)
        have:=(Array.getElem?_eq_some_iff.1 RZ).1
        omega
       have hr:=RK _ _ hv (fun ty=>wu (ty:=ty) hu Ta U9 g (o1+off*1) len cap hg Sg RI (by omega) (by omega));refine Oper.cQ hr (hk _ _ _ hK (UM _ _ ?_));have Ue:(Builtin.zeroCells ez.cells len).toList.length=len:=by simp[Builtin.zeroCells,SK]
       have SJ:((cur.toList.take (o1+off*1)++(Builtin.zeroCells ez.cells len).toList++cur.toList.drop (o1+off*1+len*ez.cells.size)).toArray).size=cur.size:=by
        simp only[List.size_toArray,X6,X5,List.length_drop,Ue,Array.length_toList];omega
       refine hs.write R2 RD hg SJ (.ints e' k (Aa xs off len)) (Am xs off len hle) fun j c' hj=>?_;simp only[Bk.cell,FO xs off len hle]at hj;have Tn:=ic cur.toList (o1+off*1) (Builtin.zeroCells ez.cells len).toList (by rw[Ue];simp only[Array.length_toList];omega) (o1+j);rw[Ue]at Tn;simp only[List.getElem?_toArray,Yx,Tn]
       by_cases hm:off≤j∧j<off+len
       ·rw[if_pos hm]at hj;simp only[Option.map_some,Option.some.injEq]at hj;subst hj;rw[if_pos (by omega)];have RE:o1+j-(o1+off*1)<(Builtin.zeroCells ez.cells len).toList.length:=by rw[Ue];omega
        refine⟨_,X8 RE,?_⟩;simp only[Builtin.zeroCells,Array.getElem_toList,Array.getElem_map,Array.getElem_range];have hz0:ez.cells.toList.map Df=[.int k 0]:=by rw[←Tt];exact hEz
        obtain⟨v0,SG⟩:∃v0,ez.cells.toList=[v0]:=List.length_eq_one_iff.1 (by simpa using SK);rw[SG]at hz0;have XX:Df v0= .int k 0:=by simpa using hz0
        have RO:v0.oneCell'=true:=List.all_eq_true.1 RI _ (by rw[SG];simp);have RM:=zN (ok:=aG G s.own ρ w) (w:=w) v0 RO;rw[XX]at RM;have Ws:(o1+j-(o1+off*1))%ez.cells.size<ez.cells.size:=Nat.mod_lt _ (by omega);rw[getElem!_pos ez.cells _ Ws];have Xv:ez.cells[(o1+j-(o1+off*1))%ez.cells.size]=v0:=by
         have:ez.cells.toList[(o1+j-(o1+off*1))%ez.cells.size]? =some v0:=by
          rw[SG,SK,Nat.mod_one];rfl
         rw[Array.getElem?_toList,Array.getElem?_eq_getElem Ws]at this;exact Option.some.inj this
        rw[Xv];exact RM
       rw[if_neg hm]at hj;rw[if_neg (by omega),Array.getElem?_toList];exact hc j c' hj
      exact h.elim
     omega
    exact h.elim
  exact h.elim
end
def Ak (f g:Nat→Nat→C)(off n:Nat):Nat→Nat→C:=fun i j=>if off≤i then(if i<off+n then g (i-off) j else f i j)else f i j
def y8 (T:fH)(s:St)(dst:Option Tmp)(t:TypeId)(x y:Operand)(K:St→Prop):Prop:=
 match T t with
 |some S=>
       match S.k with
  |.sl e=>match T e with
   |some E=>match s.ev x with
    |.one (.own b wd off len)=>match lo s.own b with
     |some ⟨.rows e' w n f,rw⟩=>match s.ev y with
      |.one cy=>match g8 w (xL s.own s.nx cy)with
       |some (m,g)=>rw=true∧wd=w∧E.size=w∧0<w∧K {s.put dst (.one (.int .i64 ((if m<len then m else len:Nat):Int)))with own:=eD s.own b ⟨.rows e' w n (Ak f g off (if m<len then m else len)),true⟩}
       |none=>False
      |_=>False
     |_=>False
    |_=>False
   |none=>False
  |_=>False
 |none=>False
theorem F0 {P:Program}{w:World}{t t' ty e:TypeId}{i:TypeInfo}(ht:P.underlying t=some (.slice e))(hi:P.info? e=some i)(dv sv:Option Addr)(len cap m cap' n:Nat)(hn:n=if m<len then m else len){us:List Value}(hl:us.length=n*i.size)(hh:jL w sv us){w':World}
  (RW:(match dv with|some a=>storeCells a us|none=>pure ()).run P w= .ok () w'):
  (Builtin.copy_ #[t,t'] ty #[.slice dv len cap,.slice sv m cap']).run P w= .ok (goInt n) w':=by
 have hf:=dU (P:=P) i.size n sv m cap' us hl hh
 have hm:Nat.min m len=n:=by rw[hn];show min m len=_;split<;>omega
 cases dv with
 |none=>
  obtain rfl:w=w':=by simpa using RW
  simp[Builtin.copy_,Go.run_underlying ht,sizeOf,typeInfo,hi,Builtin.lenOf,hm,hf]
 |some a=>
  simp only at RW
  simp[Builtin.copy_,Go.run_underlying ht,sizeOf,typeInfo,hi,Builtin.lenOf,hm,hf,RW]
section
variable {P:Program}{T:fH}(hT:eJ P T)
include hT
theorem Pk {o:Oper}{s:St}{K:St→Prop}{c:Call}(ho:o.op= .call c)(TC:c.callee= .builtin .copy){x y:Operand}(RH:c.args= #[x,y]){t t':TypeId}(Sv:c.argTypes= #[t,t'])(SW:bT o s.n)(h:y8 T s o.dst t x y K):ml P o s K:=by
 unfold y8 at h
 cases RV:T t with
 |none=>rw[RV]at h;exact h.elim
 |some S=>
  rw[RV]at h;simp only at h
  split at h
  rotate_left
  ·exact h.elim
  rename_i e TP
  have hu:=fm hT RV TP
  cases SB:T e with
  |none=>rw[SB]at h;exact h.elim
  |some E=>
   rw[SB]at h;simp only at h;obtain⟨ei,ed,ez,Ta,WU,U9,WV,Tz,_,Tt,RI⟩:=bB hT SB
   split at h
   rotate_left
   ·exact h.elim
   rename_i b wd off len hx
   split at h
   rotate_left
   ·exact h.elim
   rename_i e' w0 n f rw_ R2
   split at h
   rotate_left
   ·exact h.elim
   rename_i cy hy
   split at h
   rotate_left
   ·exact h.elim
   rename_i m g hm
   obtain⟨rfl,rfl,hE,R1,hK⟩:=h;intro G a w RL Q next hk;obtain⟨ρ,hs⟩:=RL;have RJ:=hs.ev x;rw[hx]at RJ;have T8:=hs.ev y;rw[hy]at T8;obtain⟨ad,cap',us,SF,Sc⟩:=pU hs (fun _ hb=>hb) T8 hm;obtain⟨_,hle,cap,R8,RQ⟩:=RJ;obtain⟨nn,RS⟩:∃nn,nn=if m<len then m else len:=⟨_,rfl⟩
   rw[←RS]at hK
   have XA:nn≤m∧nn≤len:=by rw[RS];split<;>omega
   have hmul:nn*wd≤m*wd:=Nat.mul_le_mul_right _ XA.1;have YP:ei.size=wd:=by omega
   have hl:(us.take (nn*wd)).length=nn*ei.size:=by rw[X5,Sc.len,YP];omega
   have hh:jL w ad (us.take (nn*wd)):=by
    rcases Sc.at_ with h1|⟨a1,h1,h2⟩
    ·left;rw[h1];simp
    refine .inr ⟨a1,h1,fun j u hj=>h2 j u ?_⟩;rw[List.getElem?_take]at hj
    split at hj
    ·exact hj
    cases hj
   have RK:∀(v:Value) (w':World) (dv:Option Addr),a.eval x=v→v= .slice dv len cap→(match dv with|some a=>storeCells a (us.take (nn*wd))|none=>pure ()).run P w= .ok () w'→(execOp a.eval o).run P w= .ok (.value (goInt nn)) w':=by
    intro v w' dv hv TI RW;subst TI;have hr:=F0 (t':=t') (ty:=o.type) hu Ta dv ad len cap m cap' nn RS hl hh RW;unfold execOp;rw[ho];simp only[resolve,TC,Sem.run_bind,Sem.run_pure,Result.andThen_ok,invoke,Go.builtin,RH,Sv,List.map_toArray,List.map_cons,List.map_nil,hv,SF,hr]
   have UM:∀(w':World) (own':List (Nat×fA)),aR G (fun b=>b<s.nx) ρ {s with own:=own'} a w'→ot G {s.put o.dst (.one (.int .i64 (nn:Int)))with own:=own'} (a.put o.dst (goInt nn)) w':=by
    intro w' own' h1;have h2:=h1.put (dst:=o.dst) (x:=.one (.int .i64 (nn:Int))) (v:=goInt nn) SW rfl
    cases hd:o.dst with
    |none=>rw[hd]at h2;exact⟨ρ,h2⟩
    |some d=>rw[hd]at h2;exact⟨ρ,h2⟩
   by_cases Tr:nn=0
   ·subst Tr;have U1:∃dv,a.eval x= .slice dv len cap:=by
     rcases RQ with⟨g,o1,o2,_,hv,_⟩|⟨_,hv,h1,h2⟩
     ·exact⟨_,hv⟩
     exact⟨none,by rw[hv,h1,h2]⟩
    obtain⟨dv,hv⟩:=U1
    have hr:=RK _ w dv hv rfl (by cases dv<;>simp [storeCells])
    refine Oper.cQ hr (hk _ _ _ hK (UM _ _ (hs.IB ⟨fun _=>rfl,fun b'=>?_,rfl⟩)));rw[b7]
    split
    ·rename_i hb;subst hb;rw[R2]
     have:Ak f g off 0=f:=by funext i j;unfold Ak;by_cases h1:off≤i<;>simp [h1];omega
     rw[this]
    rfl
   rcases RQ with⟨g1,o1,o2,RD,hv,TJ,_⟩|⟨_,_,h0,_⟩
   rotate_left
   ·omega
   have ho3:o2=o1+off*wd:=by rcases TJ with h1|h1<;>omega
   subst ho3;obtain⟨_,hlenρ,RG,_⟩:=hs.own b _ R2;unfold aL at RG;rw[RD]at RG;obtain⟨cur,ee,hg,hc⟩:=RG;simp only at hc;rw[hlenρ]at hle;simp only[Bk.len]at hle;have hmul1:(off+nn)*wd≤n*wd:=Nat.mul_le_mul_right _ (by omega);have hmul2:(off+nn)*wd=off*wd+nn*wd:=Nat.add_mul _ _ _;have hlw:0<nn*wd:=Nat.mul_pos (by omega) R1;have RF:(us.take (nn*wd)).length=nn*wd:=by rw[hl,YP]
   have Sg:o1+off*wd+nn*wd≤cur.size:=by
    obtain⟨u,RZ,_⟩:=hc (n*wd-1) (f ((n*wd-1)/wd) ((n*wd-1)%wd)) (by simp only[Bk.cell];rw[if_pos (by omega)])
    have:=(Array.getElem?_eq_some_iff.1 RZ).1
    omega
   have RO:∀u∈us.take (nn*wd),u.oneCell'=true:=fun u hu=>Sc.one u (List.mem_of_mem_take hu);have RW:=run_storeCells_at P g1 (o1+off*wd) ee (us.take (nn*wd)) 0 cur w hg (by rw[RF];omega) RO;simp only[Nat.add_zero,RF]at RW;have hr:=RK _ _ _ hv rfl RW;refine Oper.cQ hr (hk _ _ _ hK (UM _ _ ?_));refine hs.write R2 RD hg (by simp only[List.size_toArray,X6,X5,List.length_drop,Array.length_toList,Sc.len];omega) (.rows e' wd n (Ak f g off nn)) rfl fun j c' hj=>?_;simp only[Bk.cell]at hj
   split at hj
   rotate_left
   ·cases hj
   rename_i Vq
   simp only[Option.some.injEq]at hj;have Tn:=ic cur.toList (o1+off*wd) (us.take (nn*wd)) (by rw[RF];simp only[Array.length_toList];omega) (o1+j);rw[RF]at Tn;have Vw:=Nat.div_add_mod j wd;have UR:=Nat.mod_lt j R1;simp only[List.getElem?_toArray,Tn]
   by_cases Yx:off*wd≤j∧j<off*wd+nn*wd
   ·rw[if_pos (by omega)];have Vx:off≤j/wd:=(Nat.le_div_iff_mul_le R1).2 Yx.1;have UH:j/wd<off+nn:=(Nat.div_lt_iff_lt_mul R1).2 (by omega);have hcg:c'=g (j/wd-off) (j%wd):=by rw[←hj];unfold Ak;rw[if_pos Vx,if_pos UH]
    obtain⟨u,Wn,SN⟩:=Sc.rep (j/wd-off) (j%wd) (by omega) UR;refine⟨u,?_,by rw[hcg];exact SN⟩;have ej:o1+j-(o1+off*wd)=(j/wd-off)*wd+j%wd:=by
     rw[Nat.sub_mul]
     have:off*wd≤j/wd*wd:=Nat.mul_le_mul_right _ Vx
     have:=Nat.mul_comm (j/wd) wd
     omega
    rw[List.getElem?_take,if_pos (by omega),ej,Wn]
   rw[if_neg (by omega),Array.getElem?_toList];have UU:c'=f (j/wd) (j%wd):=by
    rw[←hj];unfold Ak
    by_cases Vx:off≤j/wd
    ·rw[if_pos Vx,if_neg];intro UH;have a1:=(Nat.le_div_iff_mul_le R1).1 Vx;have a2:=(Nat.div_lt_iff_lt_mul R1).1 UH;omega
    rw[if_neg Vx]
   exact hc j c' (by simp only[Bk.cell];rw[if_pos Vq,UU])
end
end Go.Eng
namespace Go.Eng
open Go
inductive WL where
 |nil
 |cons (i:Nat) (pd:List Nat) (sub alt:WL)
 /-- a new variable (operation 'q', slot 'd') that may be made before those that write, or behind the first of them -/
 |opt (q d:Nat) (t1 t2:WL)
def iI:WL→Nat→Bool
 |.nil,_=>false
 |.cons i _ sub _,j=>if j=i then true else iI sub j
 |.opt _ _ _ _,_=>false
def bF (ws:WL)(i:Nat):Bool:=!iI ws i
def rC:WL→Nat→Bool
 |.nil,_=>false
 |.cons i _ _ alt,j=>if j=i then true else rC alt j
 |.opt _ _ _ _,_=>false
def jE:Op→Bool
 |.alloc _=>true
 |_=>false
def wM:Op→Bool
 |.select _ _=>false
 |_=>true
def JV (ops:Array Oper)(ws:WL)(i:Nat)(o:Oper):Bool:=
 ((tmpsOf o).all fun t=>(List.range ops.size).all fun j=>bq ops j !=some t||(if bF ws j then decide (j<i)&&(da ops i).contains j else e9 ops ops.size j i))&&
 (
  match o.guard with
  |none=>true
  |some (g,_)=>decide (g<i)&&(da ops i).contains g&&bF ws g)
def qS (ops:Array Oper)(l:List Nat)(j:Nat):Bool:=l.any fun i=>e9 ops ops.size i j
def jY (ops:Array Oper)(ws:WL)(pre:List Nat)(t:WL):Bool:=
 (List.range ops.size).all fun i=>!iI ws i||pre.contains i||rC t i||(List.range ops.size).any fun j=>iI ws j&&!pre.contains j&&e9 ops ops.size i j
def lW (
     ops:Array Oper) (ws:WL) (ex:Option Nat):List Nat→WL→Bool
 |_,.nil=>true
 |_,.opt _ _ _ _=>false
 |pre,.cons i pd sub alt=>(match ops[i]? with
   |none=>false
   |some o=>o.guard.isNone&&wM o.op&&!pre.contains i&&iI ws i&&
     ((List.range ops.size).all fun j=>!bF ws j||pd.contains j||ex==some j||qS ops (i::pre) j)&&
     (pd.all fun j=>bF ws j&&(match ops[j]? with
      |none=>false
      |some oj=>iq oj.op&&(match oj.dst with
       |none=>false
       |some d=>!(tmpsOf o).contains d))))&&
  jY ops ws (i::pre) sub&&lW ops ws ex (i::pre) sub&&lW ops ws ex pre alt
def C4 (ops:Array Oper)(ws:WL)(q:Nat)(t:WL):Bool:=
 (List.range ops.size).all fun i=>!iI ws i||i==q||rC t i||(List.range ops.size).any fun j=>iI ws j&&e9 ops ops.size i j
def Fg (ops:Array Oper)(ws:WL):Bool:=
 (List.range ops.size).all fun i=>match ops[i]? with
  |none=>false
  |some o=>((da ops i).all fun p=>decide (p<i))&&((List.range ops.size).all fun j=>j==i||(bq ops j).isNone||bq ops j !=bq ops i)&&(!bF ws i||JV ops ws i o)
def OV (ops:Array Oper):WL→Bool
 |.opt q d t1 t2=>Fg ops t1&&jY ops t1 [] t1&&lW ops t1 (some q) [] t1&&Fg ops t2&&C4 ops t2 q t2&&lW ops t2 none [] t2&&
   decide (q<ops.size)&&bF t1 q&&(bq ops q==some d)&&((List.range ops.size).all fun j=>iI t2 j==(iI t1 j||j==q))&&
   ((List.range ops.size).all fun j=>!bF t2 j||match ops[j]? with|none=>true|some o=>!(tmpsOf o).contains d)&&(match ops[q]? with|none=>false|some o=>o.guard.isNone&&jE o.op)
 |ws=>Fg ops ws&&jY ops ws [] ws&&lW ops ws none [] ws
structure Pc (ops:Array Oper) (ws:WL) (ex:Option Nat) (pre:List Nat) (i:Nat) (pd:List Nat) (sub:WL):Prop where
 op:∃o,ops[i]? =some o∧o.guard=none∧wM o.op=true∧∀j∈pd,∃oj d,bF ws j=true∧ops[j]? =some oj∧iq oj.op=true∧oj.dst=some d∧d∉tmpsOf o
 all:∀j,j<ops.size→bF ws j=true→j∈pd∨ex=some j∨∃k∈i::pre,e9 ops ops.size k j=true
 cov:jY ops ws (i::pre) sub=true
 sub:lW ops ws ex (i::pre) sub=true
structure OX (ops:Array Oper) (ws:WL):Prop where
 pred:∀i o,ops[i]? =some o→∀p∈da ops i,p<i
 dst:∀j k t,j<ops.size→k<ops.size→j≠k→bq ops j=some t→bq ops k=some t→False
 data:∀i o,ops[i]? =some o→bF ws i=true→∀t,t∈tmpsOf o→∀j,j<ops.size→bq ops j=some t→(bF ws j=true→j<i∧j∈da ops i)∧(bF ws j=false→e9 ops ops.size j i=true)
 guard:∀i o g want,ops[i]? =some o→bF ws i=true→o.guard=some (g,want)→g<i∧g∈da ops i∧bF ws g=true
theorem iZ {ops:Array Oper}{ws:WL}{ex:Option Nat}{pre:List Nat}{i:Nat}{pd:List Nat}{sub alt:WL}(h:lW ops ws ex pre (.cons i pd sub alt)=true):Pc ops ws ex pre i pd sub∧lW ops ws ex pre alt=true:=by
 simp only[lW,Bool.and_eq_true]at h;obtain⟨⟨⟨h1,hc⟩,hs⟩,h2⟩:=h;refine⟨?_,h2⟩
 cases ho:ops[i]? with
 |none=>rw[ho]at h1;cases h1
 |some o=>
  rw[ho]at h1;simp only[Bool.and_eq_true,List.all_eq_true,Option.isNone_iff_eq_none,Bool.not_eq_true']at h1;obtain⟨⟨⟨⟨⟨g1,g2⟩,_⟩,_⟩,g5⟩,g6⟩:=h1;refine⟨⟨o,ho,g1,g2,fun j hj=>?_⟩,fun j hj hr=>?_,hc,hs⟩
  ·have h3:=g6 j hj;obtain⟨k1,k2⟩:=h3
   cases hoj:ops[j]? with
   |none=>rw[hoj]at k2;cases k2
   |some oj=>
    rw[hoj]at k2;simp only[Bool.and_eq_true]at k2;obtain⟨k3,k5⟩:=k2
    cases hd:oj.dst with
    |none=>rw[hd]at k5;cases k5
    |some d=>
     rw[hd]at k5;exact⟨oj,d,k1,rfl,k3,hd,by simpa using k5⟩
  have h3:=g5 j (by simpa using hj);rw[hr]at h3;have h4:(pd.contains j=true∨ex=some j)∨qS ops (i::pre) j=true:=by simpa using h3
  rcases h4 with(h4|h4)|h4
  ·exact .inl (by simpa using h4)
  ·exact .inr (.inl h4)
  refine .inr (.inr ?_);unfold qS at h4;obtain⟨k,hk,hc⟩:=List.any_eq_true.1 h4;exact⟨k,hk,hc⟩
theorem rA {ops:Array Oper}{ws:WL}{pre:List Nat}{t:WL}(h:jY ops ws pre t=true){i:Nat}(hi:i<ops.size)(hw:iI ws i=true):i∈pre∨rC t i=true∨∃j,j<ops.size∧iI ws j=true∧j∉pre∧e9 ops ops.size i j=true:=by
 unfold jY at h;have h1:=List.all_eq_true.1 h i (by simpa using hi);rw[hw]at h1;simp only[Bool.not_true,Bool.false_or,Bool.or_eq_true]at h1
 rcases h1 with(h1|h1)|h1
 ·exact .inl (by simpa using h1)
 ·exact .inr (.inl h1)
 obtain⟨j,hj,h2⟩:=List.any_eq_true.1 h1;simp only[Bool.and_eq_true,Bool.not_eq_true']at h2;exact .inr (.inr ⟨j,by simpa using hj,h2.1.1,by simpa using h2.1.2,h2.2⟩)
theorem sH {ops:Array Oper}{ws:WL}(h1:Fg ops ws=true):OX ops ws:=by
 unfold Fg at h1;have hi:∀i o,ops[i]? =some o→((∀p∈da ops i,p<i)∧(∀j,j<ops.size→j≠i→∀t,bq ops j=some t→bq ops i≠some t))∧(bF ws i=true→JV ops ws i o=true):=by
  intro i o ho;have RE:=(Array.getElem?_eq_some_iff.1 ho).1;have h3:=List.all_eq_true.1 h1 i (by simpa using RE);rw[ho]at h3;simp only[Bool.and_eq_true,List.all_eq_true,decide_eq_true_eq]at h3;obtain⟨⟨a1,a2⟩,a3⟩:=h3;refine⟨⟨a1,fun j hj RT t ht hti=>?_⟩,fun hr=>by rw[hr]at a3;simpa using a3⟩;have h4:=a2 j (by simpa using hj);rw[ht,hti]at h4
  simp[RT]at h4
 refine⟨fun i o ho=>(hi i o ho).1.1,fun j k t hj hk RT h3 h4=>?_,fun i o ho hr t ht j hj hd=>?_,fun i o g want ho hr hg=>?_⟩
 ·exact(hi k ops[k] (Array.getElem?_eq_getElem hk)).1.2 j hj RT t h3 h4
 ·have h3:=(hi i o ho).2 hr;unfold JV at h3;rw[Bool.and_eq_true]at h3;have h4:=List.all_eq_true.1 (List.all_eq_true.1 h3.1 t ht) j (by simpa using hj);rw[hd]at h4;refine⟨fun Ys=>?_,fun Ys=>?_⟩
  ·rw[Ys]at h4;simpa using h4
  rw[Ys]at h4;simpa using h4
 have h3:=(hi i o ho).2 hr;unfold JV at h3;rw[Bool.and_eq_true,hg]at h3
 simpa[and_assoc]using h3.2
open Classical in
noncomputable def uh (s:St)(H:Tmp→Prop):St:={s with env:=s.env.filter fun p=>decide (¬H p.1)}
open Classical in
theorem qo (H:Tmp→Prop)(t:Tmp):∀l:List (Nat×V),lk (l.filter fun p=>decide (¬H p.1)) t=if H t then .unk else lk l t
 |[]=>by simp[lk]
 |(t',v)::r=>by
  have ih:=qo H t r
  by_cases hH:H t'
  ·rw[List.filter_cons_of_neg (by simpa using hH),ih]
   by_cases ht:t=t'
   ·subst ht;simp[hH]
   simp[lk,ht]
  rw[List.filter_cons_of_pos (by simpa using hH)];simp only[lk]
  by_cases ht:t=t'
  ·subst ht;simp[hH]
  simp only[ht,if_false];exact ih
theorem sA (s:St)(H:Tmp→Prop)(t:Tmp)(h:¬H t):lk (uh s H).env t=lk s.env t:=by
 unfold uh;simp only[qo,if_neg h]
theorem z8 (s:St)(H:Tmp→Prop)(t:Tmp)(h:H t):lk (uh s H).env t= .unk:=by
 unfold uh;simp only[qo,if_pos h]
structure RU (H:Tmp→Prop) (a a':Act):Prop where
 defers:a.defers=a'.defers
 size:a.tmps.size=a'.tmps.size
 tmps:∀t,¬H t→a.tmps[t]? =a'.tmps[t]?
theorem RU.refl (H:Tmp→Prop)(a:Act):RU H a a:=⟨rfl,rfl,fun _ _=>rfl⟩
theorem RU.eq {H:Tmp→Prop}{a a':Act}(h:RU H a a')(hH:∀t,¬H t):a=a':=by
 obtain⟨h1,h2,h3⟩:=h
 cases a;cases a'
 simp only[Act.mk.injEq];exact⟨Array.ext_getElem? fun i=>h3 i (hH i),h1⟩
theorem RU.getD {H:Tmp→Prop}{a a':Act}(h:RU H a a'){t:Tmp}(ht:¬H t):a.tmps.getD t undef=a'.tmps.getD t undef:=by
 rw[Array.getD_eq_getD_getElem?,Array.getD_eq_getD_getElem?,h.tmps t ht]
theorem RU.put {H:Tmp→Prop}{a a':Act}(h:RU H a a')(dst:Option Tmp)(v:Value):RU H (a.put dst v) (a'.put dst v):=by
 cases dst with
 |none=>exact h
 |some d=>
  refine⟨h.defers,by simp[Act.put,h.size],fun t ht=>?_⟩;simp only[Act.put,Array.getElem?_setIfInBounds,h.size]
  split
  ·rfl
  exact h.tmps t ht
theorem mS {a:Act}{d t:Tmp}{v:Value}:(a.put (some d) v).tmps[t]? =if t=d∧d<a.tmps.size then some v else a.tmps[t]? :=by
 simp only[Act.put,Array.getElem?_setIfInBounds]
 by_cases h1:d=t
 ·subst h1
  by_cases h2:d<a.tmps.size
  ·simp[h2]
  simp[h2]
 rw[if_neg h1,if_neg (fun h=>h1 h.1.symm)]
theorem aR.uh {G:Ctx}{dom:Nat→Prop}{ρ:Nat→Loc}{s:St}{a a':Act}{w:World}{H:Tmp→Prop}(h:aR G dom ρ s a' w)(hu:RU H a a'):aR G dom ρ (uh s H) a w:=
 {
  h with
  hd:=by rw[hu.defers];exact h.hd
  hn:=by rw[hu.size];exact h.hn
  env:=fun t=>by
   by_cases ht:H t
   ·rw[z8 _ _ _ ht];trivial
   rw[sA _ _ _ ht,hu.getD ht];exact h.env t}
theorem RU.exec {H:Tmp→Prop}{a a':Act}(h:RU H a a'){o:Oper}(Wg:wM o.op=true)(ht:∀t∈tmpsOf o,¬H t):execOp a.eval o=execOp a'.eval o:=by
 refine execOp_congr o (fun cs b he=>by rw[he]at Wg;cases Wg) fun x hx=>?_
 cases x with
 |tmp t=>exact h.getD (ht t (List.mem_filterMap.2 ⟨.tmp t,by simpa using hx,rfl⟩))
 |const v=>rfl
 |global g=>rfl
 |func f=>rfl
theorem RU.wp {P:Program}{H:Tmp→Prop}{a a':Act}(h:RU H a a'){o:Oper}(Wg:wM o.op=true)(ht:∀t∈tmpsOf o,¬H t){w:World}{next next':Act→World→Prop}{Q:Exit→Act→World→Prop}
  (hQ:∀ch a a' w,Q (.panic ch) a w→Q (.panic ch) a' w) (hn:∀b b' w,RU H b b'→next' b' w→next b w) (hw:o.wp P a' w next' Q):o.wp P a w next Q:=by
 unfold Oper.wp at hw⊢;rw[h.exec Wg ht]
 cases hr:(execOp a'.eval o).run P w with
 |halt x w'=>
  rw[hr]at hw
  cases x<;>first|exact hQ _ _ _ _ hw|exact hw.elim
 |ok x w'=>
  rw[hr]at hw
  cases x with
  |value v=>exact hn _ _ _ (h.put _ v) hw
  |skip=>exact hn _ _ _ (h.put _ undef) hw
  |defer d=>
   refine hn _ _ _ (RU.put (⟨?_,h.size,h.tmps⟩:RU H {a with defers:=d::a.defers} {a' with defers:=d::a'.defers}) _ undef) hw;simp only[h.defers]
  |enter f args=>
   refine Calls.mono hw fun e w'' he=>?_
   cases e with
   |returned v=>exact hn _ _ _ (h.put _ v) he
   |panicked ch=>exact hQ _ _ _ _ he
   |outgrown=>exact he
  |row r args=>exact Rows.mono hw fun v w'' he=>hn _ _ _ (h.put _ v) he
  |_=>exact hw.elim
section
variable {P:Program}{ops:Array Oper}{ws:WL}{σ:St}{es:Nat→eK}{K:St→Prop}
def Ij (P:Program)(ops:Array Oper)(s:St)(o:Oper)(d:Nat):Prop:=match o.guard with
 |none=>Ji P o s s.nx (lk s.env d)
 |some (g,want)=>∃t b,bq ops g=some t∧gv (lk s.env t)=some b∧(if b=some want then Ji P o s s.nx (lk s.env d)else lk s.env d= .aB [])
def Promise (P:Program)(ops:Array Oper)(s:St)(pd:List Nat):Prop:=∀j∈pd,∃o d,ops[j]? =some o∧o.dst=some d∧Ij P ops s o d∧d<s.n
def Ff (P:Program)(ops:Array Oper)(i:Nat)(pd:List Nat)(s:St)(K:St→Prop):Prop:=∃o,ops[i]? =some o∧bT o s.n∧ml P o s (fun s'=>Promise P ops s' pd∧K s')
def lQ (P:Program)(ops:Array Oper):WL→St→(St→Prop)→Prop
 |.nil,s,K=>K s
 |.cons i pd sub .nil,s,K=>Ff P ops i pd s (fun s'=>lQ P ops sub s' K)
 |.cons i pd sub (.cons i' pd' sub' alt'),s,K=>Ff P ops i pd s (fun s'=>lQ P ops sub s' K)∧lQ P ops (.cons i' pd' sub' alt') s K
 |.cons _ _ _ (.opt _ _ _ _),_,_=>False
 |.opt _ _ _ _,_,_=>False
theorem nL {P:Program}{ops:Array Oper}{ws:WL}{ex:Option Nat}{pre:List Nat}{i:Nat}{s:St}{K:St→Prop}:∀{t:WL},lQ P ops t s K→lW ops ws ex pre t=true→rC t i=true→∃pd sub,Ff P ops i pd s (fun s'=>lQ P ops sub s' K)∧Pc ops ws ex pre i pd sub
 |.nil,_,_,hn=>by cases hn
 |.opt _ _ _ _,_,_,hn=>by cases hn
 |.cons _ _ _ (.opt _ _ _ _),h,_,_=>by rw[lQ]at h;exact h.elim
 |.cons i0 pd sub .nil,h,hg,hn=>by
  simp only[rC]at hn
  by_cases he:i=i0
  ·subst he;rw[lQ]at h;exact⟨pd,sub,h,(iZ hg).1⟩
  rw[if_neg he]at hn;cases hn
 |.cons i0 pd sub (.cons i' pd' sub' alt'),h,hg,hn=>by
  rw[lQ]at h
  by_cases he:i=i0
  ·subst he;exact⟨pd,sub,h.1,(iZ hg).1⟩
  refine nL h.2 (iZ hg).2 ?_;rw[rC,if_neg he]at hn;exact hn
def hid (ops:Array Oper)(ws:WL)(listed:Array Bool)(t:Tmp):Prop:=∃j,j<ops.size∧bF ws j=true∧listed.getD j false=false∧bq ops j=some t
def tS (σ:St)(ops:Array Oper)(es:Nat→eK)(ws:WL):St:={aK σ σ.nx ops es (bF ws) ops.size with nx:=σ.nx+ops.size}
structure ou (P:Program) (G:Ctx) (ops:Array Oper) (ws:WL) (ex:Option Nat) (F:Prop) (σ:St) (es:Nat→eK) (K:St→Prop) (listed:Array Bool) (a:Act) (w:World):Prop where
 size:listed.size=ops.size
 down:∀i,listed.getD i false=true→∀p∈da ops i,listed.getD p false=true
 where_:(F∧(∀i,listed.getD i false=true→bF ws i=true)∧uU G (fun b=>b<σ.nx∨∃j,j<ops.size∧listed.getD j false=true∧b=σ.nx+j) (aK σ σ.nx ops es (fun j=>bF ws j&&listed.getD j false) ops.size) a w)∨
  (∃(pre:List Nat) (rest:WL) (pd:List Nat) (s:St) (a':Act),(∀j,j<ops.size→bF ws j=false→(listed.getD j false=true↔j∈pre))∧(∀k∈pre,listed.getD k false=true)∧lW ops ws ex pre rest=true∧(jY ops ws pre rest=true∧∀q,ex=some q→listed.getD q false=true)∧
   (∀j,j<ops.size→bF ws j=true→listed.getD j false=false→j∈pd)∧lQ P ops rest s K∧Promise P ops s pd∧ot G s a' w∧RU (hid ops ws listed) a a')
theorem mK (L:Nat→Bool)(t:Nat):∀k,(∀j,j<k→L j=true→bq ops j≠some t)→lk (aK σ σ.nx ops es L k).env t=lk σ.env t:=by
 intro k
 induction k with
 |zero=>intro _;rfl
 |succ k ih=>
  intro h;simp only[aK]
  split
  ·rename_i hL
   rw[jR,if_neg (h k (Nat.lt_succ_self k) hL)];exact ih (fun j hj=>h j (Nat.lt_succ_of_lt hj))
  exact ih (fun j hj=>h j (Nat.lt_succ_of_lt hj))
theorem Pu (RY:OX ops ws){i:Nat}{o:Oper}(ho:ops[i]? =some o)(hi:bF ws i=true){L:Nat→Bool}(hL:∀j,L j=true→bF ws j=true)(hp:∀p∈da ops i,bF ws p=true→L p=true):
  gN (aK σ σ.nx ops es (bF ws) i) (aK σ σ.nx ops es L ops.size) σ.nx o:=by
 have Sw:=(Array.getElem?_eq_some_iff.1 ho).1;refine⟨by rw[fM,fM],fun x hx=>?_,fun b hb=>by rw[iU _ ops.size b hb,iU _ i b hb]⟩
 cases x with
 |tmp t=>
  have Uw:t∈tmpsOf o:=List.mem_filterMap.2 ⟨.tmp t,by simpa using hx,rfl⟩;show lk _ t=lk _ t
  by_cases hex:∃j,j<ops.size∧bF ws j=true∧bq ops j=some t
  ·obtain⟨j,hj,SI,hd⟩:=hex;obtain⟨To,YO⟩:=(RY.data i o ho hi t Uw j hj hd).1 SI;rw[dD (N:=ops.size) L hd (hp j YO SI) RY.dst ops.size (Nat.le_refl _) hj,dD (N:=ops.size) (bF ws) hd SI RY.dst i (by omega) To]
  rw[mK L t ops.size (fun j hj hLj h=>hex ⟨j,hj,hL j hLj,h⟩),mK (bF ws) t i (fun j hj hLj h=>hex ⟨j,by omega,hLj,h⟩)]
 |const v=>rfl
 |global g=>rfl
 |func f=>rfl
theorem ghost (RY:OX ops ws)(Tf:∀j,∀b∈(es j).fz,b<σ.nx)
  (Td:∀(i:Nat) o,bF ws i=true→ops[i]? =some o→k9 P ops σ.nx i o (aK σ σ.nx ops es (bF ws) i) (es i))
  {G:Ctx} {listed:Array Bool} {a:Act} {w:World} {dom:Nat→Prop} (hW:∀i,listed.getD i false=true→bF ws i=true)
  (VR:∀j,j<ops.size→bF ws j=true→listed.getD j false=false→∃o,ops[j]? =some o∧iq o.op=true)
  (hs:uU G dom (aK σ σ.nx ops es (fun j=>bF ws j&&listed.getD j false) ops.size) a w) (W4:∀i,listed.getD i false=true→∀p∈da ops i,listed.getD p false=true):
  ∀n,n≤ops.size→∃a',uU G dom (aK σ σ.nx ops es (fun j=>bF ws j&&(listed.getD j false||decide (j<n))) ops.size) a' w∧RU (hid ops ws listed) a a':=by
 intro n
 induction n with
 |zero=>
  intro _;refine⟨a,?_,RU.refl _ _⟩;rw[cN (L':=fun j=>bF ws j&&listed.getD j false) ops.size (fun j _=>by simp)];exact hs
 |succ n ih=>
  intro hn;obtain⟨a',⟨ρ,h1⟩,hu⟩:=ih (by omega)
  by_cases hc:bF ws n=true∧listed.getD n false=false
  ·obtain⟨hR,hl⟩:=hc;obtain⟨o,ho,RE⟩:=VR n (by omega) hR hl;obtain⟨Sy,RW⟩:=Td n o hR ho
   have TD:=Pu (σ:=σ) (es:=es) RY ho hR (L:=fun j=>bF ws j&&(listed.getD j false||decide (j<n))) (fun j hj=>by simp at hj;exact hj.1) (fun p hp hpR=>by
    have:=RY.pred n o ho p hp
    simp[hpR,this])
   have RQ:(es n).vX=none∧(es n).fz=[]∧∃v,b6 ρ dom (aG G (aK σ σ.nx ops es (fun j=>bF ws j&&(listed.getD j false||decide (j<n))) ops.size).own ρ w) w (es n).val v:=by
    have doit:a6 P o (aK σ σ.nx ops es (bF ws) n) σ.nx (σ.nx+n) (es n)→(es n).vX=none∧(es n).fz=[]∧∃v,b6 ρ dom (aG G (aK σ σ.nx ops es (fun j=>bF ws j&&(listed.getD j false||decide (j<n))) ops.size).own ρ w) w (es n).val v:=fun S2=>by
     obtain⟨VS,VT,Uo⟩:=S2.2 RE;obtain⟨v,_,hv⟩:=Uo G dom ρ _ a' w h1 TD;exact⟨VS,VT,v,hv⟩
    split at RW
    ·exact doit RW
    obtain⟨t,b,_,_,RW⟩:=RW
    split at RW
    ·exact doit RW
    rw[RW];exact⟨rfl,rfl,undef,⟨#[],rfl,trivial⟩⟩
   obtain⟨VS,VT,v,hv⟩:=RQ;have SM:bq ops n=o.dst:=by unfold bq;rw[ho];rfl
   have h2:=h1.put (dst:=o.dst) (x:=(es n).val) (v:=v) (fun d hd=>by have:=Sy d hd;rw[fM]at this⊢;exact this) hv;refine⟨a'.put o.dst v,⟨ρ,?_⟩,?_⟩
   ·have he:es n=⟨(es n).val,none,[]⟩:=by
     cases hen:es n with
     |mk v b f=>rw[hen]at VS VT;simp only at VS VT;rw[VS,VT]
    have h3:=m9 (σ:=σ) (nx0:=σ.nx) (e:=es) (N:=ops.size) (L:=fun j=>bF ws j&&(listed.getD j false||decide (j<n))) (i:=n) (by simp[hl]) RY.dst Tf ops.size (Nat.le_refl _) (by omega)
    rw[he,St.add_plain,SM]at h3;have h4:=h2.IB h3.symm
    rw[cN (L':=fun j=>(bF ws j&&(listed.getD j false||decide (j<n)))||j==n) ops.size (fun j _=>?_)]
    ·exact h4
    by_cases Vq:j=n
    ·subst Vq;simp[hR]
    have e1:decide (j<n+1)=decide (j<n):=by simp;omega
    have e2:(j==n)=false:=by simpa using Vq
    rw[e1,e2,Bool.or_false]
   cases hd:o.dst with
   |none=>exact hu
   |some d=>
    refine⟨hu.defers,by rw[hu.size];simp[Act.put],fun t ht=>?_⟩;rw[mS,if_neg,hu.tmps t ht];rintro⟨rfl,_⟩;exact ht ⟨n,by omega,hR,hl,by rw[SM,hd]⟩
  refine⟨a',⟨ρ,?_⟩,hu⟩
  rw[cN (L':=fun j=>bF ws j&&(listed.getD j false||decide (j<n))) ops.size (fun j _=>?_)]
  ·exact h1
  by_cases Vq:j=n
  ·subst Vq
   cases hR:bF ws j with
   |false=>rfl
   |true=>
    have:listed.getD j false=true:=by
     cases hl:listed.getD j false with
     |true=>rfl
     |false=>exact absurd ⟨hR,hl⟩ hc
    rw[this];rfl
  have e1:decide (j<n+1)=decide (j<n):=by simp;omega
  rw[e1]
theorem kY {L:Nat→Bool}(h:∀j,j<ops.size→bF ws j=true→L j=true):aK σ σ.nx ops es (fun j=>bF ws j&&L j) ops.size=aK σ σ.nx ops es (bF ws) ops.size:=
 cN ops.size fun j hj=>by
  cases hR:bF ws j with
  |false=>rfl
  |true=>rw[h j hj hR];rfl
theorem L6 {ex:Option Nat}{F:Prop}{G:Ctx}{Q:Exit→Act→World→Prop}(hP:∀ch a a' w,Q (.panic ch) a w→Q (.panic ch) a' w){fuel:Nat}{listed:Array Bool}{a:Act}{w:World}(Tv:listed.size=ops.size)(SW:∀i,listed.getD i false=true→∀p∈da ops i,listed.getD p false=true)
  {i:Nat} (Sw:i<ops.size) (hp:∀p∈da ops i,listed.getD p false=true) (ZO:bF ws i=false) {pre:List Nat} {sub:WL} {pdi:List Nat} {s:St} {a':Act} (h1:∀j,j<ops.size→bF ws j=false→(listed.getD j false=true↔j∈pre)) (TS:∀k∈pre,listed.getD k false=true)
  (SX:Pc ops ws ex pre i pdi sub) (h6:Ff P ops i pdi s (fun s'=>lQ P ops sub s' K)) (h8:ot G s a' w) (h9:RU (hid ops ws listed) a a') (UN:∀q,ex=some q→listed.getD q false=true)
  (ih:∀a w,ou P G ops ws ex F σ es K (listed.setIfInBounds i true) a w→wpAny P .any ops Q fuel (listed.setIfInBounds i true) a w):wpOp P ops Q i (wpAny P .any ops Q fuel (listed.setIfInBounds i true)) a w:=by
 have ho:=Array.getElem?_eq_getElem Sw;have RE:i<listed.size:=by rw[Tv];exact Sw
 have S4:∀j,(listed.setIfInBounds i true).getD j false=true→∀p∈da ops j,(listed.setIfInBounds i true).getD p false=true:=by
  intro j hj p W5;rw[aX RE]at hj⊢
  rcases Bool.or_eq_true_iff.1 hj with hj|hj
  ·rw[SW j hj p W5];rfl
  have:j=i:=by simpa using hj
  subst this;rw[hp p W5];rfl
 have Tj:∀j,e9 ops ops.size i j=true→listed.getD j false=true:=fun j hj=>fJ SW _ i j hp hj;obtain⟨o,SO,hg,Wg,Ux⟩:=SX.op;rw[ho]at SO;obtain rfl:=Option.some.inj SO;obtain⟨o2,TJ,Sy,hwe⟩:=h6;rw[ho]at TJ;obtain rfl:=Option.some.inj TJ;have W7:∀j,j<ops.size→bF ws j=true→listed.getD j false=false→j∈pdi:=fun j hj SI Sf=>by
  rcases SX.all j hj SI with k|ke|⟨k0,VU,k⟩
  ·exact k
  ·rw[UN j ke]at Sf;cases Sf
  rcases List.mem_cons.1 VU with rfl|VU
  ·rw[Tj j k]at Sf;cases Sf
  rw[fJ SW _ k0 j (SW k0 (TS k0 VU)) k]at Sf;cases Sf
 unfold wpOp;simp only[ho];rw[ik hg,if_pos rfl];refine .inl (h9.wp Wg (fun t ht hh=>?_) hP ?_ (hwe G a' w h8 Q (fun b' w'=>∃s',(Promise P ops s' pdi∧lQ P ops sub s' K)∧ot G s' b' w') fun s' b' w' k1 k2=>⟨s',k1,k2⟩))
 ·obtain⟨j,hj,SI,Sf,TV⟩:=hh;obtain⟨oj,d,_,k1,_,k2,k3⟩:=Ux j (W7 j hj SI Sf)
  have:bq ops j=some d:=by unfold bq;rw[k1];exact k2
  rw[this]at TV;obtain rfl:=Option.some.inj TV;exact k3 ht
 rintro b b' w' Yy ⟨s',⟨k1,k2⟩,k3⟩;refine ih _ _ ⟨by simpa using Tv,S4,.inr ⟨i::pre,sub,pdi,s',b',fun j hj SI=>?_,fun k hk=>?_,SX.sub,⟨SX.cov,fun q hq=>by rw[aX RE,UN q hq];rfl⟩,fun j hj SI Sf=>?_,k2,k1,k3,⟨Yy.defers,Yy.size,fun t ht=>Yy.tmps t fun hh=>ht ?_⟩⟩⟩
 ·rw[aX RE,Bool.or_eq_true,h1 j hj SI,List.mem_cons,beq_iff_eq]
  constructor
  ·rintro(k|k)
   ·exact .inr k
   exact .inl k
  rintro(k|k)
  ·exact .inr k
  exact .inl k
 ·rw[aX RE,Bool.or_eq_true,beq_iff_eq]
  rcases List.mem_cons.1 hk with hk|hk
  ·exact .inr hk
  exact .inl (TS k hk)
 ·rw[aX RE]at Sf;simp only[Bool.or_eq_false_iff]at Sf;exact W7 j hj SI Sf.1
 obtain⟨j,hj,SI,Sf,TV⟩:=hh;refine⟨j,hj,SI,?_,TV⟩;rw[aX RE,Sf,Bool.false_or,beq_eq_false_iff_ne];intro e;rw[e,ZO]at SI;cases SI
theorem kJ {ex:Option Nat}{F:Prop}(RY:OX ops ws)(hcov:F→jY ops ws [] ws=true)(hgw:F→lW ops ws ex [] ws=true)(Tf:∀j,∀b∈(es j).fz,b<σ.nx)
  (Td:F→∀(i:Nat) o,bF ws i=true→ops[i]? =some o→k9 P ops σ.nx i o (aK σ σ.nx ops es (bF ws) i) (es i))
  (hW:F→lQ P ops ws (tS σ ops es ws) K)
  {G:Ctx} {Q:Exit→Act→World→Prop} (WA:F→∀q,ex=some q→∀(fuel:Nat) (listed:Array Bool) (a:Act) (w:World) (i:Nat),ou P G ops ws ex F σ es K listed a w→(∀j,listed.getD j false=true→bF ws j=true)→
   uU G (fun b=>b<σ.nx∨∃j,j<ops.size∧listed.getD j false=true∧b=σ.nx+j) (aK σ σ.nx ops es (fun j=>bF ws j&&listed.getD j false) ops.size) a w→listed.getD q false=false→
   i∈Region.ready .any ops listed→iI ws i=true→iB ops listed≤fuel+1→wpOp P ops Q i (wpAny P .any ops Q fuel (listed.setIfInBounds i true)) a w) (hQ:∀s a w,K s→ot G s a w→Q .normal a w) (hP:∀ch a a' w,Q (.panic ch) a w→Q (.panic ch) a' w):
  ∀(fuel:Nat) (listed:Array Bool) (a:Act) (w:World),ou P G ops ws ex F σ es K listed a w→iB ops listed≤fuel→wpAny P .any ops Q fuel listed a w:=by
 have Vf:∀(listed:Array Bool) (a:Act) (w:World),ou P G ops ws ex F σ es K listed a w→(∀j,j<ops.size→listed.getD j false=true)→Q .normal a w:=by
  intro listed a w h RI
  rcases h.where_ with⟨hF,hR,ρ,RL⟩|⟨pre,rest,pd,s,a',h1,h2,h3,h4,h5,h6,h7,h8,h9⟩
  ·have hW:=hW hF;have Yd:∀i,i<ops.size→iI ws i=false:=fun i hi=>by
    have:=hR i (RI i hi)
    simpa[bF]using this
   cases ZP:ws with
   |nil=>
    rw[ZP]at hW RL;refine hQ _ a w hW ⟨ρ,?_⟩;rw[kY (fun j hj _=>RI j hj)]at RL
    have TW:=RL.cR (dom':=fun b=>b<σ.nx+ops.size) (fun b hb=>by rcases hb with hb|⟨j,hj,_,rfl⟩<;>omega)
    exact TW.IB ⟨fun _=>rfl,fun _=>rfl,rfl⟩
   |cons i pd sub alt=>
    exfalso
    have hw:=hgw hF;rw[ZP]at hw;obtain⟨o,ho,_⟩:=(iZ hw).1.op
    have:=Yd i (Array.getElem?_eq_some_iff.1 ho).1
    rw[ZP]at this
    simp[iI]at this
   |opt _ _ _ _=>rw[ZP]at hW;exact hW.elim
  cases VV:rest with
  |nil=>
   rw[VV]at h6;have ha:a=a':=h9.eq fun t ht=>by
    obtain⟨j,hj,_,hl,_⟩:=ht;rw[RI j hj]at hl;cases hl
   subst ha;exact hQ s a w h6 h8
  |opt _ _ _ _=>rw[VV]at h6;exact h6.elim
  |cons i pd' sub alt=>
   exfalso
   rw[VV]at h3;have WB:=h3;simp only[lW,Bool.and_eq_true]at WB;obtain⟨⟨⟨U2,_⟩,_⟩,_⟩:=WB
   cases ho:ops[i]? with
   |none=>rw[ho]at U2;cases U2
   |some o=>
    rw[ho]at U2;simp only[Bool.and_eq_true,Bool.not_eq_true']at U2;obtain⟨⟨⟨⟨⟨_,_⟩,hnp⟩,hwi⟩,_⟩,_⟩:=U2;have Sw:=(Array.getElem?_eq_some_iff.1 ho).1
    have:=(h1 i Sw (by simp[bF,hwi])).1 (RI i Sw)
    simp[this]at hnp
 intro fuel
 induction fuel with
 |zero=>
  intro listed a w h hf;have RI:=rH (Nat.le_zero.1 hf);refine⟨?_,Vf listed a w h RI⟩
  cases hr:Region.ready .any ops listed with
  |nil=>rfl
  |cons i l=>
   obtain⟨_,hi,hu⟩:=gT (i:=i) (listed:=listed) (ops:=ops) (by rw[hr];simp);have h1:=RI i hi;have RE:i<listed.size:=by rw[h.size];exact hi
   simp[Array.getD,RE]at h1 hu
   rw[h1]at hu;cases hu
 |succ fuel ih=>
  intro listed a w h hf;refine⟨fun hr=>?_,fun i hi=>?_⟩
  ·have RI:∀n i,i<n→i<ops.size→listed.getD i false=true:=by
    intro n
    induction n with
    |zero=>intro i hi;omega
    |succ n ihn=>
     intro i Se Sw
     by_cases hu:listed.getD i false=true
     ·exact hu
     have RE:i<listed.size:=by rw[h.size];exact Sw
     have RZ:listed.getD i true=false:=by
      simp[Array.getD,RE]at hu⊢
      exact hu
     have hm:=mc (ops:=ops) (Array.getElem?_eq_getElem Sw) RZ (fun p hp=>ihn p (by have:=RY.pred i _ (Array.getElem?_eq_getElem Sw) p hp;omega) (by have:=RY.pred i _ (Array.getElem?_eq_getElem Sw) p hp;omega));rw[hr]at hm;cases hm
   exact Vf listed a w h (fun j hj=>RI _ j (Nat.lt_succ_self _) hj)
  obtain⟨hp,Sw,hu⟩:=gT hi;have ho:=Array.getElem?_eq_getElem Sw;have hcount:=oG h.size Sw hu;have RE:i<listed.size:=by rw[h.size];exact Sw
  have RZ:listed.getD i false=false:=by
   simp[Array.getD,RE]at hu⊢
   exact hu
  have S4:∀j,(listed.setIfInBounds i true).getD j false=true→∀p∈da ops j,(listed.setIfInBounds i true).getD p false=true:=by
   intro j hj p W5;rw[aX RE]at hj⊢
   rcases Bool.or_eq_true_iff.1 hj with hj|hj
   ·rw[h.down j hj p W5];rfl
   have:j=i:=by simpa using hj
   subst this;rw[hp p W5];rfl
  have Tj:∀j,e9 ops ops.size i j=true→listed.getD j false=true:=fun j hj=>fJ h.down _ i j hp hj
  by_cases UG:bF ws i=true
  ·rcases h.where_ with⟨hF,Vv,ρ,RL⟩|⟨pre,rest,pd,s,a',h1,h2,h3,h4,h5,h6,h7,h8,h9⟩
   ·have RW:=Td hF i ops[i] UG ho;have TD:=Pu (σ:=σ) (es:=es) RY ho UG (L:=fun j=>bF ws j&&listed.getD j false) (fun j hj=>by simp at hj;exact hj.1) (fun p UO hpR=>by rw[hpR,hp p UO];rfl);have TE:∀a' w',uU G (fun b=>(b<σ.nx∨∃j,j<ops.size∧listed.getD j false=true∧b=σ.nx+j)∨b=σ.nx+i) ((aK σ σ.nx ops es (fun j=>bF ws j&&listed.getD j false) ops.size).add (bq ops i) (σ.nx+i) (es i)) a' w'→
      ou P G ops ws ex F σ es K (listed.setIfInBounds i true) a' w':=by
     rintro a' w' ⟨ρ',k1⟩;refine⟨by simpa using h.size,S4,.inl ⟨hF,fun j hj=>?_,ρ',?_⟩⟩
     ·rw[aX RE]at hj
      rcases Bool.or_eq_true_iff.1 hj with hj|hj
      ·exact Vv j hj
      have:j=i:=by simpa using hj
      rw[this];exact UG
     have k2:=k1.cR (dom':=fun b=>b<σ.nx∨∃j,j<ops.size∧(listed.setIfInBounds i true).getD j false=true∧b=σ.nx+j) (fun b hb=>by
      rcases hb with(hb|⟨j,hj,Yr,rfl⟩)|rfl
      ·exact .inl hb
      ·exact .inr ⟨j,hj,by rw[aX RE,Yr];rfl,rfl⟩
      exact .inr ⟨i,Sw,by rw[aX RE];simp,rfl⟩)
     have k3:=m9 (σ:=σ) (nx0:=σ.nx) (e:=es) (N:=ops.size) (L:=fun j=>bF ws j&&listed.getD j false) (i:=i) (by simp[RZ]) RY.dst Tf ops.size (Nat.le_refl _) Sw;have k4:=k2.IB k3.symm
     rw[cN (L:=fun j=>(bF ws j&&listed.getD j false)||j==i) (L':=fun j=>bF ws j&&(listed.setIfInBounds i true).getD j false) ops.size (fun j _=>by
      rw[aX RE]
      by_cases To:j=i
      ·subst To;simp[UG]
      have:(j==i)=false:=by simpa using To
      rw[this,Bool.or_false,Bool.or_false])]at k4
     exact k4
    have SM:bq ops i=ops[i].dst:=by unfold bq;rw[ho];rfl
    have hid':¬(σ.nx+i<σ.nx∨∃j,j<ops.size∧listed.getD j false=true∧σ.nx+i=σ.nx+j):=by
     rintro(k1|⟨j,_,hj,he⟩)
     ·omega
     have:i=j:=by omega
     subst this;rw[RZ]at hj;cases hj
    unfold wpOp;simp only[ho];obtain⟨Sy,RW⟩:=RW;have doit:a6 P ops[i] (aK σ σ.nx ops es (bF ws) i) σ.nx (σ.nx+i) (es i)→ops[i].wp P a w (wpAny P .any ops Q fuel (listed.setIfInBounds i true)) Q:=by
     intro S2;refine S2.1 G _ ρ _ a w RL hid' TD Q _ fun v w' k5=>?_;refine ih _ _ _ (TE _ _ ?_) (by omega);rw[SM];exact k5
    split at RW
    ·rename_i hg
     rw[ik hg,if_pos rfl];exact .inl (doit RW)
    rename_i g want hg
    obtain⟨t,b,ht,hb,RW⟩:=RW;obtain⟨TK,W6,Xy⟩:=RY.guard i _ g want ho UG hg;have Sl:gv (lk (aK σ σ.nx ops es (fun j=>bF ws j&&listed.getD j false) ops.size).env t)=some b:=by
     rw[dD (N:=ops.size) (fun j=>bF ws j&&listed.getD j false) (t:=t) (j:=g) ht (by rw[Xy,hp g W6];rfl) RY.dst ops.size (Nat.le_refl _) (by omega)];rw[dD (N:=ops.size) (bF ws) (t:=t) (j:=g) ht Xy RY.dst i (by omega) TK]at hb;exact hb
    rw[ni RL hg ht Sl]
    by_cases SH:b=some want
    ·rw[if_pos SH]at RW;rw[if_pos (by simp[SH])];exact .inl (doit RW)
    rw[if_neg SH]at RW;rw[if_neg (by simpa using SH)];refine ih _ _ _ (TE _ _ ⟨ρ,?_⟩) (by omega);rw[RW,SM];have k5:=RL.put (dst:=ops[i].dst) (x:=.aB []) (v:=undef) (fun d hd=>by have:=Sy d hd;rw[fM]at this⊢;exact this) ⟨#[],rfl,trivial⟩;have k6:=k5.cR (dom':=fun b=>(b<σ.nx∨∃j,j<ops.size∧listed.getD j false=true∧b=σ.nx+j)∨b=σ.nx+i) (fun b hb=>Or.inl hb);unfold eK.skip;rw[St.add_plain];exact k6
   -- one that is late
   have hipd:=h5 i Sw UG RZ;obtain⟨o,d,SO,hd,Uo,SW⟩:=h7 i hipd;rw[ho]at SO;obtain rfl:=Option.some.inj SO;obtain⟨ρ,RL⟩:=h8;have SM:bq ops i=some d:=by unfold bq;rw[ho];exact hd
   have VW:=RL.uh h9;have TD:gN s (uh s (hid ops ws listed)) s.nx ops[i]:=by
    refine⟨rfl,fun x hx=>?_,fun b _=>rfl⟩
    cases x with
    |tmp t=>
     have Uw:t∈tmpsOf ops[i]:=List.mem_filterMap.2 ⟨.tmp t,by simpa using hx,rfl⟩;refine sA _ _ _ fun hh=>?_;obtain⟨j,hj,SI,Sf,TV⟩:=hh;rw[hp j ((RY.data i _ ho UG t Uw j hj TV).1 SI).2]at Sf;cases Sf
    |const v=>rfl
    |global g=>rfl
    |func f=>rfl
   have fin:∀v,b6 ρ (fun b=>b<s.nx) (aG G s.own ρ w) w (lk s.env d) v→wpAny P .any ops Q fuel (listed.setIfInBounds i true) (a.put (some d) v) w:=by
    intro v hv;refine ih _ _ _ ?_ (by omega);have Sx:aR G (fun b=>b<s.nx) ρ s (a'.put (some d) v) w:=by
     have k1:=RL.put (dst:=some d) (x:=lk s.env d) (v:=v) (fun d' ZQ=>by obtain rfl:=Option.some.inj ZQ;exact SW) hv;refine k1.IB ⟨fun t=>?_,fun _=>rfl,rfl⟩;rw[Dj]
     by_cases ht:some d=some t
     ·obtain rfl:=Option.some.inj ht;rw[if_pos rfl]
     rw[if_neg ht]
    refine⟨by simpa using h.size,S4,.inr ⟨pre,rest,pd,s,a'.put (some d) v,fun j hj SI=>?_,fun k hk=>by rw[aX RE,h2 k hk];rfl,h3,⟨h4.1,fun q hq=>by rw[aX RE,h4.2 q hq];rfl⟩,fun j hj SI Sf=>?_,h6,h7,⟨ρ,Sx⟩,?_⟩⟩
    ·rw[←h1 j hj SI,aX RE]
     have:(j==i)=false:=by
      rw[beq_eq_false_iff_ne];intro e;rw[e,UG]at SI;cases SI
     rw[this,Bool.or_false]
    ·rw[aX RE]at Sf;simp only[Bool.or_eq_false_iff]at Sf;exact h5 j hj SI Sf.1
    refine⟨h9.defers,by simp[Act.put,h9.size],fun t ht=>?_⟩;rw[mS,mS,h9.size]
    split
    ·rfl
    rename_i RT
    by_cases ZR:t=d
    ·subst ZR;have TW:a'.tmps.size≤t:=Nat.le_of_not_lt fun WB=>RT ⟨rfl,WB⟩;rw[Array.getElem?_eq_none (by rw[h9.size];exact TW),Array.getElem?_eq_none TW]
    refine h9.tmps t fun hh=>ht ?_;obtain⟨j,hj,SI,Sf,TV⟩:=hh;refine⟨j,hj,SI,?_,TV⟩;rw[aX RE,Sf,Bool.false_or,beq_eq_false_iff_ne];intro e;subst e;rw[SM]at TV;exact ZR (Option.some.inj TV).symm
   unfold wpOp;simp only[ho];unfold Ij at Uo
   split at Uo
   ·rename_i hg
    obtain⟨v,RK,hv⟩:=Uo G _ ρ _ a w VW TD;rw[ik hg,if_pos rfl];refine .inl (Oper.cQ RK ?_);rw[hd];exact fin v hv
   rename_i g want hg
   obtain⟨t,b,ht,hb,Uo⟩:=Uo;obtain⟨TK,W6,Xy⟩:=RY.guard i _ g want ho UG hg;have Sl:gv (lk (uh s (hid ops ws listed)).env t)=some b:=by
    rw[sA _ _ _ ?_]
    ·exact hb
    rintro⟨j,hj,SI,Sf,TV⟩
    by_cases hjg:j=g
    ·subst hjg;rw[hp j W6]at Sf;cases Sf
    exact RY.dst j g t hj (by omega) hjg TV ht
   rw[ni VW hg ht Sl]
   by_cases SH:b=some want
   ·rw[if_pos SH]at Uo;rw[if_pos (by simp[SH])];obtain⟨v,RK,hv⟩:=Uo G _ ρ _ a w VW TD;refine .inl (Oper.cQ RK ?_);rw[hd];exact fin v hv
   rw[if_neg SH]at Uo;rw[if_neg (by simpa using SH)];rw[hd];refine fin undef ?_;rw[Uo];exact⟨#[],rfl,trivial⟩
  have ZO:bF ws i=false:=by simpa using UG
  have Ye:iI ws i=true:=by simpa[bF]using ZO
  by_cases hx:∃q,ex=some q∧listed.getD q false=false
  ·obtain⟨q,hq,Us⟩:=hx
   rcases h.where_ with⟨hF,Vv,RL⟩|⟨pre,rest,pd,s,a',h1,h2,h3,h4,h5,h6,h7,h8,h9⟩
   ·exact WA hF q hq fuel listed a w i h Vv RL Us hi Ye hf
   rw[h4.2 q hq]at Us;cases Us
  have UN:∀q,ex=some q→listed.getD q false=true:=fun q hq=>by
   cases hl:listed.getD q false with
   |true=>rfl
   |false=>exact absurd ⟨q,hq,hl⟩ hx
  -- where it stands among those that write
  have data:∃(pre:List Nat) (sub:WL) (pdi:List Nat) (s:St) (a':Act),(∀j,j<ops.size→bF ws j=false→(listed.getD j false=true↔j∈pre))∧(∀k∈pre,listed.getD k false=true)∧Pc ops ws ex pre i pdi sub∧
    Ff P ops i pdi s (fun s'=>lQ P ops sub s' K)∧ot G s a' w∧RU (hid ops ws listed) a a'∧∀q,ex=some q→listed.getD q false=true:=by
   rcases h.where_ with⟨hF,Vv,RL⟩|⟨pre,rest,pd,s,a',h1,h2,h3,h4,h5,h6,h7,h8,h9⟩
   ·rcases rA (hcov hF) Sw Ye with k|k|⟨j,hj,ZS,_,Tx⟩
    ·cases k
    ·obtain⟨pdi,sub,Ux,SX⟩:=nL (hW hF) (hgw hF) k;obtain⟨ρ,RL⟩:=RL;obtain⟨a',TX,SN⟩:=ghost (P:=P) RY Tf (Td hF) Vv (fun j hj SI Sf=>by
      rcases SX.all j hj SI with kd|ke|⟨k0,VU,kc⟩
      ·obtain⟨o,_,_,_,Ux⟩:=SX.op;obtain⟨oj,d,_,k1,k2,_⟩:=Ux j kd;exact⟨oj,k1,k2⟩
      ·rw[UN j ke]at Sf;cases Sf
      have VU:k0=i:=by simpa using VU
      rw[VU]at kc;rw[Tj j kc]at Sf;cases Sf) ⟨ρ,RL⟩ h.down ops.size (Nat.le_refl _)
     refine⟨[],sub,pdi,tS σ ops es ws,a',fun j hj SI=>?_,fun k hk=>by(cases hk),SX,Ux,?_,SN,UN⟩
     ·constructor
      ·intro k;rw[Vv j k]at SI;cases SI
      intro k;cases k
     obtain⟨ρ',k1⟩:=TX;rw[kY (fun j hj _=>by simp[hj])]at k1
     have k2:=k1.cR (dom':=fun b=>b<σ.nx+ops.size) (fun b hb=>by rcases hb with hb|⟨j,hj,_,rfl⟩<;>omega)
     exact⟨ρ',k2.IB ⟨fun _=>rfl,fun _=>rfl,rfl⟩⟩
    exfalso
    have k2:=Vv j (Tj j Tx)
    simp[bF,ZS]at k2
   rcases rA h4.1 Sw Ye with k|k|⟨j,hj,ZS,YO,Tx⟩
   ·exfalso;rw[h2 i k]at RZ;cases RZ
   ·obtain⟨pdi,sub,Ux,SX⟩:=nL h6 h3 k;exact⟨pre,sub,pdi,s,a',h1,h2,SX,Ux,h8,h9,h4.2⟩
   exfalso
   exact YO ((h1 j hj (by simp[bF,ZS])).1 (Tj j Tx))
  obtain⟨pre,sub,pdi,s,a',h1,TS,SX,h6,h8,h9,UN⟩:=data;exact L6 hP h.size h.down Sw hp ZO h1 TS SX h6 h8 h9 UN fun a w RW=>ih _ _ _ RW (by omega)
def I2:List (Nat×V)→Nat→List (Nat×V)
 |[],_=>[]
 |(t,v)::r,d=>if t=d then I2 r d else(t,v)::I2 r d
def PU (d id:Nat)(s:St):St:={s with env:=I2 s.env d,own:=del s.own id}
theorem FR (d t:Nat):∀l:List (Nat×V),lk (I2 l d) t=if t=d then .unk else lk l t
 |[]=>by simp[I2,lk]
 |(t',v)::r=>by
  have ih:=FR d t r;simp only[I2]
  by_cases h:t'=d
  ·rw[if_pos h,ih]
   by_cases h2:t=d
   ·rw[if_pos h2,if_pos h2]
   rw[if_neg h2,if_neg h2,lk,if_neg (fun e=>h2 (e.trans h))]
  rw[if_neg h];simp only[lk]
  by_cases h2:t=t'
  ·subst h2;rw[if_pos rfl,if_neg h,if_pos rfl]
  rw[if_neg h2,if_neg h2,ih]
structure QW (ops:Array Oper) (q d:Nat) (t1 t2:WL):Prop where
 g1:OX ops t1
 c1:jY ops t1 [] t1=true
 w1:lW ops t1 (some q) [] t1=true
 g2:OX ops t2
 c2:C4 ops t2 q t2=true
 w2:lW ops t2 none [] t2=true
 qs:q<ops.size
 qR:bF t1 q=true
 qd:bq ops q=some d
 same:∀j,j<ops.size→iI t2 j=(iI t1 j||j==q)
 rd:∀j o,bF t2 j=true→ops[j]? =some o→d∉tmpsOf o
 al:∃o,ops[q]? =some o∧o.guard=none∧jE o.op=true
theorem JF {ops:Array Oper}{q d:Nat}{t1 t2:WL}(h:OV ops (.opt q d t1 t2)=true):QW ops q d t1 t2:=by
 simp only[OV,Bool.and_eq_true]at h;obtain⟨⟨⟨⟨⟨⟨⟨⟨⟨⟨⟨h1,h2⟩,h3⟩,h4⟩,h5⟩,h6⟩,h7⟩,h8⟩,h9⟩,TW⟩,WB⟩,U2⟩:=h;refine⟨sH h1,h2,h3,sH h4,h5,h6,of_decide_eq_true h7,h8,by simpa using h9,fun j hj=>?_,fun j o hj ho=>?_,?_⟩
 ·have:=List.all_eq_true.1 TW j (by simpa using hj)
  exact beq_iff_eq.1 this
 ·have RE:=(Array.getElem?_eq_some_iff.1 ho).1
  have:=List.all_eq_true.1 WB j (by simpa using RE)
  rw[hj,ho]at this
  simpa using this
 cases ho:ops[q]? with
 |none=>rw[ho]at U2;cases U2
 |some o=>
  rw[ho]at U2;simp only[Bool.and_eq_true,Option.isNone_iff_eq_none]at U2;exact⟨o,rfl,U2.1,U2.2⟩
theorem xU {q d:Nat}{t1 t2:WL}(hk:QW ops q d t1 t2)(Tf:∀j,∀b∈(es j).fz,b<σ.nx)(hqfz:(es q).fz=[])
  (Td:∀(i:Nat) o,bF t1 i=true→ops[i]? =some o→k9 P ops σ.nx i o (aK σ σ.nx ops es (bF t1) i) (es i))
  (hW1:lQ P ops t1 (tS σ ops es t1) K) (hW2:lQ P ops t2 (PU d (σ.nx+q) (tS σ ops es t1)) K)
  {G:Ctx} {Q:Exit→Act→World→Prop} (hQ:∀s a w,K s→ot G s a w→Q .normal a w) (hP:∀ch a a' w,Q (.panic ch) a w→Q (.panic ch) a' w):
  ∀(fuel:Nat) (listed:Array Bool) (a:Act) (w:World),ou P G ops t1 (some q) True σ es K listed a w→iB ops listed≤fuel→wpAny P .any ops Q fuel listed a w:=by
 have hR2:∀j,j<ops.size→bF t1 j=true→j≠q→bF t2 j=true:=fun j hj h1 hq=>by
  have:(j==q)=false:=by simpa using hq
  simp only[bF,hk.same j hj,this,Bool.or_false];exact h1
 have hR1:∀j,j<ops.size→bF t2 j=true→bF t1 j=true∧j≠q:=fun j hj h2=>by
  simp only[bF,hk.same j hj,Bool.not_eq_true',Bool.or_eq_false_iff]at h2;exact⟨by simp[bF,h2.1],by simpa using h2.2⟩
 have YQ:bF t2 q=false:=by simp[bF,hk.same q hk.qs]
 -- the runs with and without the new variable
 have Uf:∀k,k≤ops.size→(k≤q→aK σ σ.nx ops es (bF t1) k=aK σ σ.nx ops es (bF t2) k)∧(q<k→yE (aK σ σ.nx ops es (bF t1) k) ((aK σ σ.nx ops es (bF t2) k).add (some d) (σ.nx+q) (es q))):=fun k Yb=>by
  refine⟨fun hkq=>cN k fun j hj=>?_,fun hqk=>?_⟩
  ·have h1:j<ops.size:=by omega
   have h2:(j==q)=false:=by rw[beq_eq_false_iff_ne];omega
   simp only[bF,hk.same j h1,h2,Bool.or_false]
  have h3:=m9 (σ:=σ) (nx0:=σ.nx) (e:=es) (N:=ops.size) (L:=bF t2) (i:=q) YQ hk.g1.dst Tf k Yb hqk;rw[hk.qd]at h3
  rw[cN (L:=bF t1) (L':=fun j=>bF t2 j||j==q) k fun j hj=>?_]
  ·exact h3
  have h1:j<ops.size:=by omega
  by_cases hjq:j=q
  ·subst hjq;rw[hk.qR];simp
  have h2:(j==q)=false:=by simpa using hjq
  simp only[bF,hk.same j h1,h2,Bool.or_false]
 have hlk:∀k,k≤ops.size→∀t,t≠d→lk (aK σ σ.nx ops es (bF t1) k).env t=lk (aK σ σ.nx ops es (bF t2) k).env t:=fun k Yb t ht=>by
  by_cases hkq:k≤q
  ·rw[(Uf k Yb).1 hkq]
  rw[((Uf k Yb).2 (by omega)).env t,jR,if_neg (fun e=>ht (Option.some.inj e).symm)]
 have TD:∀j o,bF t2 j=true→ops[j]? =some o→∀Z,gN (aK σ σ.nx ops es (bF t2) j) Z σ.nx o→gN (aK σ σ.nx ops es (bF t1) j) Z σ.nx o:=fun j o hj ho Z hZ=>by
  have hjs:=(Array.getElem?_eq_some_iff.1 ho).1;refine⟨by rw[hZ.n,fM,fM],fun x hx=>?_,fun b hb=>by rw[hZ.own b hb,iU _ j b hb,iU _ j b hb]⟩;rw[hZ.ev x hx]
  cases x with
  |tmp t=>
   have Uw:t∈tmpsOf o:=List.mem_filterMap.2 ⟨.tmp t,by simpa using hx,rfl⟩;exact(hlk j (Nat.le_of_lt hjs) t (fun e=>hk.rd j o hj ho (e▸Uw))).symm
  |const v=>rfl
  |global g=>rfl
  |func f=>rfl
 have S2:∀j o e,bF t2 j=true→ops[j]? =some o→a6 P o (aK σ σ.nx ops es (bF t1) j) σ.nx (σ.nx+j) e→a6 P o (aK σ σ.nx ops es (bF t2) j) σ.nx (σ.nx+j) e:=fun j o e hj ho h=>
  ⟨fun G dom ρ Z a w hs hd hZ=>h.1 G dom ρ Z a w hs hd (TD j o hj ho Z hZ),fun hl=>⟨(h.2 hl).1,(h.2 hl).2.1,fun G dom ρ Z a w hs hZ=>(h.2 hl).2.2 G dom ρ Z a w hs (TD j o hj ho Z hZ)⟩⟩
 have hstep2:∀(i:Nat) o,bF t2 i=true→ops[i]? =some o→k9 P ops σ.nx i o (aK σ σ.nx ops es (bF t2) i) (es i):=fun i o hi ho=>by
  have Sw:=(Array.getElem?_eq_some_iff.1 ho).1;obtain⟨hd,hs⟩:=Td i o (hR1 i Sw hi).1 ho;refine⟨fun t ht=>by have:=hd t ht;rw[fM]at this⊢;exact this,?_⟩
  cases hg:o.guard with
  |none=>rw[hg]at hs;exact S2 i o _ hi ho hs
  |some gw=>
   obtain⟨g,want⟩:=gw;rw[hg]at hs;obtain⟨t,b,ht,hb,hs⟩:=hs;obtain⟨TK,W6,Xy⟩:=hk.g2.guard i o g want ho hi hg;have ZR:t≠d:=fun e=>by
    subst e;exact hk.g2.dst g q t (by omega) hk.qs (hR1 g (by omega) Xy).2 ht hk.qd
   refine⟨t,b,ht,by rw[←hlk i (Nat.le_of_lt Sw) t ZR];exact hb,?_⟩
   by_cases SH:b=some want
   ·rw[if_pos SH]at hs⊢;exact S2 i o _ hi ho hs
   rw[if_neg SH]at hs⊢;exact hs
 refine kJ (ex:=some q) (F:=True) hk.g1 (fun _=>hk.c1) (fun _=>hk.w1) Tf (fun _=>Td) (fun _=>hW1) (fun _ q' hq' fuel listed a w i h Vv RL Us hi Ye hf=>?_) hQ hP;obtain rfl:=Option.some.inj hq';obtain⟨hp,Sw,hu⟩:=gT hi;have RE:i<listed.size:=by rw[h.size];exact Sw
 have hiq:i≠q:=fun e=>by subst e;have:=hk.qR;rw[bF,Ye]at this;cases this
 have YR:iI t2 i=true:=by rw[hk.same i Sw,Ye];rfl
 have WC:∀j,listed.getD j false=true→bF t2 j=true:=fun j hj=>by
  have hjs:j<ops.size:=by
   rw[←h.size];refine Nat.lt_of_not_le fun hle=>?_
   simp[Array.getD,Nat.not_lt.2 hle]at hj
  refine hR2 j hjs (Vv j hj) fun e=>?_;subst e;rw[Us]at hj;cases hj
 have Tj:∀j,e9 ops ops.size i j=true→listed.getD j false=true:=fun j hj=>fJ h.down _ i j hp hj;have VX:rC t2 i=true:=by
  have h1:=List.all_eq_true.1 hk.c2 i (by simpa using Sw);rw[YR]at h1;have h2:(i==q)=false:=by simpa using hiq
  rw[h2]at h1;simp only[Bool.not_true,Bool.false_or,Bool.or_eq_true]at h1
  rcases h1 with h1|h1
  ·exact h1
  obtain⟨j,_,h3⟩:=List.any_eq_true.1 h1;simp only[Bool.and_eq_true]at h3;have h4:=WC j (Tj j h3.2)
  simp[bF,h3.1]at h4
 obtain⟨pdi,sub,Ux,SX⟩:=nL hW2 hk.w2 VX;have hsim2:uU G (fun b=>b<σ.nx∨∃j,j<ops.size∧listed.getD j false=true∧b=σ.nx+j) (aK σ σ.nx ops es (fun j=>bF t2 j&&listed.getD j false) ops.size) a w:=by
  rw[cN (L:=fun j=>bF t2 j&&listed.getD j false) (L':=fun j=>bF t1 j&&listed.getD j false) ops.size fun j hj=>?_]
  ·exact RL
  cases hl:listed.getD j false with
  |false=>simp
  |true=>rw[WC j hl,Vv j hl]
 obtain⟨a',TX,SN⟩:=ghost (P:=P) hk.g2 Tf hstep2 WC (fun j hj SI Sf=>by
  rcases SX.all j hj SI with kd|ke|⟨k0,VU,kc⟩
  ·obtain⟨o,_,_,_,Ux⟩:=SX.op;obtain⟨oj,d',_,k1,k2,_⟩:=Ux j kd;exact⟨oj,k1,k2⟩
  ·cases ke
  have VU:k0=i:=by simpa using VU
  rw[VU]at kc;rw[Tj j kc]at Sf;cases Sf) hsim2 h.down ops.size (Nat.le_refl _)
 obtain⟨ρ',k1⟩:=TX;rw[kY (ws:=t2) (fun j hj _=>by simp[hj])]at k1
 have k2:=k1.cR (dom':=fun b=>b<σ.nx+ops.size) (fun b hb=>by rcases hb with hb|⟨j,hj,_,rfl⟩<;>omega)
 have hnone:lo (aK σ σ.nx ops es (bF t2) ops.size).own (σ.nx+q)=none:=by
  cases hB:lo (aK σ σ.nx ops es (bF t2) ops.size).own (σ.nx+q)with
  |none=>rfl
  |some B=>
   exfalso
   rcases(k1.own _ _ hB).1 with hd|⟨j,_,Sf,hd⟩
   ·omega
   have:j=q:=by omega
   subst this;rw[Us]at Sf;cases Sf
 -- the state without the new variable
 have halk:=(Uf ops.size (Nat.le_refl _)).2 hk.qs;have k3:aR G (fun b=>b<σ.nx+ops.size) ρ' (uh (aK σ σ.nx ops es (bF t2) ops.size) (fun t=>t=d)) a' w:=k2.uh (RU.refl _ _);have k4:ot G (PU d (σ.nx+q) (tS σ ops es t1)) a' w:=by
  refine⟨ρ',k3.IB ⟨fun t=>?_,fun b=>?_,?_⟩⟩
  ·show _=lk (I2 (tS σ ops es t1).env d) t;rw[FR]
   by_cases ht:t=d
   ·rw[if_pos ht,z8 _ (fun t=>t=d) _ ht]
   rw[if_neg ht,sA _ (fun t=>t=d) _ ht];exact(hlk ops.size (Nat.le_refl _) t ht).symm
  ·show _=lo (del (tS σ ops es t1).own (σ.nx+q)) b;rw[j5];have h5:=halk.own b;have h6:lo (tS σ ops es t1).own b=lo (aK σ σ.nx ops es (bF t1) ops.size).own b:=rfl;rw[h6,h5,pC,hqfz]
   by_cases hb:b=σ.nx+q
   ·rw[if_pos hb,hb];exact hnone
   rw[if_neg hb];show lo (aK σ σ.nx ops es (bF t2) ops.size).own b=_;have Vp:gk [] b=id:=by funext v;simp[gk]
   cases(es q).vX with
   |none=>simp only[Vp,Option.map_id,id]
   |some B=>simp only[Vp,Option.map_id,id,if_neg hb]
  show(aK σ σ.nx ops es (bF t2) ops.size).n=(aK σ σ.nx ops es (bF t1) ops.size).n
  rw[fM,fM]
 refine L6 (ws:=t2) (σ:=σ) (es:=es) (F:=False) (ex:=none) hP h.size h.down Sw hp (by simp[bF,YR]) (pre:=[]) (fun j hj SI=>?_) (fun k hk=>by cases hk) SX Ux k4 SN (fun q hq=>by cases hq) fun a w RW=>?_
 ·constructor
  ·intro k;rw[WC j k]at SI;cases SI
  intro k;cases k
 refine kJ (ex:=none) (F:=False) hk.g2 (fun h=>h.elim) (fun h=>h.elim) Tf (fun h=>h.elim) (fun h=>h.elim) (fun h=>h.elim) hQ hP fuel _ a w RW ?_
 have:=oG h.size Sw hu
 omega
end
end Go.Eng
