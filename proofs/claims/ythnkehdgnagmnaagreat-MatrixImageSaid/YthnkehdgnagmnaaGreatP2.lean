/-
  MatrixImage: for every input the law returns true, and each argument reads afterwards as it read before. No condition beyond the cells of the given rows.
  (Text 2 of 9; made by a program out of smaller texts.)
-/
import Derived.Test.YthnkehdgnagmnaaGreatP1
set_option linter.unusedSimpArgs false
set_option linter.unusedVariables false
set_option maxHeartbeats 16000000
set_option maxRecDepth 10000
open Nat renaming reduceAdd→J1,reduceMul→J2,reduceSub→J3,reduceEqDiff→J4,reduceLT→J5,reduceLeDiff→J6,reduceBEq→J7,reduceDiv→J8,reduceMod→J9,reducePow→J0
open Int renaming reduceToNat→K1,reduceLE→K2,reduceLT→K3,reduceEq→K4,reducePow→K5,reduceSub→K6,reduceNeg→K7,natCast_add→X2,natCast_one→X3,natCast_zero→X4
open List renaming getD_cons_zero→X0,getD_cons_succ→X1,length_take→X5,length_append→X6,getD_eq_getElem?_getD→X7,getElem?_eq_getElem→X8
namespace Go.Eng
open Go
def mC (P:Program)(o:Oper)(s:St)(K:St→Prop):Prop:=
 ∀G a w,oL G s a w→∀Q next,(∀s' a' w',K s'→oL G s' a' w'→next a' w')→o.wp P a w next Q
theorem IW (l:List (Nat×fA)):dF l []=l:=by
 induction l with
 |nil=>rfl
 |cons x l ih=>obtain⟨b,B⟩:=x;simp[dF,ih]
theorem xL (l:List (Nat×fA))(ids:List Nat):uP l ids=dF l ids:=by
 cases ids with
 |nil=>rw[IW];rfl
 |cons x r=>rfl
theorem dH {w:World}{g:Nat}{cur:Array Value}{e:TypeId}{f:Nat×Nat}(h:w.heap[g]? =some (.cells cur e f)):cd w g=cur.size:=by simp[cd,h]
theorem aR.rewrite {G:Ctx}{dom:Nat→Prop}{ρ:Nat→Loc}{s:St}{a:Act}{w:World}(h:aR G dom ρ s a w){b g o:Nat}{B:Bk}(hl:lo s.own b=some ⟨B,true⟩)(Rt:(ρ b).addr=some (g,o))
  {cur cur':Array Value} {e:TypeId} (hg:w.heap[g]? =some (.cells cur e (0,0))) (Sx:cur'.size=cur.size) {id:Nat} (hid:¬dom id) (B':Bk) (o1:Nat)
  (Rx:∀j c,B'.cell j=some c→∃u,cur'[o1+j]? =some u∧(match B' with|.var _=>aA ρ dom (aE G s.own ρ w) w c u|.wins .. =>aA ρ dom (aE G s.own ρ w) w c u|_=>aO (aE G s.own ρ w) w c u)):
  aR G (fun b=>dom b∨b=id) (aZ ρ id ⟨some (g,o1),B'.len⟩) {s with own:=dZ (del s.own b) id ⟨B',true⟩} a (w.setRow g cur'):=by
 have hs:=ig.aZ ρ ⟨some (g,o1),B'.len⟩ hid;have RE:∀b B',lo s.own b=some B'→b≠id:=fun b B' hl e=>hid (e▸(h.own b B' hl).1);obtain⟨_,_,_,Wk⟩:=h.own b _ hl;obtain⟨Uj,hgf,UW⟩:=Wk g o Rt;have S3:∀g',g'≠g→(w.setRow g cur').heap[g']? =w.heap[g']? :=fun g' hn=>setRow_other w g g' cur' hn;have RF:Ext (aE G s.own ρ w) (aE G (dZ (del s.own b) id ⟨B',true⟩) (aZ ρ id ⟨some (g,o1),B'.len⟩) (w.setRow g cur')) w (w.setRow g cur'):=by
  refine⟨fun g' UI=>?_,fun g'=>?_⟩
  ·have VE:g'≠g:=fun e=>by subst e;exact UI.2.2 b _ hl rfl o Rt
   refine⟨⟨by simpa using UI.1,UI.2.1,fun b2 B2 Rv RN o2=>?_⟩,S3 g' VE⟩;rw[bX]at Rv
   by_cases RJ:b2=id
   ·subst RJ;rw[lZ];intro he
    have:g=g':=by simpa using congrArg (Option.map Prod.fst) he
    exact VE this.symm
   rw[if_neg RJ,kj]at Rv;rw[aU _ _ RJ]
   split at Rv
   ·cases Rv
   exact UI.2.2 b2 B2 Rv RN o2
  by_cases VE:g'=g
  ·subst VE;rw[dH hg,dH (setRow_heap w g' cur cur' e (0,0) hg),Sx];exact Nat.le_refl _
  rw[cL (S3 g' VE)];exact Nat.le_refl _
 refine h.rR RF hs ?_ ?_ rfl rfl rfl (by simp) (fun k hk hm=>S3 k (fun e=>?_))
 ·intro b2 B2 Rv;rw[bX]at Rv
  by_cases RJ:b2=id
  ·subst RJ;rw[if_pos rfl]at Rv;obtain rfl:=Option.some.inj Rv;rw[lZ];refine⟨.inr rfl,rfl,?_,fun g' o' ha=>?_⟩
   ·unfold aL;refine⟨cur',e,setRow_heap w g cur cur' e (0,0) hg,fun j c hj=>?_⟩;obtain⟨u,hu,hr⟩:=Rx j c hj;refine⟨u,hu,?_⟩
    cases B' with
    |var cs=>exact aA.ext RF hs _ _ hr
    |ints e k xs=>exact aO.ext RF _ _ hr
    |rows e wd n f=>exact aO.ext RF _ _ hr
    |wins e b2 n g=>exact aA.ext RF hs _ _ hr
   have:g=g':=by simpa using congrArg (Option.map Prod.fst) ha
   subst this;exact⟨by simpa using Uj,hgf,UW⟩
  rw[if_neg RJ,kj]at Rv;rw[aU _ _ RJ]
  split at Rv
  ·cases Rv
  rename_i TP
  obtain⟨h1,h2,h3,h4⟩:=h.own b2 B2 Rv;refine⟨.inl h1,h2,aL.ext RF hs _ _ (fun g' o' ha=>S3 g' (fun e=>?_)) h3,fun g' o' ha=>by simpa using h4 g' o' ha⟩;subst e;exact h.inj b _ b2 B2 hl Rv (fun e=>TP e.symm) rfl g' o o' Rt ha
 ·intro b2 B2 b3 B3 Rv R7 SG RN g' o2 o3 ha;rw[bX]at Rv R7
  by_cases RJ:b2=id
  ·subst RJ;rw[if_neg (fun e=>SG e.symm),kj]at R7;rw[lZ]at ha;rw[aU _ _ (fun e=>SG e.symm)];have hgg:g=g':=by simpa using congrArg (Option.map Prod.fst) ha
   subst hgg
   split at R7
   ·cases R7
   rename_i TP
   exact h.inj b _ b3 B3 hl R7 (fun e=>TP e.symm) rfl g o o3 Rt
  rw[if_neg RJ,kj]at Rv;rw[aU _ _ RJ]at ha
  split at Rv
  ·cases Rv
  rename_i TP
  by_cases Su:b3=id
  ·subst Su;rw[lZ];intro R8;have hgg:g=g':=by simpa using congrArg (Option.map Prod.fst) R8
   subst hgg;exact h.inj b2 B2 b _ Rv hl TP RN g o2 o ha Rt
  rw[if_neg Su,kj]at R7;rw[aU _ _ Su]
  split at R7
  ·cases R7
  exact h.inj b2 B2 b3 B3 Rv R7 SG RN g' o2 o3 ha
 subst e
 rcases UW with UW|UW
 ·omega
 exact hm UW
theorem aR.write {G:Ctx}{dom:Nat→Prop}{ρ:Nat→Loc}{s:St}{a:Act}{w:World}(h:aR G dom ρ s a w){b g o:Nat}{B:Bk}(hl:lo s.own b=some ⟨B,true⟩)(Rt:(ρ b).addr=some (g,o))
  {cur cur':Array Value} {e:TypeId} (hg:w.heap[g]? =some (.cells cur e (0,0))) (Sx:cur'.size=cur.size) (B':Bk) (hlen:B'.len=B.len)
  (Rx:∀j c,B'.cell j=some c→∃u,cur'[o+j]? =some u∧(match B' with|.var _=>aA ρ dom (aE G s.own ρ w) w c u|.wins .. =>aA ρ dom (aE G s.own ρ w) w c u|_=>aO (aE G s.own ρ w) w c u)):
  aR G dom ρ {s with own:=dZ s.own b ⟨B',true⟩} a (w.setRow g cur'):=by
 have hs:ig dom dom ρ ρ:=⟨fun _ h=>h,fun _ _=>rfl⟩;obtain⟨hdomb,WN,_,Wk⟩:=h.own b _ hl;obtain⟨Uj,hgf,UW⟩:=Wk g o Rt;have S3:∀g',g'≠g→(w.setRow g cur').heap[g']? =w.heap[g']? :=fun g' hn=>setRow_other w g g' cur' hn;have RF:Ext (aE G s.own ρ w) (aE G (dZ s.own b ⟨B',true⟩) ρ (w.setRow g cur')) w (w.setRow g cur'):=by
  refine⟨fun g' UI=>?_,fun g'=>?_⟩
  ·have VE:g'≠g:=fun e=>by subst e;exact UI.2.2 b _ hl rfl o Rt
   refine⟨⟨by simpa using UI.1,UI.2.1,fun b2 B2 Rv RN o2=>?_⟩,S3 g' VE⟩;rw[bX]at Rv
   by_cases RJ:b2=b
   ·subst RJ;intro he;rw[Rt]at he
    have:g=g':=by simpa using congrArg (Option.map Prod.fst) he
    exact VE this.symm
   rw[if_neg RJ]at Rv;exact UI.2.2 b2 B2 Rv RN o2
  by_cases VE:g'=g
  ·subst VE;rw[dH hg,dH (setRow_heap w g' cur cur' e (0,0) hg),Sx];exact Nat.le_refl _
  rw[cL (S3 g' VE)];exact Nat.le_refl _
 refine h.rR RF hs ?_ ?_ rfl rfl rfl (by simp) (fun k hk hm=>S3 k (fun e=>?_))
 ·intro b2 B2 Rv;rw[bX]at Rv
  by_cases RJ:b2=b
  ·subst RJ;rw[if_pos rfl]at Rv;obtain rfl:=Option.some.inj Rv;refine⟨hdomb,by rw[WN];exact hlen.symm,?_,fun g' o' ha=>by simpa using Wk g' o' ha⟩;unfold aL;rw[Rt];refine⟨cur',e,setRow_heap w g cur cur' e (0,0) hg,fun j c hj=>?_⟩;obtain⟨u,hu,hr⟩:=Rx j c hj;refine⟨u,hu,?_⟩
   cases B' with
   |var cs=>exact aA.ext RF hs _ _ hr
   |ints e k xs=>exact aO.ext RF _ _ hr
   |rows e wd n f=>exact aO.ext RF _ _ hr
   |wins e b2 n g=>exact aA.ext RF hs _ _ hr
  rw[if_neg RJ]at Rv;obtain⟨h1,h2,h3,h4⟩:=h.own b2 B2 Rv;refine⟨h1,h2,aL.ext RF hs _ _ (fun g' o' ha=>S3 g' (fun e=>?_)) h3,fun g' o' ha=>by simpa using h4 g' o' ha⟩;subst e;exact h.inj b _ b2 B2 hl Rv (fun e=>RJ e.symm) rfl g' o o' Rt ha
 ·intro b2 B2 b3 B3 Rv R7 SG RN g' o2 o3 ha;rw[bX]at Rv R7
  by_cases RJ:b2=b
  ·subst RJ;rw[if_neg (fun e=>SG e.symm)]at R7;exact h.inj b2 _ b3 B3 hl R7 SG rfl g' o2 o3 ha
  rw[if_neg RJ]at Rv
  by_cases Su:b3=b
  ·subst Su;exact h.inj b2 B2 b3 _ Rv hl SG RN g' o2 o3 ha
  rw[if_neg Su]at R7;exact h.inj b2 B2 b3 B3 Rv R7 SG RN g' o2 o3 ha
 subst e
 rcases UW with UW|UW
 ·omega
 exact hm UW
def a8 (f:Nat→Nat→C)(i off:Nat)(l:List C):Nat→Nat→C:=
 fun i' j'=>if i'=i then(if off≤j' then(if j'<off+l.length then l.getD (j'-off) .any else f i' j')else f i' j')else f i' j'
def Po:C→Bool
 |.own _ _ _ _=>true
 |.nil=>true
 |.ints _ _=>true
 |.rows _ _ _=>true
 |_=>false
def rF (b2:Nat):C→Nat
 |.own b _ _ _=>b
 |_=>b2
def oJ (b b3:Nat):V→V
 |.one (.win b' x o l)=>if b'=b then .one (.win b' b3 o l)else .one (.win b' x o l)
 |v=>v
def mR (b b3:Nat):List (Nat×V)→List (Nat×V)
 |[]=>[]
 |p::r=>(p.1,oJ b b3 p.2)::mR b b3 r
theorem AF (b b3:Nat):∀(l:List (Nat×V)) (t:Nat),lk (mR b b3 l) t=oJ b b3 (lk l t)
 |[],_=>rfl
 |(t',v)::r,t=>by
  show(if t=t' then oJ b b3 v else lk (mR b b3 r) t)=oJ b b3 (if t=t' then v else lk r t)
  split
  ·rfl
  exact AF b b3 r t
theorem BE {ρ:Nat→Loc}{dom ok:Nat→Prop}{w:World}{b b3:Nat}(hd:dom b3){x:V}{v:Value}(h:bY ρ dom ok w x v):bY ρ dom ok w (oJ b b3 x) v:=by
 unfold oJ
 split
 ·split
  ·exact⟨hd,h.2⟩
  exact h
 exact h
theorem aR.Pf {G:Ctx}{dom:Nat→Prop}{ρ:Nat→Loc}{s:St}{a:Act}{w:World}(h:aR G dom ρ s a w)(b b3:Nat)(hd:dom b3):aR G dom ρ {s with env:=mR b b3 s.env} a w:=
 {h with env:=fun t=>by rw[AF];exact BE hd (h.env t)}
def uv (T:fB)(s:St)(t:TypeId)(x y:Operand)(K:St→Prop):Prop:=
 match T t with
 |some E=>match s.ev x with
  |.one (.ptr b off)=>match lo s.own b with
   |some ⟨.var cs,rw⟩=>rw=true∧0<E.size∧(s.ev y).ob=true∧(cellsOf (s.ev y)).length=E.size∧off+E.size≤cs.length∧
     K {s with own:=dZ s.own b ⟨.var (lU cs off (cellsOf (s.ev y))),true⟩}
   |_=>False
  |.one (.eptr b wd i off)=>match lo s.own b with
   |some ⟨.ints e k xs,rw⟩=>match s.ev y with
    |.one (.int k' n)=>rw=true∧k'=k∧wd=1∧E.size=1∧off=0∧K {s with own:=dZ s.own b ⟨.ints e k (xs.set i n),true⟩}
    |_=>False
   |some ⟨.rows e w n f,rw⟩=>rw=true∧wd=w∧0<E.size∧(s.ev y).ob=true∧(cellsOf (s.ev y)).length=E.size∧off+E.size≤wd∧(kv (s.ev y)).contains b=false∧
     K {s with own:=dZ (uP s.own (kv (s.ev y))) b ⟨.rows e w n (a8 f i off ((cellsOf (s.ev y)).map (jZ s.own s.nx))),true⟩}
   |some ⟨.wins e b2 n g,rw⟩=>match s.ev y with
    |.one c=>rw=true∧wd=1∧E.size=1∧off=0∧Po c=true∧K {s with env:=if rF b2 c=b2 then s.env else mR b (rF b2 c) s.env,own:=dZ s.own b ⟨.wins e (rF b2 c) n (fun j=>if j=i then c else g j),true⟩}
    |_=>False
   |_=>False
  |_=>False
 |none=>False
theorem ja {P:Program}{w:World}{t:TypeId}{i:TypeInfo}(hi:P.info? t=some i){g o:Nat}{cur:Array Value}{e:TypeId}(hg:w.heap[g]? =some (.cells cur e (0,0)))(v:Value)(hv:v.cells.size=i.size)
  (R5:o+i.size≤cur.size) (h1:∀u∈v.cells.toList,u.oneCell'=true):
  (storeVar t ⟨g,o,none⟩ v).run P w= .ok () (w.setRow g (cur.toList.take o++v.cells.toList++cur.toList.drop (o+i.size)).toArray):=by
 have RM:=run_storeCells_at P g o e v.cells.toList 0 cur w hg (by simp;omega) h1;simp only[Nat.add_zero,Array.length_toList,hv]at RM;simp only[storeVar,Sem.run_bind,run_sizeOf hi,Result.andThen_ok,hv,ne_eq,not_true_eq_false,↓reduceIte,Sem.run_ite,Sem.run_pure,RM]
theorem ir (cur:List Value)(o:Nat)(us:List Value)(h:o+us.length≤cur.length)(j:Nat):
  (cur.take o++us++cur.drop (o+us.length))[j]? =if o≤j∧j<o+us.length then us[j-o]? else cur[j]? :=by
 rw[List.append_assoc,List.getElem?_append,List.getElem?_append,X5]
 by_cases h1:j<o
 ·rw[if_pos (by omega),if_neg (by omega),List.getElem?_take,if_pos h1]
 rw[if_neg (by omega)]
 by_cases h2:j<o+us.length
 ·rw[if_pos (by omega),if_pos (by omega)];congr 1;omega
 rw[if_neg (by omega),if_neg (by omega),List.getElem?_drop];congr 1;omega
theorem bI.sS {ρ:Nat→Loc}{dom ok:Nat→Prop}{w:World}:∀{cs:List C} {vs:List Value},bI ρ dom ok w cs vs→∀u∈vs,u.oneCell'=true
 |[],[],_,u,hu=>by simp at hu
 |_::cs,_::vs,h,u,hu=>by
  rcases List.mem_cons.1 hu with rfl|hu
  ·exact(aA.plain h.1).1
  exact bI.sS h.2 u hu
 |[],_::_,h,_,_=>h.elim
 |_::_,[],h,_,_=>h.elim
section
variable {P:Program}{T:fB}(hT:eH P T){o:Oper}{s:St}{K:St→Prop}
include hT in
theorem Nx {t:TypeId}{x y:Operand}(ho:o.op= .store t x y)(hd:o.dst=none)(h:uv T s t x y K):mC P o s K:=by
 intro G a w RC Q next hk;obtain⟨ρ,hs⟩:=RC;have Wl:=hs.ev x;have T1:=hs.ev y;have RB:∀(g off:Nat) (w':World),a.eval x= .pointer (some ⟨g,off,none⟩)→(storeVar t ⟨g,off,none⟩ (a.eval y)).run P w= .ok () w'→next a w'→o.wp P a w next Q:=by
  intro g off w' he hr hn;unfold Oper.wp execOp;rw[ho];simp only[Instr.storeAt,he,Instr.sureAddr,Sem.run_bind,Sem.run_pure,Result.andThen_ok,hr,Oper.upon_skip,hd];exact hn
 unfold uv at h
 cases RL:T t with
 |none=>rw[RL]at h;exact h.elim
 |some E=>
  rw[RL]at h;simp only at h;obtain⟨i,d,z,hi,hu,_,Wm,Sx,_⟩:=bD hT RL
  split at h
  ·rename_i b off hx
   rw[hx]at Wl;obtain⟨_,g,o',Rt,RI⟩:=Wl
   split at h
   ·rename_i cs rw_ hl
    obtain⟨rfl,RR,Xg,hlen,hle,hK⟩:=h;obtain⟨_,_,Rx,_⟩:=hs.own b _ hl;unfold aL at Rx;rw[Rt]at Rx;obtain⟨cur,e,hg,hc⟩:=Rx;simp only at hc;have RV:=bY.cells T1 Xg;have R1:(a.eval y).cells.size=i.size:=by have:=bI.length RV;simp only[Array.length_toList]at this;omega
    have R5:o'+off+i.size≤cur.size:=by
     obtain⟨u,RP,_⟩:=hc (off+i.size-1) cs[off+i.size-1] (by simp only[Bk.cell];exact X8 (by omega))
     have:=(Array.getElem?_eq_some_iff.1 RP).1
     omega
    refine RB g _ _ RI (ja hi hg _ R1 R5 (bI.sS RV)) (hk _ _ _ hK ⟨ρ,?_⟩);have T6:(a.eval y).cells.toList.length=i.size:=by simpa using R1
    refine hs.write hl Rt hg (by simp[R1];omega) (.var (lU cs off (cellsOf (s.ev y)))) rfl fun j c hj=>?_;simp only[Bk.cell]at hj;rw[s8 _ _ _ (by omega)]at hj;have Tg:=ir cur.toList (o'+off) (a.eval y).cells.toList (by simp only[Array.length_toList]at T6⊢;omega) (o'+j);rw[T6]at Tg;simp only[List.getElem?_toArray,Tg]
    by_cases hm:off≤j∧j<off+(cellsOf (s.ev y)).length
    ·rw[if_pos hm]at hj;rw[if_pos (by omega),show o'+j-(o'+off)=j-off by omega];exact bI.get RV _ _ hj
    rw[if_neg hm]at hj;rw[if_neg (by omega),Array.getElem?_toList];exact hc j c hj
   exact h.elim
  ·rename_i b wd ix off hx
   rw[hx]at Wl;obtain⟨_,Tf,g,o',Rt,RI⟩:=Wl
   split at h
   ·rename_i e k xs rw_ hl
    split at h
    ·rename_i k' n hy
     obtain⟨rfl,rfl,rfl,UC,rfl,hK⟩:=h;obtain⟨_,hlenρ,Rx,_⟩:=hs.own b _ hl;unfold aL at Rx;rw[Rt]at Rx;obtain⟨cur,e',hg,hc⟩:=Rx;simp only at hc;rw[hlenρ]at Tf;simp only[Bk.len]at Tf;rw[hy]at T1;have Up:a.eval y= .int k' n:=T1;have R5:o'+(ix*1+0)+i.size≤cur.size:=by
      obtain⟨u,RP,_⟩:=hc ix (.int k' (xs.getD ix 0)) (by simp[Bk.cell,X8 Tf])
      have:=(Array.getElem?_eq_some_iff.1 RP).1
      omega
     have R1:(a.eval y).cells.size=i.size:=by rw[Up,←Sx,UC];rfl
     have T6:(a.eval y).cells.toList.length=i.size:=by simpa using R1
     refine RB g _ _ RI (ja hi hg _ R1 R5 (by rw[Up];simp[Value.cells,Value.oneCell'])) (hk _ _ _ hK ⟨ρ,?_⟩);refine hs.write hl Rt hg (by simp[R1];omega) (.ints e k' (xs.set ix n)) (by simp[Bk.len]) fun j c hj=>?_;have Tg:=ir cur.toList (o'+(ix*1+0)) (a.eval y).cells.toList (by simp only[Array.length_toList]at T6⊢;omega) (o'+j);rw[T6]at Tg;simp only[List.getElem?_toArray,Tg];simp only[Bk.cell,List.getElem?_set]at hj
     by_cases hm:j=ix
     ·subst hm;rw[if_pos (by omega),Up];rw[if_pos rfl,if_pos Tf]at hj;simp only[Option.map_some,Option.some.injEq]at hj;subst hj;exact⟨.int k' n,by simp[Value.cells],rfl⟩
     rw[if_neg (by omega),Array.getElem?_toList];rw[if_neg (fun e=>hm e.symm)]at hj;exact hc j c hj
    exact h.elim
   ·rename_i e wd' n f rw_ hl
    obtain⟨rfl,rfl,RR,Xg,hlen,hle,hnid,hK⟩:=h;obtain⟨_,hlenρ,Rx,_⟩:=hs.own b _ hl;unfold aL at Rx;rw[Rt]at Rx;obtain⟨cur,e',hg,hc⟩:=Rx;simp only at hc;rw[hlenρ]at Tf;simp only[Bk.len]at Tf;have RV:=bY.cells T1 Xg;have R1:(a.eval y).cells.size=i.size:=by have:=bI.length RV;simp only[Array.length_toList]at this;omega
    have T6:(a.eval y).cells.toList.length=i.size:=by simpa using R1
    have U7:∀j,j<wd→ix*wd+j<n*wd:=fun j hj=>by
     have:(ix+1)*wd≤n*wd:=Nat.mul_le_mul_right _ Tf
     rw[Nat.add_mul]at this;omega
    have R5:o'+(ix*wd+off)+i.size≤cur.size:=by
     have Ru:=U7 (off+i.size-1) (by omega);obtain⟨u,RP,_⟩:=hc (ix*wd+(off+i.size-1)) (f ((ix*wd+(off+i.size-1))/wd) ((ix*wd+(off+i.size-1))%wd)) (by simp only[Bk.cell,if_pos Ru])
     have:=(Array.getElem?_eq_some_iff.1 RP).1
     omega
    have SJ:∀x:V,(cellsOf x).flatMap gz=kv x:=fun x=>by cases x<;>simp [cellsOf,kv]
    have hview:=p9 hs (gp.refl s s.nx o) (kv (s.ev y)) (cellsOf (s.ev y)) _ (fun b hb _=>by rw[SJ]at hb;exact hb) RV;have h1:=hs.dF (kv (s.ev y));have SW:lo (dF s.own (kv (s.ev y))) b=some ⟨.rows e wd n f,true⟩:=by
     rw[fy,hl];simp only[Option.map_some,hnid,Bool.false_eq_true,↓reduceIte]
    rw[xL]at hK;refine RB g _ _ RI (ja hi hg _ R1 R5 (bI.sS RV)) (hk _ _ _ hK ⟨ρ,?_⟩);refine h1.write SW Rt hg (by simp[R1];omega) (.rows e wd n (a8 f ix off ((cellsOf (s.ev y)).map (jZ s.own s.nx)))) rfl fun j c hj=>?_;have Tg:=ir cur.toList (o'+(ix*wd+off)) (a.eval y).cells.toList (by simp only[Array.length_toList]at T6⊢;omega) (o'+j);rw[T6]at Tg;simp only[List.getElem?_toArray,Tg];simp only[Bk.cell]at hj
    split at hj
    ·rename_i Vn
     simp only[Option.some.injEq,a8,List.length_map]at hj;have To:0<wd:=by omega
     have Vo:j/wd*wd+j%wd=j:=by rw[Nat.mul_comm];exact Nat.div_add_mod j wd
     have Xh:j%wd<wd:=Nat.mod_lt _ To
     by_cases hm:ix*wd+off≤j∧j<ix*wd+off+i.size
     ·have TT:j/wd=ix:=by
       rw[Nat.div_eq_iff To]
       constructor
       ·omega
       omega
      have hjm:j%wd=j-ix*wd:=by rw[TT]at Vo;omega
      rw[if_pos TT,hjm,if_pos (by omega),if_pos (by omega)]at hj;rw[if_pos (by omega),show o'+j-(o'+(ix*wd+off))=j-ix*wd-off by omega];have hq:j-ix*wd-off<(cellsOf (s.ev y)).length:=by omega
      have Uj:((cellsOf (s.ev y)).map (jZ s.own s.nx))[j-ix*wd-off]? =some c:=by
       rw[←hj,X7];rw[X8 (by simpa using hq)];rfl
      obtain⟨u,RP,hr⟩:=bI.get hview _ _ Uj;exact⟨u,RP,aO.ext (Ext.du fun g' UI=>wk hs _ UI) _ _ (aO.dV hr)⟩
     rw[if_neg (by omega),Array.getElem?_toList];have hfc:f (j/wd) (j%wd)=c:=by
      by_cases TT:j/wd=ix
      ·rw[if_pos TT]at hj;have hjm:j%wd=j-ix*wd:=by rw[TT]at Vo;omega
       have S1:ix*wd≤j:=by rw[TT]at Vo;omega
       by_cases h2:off≤j%wd
       ·rw[if_pos h2,if_neg (by omega)]at hj;exact hj
       rw[if_neg h2]at hj;exact hj
      rw[if_neg TT]at hj;exact hj
     obtain⟨u,RP,hr⟩:=hc j c (by simp only[Bk.cell,if_pos Vn,hfc]);exact⟨u,RP,aO.ext (Ext.du fun g' UI=>kI UI) _ _ hr⟩
    cases hj
   ·rename_i e b2 n f rw_ hl
    split at h
    ·rename_i c hy
     obtain⟨rfl,rfl,UC,rfl,_,hK⟩:=h;obtain⟨_,hlenρ,Rx,_⟩:=hs.own b _ hl;unfold aL at Rx;rw[Rt]at Rx;obtain⟨cur,e',hg,hc⟩:=Rx;simp only at hc;rw[hlenρ]at Tf;simp only[Bk.len]at Tf;rw[hy]at T1;have Up:aA ρ (fun b=>b<s.nx) (aE G s.own ρ w) w c (a.eval y):=T1;have TR:=aA.plain Up;have R5:o'+(ix*1+0)+i.size≤cur.size:=by
      obtain⟨u,RP,_⟩:=hc ix (f ix) (by simp only[Bk.cell,if_pos Tf])
      have:=(Array.getElem?_eq_some_iff.1 RP).1
      omega
     have R1:(a.eval y).cells.size=i.size:=by rw[TR.2,←Sx,UC];rfl
     have T6:(a.eval y).cells.toList.length=i.size:=by simpa using R1
     refine RB g _ _ RI (ja hi hg _ R1 R5 (by rw[TR.2];simpa using TR.1)) (hk _ _ _ hK ⟨ρ,?_⟩);have key:∀s',aR G (fun b=>b<s.nx) ρ s' a (w.setRow g (cur.toList.take (o'+(ix*1+0))++(a.eval y).cells.toList++cur.toList.drop (o'+(ix*1+0)+i.size)).toArray)→∀b3,(b3=rF b2 c)→aR G (fun b=>b<s.nx) ρ {s' with env:=if b3=b2 then s'.env else mR b b3 s'.env} a (w.setRow g (cur.toList.take (o'+(ix*1+0))++(a.eval y).cells.toList++cur.toList.drop (o'+(ix*1+0)+i.size)).toArray):=by
      intro s' h' b3 e3
      by_cases e4:b3=b2
      ·rw[if_pos e4];exact h'
      rw[if_neg e4];refine h'.Pf b b3 ?_
      cases c with
      |own bb ww oo ll=>subst e3;exact Up.1
      |_=>exact absurd e3 e4
     refine key {s with own:=dZ s.own b ⟨.wins e (rF b2 c) n (fun j=>if j=ix then c else f j),true⟩} ?_ (rF b2 c) rfl;refine hs.write hl Rt hg (by simp[R1];omega) (.wins e (rF b2 c) n (fun j=>if j=ix then c else f j)) rfl fun j c' hj=>?_;have Tg:=ir cur.toList (o'+(ix*1+0)) (a.eval y).cells.toList (by simp only[Array.length_toList]at T6⊢;omega) (o'+j);rw[T6]at Tg;simp only[List.getElem?_toArray,Tg];simp only[Bk.cell]at hj
     split at hj
     ·rename_i Vn
      simp only[Option.some.injEq]at hj
      by_cases hm:j=ix
      ·subst hm;rw[if_pos rfl]at hj;rw[if_pos (by omega),TR.2,←hj];exact⟨a.eval y,by simp,Up⟩
      rw[if_neg hm]at hj;rw[if_neg (by omega),Array.getElem?_toList];exact hc j c' (by simp only[Bk.cell,if_pos Vn,hj])
     cases hj
    exact h.elim
   exact h.elim
  exact h.elim
end
end Go.Eng
namespace Go.Eng
open Go
def jU (w:World)(a:Option Addr)(us:List Value):Prop:=us=[]∨∃ad,a=some ad∧∀(j:Nat) u,us[j]? =some u→w.cell? (ad.add j)=some u
theorem dO {P:Program}{w:World}(size n:Nat)(a:Option Addr)(len cap:Nat)(us:List Value)(hl:us.length=n*size)(h:jU w a us):
  (Builtin.firstCells size n (.slice a len cap)).run P w= .ok us.toArray w:=by
 rcases h with rfl|⟨ad,rfl,h⟩
 ·cases a with
  |none=>simp[Builtin.firstCells]
  |some ad=>
   simp only[Builtin.firstCells];rw[←hl];exact kb ad [] (fun j u hj=>by simp at hj)
 exact run_firstCells_some w size n ad len cap us hl h
structure Cells (ok:Nat→Prop) (w:World) (wd n:Nat) (f:Nat→Nat→C) (a:Option Addr) (us:List Value):Prop where
 len:us.length=n*wd
 at_:jU w a us
 one:∀u∈us,u.oneCell'=true
 rep:∀i j,i<n→j<wd→∃u,us[i*wd+j]? =some u∧aO ok w (f i j) u
theorem pR {ok:Nat→Prop}{w:World}{wd n g o:Nat}{f:Nat→Nat→C}(h:∀i j,i<n→j<wd→∃u,w.cell? ⟨g,o+(i*wd+j),none⟩=some u∧aO ok w (f i j) u):
  ∃us,Cells ok w wd n f (some ⟨g,o,none⟩) us:=by
 refine⟨(List.range (n*wd)).map (fun t=>(w.cell? ⟨g,o+t,none⟩).getD undef),?_⟩;have key:∀t,t<n*wd→∃u,w.cell? ⟨g,o+t,none⟩=some u∧aO ok w (f (t/wd) (t%wd)) u:=by
  intro t ht
  have To:0<wd:=by rcases Nat.eq_zero_or_pos wd with h0|h0;(subst h0;simp at ht);exact h0
  have h1:t/wd<n:=by rw[Nat.div_lt_iff_lt_mul To];exact ht
  obtain⟨u,hu,hr⟩:=h (t/wd) (t%wd) h1 (Nat.mod_lt _ To)
  have:t/wd*wd+t%wd=t:=by rw[Nat.mul_comm];exact Nat.div_add_mod t wd
  rw[this]at hu;exact⟨u,hu,hr⟩
 refine⟨by simp,.inr ⟨_,rfl,fun j u hj=>?_⟩,fun u hu=>?_,fun i j hi hj=>?_⟩
 ·simp only[List.getElem?_map]at hj;obtain⟨t,ht,he⟩:=Option.map_eq_some_iff.1 hj;obtain⟨Ru,rfl⟩:j<n*wd∧j=t:=by
   have:=List.getElem?_eq_some_iff.1 ht
   obtain⟨h1,h2⟩:=this;simp at h1 h2;exact⟨h1,h2⟩
  obtain⟨u',RP,_⟩:=key j Ru;rw[fa,RP];rw[RP]at he
  simpa using he
 ·obtain⟨t,ht,he⟩:=List.mem_map.1 hu;obtain⟨u',RP,hr⟩:=key t (by simpa using ht);rw[RP]at he;simp only[Option.getD_some]at he;subst he;exact(aO.plain hr).1
 obtain⟨u,hu,hr⟩:=h i j hi hj;have Ru:i*wd+j<n*wd:=by
  have:(i+1)*wd≤n*wd:=Nat.mul_le_mul_right _ hi
  rw[Nat.add_mul]at this;omega
 exact⟨u,by simp[Ru,hu],hr⟩
theorem ji {ok:Nat→Prop}{w:World}{wd:Nat}{f:Nat→Nat→C}{a:Option Addr}:Cells ok w wd 0 f a []:=
 ⟨by simp,.inl rfl,fun u hu=>by simp at hu,fun i j hi=>absurd hi (Nat.not_lt_zero _)⟩
def iu (k:IntKind):C→Option (List Int)
 |.nil=>some []
 |.ints k' xs=>if k'=k then some xs else none
 |_=>none
theorem pc {ok:Nat→Prop}{w:World}{c:C}{v:Value}(h:aO ok w c v):
  (∀k xs,iu k c=some xs→∃a cap us,v= .slice a xs.length cap∧Cells ok w 1 xs.length (fun i _=>.int k (xs.getD i 0)) a us)∧
  (∀wd n f,(match c with|.nil=>n=0|.rows w' n' f'=>w'=wd∧n'=n∧f'=f|_=>False)→∃a cap us,v= .slice a n cap∧Cells ok w wd n f a us):=by
 constructor
 ·intro k xs hx
  cases c with
  |nil=>
   simp only[iu,Option.some.injEq]at hx;subst hx;exact⟨none,0,[],h,ji⟩
  |ints k' ys=>
   simp only[iu]at hx
   split at hx
   ·rename_i hk
    simp only[Option.some.injEq]at hx;subst hx;subst hk;obtain⟨a,cap,rfl,_,hr⟩:=h
    rcases hr with hr|⟨g,o,rfl,_,R2⟩
    ·refine⟨a,cap,[],rfl,?_⟩;rw[hr];exact ji
    obtain⟨us,TY⟩:=pR (ok:=ok) (wd:=1) (n:=ys.length) (f:=fun i _=>.int k' (ys.getD i 0)) (fun i j hi hj=>⟨_,by rw[show i*1+j=i by omega];exact R2 i hi,rfl⟩);exact⟨_,cap,us,rfl,TY⟩
   cases hx
  |_=>simp[iu]at hx
 intro wd n f hm
 cases c with
 |nil=>
  simp only at hm;subst hm;exact⟨none,0,[],h,ji⟩
 |rows w' n' f'=>
  simp only at hm;obtain⟨rfl,rfl,rfl⟩:=hm;obtain⟨a,cap,rfl,_,hr⟩:=h
  rcases hr with hr|⟨g,o,rfl,_,R2⟩
  ·refine⟨a,cap,[],rfl,?_⟩;rw[hr];exact ji
  obtain⟨us,TY⟩:=pR R2;exact⟨_,cap,us,rfl,TY⟩
 |_=>exact hm.elim
theorem ua {P:Program}{w:World}{t ty e:TypeId}{i:TypeInfo}{z:Value}(ht:P.underlying t=some (.slice e))(hi:P.info? e=some i)(hz:i.zero=some z)
  (b:Option Addr) (sLen qZ:Nat) (olds:List Value) (RS:olds.length=sLen*i.size) (holds:jU w b olds)
  (a:Option Addr) (n c:Nat) (news:List Value) (hl:news.length=n*i.size) (VF:jU w a news)
  (hg:qZ<sLen+n) (hb:(sLen+n)*i.bytes≤140737488355328) (WO:sLen+n≤9223372036854775807):
  (Builtin.append_ #[t,t] ty #[.slice b sLen qZ,.slice a n c]).run P w=
   .ok (.slice (some ⟨w.heap.size,0,none⟩) (sLen+n) (grownCap w (sLen+n) qZ e))
    (w.drew.alloc (.cells (olds.toArray++news.toArray++Builtin.zeroCells z.cells (grownCap w (sLen+n) qZ e-(sLen+n))) e)):=by
 have hn:¬(sLen+n≤qZ):=by omega
 have h63':¬(9223372036854775807<((sLen:Int)+(n:Int))):=by omega
 have R5:=growslice_fits hg hb;have h48':¬(281474976710656<Builtin.nextslicecap (sLen+n) qZ*i.bytes):=by omega
 have hf:=dO (P:=P) (w:=w.drew) i.size n a n c news hl VF;have hfo:=dO (P:=P) (w:=w.drew) i.size sLen b sLen qZ olds RS holds
 simp[Builtin.append_,Go.run_underlying ht,sizeOf,typeInfo,zeroValue,hi,hz,Builtin.lenOf,hn,h63',h48',Question.forced,hf,hfo,newRow,grownCap]
 congr 2
 apply Array.ext'
 simp[List.append_assoc]
theorem rT {P:Program}{w:World}{t ty e:TypeId}{i:TypeInfo}(ht:P.underlying t=some (.slice e))(hi:P.info? e=some i)
  (g o sLen qZ:Nat) {cur:Array Value} {e':TypeId} (hg:w.heap[g]? =some (.cells cur e' (0,0)))
  (a:Option Addr) (n c:Nat) (news:List Value) (hl:news.length=n*i.size) (VF:jU w a news) (h1:∀u∈news,u.oneCell'=true)
  (Sf:sLen+n≤qZ) (R5:o+sLen*i.size+news.length≤cur.size):
  (Builtin.append_ #[t,t] ty #[.slice (some ⟨g,o,none⟩) sLen qZ,.slice a n c]).run P w=
   .ok (.slice (some ⟨g,o,none⟩) (sLen+n) qZ) (w.setRow g (cur.toList.take (o+sLen*i.size)++news++cur.toList.drop (o+sLen*i.size+news.length)).toArray):=by
 have hf:=dO (P:=P) (w:=w) i.size n a n c news hl VF;have RM:=run_storeCells_at P g (o+sLen*i.size) e' news 0 cur w hg (by simpa using R5) h1;simp only[Nat.add_zero]at RM
 simp[Builtin.append_,Go.run_underlying ht,sizeOf,typeInfo,hi,Builtin.lenOf,Sf,hf,fa,RM]
theorem lW {P:Program}{w:World}{t ty e:TypeId}{i:TypeInfo}(ht:P.underlying t=some (.slice e))(hi:P.info? e=some i)(a:Option Addr)(c:Nat):
  (Builtin.append_ #[t,t] ty #[.slice none 0 0,.slice a 0 c]).run P w= .ok (.slice none 0 0) w:=by
 have hf:=dO (P:=P) (w:=w) i.size 0 a 0 c [] (by simp) (.inl rfl)
 simp[Builtin.append_,Go.run_underlying ht,sizeOf,typeInfo,hi,Builtin.lenOf,hf]
end Go.Eng
namespace Go.Eng
open Go
def iG (wd:Nat):C→Option (Nat×(Nat→Nat→C))
 |.nil=>some (0,fun _ _=>.any)
 |.rows w n f=>if w=wd then some (n,f)else none
 |_=>none
def zL (own:List (Nat×fA))(wd:Nat):C→Option (List (Nat×fA))
 |.nil=>some own
 |.own b w _ _=>if w=wd then(match lo own b with
  |some B=>if B.rw then some (del own b)else none
  |none=>none)else none
 |_=>none
def yg (own:List (Nat×fA))(nx0:Nat):C→C
 |.win _ _ _ _=>.any
 |.any=>jZ own nx0 .any
 |.bool b=>jZ own nx0 (.bool b)
 |.int k n=>jZ own nx0 (.int k n)
 |.str s=>jZ own nx0 (.str s)
 |.nil=>jZ own nx0 .nil
 |.ints k xs=>jZ own nx0 (.ints k xs)
 |.rows w n f=>jZ own nx0 (.rows w n f)
 |.own b w o l=>jZ own nx0 (.own b w o l)
 |.ptr b o=>jZ own nx0 (.ptr b o)
 |.elt c w i o=>jZ own nx0 (.elt c w i o)
 |.eptr b w i o=>jZ own nx0 (.eptr b w i o)
 |.fn f n caps=>jZ own nx0 (.fn f n caps)
def ux:C→Bool
 |.win _ _ _ _=>true
 |_=>false
def DF:C→C
 |.win b _ o l=>.own b 1 o l
 |c=>c
def G1 (own:List (Nat×fA))(nx0:Nat)(c:C):Option (Nat×Nat×(Nat→C)):=
 match c with
 |.win b _ off len=>match lo own b with
  |some ⟨.wins _ b3 n g,_⟩=>if off=0 then(if len=n then some (b3,n,g)else none)else none
  |_=>none
 |c=>match iG 1 (yg own nx0 c)with
  |some (n,f)=>some (0,n,fun i=>f i 0)
  |none=>none
def pn (T:fB)(s:St)(dst:Option Tmp)(t:TypeId)(x y:Operand)(K:St→Prop):Prop:=
 match dst with
 |none=>False
 |some d=>
       match T t with
  |some S=>
        match S.k with
   |.sl e=>match T e with
    |some E=>
          match s.ev x,s.ev y with
     |.one cx,.one cy=>match zL s.own E.size (DF cx)with
      |some S4=>match E.k with
       |.int k=>match iu k (yg s.own s.nx cx),iu k (yg s.own s.nx cy)with
        |some xs,some ys=>E.zero.length=E.size∧E.size=1∧((xs.length+ys.length)*E.bytes≤140737488355328∧xs.length+ys.length≤9223372036854775807)∧
          K {env:=(d,.one (.own s.nx 1 0 (xs++ys).length))::s.env,own:=dZ S4 s.nx ⟨.ints e k (xs++ys),true⟩,nx:=s.nx+1,n:=s.n}
        |_,_=>False
       |_=>if(ux cx||ux cy)=true then(match G1 s.own s.nx cx,G1 s.own s.nx cy with
        |some (b3,n,f),some (b4,m,g)=>E.zero.length=E.size∧E.size=1∧((n+m)*E.bytes≤140737488355328∧n+m≤9223372036854775807)∧(if ux cy=true then b4 else b3)<s.nx∧
          K {env:=(d,.one (.win s.nx (if ux cy=true then b4 else b3) 0 (n+m)))::s.env,own:=dZ S4 s.nx ⟨.wins e (if ux cy=true then b4 else b3) (n+m) (fun i=>if i<n then f i else g (i-n)),true⟩,nx:=s.nx+1,n:=s.n}
        |_,_=>False)else match iG E.size (yg s.own s.nx cx),iG E.size (yg s.own s.nx cy)with
        |some (n,f),some (m,g)=>E.zero.length=E.size∧0<E.size∧((n+m)*E.bytes≤140737488355328∧n+m≤9223372036854775807)∧
          K {env:=(d,.one (.own s.nx E.size 0 (n+m)))::s.env,own:=dZ S4 s.nx ⟨.rows e E.size (n+m) (fun i j=>if i<n then f i j else g (i-n) j),true⟩,nx:=s.nx+1,n:=s.n}
        |_,_=>False
      |none=>False
     |_,_=>False
    |none=>False
   |_=>False
  |none=>False
section
variable {G:Ctx}{dom:Nat→Prop}{ρ:Nat→Loc}{s:St}{a:Act}{w:World}
theorem vL (hs:aR G dom ρ s a w){b wd off len:Nat}{B:fA}{v:Value}(hl:lo s.own b=some B)(hw:Jb B.bk=wd)(UU:B.bk.flat)(hr:aA ρ dom (aE G s.own ρ w) w (.own b wd off len) v):
  ∃ad cap us,v= .slice ad len cap∧Cells (aE G s.own ρ w) w wd len (fun i j=>n7 B.bk (off+i) j) ad us:=by
 obtain⟨_,hlen,Rx,_⟩:=hs.own b B hl;obtain⟨_,hle,cap,hc,hr⟩:=hr
 rcases hr with⟨g,o,o',Rt,rfl,ho,_⟩|⟨_,rfl,rfl,_⟩
 ·by_cases h0:len=0
  ·subst h0;exact⟨_,cap,[],rfl,ji⟩
  unfold aL at Rx;rw[Rt]at Rx;obtain⟨cur,e,hg,RQ⟩:=Rx
  have SE:o'=o+off*wd:=by rcases ho with ho|ho<;>omega
  rw[hlen]at hle;obtain⟨us,TY⟩:=pR (ok:=aE G s.own ρ w) (w:=w) (wd:=wd) (n:=len) (g:=g) (o:=o') (f:=fun i j=>n7 B.bk (off+i) j) (fun i j hi hj=>by
   rw[cell_of_row w g _ cur e (0,0) hg,SE]
   cases hB:B.bk with
   |var cs=>rw[hB]at UU;exact UU.elim
   |wins e b2 n g=>rw[hB]at UU;exact UU.elim
   |ints e' k xs=>
    rw[hB]at RQ hw hle;simp only[Jb]at hw;subst hw;simp only[Bk.len]at hle;have hx:off+i<xs.length:=by omega
    obtain⟨u,RP,hr⟩:=RQ (off+i) (.int k (xs.getD (off+i) 0)) (by simp[Bk.cell,X8 hx]);exact⟨u,by rw[show o+off*1+(i*1+j)=o+(off+i) by omega];exact RP,hr⟩
   |rows e' wd' n' f=>
    rw[hB]at RQ hw hle;simp only[Jb]at hw;subst hw;simp only[Bk.len]at hle;have Ru:(off+i)*wd'+j<n'*wd':=by
     have:(off+i+1)*wd'≤n'*wd':=Nat.mul_le_mul_right _ (by omega)
     rw[Nat.add_mul (off+i)]at this;omega
    obtain⟨u,RP,hr⟩:=RQ ((off+i)*wd'+j) (f (off+i) j) (by
     simp only[Bk.cell,if_pos Ru];rw[Nat.mul_comm (off+i) wd',Nat.mul_add_div (by omega),Nat.div_eq_of_lt hj,Nat.mul_add_mod,Nat.mod_eq_of_lt hj];simp)
    exact⟨u,by rw[show o+off*wd'+(i*wd'+j)=o+((off+i)*wd'+j) by rw[Nat.add_mul];omega];exact RP,hr⟩)
  exact⟨_,cap,us,rfl,TY⟩
 exact⟨none,0,[],rfl,ji⟩
theorem Cells.congr {ok:Nat→Prop}{wd n:Nat}{f g:Nat→Nat→C}{ad:Option Addr}{us:List Value}(h:Cells ok w wd n f ad us)(he:∀i j,i<n→j<wd→f i j=g i j):Cells ok w wd n g ad us:=
 ⟨h.len,h.at_,h.one,fun i j hi hj=>by rw[←he i j hi hj];exact h.rep i j hi hj⟩
def HF (B:Bk)(ρ:Nat→Loc)(dom ok:Nat→Prop)(w:World)(c:C)(u:Value):Prop:=match B with
 |.wins .. =>aA ρ dom ok w c u
 |_=>aO ok w c u
structure tf (R:C→Value→Prop) (w:World) (wd n:Nat) (f:Nat→Nat→C) (a:Option Addr) (us:List Value):Prop where
 len:us.length=n*wd
 at_:jU w a us
 one:∀u∈us,u.oneCell'=true
 rep:∀i j,i<n→j<wd→∃u,us[i*wd+j]? =some u∧R (f i j) u
theorem Cells.Pj {ok:Nat→Prop}{w:World}{wd n:Nat}{f:Nat→Nat→C}{a:Option Addr}{us:List Value}(B:Bk){ρ:Nat→Loc}{dom:Nat→Prop}(h:Cells ok w wd n f a us):tf (HF B ρ dom ok w) w wd n f a us:=
 ⟨h.len,h.at_,h.one,fun i j hi hj=>by
  obtain⟨u,hu,hr⟩:=h.rep i j hi hj;refine⟨u,hu,?_⟩
  cases B with
  |wins e b2 n g=>exact aA.bh hr
  |_=>exact hr⟩
theorem Ff (hs:aR G dom ρ s a w){b n:Nat}{e:TypeId}{b3:Nat}{g:Nat→C}{rw_:Bool}{v:Value}(hl:lo s.own b=some ⟨.wins e b3 n g,rw_⟩)(hr:aA ρ dom (aE G s.own ρ w) w (.own b 1 0 n) v):
  ∃ad cap us,v= .slice ad n cap∧tf (aA ρ dom (aE G s.own ρ w) w) w 1 n (fun i _=>g i) ad us:=by
 obtain⟨_,hlen,Rx,_⟩:=hs.own b _ hl;obtain⟨_,hle,cap,hc,hr⟩:=hr
 rcases hr with⟨q,o,o',Rt,rfl,ho,_⟩|⟨_,rfl,rfl,_⟩
 ·by_cases h0:n=0
  ·subst h0;exact⟨_,cap,[],rfl,rfl,.inl rfl,(by simp),fun i j hi=>absurd hi (Nat.not_lt_zero _)⟩
  unfold aL at Rx;rw[Rt]at Rx;obtain⟨cur,e',hg,RQ⟩:=Rx
  have SE:o'=o:=by rcases ho with ho|ho<;>omega
  subst SE;have Te:∀i,i<n→∃u,w.cell? ⟨q,o'+i,none⟩=some u∧aA ρ dom (aE G s.own ρ w) w (g i) u:=fun i hi=>by
   obtain⟨u,RP,hr⟩:=RQ i (g i) (if_pos hi);exact⟨u,by rw[cell_of_row w q _ cur e' (0,0) hg];exact RP,hr⟩
  obtain⟨us,TY⟩:=pR (ok:=aE G s.own ρ w) (w:=w) (wd:=1) (n:=n) (g:=q) (o:=o') (f:=fun _ _=>.any) (fun i j hi hj=>by
   obtain⟨u,hu,hr⟩:=Te i hi;obtain rfl:j=0:=by omega
   exact⟨u,by rw[show o'+(i*1+0)=o'+i by omega];exact hu,(aA.plain hr).1⟩)
  refine⟨_,cap,us,rfl,TY.len,TY.at_,TY.one,fun i j hi hj=>?_⟩;obtain rfl:j=0:=by omega
  obtain⟨u,hu,_⟩:=TY.rep i 0 hi hj;obtain⟨u',RP,hr⟩:=Te i hi;refine⟨u,hu,?_⟩
  rcases TY.at_ with h1|⟨ad,ZH,hat⟩
  ·rw[h1]at hu;simp at hu
  obtain rfl:=Option.some.inj ZH
  have:=hat _ u hu
  rw[show i*1+0=i by omega,fa,RP]at this;rw[←Option.some.inj this];exact hr
 exact⟨none,0,[],rfl,rfl,.inl rfl,(by simp),fun i j hi=>absurd hi (Nat.not_lt_zero _)⟩
theorem y7 (own:List (Nat×fA))(nx b off:Nat)(k:IntKind)(wd:Nat):iu k (jZ own nx (.ptr b off))=none∧iG wd (jZ own nx (.ptr b off))=none:=by
 simp only[jZ]
 split
 ·cases lo own b with
  |none=>exact⟨rfl,rfl⟩
  |some B=>obtain⟨B,r⟩:=B;cases B<;>exact ⟨rfl,rfl⟩
 exact⟨rfl,rfl⟩
theorem z5 (hs:aR G dom ρ s a w)(SH:∀b,dom b→b<s.nx){c:C}{v:Value}(hr:aA ρ dom (aE G s.own ρ w) w c v){k:IntKind}{xs:List Int}(hx:iu k (yg s.own s.nx c)=some xs):
  ∃ad cap us,v= .slice ad xs.length cap∧Cells (aE G s.own ρ w) w 1 xs.length (fun i _=>.int k (xs.getD i 0)) ad us:=by
 cases c with
 |own b wd off len=>
  have hb:=SH b hr.1;simp only[yg,jZ,if_pos hb]at hx
  cases hl:lo s.own b with
  |none=>rw[hl]at hx;simp[iu]at hx
  |some B=>
   rw[hl]at hx;simp only at hx
   cases hB:B.bk with
   |var cs=>rw[hB]at hx;simp[gg,iu]at hx
   |wins e b2 n g=>rw[hB]at hx;simp[gg,iu]at hx
   |rows e w' n f=>rw[hB]at hx;simp only[gg]at hx;split at hx<;>simp [iu]at hx
   |ints e k' ys=>
    rw[hB]at hx;simp only[gg]at hx
    split at hx
    ·rename_i To
     subst To;simp only[iu]at hx
     split at hx
     ·rename_i hk
      subst hk;simp only[Option.some.injEq]at hx;obtain⟨ad,cap,us,hv,hc⟩:=vL hs hl (by rw[hB];rfl) (by rw[hB];trivial) hr;obtain⟨_,hlen,_,_⟩:=hs.own b B hl;have hle:=hr.2.1;rw[hlen,hB]at hle;simp only[Bk.len]at hle;have U5:xs.length=len:=by rw[←hx];simp;omega
      refine⟨ad,cap,us,by rw[U5];exact hv,?_⟩;rw[U5];refine hc.congr fun i j hi hj=>?_;simp only[hB,n7,←hx,X7,List.getElem?_take,List.getElem?_drop];rw[if_pos hi]
     cases hx
    simp[iu]at hx
 |nil=>exact(pc (c:=.nil) hr).1 k xs hx
 |ints k' ys=>exact(pc (c:=.ints k' ys) hr).1 k xs hx
 |fn f n caps=>simp only[yg,jZ]at hx;split at hx<;>simp [iu]at hx
 |ptr b off=>rw[yg,(y7 s.own s.nx b off k 0).1]at hx;cases hx
 |_=>simp[yg,jZ,iu]at hx
theorem pa (hs:aR G dom ρ s a w)(SH:∀b,dom b→b<s.nx){c:C}{v:Value}(hr:aA ρ dom (aE G s.own ρ w) w c v){wd n:Nat}{f:Nat→Nat→C}(hx:iG wd (yg s.own s.nx c)=some (n,f)):
  ∃ad cap us,v= .slice ad n cap∧Cells (aE G s.own ρ w) w wd n f ad us:=by
 cases c with
 |own b wd' off len=>
  have hb:=SH b hr.1;simp only[yg,jZ,if_pos hb]at hx
  cases hl:lo s.own b with
  |none=>rw[hl]at hx;simp[iG]at hx
  |some B=>
   rw[hl]at hx;simp only at hx
   cases hB:B.bk with
   |var cs=>rw[hB]at hx;simp[gg,iG]at hx
   |wins e b2 n g=>rw[hB]at hx;simp[gg,iG]at hx
   |ints e k' ys=>rw[hB]at hx;simp only[gg]at hx;split at hx<;>simp [iG]at hx
   |rows e w' n' f'=>
    rw[hB]at hx;simp only[gg]at hx
    split at hx
    ·rename_i To
     subst To;simp only[iG]at hx
     split at hx
     ·rename_i hww
      subst hww;simp only[Option.some.injEq,Prod.mk.injEq]at hx;obtain⟨rfl,rfl⟩:=hx;obtain⟨ad,cap,us,hv,hc⟩:=vL hs hl (by rw[hB];rfl) (by rw[hB];trivial) hr;refine⟨ad,cap,us,hv,hc.congr fun i j hi hj=>by rw[hB];rfl⟩
     cases hx
    simp[iG]at hx
 |nil=>
  simp only[yg,jZ,iG,Option.some.injEq,Prod.mk.injEq]at hx;exact(pc (c:=.nil) hr).2 wd n f hx.1.symm
 |rows w' n' f'=>
  simp only[yg,jZ,iG]at hx
  split at hx
  ·rename_i hw
   simp only[Option.some.injEq,Prod.mk.injEq]at hx;exact(pc (c:=.rows w' n' f') hr).2 wd n f ⟨hw,hx.1,hx.2⟩
  cases hx
 |fn f n caps=>simp only[yg,jZ]at hx;split at hx<;>simp [iG]at hx
 |ptr b off=>rw[yg,(y7 s.own s.nx b off .i64 wd).2]at hx;cases hx
 |_=>simp[yg,jZ,iG]at hx
theorem aR.del (h:aR G dom ρ s a w)(b:Nat):aR G dom ρ {s with own:=Eng.del s.own b} a w:=by
 have RF:Ext (aE G s.own ρ w) (aE G (Eng.del s.own b) ρ w) w w:=Ext.du fun g hg=>⟨hg.1,hg.2.1,fun b2 B2 Rv RN=>by
  rw[kj]at Rv
  split at Rv
  ·cases Rv
  exact hg.2.2 b2 B2 Rv RN⟩
 have hs:ig dom dom ρ ρ:=⟨fun _ h=>h,fun _ _=>rfl⟩;refine h.rR RF hs (fun b2 B2 Rv=>?_) (fun b2 B2 b3 B3 Rv R7=>?_) rfl rfl rfl (Nat.le_refl _) (fun _ _ _=>rfl)
 ·rw[kj]at Rv
  split at Rv
  ·cases Rv
  obtain⟨h1,h2,h3,h4⟩:=h.own b2 B2 Rv;exact⟨h1,h2,aL.ext RF hs _ _ (fun _ _ _=>rfl) h3,h4⟩
 rw[kj]at Rv R7
 split at Rv
 ·cases Rv
 split at R7
 ·cases R7
 exact h.inj b2 B2 b3 B3 Rv R7
theorem aR.CN (h:aR G dom ρ s a w){id:Nat}(hid:¬dom id)(B:Bk)(hB:∀j,B.cell j=none)(hlen:B.len=0):
  aR G (fun b=>dom b∨b=id) (aZ ρ id ⟨none,0⟩) {s with own:=dZ s.own id ⟨B,true⟩} a w:=by
 have hs:=ig.aZ ρ ⟨none,0⟩ hid;have RF:Ext (aE G s.own ρ w) (aE G (dZ s.own id ⟨B,true⟩) (Eng.aZ ρ id ⟨none,0⟩) w) w w:=Ext.du fun g hg=>⟨hg.1,hg.2.1,fun b2 B2 Rv RN o=>by
  rw[bX]at Rv
  by_cases RJ:b2=id
  ·subst RJ;rw[lZ];simp
  rw[if_neg RJ]at Rv;rw[aU _ _ RJ];exact hg.2.2 b2 B2 Rv RN o⟩
 refine h.rR RF hs (fun b2 B2 Rv=>?_) (fun b2 B2 b3 B3 Rv R7 RE RN g o o' ha=>?_) rfl rfl rfl (Nat.le_refl _) (fun _ _ _=>rfl)
 ·rw[bX]at Rv
  by_cases RJ:b2=id
  ·subst RJ;rw[if_pos rfl]at Rv;obtain rfl:=Option.some.inj Rv;rw[lZ];exact⟨.inr rfl,hlen.symm,hB,fun g o ha=>by cases ha⟩
  rw[if_neg RJ]at Rv;rw[aU _ _ RJ];obtain⟨h1,h2,h3,h4⟩:=h.own b2 B2 Rv;exact⟨.inl h1,h2,aL.ext RF hs _ _ (fun _ _ _=>rfl) h3,h4⟩
 rw[bX]at Rv R7
 by_cases RJ:b2=id
 ·subst RJ;rw[lZ]at ha;cases ha
 rw[if_neg RJ]at Rv;rw[aU _ _ RJ]at ha
 by_cases Su:b3=id
 ·subst Su;rw[lZ];simp
 rw[if_neg Su]at R7;rw[aU _ _ Su];exact h.inj b2 B2 b3 B3 Rv R7 RE RN g o o' ha
theorem aR.drew (h:aR G dom ρ s a w):aR G dom ρ s a w.drew:=h.grown ((Go.RowKit.Below.refl _ _).drew)
end
theorem rO {P:Program}{w:World}{t ty e:TypeId}{i:TypeInfo}(ht:P.underlying t=some (.slice e))(hi:P.info? e=some i)(b:Option Addr)(n cap:Nat)(a:Option Addr)(c:Nat)(h:n≤cap):
  (Builtin.append_ #[t,t] ty #[.slice b n cap,.slice a 0 c]).run P w= .ok (.slice b n cap) w:=by
 have hf:=dO (P:=P) (w:=w) i.size 0 a 0 c [] (by simp) (.inl rfl)
 cases b<;>simp [Builtin.append_,Go.run_underlying ht,sizeOf,typeInfo,hi,Builtin.lenOf,hf,h,storeCells]
section
variable {P:Program}{T:fB}{o:Oper}{s:St}{K:St→Prop}
theorem xq {P:Program}{t t' e e':TypeId}(ht:P.underlying t=some (.slice e))(SO:P.underlying t'=some (.slice e'))(ty:TypeId)(u v:Value)(w:World):
  (Builtin.append_ #[t,t'] ty #[u,v]).run P w=(Builtin.append_ #[t,t] ty #[u,v]).run P w:=by
 simp only[Builtin.append_,List.getElem?_toArray,List.getElem?_cons_zero,List.getElem?_cons_succ,Sem.run_bind,au ht,au SO,Result.andThen_ok,Sem.run_pure]
 cases u<;>simp only[Sem.run_bind,au ht,au SO,Result.andThen_ok,Sem.run_pure]
theorem lA {d:Tmp}(hd:o.dst=some d)(SK:d<s.n){c:Call}(ho:o.op= .call c)(Tz:c.callee= .builtin .append){x y:Operand}(Ry:c.args= #[x,y]){t t':TypeId}(Si:c.argTypes= #[t,t']){e':TypeId}(SO:P.underlying t'=some (.slice e'))
  {e:TypeId} {ei:TypeInfo} {ez:Value} (ht:P.underlying t=some (.slice e)) (S2:P.info? e=some ei) (U6:ei.zero=some ez) (Sy:ez.cells.size=ei.size)
  {cx:C} (XV:∀G ρ a w,aR G (fun b=>b<s.nx) ρ s a w→aA ρ (fun b=>b<s.nx) (aE G s.own ρ w) w cx (a.eval x)) {wd:Nat} (To:wd=ei.size) (RR:0<wd) {S4:List (Nat×fA)} (RZ:zL s.own wd cx=some S4)
  {n m:Nat} {f0 f1:Nat→Nat→C} (B':Bk) (Xj:∀cs,B'≠ .var cs) (XW:B'.len=n+m)
  (YE:∀j c,B'.cell j=some c→j<(n+m)*wd∧c=if j/wd<n then f0 (j/wd) (j%wd)else f1 (j/wd-n) (j%wd))
  (hb:(n+m)*ei.bytes≤140737488355328) (WO:n+m≤9223372036854775807)
  (XX:∀G ρ a w,aR G (fun b=>b<s.nx) ρ s a w→∃ad cap us,a.eval x= .slice ad n cap∧tf (HF B' ρ (fun b=>b<s.nx) (aE G s.own ρ w) w) w wd n f0 ad us)
  (YF:∀G ρ a w,aR G (fun b=>b<s.nx) ρ s a w→∃ad cap us,a.eval y= .slice ad m cap∧tf (HF B' ρ (fun b=>b<s.nx) (aE G s.own ρ w) w) w wd m f1 ad us)
  (rv:C) (hrv:∀ρ' ok' w' v,aA ρ' (fun b=>b<s.nx∨b=s.nx) ok' w' (.own s.nx wd 0 (n+m)) v→aA ρ' (fun b=>b<s.nx∨b=s.nx) ok' w' rv v)
  (hK:K {env:=(d,.one rv)::s.env,own:=dZ S4 s.nx ⟨B',true⟩,nx:=s.nx+1,n:=s.n}):mC P o s K:=by
 subst To;intro G a w RC Q next hk;obtain⟨ρ,hs⟩:=RC;obtain⟨ad0,TS,Xl,Sv,SI⟩:=XX G ρ a w hs;obtain⟨YG,VG,Vp,Xm,UJ⟩:=YF G ρ a w hs;have hid:¬(s.nx<s.nx):=Nat.lt_irrefl _;have Uq:∀(v:Value) (w':World),(Builtin.append_ #[t,t] o.type #[a.eval x,a.eval y]).run P w= .ok v w'→(execOp a.eval o).run P w= .ok (.value v) w':=by
  intro v w' hr;unfold execOp;rw[ho];simp only[resolve,Tz,Sem.run_bind,Sem.run_pure,Result.andThen_ok,invoke,Go.builtin,Ry,Si];rw[show Array.map a.eval #[x,y]= #[a.eval x,a.eval y] by simp,xq ht SO,hr];rfl
 -- from the block's state to the whole
 have fin:∀(v:Value) (w':World) (ρ':Nat→Loc),(execOp a.eval o).run P w= .ok (.value v) w'→
   aR G (fun b=>b<s.nx∨b=s.nx) ρ' {s with own:=dZ S4 s.nx ⟨B',true⟩} a w'→aA ρ' (fun b=>b<s.nx∨b=s.nx) (aE G (dZ S4 s.nx ⟨B',true⟩) ρ' w') w' (.own s.nx ei.size 0 (n+m)) v→o.wp P a w next Q:=by
  intro v w' ρ' hr h1 h2;refine Oper.cS hr (hk _ _ _ hK ⟨ρ',?_⟩);rw[hd];have h3:=h1.put (dst:=some d) (x:=.one rv) (v:=v) (fun d' hh=>by cases hh;exact SK) (hrv _ _ _ _ h2)
  have h4:=h3.cR (dom':=fun b=>b<s.nx+1) (fun b hb=>by rcases hb with hb|hb<;>omega)
  exact{hd:=h4.hd,hn:=h4.hn,env:=h4.env,own:=h4.own,inj:=h4.inj,os:=h4.os,tape:=h4.tape,output:=h4.output,size:=h4.size,keep:=h4.keep,wf:=h4.wf,home:=h4.home,room:=h4.room}
 -- a new row
 have cellAt:∀(pre:List Value),pre=Xl++Vp→∀j c,B'.cell j=some c→∃u,pre[j]? =some u∧HF B' ρ (fun b=>b<s.nx) (aE G s.own ρ w) w c u:=by
  intro pre YH j c hj;obtain⟨Ru,rfl⟩:=YE j c hj;have Vo:j/ei.size*ei.size+j%ei.size=j:=by rw[Nat.mul_comm];exact Nat.div_add_mod j ei.size
  have Xh:j%ei.size<ei.size:=Nat.mod_lt _ RR;have Sn:j/ei.size<n+m:=(Nat.div_lt_iff_lt_mul RR).2 Ru;have Tl:=SI.len
  by_cases hn:j/ei.size<n
  ·rw[if_pos hn];obtain⟨u,hu,hr⟩:=SI.rep _ _ hn Xh;rw[Vo]at hu;refine⟨u,?_,hr⟩;have ZI:=(List.getElem?_eq_some_iff.1 hu).1;rw[YH,List.getElem?_append_left ZI];exact hu
  rw[if_neg hn];obtain⟨u,hu,hr⟩:=UJ.rep (j/ei.size-n) _ (by omega) Xh;refine⟨u,?_,hr⟩;have S1:n*ei.size≤j:=by
   have:n*ei.size≤j/ei.size*ei.size:=Nat.mul_le_mul_right _ (by omega)
   omega
  rw[YH,List.getElem?_append_right (by omega),Tl,←hu]
  congr 1
  have hmul:n*ei.size≤j/ei.size*ei.size:=Nat.mul_le_mul_right _ (by omega);rw[Nat.sub_mul,←Nat.sub_add_comm hmul,Vo]
 have hzz:(Xl.toArray++Vp.toArray).toList=Xl++Vp:=by simp
 have newRow:TS<n+m→(S4=s.own∨∃b,S4=Eng.del s.own b)→o.wp P a w next Q:=by
  intro RY Wf;have hr:=ua (ty:=o.type) ht S2 U6 ad0 n TS Xl SI.len SI.at_ YG m VG Vp UJ.len UJ.at_ RY hb WO;rw[←Sv,←Xm]at hr;have hgc:n+m≤grownCap w (n+m) TS e:=grownCap_ge w _ _ _;have h1:aR G (fun b=>b<s.nx) ρ {s with own:=S4} a w.drew:=by
   rcases Wf with rfl|⟨b,rfl⟩
   ·exact hs.drew
   exact hs.drew.del b
  have hokm:∀g,aE G s.own ρ w g→aE G S4 ρ w.drew g:=fun g hg=>by
   rcases Wf with rfl|⟨b,rfl⟩
   ·exact hg
   exact⟨hg.1,hg.2.1,fun b2 B2 Rv RN=>by
    rw[kj]at Rv
    split at Rv
    ·cases Rv
    exact hg.2.2 b2 B2 Rv RN⟩
  have VH:Ext (aE G s.own ρ w) (aE G S4 ρ w.drew) w w.drew:=⟨fun g hg=>⟨hokm g hg,rfl⟩,fun _=>Nat.le_refl _⟩;have h2:=h1.xV hid B' (Xl.toArray++Vp.toArray++Builtin.zeroCells ez.cells (grownCap w (n+m) TS e-(n+m))) e (fun j c hj=>by
   obtain⟨u,hu,hr⟩:=cellAt _ rfl j c hj;refine⟨u,?_,?_⟩
   ·have ZI:=(List.getElem?_eq_some_iff.1 hu).1;rw[Array.getElem?_append_left (by simpa using ZI)];rw[←Array.getElem?_toList,hzz];exact hu
   cases B' with
   |var cs=>exact absurd rfl (Xj cs)
   |ints e k xs=>exact aO.ext VH _ _ hr
   |rows e w n f=>exact aO.ext VH _ _ hr
   |wins e b2 n g=>exact aA.ext VH ⟨fun _ h=>h,fun _ _=>rfl⟩ _ _ hr)
  refine fin _ _ _ (Uq _ _ hr) h2 ⟨.inr rfl,by rw[lZ];simp[XW],grownCap w (n+m) TS e,hgc,.inl ⟨w.heap.size,0,0,by rw[lZ];rfl,rfl,.inr (by simp),?_⟩⟩;have SR:cd (w.drew.alloc (.cells (Xl.toArray++Vp.toArray++Builtin.zeroCells ez.cells (grownCap w (n+m) TS e-(n+m))) e)) w.heap.size=(Xl.toArray++Vp.toArray++Builtin.zeroCells ez.cells (grownCap w (n+m) TS e-(n+m))).size:=dH (heap_alloc_new w.drew _);rw[SR];simp only[Array.size_append,List.size_toArray,size_zeroCells,SI.len,UJ.len,Sy]
  have:grownCap w (n+m) TS e=n+m+(grownCap w (n+m) TS e-(n+m)):=by omega
  rw[Nat.zero_add,Nat.zero_add]
  conv=>lhs;rw[this]
  rw[Nat.add_mul,Nat.add_mul];exact Nat.le_refl _
 unfold zL at RZ
 split at RZ
 ·-- the base is nil
  simp only[Option.some.injEq]at RZ;have YI:=XV G ρ a w hs;have YI:a.eval x= .slice none 0 0:=YI;rw[YI]at Sv;simp only[Value.slice.injEq]at Sv;obtain⟨rfl,rfl,rfl⟩:=Sv
  by_cases hm:m=0
  ·subst hm;have hr:=lW (P:=P) (w:=w) (ty:=o.type) ht S2 YG VG;rw[←Xm,←YI]at hr;subst RZ;have h2:=hs.CN hid B' (fun j=>by
    cases hc:B'.cell j with
    |none=>rfl
    |some c=>have:=(YE j c hc).1;simp at this) (by rw[XW])
   exact fin _ _ _ (Uq _ _ hr) h2 ⟨.inr rfl,by rw[lZ];simp,0,by simp,.inr ⟨by rw[lZ],YI,by simp,rfl⟩⟩
  exact newRow (by omega) (.inl RZ.symm)
 ·-- it is a slice of the frame's own
  rename_i b w' off len
  split at RZ
  ·rename_i hww
   subst hww
   cases RS:lo s.own b with
   |none=>rw[RS]at RZ;simp at RZ
   |some B=>
    rw[RS]at RZ;simp only at RZ
    split at RZ
    ·rename_i RN
     simp only[Option.some.injEq]at RZ
     by_cases RY:TS<n+m
     ·exact newRow RY (.inr ⟨b,RZ.symm⟩)
     have hxo:=XV G ρ a w hs;obtain⟨WI,hle,cap,hc,hxo⟩:=hxo
     rcases hxo with⟨g,o1,o2,Rt,R3,ho,Sf⟩|⟨Rt,R3,rfl,rfl⟩
     ·rw[R3]at Sv;simp only[Value.slice.injEq]at Sv;obtain⟨rfl,rfl,rfl⟩:=Sv;obtain⟨_,WN,VI,hlocb⟩:=hs.own b B RS;unfold aL at VI;rw[Rt]at VI;obtain⟨cur,e',hg,RV⟩:=VI;rw[dH hg]at Sf;have YJ:lo s.own b=some ⟨B.bk,true⟩:=by rw[RS,←RN]
      -- the base's place
      have R5:o2+len*ei.size+Vp.length≤cur.size∨len+m=0:=by
       by_cases h0:len+m=0
       ·exact .inr h0
       left
       have TH:o2=o1+off*ei.size:=by rcases ho with ho|ho<;>omega
       have SW:=UJ.len;have h3:(len+m)*ei.size≤cap*ei.size:=Nat.mul_le_mul_right _ (by omega);rw[Nat.add_mul]at h3 Sf;omega
      rcases R5 with R5|h0
      ·have hr:=rT (P:=P) (w:=w) (ty:=o.type) ht S2 g o2 len cap hg YG m VG Vp UJ.len UJ.at_ UJ.one (by omega) R5;rw[←R3,←Xm]at hr;have YK:((cur.toList.take (o2+len*ei.size)++Vp++cur.toList.drop (o2+len*ei.size+Vp.length)).toArray).size=cur.size:=by simp;omega
       have h2:=hs.rewrite YJ Rt hg YK hid B' o2 (fun j c hj=>by
        obtain⟨Ru,rfl⟩:=YE j c hj;have Vo:j/ei.size*ei.size+j%ei.size=j:=by rw[Nat.mul_comm];exact Nat.div_add_mod j ei.size
        have Xh:j%ei.size<ei.size:=Nat.mod_lt _ RR;have Sn:j/ei.size<len+m:=(Nat.div_lt_iff_lt_mul RR).2 Ru;have Tg:=ir cur.toList (o2+len*ei.size) Vp (by simpa using R5) (o2+j);have SW:=UJ.len
        by_cases hn:j/ei.size<len
        ·rw[if_pos hn];obtain⟨u,hu,hr⟩:=SI.rep _ _ hn Xh;rw[Vo]at hu;have R4:j<len*ei.size:=by
          have:(j/ei.size+1)*ei.size≤len*ei.size:=Nat.mul_le_mul_right _ hn
          rw[Nat.add_mul]at this;omega
         rw[if_neg (by omega)]at Tg;refine⟨u,?_,?_⟩
         ·rw[List.getElem?_toArray,Tg,Array.getElem?_toList]
          rcases SI.at_ with h0|⟨ad,ZH,hat⟩
          ·rw[h0]at hu;simp at hu
          simp only[Option.some.injEq]at ZH;subst ZH
          have:=hat j u hu
          rw[fa,cell_of_row w g _ cur e' (0,0) hg]at this;exact this
         cases B' with
         |var cs=>exact absurd rfl (Xj cs)
         |ints e k xs=>exact hr
         |rows e w n f=>exact hr
         |wins e b2 n g=>exact hr
        rw[if_neg hn];obtain⟨u,hu,hr⟩:=UJ.rep (j/ei.size-len) _ (by omega) Xh;have hmul:len*ei.size≤j/ei.size*ei.size:=Nat.mul_le_mul_right _ (by omega);have S1:len*ei.size≤j:=by omega
        rw[Nat.sub_mul,←Nat.sub_add_comm hmul,Vo]at hu;have ZI:=(List.getElem?_eq_some_iff.1 hu).1;rw[if_pos (by omega),show o2+j-(o2+len*ei.size)=j-len*ei.size by omega]at Tg;refine⟨u,?_,?_⟩
        ·rw[List.getElem?_toArray,Tg,←hu]
        cases B' with
        |var cs=>exact absurd rfl (Xj cs)
        |ints e k xs=>exact hr
        |rows e w n f=>exact hr
        |wins e b2 n g=>exact hr)
       subst RZ;refine fin _ _ _ (Uq _ _ hr) h2 ⟨.inr rfl,by rw[lZ];simp[XW],cap,by omega,.inl ⟨g,o2,o2,by rw[lZ],rfl,.inr (by simp),?_⟩⟩;rw[dH (setRow_heap w g cur _ e' (0,0) hg),YK]
       by_cases hc0':cap=0
       ·subst hc0';simp;omega
       have TH:o2=o1+off*ei.size:=by rcases ho with ho|ho<;>omega
       rw[Nat.add_mul]at Sf;rw[TH,Nat.zero_add];omega
      -- nothing at all is laid
      have Tl:len=0:=by omega
      have ZJ:m=0:=by omega
      subst Tl;subst ZJ;have hr:=rO (P:=P) (w:=w) (ty:=o.type) ht S2 (some ⟨g,o2,none⟩) 0 cap YG VG hc;rw[←R3,←Xm]at hr;have h2:=hs.rewrite (cur':=cur) YJ Rt hg rfl hid B' (o1+off*ei.size) (fun j c hj=>by have:=(YE j c hj).1;simp at this);rw[setRow_self w g cur e' (0,0) hg]at h2;subst RZ;refine fin _ _ _ (Uq _ _ hr) h2 ⟨.inr rfl,by rw[lZ];simp,cap,hc,.inl ⟨g,o1+off*ei.size,o2,by rw[lZ],R3,?_,?_⟩⟩
      ·rcases ho with ho|ho
       ·exact .inl ho
       exact .inr (by rw[ho];omega)
      rw[dH hg];rw[Nat.add_mul]at Sf;rw[Nat.zero_add];omega
     rw[R3]at Sv;simp only[Value.slice.injEq]at Sv;obtain⟨rfl,rfl,rfl⟩:=Sv;have hm:m=0:=by omega
     subst hm;have hr:=lW (P:=P) (w:=w) (ty:=o.type) ht S2 YG VG;rw[←Xm,←R3]at hr;subst RZ;have h2:=(hs.del b).CN hid B' (fun j=>by
      cases hc:B'.cell j with
      |none=>rfl
      |some c=>have:=(YE j c hc).1;simp at this) (by rw[XW])
     exact fin _ _ _ (Uq _ _ hr) h2 ⟨.inr rfl,by rw[lZ];simp,0,by simp,.inr ⟨by rw[lZ],R3,by simp,rfl⟩⟩
    cases RZ
  cases RZ
 cases RZ
theorem Ji (hT:eH P T){c:Call}(ho:o.op= .call c)(Tz:c.callee= .builtin .append){x y:Operand}(Ry:c.args= #[x,y]){t t':TypeId}(Si:c.argTypes= #[t,t']){e':TypeId}(SO:P.underlying t'=some (.slice e'))
  (SK:bU o s.n) (h:pn T s o.dst t x y K):mC P o s K:=by
 unfold pn at h
 cases hd:o.dst with
 |none=>rw[hd]at h;exact h.elim
 |some d=>
  rw[hd]at h;simp only at h
  cases RL:T t with
  |none=>rw[RL]at h;exact h.elim
  |some S=>
   rw[RL]at h;simp only at h
   split at h
   ·rename_i e TO
    have hu:=fk hT RL TO
    cases Sr:T e with
    |none=>rw[Sr]at h;exact h.elim
    |some E=>
     rw[Sr]at h;simp only at h;obtain⟨ei,ed,ez,S2,WJ,U6,WK,Tu,YB,Tn,Rz⟩:=bD hT Sr
     split at h
     ·rename_i cx cy hx hy
      cases hb:zL s.own E.size (DF cx)with
      |none=>rw[hb]at h;exact h.elim
      |some S4=>
       rw[hb]at h;simp only at h;have XX:∀G ρ a w,aR G (fun b=>b<s.nx) ρ s a w→aA ρ (fun b=>b<s.nx) (aE G s.own ρ w) w cx (a.eval x):=fun G ρ a w hs=>by
        have:=hs.ev x;rw[hx]at this;exact this
       have YF:∀G ρ a w,aR G (fun b=>b<s.nx) ρ s a w→aA ρ (fun b=>b<s.nx) (aE G s.own ρ w) w cy (a.eval y):=fun G ρ a w hs=>by
        have:=hs.ev y;rw[hy]at this;exact this
       have XV:∀G ρ a w,aR G (fun b=>b<s.nx) ρ s a w→aA ρ (fun b=>b<s.nx) (aE G s.own ρ w) w (DF cx) (a.eval x):=fun G ρ a w hs=>by
        have:=XX G ρ a w hs
        cases cx with
        |win b b2 o l=>exact this.2
        |_=>exact this
       split at h
       ·rename_i k hk
        split at h
        ·rename_i xs ys UA Wn
         obtain⟨SF,UC,⟨YL,WO⟩,hK⟩:=h;have Sy:ez.cells.size=ei.size:=by rw[←Tu,←SF,Tn];simp
         refine lA (wd:=E.size) (n:=xs.length) (m:=ys.length) (f0:=fun i _=>.int k (xs.getD i 0)) (f1:=fun i _=>.int k (ys.getD i 0)) hd (SK d hd) ho Tz Ry Si SO hu S2 U6 Sy XV Tu (by omega) hb (.ints e k (xs++ys)) (fun cs=>by simp) (by simp[Bk.len]) (fun j c hj=>?_) (by rw[←YB];exact YL) WO (fun G ρ a w hs=>?_) (fun G ρ a w hs=>?_) _ (fun _ _ _ _ h=>h) (by rw[UC,←X6];exact hK)
         ·simp only[Bk.cell]at hj;obtain⟨v,hv,rfl⟩:=Option.map_eq_some_iff.1 hj;obtain⟨R4,hjv⟩:=List.getElem?_eq_some_iff.1 hv;rw[X6]at R4;rw[UC,Nat.mul_one,Nat.div_one];refine⟨R4,?_⟩;subst hjv
          by_cases ZK:j<xs.length
          ·rw[if_pos ZK]
           congr 1
           rw[List.getElem_append_left ZK]
           simp[X8 ZK]
          rw[if_neg ZK]
          congr 1
          rw[List.getElem_append_right (by omega)]
          have:j-xs.length<ys.length:=by omega
          simp[X8 this]
         ·rw[UC];obtain⟨ad,cap,us,h1,h2⟩:=z5 hs (fun _ h=>h) (XX G ρ a w hs) UA;exact⟨ad,cap,us,h1,h2.Pj _⟩
         rw[UC];obtain⟨ad,cap,us,h1,h2⟩:=z5 hs (fun _ h=>h) (YF G ρ a w hs) Wn;exact⟨ad,cap,us,h1,h2.Pj _⟩
        exact h.elim
       split at h
       ·split at h
        ·rename_i b3 n f b4 m g UA Wn
         obtain⟨SF,UC,⟨YL,WO⟩,htag,hK⟩:=h;have Sy:ez.cells.size=ei.size:=by rw[←Tu,←SF,Tn];simp
         have src:∀{c:C} {v:Value} {G:Ctx} {ρ:Nat→Loc} {a:Act} {w:World} {bb k:Nat} {h:Nat→C} (B:Bk) (_:∃e b n g,B= .wins e b n g),aR G (fun b=>b<s.nx) ρ s a w→aA ρ (fun b=>b<s.nx) (aE G s.own ρ w) w c v→G1 s.own s.nx c=some (bb,k,h)→
           ∃ad cap us,v= .slice ad k cap∧tf (HF B ρ (fun b=>b<s.nx) (aE G s.own ρ w) w) w 1 k (fun i _=>h i) ad us:=by
          intro c v G ρ a w bb k h B hB hs hr hw;obtain⟨e1,b1,n1,g1,rfl⟩:=hB;unfold G1 at hw
          split at hw
          ·rename_i b b2 off len
           split at hw
           ·rename_i e3 b3 n3 g3 rw3 R7
            split at hw
            ·rename_i h0
             split at hw
             ·rename_i hln
              subst h0;subst hln;simp only[Option.some.injEq,Prod.mk.injEq]at hw;obtain⟨rfl,rfl,rfl⟩:=hw;exact Ff hs R7 hr.2
             cases hw
            cases hw
           cases hw
          split at hw
          ·rename_i n3 f3 hr3
           simp only[Option.some.injEq,Prod.mk.injEq]at hw;obtain⟨rfl,rfl,rfl⟩:=hw;obtain⟨ad,cap,us,h1,h2⟩:=pa hs (fun _ h=>h) hr hr3;exact⟨ad,cap,us,h1,(h2.congr (g:=fun i _=>f3 i 0) (fun i j _ hj=>by rw[show j=0 by omega])).Pj _⟩
          cases hw
         refine lA (wd:=E.size) (n:=n) (m:=m) (f0:=fun i _=>f i) (f1:=fun i _=>g i) hd (SK d hd) ho Tz Ry Si SO hu S2 U6 Sy XV Tu (by omega) hb (.wins e (if ux cy=true then b4 else b3) (n+m) (fun i=>if i<n then f i else g (i-n))) (fun cs=>by simp) rfl (fun j c hj=>?_) (by rw[←YB];exact YL) WO (fun G ρ a w hs=>?_) (fun G ρ a w hs=>?_) _ (fun ρ' ok' w' v h=>?_) hK
         ·simp only[Bk.cell]at hj;rw[UC,Nat.mul_one,Nat.div_one]
          split at hj
          ·rename_i Ru
           simp only[Option.some.injEq]at hj;exact⟨Ru,hj.symm⟩
          cases hj
         ·rw[UC];exact src _ ⟨_,_,_,_,rfl⟩ hs (XX G ρ a w hs) UA
         ·rw[UC];exact src _ ⟨_,_,_,_,rfl⟩ hs (YF G ρ a w hs) Wn
         rw[UC]at h;exact⟨.inl htag,h⟩
        exact h.elim
       split at h
       ·rename_i n f m g UA Wn
        obtain⟨SF,RR,⟨YL,WO⟩,hK⟩:=h;have Sy:ez.cells.size=ei.size:=by rw[←Tu,←SF,Tn];simp
        refine lA (wd:=E.size) (n:=n) (m:=m) (f0:=f) (f1:=g) hd (SK d hd) ho Tz Ry Si SO hu S2 U6 Sy XV Tu RR hb (.rows e E.size (n+m) (fun i j=>if i<n then f i j else g (i-n) j)) (fun cs=>by simp) rfl (fun j c hj=>?_) (by rw[←YB];exact YL) WO (fun G ρ a w hs=>?_) (fun G ρ a w hs=>?_) _ (fun _ _ _ _ h=>h) hK
        ·simp only[Bk.cell]at hj
         split at hj
         ·rename_i Ru
          simp only[Option.some.injEq]at hj;exact⟨Ru,hj.symm⟩
         cases hj
        ·obtain⟨ad,cap,us,h1,h2⟩:=pa hs (fun _ h=>h) (XX G ρ a w hs) UA;exact⟨ad,cap,us,h1,h2.Pj _⟩
        obtain⟨ad,cap,us,h1,h2⟩:=pa hs (fun _ h=>h) (YF G ρ a w hs) Wn;exact⟨ad,cap,us,h1,h2.Pj _⟩
       exact h.elim
     exact h.elim
   exact h.elim
end
end Go.Eng
namespace Go.Eng
open Go
def Bk.plain:Bk→Prop
 |.var cs=>cs.all gj=true
 |.wins .. =>False
 |_=>True
structure wP (l:Loc) (w w':World):Prop where
 os:w'.os=w.os
 tape:w'.tape=w.tape
 output:w'.output=w.output
 size:w.heap.size≤w'.heap.size
 block:∀k,k<w.heap.size→(∀o,l.addr≠some (k,o))→w'.heap[k]? =w.heap[k]?
 room:∀g,cd w g≤cd w' g
def Fz (ok:Nat→Prop)(w w':World)(g:Nat):Prop:=ok g∨(w.heap.size≤g∧g<w'.heap.size)
def Mc (P:Program)(f:FuncId)(args:List V)(B:Bk)(R:V→Bk→Prop):Prop:=
 iF P f∧∀(ok:Nat→Prop) (w:World) (vs:Array Value) (l:Loc),(∀g,ok g→g<w.heap.size)→l.len=B.len→(∀g o,l.addr=some (g,o)→g<w.heap.size∧¬ok g)→
  aL bm bn ok w l B→a6 (fun _=>l) (fun b=>b=0) ok w args vs.toList→
  Calls P f vs w fun e w'=>∃v r B',e= .returned v∧R r B'∧B'.plain∧B'.len=B.len∧wP l w w'∧
   aL bm bn (Fz ok w w') w' l B'∧bY (fun _=>l) (fun b=>b=0) (Fz ok w w') w' r v
def ME (b:Nat)(own:List (Nat×fA))(nx:Nat)(c:C):C:=
 match c with
 |.own b' wd off len=>if b'=b then .own 0 wd off len else jZ own nx (.own b' wd off len)
 |.ptr b' off=>if b'=b then .ptr 0 off else jZ own nx (.ptr b' off)
 |.win _ _ _ _=>.any
 |c=>jZ own nx c
def I2 (b:Nat)(own:List (Nat×fA))(nx:Nat):V→V
 |.one c=>.one (ME b own nx c)
 |.agg cs=>.agg (cs.map (ME b own nx))
 |_=>.unk
def Dv (b:Nat)(c:C):C:=
 match c with
 |.own _ wd off len=>.own b wd off len
 |.ptr _ off=>.ptr b off
 |.eptr _ _ _ _=>.any
 |.win _ _ _ _=>.any
 |.fn _ _ _=>.any
 |c=>c
def G3 (b:Nat):V→V
 |.one c=>.one (Dv b c)
 |_=>.unk
def tT (b:Nat):V→V
 |.one c=>.one (Dv b c)
 |.aF xs=>.aF (xs.map (G3 b))
 |_=>.unk
theorem aL.gP {ρ ρ':Nat→Loc}{dom dom' ok ok':Nat→Prop}{w:World}{l:Loc}{B:Bk}(hp:B.plain)(h:∀g,ok g→ok' g)(hr:aL ρ dom ok w l B):aL ρ' dom' ok' w l B:=by
 unfold aL at*
 cases ha:l.addr with
 |none=>rw[ha]at hr;exact hr
 |some p=>
  obtain⟨g,o⟩:=p;rw[ha]at hr;obtain⟨cur,e,hg,hc⟩:=hr;refine⟨cur,e,hg,fun j c hj=>?_⟩;obtain⟨u,hu,hr⟩:=hc j c hj;refine⟨u,hu,?_⟩
  cases B with
  |var cs=>
   have hm:c∈cs:=List.mem_of_getElem? hj;exact j9 (List.all_eq_true.1 hp c hm) hr
  |ints e k xs=>exact aO.ext (Ext.du h) _ _ hr
  |rows e wd n f=>exact aO.ext (Ext.du h) _ _ hr
  |wins e b2 n g=>exact hp.elim
section
variable {G:Ctx}{dom:Nat→Prop}{ρ:Nat→Loc}{s:St}{a:Act}{w:World}
theorem vg (hs:aR G dom ρ s a w)(b:Nat)(ids:List Nat)(c:C)(v:Value)(hi:∀b'∈gz c,b'≠b→b'∈ids)(hr:aA ρ dom (aE G s.own ρ w) w c v):
  aA (fun _=>ρ b) (fun i=>i=0) (cU G s.own ρ w ids) w (ME b s.own s.nx c) v:=by
 have o:Oper:=default;have SA:ig bn (fun i:Nat=>i=0) bm (fun _=>ρ b):=⟨fun _ h=>h.elim,fun _ h=>h.elim⟩;have hx:Ext (cU G s.own ρ w ids) (cU G s.own ρ w ids) w w:=Ext.refl _ _;have view:(∀b'∈gz c,b'<s.nx→b'∈ids)→aA (fun _=>ρ b) (fun i=>i=0) (cU G s.own ρ w ids) w (jZ s.own s.nx c) v:=fun SQ=>
  aA.ext hx SA _ _ (np hs (gp.refl s s.nx o) c v ids SQ hr)
 cases c with
 |own b' wd off len=>
  show aA _ _ _ w (ME b s.own s.nx (.own b' wd off len)) v;simp only[ME]
  by_cases hb:b'=b
  ·rw[if_pos hb];subst hb;obtain⟨_,h2,h3⟩:=hr;exact⟨rfl,h2,h3⟩
  rw[if_neg hb];refine view fun b2 Sc _=>hi b2 Sc ?_;simp only[gz,List.mem_singleton]at Sc;subst Sc;exact hb
 |ptr b' off=>
  show aA _ _ _ w (ME b s.own s.nx (.ptr b' off)) v;simp only[ME]
  by_cases hb:b'=b
  ·rw[if_pos hb];subst hb;obtain⟨_,h2⟩:=hr;exact⟨rfl,h2⟩
  rw[if_neg hb];refine view fun b2 Sc _=>hi b2 Sc ?_;simp only[gz,List.mem_singleton]at Sc;subst Sc;exact hb
 |win b' b2 off len=>exact(aA.plain (c:=.win b' b2 off len) hr).1
 |any=>exact view (fun _ h=>by simp[gz]at h)
 |bool t=>exact view (fun _ h=>by simp[gz]at h)
 |int k n=>exact view (fun _ h=>by simp[gz]at h)
 |str t=>exact view (fun _ h=>by simp[gz]at h)
 |nil=>exact view (fun _ h=>by simp[gz]at h)
 |ints k xs=>exact view (fun _ h=>by simp[gz]at h)
 |rows wd n f=>exact view (fun _ h=>by simp[gz]at h)
 |elt c wd i off=>exact view (fun _ h=>by simp[gz]at h)
 |eptr b wd i off=>exact view (fun _ h=>by simp[gz]at h)
 |fn f n caps=>exact view (fun _ h=>by simp[gz]at h)
theorem vK (hs:aR G dom ρ s a w)(b:Nat)(ids:List Nat)(x:V)(v:Value)(hi:∀b'∈kv x,b'≠b→b'∈ids)(hr:bY ρ dom (aE G s.own ρ w) w x v):
  dJ (fun _=>ρ b) (fun i=>i=0) (cU G s.own ρ w ids) w (I2 b s.own s.nx x) v:=by
 cases x with
 |one c=>exact vg hs b ids c v hi hr
 |agg cs=>
  obtain⟨vs,hv,hl⟩:=hr;refine⟨vs,hv,?_⟩
  generalize vs.toList=l at hl
  have SQ:∀c∈cs,∀b'∈gz c,b'≠b→b'∈ids:=fun c hc b' Se=>hi b' (List.mem_flatMap.2 ⟨c,hc,Se⟩);clear hv hi
  induction cs generalizing l with
  |nil=>cases l with
   |nil=>trivial
   |cons u l=>exact hl.elim
  |cons c cs ih=>
   cases l with
   |nil=>exact hl.elim
   |cons u l=>exact⟨vg hs b ids c u (SQ c (List.mem_cons_self ..)) hl.1,ih l hl.2 fun c' hc=>SQ c' (List.mem_cons_of_mem _ hc)⟩
 |aF xs=>trivial
 |unk=>trivial
theorem ru {dom:Nat→Prop}{ρ:Nat→Loc}{ok ok':Nat→Prop}{w:World}{b:Nat}(hb:dom b)(h:∀g,ok g→ok' g){c:C}{v:Value}(hr:aA (fun _=>ρ b) (fun i=>i=0) ok w c v):aA ρ dom ok' w (Dv b c) v:=by
 have hx:Ext ok ok' w w:=Ext.du h
 cases c with
 |own b' wd off len=>
  obtain⟨_,h2,h3⟩:=hr;exact⟨hb,h2,h3⟩
 |ptr b' off=>
  obtain⟨_,h2⟩:=hr;exact⟨hb,h2⟩
 |eptr b' wd i off=>exact(aA.plain (c:=.eptr b' wd i off) hr).1
 |win b' b2 off len=>exact(aA.plain (c:=.win b' b2 off len) hr).1
 |fn f n caps=>exact(aA.plain (c:=.fn f n caps) hr).1
 |any=>exact aO.ext hx .any v hr
 |bool t=>exact aO.ext hx (.bool t) v hr
 |int k n=>exact aO.ext hx (.int k n) v hr
 |str t=>exact aO.ext hx (.str t) v hr
 |nil=>exact aO.ext hx .nil v hr
 |ints k xs=>exact aO.ext hx (.ints k xs) v hr
 |rows wd n f=>exact aO.ext hx (.rows wd n f) v hr
 |elt c wd i off=>exact aO.ext hx (.elt c wd i off) v hr
theorem rD {dom:Nat→Prop}{ρ:Nat→Loc}{ok ok':Nat→Prop}{w:World}{b:Nat}(hb:dom b)(h:∀g,ok g→ok' g):∀{xs:List V} {vs:List Value},a6 (fun _=>ρ b) (fun i=>i=0) ok w xs vs→a6 ρ dom ok' w (xs.map (G3 b)) vs
 |[],[],_=>trivial
 |x::xs,v::vs,hr=>by
  refine⟨?_,rD hb h hr.2⟩
  cases x with
  |one c=>exact ru (c:=c) hb h hr.1
  |unk=>trivial
  |agg cs=>trivial
  |aF ys=>trivial
 |[],_::_,hr=>hr.elim
 |_::_,[],hr=>hr.elim
theorem zT {dom:Nat→Prop}{ρ:Nat→Loc}{ok ok':Nat→Prop}{w:World}{b:Nat}(hb:dom b)(h:∀g,ok g→ok' g){x:V}{v:Value}(hr:bY (fun _=>ρ b) (fun i=>i=0) ok w x v):bY ρ dom ok' w (tT b x) v:=by
 cases x with
 |one c=>exact ru (c:=c) hb h hr
 |unk=>trivial
 |agg cs=>trivial
 |aF xs=>
  obtain⟨vs,h1,h2⟩:=hr;exact⟨vs,h1,rD hb h h2⟩
theorem aR.Ov (h:aR G dom ρ s a w){b:Nat}{B:Bk}(hl:lo s.own b=some ⟨B,true⟩){ids:List Nat}(SJ:b∉ids){w':World}(hm:wP (ρ b) w w'){B':Bk}(hp:B'.plain)(hlen:B'.len=B.len)
  (Rx:aL bm bn (Fz (cU G s.own ρ w ids) w w') w' (ρ b) B'):
  aR G dom ρ {s with own:=dZ (Eng.dF s.own ids) b ⟨B',true⟩} a w'∧∀g,Fz (cU G s.own ρ w ids) w w' g→aE G (dZ (Eng.dF s.own ids) b ⟨B',true⟩) ρ w' g:=by
 obtain⟨hd,Wo,Vq,WQ⟩:=h.own b _ hl;have RS:∀b2 B2,b2≠b→lo (Eng.dF s.own ids) b2=some B2→∃B3,lo s.own b2=some B3∧B2.bk=B3.bk∧(B2.rw=true→B3.rw=true∧b2∉ids):=by
  intro b2 B2 _ h2;rw[fy]at h2
  cases h3:lo s.own b2 with
  |none=>rw[h3]at h2;simp at h2
  |some B3=>
   rw[h3]at h2;simp only[Option.map_some,Option.some.injEq]at h2
   by_cases hm:ids.contains b2=true
   ·rw[if_pos hm]at h2;subst h2;exact⟨B3,rfl,rfl,fun h=>by simp at h⟩
   rw[if_neg hm]at h2;subst h2;exact⟨B3,rfl,rfl,fun h=>⟨h,by simpa using hm⟩⟩
 have RW:∀g,Fz (cU G s.own ρ w ids) w w' g→aE G (dZ (Eng.dF s.own ids) b ⟨B',true⟩) ρ w' g:=by
  have step:∀g,g<w'.heap.size→¬G.forb g→(∀o,(ρ b).addr≠some (g,o))→(∀b2 B2,b2≠b→lo (Eng.dF s.own ids) b2=some B2→B2.rw=true→∀o2,(ρ b2).addr≠some (g,o2))→aE G (dZ (Eng.dF s.own ids) b ⟨B',true⟩) ρ w' g:=by
   intro g h1 h2 h3 h4;refine⟨h1,h2,fun b2 B2 Rv RN o2=>?_⟩;rw[bX]at Rv
   by_cases RJ:b2=b
   ·subst RJ;exact h3 o2
   rw[if_neg RJ]at Rv;exact h4 b2 B2 RJ Rv RN o2
  rintro g ((h3|⟨b1,RJ,B2,o',SW,R8⟩)|⟨h3,h4⟩)
  ·refine step g (Nat.lt_of_lt_of_le h3.1 hm.size) h3.2.1 (h3.2.2 b _ hl rfl) fun b2 B2 RE h2 RN o2=>?_;obtain⟨B3,h5,_,h6⟩:=RS b2 B2 RE h2;exact h3.2.2 b2 B3 h5 (h6 RN).1 o2
  ·obtain⟨_,_,_,h4⟩:=h.own b1 B2 SW;obtain⟨h5,h6,_⟩:=h4 g o' R8;have hne1:b≠b1:=fun e=>SJ (e▸RJ);refine step g (Nat.lt_of_lt_of_le h5 hm.size) h6 (fun o he=>h.inj b _ b1 B2 hl SW hne1 rfl g o o' he R8) fun b2 B3 RE h2 RN o2 he=>?_;obtain⟨B4,h7,_,h8⟩:=RS b2 B3 RE h2;obtain⟨h9,TU⟩:=h8 RN;exact h.inj b2 B4 b1 B2 h7 SW (fun e=>TU (e▸RJ)) h9 g o2 o' he R8
  refine step g h4 (fun hf=>absurd (h.wf _ hf) (by have:=h.size;omega)) (fun o he=>absurd (WQ g o he).1 (by omega)) fun b2 B2 RE h2 RN o2 he=>?_;obtain⟨B3,h5,_,_⟩:=RS b2 B2 RE h2;exact absurd ((h.own b2 B3 h5).2.2.2 g o2 he).1 (by omega)
 have RF:Ext (aE G s.own ρ w) (aE G (dZ (Eng.dF s.own ids) b ⟨B',true⟩) ρ w') w w':=
  ⟨fun g hg=>⟨RW g (.inl (.inl hg)),hm.block g hg.1 (hg.2.2 b _ hl rfl)⟩,hm.room⟩
 have hs:ig dom dom ρ ρ:=⟨fun _ h=>h,fun _ _=>rfl⟩;refine⟨h.rR RF hs ?_ ?_ hm.os hm.tape hm.output hm.size ?_,RW⟩
 ·intro b2 B2 Rv;rw[bX]at Rv
  by_cases RJ:b2=b
  ·subst RJ;rw[if_pos rfl]at Rv;obtain rfl:=Option.some.inj Rv;exact⟨hd,by rw[Wo];exact hlen.symm,Rx.gP hp RW,fun g o ha=>⟨Nat.lt_of_lt_of_le (WQ g o ha).1 hm.size,(WQ g o ha).2⟩⟩
  rw[if_neg RJ]at Rv;obtain⟨B3,h5,h6,_⟩:=RS b2 B2 RJ Rv;obtain⟨h7,h8,h9,TU⟩:=h.own b2 B3 h5;rw[h6];exact⟨h7,h8,aL.ext RF hs _ _ (fun g o ha=>hm.block g (TU g o ha).1 fun o2 he=>h.inj b _ b2 B3 hl h5 (fun e=>RJ e.symm) rfl g o2 o he ha) h9,fun g o ha=>⟨Nat.lt_of_lt_of_le (TU g o ha).1 hm.size,(TU g o ha).2⟩⟩
 ·have UH:∀b2 B2,lo (dZ (Eng.dF s.own ids) b ⟨B',true⟩) b2=some B2→∃B3,lo s.own b2=some B3∧(B2.rw=true→B3.rw=true):=by
   intro b2 B2 Rv;rw[bX]at Rv
   by_cases RJ:b2=b
   ·subst RJ;exact⟨_,hl,fun _=>rfl⟩
   rw[if_neg RJ]at Rv;obtain⟨B3,h5,_,h7⟩:=RS b2 B2 RJ Rv;exact⟨B3,h5,fun h=>(h7 h).1⟩
  intro b1 B1 b2 B2 SW Rv RE RN;obtain⟨B3,h5,h6⟩:=UH b1 B1 SW;obtain⟨B4,h7,_⟩:=UH b2 B2 Rv;exact h.inj b1 B3 b2 B4 h5 h7 RE (h6 RN)
 intro k hk hmine;refine hm.block k (Nat.lt_of_lt_of_le hk h.size) fun o he=>?_
 rcases(WQ k o he).2.2 with h1|h1
 ·omega
 exact hmine h1
end
def LS (b:Nat)(raw:List V):List Nat:=(raw.map kv).flatten.filter (fun b'=>b' !=b)
def OI (s:St)(dst:Option Tmp)(b:Nat)(raw:List V)(r:V)(B':Bk):St:={s.put dst (tT b r)with own:=dZ (dF s.own (LS b raw)) b ⟨B',true⟩}
def yF (c:Option C)(v u:Value):Value:=match c with
 |some _=>.tuple #[v,u]
 |none=>v
def uA (P:Program)(f:FuncId)(args:List V)(n:Nat)(g:Nat→Nat→C)(B:Bk)(c:Option C):Prop:=
 (∀c',c=some c'→l9 c')∧iF P f∧B.flat∧∀(ok:Nat→Prop) (w:World) (vs:Array Value),(∀g,ok g→g<w.heap.size)→a6 bm bn ok w args vs.toList→
  Calls P f vs w fun e w'=>∃v u l1 l2,e= .returned (yF c v u)∧Go.RowKit.Below w.heap.size w w'∧l1.len=n∧l2.len=B.len∧
   (∀g o,l1.addr=some (g,o)→w.heap.size≤g∧g<w'.heap.size)∧(∀g o,l2.addr=some (g,o)→w.heap.size≤g∧g<w'.heap.size)∧(∀g o o',l1.addr=some (g,o)→l2.addr≠some (g,o'))∧
   aL bm bn (fun g=>ok g∨(w.heap.size≤g∧g<w'.heap.size∧∀o,l1.addr≠some (g,o)∧l2.addr≠some (g,o))) w' l2 B∧
   (∀(ρ:Nat→Loc) (dom ok':Nat→Prop) (b b2:Nat),ρ b=l1→ρ b2=l2→dom b→dom b2→(∀g,(ok g∨(w.heap.size≤g∧g<w'.heap.size∧∀o,l1.addr≠some (g,o)∧l2.addr≠some (g,o)))→ok' g)→
    aL ρ dom ok' w' l1 (.wins 0 b2 n (g b2))∧aA ρ dom ok' w' (.win b b2 0 n) v)∧∀c',c=some c'→aA bm bn (fun _=>False) w' c' u
def F9 (c:Option C)(x:C):V:=match c with
 |some c=>.aF [.one x,.one c]
 |none=>.one x
def Iw (raw:List V):List Nat:=(raw.map kv).flatten
def OG (s:St)(dst:Option Tmp)(raw:List V)(n:Nat)(g:Nat→Nat→C)(B:Bk)(c:Option C):St:=
 {s.put dst (F9 c (.win s.nx (s.nx+1) 0 n))with own:=dZ (dZ (dF s.own (Iw raw)) s.nx ⟨.wins 0 (s.nx+1) n (g (s.nx+1)),true⟩) (s.nx+1) ⟨B,true⟩,nx:=s.nx+2}
def xQ (P:Program)(f:FuncId)(raw:List V)(s:St)(dst:Option Tmp)(K:St→Prop):Prop:=
 (∃b B R,lo s.own b=some ⟨B,true⟩∧B.plain∧Mc P f (raw.map (I2 b s.own s.nx)) B R∧∀r B',R r B'→B'.len=B.len→eG K (OI s dst b raw r B'))∨
 (∃n g B c,uA P f (raw.map (BQ s.own s.nx)) n g B c∧eG K (OG s dst raw n g B c))
theorem NG {P:Program}{f:FuncId}{s:St}{dst:Option Tmp}{K:St→Prop}{raw:List V}{n:Nat}{g:Nat→Nat→C}{B:Bk}{c0:Option C}(hF:uA P f (raw.map (BQ s.own s.nx)) n g B c0)(hK:K (OG s dst raw n g B c0))(hd:∀d,dst=some d→d<s.n)
  {G:Ctx} {a:Act} {w:World} {ρ:Nat→Loc} (hs:aR G (fun b=>b<s.nx) ρ s a w) {vs:Array Value} (R1:a6 bm bn (cU G s.own ρ w (Iw raw)) w (raw.map (BQ s.own s.nx)) vs.toList):
  Calls P f vs w fun e w'=>∃v,e= .returned v∧∃s',K s'∧oL G s' (a.put dst v) w':=by
 obtain⟨Wj,Ss,UU,hF⟩:=hF;have o:Oper:=default
 let ids:=Iw raw
 have Ru:∀g,cU G s.own ρ w ids g→g<w.heap.size:=by
  rintro g (h1|⟨b,_,B,o',hl,R8⟩)
  ·exact h1.1
  exact((hs.own b B hl).2.2.2 g o' R8).1
 refine Calls.mono (hF _ w _ Ru R1) fun e w' he=>?_;obtain⟨v,u,l1,l2,rfl,hb,SW,Rv,hn1,V8,hdj,Rx,hwin,hu⟩:=he;refine⟨_,rfl,_,hK,?_⟩;have h2:=hs.dF ids
 let VJ:=dZ (dZ (dF s.own ids) s.nx ⟨.wins 0 (s.nx+1) n (g (s.nx+1)),true⟩) (s.nx+1) ⟨B,true⟩
 let ρ2:=aZ (aZ ρ s.nx l1) (s.nx+1) l2
 have T7:ρ2 s.nx=l1:=by show aZ _ _ _ _=_;rw[aU _ _ (by omega),lZ]
 have U8:ρ2 (s.nx+1)=l2:=lZ ..;have Vl:∀b B3,lo VJ b=some B3→(ρ2 b=l2)∨(ρ2 b=l1)∨(lo (dF s.own ids) b=some B3∧ρ2 b=ρ b):=by
  intro b B3 hl;rw[bX]at hl
  by_cases h1:b=s.nx+1
  ·exact .inl (by rw[h1];exact U8)
  rw[if_neg h1,bX]at hl
  by_cases h3:b=s.nx
  ·exact .inr (.inl (by rw[h3];exact T7))
  rw[if_neg h3]at hl;exact .inr (.inr ⟨hl,by show aZ _ _ _ _=_;rw[aU _ _ h1,aU _ _ h3]⟩)
 have RW:∀g,(cU G s.own ρ w ids g∨(w.heap.size≤g∧g<w'.heap.size∧∀o,l1.addr≠some (g,o)∧l2.addr≠some (g,o)))→aE G VJ ρ2 w' g:=by
  have step:∀g,g<w'.heap.size→¬G.forb g→(∀o,l1.addr≠some (g,o)∧l2.addr≠some (g,o))→(∀b2 B2,lo (dF s.own ids) b2=some B2→B2.rw=true→∀o2,(ρ b2).addr≠some (g,o2))→aE G VJ ρ2 w' g:=by
   intro g h1 h2 h3 h4;refine⟨h1,h2,fun b2 B2 Rv RN o2=>?_⟩
   rcases Vl b2 B2 Rv with e|e|⟨e1,e⟩<;>rw [e]
   ·exact(h3 o2).2
   ·exact(h3 o2).1
   exact h4 b2 B2 e1 RN o2
  rintro g ((h3|⟨b,RJ,B2,o',hl,R8⟩)|⟨h3,h4,h5⟩)
  ·exact step g (Nat.lt_of_lt_of_le h3.1 hb.size) h3.2.1 (fun o=>⟨fun he=>absurd h3.1 (by have:=(hn1 g o he).1;omega),fun he=>absurd h3.1 (by have:=(V8 g o he).1;omega)⟩) (kI h3).2.2
  ·obtain⟨_,_,_,h4⟩:=hs.own b B2 hl;obtain⟨h5,h6,_⟩:=h4 g o' R8;refine step g (Nat.lt_of_lt_of_le h5 hb.size) h6 (fun o=>⟨fun he=>absurd h5 (by have:=(hn1 g o he).1;omega),fun he=>absurd h5 (by have:=(V8 g o he).1;omega)⟩) fun b2 B3 Rv RN o2 RT=>?_;rw[fy]at Rv
   cases R7:lo s.own b2 with
   |none=>rw[R7]at Rv;simp at Rv
   |some B4=>
    rw[R7]at Rv;simp only[Option.map_some,Option.some.injEq]at Rv
    by_cases hm:ids.contains b2=true
    ·rw[if_pos hm]at Rv;subst Rv;simp at RN
    rw[if_neg hm]at Rv;subst Rv
    by_cases TP:b2=b
    ·subst TP;exact hm (by simpa using RJ)
    exact hs.inj b2 B4 b B2 R7 hl TP RN g o2 o' RT R8
  refine step g h4 (fun hf=>absurd (hs.wf _ hf) (by have:=hs.size;omega)) h5 fun b2 B2 Rv _ o2 RT=>?_;rw[fy]at Rv
  cases R7:lo s.own b2 with
  |none=>rw[R7]at Rv;simp at Rv
  |some B3=>exact absurd ((hs.own b2 B3 R7).2.2.2 g o2 RT).1 (by omega)
 let Wp:Nat→Prop:=fun b=>(b<s.nx∨b=s.nx)∨b=s.nx+1
 obtain⟨Xn,WR⟩:=hwin ρ2 Wp (aE G VJ ρ2 w') s.nx (s.nx+1) T7 U8 (.inl (.inr rfl)) (.inr rfl) RW;have h3:=h2.LL hb (i:=s.nx) (j:=s.nx+1) (Nat.lt_irrefl _) (by omega) (by omega) (.wins 0 (s.nx+1) n (g (s.nx+1))) B l1 l2 SW Rv hn1 V8 hdj Xn
  (aL.ext (dom:=bn) (ρ:=bm) (Ext.du RW) ⟨fun b hb=>hb.elim,fun b hb=>hb.elim⟩ _ _ (fun _ _ _=>rfl) Rx)
 have YM:bY ρ2 Wp (aE G VJ ρ2 w') w' (F9 c0 (.win s.nx (s.nx+1) 0 n)) (yF c0 v u):=by
  cases c0 with
  |none=>exact WR
  |some c=>
   have h1:=Wj c rfl;have h2:=hu c rfl
   exact⟨_,rfl,WR,(by cases c<;>first|exact h1.elim|exact h2),trivial⟩
 have h4:=h3.put (dst:=dst) (x:=F9 c0 (.win s.nx (s.nx+1) 0 n)) (v:=yF c0 v u) hd YM;refine⟨ρ2,?_⟩;have e2:aR G Wp ρ2 (OG s dst raw n g B c0) (a.put dst (yF c0 v u)) w':=by
  obtain⟨q1,q2,q3,q4,q5,q6,q7,q8,q9,q10,q11,q12,q13⟩:=h4
  cases dst
  ·exact⟨q1,q2,q3,q4,q5,q6,q7,q8,q9,q10,q11,q12,q13⟩
  exact⟨q1,q2,q3,q4,q5,q6,q7,q8,q9,q10,q11,q12,q13⟩
 have e3:Wp=fun b=>b<(OG s dst raw n g B c0).nx:=by
  funext b
  show((b<s.nx∨b=s.nx)∨b=s.nx+1)=(b<s.nx+2)
  exact propext ⟨fun h=>by omega,fun h=>by omega⟩
 rw[e3]at e2;exact e2
def nZ (P:Program)(op:Op)(dst:Option Tmp)(s:St)(K:St→Prop):Prop:=
 match op with
 |.call c=>match c.callee with
  |.value g=>match s.ev g with
   |.one (.fn f n _)=>n=0∧xQ P f (c.args.toList.map s.ev) s dst K
   |_=>False
  |_=>False
 |_=>False
theorem G7 {P:Program}{o:Oper}{s:St}{K:St→Prop}(hd:bU o s.n)(h:nZ P o.op o.dst s K):mC P o s K:=by
 unfold nZ at h
 split at h
 ·rename_i c ho
  split at h
  ·rename_i g hc
   split at h
   ·rename_i f n caps hg
    obtain⟨rfl,h⟩:=h;intro G a w RC Q next hk;obtain⟨ρ,hs⟩:=RC;have UX:=hs.ev g;rw[hg]at UX;obtain⟨cs,UX,R2,_⟩:=UX;obtain rfl:cs= #[]:=Array.eq_empty_of_size_eq_zero R2;have RB:iF P f→(execOp a.eval o).run P w= .ok (.enter f (c.args.map a.eval)) w:=by
     intro Ss;unfold execOp;rw[ho];simp only[resolve,hc,Sem.run_bind,UX,Deferred.ofValue,Sem.run_pure,Result.andThen_ok,invoke]
     have:=kX (w:=w) Ss (c.args.map a.eval)
     simpa using this
    rcases h with⟨b,B,R,hl,TR,⟨Ss,hmut⟩,hK⟩|⟨n0,g0,B,c0,hF,hK⟩
    rotate_left
    ·unfold Oper.wp;rw[RB hF.2.1,Oper.upon_enter];refine Calls.mono (NG hF hK (dst:=o.dst) hd hs (vs:=c.args.map a.eval) ?_) fun e w' he=>?_
     ·rw[Array.toList_map]
      have:=a6.mc (ρ:=bm) (dom:=bn) (ok:=cU G s.own ρ w (Iw (c.args.toList.map s.ev))) (w:=w) (fun x=>BQ s.own s.nx (s.ev x)) a.eval c.args.toList fun x hx=>
       nL hs (gp.refl s s.nx o) _ _ _ (fun b' Se _=>List.mem_flatten.2 ⟨_,List.mem_map.2 ⟨s.ev x,List.mem_map.2 ⟨x,hx,rfl⟩,rfl⟩,Se⟩) (hs.ev x)
      simpa[List.map_map,Function.comp_def]using this
     obtain⟨v,rfl,s',h1,h2⟩:=he;exact hk _ _ _ h1 h2
    unfold Oper.wp;rw[RB Ss,Oper.upon_enter]
    let raw:=c.args.toList.map s.ev
    let ids:=LS b raw
    have SJ:b∉ids:=by simp[ids,LS]
    obtain⟨WI,Wo,Vq,WQ⟩:=hs.own b _ hl;have Ru:∀g,cU G s.own ρ w ids g→g<w.heap.size:=by
     rintro g (h1|⟨b,_,B,o',hl,R8⟩)
     ·exact h1.1
     exact((hs.own b B hl).2.2.2 g o' R8).1
    have Wq:∀g o1,(ρ b).addr=some (g,o1)→g<w.heap.size∧¬cU G s.own ρ w ids g:=by
     intro g o1 ha;refine⟨(WQ g o1 ha).1,?_⟩
     rintro(h1|⟨b1,Uk,B1,o',SW,R8⟩)
     ·exact h1.2.2 b _ hl rfl o1 ha
     exact hs.inj b _ b1 B1 hl SW (fun e=>SJ (e▸Uk)) rfl g o1 o' ha R8
    have Ry:a6 (fun _=>ρ b) (fun i=>i=0) (cU G s.own ρ w ids) w (raw.map (I2 b s.own s.nx)) (c.args.map a.eval).toList:=by
     rw[Array.toList_map]
     have:=a6.mc (ρ:=fun _=>ρ b) (dom:=fun i=>i=0) (ok:=cU G s.own ρ w ids) (w:=w) (fun x=>I2 b s.own s.nx (s.ev x)) a.eval c.args.toList fun x hx=>by
      refine vK hs b ids _ _ (fun b' Se RE=>?_) (hs.ev x);refine List.mem_filter.2 ⟨List.mem_flatten.2 ⟨_,List.mem_map.2 ⟨s.ev x,List.mem_map.2 ⟨x,hx,rfl⟩,rfl⟩,Se⟩,by simpa using RE⟩
     simpa[raw,List.map_map,Function.comp_def]using this
    have Wr:aL bm bn (cU G s.own ρ w ids) w (ρ b) B:=Vq.gP TR fun g hg=>.inl hg;refine Calls.mono (hmut _ w _ (ρ b) Ru Wo Wq Wr Ry) fun e w' he=>?_;obtain⟨v,r,B',rfl,hR,UD,WS,hm,Rx,RI⟩:=he;obtain⟨VK,RW⟩:=hs.Ov hl SJ hm UD WS Rx;refine hk _ _ _ (hK r B' hR WS) ⟨ρ,?_⟩;have TF:bY ρ (fun i=>i<s.nx) (aE G (dZ (dF s.own ids) b ⟨B',true⟩) ρ w') w' (tT b r) v:=zT (dom:=fun i=>i<s.nx) WI RW RI;have h4:=VK.put (dst:=o.dst) (x:=tT b r) (v:=v) hd TF;have e2:OI s o.dst b raw r B'=St.put {s with own:=dZ (dF s.own ids) b ⟨B',true⟩} o.dst (tT b r):=by
     unfold OI St.put
     cases o.dst<;>rfl
    show aR G _ _ (OI s o.dst b raw r B') _ w';rw[e2]
    have So:(St.put {s with own:=dZ (dF s.own ids) b ⟨B',true⟩} o.dst (tT b r)).nx=s.nx:=by cases o.dst<;>rfl
    rw[So];exact h4
   exact h.elim
  exact h.elim
 exact h.elim
end Go.Eng
namespace Go.Eng
open Go
structure Ae (s s':St):Prop where
 env:∀t,lk s.env t=lk s'.env t
 own:∀b,lo s.own b=lo s'.own b
 n:s.n=s'.n
theorem Ae.refl (s:St):Ae s s:=⟨fun _=>rfl,fun _=>rfl,rfl⟩
theorem Ae.trans {a b c:St}(h:Ae a b)(k:Ae b c):Ae a c:=⟨fun t=>(h.env t).trans (k.env t),fun t=>(h.own t).trans (k.own t),h.n.trans k.n⟩
theorem Ae.symm {a b:St}(h:Ae a b):Ae b a:=⟨fun t=>(h.env t).symm,fun t=>(h.own t).symm,h.n.symm⟩
theorem aR.FY {G:Ctx}{dom:Nat→Prop}{ρ:Nat→Loc}{s s':St}{a:Act}{w:World}(h:aR G dom ρ s a w)(hs:Ae s s'):aR G dom ρ s' a w:=by
 have RW:aE G s'.own ρ w=aE G s.own ρ w:=by
  funext g
  unfold aE;simp only[hs.own]
 exact{
     hd:=h.hd,hn:=h.hn.trans hs.n,env:=fun t=>by rw[RW,←hs.env t];exact h.env t,own:=fun b B hl=>by rw[RW];exact h.own b B (by rw[hs.own];exact hl),
     inj:=fun b B b' B' hl SC=>h.inj b B b' B' (by rw[hs.own];exact hl) (by rw[hs.own];exact SC),os:=h.os,tape:=h.tape,output:=h.output,size:=h.size,keep:=h.keep,wf:=h.wf,home:=h.home,room:=h.room}
theorem Di (s:St)(dst:Option Tmp)(v:V)(t:Nat):lk (s.put dst v).env t=if dst=some t then v else lk s.env t:=by
 cases dst with
 |none=>simp[St.put]
 |some d=>
  simp only[St.put,DR,Option.some.injEq]
  by_cases h:t=d
  ·subst h;simp
  rw[if_neg h,if_neg (fun e=>h e.symm)]
theorem j5 (s:St)(dst:Option Tmp)(id:Nat)(e:eJ)(t:Nat):lk (s.add dst id e).env t=if dst=some t then e.val else lk s.env t:=by
 have:(s.add dst id e).env=(s.put dst e.val).env:=by unfold St.add;split<;>rfl
 rw[this,Di]
def gi (fz:List Nat)(b:Nat)(v:fA):fA:=if fz.contains b then⟨v.bk,false⟩else v
theorem pD (s:St)(dst:Option Tmp)(id:Nat)(e:eJ)(b:Nat):lo (s.add dst id e).own b=(match e.vJ with
  |some B=>if b=id then some ⟨B,true⟩else(lo s.own b).map (gi e.fz b)
  |none=>(lo s.own b).map (gi e.fz b)):=by
 unfold St.add
 cases e.vJ with
 |none=>simp only[xL];rw[fy];rfl
 |some B=>simp only[xL,bX];split<;>first|rfl|(rw[fy];rfl)
theorem Dn (s:St)(dst:Option Tmp)(id:Nat)(e:eJ):(s.add dst id e).n=s.n:=by
 unfold St.add;split<;>(cases dst<;>rfl)
theorem Ae.add {s s':St}(h:Ae s s')(dst:Option Tmp)(id:Nat)(e:eJ):Ae (s.add dst id e) (s'.add dst id e):=
 ⟨fun t=>by rw[j5,j5,h.env],fun b=>by rw[pD,pD,h.own],by rw[Dn,Dn,h.n]⟩
theorem EM (s:St){d1 d2:Option Tmp}{i1 i2:Nat}{e1 e2:eJ}(hd:∀t,d1=some t→d2≠some t)(hi:i1≠i2)(h1:∀b∈e1.fz,b≠i2)(h2:∀b∈e2.fz,b≠i1):
  Ae ((s.add d1 i1 e1).add d2 i2 e2) ((s.add d2 i2 e2).add d1 i1 e1):=by
 refine⟨fun t=>?_,fun b=>?_,by simp only[Dn]⟩
 ·simp only[j5]
  by_cases h:d1=some t
  ·rw[if_pos h,if_neg (hd t h),if_pos h]
  rw[if_neg h,if_neg h]
 simp only[pD];have hc:∀(v:fA),gi e2.fz b (gi e1.fz b v)=gi e1.fz b (gi e2.fz b v):=fun v=>by
  unfold gi;split<;>split<;>rfl
 have UZ:(lo s.own b).map (gi e2.fz b∘gi e1.fz b)=(lo s.own b).map (gi e1.fz b∘gi e2.fz b):=by
  congr 1;funext v;exact hc v
 have n1:b=i2→∀B:Bk,(some (⟨B,true⟩:fA)).map (gi e1.fz b)=some ⟨B,true⟩:=fun hb B=>by
  subst hb;simp only[Option.map_some,gi];rw[if_neg (fun hc=>h1 b (by simpa using hc) rfl)]
 have n2:b=i1→∀B:Bk,(some (⟨B,true⟩:fA)).map (gi e2.fz b)=some ⟨B,true⟩:=fun hb B=>by
  subst hb;simp only[Option.map_some,gi];rw[if_neg (fun hc=>h2 b (by simpa using hc) rfl)]
 cases e1.vJ with
 |none=>
  cases e2.vJ with
  |none=>simp only[Option.map_map];exact UZ
  |some B2=>
   simp only
   by_cases hb:b=i2
   ·rw[if_pos hb,if_pos hb,n1 hb]
   rw[if_neg hb,if_neg hb];simp only[Option.map_map];exact UZ
 |some B1=>
  cases e2.vJ with
  |none=>
   simp only
   by_cases hb:b=i1
   ·rw[if_pos hb,if_pos hb,n2 hb]
   rw[if_neg hb,if_neg hb];simp only[Option.map_map];exact UZ
  |some B2=>
   simp only
   by_cases hb:b=i1
   ·rw[if_pos hb,if_neg (fun e=>hi (hb.symm.trans e)),if_pos hb,n2 hb]
   by_cases Sc:b=i2
   ·rw[if_pos Sc,if_neg hb,if_pos Sc,n1 Sc]
   rw[if_neg Sc,if_neg hb,if_neg hb,if_neg Sc];simp only[Option.map_map];exact UZ
def eJ.skip:eJ:=⟨.aF [],none,[]⟩
def gv:V→Option (Option Bool)
 |.one (.bool b)=>some (some b)
 |.aF []=>some none
 |_=>none
def lM (P:Program)(ops:Array Oper)(nx0 i:Nat)(o:Oper)(s:St)(e:eJ):Prop:=
 bU o s.n∧match o.guard with
 |none=>a7 P o s nx0 (nx0+i) e
 |some (g,want)=>∃t b,(ops[g]?).bind (·.dst)=some t∧gv (lk s.env t)=some b∧(if b=some want then a7 P o s nx0 (nx0+i) e else e=eJ.skip)
def br (ops:Array Oper)(k:Nat):Option Tmp:=(ops[k]?).bind (·.dst)
def aK (σ:St)(nx0:Nat)(ops:Array Oper)(e:Nat→eJ)(L:Nat→Bool):Nat→St
 |0=>σ
 |k+1=>if L k then(aK σ nx0 ops e L k).add (br ops k) (nx0+k) (e k)else aK σ nx0 ops e L k
section
variable {σ:St}{nx0:Nat}{ops:Array Oper}{e:Nat→eJ}
theorem fN (L:Nat→Bool)(k:Nat):(aK σ nx0 ops e L k).n=σ.n:=by
 induction k with
 |zero=>rfl
 |succ k ih=>simp only[aK];split<;>simp only[Dn,ih]
theorem cO {L L':Nat→Bool}(k:Nat)(h:∀j,j<k→L j=L' j):aK σ nx0 ops e L k=aK σ nx0 ops e L' k:=by
 induction k with
 |zero=>rfl
 |succ k ih=>simp only[aK,h k (Nat.lt_succ_self k),ih (fun j hj=>h j (Nat.lt_succ_of_lt hj))]
theorem ni {N:Nat}{L:Nat→Bool}{i:Nat}(hi:L i=false)(SB:∀j k t,j<N→k<N→j≠k→br ops j=some t→br ops k=some t→False)(S7:∀j,∀b∈(e j).fz,b<nx0):
  ∀k,k≤N→i<k→Ae (aK σ nx0 ops e (fun j=>L j||j==i) k) ((aK σ nx0 ops e L k).add (br ops i) (nx0+i) (e i)):=by
 intro k
 induction k with
 |zero=>intro _ h;omega
 |succ k ih=>
  intro XY T8
  by_cases hk:i=k
  ·subst hk;simp only[aK,beq_self_eq_true,Bool.or_true,if_true,hi,Bool.false_eq_true,if_false]
   rw[cO (L:=fun j=>L j||j==i) (L':=L) i (fun j hj=>by simp;omega)]
   exact Ae.refl _
  have ih':=ih (by omega) (by omega);have RE:(k==i)=false:=by simp;omega
  simp only[aK,RE,Bool.or_false]
  by_cases hL:L k=true
  ·simp only[hL,if_true];exact(ih'.add _ _ _).trans (EM _ (fun t h1 h2=>SB i k t (by omega) (by omega) hk h1 h2) (by omega) (fun b hb h=>by have:=S7 i b hb;omega) (fun b hb h=>by have:=S7 k b hb;omega))
  simp only[hL,Bool.false_eq_true,if_false];exact ih'
theorem oe (L:Nat→Bool)(t:Nat):∀k,(∀j,j<k→br ops j≠some t)→lk (aK σ nx0 ops e L k).env t=lk σ.env t:=by
 intro k
 induction k with
 |zero=>intro _;rfl
 |succ k ih=>
  intro h;simp only[aK]
  split
  ·rw[j5,if_neg (h k (Nat.lt_succ_self k))];exact ih (fun j hj=>h j (Nat.lt_succ_of_lt hj))
  exact ih (fun j hj=>h j (Nat.lt_succ_of_lt hj))
theorem dD {N:Nat}(L:Nat→Bool){t j:Nat}(hj:br ops j=some t)(hL:L j=true)(SB:∀j k t,j<N→k<N→j≠k→br ops j=some t→br ops k=some t→False):
  ∀k,k≤N→j<k→lk (aK σ nx0 ops e L k).env t=(e j).val:=by
 intro k
 induction k with
 |zero=>intro _ h;omega
 |succ k ih=>
  intro XY h;simp only[aK]
  by_cases U9:j=k
  ·subst U9;rw[if_pos hL,j5];exact if_pos hj
  have ih':=ih (by omega) (by omega)
  split
  ·rw[j5,if_neg (fun h2=>SB j k t (by omega) (by omega) U9 hj h2)];exact ih'
  exact ih'
theorem jf (L:Nat→Bool):∀k b,b<nx0→(lo (aK σ nx0 ops e L k).own b).map (·.bk)=(lo σ.own b).map (·.bk):=by
 intro k
 induction k with
 |zero=>intro b _;rfl
 |succ k ih=>
  intro b hb;simp only[aK]
  split
  ·rw[pD];have hm:((lo (aK σ nx0 ops e L k).own b).map (gi (e k).fz b)).map (·.bk)=(lo σ.own b).map (·.bk):=by
    rw[←ih b hb,Option.map_map]
    congr 1
    funext v
    simp only[Function.comp,gi]
    split<;>rfl
   cases(e k).vJ with
   |none=>exact hm
   |some B=>simp only;rw[if_neg (by omega)];exact hm
  exact ih b hb
end
def IN (P:Program)(ops:Array Oper)(o:Oper)(s:St)(K:St→Prop):Prop:=
 match o.guard with
 |none=>mC P o s K
 |some (g,want)=>∃t b,br ops g=some t∧gv (lk s.env t)=some b∧(b=some want→mC P o s K)∧(b≠some want→K (s.put o.dst (.aF [])))
def uW (P:Program)(ops:Array Oper):List Oper→St→(St→Prop)→Prop
 |[],s,K=>K s
 |o::os,s,K=>bU o s.n∧IN P ops o s (fun s'=>uW P ops os s' K)
theorem EY {a:Array Value}{t:Nat}{b:Bool}(h:a.getD t undef= .bool b):a[t]? =some (.bool b):=by
 rw[Array.getD_eq_getD_getElem?]at h
 cases ha:a[t]? with
 |none=>rw[ha]at h;cases h
 |some v=>rw[ha]at h;simpa using h
theorem nD {G:Ctx}{dom:Nat→Prop}{ρ:Nat→Loc}{s:St}{a:Act}{w:World}(hs:aR G dom ρ s a w){ops:Array Oper}{o:Oper}{g:Nat}{want:Bool}{b:Option Bool}{t:Nat}(hg:o.guard=some (g,want))(ht:br ops g=some t)
  (hb:gv (lk s.env t)=some b):Region.wanted o (yielded ops a.tmps)=(b==some want):=by
 have RA:=hs.env t;have hd:(ops[g]?).bind (·.dst)=some t:=ht;have hy:yielded ops a.tmps g=b:=by
  unfold gv at hb
  split at hb
  ·rename_i b' he
   obtain rfl:=Option.some.inj hb;rw[he]at RA;have RA:a.tmps.getD t undef= .bool b':=RA;unfold yielded;simp only[hd,Option.bind_some,EY RA]
  ·rename_i he
   obtain rfl:=Option.some.inj hb;rw[he]at RA;obtain⟨vs,hv,_⟩:=RA;unfold yielded;simp only[hd,Option.bind_some]
   cases ha:a.tmps[t]? with
   |none=>rfl
   |some v=>
    rw[Array.getD_eq_getD_getElem?,ha]at hv;simp only[Option.getD_some]at hv;rw[hv]
  cases hb
 unfold Region.wanted;simp only[hg,hy]
theorem iD {o:Oper}{y:Nat→Option Bool}(hg:o.guard=none):Region.wanted o y=true:=by unfold Region.wanted;rw[hg]
theorem IN.step {P:Program}{ops:Array Oper}{i:Nat}{o:Oper}(ho:ops[i]? =some o){s:St}{K:St→Prop}(h:IN P ops o s K)(hd:bU o s.n){G:Ctx}{a:Act}{w:World}(hs:oL G s a w){Q:Exit→Act→World→Prop}{next:Act→World→Prop}
  (hk:∀s' a' w',K s'→oL G s' a' w'→next a' w'):wpOp P ops Q i next a w:=by
 unfold wpOp;simp only[ho];unfold IN at h
 split at h
 ·rename_i hg
  rw[iD hg,if_pos rfl];exact .inl (h G a w hs Q next hk)
 rename_i g want hg
 obtain⟨t,b,ht,hb,h1,h2⟩:=h;obtain⟨ρ,hr⟩:=hs;rw[nD hr hg ht hb]
 by_cases Sj:b=some want
 ·rw[if_pos (by simp[Sj])];exact .inl (h1 Sj G a w ⟨ρ,hr⟩ Q next hk)
 rw[if_neg (by simpa using Sj)]
 have:=hr.put (dst:=o.dst) (x:=.aF []) (v:=undef) hd ⟨#[],rfl,trivial⟩
 refine hk _ _ _ (h2 Sj) ⟨ρ,?_⟩
 cases SB:o.dst with
 |none=>rw[SB]at this;exact this
 |some d=>rw[SB]at this;exact this
theorem a7.P3 {P:Program}{o:Oper}{s:St}{e:eJ}{K:St→Prop}(h:a7 P o s s.nx s.nx e)(hK:K {s.add o.dst s.nx e with nx:=s.nx+1}):mC P o s K:=by
 intro G a w RC Q next hk;obtain⟨ρ,hs⟩:=RC;refine h.1 G (fun b=>b<s.nx) ρ s a w hs (Nat.lt_irrefl _) (gp.refl _ _ _) Q next fun v w' Ul=>?_;refine hk _ _ _ hK ?_;obtain⟨ρ',h1⟩:=Ul
 have h2:=h1.cR (dom':=fun b=>b<s.nx+1) (fun b hb=>by rcases hb with hb|hb<;>omega)
 exact⟨ρ',h2.FY ⟨fun _=>rfl,fun _=>rfl,rfl⟩⟩
def da (ops:Array Oper)(i:Nat):List Nat:=
 match ops[i]? with
 |some o=>(o.after.toList.filter (Region.binds .any)).map (·.on)
 |none=>[]
def ff (ops:Array Oper):Nat→Nat→Nat→Bool
 |0,_,_=>false
 |n+1,i,j=>(da ops i).contains j||(da ops i).any (fun p=>ff ops n p j)
def tmpsOf (o:Oper):List Tmp:=o.op.operands.toList.filterMap fun|.tmp t=>some t|_=>none
def nG (ops:Array Oper)(nR i:Nat)(o:Oper):Bool:=
 ((tmpsOf o).all fun t=>(List.range nR).all fun j=>br ops j !=some t||(decide (j<i)&&(da ops i).contains j))&&
 (
  match o.guard with
  |none=>true
  |some (g,_)=>decide (g<i)&&(da ops i).contains g)&&
 ((List.range nR).all fun j=>j==i||(br ops j).isNone||br ops j !=br ops i)
def uq (ops:Array Oper)(nR:Nat):Bool:=
 decide (nR≤ops.size)&&
 (List.range ops.size).all fun i=>match ops[i]? with
  |none=>false
  |some o=>((da ops i).all fun p=>decide (p<i))&&
   (if i<nR then nG ops nR i o else(List.range i).all fun j=>ff ops ops.size i j)
structure xD (ops:Array Oper) (nR:Nat):Prop where
 le:nR≤ops.size
 pred:∀i o,ops[i]? =some o→∀p∈da ops i,p<i
 data:∀i o,ops[i]? =some o→i<nR→∀t,t∈tmpsOf o→∀j,j<nR→br ops j=some t→j<i∧j∈da ops i
 guard:∀i o g want,ops[i]? =some o→i<nR→o.guard=some (g,want)→g<i∧g∈da ops i
 dst:∀j k t,j<nR→k<nR→j≠k→br ops j=some t→br ops k=some t→False
 clos:∀i,i<ops.size→nR≤i→∀j,j<i→ff ops ops.size i j=true
theorem ze {ops:Array Oper}{nR:Nat}(h:uq ops nR=true):xD ops nR:=by
 unfold uq at h;simp only[Bool.and_eq_true,decide_eq_true_eq,List.all_eq_true,List.mem_range]at h;obtain⟨hle,h⟩:=h;have hi:∀i o,ops[i]? =some o→((da ops i).all fun p=>decide (p<i))=true∧(if i<nR then nG ops nR i o else(List.range i).all fun j=>ff ops ops.size i j)=true:=by
  intro i o ho
  have:=h i (Array.getElem?_eq_some_iff.1 ho).1
  rw[ho]at this
  simpa using this
 have hR:∀i o,ops[i]? =some o→i<nR→nG ops nR i o=true:=fun i o ho Ru=>by
  have:=(hi i o ho).2
  rw[if_pos Ru]at this;exact this
 refine⟨hle,fun i o ho p hp=>?_,fun i o ho Ru t ht j hj hd=>?_,fun i o g want ho Ru hg=>?_,fun j k t hj hk U9 h1 h2=>?_,fun i SQ S1 j hj=>?_⟩
 ·have:=List.all_eq_true.1 (hi i o ho).1 p hp
  simpa using this
 ·have:=hR i o ho Ru
  unfold nG at this;simp only[Bool.and_eq_true,List.all_eq_true,List.mem_range]at this
  have:=this.1.1 t ht j hj
  rw[hd]at this;simp at this;exact this
 ·have:=hR i o ho Ru
  unfold nG at this;simp only[Bool.and_eq_true]at this
  have:=this.1.2
  rw[hg]at this
  simpa using this
 ·have Wm:k<ops.size:=by omega
  have:=hR k ops[k] (Array.getElem?_eq_getElem Wm) hk
  unfold nG at this;simp only[Bool.and_eq_true,List.all_eq_true,List.mem_range]at this
  have:=this.2 j hj
  rw[h1,h2]at this;simp at this;exact U9 this
 have:=(hi i ops[i] (Array.getElem?_eq_getElem SQ)).2
 rw[if_neg (by omega)]at this;exact List.all_eq_true.1 this j (by simpa using hj)
end Go.Eng
namespace Go.Eng
open Go
section
variable {P:Program}{ops:Array Oper}{nR:Nat}
theorem aV {listed:Array Bool}{i j:Nat}(hi:i<listed.size):(listed.setIfInBounds i true).getD j false=(listed.getD j false||j==i):=by
 by_cases h:i=j
 ·subst h
  simp[Array.getD,hi]
 rw[getD_set_ne false h]
 simp;intro e;exact absurd e.symm h
theorem fH {listed:Array Bool}(WT:∀i,listed.getD i false=true→∀p∈da ops i,listed.getD p false=true):∀n i j,(∀p∈da ops i,listed.getD p false=true)→ff ops n i j=true→listed.getD j false=true:=by
 intro n
 induction n with
 |zero=>intro i j _ h;simp[ff]at h
 |succ n ih=>
  intro i j hp h;simp only[ff,Bool.or_eq_true,List.any_eq_true]at h
  rcases h with h|⟨p,XR,h⟩
  ·exact hp j (by simpa using h)
  exact ih p j (WT p (hp p XR)) h
theorem ik {listed:Array Bool}{i:Nat}(h:i∈Region.ready .any ops listed):(∀p∈da ops i,listed.getD p false=true)∧i<ops.size∧listed.getD i true=false:=by
 obtain⟨h0,o,ho,Rz⟩:=mem_ready.1 h;refine⟨fun p hp=>?_,(Array.getElem?_eq_some_iff.1 ho).1,h0⟩;unfold da at hp;rw[ho]at hp;obtain⟨e,he,rfl⟩:=List.mem_map.1 hp;obtain⟨he1,Yt⟩:=List.mem_filter.1 he;exact Rz e (by simpa using he1) Yt
theorem mQ {listed:Array Bool}{i:Nat}{o:Oper}(ho:ops[i]? =some o)(hu:listed.getD i true=false)(h:∀p∈da ops i,listed.getD p false=true):i∈Region.ready .any ops listed:=by
 refine mem_ready.2 ⟨hu,o,ho,fun e he hb=>h e.on ?_⟩;unfold da;rw[ho];exact List.mem_map.2 ⟨e,List.mem_filter.2 ⟨by simpa using he,hb⟩,rfl⟩
def iI (ops:Array Oper)(listed:Array Bool):Nat:=(List.range ops.size).countP (fun i=>!listed.getD i false)
theorem oH {listed:Array Bool}{i:Nat}(Sx:listed.size=ops.size)(hi:i<ops.size)(hu:listed.getD i true=false):iI ops (listed.setIfInBounds i true)+1=iI ops listed:=by
 unfold iI;have hf:listed.getD i false=false:=by
  have Ru:i<listed.size:=by omega
  simp[Array.getD,Ru]at hu⊢
  exact hu
 have key:∀l:List Nat,l.Nodup→(l.countP (fun j=>!(listed.setIfInBounds i true).getD j false))+(if i∈l then 1 else 0)=l.countP (fun j=>!listed.getD j false):=by
  intro l
  induction l with
  |nil=>intro _;simp
  |cons x l ih=>
   intro ZL;obtain⟨hx,ZL⟩:=List.nodup_cons.1 ZL;have ih':=ih ZL;simp only[List.countP_cons,aV (by omega:i<listed.size)]
   by_cases hxi:x=i
   ·subst hxi;rw[if_neg hx]at ih';simp only[hf,beq_self_eq_true,Bool.or_true,Bool.not_true,Bool.false_eq_true,if_false,Bool.not_false,if_true,List.mem_cons,true_or];simp only[aV (by omega:x<listed.size)]at ih';omega
   have RE:(x==i)=false:=by simpa using hxi
   have VL:(i∈x::l)↔i∈l:=by simp[List.mem_cons];intro e;exact absurd e.symm hxi
   simp only[RE,Bool.or_false];simp only[VL];simp only[aV (by omega:i<listed.size)]at ih';omega
 have:=key (List.range ops.size) List.nodup_range
 rw[if_pos (by simpa using hi)]at this;exact this
theorem rI {listed:Array Bool}(h:iI ops listed=0):∀i,i<ops.size→listed.getD i false=true:=by
 intro i hi;unfold iI at h;rw[List.countP_eq_zero]at h
 have:=h i (by simpa using hi)
 simpa using this
variable {σ:St}{es:Nat→eJ}{K:St→Prop}
structure Dk (P:Program) (G:Ctx) (ops:Array Oper) (nR:Nat) (σ:St) (es:Nat→eJ) (K:St→Prop) (listed:Array Bool) (a:Act) (w:World):Prop where
 size:listed.size=ops.size
 down:∀i,listed.getD i false=true→∀p∈da ops i,listed.getD p false=true
 where_:((∀i,listed.getD i false=true→i<nR)∧u7 G (fun b=>b<σ.nx∨∃j,j<nR∧listed.getD j false=true∧b=σ.nx+j) (aK σ σ.nx ops es (fun j=>listed.getD j false) nR) a w)∨
  (∃k,nR≤k∧k≤ops.size∧(∀i,i<ops.size→(listed.getD i false=true↔i<k))∧∃s,uW P ops (ops.toList.drop k) s K∧oL G s a w)
theorem Dk.later (RO:xD ops nR)(hW:uW P ops (ops.toList.drop nR) {aK σ σ.nx ops es (fun _=>true) nR with nx:=σ.nx+ops.size} K)
  {G:Ctx} {listed:Array Bool} {a:Act} {w:World} (h:Dk P G ops nR σ es K listed a w) (Rz:∀j,j<nR→listed.getD j false=true):
  ∃k,nR≤k∧k≤ops.size∧(∀i,i<ops.size→(listed.getD i false=true↔i<k))∧∃s,uW P ops (ops.toList.drop k) s K∧oL G s a w:=by
 rcases h.where_ with⟨Ru,ρ,RC⟩|hk
 ·refine⟨nR,Nat.le_refl _,RO.le,fun i _=>⟨Ru i,Rz i⟩,_,hW,ρ,?_⟩;rw[cO (L:=fun j=>listed.getD j false) (L':=fun _=>true) nR (fun j hj=>Rz j hj)]at RC;have h2:=RC.cR (dom':=fun b=>b<σ.nx+ops.size) (fun b hb=>by
   have:=RO.le
   rcases hb with hb|⟨j,hj,_,rfl⟩<;>omega)
  exact h2.FY ⟨fun _=>rfl,fun _=>rfl,rfl⟩
 exact hk
theorem MR (RO:xD ops nR){i:Nat}{o:Oper}(ho:ops[i]? =some o)(hi:i<nR){listed:Array Bool}(hp:∀p∈da ops i,listed.getD p false=true):
  gp (aK σ σ.nx ops es (fun _=>true) i) (aK σ σ.nx ops es (fun j=>listed.getD j false) nR) σ.nx o:=by
 refine⟨by rw[fN,fN],fun x hx=>?_,fun b hb=>by rw[jf _ nR b hb,jf _ i b hb]⟩
 cases x with
 |tmp t=>
  have Us:t∈tmpsOf o:=List.mem_filterMap.2 ⟨.tmp t,by simpa using hx,rfl⟩;show lk _ t=lk _ t
  by_cases hex:∃j,j<nR∧br ops j=some t
  ·obtain⟨j,hj,hd⟩:=hex;obtain⟨Th,YN⟩:=RO.data i o ho hi t Us j hj hd;rw[dD (N:=nR) (fun j=>listed.getD j false) hd (hp j YN) RO.dst nR (Nat.le_refl _) hj,dD (N:=nR) (fun _=>true) hd rfl RO.dst i (by omega) Th]
  rw[oe _ t nR (fun j hj h=>hex ⟨j,hj,h⟩),oe _ t i (fun j hj h=>hex ⟨j,by omega,h⟩)]
 |const v=>rfl
 |global g=>rfl
 |func f=>rfl
theorem yx (RO:xD ops nR)(S7:∀j,∀b∈(es j).fz,b<σ.nx)
  (S5:∀(i:Nat) o,i<nR→ops[i]? =some o→lM P ops σ.nx i o (aK σ σ.nx ops es (fun _=>true) i) (es i))
  (hW:uW P ops (ops.toList.drop nR) {aK σ σ.nx ops es (fun _=>true) nR with nx:=σ.nx+ops.size} K)
  {G:Ctx} {Q:Exit→Act→World→Prop} (hQ:∀s a w,K s→oL G s a w→Q .normal a w):
  ∀(fuel:Nat) (listed:Array Bool) (a:Act) (w:World),Dk P G ops nR σ es K listed a w→iI ops listed≤fuel→wpAny P .any ops Q fuel listed a w:=by
 intro fuel
 induction fuel with
 |zero=>
  intro listed a w h hf;have Rz:=rI (Nat.le_zero.1 hf);refine⟨?_,?_⟩
  ·cases hr:Region.ready .any ops listed with
   |nil=>rfl
   |cons i l=>
    obtain⟨_,hi,hu⟩:=ik (i:=i) (listed:=listed) (ops:=ops) (by rw[hr];simp);have h1:=Rz i hi;have Ru:i<listed.size:=by rw[h.size];exact hi
    simp[Array.getD,Ru]at h1 hu
    rw[h1]at hu;cases hu
  obtain⟨k,XZ,SX,Ug,s,hs,RC⟩:=h.later RO hW (fun j hj=>Rz j (by have:=RO.le;omega));have hke:k=ops.size:=by
   rcases Nat.lt_or_ge k ops.size with Ru|S1
   ·have:=(Ug k Ru).1 (Rz k Ru);omega
   omega
  subst hke;rw[List.drop_eq_nil_of_le (by simp)]at hs;exact hQ s a w hs RC
 |succ fuel ih=>
  intro listed a w h hf;refine⟨fun hr=>?_,fun i hi=>?_⟩
  ·-- none is ready: all have been
   have Rz:∀n i,i<n→i<ops.size→listed.getD i false=true:=by
    intro n
    induction n with
    |zero=>intro i hi;omega
    |succ n ihn=>
     intro i R6 Sk
     by_cases hu:listed.getD i false=true
     ·exact hu
     have Ru:i<listed.size:=by rw[h.size];exact Sk
     have RP:listed.getD i true=false:=by
      simp[Array.getD,Ru]at hu⊢
      exact hu
     have hm:=mQ (ops:=ops) (Array.getElem?_eq_getElem Sk) RP (fun p hp=>ihn p (by have:=RO.pred i _ (Array.getElem?_eq_getElem Sk) p hp;omega) (by have:=RO.pred i _ (Array.getElem?_eq_getElem Sk) p hp;omega));rw[hr]at hm;cases hm
   obtain⟨k,XZ,SX,Ug,s,hs,RC⟩:=h.later RO hW (fun j hj=>Rz _ j (Nat.lt_succ_self _) (by have:=RO.le;omega));have hke:k=ops.size:=by
    rcases Nat.lt_or_ge k ops.size with Ru|S1
    ·have:=(Ug k Ru).1 (Rz _ k (Nat.lt_succ_self _) Ru);omega
    omega
   subst hke;rw[List.drop_eq_nil_of_le (by simp)]at hs;exact hQ s a w hs RC
  obtain⟨hp,Sk,hu⟩:=ik hi;have ho:=Array.getElem?_eq_getElem Sk;have hcount:=oH h.size Sk hu;have Ru:i<listed.size:=by rw[h.size];exact Sk
  have RP:listed.getD i false=false:=by
   simp[Array.getD,Ru]at hu⊢
   exact hu
  have SS:∀j,(listed.setIfInBounds i true).getD j false=true→∀p∈da ops j,(listed.setIfInBounds i true).getD p false=true:=by
   intro j hj p WU;rw[aV Ru]at hj⊢
   rcases Bool.or_eq_true_iff.1 hj with hj|hj
   ·rw[h.down j hj p WU];rfl
   have:j=i:=by simpa using hj
   subst this;rw[hp p WU];rfl
  by_cases UE:i<nR
  ·-- one that only looks
   rcases h.where_ with⟨Vs,ρ,RC⟩|⟨k,XZ,SX,Ug,_⟩
   ·have RM:=S5 i ops[i] UE ho;have TA:=MR (σ:=σ) (es:=es) RO ho UE hp;have TB:∀a' w',u7 G (fun b=>(b<σ.nx∨∃j,j<nR∧listed.getD j false=true∧b=σ.nx+j)∨b=σ.nx+i) ((aK σ σ.nx ops es (fun j=>listed.getD j false) nR).add (br ops i) (σ.nx+i) (es i)) a' w'→
      Dk P G ops nR σ es K (listed.setIfInBounds i true) a' w':=by
     rintro a' w' ⟨ρ',h1⟩;refine⟨by simpa using h.size,SS,.inl ⟨fun j hj=>?_,ρ',?_⟩⟩
     ·rw[aV Ru]at hj
      rcases Bool.or_eq_true_iff.1 hj with hj|hj
      ·exact Vs j hj
      have:j=i:=by simpa using hj
      omega
     have h2:=h1.cR (dom':=fun b=>b<σ.nx∨∃j,j<nR∧(listed.setIfInBounds i true).getD j false=true∧b=σ.nx+j) (fun b hb=>by
      rcases hb with(hb|⟨j,hj,Yp,rfl⟩)|rfl
      ·exact .inl hb
      ·exact .inr ⟨j,hj,by rw[aV Ru,Yp];rfl,rfl⟩
      exact .inr ⟨i,UE,by rw[aV Ru];simp,rfl⟩)
     have h3:=ni (σ:=σ) (nx0:=σ.nx) (e:=es) (N:=nR) (L:=fun j=>listed.getD j false) (i:=i) RP RO.dst S7 nR (Nat.le_refl _) UE;have h4:=h2.FY h3.symm
     rw[cO (L:=fun j=>listed.getD j false||j==i) (L':=fun j=>(listed.setIfInBounds i true).getD j false) nR (fun j _=>(aV Ru).symm)]at h4
     exact h4
    have SB:br ops i=ops[i].dst:=by unfold br;rw[ho];rfl
    have hid:¬(σ.nx+i<σ.nx∨∃j,j<nR∧listed.getD j false=true∧σ.nx+i=σ.nx+j):=by
     rintro(h1|⟨j,_,hj,he⟩)
     ·omega
     have:i=j:=by omega
     subst this;rw[RP]at hj;cases hj
    unfold wpOp;simp only[ho];obtain⟨Sn,RM⟩:=RM;have doit:a7 P ops[i] (aK σ σ.nx ops es (fun _=>true) i) σ.nx (σ.nx+i) (es i)→ops[i].wp P a w (wpAny P .any ops Q fuel (listed.setIfInBounds i true)) Q:=by
     intro SP;refine SP.1 G _ ρ _ a w RC hid TA Q _ fun v w' h5=>?_;refine ih _ _ _ (TB _ _ ?_) (by omega);rw[SB];exact h5
    split at RM
    ·rename_i hg
     rw[iD hg,if_pos rfl];exact .inl (doit RM)
    rename_i g want hg
    obtain⟨t,b,ht,hb,RM⟩:=RM;obtain⟨TI,WV⟩:=RO.guard i _ g want ho UE hg;have Xo:g<nR:=by omega
    have Se:gv (lk (aK σ σ.nx ops es (fun j=>listed.getD j false) nR).env t)=some b:=by
     rw[dD (N:=nR) (fun j=>listed.getD j false) (t:=t) (j:=g) ht (hp g WV) RO.dst nR (Nat.le_refl _) Xo];rw[dD (N:=nR) (fun _=>true) (t:=t) (j:=g) ht rfl RO.dst i (by omega) TI]at hb;exact hb
    rw[nD RC hg ht Se]
    by_cases Sj:b=some want
    ·rw[if_pos Sj]at RM;rw[if_pos (by simp[Sj])];exact .inl (doit RM)
    rw[if_neg Sj]at RM;rw[if_neg (by simpa using Sj)];refine ih _ _ _ (TB _ _ ⟨ρ,?_⟩) (by omega);rw[RM,SB];have h5:=RC.put (dst:=ops[i].dst) (x:=.aF []) (v:=undef) (fun d hd=>by have:=Sn d hd;rw[fN]at this⊢;exact this) ⟨#[],rfl,trivial⟩;have h6:=h5.cR (dom':=fun b=>(b<σ.nx∨∃j,j<nR∧listed.getD j false=true∧b=σ.nx+j)∨b=σ.nx+i) (fun b hb=>Or.inl hb);unfold eJ.skip;rw[St.add_plain];exact h6
   have:=(Ug i Sk).2 (by omega)
   rw[RP]at this;cases this
  -- one that writes: all that stand ahead of it have been
  have VM:∀j,j<i→listed.getD j false=true:=fun j hj=>fH h.down _ i j hp (RO.clos i Sk (by omega) j hj);obtain⟨k,XZ,SX,Ug,s,hs,RC⟩:=h.later RO hW (fun j hj=>VM j (by omega));have Vt:k=i:=by
   rcases Nat.lt_trichotomy k i with Xp|rfl|hgt
   ·have:=(Ug k (by omega)).1 (VM k Xp);omega
   ·rfl
   have:=(Ug i Sk).2 hgt;rw[RP]at this;cases this
  subst Vt;have R0:ops.toList.drop k=ops[k]::ops.toList.drop (k+1):=by
   rw[List.drop_eq_getElem_cons (by simpa using Sk)];rfl
  rw[R0]at hs;refine IN.step ho hs.2 hs.1 RC fun s' a' w' hs'' VK=>ih _ _ _ ?_ (by omega);refine⟨by simpa using h.size,SS,.inr ⟨k+1,by omega,by omega,fun j hj=>?_,s',hs'',VK⟩⟩;rw[aV Ru]
  by_cases U9:j=k
  ·subst U9;simp
  have RE:(j==k)=false:=by simpa using U9
  rw[RE,Bool.or_false,Ug j hj];omega
end
def Ee (f:Nat→Nat→C)(off len:Nat):Nat→Nat→C:=fun i j=>if off≤i then(if i<off+len then .any else f i j)else f i j
def z9 (xs:List Int)(off len:Nat):List Int:=xs.take off++(List.replicate len 0++xs.drop (off+len))
def sZ (T:fB)(s:St)(dst:Option Tmp)(t:TypeId)(x:Operand)(K:St→Prop):Prop:=
 match T t with
 |some S=>match S.k with
  |.sl e=>match T e with
   |some E=>match s.ev x with
    |.one (.own b wd off len)=>match lo s.own b with
     |some ⟨.rows e' w n f,rw⟩=>rw=true∧wd=w∧E.size=w∧E.zero.length=w∧0<w∧K {s.put dst .unk with own:=dZ s.own b ⟨.rows e' w n (Ee f off len),true⟩}
     |some ⟨.ints e' k xs,rw⟩=>rw=true∧wd=1∧E.size=1∧E.zero=[.int k 0]∧K {s.put dst .unk with own:=dZ s.own b ⟨.ints e' k (z9 xs off len),true⟩}
     |_=>False
    |_=>False
   |none=>False
  |_=>False
 |none=>False
theorem IS (xs:List Int)(off len:Nat)(h:off+len≤xs.length)(j:Nat):(z9 xs off len)[j]? =if off≤j∧j<off+len then some 0 else xs[j]? :=by
 unfold z9;rw[List.getElem?_append,List.getElem?_append,X5,List.length_replicate]
 by_cases h1:j<off
 ·rw[if_pos (by omega),if_neg (by omega),List.getElem?_take,if_pos h1]
 rw[if_neg (by omega)]
 by_cases h2:j<off+len
 ·rw[if_pos (by omega),if_pos (by omega),List.getElem?_replicate,if_pos (by omega)]
 rw[if_neg (by omega),if_neg (by omega),List.getElem?_drop];congr 1;omega
theorem zl (xs:List Int)(off len:Nat)(h:off+len≤xs.length):(z9 xs off len).length=xs.length:=by
 unfold z9;simp;omega
theorem vd {P:Program}{w:World}{t ty e:TypeId}{i:TypeInfo}{z:Value}(ht:P.underlying t=some (.slice e))(hi:P.info? e=some i)(hz:i.zero=some z)(g o len cap:Nat){cur:Array Value}{e':TypeId}(hg:w.heap[g]? =some (.cells cur e' (0,0)))
  (R5:o+len*z.cells.size≤cur.size) (h1:z.cells.toList.all Value.oneCell'=true) (Sx:0<z.cells.size) (hlen:0<len):
  (Builtin.clear_ #[t] ty #[.slice (some ⟨g,o,none⟩) len cap]).run P w= .ok (.tuple #[]) (w.setRow g (cur.toList.take o++(Builtin.zeroCells z.cells len).toList++cur.toList.drop (o+len*z.cells.size)).toArray):=by
 have SF:(Builtin.zeroCells z.cells len).toList.length=len*z.cells.size:=by simp[Builtin.zeroCells]
 have RH:∀u∈(Builtin.zeroCells z.cells len).toList,u.oneCell'=true:=by
  intro u hu;simp only[Builtin.zeroCells,Array.toList_map,List.mem_map]at hu;obtain⟨k,_,rfl⟩:=hu;have hk:k%z.cells.size<z.cells.size:=Nat.mod_lt _ Sx;rw[getElem!_pos z.cells _ hk];exact List.all_eq_true.1 h1 _ (by simp)
 have RM:=run_storeCells_at P g o e' (Builtin.zeroCells z.cells len).toList 0 cur w hg (by rw[SF];simpa using R5) RH;simp only[Nat.add_zero,SF]at RM
 cases len with
 |zero=>omega
 |succ len=>
  simp only[Builtin.clear_,List.getElem?_toArray,List.getElem?_cons_zero,Sem.run_bind,au ht,Result.andThen_ok,fK hi hz,RM,Sem.run_pure]
section
variable {P:Program}{T:fB}(hT:eH P T)
include hT
theorem N7 {
        o:Oper} {s:St} {K:St→Prop} {c:Call} (ho:o.op= .call c) (Tz:c.callee= .builtin .clear) {x:Operand} (Ry:c.args= #[x]) {t:TypeId} (Si:c.argTypes= #[t]) (SK:bU o s.n) (h:sZ T s o.dst t x K):mC P o s K:=by
 unfold sZ at h
 cases RL:T t with
 |none=>rw[RL]at h;exact h.elim
 |some S=>
  rw[RL]at h;simp only at h
  split at h
  ·rename_i e TO
   have hu:=fk hT RL TO
   cases Sr:T e with
   |none=>rw[Sr]at h;exact h.elim
   |some E=>
    rw[Sr]at h;simp only at h;obtain⟨ei,ed,ez,S2,WJ,U6,WK,Tu,_,Tn,Rz⟩:=bD hT Sr;have SF:E.zero.length=ez.cells.size:=by rw[Tn];simp
    split at h
    ·rename_i b wd off len hx
     intro G a w RC Q next hk;obtain⟨ρ,hs⟩:=RC;have RA:=hs.ev x;rw[hx]at RA;have RB:∀(v:Value) (w':World),a.eval x=v→(∀ty,(Builtin.clear_ #[t] ty #[v]).run P w= .ok (.tuple #[]) w')→(execOp a.eval o).run P w= .ok (.value (.tuple #[])) w':=by
      intro v w' hv hr;unfold execOp;rw[ho];simp only[resolve,Tz,Sem.run_bind,Sem.run_pure,Result.andThen_ok,invoke,Go.builtin,Ry,Si,List.map_toArray,List.map_cons,List.map_nil,hv,hr]
     obtain⟨_,hle,cap,RY,RI⟩:=RA;have UK:∀(w':World) (own':List (Nat×fA)),aR G (fun b=>b<s.nx) ρ {s with own:=own'} a w'→oL G {s.put o.dst .unk with own:=own'} (a.put o.dst (.tuple #[])) w':=by
      intro w' own' h1;have h2:=h1.put (dst:=o.dst) (x:=.unk) (v:=.tuple #[]) SK trivial
      cases hd:o.dst with
      |none=>rw[hd]at h2;exact⟨ρ,h2⟩
      |some d=>rw[hd]at h2;exact⟨ρ,h2⟩
     by_cases Tl:len=0
     ·subst Tl;have hclr:∀v,v=a.eval x→(∃ad,v= .slice ad 0 cap)→∀ty,(Builtin.clear_ #[t] ty #[v]).run P w= .ok (.tuple #[]) w:=by
       rintro v _ ⟨ad,rfl⟩ ty
       cases ad<;>simp only[Builtin.clear_,List.getElem?_toArray,List.getElem?_cons_zero,Sem.run_bind,au hu,Result.andThen_ok,Sem.run_pure]
      have U0:∃ad,a.eval x= .slice ad 0 cap:=by
       rcases RI with⟨g,o1,o2,_,hv,_⟩|⟨_,hv,_,SI⟩
       ·exact⟨_,hv⟩
       exact⟨none,by rw[hv,SI]⟩
      have hr:=RB _ w rfl (hclr _ rfl U0);have SA:∀own',(∀b',lo own' b'=lo s.own b')→aR G (fun b=>b<s.nx) ρ {s with own:=own'} a w:=fun own' he=>hs.FY ⟨fun _=>rfl,fun b'=>(he b').symm,rfl⟩
      split at h
      ·rename_i e' w0 n f rw_ RS
       obtain⟨rfl,rfl,_,_,_,hK⟩:=h;refine Oper.cS hr (hk _ _ _ hK (UK _ _ (SA _ fun b'=>?_)));rw[bX]
       split
       ·rename_i hb;subst hb;rw[RS]
        have:Ee f off 0=f:=by funext i j;unfold Ee;by_cases h1:off≤i<;>simp [h1];omega
        rw[this]
       rfl
      ·rename_i e' k xs rw_ RS
       obtain⟨rfl,rfl,_,_,hK⟩:=h;refine Oper.cS hr (hk _ _ _ hK (UK _ _ (SA _ fun b'=>?_)));rw[bX]
       split
       ·rename_i hb;subst hb;rw[RS]
        have:z9 xs off 0=xs:=by unfold z9;simp
        rw[this]
       rfl
      exact h.elim
     rcases RI with⟨g,o1,o2,Rt,hv,TH,_⟩|⟨_,_,h0,_⟩
     ·have ho3:o2=o1+off*wd:=by rcases TH with h1|h1<;>omega
      subst ho3
      split at h
      ·rename_i e' w0 n f rw_ RS
       obtain⟨rfl,rfl,hE,hEz,RR,hK⟩:=h;have Sy:ez.cells.size=wd:=by omega
       obtain⟨_,hlenρ,Rx,_⟩:=hs.own b _ RS;unfold aL at Rx;rw[Rt]at Rx;obtain⟨cur,ee,hg,hc⟩:=Rx;simp only at hc;rw[hlenρ]at hle;simp only[Bk.len]at hle;have hmul:(off+len)*wd≤n*wd:=Nat.mul_le_mul_right _ hle;have hmul2:(off+len)*wd=off*wd+len*wd:=Nat.add_mul _ _ _;have hlw:0<len*wd:=Nat.mul_pos (by omega) RR;have R5:o1+off*wd+len*ez.cells.size≤cur.size:=by
        rw[Sy];obtain⟨u,RP,_⟩:=hc (n*wd-1) (f ((n*wd-1)/wd) ((n*wd-1)%wd)) (by simp only[Bk.cell];rw[if_pos (by omega)])
        have:=(Array.getElem?_eq_some_iff.1 RP).1
        omega
       have hr:=RB _ _ hv (fun ty=>vd (ty:=ty) hu S2 U6 g (o1+off*wd) len cap hg R5 Rz (by omega) (by omega));refine Oper.cS hr (hk _ _ _ hK (UK _ _ ?_));have Ua:(Builtin.zeroCells ez.cells len).toList.length=len*wd:=by simp[Builtin.zeroCells,Sy]
       have Sx:((cur.toList.take (o1+off*wd)++(Builtin.zeroCells ez.cells len).toList++cur.toList.drop (o1+off*wd+len*ez.cells.size)).toArray).size=cur.size:=by
        simp only[List.size_toArray,X6,X5,List.length_drop,Ua,Array.length_toList];rw[Sy]at R5⊢;omega
       refine hs.write RS Rt hg Sx (.rows e' wd n (Ee f off len)) rfl fun j c' hj=>?_;simp only[Bk.cell]at hj
       split at hj
       ·rename_i Vn
        simp only[Option.some.injEq]at hj;have Tg:=ir cur.toList (o1+off*wd) (Builtin.zeroCells ez.cells len).toList (by rw[Ua];simp only[Array.length_toList];rw[Sy]at R5;omega) (o1+j);rw[Ua]at Tg;have Vu:=Nat.div_add_mod j wd;have UR:=Nat.mod_lt j RR;simp only[List.getElem?_toArray,Sy,Tg]
        by_cases hm:off*wd≤j∧j<off*wd+len*wd
        ·rw[if_pos (by omega)];have Vv:off≤j/wd:=(Nat.le_div_iff_mul_le RR).2 hm.1;have UF:j/wd<off+len:=(Nat.div_lt_iff_lt_mul RR).2 (by omega);have hcany:c'= .any:=by rw[←hj];unfold Ee;rw[if_pos Vv,if_pos UF]
         subst hcany;have Ru:o1+j-(o1+off*wd)<(Builtin.zeroCells ez.cells len).toList.length:=by rw[Ua];omega
         refine⟨_,X8 Ru,?_⟩;show Value.oneCell' _=true;simp only[Builtin.zeroCells,Array.getElem_toList,Array.getElem_map,Array.getElem_range];have Wm:(o1+j-(o1+off*wd))%ez.cells.size<ez.cells.size:=Nat.mod_lt _ (by omega);rw[getElem!_pos ez.cells _ Wm];exact List.all_eq_true.1 Rz _ (by simp)
        rw[if_neg (by omega),Array.getElem?_toList];have UT:c'=f (j/wd) (j%wd):=by
         rw[←hj];unfold Ee
         by_cases Vv:off≤j/wd
         ·rw[if_pos Vv,if_neg];intro UF;have a1:=(Nat.le_div_iff_mul_le RR).1 Vv;have a2:=(Nat.div_lt_iff_lt_mul RR).1 UF;omega
         rw[if_neg Vv]
        exact hc j c' (by simp only[Bk.cell];rw[if_pos Vn,UT])
       cases hj
      ·rename_i e' k xs rw_ RS
       obtain⟨rfl,rfl,hE,hEz,hK⟩:=h;have Sy:ez.cells.size=1:=by rw[←SF,hEz];rfl
       have Yv:len*ez.cells.size=len:=by rw[Sy,Nat.mul_one]
       obtain⟨_,hlenρ,Rx,_⟩:=hs.own b _ RS;unfold aL at Rx;rw[Rt]at Rx;obtain⟨cur,ee,hg,hc⟩:=Rx;simp only at hc;rw[hlenρ]at hle;simp only[Bk.len]at hle;have R5:o1+off*1+len*ez.cells.size≤cur.size:=by
        obtain⟨u,RP,_⟩:=hc (xs.length-1) (.int k xs[xs.length-1]) (by simp only[Bk.cell];rw[X8 (by omega)];rfl)
        have:=(Array.getElem?_eq_some_iff.1 RP).1
        omega
       have hr:=RB _ _ hv (fun ty=>vd (ty:=ty) hu S2 U6 g (o1+off*1) len cap hg R5 Rz (by omega) (by omega));refine Oper.cS hr (hk _ _ _ hK (UK _ _ ?_));have Ua:(Builtin.zeroCells ez.cells len).toList.length=len:=by simp[Builtin.zeroCells,Sy]
       have Sx:((cur.toList.take (o1+off*1)++(Builtin.zeroCells ez.cells len).toList++cur.toList.drop (o1+off*1+len*ez.cells.size)).toArray).size=cur.size:=by
        simp only[List.size_toArray,X6,X5,List.length_drop,Ua,Array.length_toList];omega
       refine hs.write RS Rt hg Sx (.ints e' k (z9 xs off len)) (zl xs off len hle) fun j c' hj=>?_;simp only[Bk.cell,IS xs off len hle]at hj;have Tg:=ir cur.toList (o1+off*1) (Builtin.zeroCells ez.cells len).toList (by rw[Ua];simp only[Array.length_toList];omega) (o1+j);rw[Ua]at Tg;simp only[List.getElem?_toArray,Yv,Tg]
       by_cases hm:off≤j∧j<off+len
       ·rw[if_pos hm]at hj;simp only[Option.map_some,Option.some.injEq]at hj;subst hj;rw[if_pos (by omega)];have Ru:o1+j-(o1+off*1)<(Builtin.zeroCells ez.cells len).toList.length:=by rw[Ua];omega
        refine⟨_,X8 Ru,?_⟩;simp only[Builtin.zeroCells,Array.getElem_toList,Array.getElem_map,Array.getElem_range];have hz0:ez.cells.toList.map CP=[.int k 0]:=by rw[←Tn];exact hEz
        obtain⟨v0,Sv⟩:∃v0,ez.cells.toList=[v0]:=List.length_eq_one_iff.1 (by simpa using Sy);rw[Sv]at hz0;have XT:CP v0= .int k 0:=by simpa using hz0
        have RH:v0.oneCell'=true:=List.all_eq_true.1 Rz _ (by rw[Sv];simp);have RD:=zQ (ok:=aE G s.own ρ w) (w:=w) v0 RH;rw[XT]at RD;have Wm:(o1+j-(o1+off*1))%ez.cells.size<ez.cells.size:=Nat.mod_lt _ (by omega);rw[getElem!_pos ez.cells _ Wm];have Xm:ez.cells[(o1+j-(o1+off*1))%ez.cells.size]=v0:=by
         have:ez.cells.toList[(o1+j-(o1+off*1))%ez.cells.size]? =some v0:=by
          rw[Sv,Sy,Nat.mod_one];rfl
         rw[Array.getElem?_toList,Array.getElem?_eq_getElem Wm]at this;exact Option.some.inj this
        rw[Xm];exact RD
       rw[if_neg hm]at hj;rw[if_neg (by omega),Array.getElem?_toList];exact hc j c' hj
      exact h.elim
     omega
    exact h.elim
  exact h.elim
end
def zv (f g:Nat→Nat→C)(off n:Nat):Nat→Nat→C:=fun i j=>if off≤i then(if i<off+n then g (i-off) j else f i j)else f i j
def yP (T:fB)(s:St)(dst:Option Tmp)(t:TypeId)(x y:Operand)(K:St→Prop):Prop:=
 match T t with
 |some S=>
       match S.k with
  |.sl e=>match T e with
   |some E=>match s.ev x with
    |.one (.own b wd off len)=>match lo s.own b with
     |some ⟨.rows e' w n f,rw⟩=>match s.ev y with
      |.one cy=>match iG w (yg s.own s.nx cy)with
       |some (m,g)=>rw=true∧wd=w∧E.size=w∧0<w∧K {s.put dst (.one (.int .i64 ((if m<len then m else len:Nat):Int)))with own:=dZ s.own b ⟨.rows e' w n (zv f g off (if m<len then m else len)),true⟩}
       |none=>False
      |_=>False
     |_=>False
    |_=>False
   |none=>False
  |_=>False
 |none=>False
theorem Hc {P:Program}{w:World}{t t' ty e:TypeId}{i:TypeInfo}(ht:P.underlying t=some (.slice e))(hi:P.info? e=some i)(dv sv:Option Addr)(len cap m cap' n:Nat)(hn:n=if m<len then m else len){us:List Value}(hl:us.length=n*i.size)(hh:jU w sv us){w':World}
  (RM:(match dv with|some a=>storeCells a us|none=>pure ()).run P w= .ok () w'):
  (Builtin.copy_ #[t,t'] ty #[.slice dv len cap,.slice sv m cap']).run P w= .ok (goInt n) w':=by
 have hf:=dO (P:=P) i.size n sv m cap' us hl hh
 have hm:Nat.min m len=n:=by rw[hn];show min m len=_;split<;>omega
 cases dv with
 |none=>
  obtain rfl:w=w':=by simpa using RM
  simp[Builtin.copy_,Go.run_underlying ht,sizeOf,typeInfo,hi,Builtin.lenOf,hm,hf]
 |some a=>
  simp only at RM
  simp[Builtin.copy_,Go.run_underlying ht,sizeOf,typeInfo,hi,Builtin.lenOf,hm,hf,RM]
section
variable {P:Program}{T:fB}(hT:eH P T)
include hT
theorem Py {o:Oper}{s:St}{K:St→Prop}{c:Call}(ho:o.op= .call c)(Tz:c.callee= .builtin .copy){x y:Operand}(Ry:c.args= #[x,y]){t t':TypeId}(Si:c.argTypes= #[t,t'])(SK:bU o s.n)(h:yP T s o.dst t x y K):mC P o s K:=by
 unfold yP at h
 cases RL:T t with
 |none=>rw[RL]at h;exact h.elim
 |some S=>
  rw[RL]at h;simp only at h
  split at h
  rotate_left
  ·exact h.elim
  rename_i e TO
  have hu:=fk hT RL TO
  cases Sr:T e with
  |none=>rw[Sr]at h;exact h.elim
  |some E=>
   rw[Sr]at h;simp only at h;obtain⟨ei,ed,ez,S2,WJ,U6,WK,Tu,_,Tn,Rz⟩:=bD hT Sr
   split at h
   rotate_left
   ·exact h.elim
   rename_i b wd off len hx
   split at h
   rotate_left
   ·exact h.elim
   rename_i e' w0 n f rw_ RS
   split at h
   rotate_left
   ·exact h.elim
   rename_i cy hy
   split at h
   rotate_left
   ·exact h.elim
   rename_i m g hm
   obtain⟨rfl,rfl,hE,RR,hK⟩:=h;intro G a w RC Q next hk;obtain⟨ρ,hs⟩:=RC;have RA:=hs.ev x;rw[hx]at RA;have T1:=hs.ev y;rw[hy]at T1;obtain⟨ad,cap',us,Ta,R2⟩:=pa hs (fun _ hb=>hb) T1 hm;obtain⟨_,hle,cap,RY,RI⟩:=RA;obtain⟨nn,RK⟩:∃nn,nn=if m<len then m else len:=⟨_,rfl⟩
   rw[←RK]at hK
   have Xq:nn≤m∧nn≤len:=by rw[RK];split<;>omega
   have hmul:nn*wd≤m*wd:=Nat.mul_le_mul_right _ Xq.1;have YO:ei.size=wd:=by omega
   have hl:(us.take (nn*wd)).length=nn*ei.size:=by rw[X5,R2.len,YO];omega
   have hh:jU w ad (us.take (nn*wd)):=by
    rcases R2.at_ with h1|⟨a1,h1,h2⟩
    ·left;rw[h1];simp
    refine .inr ⟨a1,h1,fun j u hj=>h2 j u ?_⟩;rw[List.getElem?_take]at hj
    split at hj
    ·exact hj
    cases hj
   have RB:∀(v:Value) (w':World) (dv:Option Addr),a.eval x=v→v= .slice dv len cap→(match dv with|some a=>storeCells a (us.take (nn*wd))|none=>pure ()).run P w= .ok () w'→(execOp a.eval o).run P w= .ok (.value (goInt nn)) w':=by
    intro v w' dv hv TF RM;subst TF;have hr:=Hc (t':=t') (ty:=o.type) hu S2 dv ad len cap m cap' nn RK hl hh RM;unfold execOp;rw[ho];simp only[resolve,Tz,Sem.run_bind,Sem.run_pure,Result.andThen_ok,invoke,Go.builtin,Ry,Si,List.map_toArray,List.map_cons,List.map_nil,hv,Ta,hr]
   have UK:∀(w':World) (own':List (Nat×fA)),aR G (fun b=>b<s.nx) ρ {s with own:=own'} a w'→oL G {s.put o.dst (.one (.int .i64 (nn:Int)))with own:=own'} (a.put o.dst (goInt nn)) w':=by
    intro w' own' h1;have h2:=h1.put (dst:=o.dst) (x:=.one (.int .i64 (nn:Int))) (v:=goInt nn) SK rfl
    cases hd:o.dst with
    |none=>rw[hd]at h2;exact⟨ρ,h2⟩
    |some d=>rw[hd]at h2;exact⟨ρ,h2⟩
   by_cases Tl:nn=0
   ·subst Tl;have U0:∃dv,a.eval x= .slice dv len cap:=by
     rcases RI with⟨g,o1,o2,_,hv,_⟩|⟨_,hv,h1,h2⟩
     ·exact⟨_,hv⟩
     exact⟨none,by rw[hv,h1,h2]⟩
    obtain⟨dv,hv⟩:=U0
    have hr:=RB _ w dv hv rfl (by cases dv<;>simp [storeCells])
    refine Oper.cS hr (hk _ _ _ hK (UK _ _ (hs.FY ⟨fun _=>rfl,fun b'=>?_,rfl⟩)));rw[bX]
    split
    ·rename_i hb;subst hb;rw[RS]
     have:zv f g off 0=f:=by funext i j;unfold zv;by_cases h1:off≤i<;>simp [h1];omega
     rw[this]
    rfl
   rcases RI with⟨g1,o1,o2,Rt,hv,TH,_⟩|⟨_,_,h0,_⟩
   rotate_left
   ·omega
   have ho3:o2=o1+off*wd:=by rcases TH with h1|h1<;>omega
   subst ho3;obtain⟨_,hlenρ,Rx,_⟩:=hs.own b _ RS;unfold aL at Rx;rw[Rt]at Rx;obtain⟨cur,ee,hg,hc⟩:=Rx;simp only at hc;rw[hlenρ]at hle;simp only[Bk.len]at hle;have hmul1:(off+nn)*wd≤n*wd:=Nat.mul_le_mul_right _ (by omega);have hmul2:(off+nn)*wd=off*wd+nn*wd:=Nat.add_mul _ _ _;have hlw:0<nn*wd:=Nat.mul_pos (by omega) RR;have Rv:(us.take (nn*wd)).length=nn*wd:=by rw[hl,YO]
   have R5:o1+off*wd+nn*wd≤cur.size:=by
    obtain⟨u,RP,_⟩:=hc (n*wd-1) (f ((n*wd-1)/wd) ((n*wd-1)%wd)) (by simp only[Bk.cell];rw[if_pos (by omega)])
    have:=(Array.getElem?_eq_some_iff.1 RP).1
    omega
   have RH:∀u∈us.take (nn*wd),u.oneCell'=true:=fun u hu=>R2.one u (List.mem_of_mem_take hu);have RM:=run_storeCells_at P g1 (o1+off*wd) ee (us.take (nn*wd)) 0 cur w hg (by rw[Rv];omega) RH;simp only[Nat.add_zero,Rv]at RM;have hr:=RB _ _ _ hv rfl RM;refine Oper.cS hr (hk _ _ _ hK (UK _ _ ?_));refine hs.write RS Rt hg (by simp only[List.size_toArray,X6,X5,List.length_drop,Array.length_toList,R2.len];omega) (.rows e' wd n (zv f g off nn)) rfl fun j c' hj=>?_;simp only[Bk.cell]at hj
   split at hj
   rotate_left
   ·cases hj
   rename_i Vn
   simp only[Option.some.injEq]at hj;have Tg:=ir cur.toList (o1+off*wd) (us.take (nn*wd)) (by rw[Rv];simp only[Array.length_toList];omega) (o1+j);rw[Rv]at Tg;have Vu:=Nat.div_add_mod j wd;have UR:=Nat.mod_lt j RR;simp only[List.getElem?_toArray,Tg]
   by_cases Yv:off*wd≤j∧j<off*wd+nn*wd
   ·rw[if_pos (by omega)];have Vv:off≤j/wd:=(Nat.le_div_iff_mul_le RR).2 Yv.1;have UF:j/wd<off+nn:=(Nat.div_lt_iff_lt_mul RR).2 (by omega);have hcg:c'=g (j/wd-off) (j%wd):=by rw[←hj];unfold zv;rw[if_pos Vv,if_pos UF]
    obtain⟨u,Wh,SD⟩:=R2.rep (j/wd-off) (j%wd) (by omega) UR;refine⟨u,?_,by rw[hcg];exact SD⟩;have ej:o1+j-(o1+off*wd)=(j/wd-off)*wd+j%wd:=by
     rw[Nat.sub_mul]
     have:off*wd≤j/wd*wd:=Nat.mul_le_mul_right _ Vv
     have:=Nat.mul_comm (j/wd) wd
     omega
    rw[List.getElem?_take,if_pos (by omega),ej,Wh]
   rw[if_neg (by omega),Array.getElem?_toList];have UT:c'=f (j/wd) (j%wd):=by
    rw[←hj];unfold zv
    by_cases Vv:off≤j/wd
    ·rw[if_pos Vv,if_neg];intro UF;have a1:=(Nat.le_div_iff_mul_le RR).1 Vv;have a2:=(Nat.div_lt_iff_lt_mul RR).1 UF;omega
    rw[if_neg Vv]
   exact hc j c' (by simp only[Bk.cell];rw[if_pos Vn,UT])
end
end Go.Eng
namespace Go.Eng
open Go
inductive WL where
 |nil
 |cons (i:Nat) (pd:List Nat) (sub alt:WL)
 /-- a new variable (operation 'q', slot 'd') that may be made before those that write, or behind the first of them -/
 |opt (q d:Nat) (t1 t2:WL)
def iY:WL→Nat→Bool
 |.nil,_=>false
 |.cons i _ sub _,j=>if j=i then true else iY sub j
 |.opt _ _ _ _,_=>false
def bH (ws:WL)(i:Nat):Bool:=!iY ws i
def rJ:WL→Nat→Bool
 |.nil,_=>false
 |.cons i _ _ alt,j=>if j=i then true else rJ alt j
 |.opt _ _ _ _,_=>false
def jW:Op→Bool
 |.alloc _=>true
 |_=>false
def xo:Op→Bool
 |.select _ _=>false
 |_=>true
def LN (ops:Array Oper)(ws:WL)(i:Nat)(o:Oper):Bool:=
 ((tmpsOf o).all fun t=>(List.range ops.size).all fun j=>br ops j !=some t||(if bH ws j then decide (j<i)&&(da ops i).contains j else ff ops ops.size j i))&&
 (
  match o.guard with
  |none=>true
  |some (g,_)=>decide (g<i)&&(da ops i).contains g&&bH ws g)
def qO (ops:Array Oper)(l:List Nat)(j:Nat):Bool:=l.any fun i=>ff ops ops.size i j
def ki (ops:Array Oper)(ws:WL)(pre:List Nat)(t:WL):Bool:=
 (List.range ops.size).all fun i=>!iY ws i||pre.contains i||rJ t i||(List.range ops.size).any fun j=>iY ws j&&!pre.contains j&&ff ops ops.size i j
def mJ (
     ops:Array Oper) (ws:WL) (ex:Option Nat):List Nat→WL→Bool
 |_,.nil=>true
 |_,.opt _ _ _ _=>false
 |pre,.cons i pd sub alt=>(match ops[i]? with
   |none=>false
   |some o=>o.guard.isNone&&xo o.op&&!pre.contains i&&iY ws i&&
     ((List.range ops.size).all fun j=>!bH ws j||pd.contains j||ex==some j||qO ops (i::pre) j)&&
     (pd.all fun j=>bH ws j&&(match ops[j]? with
      |none=>false
      |some oj=>iV oj.op&&(match oj.dst with
       |none=>false
       |some d=>!(tmpsOf o).contains d))))&&
  ki ops ws (i::pre) sub&&mJ ops ws ex (i::pre) sub&&mJ ops ws ex pre alt
def CY (ops:Array Oper)(ws:WL)(q:Nat)(t:WL):Bool:=
 (List.range ops.size).all fun i=>!iY ws i||i==q||rJ t i||(List.range ops.size).any fun j=>iY ws j&&ff ops ops.size i j
def ER (ops:Array Oper)(ws:WL):Bool:=
 (List.range ops.size).all fun i=>match ops[i]? with
  |none=>false
  |some o=>((da ops i).all fun p=>decide (p<i))&&((List.range ops.size).all fun j=>j==i||(br ops j).isNone||br ops j !=br ops i)&&(!bH ws i||LN ops ws i o)
def OK (ops:Array Oper):WL→Bool
 |.opt q d t1 t2=>ER ops t1&&ki ops t1 [] t1&&mJ ops t1 (some q) [] t1&&ER ops t2&&CY ops t2 q t2&&mJ ops t2 none [] t2&&
   decide (q<ops.size)&&bH t1 q&&(br ops q==some d)&&((List.range ops.size).all fun j=>iY t2 j==(iY t1 j||j==q))&&
   ((List.range ops.size).all fun j=>!bH t2 j||match ops[j]? with|none=>true|some o=>!(tmpsOf o).contains d)&&(match ops[q]? with|none=>false|some o=>o.guard.isNone&&jW o.op)
 |ws=>ER ops ws&&ki ops ws [] ws&&mJ ops ws none [] ws
structure Pg (ops:Array Oper) (ws:WL) (ex:Option Nat) (pre:List Nat) (i:Nat) (pd:List Nat) (sub:WL):Prop where
 op:∃o,ops[i]? =some o∧o.guard=none∧xo o.op=true∧∀j∈pd,∃oj d,bH ws j=true∧ops[j]? =some oj∧iV oj.op=true∧oj.dst=some d∧d∉tmpsOf o
 all:∀j,j<ops.size→bH ws j=true→j∈pd∨ex=some j∨∃k∈i::pre,ff ops ops.size k j=true
 cov:ki ops ws (i::pre) sub=true
 sub:mJ ops ws ex (i::pre) sub=true
structure OQ (ops:Array Oper) (ws:WL):Prop where
 pred:∀i o,ops[i]? =some o→∀p∈da ops i,p<i
 dst:∀j k t,j<ops.size→k<ops.size→j≠k→br ops j=some t→br ops k=some t→False
 data:∀i o,ops[i]? =some o→bH ws i=true→∀t,t∈tmpsOf o→∀j,j<ops.size→br ops j=some t→(bH ws j=true→j<i∧j∈da ops i)∧(bH ws j=false→ff ops ops.size j i=true)
 guard:∀i o g want,ops[i]? =some o→bH ws i=true→o.guard=some (g,want)→g<i∧g∈da ops i∧bH ws g=true
theorem jl {ops:Array Oper}{ws:WL}{ex:Option Nat}{pre:List Nat}{i:Nat}{pd:List Nat}{sub alt:WL}(h:mJ ops ws ex pre (.cons i pd sub alt)=true):Pg ops ws ex pre i pd sub∧mJ ops ws ex pre alt=true:=by
 simp only[mJ,Bool.and_eq_true]at h;obtain⟨⟨⟨h1,hc⟩,hs⟩,h2⟩:=h;refine⟨?_,h2⟩
 cases ho:ops[i]? with
 |none=>rw[ho]at h1;cases h1
 |some o=>
  rw[ho]at h1;simp only[Bool.and_eq_true,List.all_eq_true,Option.isNone_iff_eq_none,Bool.not_eq_true']at h1;obtain⟨⟨⟨⟨⟨g1,g2⟩,_⟩,_⟩,g5⟩,g6⟩:=h1;refine⟨⟨o,ho,g1,g2,fun j hj=>?_⟩,fun j hj hr=>?_,hc,hs⟩
  ·have h3:=g6 j hj;obtain⟨k1,k2⟩:=h3
   cases hoj:ops[j]? with
   |none=>rw[hoj]at k2;cases k2
   |some oj=>
    rw[hoj]at k2;simp only[Bool.and_eq_true]at k2;obtain⟨k3,k5⟩:=k2
    cases hd:oj.dst with
    |none=>rw[hd]at k5;cases k5
    |some d=>
     rw[hd]at k5;exact⟨oj,d,k1,rfl,k3,hd,by simpa using k5⟩
  have h3:=g5 j (by simpa using hj);rw[hr]at h3;have h4:(pd.contains j=true∨ex=some j)∨qO ops (i::pre) j=true:=by simpa using h3
  rcases h4 with(h4|h4)|h4
  ·exact .inl (by simpa using h4)
  ·exact .inr (.inl h4)
  refine .inr (.inr ?_);unfold qO at h4;obtain⟨k,hk,hc⟩:=List.any_eq_true.1 h4;exact⟨k,hk,hc⟩
theorem rC {ops:Array Oper}{ws:WL}{pre:List Nat}{t:WL}(h:ki ops ws pre t=true){i:Nat}(hi:i<ops.size)(hw:iY ws i=true):i∈pre∨rJ t i=true∨∃j,j<ops.size∧iY ws j=true∧j∉pre∧ff ops ops.size i j=true:=by
 unfold ki at h;have h1:=List.all_eq_true.1 h i (by simpa using hi);rw[hw]at h1;simp only[Bool.not_true,Bool.false_or,Bool.or_eq_true]at h1
 rcases h1 with(h1|h1)|h1
 ·exact .inl (by simpa using h1)
 ·exact .inr (.inl h1)
 obtain⟨j,hj,h2⟩:=List.any_eq_true.1 h1;simp only[Bool.and_eq_true,Bool.not_eq_true']at h2;exact .inr (.inr ⟨j,by simpa using hj,h2.1.1,by simpa using h2.1.2,h2.2⟩)
theorem sJ {ops:Array Oper}{ws:WL}(h1:ER ops ws=true):OQ ops ws:=by
 unfold ER at h1;have hi:∀i o,ops[i]? =some o→((∀p∈da ops i,p<i)∧(∀j,j<ops.size→j≠i→∀t,br ops j=some t→br ops i≠some t))∧(bH ws i=true→LN ops ws i o=true):=by
  intro i o ho;have Ru:=(Array.getElem?_eq_some_iff.1 ho).1;have h3:=List.all_eq_true.1 h1 i (by simpa using Ru);rw[ho]at h3;simp only[Bool.and_eq_true,List.all_eq_true,decide_eq_true_eq]at h3;obtain⟨⟨a1,a2⟩,a3⟩:=h3;refine⟨⟨a1,fun j hj RE t ht hti=>?_⟩,fun hr=>by rw[hr]at a3;simpa using a3⟩;have h4:=a2 j (by simpa using hj);rw[ht,hti]at h4
  simp[RE]at h4
 refine⟨fun i o ho=>(hi i o ho).1.1,fun j k t hj hk RE h3 h4=>?_,fun i o ho hr t ht j hj hd=>?_,fun i o g want ho hr hg=>?_⟩
 ·exact(hi k ops[k] (Array.getElem?_eq_getElem hk)).1.2 j hj RE t h3 h4
 ·have h3:=(hi i o ho).2 hr;unfold LN at h3;rw[Bool.and_eq_true]at h3;have h4:=List.all_eq_true.1 (List.all_eq_true.1 h3.1 t ht) j (by simpa using hj);rw[hd]at h4;refine⟨fun Yq=>?_,fun Yq=>?_⟩
  ·rw[Yq]at h4;simpa using h4
  rw[Yq]at h4;simpa using h4
 have h3:=(hi i o ho).2 hr;unfold LN at h3;rw[Bool.and_eq_true,hg]at h3
 simpa[and_assoc]using h3.2
open Classical in
noncomputable def sW (s:St)(H:Tmp→Prop):St:={s with env:=s.env.filter fun p=>decide (¬H p.1)}
open Classical in
theorem qp (H:Tmp→Prop)(t:Tmp):∀l:List (Nat×V),lk (l.filter fun p=>decide (¬H p.1)) t=if H t then .unk else lk l t
 |[]=>by simp[lk]
 |(t',v)::r=>by
  have ih:=qp H t r
  by_cases hH:H t'
  ·rw[List.filter_cons_of_neg (by simpa using hH),ih]
   by_cases ht:t=t'
   ·subst ht;simp[hH]
   simp[lk,ht]
  rw[List.filter_cons_of_pos (by simpa using hH)];simp only[lk]
  by_cases ht:t=t'
  ·subst ht;simp[hH]
  simp only[ht,if_false];exact ih
theorem rX (s:St)(H:Tmp→Prop)(t:Tmp)(h:¬H t):lk (sW s H).env t=lk s.env t:=by
 unfold sW;simp only[qp,if_neg h]
theorem zH (s:St)(H:Tmp→Prop)(t:Tmp)(h:H t):lk (sW s H).env t= .unk:=by
 unfold sW;simp only[qp,if_pos h]
structure RU (H:Tmp→Prop) (a a':Act):Prop where
 defers:a.defers=a'.defers
 size:a.tmps.size=a'.tmps.size
 tmps:∀t,¬H t→a.tmps[t]? =a'.tmps[t]?
theorem RU.refl (H:Tmp→Prop)(a:Act):RU H a a:=⟨rfl,rfl,fun _ _=>rfl⟩
theorem RU.eq {H:Tmp→Prop}{a a':Act}(h:RU H a a')(hH:∀t,¬H t):a=a':=by
 obtain⟨h1,h2,h3⟩:=h
 cases a;cases a'
 simp only[Act.mk.injEq];exact⟨Array.ext_getElem? fun i=>h3 i (hH i),h1⟩
theorem RU.getD {H:Tmp→Prop}{a a':Act}(h:RU H a a'){t:Tmp}(ht:¬H t):a.tmps.getD t undef=a'.tmps.getD t undef:=by
 rw[Array.getD_eq_getD_getElem?,Array.getD_eq_getD_getElem?,h.tmps t ht]
theorem RU.put {H:Tmp→Prop}{a a':Act}(h:RU H a a')(dst:Option Tmp)(v:Value):RU H (a.put dst v) (a'.put dst v):=by
 cases dst with
 |none=>exact h
 |some d=>
  refine⟨h.defers,by simp[Act.put,h.size],fun t ht=>?_⟩;simp only[Act.put,Array.getElem?_setIfInBounds,h.size]
  split
  ·rfl
  exact h.tmps t ht
theorem mL {a:Act}{d t:Tmp}{v:Value}:(a.put (some d) v).tmps[t]? =if t=d∧d<a.tmps.size then some v else a.tmps[t]? :=by
 simp only[Act.put,Array.getElem?_setIfInBounds]
 by_cases h1:d=t
 ·subst h1
  by_cases h2:d<a.tmps.size
  ·simp[h2]
  simp[h2]
 rw[if_neg h1,if_neg (fun h=>h1 h.1.symm)]
theorem aR.sW {G:Ctx}{dom:Nat→Prop}{ρ:Nat→Loc}{s:St}{a a':Act}{w:World}{H:Tmp→Prop}(h:aR G dom ρ s a' w)(hu:RU H a a'):aR G dom ρ (sW s H) a w:=
 {
  h with
  hd:=by rw[hu.defers];exact h.hd
  hn:=by rw[hu.size];exact h.hn
  env:=fun t=>by
   by_cases ht:H t
   ·rw[zH _ _ _ ht];trivial
   rw[rX _ _ _ ht,hu.getD ht];exact h.env t}
theorem RU.exec {H:Tmp→Prop}{a a':Act}(h:RU H a a'){o:Oper}(V9:xo o.op=true)(ht:∀t∈tmpsOf o,¬H t):execOp a.eval o=execOp a'.eval o:=by
 refine execOp_congr o (fun cs b he=>by rw[he]at V9;cases V9) fun x hx=>?_
 cases x with
 |tmp t=>exact h.getD (ht t (List.mem_filterMap.2 ⟨.tmp t,by simpa using hx,rfl⟩))
 |const v=>rfl
 |global g=>rfl
 |func f=>rfl
theorem RU.wp {P:Program}{H:Tmp→Prop}{a a':Act}(h:RU H a a'){o:Oper}(V9:xo o.op=true)(ht:∀t∈tmpsOf o,¬H t){w:World}{next next':Act→World→Prop}{Q:Exit→Act→World→Prop}
  (hQ:∀ch a a' w,Q (.panic ch) a w→Q (.panic ch) a' w) (hn:∀b b' w,RU H b b'→next' b' w→next b w) (hw:o.wp P a' w next' Q):o.wp P a w next Q:=by
 unfold Oper.wp at hw⊢;rw[h.exec V9 ht]
 cases hr:(execOp a'.eval o).run P w with
 |halt x w'=>
  rw[hr]at hw
  cases x<;>first|exact hQ _ _ _ _ hw|exact hw.elim
 |ok x w'=>
  rw[hr]at hw
  cases x with
  |value v=>exact hn _ _ _ (h.put _ v) hw
  |skip=>exact hn _ _ _ (h.put _ undef) hw
  |defer d=>
   refine hn _ _ _ (RU.put (⟨?_,h.size,h.tmps⟩:RU H {a with defers:=d::a.defers} {a' with defers:=d::a'.defers}) _ undef) hw;simp only[h.defers]
  |enter f args=>
   refine Calls.mono hw fun e w'' he=>?_
   cases e with
   |returned v=>exact hn _ _ _ (h.put _ v) he
   |panicked ch=>exact hQ _ _ _ _ he
   |outgrown=>exact he
  |row r args=>exact Rows.mono hw fun v w'' he=>hn _ _ _ (h.put _ v) he
  |_=>exact hw.elim
section
variable {P:Program}{ops:Array Oper}{ws:WL}{σ:St}{es:Nat→eJ}{K:St→Prop}
def HD (P:Program)(ops:Array Oper)(s:St)(o:Oper)(d:Nat):Prop:=match o.guard with
 |none=>Ll P o s s.nx (lk s.env d)
 |some (g,want)=>∃t b,br ops g=some t∧gv (lk s.env t)=some b∧(if b=some want then Ll P o s s.nx (lk s.env d)else lk s.env d= .aF [])
def Promise (P:Program)(ops:Array Oper)(s:St)(pd:List Nat):Prop:=∀j∈pd,∃o d,ops[j]? =some o∧o.dst=some d∧HD P ops s o d∧d<s.n
def Dd (P:Program)(ops:Array Oper)(i:Nat)(pd:List Nat)(s:St)(K:St→Prop):Prop:=∃o,ops[i]? =some o∧bU o s.n∧mC P o s (fun s'=>Promise P ops s' pd∧K s')
def lX (P:Program)(ops:Array Oper):WL→St→(St→Prop)→Prop
 |.nil,s,K=>K s
 |.cons i pd sub .nil,s,K=>Dd P ops i pd s (fun s'=>lX P ops sub s' K)
 |.cons i pd sub (.cons i' pd' sub' alt'),s,K=>Dd P ops i pd s (fun s'=>lX P ops sub s' K)∧lX P ops (.cons i' pd' sub' alt') s K
 |.cons _ _ _ (.opt _ _ _ _),_,_=>False
 |.opt _ _ _ _,_,_=>False
theorem nw {P:Program}{ops:Array Oper}{ws:WL}{ex:Option Nat}{pre:List Nat}{i:Nat}{s:St}{K:St→Prop}:∀{t:WL},lX P ops t s K→mJ ops ws ex pre t=true→rJ t i=true→∃pd sub,Dd P ops i pd s (fun s'=>lX P ops sub s' K)∧Pg ops ws ex pre i pd sub
 |.nil,_,_,hn=>by cases hn
 |.opt _ _ _ _,_,_,hn=>by cases hn
 |.cons _ _ _ (.opt _ _ _ _),h,_,_=>by rw[lX]at h;exact h.elim
 |.cons i0 pd sub .nil,h,hg,hn=>by
  simp only[rJ]at hn
  by_cases he:i=i0
  ·subst he;rw[lX]at h;exact⟨pd,sub,h,(jl hg).1⟩
  rw[if_neg he]at hn;cases hn
 |.cons i0 pd sub (.cons i' pd' sub' alt'),h,hg,hn=>by
  rw[lX]at h
  by_cases he:i=i0
  ·subst he;exact⟨pd,sub,h.1,(jl hg).1⟩
  refine nw h.2 (jl hg).2 ?_;rw[rJ,if_neg he]at hn;exact hn
def hid (ops:Array Oper)(ws:WL)(listed:Array Bool)(t:Tmp):Prop:=∃j,j<ops.size∧bH ws j=true∧listed.getD j false=false∧br ops j=some t
def sK (σ:St)(ops:Array Oper)(es:Nat→eJ)(ws:WL):St:={aK σ σ.nx ops es (bH ws) ops.size with nx:=σ.nx+ops.size}
structure oA (P:Program) (G:Ctx) (ops:Array Oper) (ws:WL) (ex:Option Nat) (F:Prop) (σ:St) (es:Nat→eJ) (K:St→Prop) (listed:Array Bool) (a:Act) (w:World):Prop where
 size:listed.size=ops.size
 down:∀i,listed.getD i false=true→∀p∈da ops i,listed.getD p false=true
 where_:(F∧(∀i,listed.getD i false=true→bH ws i=true)∧u7 G (fun b=>b<σ.nx∨∃j,j<ops.size∧listed.getD j false=true∧b=σ.nx+j) (aK σ σ.nx ops es (fun j=>bH ws j&&listed.getD j false) ops.size) a w)∨
  (∃(pre:List Nat) (rest:WL) (pd:List Nat) (s:St) (a':Act),(∀j,j<ops.size→bH ws j=false→(listed.getD j false=true↔j∈pre))∧(∀k∈pre,listed.getD k false=true)∧mJ ops ws ex pre rest=true∧(ki ops ws pre rest=true∧∀q,ex=some q→listed.getD q false=true)∧
   (∀j,j<ops.size→bH ws j=true→listed.getD j false=false→j∈pd)∧lX P ops rest s K∧Promise P ops s pd∧oL G s a' w∧RU (hid ops ws listed) a a')
theorem mV (L:Nat→Bool)(t:Nat):∀k,(∀j,j<k→L j=true→br ops j≠some t)→lk (aK σ σ.nx ops es L k).env t=lk σ.env t:=by
 intro k
 induction k with
 |zero=>intro _;rfl
 |succ k ih=>
  intro h;simp only[aK]
  split
  ·rename_i hL
   rw[j5,if_neg (h k (Nat.lt_succ_self k) hL)];exact ih (fun j hj=>h j (Nat.lt_succ_of_lt hj))
  exact ih (fun j hj=>h j (Nat.lt_succ_of_lt hj))
theorem Pn (RO:OQ ops ws){i:Nat}{o:Oper}(ho:ops[i]? =some o)(hi:bH ws i=true){L:Nat→Bool}(hL:∀j,L j=true→bH ws j=true)(hp:∀p∈da ops i,bH ws p=true→L p=true):
  gp (aK σ σ.nx ops es (bH ws) i) (aK σ σ.nx ops es L ops.size) σ.nx o:=by
 have Sk:=(Array.getElem?_eq_some_iff.1 ho).1;refine⟨by rw[fN,fN],fun x hx=>?_,fun b hb=>by rw[jf _ ops.size b hb,jf _ i b hb]⟩
 cases x with
 |tmp t=>
  have Us:t∈tmpsOf o:=List.mem_filterMap.2 ⟨.tmp t,by simpa using hx,rfl⟩;show lk _ t=lk _ t
  by_cases hex:∃j,j<ops.size∧bH ws j=true∧br ops j=some t
  ·obtain⟨j,hj,Sw,hd⟩:=hex;obtain⟨Th,YN⟩:=(RO.data i o ho hi t Us j hj hd).1 Sw;rw[dD (N:=ops.size) L hd (hp j YN Sw) RO.dst ops.size (Nat.le_refl _) hj,dD (N:=ops.size) (bH ws) hd Sw RO.dst i (by omega) Th]
  rw[mV L t ops.size (fun j hj hLj h=>hex ⟨j,hj,hL j hLj,h⟩),mV (bH ws) t i (fun j hj hLj h=>hex ⟨j,by omega,hLj,h⟩)]
 |const v=>rfl
 |global g=>rfl
 |func f=>rfl
theorem ghost (RO:OQ ops ws)(S7:∀j,∀b∈(es j).fz,b<σ.nx)
  (S5:∀(i:Nat) o,bH ws i=true→ops[i]? =some o→lM P ops σ.nx i o (aK σ σ.nx ops es (bH ws) i) (es i))
  {G:Ctx} {listed:Array Bool} {a:Act} {w:World} {dom:Nat→Prop} (hW:∀i,listed.getD i false=true→bH ws i=true)
  (VN:∀j,j<ops.size→bH ws j=true→listed.getD j false=false→∃o,ops[j]? =some o∧iV o.op=true)
  (hs:u7 G dom (aK σ σ.nx ops es (fun j=>bH ws j&&listed.getD j false) ops.size) a w) (WT:∀i,listed.getD i false=true→∀p∈da ops i,listed.getD p false=true):
  ∀n,n≤ops.size→∃a',u7 G dom (aK σ σ.nx ops es (fun j=>bH ws j&&(listed.getD j false||decide (j<n))) ops.size) a' w∧RU (hid ops ws listed) a a':=by
 intro n
 induction n with
 |zero=>
  intro _;refine⟨a,?_,RU.refl _ _⟩;rw[cO (L':=fun j=>bH ws j&&listed.getD j false) ops.size (fun j _=>by simp)];exact hs
 |succ n ih=>
  intro hn;obtain⟨a',⟨ρ,h1⟩,hu⟩:=ih (by omega)
  by_cases hc:bH ws n=true∧listed.getD n false=false
  ·obtain⟨hR,hl⟩:=hc;obtain⟨o,ho,Ru⟩:=VN n (by omega) hR hl;obtain⟨Sn,RM⟩:=S5 n o hR ho
   have TA:=Pn (σ:=σ) (es:=es) RO ho hR (L:=fun j=>bH ws j&&(listed.getD j false||decide (j<n))) (fun j hj=>by simp at hj;exact hj.1) (fun p hp hpR=>by
    have:=RO.pred n o ho p hp
    simp[hpR,this])
   have RI:(es n).vJ=none∧(es n).fz=[]∧∃v,bY ρ dom (aE G (aK σ σ.nx ops es (fun j=>bH ws j&&(listed.getD j false||decide (j<n))) ops.size).own ρ w) w (es n).val v:=by
    have doit:a7 P o (aK σ σ.nx ops es (bH ws) n) σ.nx (σ.nx+n) (es n)→(es n).vJ=none∧(es n).fz=[]∧∃v,bY ρ dom (aE G (aK σ σ.nx ops es (fun j=>bH ws j&&(listed.getD j false||decide (j<n))) ops.size).own ρ w) w (es n).val v:=fun SP=>by
     obtain⟨VO,VP,Ui⟩:=SP.2 Ru;obtain⟨v,_,hv⟩:=Ui G dom ρ _ a' w h1 TA;exact⟨VO,VP,v,hv⟩
    split at RM
    ·exact doit RM
    obtain⟨t,b,_,_,RM⟩:=RM
    split at RM
    ·exact doit RM
    rw[RM];exact⟨rfl,rfl,undef,⟨#[],rfl,trivial⟩⟩
   obtain⟨VO,VP,v,hv⟩:=RI;have SB:br ops n=o.dst:=by unfold br;rw[ho];rfl
   have h2:=h1.put (dst:=o.dst) (x:=(es n).val) (v:=v) (fun d hd=>by have:=Sn d hd;rw[fN]at this⊢;exact this) hv;refine⟨a'.put o.dst v,⟨ρ,?_⟩,?_⟩
   ·have he:es n=⟨(es n).val,none,[]⟩:=by
     cases hen:es n with
     |mk v b f=>rw[hen]at VO VP;simp only at VO VP;rw[VO,VP]
    have h3:=ni (σ:=σ) (nx0:=σ.nx) (e:=es) (N:=ops.size) (L:=fun j=>bH ws j&&(listed.getD j false||decide (j<n))) (i:=n) (by simp[hl]) RO.dst S7 ops.size (Nat.le_refl _) (by omega)
    rw[he,St.add_plain,SB]at h3;have h4:=h2.FY h3.symm
    rw[cO (L':=fun j=>(bH ws j&&(listed.getD j false||decide (j<n)))||j==n) ops.size (fun j _=>?_)]
    ·exact h4
    by_cases Vn:j=n
    ·subst Vn;simp[hR]
    have e1:decide (j<n+1)=decide (j<n):=by simp;omega
    have e2:(j==n)=false:=by simpa using Vn
    rw[e1,e2,Bool.or_false]
   cases hd:o.dst with
   |none=>exact hu
   |some d=>
    refine⟨hu.defers,by rw[hu.size];simp[Act.put],fun t ht=>?_⟩;rw[mL,if_neg,hu.tmps t ht];rintro⟨rfl,_⟩;exact ht ⟨n,by omega,hR,hl,by rw[SB,hd]⟩
  refine⟨a',⟨ρ,?_⟩,hu⟩
  rw[cO (L':=fun j=>bH ws j&&(listed.getD j false||decide (j<n))) ops.size (fun j _=>?_)]
  ·exact h1
  by_cases Vn:j=n
  ·subst Vn
   cases hR:bH ws j with
   |false=>rfl
   |true=>
    have:listed.getD j false=true:=by
     cases hl:listed.getD j false with
     |true=>rfl
     |false=>exact absurd ⟨hR,hl⟩ hc
    rw[this];rfl
  have e1:decide (j<n+1)=decide (j<n):=by simp;omega
  rw[e1]
theorem lT {L:Nat→Bool}(h:∀j,j<ops.size→bH ws j=true→L j=true):aK σ σ.nx ops es (fun j=>bH ws j&&L j) ops.size=aK σ σ.nx ops es (bH ws) ops.size:=
 cO ops.size fun j hj=>by
  cases hR:bH ws j with
  |false=>rfl
  |true=>rw[h j hj hR];rfl
theorem MA {ex:Option Nat}{F:Prop}{G:Ctx}{Q:Exit→Act→World→Prop}(hP:∀ch a a' w,Q (.panic ch) a w→Q (.panic ch) a' w){fuel:Nat}{listed:Array Bool}{a:Act}{w:World}(Ts:listed.size=ops.size)(SK:∀i,listed.getD i false=true→∀p∈da ops i,listed.getD p false=true)
  {i:Nat} (Sk:i<ops.size) (hp:∀p∈da ops i,listed.getD p false=true) (ZM:bH ws i=false) {pre:List Nat} {sub:WL} {pdi:List Nat} {s:St} {a':Act} (h1:∀j,j<ops.size→bH ws j=false→(listed.getD j false=true↔j∈pre)) (TR:∀k∈pre,listed.getD k false=true)
  (SL:Pg ops ws ex pre i pdi sub) (h6:Dd P ops i pdi s (fun s'=>lX P ops sub s' K)) (h8:oL G s a' w) (h9:RU (hid ops ws listed) a a') (UL:∀q,ex=some q→listed.getD q false=true)
  (ih:∀a w,oA P G ops ws ex F σ es K (listed.setIfInBounds i true) a w→wpAny P .any ops Q fuel (listed.setIfInBounds i true) a w):wpOp P ops Q i (wpAny P .any ops Q fuel (listed.setIfInBounds i true)) a w:=by
 have ho:=Array.getElem?_eq_getElem Sk;have Ru:i<listed.size:=by rw[Ts];exact Sk
 have SS:∀j,(listed.setIfInBounds i true).getD j false=true→∀p∈da ops j,(listed.setIfInBounds i true).getD p false=true:=by
  intro j hj p WU;rw[aV Ru]at hj⊢
  rcases Bool.or_eq_true_iff.1 hj with hj|hj
  ·rw[SK j hj p WU];rfl
  have:j=i:=by simpa using hj
  subst this;rw[hp p WU];rfl
 have Tb:∀j,ff ops ops.size i j=true→listed.getD j false=true:=fun j hj=>fH SK _ i j hp hj;obtain⟨o,SE,hg,V9,Ut⟩:=SL.op;rw[ho]at SE;obtain rfl:=Option.some.inj SE;obtain⟨o2,TH,Sn,hwe⟩:=h6;rw[ho]at TH;obtain rfl:=Option.some.inj TH;have WW:∀j,j<ops.size→bH ws j=true→listed.getD j false=false→j∈pdi:=fun j hj Sw R4=>by
  rcases SL.all j hj Sw with k|ke|⟨k0,VQ,k⟩
  ·exact k
  ·rw[UL j ke]at R4;cases R4
  rcases List.mem_cons.1 VQ with rfl|VQ
  ·rw[Tb j k]at R4;cases R4
  rw[fH SK _ k0 j (SK k0 (TR k0 VQ)) k]at R4;cases R4
 unfold wpOp;simp only[ho];rw[iD hg,if_pos rfl];refine .inl (h9.wp V9 (fun t ht hh=>?_) hP ?_ (hwe G a' w h8 Q (fun b' w'=>∃s',(Promise P ops s' pdi∧lX P ops sub s' K)∧oL G s' b' w') fun s' b' w' k1 k2=>⟨s',k1,k2⟩))
 ·obtain⟨j,hj,Sw,R4,TT⟩:=hh;obtain⟨oj,d,_,k1,_,k2,k3⟩:=Ut j (WW j hj Sw R4)
  have:br ops j=some d:=by unfold br;rw[k1];exact k2
  rw[this]at TT;obtain rfl:=Option.some.inj TT;exact k3 ht
 rintro b b' w' Yw ⟨s',⟨k1,k2⟩,k3⟩;refine ih _ _ ⟨by simpa using Ts,SS,.inr ⟨i::pre,sub,pdi,s',b',fun j hj Sw=>?_,fun k hk=>?_,SL.sub,⟨SL.cov,fun q hq=>by rw[aV Ru,UL q hq];rfl⟩,fun j hj Sw R4=>?_,k2,k1,k3,⟨Yw.defers,Yw.size,fun t ht=>Yw.tmps t fun hh=>ht ?_⟩⟩⟩
 ·rw[aV Ru,Bool.or_eq_true,h1 j hj Sw,List.mem_cons,beq_iff_eq]
  constructor
  ·rintro(k|k)
   ·exact .inr k
   exact .inl k
  rintro(k|k)
  ·exact .inr k
  exact .inl k
 ·rw[aV Ru,Bool.or_eq_true,beq_iff_eq]
  rcases List.mem_cons.1 hk with hk|hk
  ·exact .inr hk
  exact .inl (TR k hk)
 ·rw[aV Ru]at R4;simp only[Bool.or_eq_false_iff]at R4;exact WW j hj Sw R4.1
 obtain⟨j,hj,Sw,R4,TT⟩:=hh;refine⟨j,hj,Sw,?_,TT⟩;rw[aV Ru,R4,Bool.false_or,beq_eq_false_iff_ne];intro e;rw[e,ZM]at Sw;cases Sw
theorem lf {ex:Option Nat}{F:Prop}(RO:OQ ops ws)(hcov:F→ki ops ws [] ws=true)(hgw:F→mJ ops ws ex [] ws=true)(S7:∀j,∀b∈(es j).fz,b<σ.nx)
  (S5:F→∀(i:Nat) o,bH ws i=true→ops[i]? =some o→lM P ops σ.nx i o (aK σ σ.nx ops es (bH ws) i) (es i))
  (hW:F→lX P ops ws (sK σ ops es ws) K)
  {G:Ctx} {Q:Exit→Act→World→Prop} (UM:F→∀q,ex=some q→∀(fuel:Nat) (listed:Array Bool) (a:Act) (w:World) (i:Nat),oA P G ops ws ex F σ es K listed a w→(∀j,listed.getD j false=true→bH ws j=true)→
   u7 G (fun b=>b<σ.nx∨∃j,j<ops.size∧listed.getD j false=true∧b=σ.nx+j) (aK σ σ.nx ops es (fun j=>bH ws j&&listed.getD j false) ops.size) a w→listed.getD q false=false→
   i∈Region.ready .any ops listed→iY ws i=true→iI ops listed≤fuel+1→wpOp P ops Q i (wpAny P .any ops Q fuel (listed.setIfInBounds i true)) a w) (hQ:∀s a w,K s→oL G s a w→Q .normal a w) (hP:∀ch a a' w,Q (.panic ch) a w→Q (.panic ch) a' w):
  ∀(fuel:Nat) (listed:Array Bool) (a:Act) (w:World),oA P G ops ws ex F σ es K listed a w→iI ops listed≤fuel→wpAny P .any ops Q fuel listed a w:=by
 have Vb:∀(listed:Array Bool) (a:Act) (w:World),oA P G ops ws ex F σ es K listed a w→(∀j,j<ops.size→listed.getD j false=true)→Q .normal a w:=by
  intro listed a w h Rz
  rcases h.where_ with⟨hF,hR,ρ,RC⟩|⟨pre,rest,pd,s,a',h1,h2,h3,h4,h5,h6,h7,h8,h9⟩
  ·have hW:=hW hF;have X9:∀i,i<ops.size→iY ws i=false:=fun i hi=>by
    have:=hR i (Rz i hi)
    simpa[bH]using this
   cases ZN:ws with
   |nil=>
    rw[ZN]at hW RC;refine hQ _ a w hW ⟨ρ,?_⟩;rw[lT (fun j hj _=>Rz j hj)]at RC
    have TU:=RC.cR (dom':=fun b=>b<σ.nx+ops.size) (fun b hb=>by rcases hb with hb|⟨j,hj,_,rfl⟩<;>omega)
    exact TU.FY ⟨fun _=>rfl,fun _=>rfl,rfl⟩
   |cons i pd sub alt=>
    exfalso
    have hw:=hgw hF;rw[ZN]at hw;obtain⟨o,ho,_⟩:=(jl hw).1.op
    have:=X9 i (Array.getElem?_eq_some_iff.1 ho).1
    rw[ZN]at this
    simp[iY]at this
   |opt _ _ _ _=>rw[ZN]at hW;exact hW.elim
  cases VR:rest with
  |nil=>
   rw[VR]at h6;have ha:a=a':=h9.eq fun t ht=>by
    obtain⟨j,hj,_,hl,_⟩:=ht;rw[Rz j hj]at hl;cases hl
   subst ha;exact hQ s a w h6 h8
  |opt _ _ _ _=>rw[VR]at h6;exact h6.elim
  |cons i pd' sub alt=>
   exfalso
   rw[VR]at h3;have Ws:=h3;simp only[mJ,Bool.and_eq_true]at Ws;obtain⟨⟨⟨U1,_⟩,_⟩,_⟩:=Ws
   cases ho:ops[i]? with
   |none=>rw[ho]at U1;cases U1
   |some o=>
    rw[ho]at U1;simp only[Bool.and_eq_true,Bool.not_eq_true']at U1;obtain⟨⟨⟨⟨⟨_,_⟩,hnp⟩,hwi⟩,_⟩,_⟩:=U1;have Sk:=(Array.getElem?_eq_some_iff.1 ho).1
    have:=(h1 i Sk (by simp[bH,hwi])).1 (Rz i Sk)
    simp[this]at hnp
 intro fuel
 induction fuel with
 |zero=>
  intro listed a w h hf;have Rz:=rI (Nat.le_zero.1 hf);refine⟨?_,Vb listed a w h Rz⟩
  cases hr:Region.ready .any ops listed with
  |nil=>rfl
  |cons i l=>
   obtain⟨_,hi,hu⟩:=ik (i:=i) (listed:=listed) (ops:=ops) (by rw[hr];simp);have h1:=Rz i hi;have Ru:i<listed.size:=by rw[h.size];exact hi
   simp[Array.getD,Ru]at h1 hu
   rw[h1]at hu;cases hu
 |succ fuel ih=>
  intro listed a w h hf;refine⟨fun hr=>?_,fun i hi=>?_⟩
  ·have Rz:∀n i,i<n→i<ops.size→listed.getD i false=true:=by
    intro n
    induction n with
    |zero=>intro i hi;omega
    |succ n ihn=>
     intro i R6 Sk
     by_cases hu:listed.getD i false=true
     ·exact hu
     have Ru:i<listed.size:=by rw[h.size];exact Sk
     have RP:listed.getD i true=false:=by
      simp[Array.getD,Ru]at hu⊢
      exact hu
     have hm:=mQ (ops:=ops) (Array.getElem?_eq_getElem Sk) RP (fun p hp=>ihn p (by have:=RO.pred i _ (Array.getElem?_eq_getElem Sk) p hp;omega) (by have:=RO.pred i _ (Array.getElem?_eq_getElem Sk) p hp;omega));rw[hr]at hm;cases hm
   exact Vb listed a w h (fun j hj=>Rz _ j (Nat.lt_succ_self _) hj)
  obtain⟨hp,Sk,hu⟩:=ik hi;have ho:=Array.getElem?_eq_getElem Sk;have hcount:=oH h.size Sk hu;have Ru:i<listed.size:=by rw[h.size];exact Sk
  have RP:listed.getD i false=false:=by
   simp[Array.getD,Ru]at hu⊢
   exact hu
  have SS:∀j,(listed.setIfInBounds i true).getD j false=true→∀p∈da ops j,(listed.setIfInBounds i true).getD p false=true:=by
   intro j hj p WU;rw[aV Ru]at hj⊢
   rcases Bool.or_eq_true_iff.1 hj with hj|hj
   ·rw[h.down j hj p WU];rfl
   have:j=i:=by simpa using hj
   subst this;rw[hp p WU];rfl
  have Tb:∀j,ff ops ops.size i j=true→listed.getD j false=true:=fun j hj=>fH h.down _ i j hp hj
  by_cases UE:bH ws i=true
  ·rcases h.where_ with⟨hF,Vs,ρ,RC⟩|⟨pre,rest,pd,s,a',h1,h2,h3,h4,h5,h6,h7,h8,h9⟩
   ·have RM:=S5 hF i ops[i] UE ho;have TA:=Pn (σ:=σ) (es:=es) RO ho UE (L:=fun j=>bH ws j&&listed.getD j false) (fun j hj=>by simp at hj;exact hj.1) (fun p UN hpR=>by rw[hpR,hp p UN];rfl);have TB:∀a' w',u7 G (fun b=>(b<σ.nx∨∃j,j<ops.size∧listed.getD j false=true∧b=σ.nx+j)∨b=σ.nx+i) ((aK σ σ.nx ops es (fun j=>bH ws j&&listed.getD j false) ops.size).add (br ops i) (σ.nx+i) (es i)) a' w'→
      oA P G ops ws ex F σ es K (listed.setIfInBounds i true) a' w':=by
     rintro a' w' ⟨ρ',k1⟩;refine⟨by simpa using h.size,SS,.inl ⟨hF,fun j hj=>?_,ρ',?_⟩⟩
     ·rw[aV Ru]at hj
      rcases Bool.or_eq_true_iff.1 hj with hj|hj
      ·exact Vs j hj
      have:j=i:=by simpa using hj
      rw[this];exact UE
     have k2:=k1.cR (dom':=fun b=>b<σ.nx∨∃j,j<ops.size∧(listed.setIfInBounds i true).getD j false=true∧b=σ.nx+j) (fun b hb=>by
      rcases hb with(hb|⟨j,hj,Yp,rfl⟩)|rfl
      ·exact .inl hb
      ·exact .inr ⟨j,hj,by rw[aV Ru,Yp];rfl,rfl⟩
      exact .inr ⟨i,Sk,by rw[aV Ru];simp,rfl⟩)
     have k3:=ni (σ:=σ) (nx0:=σ.nx) (e:=es) (N:=ops.size) (L:=fun j=>bH ws j&&listed.getD j false) (i:=i) (by simp[RP]) RO.dst S7 ops.size (Nat.le_refl _) Sk;have k4:=k2.FY k3.symm
     rw[cO (L:=fun j=>(bH ws j&&listed.getD j false)||j==i) (L':=fun j=>bH ws j&&(listed.setIfInBounds i true).getD j false) ops.size (fun j _=>by
      rw[aV Ru]
      by_cases Th:j=i
      ·subst Th;simp[UE]
      have:(j==i)=false:=by simpa using Th
      rw[this,Bool.or_false,Bool.or_false])]at k4
     exact k4
    have SB:br ops i=ops[i].dst:=by unfold br;rw[ho];rfl
    have hid':¬(σ.nx+i<σ.nx∨∃j,j<ops.size∧listed.getD j false=true∧σ.nx+i=σ.nx+j):=by
     rintro(k1|⟨j,_,hj,he⟩)
     ·omega
     have:i=j:=by omega
     subst this;rw[RP]at hj;cases hj
    unfold wpOp;simp only[ho];obtain⟨Sn,RM⟩:=RM;have doit:a7 P ops[i] (aK σ σ.nx ops es (bH ws) i) σ.nx (σ.nx+i) (es i)→ops[i].wp P a w (wpAny P .any ops Q fuel (listed.setIfInBounds i true)) Q:=by
     intro SP;refine SP.1 G _ ρ _ a w RC hid' TA Q _ fun v w' k5=>?_;refine ih _ _ _ (TB _ _ ?_) (by omega);rw[SB];exact k5
    split at RM
    ·rename_i hg
     rw[iD hg,if_pos rfl];exact .inl (doit RM)
    rename_i g want hg
    obtain⟨t,b,ht,hb,RM⟩:=RM;obtain⟨TI,WV,Xo⟩:=RO.guard i _ g want ho UE hg;have Se:gv (lk (aK σ σ.nx ops es (fun j=>bH ws j&&listed.getD j false) ops.size).env t)=some b:=by
     rw[dD (N:=ops.size) (fun j=>bH ws j&&listed.getD j false) (t:=t) (j:=g) ht (by rw[Xo,hp g WV];rfl) RO.dst ops.size (Nat.le_refl _) (by omega)];rw[dD (N:=ops.size) (bH ws) (t:=t) (j:=g) ht Xo RO.dst i (by omega) TI]at hb;exact hb
    rw[nD RC hg ht Se]
    by_cases Sj:b=some want
    ·rw[if_pos Sj]at RM;rw[if_pos (by simp[Sj])];exact .inl (doit RM)
    rw[if_neg Sj]at RM;rw[if_neg (by simpa using Sj)];refine ih _ _ _ (TB _ _ ⟨ρ,?_⟩) (by omega);rw[RM,SB];have k5:=RC.put (dst:=ops[i].dst) (x:=.aF []) (v:=undef) (fun d hd=>by have:=Sn d hd;rw[fN]at this⊢;exact this) ⟨#[],rfl,trivial⟩;have k6:=k5.cR (dom':=fun b=>(b<σ.nx∨∃j,j<ops.size∧listed.getD j false=true∧b=σ.nx+j)∨b=σ.nx+i) (fun b hb=>Or.inl hb);unfold eJ.skip;rw[St.add_plain];exact k6
   -- one that is late
   have hipd:=h5 i Sk UE RP;obtain⟨o,d,SE,hd,Ui,SK⟩:=h7 i hipd;rw[ho]at SE;obtain rfl:=Option.some.inj SE;obtain⟨ρ,RC⟩:=h8;have SB:br ops i=some d:=by unfold br;rw[ho];exact hd
   have VS:=RC.sW h9;have TA:gp s (sW s (hid ops ws listed)) s.nx ops[i]:=by
    refine⟨rfl,fun x hx=>?_,fun b _=>rfl⟩
    cases x with
    |tmp t=>
     have Us:t∈tmpsOf ops[i]:=List.mem_filterMap.2 ⟨.tmp t,by simpa using hx,rfl⟩;refine rX _ _ _ fun hh=>?_;obtain⟨j,hj,Sw,R4,TT⟩:=hh;rw[hp j ((RO.data i _ ho UE t Us j hj TT).1 Sw).2]at R4;cases R4
    |const v=>rfl
    |global g=>rfl
    |func f=>rfl
   have fin:∀v,bY ρ (fun b=>b<s.nx) (aE G s.own ρ w) w (lk s.env d) v→wpAny P .any ops Q fuel (listed.setIfInBounds i true) (a.put (some d) v) w:=by
    intro v hv;refine ih _ _ _ ?_ (by omega);have Sl:aR G (fun b=>b<s.nx) ρ s (a'.put (some d) v) w:=by
     have k1:=RC.put (dst:=some d) (x:=lk s.env d) (v:=v) (fun d' ZO=>by obtain rfl:=Option.some.inj ZO;exact SK) hv;refine k1.FY ⟨fun t=>?_,fun _=>rfl,rfl⟩;rw[Di]
     by_cases ht:some d=some t
     ·obtain rfl:=Option.some.inj ht;rw[if_pos rfl]
     rw[if_neg ht]
    refine⟨by simpa using h.size,SS,.inr ⟨pre,rest,pd,s,a'.put (some d) v,fun j hj Sw=>?_,fun k hk=>by rw[aV Ru,h2 k hk];rfl,h3,⟨h4.1,fun q hq=>by rw[aV Ru,h4.2 q hq];rfl⟩,fun j hj Sw R4=>?_,h6,h7,⟨ρ,Sl⟩,?_⟩⟩
    ·rw[←h1 j hj Sw,aV Ru]
     have:(j==i)=false:=by
      rw[beq_eq_false_iff_ne];intro e;rw[e,UE]at Sw;cases Sw
     rw[this,Bool.or_false]
    ·rw[aV Ru]at R4;simp only[Bool.or_eq_false_iff]at R4;exact h5 j hj Sw R4.1
    refine⟨h9.defers,by simp[Act.put,h9.size],fun t ht=>?_⟩;rw[mL,mL,h9.size]
    split
    ·rfl
    rename_i RE
    by_cases ZP:t=d
    ·subst ZP;have TU:a'.tmps.size≤t:=Nat.le_of_not_lt fun Ws=>RE ⟨rfl,Ws⟩;rw[Array.getElem?_eq_none (by rw[h9.size];exact TU),Array.getElem?_eq_none TU]
    refine h9.tmps t fun hh=>ht ?_;obtain⟨j,hj,Sw,R4,TT⟩:=hh;refine⟨j,hj,Sw,?_,TT⟩;rw[aV Ru,R4,Bool.false_or,beq_eq_false_iff_ne];intro e;subst e;rw[SB]at TT;exact ZP (Option.some.inj TT).symm
   unfold wpOp;simp only[ho];unfold HD at Ui
   split at Ui
   ·rename_i hg
    obtain⟨v,RB,hv⟩:=Ui G _ ρ _ a w VS TA;rw[iD hg,if_pos rfl];refine .inl (Oper.cS RB ?_);rw[hd];exact fin v hv
   rename_i g want hg
   obtain⟨t,b,ht,hb,Ui⟩:=Ui;obtain⟨TI,WV,Xo⟩:=RO.guard i _ g want ho UE hg;have Se:gv (lk (sW s (hid ops ws listed)).env t)=some b:=by
    rw[rX _ _ _ ?_]
    ·exact hb
    rintro⟨j,hj,Sw,R4,TT⟩
    by_cases hjg:j=g
    ·subst hjg;rw[hp j WV]at R4;cases R4
    exact RO.dst j g t hj (by omega) hjg TT ht
   rw[nD VS hg ht Se]
   by_cases Sj:b=some want
   ·rw[if_pos Sj]at Ui;rw[if_pos (by simp[Sj])];obtain⟨v,RB,hv⟩:=Ui G _ ρ _ a w VS TA;refine .inl (Oper.cS RB ?_);rw[hd];exact fin v hv
   rw[if_neg Sj]at Ui;rw[if_neg (by simpa using Sj)];rw[hd];refine fin undef ?_;rw[Ui];exact⟨#[],rfl,trivial⟩
  have ZM:bH ws i=false:=by simpa using UE
  have Ya:iY ws i=true:=by simpa[bH]using ZM
  by_cases hx:∃q,ex=some q∧listed.getD q false=false
  ·obtain⟨q,hq,Um⟩:=hx
   rcases h.where_ with⟨hF,Vs,RC⟩|⟨pre,rest,pd,s,a',h1,h2,h3,h4,h5,h6,h7,h8,h9⟩
   ·exact UM hF q hq fuel listed a w i h Vs RC Um hi Ya hf
   rw[h4.2 q hq]at Um;cases Um
  have UL:∀q,ex=some q→listed.getD q false=true:=fun q hq=>by
   cases hl:listed.getD q false with
   |true=>rfl
   |false=>exact absurd ⟨q,hq,hl⟩ hx
  -- where it stands among those that write
  have data:∃(pre:List Nat) (sub:WL) (pdi:List Nat) (s:St) (a':Act),(∀j,j<ops.size→bH ws j=false→(listed.getD j false=true↔j∈pre))∧(∀k∈pre,listed.getD k false=true)∧Pg ops ws ex pre i pdi sub∧
    Dd P ops i pdi s (fun s'=>lX P ops sub s' K)∧oL G s a' w∧RU (hid ops ws listed) a a'∧∀q,ex=some q→listed.getD q false=true:=by
   rcases h.where_ with⟨hF,Vs,RC⟩|⟨pre,rest,pd,s,a',h1,h2,h3,h4,h5,h6,h7,h8,h9⟩
   ·rcases rC (hcov hF) Sk Ya with k|k|⟨j,hj,ZQ,_,Te⟩
    ·cases k
    ·obtain⟨pdi,sub,Ut,SL⟩:=nw (hW hF) (hgw hF) k;obtain⟨ρ,RC⟩:=RC;obtain⟨a',Ul,SD⟩:=ghost (P:=P) RO S7 (S5 hF) Vs (fun j hj Sw R4=>by
      rcases SL.all j hj Sw with kd|ke|⟨k0,VQ,kc⟩
      ·obtain⟨o,_,_,_,Ut⟩:=SL.op;obtain⟨oj,d,_,k1,k2,_⟩:=Ut j kd;exact⟨oj,k1,k2⟩
      ·rw[UL j ke]at R4;cases R4
      have VQ:k0=i:=by simpa using VQ
      rw[VQ]at kc;rw[Tb j kc]at R4;cases R4) ⟨ρ,RC⟩ h.down ops.size (Nat.le_refl _)
     refine⟨[],sub,pdi,sK σ ops es ws,a',fun j hj Sw=>?_,fun k hk=>by(cases hk),SL,Ut,?_,SD,UL⟩
     ·constructor
      ·intro k;rw[Vs j k]at Sw;cases Sw
      intro k;cases k
     obtain⟨ρ',k1⟩:=Ul;rw[lT (fun j hj _=>by simp[hj])]at k1
     have k2:=k1.cR (dom':=fun b=>b<σ.nx+ops.size) (fun b hb=>by rcases hb with hb|⟨j,hj,_,rfl⟩<;>omega)
     exact⟨ρ',k2.FY ⟨fun _=>rfl,fun _=>rfl,rfl⟩⟩
    exfalso
    have k2:=Vs j (Tb j Te)
    simp[bH,ZQ]at k2
   rcases rC h4.1 Sk Ya with k|k|⟨j,hj,ZQ,YN,Te⟩
   ·exfalso;rw[h2 i k]at RP;cases RP
   ·obtain⟨pdi,sub,Ut,SL⟩:=nw h6 h3 k;exact⟨pre,sub,pdi,s,a',h1,h2,SL,Ut,h8,h9,h4.2⟩
   exfalso
   exact YN ((h1 j hj (by simp[bH,ZQ])).1 (Tb j Te))
  obtain⟨pre,sub,pdi,s,a',h1,TR,SL,h6,h8,h9,UL⟩:=data;exact MA hP h.size h.down Sk hp ZM h1 TR SL h6 h8 h9 UL fun a w RM=>ih _ _ _ RM (by omega)
def I0:List (Nat×V)→Nat→List (Nat×V)
 |[],_=>[]
 |(t,v)::r,d=>if t=d then I0 r d else(t,v)::I0 r d
def OS (d id:Nat)(s:St):St:={s with env:=I0 s.env d,own:=del s.own id}
theorem Hs (d t:Nat):∀l:List (Nat×V),lk (I0 l d) t=if t=d then .unk else lk l t
 |[]=>by simp[I0,lk]
 |(t',v)::r=>by
  have ih:=Hs d t r;simp only[I0]
  by_cases h:t'=d
  ·rw[if_pos h,ih]
   by_cases h2:t=d
   ·rw[if_pos h2,if_pos h2]
   rw[if_neg h2,if_neg h2,lk,if_neg (fun e=>h2 (e.trans h))]
  rw[if_neg h];simp only[lk]
  by_cases h2:t=t'
  ·subst h2;rw[if_pos rfl,if_neg h,if_pos rfl]
  rw[if_neg h2,if_neg h2,ih]
structure QN (ops:Array Oper) (q d:Nat) (t1 t2:WL):Prop where
 g1:OQ ops t1
 c1:ki ops t1 [] t1=true
 w1:mJ ops t1 (some q) [] t1=true
 g2:OQ ops t2
 c2:CY ops t2 q t2=true
 w2:mJ ops t2 none [] t2=true
 qs:q<ops.size
 qR:bH t1 q=true
 qd:br ops q=some d
 same:∀j,j<ops.size→iY t2 j=(iY t1 j||j==q)
 rd:∀j o,bH t2 j=true→ops[j]? =some o→d∉tmpsOf o
 al:∃o,ops[q]? =some o∧o.guard=none∧jW o.op=true
theorem JF {ops:Array Oper}{q d:Nat}{t1 t2:WL}(h:OK ops (.opt q d t1 t2)=true):QN ops q d t1 t2:=by
 simp only[OK,Bool.and_eq_true]at h;obtain⟨⟨⟨⟨⟨⟨⟨⟨⟨⟨⟨h1,h2⟩,h3⟩,h4⟩,h5⟩,h6⟩,h7⟩,h8⟩,h9⟩,TU⟩,Ws⟩,U1⟩:=h;refine⟨sJ h1,h2,h3,sJ h4,h5,h6,of_decide_eq_true h7,h8,by simpa using h9,fun j hj=>?_,fun j o hj ho=>?_,?_⟩
 ·have:=List.all_eq_true.1 TU j (by simpa using hj)
  exact beq_iff_eq.1 this
 ·have Ru:=(Array.getElem?_eq_some_iff.1 ho).1
  have:=List.all_eq_true.1 Ws j (by simpa using Ru)
  rw[hj,ho]at this
  simpa using this
 cases ho:ops[q]? with
 |none=>rw[ho]at U1;cases U1
 |some o=>
  rw[ho]at U1;simp only[Bool.and_eq_true,Option.isNone_iff_eq_none]at U1;exact⟨o,rfl,U1.1,U1.2⟩
theorem xt {q d:Nat}{t1 t2:WL}(hk:QN ops q d t1 t2)(S7:∀j,∀b∈(es j).fz,b<σ.nx)(hqfz:(es q).fz=[])
  (S5:∀(i:Nat) o,bH t1 i=true→ops[i]? =some o→lM P ops σ.nx i o (aK σ σ.nx ops es (bH t1) i) (es i))
  (hW1:lX P ops t1 (sK σ ops es t1) K) (hW2:lX P ops t2 (OS d (σ.nx+q) (sK σ ops es t1)) K)
  {G:Ctx} {Q:Exit→Act→World→Prop} (hQ:∀s a w,K s→oL G s a w→Q .normal a w) (hP:∀ch a a' w,Q (.panic ch) a w→Q (.panic ch) a' w):
  ∀(fuel:Nat) (listed:Array Bool) (a:Act) (w:World),oA P G ops t1 (some q) True σ es K listed a w→iI ops listed≤fuel→wpAny P .any ops Q fuel listed a w:=by
 have hR2:∀j,j<ops.size→bH t1 j=true→j≠q→bH t2 j=true:=fun j hj h1 hq=>by
  have:(j==q)=false:=by simpa using hq
  simp only[bH,hk.same j hj,this,Bool.or_false];exact h1
 have hR1:∀j,j<ops.size→bH t2 j=true→bH t1 j=true∧j≠q:=fun j hj h2=>by
  simp only[bH,hk.same j hj,Bool.not_eq_true',Bool.or_eq_false_iff]at h2;exact⟨by simp[bH,h2.1],by simpa using h2.2⟩
 have YP:bH t2 q=false:=by simp[bH,hk.same q hk.qs]
 -- the runs with and without the new variable
 have Ub:∀k,k≤ops.size→(k≤q→aK σ σ.nx ops es (bH t1) k=aK σ σ.nx ops es (bH t2) k)∧(q<k→Ae (aK σ σ.nx ops es (bH t1) k) ((aK σ σ.nx ops es (bH t2) k).add (some d) (σ.nx+q) (es q))):=fun k XY=>by
  refine⟨fun hkq=>cO k fun j hj=>?_,fun hqk=>?_⟩
  ·have h1:j<ops.size:=by omega
   have h2:(j==q)=false:=by rw[beq_eq_false_iff_ne];omega
   simp only[bH,hk.same j h1,h2,Bool.or_false]
  have h3:=ni (σ:=σ) (nx0:=σ.nx) (e:=es) (N:=ops.size) (L:=bH t2) (i:=q) YP hk.g1.dst S7 k XY hqk;rw[hk.qd]at h3
  rw[cO (L:=bH t1) (L':=fun j=>bH t2 j||j==q) k fun j hj=>?_]
  ·exact h3
  have h1:j<ops.size:=by omega
  by_cases hjq:j=q
  ·subst hjq;rw[hk.qR];simp
  have h2:(j==q)=false:=by simpa using hjq
  simp only[bH,hk.same j h1,h2,Bool.or_false]
 have hlk:∀k,k≤ops.size→∀t,t≠d→lk (aK σ σ.nx ops es (bH t1) k).env t=lk (aK σ σ.nx ops es (bH t2) k).env t:=fun k XY t ht=>by
  by_cases hkq:k≤q
  ·rw[(Ub k XY).1 hkq]
  rw[((Ub k XY).2 (by omega)).env t,j5,if_neg (fun e=>ht (Option.some.inj e).symm)]
 have TA:∀j o,bH t2 j=true→ops[j]? =some o→∀Z,gp (aK σ σ.nx ops es (bH t2) j) Z σ.nx o→gp (aK σ σ.nx ops es (bH t1) j) Z σ.nx o:=fun j o hj ho Z hZ=>by
  have hjs:=(Array.getElem?_eq_some_iff.1 ho).1;refine⟨by rw[hZ.n,fN,fN],fun x hx=>?_,fun b hb=>by rw[hZ.own b hb,jf _ j b hb,jf _ j b hb]⟩;rw[hZ.ev x hx]
  cases x with
  |tmp t=>
   have Us:t∈tmpsOf o:=List.mem_filterMap.2 ⟨.tmp t,by simpa using hx,rfl⟩;exact(hlk j (Nat.le_of_lt hjs) t (fun e=>hk.rd j o hj ho (e▸Us))).symm
  |const v=>rfl
  |global g=>rfl
  |func f=>rfl
 have SP:∀j o e,bH t2 j=true→ops[j]? =some o→a7 P o (aK σ σ.nx ops es (bH t1) j) σ.nx (σ.nx+j) e→a7 P o (aK σ σ.nx ops es (bH t2) j) σ.nx (σ.nx+j) e:=fun j o e hj ho h=>
  ⟨fun G dom ρ Z a w hs hd hZ=>h.1 G dom ρ Z a w hs hd (TA j o hj ho Z hZ),fun hl=>⟨(h.2 hl).1,(h.2 hl).2.1,fun G dom ρ Z a w hs hZ=>(h.2 hl).2.2 G dom ρ Z a w hs (TA j o hj ho Z hZ)⟩⟩
 have hstep2:∀(i:Nat) o,bH t2 i=true→ops[i]? =some o→lM P ops σ.nx i o (aK σ σ.nx ops es (bH t2) i) (es i):=fun i o hi ho=>by
  have Sk:=(Array.getElem?_eq_some_iff.1 ho).1;obtain⟨hd,hs⟩:=S5 i o (hR1 i Sk hi).1 ho;refine⟨fun t ht=>by have:=hd t ht;rw[fN]at this⊢;exact this,?_⟩
  cases hg:o.guard with
  |none=>rw[hg]at hs;exact SP i o _ hi ho hs
  |some gw=>
   obtain⟨g,want⟩:=gw;rw[hg]at hs;obtain⟨t,b,ht,hb,hs⟩:=hs;obtain⟨TI,WV,Xo⟩:=hk.g2.guard i o g want ho hi hg;have ZP:t≠d:=fun e=>by
    subst e;exact hk.g2.dst g q t (by omega) hk.qs (hR1 g (by omega) Xo).2 ht hk.qd
   refine⟨t,b,ht,by rw[←hlk i (Nat.le_of_lt Sk) t ZP];exact hb,?_⟩
   by_cases Sj:b=some want
   ·rw[if_pos Sj]at hs⊢;exact SP i o _ hi ho hs
   rw[if_neg Sj]at hs⊢;exact hs
 refine lf (ex:=some q) (F:=True) hk.g1 (fun _=>hk.c1) (fun _=>hk.w1) S7 (fun _=>S5) (fun _=>hW1) (fun _ q' hq' fuel listed a w i h Vs RC Um hi Ya hf=>?_) hQ hP;obtain rfl:=Option.some.inj hq';obtain⟨hp,Sk,hu⟩:=ik hi;have Ru:i<listed.size:=by rw[h.size];exact Sk
 have hiq:i≠q:=fun e=>by subst e;have:=hk.qR;rw[bH,Ya]at this;cases this
 have YQ:iY t2 i=true:=by rw[hk.same i Sk,Ya];rfl
 have Wu:∀j,listed.getD j false=true→bH t2 j=true:=fun j hj=>by
  have hjs:j<ops.size:=by
   rw[←h.size];refine Nat.lt_of_not_le fun hle=>?_
   simp[Array.getD,Nat.not_lt.2 hle]at hj
  refine hR2 j hjs (Vs j hj) fun e=>?_;subst e;rw[Um]at hj;cases hj
 have Tb:∀j,ff ops ops.size i j=true→listed.getD j false=true:=fun j hj=>fH h.down _ i j hp hj;have VT:rJ t2 i=true:=by
  have h1:=List.all_eq_true.1 hk.c2 i (by simpa using Sk);rw[YQ]at h1;have h2:(i==q)=false:=by simpa using hiq
  rw[h2]at h1;simp only[Bool.not_true,Bool.false_or,Bool.or_eq_true]at h1
  rcases h1 with h1|h1
  ·exact h1
  obtain⟨j,_,h3⟩:=List.any_eq_true.1 h1;simp only[Bool.and_eq_true]at h3;have h4:=Wu j (Tb j h3.2)
  simp[bH,h3.1]at h4
 obtain⟨pdi,sub,Ut,SL⟩:=nw hW2 hk.w2 VT;have hsim2:u7 G (fun b=>b<σ.nx∨∃j,j<ops.size∧listed.getD j false=true∧b=σ.nx+j) (aK σ σ.nx ops es (fun j=>bH t2 j&&listed.getD j false) ops.size) a w:=by
  rw[cO (L:=fun j=>bH t2 j&&listed.getD j false) (L':=fun j=>bH t1 j&&listed.getD j false) ops.size fun j hj=>?_]
  ·exact RC
  cases hl:listed.getD j false with
  |false=>simp
  |true=>rw[Wu j hl,Vs j hl]
 obtain⟨a',Ul,SD⟩:=ghost (P:=P) hk.g2 S7 hstep2 Wu (fun j hj Sw R4=>by
  rcases SL.all j hj Sw with kd|ke|⟨k0,VQ,kc⟩
  ·obtain⟨o,_,_,_,Ut⟩:=SL.op;obtain⟨oj,d',_,k1,k2,_⟩:=Ut j kd;exact⟨oj,k1,k2⟩
  ·cases ke
  have VQ:k0=i:=by simpa using VQ
  rw[VQ]at kc;rw[Tb j kc]at R4;cases R4) hsim2 h.down ops.size (Nat.le_refl _)
 obtain⟨ρ',k1⟩:=Ul;rw[lT (ws:=t2) (fun j hj _=>by simp[hj])]at k1
 have k2:=k1.cR (dom':=fun b=>b<σ.nx+ops.size) (fun b hb=>by rcases hb with hb|⟨j,hj,_,rfl⟩<;>omega)
 have hnone:lo (aK σ σ.nx ops es (bH t2) ops.size).own (σ.nx+q)=none:=by
  cases hB:lo (aK σ σ.nx ops es (bH t2) ops.size).own (σ.nx+q)with
  |none=>rfl
  |some B=>
   exfalso
   rcases(k1.own _ _ hB).1 with hd|⟨j,_,R4,hd⟩
   ·omega
   have:j=q:=by omega
   subst this;rw[Um]at R4;cases R4
 -- the state without the new variable
 have halk:=(Ub ops.size (Nat.le_refl _)).2 hk.qs;have k3:aR G (fun b=>b<σ.nx+ops.size) ρ' (sW (aK σ σ.nx ops es (bH t2) ops.size) (fun t=>t=d)) a' w:=k2.sW (RU.refl _ _);have k4:oL G (OS d (σ.nx+q) (sK σ ops es t1)) a' w:=by
  refine⟨ρ',k3.FY ⟨fun t=>?_,fun b=>?_,?_⟩⟩
  ·show _=lk (I0 (sK σ ops es t1).env d) t;rw[Hs]
   by_cases ht:t=d
   ·rw[if_pos ht,zH _ (fun t=>t=d) _ ht]
   rw[if_neg ht,rX _ (fun t=>t=d) _ ht];exact(hlk ops.size (Nat.le_refl _) t ht).symm
  ·show _=lo (del (sK σ ops es t1).own (σ.nx+q)) b;rw[kj];have h5:=halk.own b;have h6:lo (sK σ ops es t1).own b=lo (aK σ σ.nx ops es (bH t1) ops.size).own b:=rfl;rw[h6,h5,pD,hqfz]
   by_cases hb:b=σ.nx+q
   ·rw[if_pos hb,hb];exact hnone
   rw[if_neg hb];show lo (aK σ σ.nx ops es (bH t2) ops.size).own b=_;have Vm:gi [] b=id:=by funext v;simp[gi]
   cases(es q).vJ with
   |none=>simp only[Vm,Option.map_id,id]
   |some B=>simp only[Vm,Option.map_id,id,if_neg hb]
  show(aK σ σ.nx ops es (bH t2) ops.size).n=(aK σ σ.nx ops es (bH t1) ops.size).n
  rw[fN,fN]
 refine MA (ws:=t2) (σ:=σ) (es:=es) (F:=False) (ex:=none) hP h.size h.down Sk hp (by simp[bH,YQ]) (pre:=[]) (fun j hj Sw=>?_) (fun k hk=>by cases hk) SL Ut k4 SD (fun q hq=>by cases hq) fun a w RM=>?_
 ·constructor
  ·intro k;rw[Wu j k]at Sw;cases Sw
  intro k;cases k
 refine lf (ex:=none) (F:=False) hk.g2 (fun h=>h.elim) (fun h=>h.elim) S7 (fun h=>h.elim) (fun h=>h.elim) (fun h=>h.elim) hQ hP fuel _ a w RM ?_
 have:=oH h.size Sk hu
 omega
end
end Go.Eng
