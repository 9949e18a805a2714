/-
  MatrixInvalid: for every input the law returns true, and each argument reads afterwards as it read before. No condition beyond the cells of the given rows.
  (Text 2 of 9; made by a program out of smaller texts.)
-/
import Derived.Test.YtgcmkdgpaibpeaaGreatP1
set_option linter.unusedSimpArgs false
set_option linter.unusedVariables false
set_option maxHeartbeats 16000000
set_option maxRecDepth 10000
open Nat renaming reduceAdd→J1,reduceMul→J2,reduceSub→J3,reduceEqDiff→J4,reduceLT→J5,reduceLeDiff→J6,reduceBEq→J7,reduceDiv→J8,reduceMod→J9,reducePow→J0
open Int renaming reduceToNat→K1,reduceLE→K2,reduceLT→K3,reduceEq→K4,reducePow→K5,reduceSub→K6,reduceNeg→K7,natCast_add→X2,natCast_one→X3,natCast_zero→X4
open List renaming getD_cons_zero→X0,getD_cons_succ→X1,length_take→X5,length_append→X6,getD_eq_getElem?_getD→X7,getElem?_eq_getElem→X8
/-
  THE ENGINE, PART M: operations that write: a store, an append.
-/
namespace Go.Eng
open Go
def mv (P:Program)(o:Oper)(s:St)(K:St→Prop):Prop:=
 ∀G a w,oI G s a w→∀Q next,(∀s' a' w',K s'→oI G s' a' w'→next a' w')→o.wp P a w next Q
theorem F7 (l:List (Nat×ft)):dB l []=l:=by
 induction l with
 |nil=>rfl
 |cons x l ih=>obtain⟨b,B⟩:=x;simp[dB,ih]
theorem xU (l:List (Nat×ft))(ids:List Nat):uN l ids=dB l ids:=by
 cases ids with
 |nil=>rw[F7];rfl
 |cons x r=>rfl
theorem dH {w:World}{g:Nat}{cur:Array Value}{e:TypeId}{f:Nat×Nat}(h:w.heap[g]? =some (.cells cur e f)):bU w g=cur.size:=by simp[bU,h]
theorem aR.rewrite {G:Ctx}{dom:Nat→Prop}{ρ:Nat→Loc}{s:St}{a:Act}{w:World}(h:aR G dom ρ s a w){b g o:Nat}{B:Bk}(hl:lo s.own b=some ⟨B,true⟩)(haddr:(ρ b).addr=some (g,o))
  {cur cur':Array Value} {e:TypeId} (hg:w.heap[g]? =some (.cells cur e (0,0))) (hsz:cur'.size=cur.size) {id:Nat} (hid:¬dom id) (B':Bk) (o1:Nat)
  (hrep:∀j c,B'.cell j=some c→∃u,cur'[o1+j]? =some u∧(match B' with|.var _=>aB ρ dom (aF G s.own ρ w) w c u|.wins .. =>aB ρ dom (aF G s.own ρ w) w c u|_=>aP (aF G s.own ρ w) w c u)):
  aR G (fun b=>dom b∨b=id) (aY ρ id ⟨some (g,o1),B'.len⟩) {s with own:=dY (del s.own b) id ⟨B',true⟩} a (w.setRow g cur'):=by
 have hs:=ik.aY ρ ⟨some (g,o1),B'.len⟩ hid;have hne:∀b B',lo s.own b=some B'→b≠id:=fun b B' hl e=>hid (e▸(h.own b B' hl).1);obtain⟨_,_,_,hloc⟩:=h.own b _ hl;obtain⟨hgl,hgf,hgm⟩:=hloc g o haddr;have hheap:∀g',g'≠g→(w.setRow g cur').heap[g']? =w.heap[g']? :=fun g' hn=>setRow_other w g g' cur' hn;have hext:Ext (aF G s.own ρ w) (aF G (dY (del s.own b) id ⟨B',true⟩) (aY ρ id ⟨some (g,o1),B'.len⟩) (w.setRow g cur')) w (w.setRow g cur'):=by
  refine⟨fun g' hg'=>?_,fun g'=>?_⟩
  ·have hng:g'≠g:=fun e=>by subst e;exact hg'.2.2 b _ hl rfl o haddr
   refine⟨⟨by simpa using hg'.1,hg'.2.1,fun b2 B2 hl2 hrw o2=>?_⟩,hheap g' hng⟩;rw[b5]at hl2
   by_cases hbi:b2=id
   ·subst hbi;rw[lU];intro he
    have:g=g':=by simpa using congrArg (Option.map Prod.fst) he
    exact hng this.symm
   rw[if_neg hbi,j8]at hl2;rw[aT _ _ hbi]
   split at hl2
   ·cases hl2
   exact hg'.2.2 b2 B2 hl2 hrw o2
  by_cases hng:g'=g
  ·subst hng;rw[dH hg,dH (setRow_heap w g' cur cur' e (0,0) hg),hsz];exact Nat.le_refl _
  rw[cL (hheap g' hng)];exact Nat.le_refl _
 refine h.rZ hext hs ?_ ?_ rfl rfl rfl (by simp) (fun k hk hm=>hheap k (fun e=>?_))
 ·intro b2 B2 hl2;rw[b5]at hl2
  by_cases hbi:b2=id
  ·subst hbi;rw[if_pos rfl]at hl2;obtain rfl:=Option.some.inj hl2;rw[lU];refine⟨.inr rfl,rfl,?_,fun g' o' ha=>?_⟩
   ·unfold aL;refine⟨cur',e,setRow_heap w g cur cur' e (0,0) hg,fun j c hj=>?_⟩;obtain⟨u,hu,hr⟩:=hrep j c hj;refine⟨u,hu,?_⟩
    cases B' with
    |var cs=>exact aB.ext hext hs _ _ hr
    |ints e k xs=>exact aP.ext hext _ _ hr
    |rows e wd n f=>exact aP.ext hext _ _ hr
    |wins e b2 n g=>exact aB.ext hext hs _ _ hr
   have:g=g':=by simpa using congrArg (Option.map Prod.fst) ha
   subst this;exact⟨by simpa using hgl,hgf,hgm⟩
  rw[if_neg hbi,j8]at hl2;rw[aT _ _ hbi]
  split at hl2
  ·cases hl2
  rename_i hbb
  obtain⟨h1,h2,h3,h4⟩:=h.own b2 B2 hl2;refine⟨.inl h1,h2,aL.ext hext hs _ _ (fun g' o' ha=>hheap g' (fun e=>?_)) h3,fun g' o' ha=>by simpa using h4 g' o' ha⟩;subst e;exact h.inj b _ b2 B2 hl hl2 (fun e=>hbb e.symm) rfl g' o o' haddr ha
 ·intro b2 B2 b3 B3 hl2 hl3 hne' hrw g' o2 o3 ha;rw[b5]at hl2 hl3
  by_cases hbi:b2=id
  ·subst hbi;rw[if_neg (fun e=>hne' e.symm),j8]at hl3;rw[lU]at ha;rw[aT _ _ (fun e=>hne' e.symm)];have hgg:g=g':=by simpa using congrArg (Option.map Prod.fst) ha
   subst hgg
   split at hl3
   ·cases hl3
   rename_i hbb
   exact h.inj b _ b3 B3 hl hl3 (fun e=>hbb e.symm) rfl g o o3 haddr
  rw[if_neg hbi,j8]at hl2;rw[aT _ _ hbi]at ha
  split at hl2
  ·cases hl2
  rename_i hbb
  by_cases hbi':b3=id
  ·subst hbi';rw[lU];intro ha';have hgg:g=g':=by simpa using congrArg (Option.map Prod.fst) ha'
   subst hgg;exact h.inj b2 B2 b _ hl2 hl hbb hrw g o2 o ha haddr
  rw[if_neg hbi',j8]at hl3;rw[aT _ _ hbi']
  split at hl3
  ·cases hl3
  exact h.inj b2 B2 b3 B3 hl2 hl3 hne' hrw g' o2 o3 ha
 subst e
 rcases hgm with hgm|hgm
 ·omega
 exact hm hgm
theorem aR.write {G:Ctx}{dom:Nat→Prop}{ρ:Nat→Loc}{s:St}{a:Act}{w:World}(h:aR G dom ρ s a w){b g o:Nat}{B:Bk}(hl:lo s.own b=some ⟨B,true⟩)(haddr:(ρ b).addr=some (g,o))
  {cur cur':Array Value} {e:TypeId} (hg:w.heap[g]? =some (.cells cur e (0,0))) (hsz:cur'.size=cur.size) (B':Bk) (hlen:B'.len=B.len)
  (hrep:∀j c,B'.cell j=some c→∃u,cur'[o+j]? =some u∧(match B' with|.var _=>aB ρ dom (aF G s.own ρ w) w c u|.wins .. =>aB ρ dom (aF G s.own ρ w) w c u|_=>aP (aF G s.own ρ w) w c u)):
  aR G dom ρ {s with own:=dY s.own b ⟨B',true⟩} a (w.setRow g cur'):=by
 have hs:ik dom dom ρ ρ:=⟨fun _ h=>h,fun _ _=>rfl⟩;obtain⟨hdomb,hlenb,_,hloc⟩:=h.own b _ hl;obtain⟨hgl,hgf,hgm⟩:=hloc g o haddr;have hheap:∀g',g'≠g→(w.setRow g cur').heap[g']? =w.heap[g']? :=fun g' hn=>setRow_other w g g' cur' hn;have hext:Ext (aF G s.own ρ w) (aF G (dY s.own b ⟨B',true⟩) ρ (w.setRow g cur')) w (w.setRow g cur'):=by
  refine⟨fun g' hg'=>?_,fun g'=>?_⟩
  ·have hng:g'≠g:=fun e=>by subst e;exact hg'.2.2 b _ hl rfl o haddr
   refine⟨⟨by simpa using hg'.1,hg'.2.1,fun b2 B2 hl2 hrw o2=>?_⟩,hheap g' hng⟩;rw[b5]at hl2
   by_cases hbi:b2=b
   ·subst hbi;intro he;rw[haddr]at he
    have:g=g':=by simpa using congrArg (Option.map Prod.fst) he
    exact hng this.symm
   rw[if_neg hbi]at hl2;exact hg'.2.2 b2 B2 hl2 hrw o2
  by_cases hng:g'=g
  ·subst hng;rw[dH hg,dH (setRow_heap w g' cur cur' e (0,0) hg),hsz];exact Nat.le_refl _
  rw[cL (hheap g' hng)];exact Nat.le_refl _
 refine h.rZ hext hs ?_ ?_ rfl rfl rfl (by simp) (fun k hk hm=>hheap k (fun e=>?_))
 ·intro b2 B2 hl2;rw[b5]at hl2
  by_cases hbi:b2=b
  ·subst hbi;rw[if_pos rfl]at hl2;obtain rfl:=Option.some.inj hl2;refine⟨hdomb,by rw[hlenb];exact hlen.symm,?_,fun g' o' ha=>by simpa using hloc g' o' ha⟩;unfold aL;rw[haddr];refine⟨cur',e,setRow_heap w g cur cur' e (0,0) hg,fun j c hj=>?_⟩;obtain⟨u,hu,hr⟩:=hrep j c hj;refine⟨u,hu,?_⟩
   cases B' with
   |var cs=>exact aB.ext hext hs _ _ hr
   |ints e k xs=>exact aP.ext hext _ _ hr
   |rows e wd n f=>exact aP.ext hext _ _ hr
   |wins e b2 n g=>exact aB.ext hext hs _ _ hr
  rw[if_neg hbi]at hl2;obtain⟨h1,h2,h3,h4⟩:=h.own b2 B2 hl2;refine⟨h1,h2,aL.ext hext hs _ _ (fun g' o' ha=>hheap g' (fun e=>?_)) h3,fun g' o' ha=>by simpa using h4 g' o' ha⟩;subst e;exact h.inj b _ b2 B2 hl hl2 (fun e=>hbi e.symm) rfl g' o o' haddr ha
 ·intro b2 B2 b3 B3 hl2 hl3 hne' hrw g' o2 o3 ha;rw[b5]at hl2 hl3
  by_cases hbi:b2=b
  ·subst hbi;rw[if_neg (fun e=>hne' e.symm)]at hl3;exact h.inj b2 _ b3 B3 hl hl3 hne' rfl g' o2 o3 ha
  rw[if_neg hbi]at hl2
  by_cases hbi':b3=b
  ·subst hbi';exact h.inj b2 B2 b3 _ hl2 hl hne' hrw g' o2 o3 ha
  rw[if_neg hbi']at hl3;exact h.inj b2 B2 b3 B3 hl2 hl3 hne' hrw g' o2 o3 ha
 subst e
 rcases hgm with hgm|hgm
 ·omega
 exact hm hgm
def bt (f:Nat→Nat→C)(i off:Nat)(l:List C):Nat→Nat→C:=
 fun i' j'=>if i'=i then(if off≤j' then(if j'<off+l.length then l.getD (j'-off) .any else f i' j')else f i' j')else f i' j'
def OM:C→Bool
 |.own _ _ _ _=>true
 |.nil=>true
 |.ints _ _=>true
 |.rows _ _ _=>true
 |_=>false
def rH (b2:Nat):C→Nat
 |.own b _ _ _=>b
 |_=>b2
def oQ (b b3:Nat):V→V
 |.one (.win b' x o l)=>if b'=b then .one (.win b' b3 o l)else .one (.win b' x o l)
 |v=>v
def mT (b b3:Nat):List (Nat×V)→List (Nat×V)
 |[]=>[]
 |p::r=>(p.1,oQ b b3 p.2)::mT b b3 r
theorem ym (b b3:Nat):∀(l:List (Nat×V)) (t:Nat),lk (mT b b3 l) t=oQ b b3 (lk l t)
 |[],_=>rfl
 |(t',v)::r,t=>by
  show(if t=t' then oQ b b3 v else lk (mT b b3 r) t)=oQ b b3 (if t=t' then v else lk r t)
  split
  ·rfl
  exact ym b b3 r t
theorem AO {ρ:Nat→Loc}{dom ok:Nat→Prop}{w:World}{b b3:Nat}(hd:dom b3){x:V}{v:Value}(h:bZ ρ dom ok w x v):bZ ρ dom ok w (oQ b b3 x) v:=by
 unfold oQ
 split
 ·split
  ·exact⟨hd,h.2⟩
  exact h
 exact h
theorem aR.OY {G:Ctx}{dom:Nat→Prop}{ρ:Nat→Loc}{s:St}{a:Act}{w:World}(h:aR G dom ρ s a w)(b b3:Nat)(hd:dom b3):aR G dom ρ {s with env:=mT b b3 s.env} a w:=
 {h with env:=fun t=>by rw[ym];exact AO hd (h.env t)}
def tf (T:fD)(s:St)(t:TypeId)(x y:Operand)(K:St→Prop):Prop:=
 match T t with
 |some E=>match s.ev x with
  |.one (.ptr b off)=>match lo s.own b with
   |some ⟨.var cs,rw⟩=>rw=true∧0<E.size∧(s.ev y).nZ=true∧(cellsOf (s.ev y)).length=E.size∧off+E.size≤cs.length∧
     K {s with own:=dY s.own b ⟨.var (lB cs off (cellsOf (s.ev y))),true⟩}
   |_=>False
  |.one (.eptr b wd i off)=>match lo s.own b with
   |some ⟨.ints e k xs,rw⟩=>match s.ev y with
    |.one (.int k' n)=>rw=true∧k'=k∧wd=1∧E.size=1∧off=0∧K {s with own:=dY s.own b ⟨.ints e k (xs.set i n),true⟩}
    |_=>False
   |some ⟨.rows e w n f,rw⟩=>rw=true∧wd=w∧0<E.size∧(s.ev y).nZ=true∧(cellsOf (s.ev y)).length=E.size∧off+E.size≤wd∧(ky (s.ev y)).contains b=false∧
     K {s with own:=dY (uN s.own (ky (s.ev y))) b ⟨.rows e w n (bt f i off ((cellsOf (s.ev y)).map (jL s.own s.nx))),true⟩}
   |some ⟨.wins e b2 n g,rw⟩=>match s.ev y with
    |.one c=>rw=true∧wd=1∧E.size=1∧off=0∧OM c=true∧K {s with env:=if rH b2 c=b2 then s.env else mT b (rH b2 c) s.env,own:=dY s.own b ⟨.wins e (rH b2 c) n (fun j=>if j=i then c else g j),true⟩}
    |_=>False
   |_=>False
  |_=>False
 |none=>False
theorem iV {P:Program}{w:World}{t:TypeId}{i:TypeInfo}(hi:P.info? t=some i){g o:Nat}{cur:Array Value}{e:TypeId}(hg:w.heap[g]? =some (.cells cur e (0,0)))(v:Value)(hv:v.cells.size=i.size)
  (hfit:o+i.size≤cur.size) (h1:∀u∈v.cells.toList,u.oneCell'=true):
  (storeVar t ⟨g,o,none⟩ v).run P w= .ok () (w.setRow g (cur.toList.take o++v.cells.toList++cur.toList.drop (o+i.size)).toArray):=by
 have hst:=run_storeCells_at P g o e v.cells.toList 0 cur w hg (by simp;omega) h1;simp only[Nat.add_zero,Array.length_toList,hv]at hst;simp only[storeVar,Sem.run_bind,run_sizeOf hi,Result.andThen_ok,hv,ne_eq,not_true_eq_false,↓reduceIte,Sem.run_ite,Sem.run_pure,hst]
theorem g8 (cur:List Value)(o:Nat)(us:List Value)(h:o+us.length≤cur.length)(j:Nat):
  (cur.take o++us++cur.drop (o+us.length))[j]? =if o≤j∧j<o+us.length then us[j-o]? else cur[j]? :=by
 rw[List.append_assoc,List.getElem?_append,List.getElem?_append,X5]
 by_cases h1:j<o
 ·rw[if_pos (by omega),if_neg (by omega),List.getElem?_take,if_pos h1]
 rw[if_neg (by omega)]
 by_cases h2:j<o+us.length
 ·rw[if_pos (by omega),if_pos (by omega)];congr 1;omega
 rw[if_neg (by omega),if_neg (by omega),List.getElem?_drop];congr 1;omega
theorem bH.sV {ρ:Nat→Loc}{dom ok:Nat→Prop}{w:World}:∀{cs:List C} {vs:List Value},bH ρ dom ok w cs vs→∀u∈vs,u.oneCell'=true
 |[],[],_,u,hu=>by simp at hu
 |_::cs,_::vs,h,u,hu=>by
  rcases List.mem_cons.1 hu with rfl|hu
  ·exact(aB.plain h.1).1
  exact bH.sV h.2 u hu
 |[],_::_,h,_,_=>h.elim
 |_::_,[],h,_,_=>h.elim
section
variable {P:Program}{T:fD}(hT:eD P T){o:Oper}{s:St}{K:St→Prop}
include hT in
theorem Nm {t:TypeId}{x y:Operand}(ho:o.op= .store t x y)(hd:o.dst=none)(h:tf T s t x y K):mv P o s K:=by
 intro G a w hsim Q next hk;obtain⟨ρ,hs⟩:=hsim;have hevx:=hs.ev x;have hevy:=hs.ev y;have hrun:∀(g off:Nat) (w':World),a.eval x= .pointer (some ⟨g,off,none⟩)→(storeVar t ⟨g,off,none⟩ (a.eval y)).run P w= .ok () w'→next a w'→o.wp P a w next Q:=by
  intro g off w' he hr hn;unfold Oper.wp execOp;rw[ho];simp only[Instr.storeAt,he,Instr.sureAddr,Sem.run_bind,Sem.run_pure,Result.andThen_ok,hr,Oper.upon_skip,hd];exact hn
 unfold tf at h
 cases hTt:T t with
 |none=>rw[hTt]at h;exact h.elim
 |some E=>
  rw[hTt]at h;simp only at h;obtain⟨i,d,z,hi,hu,_,hkk,hsz,_⟩:=bD hT hTt
  split at h
  ·rename_i b off hx
   rw[hx]at hevx;obtain⟨_,g,o',haddr,hval⟩:=hevx
   split at h
   ·rename_i cs rw_ hl
    obtain⟨rfl,hpos,hsol,hlen,hle,hK⟩:=h;obtain⟨_,_,hrep,_⟩:=hs.own b _ hl;unfold aL at hrep;rw[haddr]at hrep;obtain⟨cur,e,hg,hc⟩:=hrep;simp only at hc;have hcells:=bZ.cells hevy hsol;have hvs:(a.eval y).cells.size=i.size:=by have:=bH.length hcells;simp only[Array.length_toList]at this;omega
    have hfit:o'+off+i.size≤cur.size:=by
     obtain⟨u,hu',_⟩:=hc (off+i.size-1) cs[off+i.size-1] (by simp only[Bk.cell];exact X8 (by omega))
     have:=(Array.getElem?_eq_some_iff.1 hu').1
     omega
    refine hrun g _ _ hval (iV hi hg _ hvs hfit (bH.sV hcells)) (hk _ _ _ hK ⟨ρ,?_⟩);have hvl:(a.eval y).cells.toList.length=i.size:=by simpa using hvs
    refine hs.write hl haddr hg (by simp[hvs];omega) (.var (lB cs off (cellsOf (s.ev y)))) rfl fun j c hj=>?_;simp only[Bk.cell]at hj;rw[tu _ _ _ (by omega)]at hj;have hlg:=g8 cur.toList (o'+off) (a.eval y).cells.toList (by simp only[Array.length_toList]at hvl⊢;omega) (o'+j);rw[hvl]at hlg;simp only[List.getElem?_toArray,hlg]
    by_cases hm:off≤j∧j<off+(cellsOf (s.ev y)).length
    ·rw[if_pos hm]at hj;rw[if_pos (by omega),show o'+j-(o'+off)=j-off by omega];exact bH.get hcells _ _ hj
    rw[if_neg hm]at hj;rw[if_neg (by omega),Array.getElem?_toList];exact hc j c hj
   exact h.elim
  ·rename_i b wd ix off hx
   rw[hx]at hevx;obtain⟨_,hix,g,o',haddr,hval⟩:=hevx
   split at h
   ·rename_i e k xs rw_ hl
    split at h
    ·rename_i k' n hy
     obtain⟨rfl,rfl,rfl,hE1,rfl,hK⟩:=h;obtain⟨_,hlenρ,hrep,_⟩:=hs.own b _ hl;unfold aL at hrep;rw[haddr]at hrep;obtain⟨cur,e',hg,hc⟩:=hrep;simp only at hc;rw[hlenρ]at hix;simp only[Bk.len]at hix;rw[hy]at hevy;have hyv:a.eval y= .int k' n:=hevy;have hfit:o'+(ix*1+0)+i.size≤cur.size:=by
      obtain⟨u,hu',_⟩:=hc ix (.int k' (xs.getD ix 0)) (by simp[Bk.cell,X8 hix])
      have:=(Array.getElem?_eq_some_iff.1 hu').1
      omega
     have hvs:(a.eval y).cells.size=i.size:=by rw[hyv,←hsz,hE1];rfl
     have hvl:(a.eval y).cells.toList.length=i.size:=by simpa using hvs
     refine hrun g _ _ hval (iV hi hg _ hvs hfit (by rw[hyv];simp[Value.cells,Value.oneCell'])) (hk _ _ _ hK ⟨ρ,?_⟩);refine hs.write hl haddr hg (by simp[hvs];omega) (.ints e k' (xs.set ix n)) (by simp[Bk.len]) fun j c hj=>?_;have hlg:=g8 cur.toList (o'+(ix*1+0)) (a.eval y).cells.toList (by simp only[Array.length_toList]at hvl⊢;omega) (o'+j);rw[hvl]at hlg;simp only[List.getElem?_toArray,hlg];simp only[Bk.cell,List.getElem?_set]at hj
     by_cases hm:j=ix
     ·subst hm;rw[if_pos (by omega),hyv];rw[if_pos rfl,if_pos hix]at hj;simp only[Option.map_some,Option.some.injEq]at hj;subst hj;exact⟨.int k' n,by simp[Value.cells],rfl⟩
     rw[if_neg (by omega),Array.getElem?_toList];rw[if_neg (fun e=>hm e.symm)]at hj;exact hc j c hj
    exact h.elim
   ·rename_i e wd' n f rw_ hl
    obtain⟨rfl,rfl,hpos,hsol,hlen,hle,hnid,hK⟩:=h;obtain⟨_,hlenρ,hrep,_⟩:=hs.own b _ hl;unfold aL at hrep;rw[haddr]at hrep;obtain⟨cur,e',hg,hc⟩:=hrep;simp only at hc;rw[hlenρ]at hix;simp only[Bk.len]at hix;have hcells:=bZ.cells hevy hsol;have hvs:(a.eval y).cells.size=i.size:=by have:=bH.length hcells;simp only[Array.length_toList]at this;omega
    have hvl:(a.eval y).cells.toList.length=i.size:=by simpa using hvs
    have hrow:∀j,j<wd→ix*wd+j<n*wd:=fun j hj=>by
     have:(ix+1)*wd≤n*wd:=Nat.mul_le_mul_right _ hix
     rw[Nat.add_mul]at this;omega
    have hfit:o'+(ix*wd+off)+i.size≤cur.size:=by
     have hlt:=hrow (off+i.size-1) (by omega);obtain⟨u,hu',_⟩:=hc (ix*wd+(off+i.size-1)) (f ((ix*wd+(off+i.size-1))/wd) ((ix*wd+(off+i.size-1))%wd)) (by simp only[Bk.cell,if_pos hlt])
     have:=(Array.getElem?_eq_some_iff.1 hu').1
     omega
    have hids:∀x:V,(cellsOf x).flatMap gp=ky x:=fun x=>by cases x<;>simp [cellsOf,ky]
    have hview:=qq hs (iX.refl s s.nx o) (ky (s.ev y)) (cellsOf (s.ev y)) _ (fun b hb _=>by rw[hids]at hb;exact hb) hcells;have h1:=hs.dB (ky (s.ev y));have hl1:lo (dB s.own (ky (s.ev y))) b=some ⟨.rows e wd n f,true⟩:=by
     rw[fp,hl];simp only[Option.map_some,hnid,Bool.false_eq_true,↓reduceIte]
    rw[xU]at hK;refine hrun g _ _ hval (iV hi hg _ hvs hfit (bH.sV hcells)) (hk _ _ _ hK ⟨ρ,?_⟩);refine h1.write hl1 haddr hg (by simp[hvs];omega) (.rows e wd n (bt f ix off ((cellsOf (s.ev y)).map (jL s.own s.nx)))) rfl fun j c hj=>?_;have hlg:=g8 cur.toList (o'+(ix*wd+off)) (a.eval y).cells.toList (by simp only[Array.length_toList]at hvl⊢;omega) (o'+j);rw[hvl]at hlg;simp only[List.getElem?_toArray,hlg];simp only[Bk.cell]at hj
    split at hj
    ·rename_i hjn
     simp only[Option.some.injEq,bt,List.length_map]at hj;have hwd:0<wd:=by omega
     have hdm:j/wd*wd+j%wd=j:=by rw[Nat.mul_comm];exact Nat.div_add_mod j wd
     have hml:j%wd<wd:=Nat.mod_lt _ hwd
     by_cases hm:ix*wd+off≤j∧j<ix*wd+off+i.size
     ·have hjd:j/wd=ix:=by
       rw[Nat.div_eq_iff hwd]
       constructor
       ·omega
       omega
      have hjm:j%wd=j-ix*wd:=by rw[hjd]at hdm;omega
      rw[if_pos hjd,hjm,if_pos (by omega),if_pos (by omega)]at hj;rw[if_pos (by omega),show o'+j-(o'+(ix*wd+off))=j-ix*wd-off by omega];have hq:j-ix*wd-off<(cellsOf (s.ev y)).length:=by omega
      have hgl:((cellsOf (s.ev y)).map (jL s.own s.nx))[j-ix*wd-off]? =some c:=by
       rw[←hj,X7];rw[X8 (by simpa using hq)];rfl
      obtain⟨u,hu',hr⟩:=bH.get hview _ _ hgl;exact⟨u,hu',aP.ext (Ext.dx fun g' hg'=>u9 hs _ hg') _ _ (aP.dX hr)⟩
     rw[if_neg (by omega),Array.getElem?_toList];have hfc:f (j/wd) (j%wd)=c:=by
      by_cases hjd:j/wd=ix
      ·rw[if_pos hjd]at hj;have hjm:j%wd=j-ix*wd:=by rw[hjd]at hdm;omega
       have hge:ix*wd≤j:=by rw[hjd]at hdm;omega
       by_cases h2:off≤j%wd
       ·rw[if_pos h2,if_neg (by omega)]at hj;exact hj
       rw[if_neg h2]at hj;exact hj
      rw[if_neg hjd]at hj;exact hj
     obtain⟨u,hu',hr⟩:=hc j c (by simp only[Bk.cell,if_pos hjn,hfc]);exact⟨u,hu',aP.ext (Ext.dx fun g' hg'=>kn hg') _ _ hr⟩
    cases hj
   ·rename_i e b2 n f rw_ hl
    split at h
    ·rename_i c hy
     obtain⟨rfl,rfl,hE1,rfl,_,hK⟩:=h;obtain⟨_,hlenρ,hrep,_⟩:=hs.own b _ hl;unfold aL at hrep;rw[haddr]at hrep;obtain⟨cur,e',hg,hc⟩:=hrep;simp only at hc;rw[hlenρ]at hix;simp only[Bk.len]at hix;rw[hy]at hevy;have hyv:aB ρ (fun b=>b<s.nx) (aF G s.own ρ w) w c (a.eval y):=hevy;have hpl:=aB.plain hyv;have hfit:o'+(ix*1+0)+i.size≤cur.size:=by
      obtain⟨u,hu',_⟩:=hc ix (f ix) (by simp only[Bk.cell,if_pos hix])
      have:=(Array.getElem?_eq_some_iff.1 hu').1
      omega
     have hvs:(a.eval y).cells.size=i.size:=by rw[hpl.2,←hsz,hE1];rfl
     have hvl:(a.eval y).cells.toList.length=i.size:=by simpa using hvs
     refine hrun g _ _ hval (iV hi hg _ hvs hfit (by rw[hpl.2];simpa using hpl.1)) (hk _ _ _ hK ⟨ρ,?_⟩);have key:∀s',aR G (fun b=>b<s.nx) ρ s' a (w.setRow g (cur.toList.take (o'+(ix*1+0))++(a.eval y).cells.toList++cur.toList.drop (o'+(ix*1+0)+i.size)).toArray)→∀b3,(b3=rH b2 c)→aR G (fun b=>b<s.nx) ρ {s' with env:=if b3=b2 then s'.env else mT b b3 s'.env} a (w.setRow g (cur.toList.take (o'+(ix*1+0))++(a.eval y).cells.toList++cur.toList.drop (o'+(ix*1+0)+i.size)).toArray):=by
      intro s' h' b3 e3
      by_cases e4:b3=b2
      ·rw[if_pos e4];exact h'
      rw[if_neg e4];refine h'.OY b b3 ?_
      cases c with
      |own bb ww oo ll=>subst e3;exact hyv.1
      |_=>exact absurd e3 e4
     refine key {s with own:=dY s.own b ⟨.wins e (rH b2 c) n (fun j=>if j=ix then c else f j),true⟩} ?_ (rH b2 c) rfl;refine hs.write hl haddr hg (by simp[hvs];omega) (.wins e (rH b2 c) n (fun j=>if j=ix then c else f j)) rfl fun j c' hj=>?_;have hlg:=g8 cur.toList (o'+(ix*1+0)) (a.eval y).cells.toList (by simp only[Array.length_toList]at hvl⊢;omega) (o'+j);rw[hvl]at hlg;simp only[List.getElem?_toArray,hlg];simp only[Bk.cell]at hj
     split at hj
     ·rename_i hjn
      simp only[Option.some.injEq]at hj
      by_cases hm:j=ix
      ·subst hm;rw[if_pos rfl]at hj;rw[if_pos (by omega),hpl.2,←hj];exact⟨a.eval y,by simp,hyv⟩
      rw[if_neg hm]at hj;rw[if_neg (by omega),Array.getElem?_toList];exact hc j c' (by simp only[Bk.cell,if_pos hjn,hj])
     cases hj
    exact h.elim
   exact h.elim
  exact h.elim
end
end Go.Eng
/-
  THE ENGINE, PART N: append.
-/
namespace Go.Eng
open Go
def jO (w:World)(a:Option Addr)(us:List Value):Prop:=us=[]∨∃ad,a=some ad∧∀(j:Nat) u,us[j]? =some u→w.cell? (ad.add j)=some u
theorem dO {P:Program}{w:World}(size n:Nat)(a:Option Addr)(len cap:Nat)(us:List Value)(hl:us.length=n*size)(h:jO w a us):
  (Builtin.firstCells size n (.slice a len cap)).run P w= .ok us.toArray w:=by
 rcases h with rfl|⟨ad,rfl,h⟩
 ·cases a with
  |none=>simp[Builtin.firstCells]
  |some ad=>
   simp only[Builtin.firstCells];rw[←hl];exact j9 ad [] (fun j u hj=>by simp at hj)
 exact run_firstCells_some w size n ad len cap us hl h
structure Cells (ok:Nat→Prop) (w:World) (wd n:Nat) (f:Nat→Nat→C) (a:Option Addr) (us:List Value):Prop where
 len:us.length=n*wd
 at_:jO w a us
 one:∀u∈us,u.oneCell'=true
 rep:∀i j,i<n→j<wd→∃u,us[i*wd+j]? =some u∧aP ok w (f i j) u
theorem pN {ok:Nat→Prop}{w:World}{wd n g o:Nat}{f:Nat→Nat→C}(h:∀i j,i<n→j<wd→∃u,w.cell? ⟨g,o+(i*wd+j),none⟩=some u∧aP ok w (f i j) u):
  ∃us,Cells ok w wd n f (some ⟨g,o,none⟩) us:=by
 refine⟨(List.range (n*wd)).map (fun t=>(w.cell? ⟨g,o+t,none⟩).getD undef),?_⟩;have key:∀t,t<n*wd→∃u,w.cell? ⟨g,o+t,none⟩=some u∧aP ok w (f (t/wd) (t%wd)) u:=by
  intro t ht
  have hwd:0<wd:=by rcases Nat.eq_zero_or_pos wd with h0|h0;(subst h0;simp at ht);exact h0
  have h1:t/wd<n:=by rw[Nat.div_lt_iff_lt_mul hwd];exact ht
  obtain⟨u,hu,hr⟩:=h (t/wd) (t%wd) h1 (Nat.mod_lt _ hwd)
  have:t/wd*wd+t%wd=t:=by rw[Nat.mul_comm];exact Nat.div_add_mod t wd
  rw[this]at hu;exact⟨u,hu,hr⟩
 refine⟨by simp,.inr ⟨_,rfl,fun j u hj=>?_⟩,fun u hu=>?_,fun i j hi hj=>?_⟩
 ·simp only[List.getElem?_map]at hj;obtain⟨t,ht,he⟩:=Option.map_eq_some_iff.1 hj;obtain⟨hlt,rfl⟩:j<n*wd∧j=t:=by
   have:=List.getElem?_eq_some_iff.1 ht
   obtain⟨h1,h2⟩:=this;simp at h1 h2;exact⟨h1,h2⟩
  obtain⟨u',hu',_⟩:=key j hlt;rw[e9,hu'];rw[hu']at he
  simpa using he
 ·obtain⟨t,ht,he⟩:=List.mem_map.1 hu;obtain⟨u',hu',hr⟩:=key t (by simpa using ht);rw[hu']at he;simp only[Option.getD_some]at he;subst he;exact(aP.plain hr).1
 obtain⟨u,hu,hr⟩:=h i j hi hj;have hlt:i*wd+j<n*wd:=by
  have:(i+1)*wd≤n*wd:=Nat.mul_le_mul_right _ hi
  rw[Nat.add_mul]at this;omega
 exact⟨u,by simp[hlt,hu],hr⟩
theorem jb {ok:Nat→Prop}{w:World}{wd:Nat}{f:Nat→Nat→C}{a:Option Addr}:Cells ok w wd 0 f a []:=
 ⟨by simp,.inl rfl,fun u hu=>by simp at hu,fun i j hi=>absurd hi (Nat.not_lt_zero _)⟩
def gU (k:IntKind):C→Option (List Int)
 |.nil=>some []
 |.ints k' xs=>if k'=k then some xs else none
 |_=>none
theorem pq {ok:Nat→Prop}{w:World}{c:C}{v:Value}(h:aP ok w c v):
  (∀k xs,gU k c=some xs→∃a cap us,v= .slice a xs.length cap∧Cells ok w 1 xs.length (fun i _=>.int k (xs.getD i 0)) a us)∧
  (∀wd n f,(match c with|.nil=>n=0|.rows w' n' f'=>w'=wd∧n'=n∧f'=f|_=>False)→∃a cap us,v= .slice a n cap∧Cells ok w wd n f a us):=by
 constructor
 ·intro k xs hx
  cases c with
  |nil=>
   simp only[gU,Option.some.injEq]at hx;subst hx;exact⟨none,0,[],h,jb⟩
  |ints k' ys=>
   simp only[gU]at hx
   split at hx
   ·rename_i hk
    simp only[Option.some.injEq]at hx;subst hx;subst hk;obtain⟨a,cap,rfl,_,hr⟩:=h
    rcases hr with hr|⟨g,o,rfl,_,hcs⟩
    ·refine⟨a,cap,[],rfl,?_⟩;rw[hr];exact jb
    obtain⟨us,hus⟩:=pN (ok:=ok) (wd:=1) (n:=ys.length) (f:=fun i _=>.int k' (ys.getD i 0)) (fun i j hi hj=>⟨_,by rw[show i*1+j=i by omega];exact hcs i hi,rfl⟩);exact⟨_,cap,us,rfl,hus⟩
   cases hx
  |_=>simp[gU]at hx
 intro wd n f hm
 cases c with
 |nil=>
  simp only at hm;subst hm;exact⟨none,0,[],h,jb⟩
 |rows w' n' f'=>
  simp only at hm;obtain⟨rfl,rfl,rfl⟩:=hm;obtain⟨a,cap,rfl,_,hr⟩:=h
  rcases hr with hr|⟨g,o,rfl,_,hcs⟩
  ·refine⟨a,cap,[],rfl,?_⟩;rw[hr];exact jb
  obtain⟨us,hus⟩:=pN hcs;exact⟨_,cap,us,rfl,hus⟩
 |_=>exact hm.elim
theorem uv {P:Program}{w:World}{t ty e:TypeId}{i:TypeInfo}{z:Value}(ht:P.underlying t=some (.slice e))(hi:P.info? e=some i)(hz:i.zero=some z)
  (b:Option Addr) (sLen qH:Nat) (olds:List Value) (hlo:olds.length=sLen*i.size) (holds:jO w b olds)
  (a:Option Addr) (n c:Nat) (news:List Value) (hl:news.length=n*i.size) (hnews:jO w a news)
  (hg:qH<sLen+n) (hb:(sLen+n)*i.bytes≤140737488355328) (h63:sLen+n≤9223372036854775807):
  (Builtin.append_ #[t,t] ty #[.slice b sLen qH,.slice a n c]).run P w=
   .ok (.slice (some ⟨w.heap.size,0,none⟩) (sLen+n) (grownCap w (sLen+n) qH e))
    (w.drew.alloc (.cells (olds.toArray++news.toArray++Builtin.zeroCells z.cells (grownCap w (sLen+n) qH e-(sLen+n))) e)):=by
 have hn:¬(sLen+n≤qH):=by omega
 have h63':¬(9223372036854775807<((sLen:Int)+(n:Int))):=by omega
 have hfit:=growslice_fits hg hb;have h48':¬(281474976710656<Builtin.nextslicecap (sLen+n) qH*i.bytes):=by omega
 have hf:=dO (P:=P) (w:=w.drew) i.size n a n c news hl hnews;have hfo:=dO (P:=P) (w:=w.drew) i.size sLen b sLen qH olds hlo holds
 simp[Builtin.append_,Go.run_underlying ht,sizeOf,typeInfo,zeroValue,hi,hz,Builtin.lenOf,hn,h63',h48',Question.forced,hf,hfo,newRow,grownCap]
 congr 2
 apply Array.ext'
 simp[List.append_assoc]
theorem rX {P:Program}{w:World}{t ty e:TypeId}{i:TypeInfo}(ht:P.underlying t=some (.slice e))(hi:P.info? e=some i)
  (g o sLen qH:Nat) {cur:Array Value} {e':TypeId} (hg:w.heap[g]? =some (.cells cur e' (0,0)))
  (a:Option Addr) (n c:Nat) (news:List Value) (hl:news.length=n*i.size) (hnews:jO w a news) (h1:∀u∈news,u.oneCell'=true)
  (hroom:sLen+n≤qH) (hfit:o+sLen*i.size+news.length≤cur.size):
  (Builtin.append_ #[t,t] ty #[.slice (some ⟨g,o,none⟩) sLen qH,.slice a n c]).run P w=
   .ok (.slice (some ⟨g,o,none⟩) (sLen+n) qH) (w.setRow g (cur.toList.take (o+sLen*i.size)++news++cur.toList.drop (o+sLen*i.size+news.length)).toArray):=by
 have hf:=dO (P:=P) (w:=w) i.size n a n c news hl hnews;have hst:=run_storeCells_at P g (o+sLen*i.size) e' news 0 cur w hg (by simpa using hfit) h1;simp only[Nat.add_zero]at hst
 simp[Builtin.append_,Go.run_underlying ht,sizeOf,typeInfo,hi,Builtin.lenOf,hroom,hf,e9,hst]
theorem lQ {P:Program}{w:World}{t ty e:TypeId}{i:TypeInfo}(ht:P.underlying t=some (.slice e))(hi:P.info? e=some i)(a:Option Addr)(c:Nat):
  (Builtin.append_ #[t,t] ty #[.slice none 0 0,.slice a 0 c]).run P w= .ok (.slice none 0 0) w:=by
 have hf:=dO (P:=P) (w:=w) i.size 0 a 0 c [] (by simp) (.inl rfl)
 simp[Builtin.append_,Go.run_underlying ht,sizeOf,typeInfo,hi,Builtin.lenOf,hf]
end Go.Eng
/-
  THE ENGINE, PART O: append, put together.
-/
namespace Go.Eng
open Go
def g9 (wd:Nat):C→Option (Nat×(Nat→Nat→C))
 |.nil=>some (0,fun _ _=>.any)
 |.rows w n f=>if w=wd then some (n,f)else none
 |_=>none
def yG (own:List (Nat×ft))(wd:Nat):C→Option (List (Nat×ft))
 |.nil=>some own
 |.own b w _ _=>if w=wd then(match lo own b with
  |some B=>if B.rw then some (del own b)else none
  |none=>none)else none
 |_=>none
def xh (own:List (Nat×ft))(nx0:Nat):C→C
 |.win _ _ _ _=>.any
 |.any=>jL own nx0 .any
 |.bool b=>jL own nx0 (.bool b)
 |.int k n=>jL own nx0 (.int k n)
 |.str s=>jL own nx0 (.str s)
 |.nil=>jL own nx0 .nil
 |.ints k xs=>jL own nx0 (.ints k xs)
 |.rows w n f=>jL own nx0 (.rows w n f)
 |.own b w o l=>jL own nx0 (.own b w o l)
 |.ptr b o=>jL own nx0 (.ptr b o)
 |.elt c w i o=>jL own nx0 (.elt c w i o)
 |.eptr b w i o=>jL own nx0 (.eptr b w i o)
 |.fn f n caps=>jL own nx0 (.fn f n caps)
def uc:C→Bool
 |.win _ _ _ _=>true
 |_=>false
def CE:C→C
 |.win b _ o l=>.own b 1 o l
 |c=>c
def Iq (own:List (Nat×ft))(nx0:Nat)(c:C):Option (Nat×Nat×(Nat→C)):=
 match c with
 |.win b _ off len=>match lo own b with
  |some ⟨.wins _ b3 n g,_⟩=>if off=0 then(if len=n then some (b3,n,g)else none)else none
  |_=>none
 |c=>match g9 1 (xh own nx0 c)with
  |some (n,f)=>some (0,n,fun i=>f i 0)
  |none=>none
def pK (T:fD)(s:St)(dst:Option Tmp)(t:TypeId)(x y:Operand)(K:St→Prop):Prop:=
 match dst with
 |none=>False
 |some d=>
       match T t with
  |some S=>
        match S.k with
   |.sl e=>match T e with
    |some E=>
          match s.ev x,s.ev y with
     |.one cx,.one cy=>match yG s.own E.size (CE cx)with
      |some own0=>match E.k with
       |.int k=>match gU k (xh s.own s.nx cx),gU k (xh s.own s.nx cy)with
        |some xs,some ys=>E.zero.length=E.size∧E.size=1∧((xs.length+ys.length)*E.bytes≤140737488355328∧xs.length+ys.length≤9223372036854775807)∧
          K {env:=(d,.one (.own s.nx 1 0 (xs++ys).length))::s.env,own:=dY own0 s.nx ⟨.ints e k (xs++ys),true⟩,nx:=s.nx+1,n:=s.n}
        |_,_=>False
       |_=>if(uc cx||uc cy)=true then(match Iq s.own s.nx cx,Iq s.own s.nx cy with
        |some (b3,n,f),some (b4,m,g)=>E.zero.length=E.size∧E.size=1∧((n+m)*E.bytes≤140737488355328∧n+m≤9223372036854775807)∧(if uc cy=true then b4 else b3)<s.nx∧
          K {env:=(d,.one (.win s.nx (if uc cy=true then b4 else b3) 0 (n+m)))::s.env,own:=dY own0 s.nx ⟨.wins e (if uc cy=true then b4 else b3) (n+m) (fun i=>if i<n then f i else g (i-n)),true⟩,nx:=s.nx+1,n:=s.n}
        |_,_=>False)else match g9 E.size (xh s.own s.nx cx),g9 E.size (xh s.own s.nx cy)with
        |some (n,f),some (m,g)=>E.zero.length=E.size∧0<E.size∧((n+m)*E.bytes≤140737488355328∧n+m≤9223372036854775807)∧
          K {env:=(d,.one (.own s.nx E.size 0 (n+m)))::s.env,own:=dY own0 s.nx ⟨.rows e E.size (n+m) (fun i j=>if i<n then f i j else g (i-n) j),true⟩,nx:=s.nx+1,n:=s.n}
        |_,_=>False
      |none=>False
     |_,_=>False
    |none=>False
   |_=>False
  |none=>False
section
variable {G:Ctx}{dom:Nat→Prop}{ρ:Nat→Loc}{s:St}{a:Act}{w:World}
theorem vp (hs:aR G dom ρ s a w){b wd off len:Nat}{B:ft}{v:Value}(hl:lo s.own b=some B)(hw:Jl B.bk=wd)(hfl:B.bk.flat)(hr:aB ρ dom (aF G s.own ρ w) w (.own b wd off len) v):
  ∃ad cap us,v= .slice ad len cap∧Cells (aF G s.own ρ w) w wd len (fun i j=>n9 B.bk (off+i) j) ad us:=by
 obtain⟨_,hlen,hrep,_⟩:=hs.own b B hl;obtain⟨_,hle,cap,hc,hr⟩:=hr
 rcases hr with⟨g,o,o',haddr,rfl,ho,_⟩|⟨_,rfl,rfl,_⟩
 ·by_cases h0:len=0
  ·subst h0;exact⟨_,cap,[],rfl,jb⟩
  unfold aL at hrep;rw[haddr]at hrep;obtain⟨cur,e,hg,hcell⟩:=hrep
  have ho':o'=o+off*wd:=by rcases ho with ho|ho<;>omega
  rw[hlen]at hle;obtain⟨us,hus⟩:=pN (ok:=aF G s.own ρ w) (w:=w) (wd:=wd) (n:=len) (g:=g) (o:=o') (f:=fun i j=>n9 B.bk (off+i) j) (fun i j hi hj=>by
   rw[cell_of_row w g _ cur e (0,0) hg,ho']
   cases hB:B.bk with
   |var cs=>rw[hB]at hfl;exact hfl.elim
   |wins e b2 n g=>rw[hB]at hfl;exact hfl.elim
   |ints e' k xs=>
    rw[hB]at hcell hw hle;simp only[Jl]at hw;subst hw;simp only[Bk.len]at hle;have hx:off+i<xs.length:=by omega
    obtain⟨u,hu',hr⟩:=hcell (off+i) (.int k (xs.getD (off+i) 0)) (by simp[Bk.cell,X8 hx]);exact⟨u,by rw[show o+off*1+(i*1+j)=o+(off+i) by omega];exact hu',hr⟩
   |rows e' wd' n' f=>
    rw[hB]at hcell hw hle;simp only[Jl]at hw;subst hw;simp only[Bk.len]at hle;have hlt:(off+i)*wd'+j<n'*wd':=by
     have:(off+i+1)*wd'≤n'*wd':=Nat.mul_le_mul_right _ (by omega)
     rw[Nat.add_mul (off+i)]at this;omega
    obtain⟨u,hu',hr⟩:=hcell ((off+i)*wd'+j) (f (off+i) j) (by
     simp only[Bk.cell,if_pos hlt];rw[Nat.mul_comm (off+i) wd',Nat.mul_add_div (by omega),Nat.div_eq_of_lt hj,Nat.mul_add_mod,Nat.mod_eq_of_lt hj];simp)
    exact⟨u,by rw[show o+off*wd'+(i*wd'+j)=o+((off+i)*wd'+j) by rw[Nat.add_mul];omega];exact hu',hr⟩)
  exact⟨_,cap,us,rfl,hus⟩
 exact⟨none,0,[],rfl,jb⟩
theorem Cells.congr {ok:Nat→Prop}{wd n:Nat}{f g:Nat→Nat→C}{ad:Option Addr}{us:List Value}(h:Cells ok w wd n f ad us)(he:∀i j,i<n→j<wd→f i j=g i j):Cells ok w wd n g ad us:=
 ⟨h.len,h.at_,h.one,fun i j hi hj=>by rw[←he i j hi hj];exact h.rep i j hi hj⟩
def Gq (B:Bk)(ρ:Nat→Loc)(dom ok:Nat→Prop)(w:World)(c:C)(u:Value):Prop:=match B with
 |.wins .. =>aB ρ dom ok w c u
 |_=>aP ok w c u
structure th (R:C→Value→Prop) (w:World) (wd n:Nat) (f:Nat→Nat→C) (a:Option Addr) (us:List Value):Prop where
 len:us.length=n*wd
 at_:jO w a us
 one:∀u∈us,u.oneCell'=true
 rep:∀i j,i<n→j<wd→∃u,us[i*wd+j]? =some u∧R (f i j) u
theorem Cells.OU {ok:Nat→Prop}{w:World}{wd n:Nat}{f:Nat→Nat→C}{a:Option Addr}{us:List Value}(B:Bk){ρ:Nat→Loc}{dom:Nat→Prop}(h:Cells ok w wd n f a us):th (Gq B ρ dom ok w) w wd n f a us:=
 ⟨h.len,h.at_,h.one,fun i j hi hj=>by
  obtain⟨u,hu,hr⟩:=h.rep i j hi hj;refine⟨u,hu,?_⟩
  cases B with
  |wins e b2 n g=>exact aB.ba hr
  |_=>exact hr⟩
theorem Fa (hs:aR G dom ρ s a w){b n:Nat}{e:TypeId}{b3:Nat}{g:Nat→C}{rw_:Bool}{v:Value}(hl:lo s.own b=some ⟨.wins e b3 n g,rw_⟩)(hr:aB ρ dom (aF G s.own ρ w) w (.own b 1 0 n) v):
  ∃ad cap us,v= .slice ad n cap∧th (aB ρ dom (aF G s.own ρ w) w) w 1 n (fun i _=>g i) ad us:=by
 obtain⟨_,hlen,hrep,_⟩:=hs.own b _ hl;obtain⟨_,hle,cap,hc,hr⟩:=hr
 rcases hr with⟨q,o,o',haddr,rfl,ho,_⟩|⟨_,rfl,rfl,_⟩
 ·by_cases h0:n=0
  ·subst h0;exact⟨_,cap,[],rfl,rfl,.inl rfl,(by simp),fun i j hi=>absurd hi (Nat.not_lt_zero _)⟩
  unfold aL at hrep;rw[haddr]at hrep;obtain⟨cur,e',hg,hcell⟩:=hrep
  have ho':o'=o:=by rcases ho with ho|ho<;>omega
  subst ho';have hcl:∀i,i<n→∃u,w.cell? ⟨q,o'+i,none⟩=some u∧aB ρ dom (aF G s.own ρ w) w (g i) u:=fun i hi=>by
   obtain⟨u,hu',hr⟩:=hcell i (g i) (if_pos hi);exact⟨u,by rw[cell_of_row w q _ cur e' (0,0) hg];exact hu',hr⟩
  obtain⟨us,hus⟩:=pN (ok:=aF G s.own ρ w) (w:=w) (wd:=1) (n:=n) (g:=q) (o:=o') (f:=fun _ _=>.any) (fun i j hi hj=>by
   obtain⟨u,hu,hr⟩:=hcl i hi;obtain rfl:j=0:=by omega
   exact⟨u,by rw[show o'+(i*1+0)=o'+i by omega];exact hu,(aB.plain hr).1⟩)
  refine⟨_,cap,us,rfl,hus.len,hus.at_,hus.one,fun i j hi hj=>?_⟩;obtain rfl:j=0:=by omega
  obtain⟨u,hu,_⟩:=hus.rep i 0 hi hj;obtain⟨u',hu',hr⟩:=hcl i hi;refine⟨u,hu,?_⟩
  rcases hus.at_ with h1|⟨ad,had,hat⟩
  ·rw[h1]at hu;simp at hu
  obtain rfl:=Option.some.inj had
  have:=hat _ u hu
  rw[show i*1+0=i by omega,e9,hu']at this;rw[←Option.some.inj this];exact hr
 exact⟨none,0,[],rfl,rfl,.inl rfl,(by simp),fun i j hi=>absurd hi (Nat.not_lt_zero _)⟩
theorem Aj (own:List (Nat×ft))(nx b off:Nat)(k:IntKind)(wd:Nat):gU k (jL own nx (.ptr b off))=none∧g9 wd (jL own nx (.ptr b off))=none:=by
 simp only[jL]
 split
 ·cases lo own b with
  |none=>exact⟨rfl,rfl⟩
  |some B=>obtain⟨B,r⟩:=B;cases B<;>exact ⟨rfl,rfl⟩
 exact⟨rfl,rfl⟩
theorem zf (hs:aR G dom ρ s a w)(hdom:∀b,dom b→b<s.nx){c:C}{v:Value}(hr:aB ρ dom (aF G s.own ρ w) w c v){k:IntKind}{xs:List Int}(hx:gU k (xh s.own s.nx c)=some xs):
  ∃ad cap us,v= .slice ad xs.length cap∧Cells (aF G s.own ρ w) w 1 xs.length (fun i _=>.int k (xs.getD i 0)) ad us:=by
 cases c with
 |own b wd off len=>
  have hb:=hdom b hr.1;simp only[xh,jL,if_pos hb]at hx
  cases hl:lo s.own b with
  |none=>rw[hl]at hx;simp[gU]at hx
  |some B=>
   rw[hl]at hx;simp only at hx
   cases hB:B.bk with
   |var cs=>rw[hB]at hx;simp[fZ,gU]at hx
   |wins e b2 n g=>rw[hB]at hx;simp[fZ,gU]at hx
   |rows e w' n f=>rw[hB]at hx;simp only[fZ]at hx;split at hx<;>simp [gU]at hx
   |ints e k' ys=>
    rw[hB]at hx;simp only[fZ]at hx
    split at hx
    ·rename_i hwd
     subst hwd;simp only[gU]at hx
     split at hx
     ·rename_i hk
      subst hk;simp only[Option.some.injEq]at hx;obtain⟨ad,cap,us,hv,hc⟩:=vp hs hl (by rw[hB];rfl) (by rw[hB];trivial) hr;obtain⟨_,hlen,_,_⟩:=hs.own b B hl;have hle:=hr.2.1;rw[hlen,hB]at hle;simp only[Bk.len]at hle;have hxl:xs.length=len:=by rw[←hx];simp;omega
      refine⟨ad,cap,us,by rw[hxl];exact hv,?_⟩;rw[hxl];refine hc.congr fun i j hi hj=>?_;simp only[hB,n9,←hx,X7,List.getElem?_take,List.getElem?_drop];rw[if_pos hi]
     cases hx
    simp[gU]at hx
 |nil=>exact(pq (c:=.nil) hr).1 k xs hx
 |ints k' ys=>exact(pq (c:=.ints k' ys) hr).1 k xs hx
 |fn f n caps=>simp only[xh,jL]at hx;split at hx<;>simp [gU]at hx
 |ptr b off=>rw[xh,(Aj s.own s.nx b off k 0).1]at hx;cases hx
 |_=>simp[xh,jL,gU]at hx
theorem oU (hs:aR G dom ρ s a w)(hdom:∀b,dom b→b<s.nx){c:C}{v:Value}(hr:aB ρ dom (aF G s.own ρ w) w c v){wd n:Nat}{f:Nat→Nat→C}(hx:g9 wd (xh s.own s.nx c)=some (n,f)):
  ∃ad cap us,v= .slice ad n cap∧Cells (aF G s.own ρ w) w wd n f ad us:=by
 cases c with
 |own b wd' off len=>
  have hb:=hdom b hr.1;simp only[xh,jL,if_pos hb]at hx
  cases hl:lo s.own b with
  |none=>rw[hl]at hx;simp[g9]at hx
  |some B=>
   rw[hl]at hx;simp only at hx
   cases hB:B.bk with
   |var cs=>rw[hB]at hx;simp[fZ,g9]at hx
   |wins e b2 n g=>rw[hB]at hx;simp[fZ,g9]at hx
   |ints e k' ys=>rw[hB]at hx;simp only[fZ]at hx;split at hx<;>simp [g9]at hx
   |rows e w' n' f'=>
    rw[hB]at hx;simp only[fZ]at hx
    split at hx
    ·rename_i hwd
     subst hwd;simp only[g9]at hx
     split at hx
     ·rename_i hww
      subst hww;simp only[Option.some.injEq,Prod.mk.injEq]at hx;obtain⟨rfl,rfl⟩:=hx;obtain⟨ad,cap,us,hv,hc⟩:=vp hs hl (by rw[hB];rfl) (by rw[hB];trivial) hr;refine⟨ad,cap,us,hv,hc.congr fun i j hi hj=>by rw[hB];rfl⟩
     cases hx
    simp[g9]at hx
 |nil=>
  simp only[xh,jL,g9,Option.some.injEq,Prod.mk.injEq]at hx;exact(pq (c:=.nil) hr).2 wd n f hx.1.symm
 |rows w' n' f'=>
  simp only[xh,jL,g9]at hx
  split at hx
  ·rename_i hw
   simp only[Option.some.injEq,Prod.mk.injEq]at hx;exact(pq (c:=.rows w' n' f') hr).2 wd n f ⟨hw,hx.1,hx.2⟩
  cases hx
 |fn f n caps=>simp only[xh,jL]at hx;split at hx<;>simp [g9]at hx
 |ptr b off=>rw[xh,(Aj s.own s.nx b off .i64 wd).2]at hx;cases hx
 |_=>simp[xh,jL,g9]at hx
theorem aR.del (h:aR G dom ρ s a w)(b:Nat):aR G dom ρ {s with own:=Eng.del s.own b} a w:=by
 have hext:Ext (aF G s.own ρ w) (aF G (Eng.del s.own b) ρ w) w w:=Ext.dx fun g hg=>⟨hg.1,hg.2.1,fun b2 B2 hl2 hrw=>by
  rw[j8]at hl2
  split at hl2
  ·cases hl2
  exact hg.2.2 b2 B2 hl2 hrw⟩
 have hs:ik dom dom ρ ρ:=⟨fun _ h=>h,fun _ _=>rfl⟩;refine h.rZ hext hs (fun b2 B2 hl2=>?_) (fun b2 B2 b3 B3 hl2 hl3=>?_) rfl rfl rfl (Nat.le_refl _) (fun _ _ _=>rfl)
 ·rw[j8]at hl2
  split at hl2
  ·cases hl2
  obtain⟨h1,h2,h3,h4⟩:=h.own b2 B2 hl2;exact⟨h1,h2,aL.ext hext hs _ _ (fun _ _ _=>rfl) h3,h4⟩
 rw[j8]at hl2 hl3
 split at hl2
 ·cases hl2
 split at hl3
 ·cases hl3
 exact h.inj b2 B2 b3 B3 hl2 hl3
theorem aR.CQ (h:aR G dom ρ s a w){id:Nat}(hid:¬dom id)(B:Bk)(hB:∀j,B.cell j=none)(hlen:B.len=0):
  aR G (fun b=>dom b∨b=id) (aY ρ id ⟨none,0⟩) {s with own:=dY s.own id ⟨B,true⟩} a w:=by
 have hs:=ik.aY ρ ⟨none,0⟩ hid;have hext:Ext (aF G s.own ρ w) (aF G (dY s.own id ⟨B,true⟩) (Eng.aY ρ id ⟨none,0⟩) w) w w:=Ext.dx fun g hg=>⟨hg.1,hg.2.1,fun b2 B2 hl2 hrw o=>by
  rw[b5]at hl2
  by_cases hbi:b2=id
  ·subst hbi;rw[lU];simp
  rw[if_neg hbi]at hl2;rw[aT _ _ hbi];exact hg.2.2 b2 B2 hl2 hrw o⟩
 refine h.rZ hext hs (fun b2 B2 hl2=>?_) (fun b2 B2 b3 B3 hl2 hl3 hne hrw g o o' ha=>?_) rfl rfl rfl (Nat.le_refl _) (fun _ _ _=>rfl)
 ·rw[b5]at hl2
  by_cases hbi:b2=id
  ·subst hbi;rw[if_pos rfl]at hl2;obtain rfl:=Option.some.inj hl2;rw[lU];exact⟨.inr rfl,hlen.symm,hB,fun g o ha=>by cases ha⟩
  rw[if_neg hbi]at hl2;rw[aT _ _ hbi];obtain⟨h1,h2,h3,h4⟩:=h.own b2 B2 hl2;exact⟨.inl h1,h2,aL.ext hext hs _ _ (fun _ _ _=>rfl) h3,h4⟩
 rw[b5]at hl2 hl3
 by_cases hbi:b2=id
 ·subst hbi;rw[lU]at ha;cases ha
 rw[if_neg hbi]at hl2;rw[aT _ _ hbi]at ha
 by_cases hbi':b3=id
 ·subst hbi';rw[lU];simp
 rw[if_neg hbi']at hl3;rw[aT _ _ hbi'];exact h.inj b2 B2 b3 B3 hl2 hl3 hne hrw g o o' ha
theorem aR.drew (h:aR G dom ρ s a w):aR G dom ρ s a w.drew:=h.grown ((Go.RowKit.Below.refl _ _).drew)
end
theorem rY {P:Program}{w:World}{t ty e:TypeId}{i:TypeInfo}(ht:P.underlying t=some (.slice e))(hi:P.info? e=some i)(b:Option Addr)(n cap:Nat)(a:Option Addr)(c:Nat)(h:n≤cap):
  (Builtin.append_ #[t,t] ty #[.slice b n cap,.slice a 0 c]).run P w= .ok (.slice b n cap) w:=by
 have hf:=dO (P:=P) (w:=w) i.size 0 a 0 c [] (by simp) (.inl rfl)
 cases b<;>simp [Builtin.append_,Go.run_underlying ht,sizeOf,typeInfo,hi,Builtin.lenOf,hf,h,storeCells]
section
variable {P:Program}{T:fD}{o:Oper}{s:St}{K:St→Prop}
theorem xE {P:Program}{t t' e e':TypeId}(ht:P.underlying t=some (.slice e))(ht':P.underlying t'=some (.slice e'))(ty:TypeId)(u v:Value)(w:World):
  (Builtin.append_ #[t,t'] ty #[u,v]).run P w=(Builtin.append_ #[t,t] ty #[u,v]).run P w:=by
 simp only[Builtin.append_,List.getElem?_toArray,List.getElem?_cons_zero,List.getElem?_cons_succ,Sem.run_bind,av ht,av ht',Result.andThen_ok,Sem.run_pure]
 cases u<;>simp only[Sem.run_bind,av ht,av ht',Result.andThen_ok,Sem.run_pure]
theorem kU {d:Tmp}(hd:o.dst=some d)(hdn:d<s.n){c:Call}(ho:o.op= .call c)(hcal:c.callee= .builtin .append){x y:Operand}(hargs:c.args= #[x,y]){t t':TypeId}(htys:c.argTypes= #[t,t']){e':TypeId}(ht':P.underlying t'=some (.slice e'))
  {e:TypeId} {ei:TypeInfo} {ez:Value} (ht:P.underlying t=some (.slice e)) (hei:P.info? e=some ei) (hez:ei.zero=some ez) (hzs:ez.cells.size=ei.size)
  {cx:C} (hxr:∀G ρ a w,aR G (fun b=>b<s.nx) ρ s a w→aB ρ (fun b=>b<s.nx) (aF G s.own ρ w) w cx (a.eval x)) {wd:Nat} (hwd:wd=ei.size) (hpos:0<wd) {own0:List (Nat×ft)} (hbase:yG s.own wd cx=some own0)
  {n m:Nat} {f0 f1:Nat→Nat→C} (B':Bk) (hBv:∀cs,B'≠ .var cs) (hBl:B'.len=n+m)
  (hB':∀j c,B'.cell j=some c→j<(n+m)*wd∧c=if j/wd<n then f0 (j/wd) (j%wd)else f1 (j/wd-n) (j%wd))
  (hb:(n+m)*ei.bytes≤140737488355328) (h63:n+m≤9223372036854775807)
  (hcx:∀G ρ a w,aR G (fun b=>b<s.nx) ρ s a w→∃ad cap us,a.eval x= .slice ad n cap∧th (Gq B' ρ (fun b=>b<s.nx) (aF G s.own ρ w) w) w wd n f0 ad us)
  (hcy:∀G ρ a w,aR G (fun b=>b<s.nx) ρ s a w→∃ad cap us,a.eval y= .slice ad m cap∧th (Gq B' ρ (fun b=>b<s.nx) (aF G s.own ρ w) w) w wd m f1 ad us)
  (rv:C) (hrv:∀ρ' ok' w' v,aB ρ' (fun b=>b<s.nx∨b=s.nx) ok' w' (.own s.nx wd 0 (n+m)) v→aB ρ' (fun b=>b<s.nx∨b=s.nx) ok' w' rv v)
  (hK:K {env:=(d,.one rv)::s.env,own:=dY own0 s.nx ⟨B',true⟩,nx:=s.nx+1,n:=s.n}):mv P o s K:=by
 subst hwd;intro G a w hsim Q next hk;obtain⟨ρ,hs⟩:=hsim;obtain⟨ad0,cap0,us0,hv0,hc0⟩:=hcx G ρ a w hs;obtain⟨ad1,cap1,us1,hv1,hc1⟩:=hcy G ρ a w hs;have hid:¬(s.nx<s.nx):=Nat.lt_irrefl _;have hexec:∀(v:Value) (w':World),(Builtin.append_ #[t,t] o.type #[a.eval x,a.eval y]).run P w= .ok v w'→(execOp a.eval o).run P w= .ok (.value v) w':=by
  intro v w' hr;unfold execOp;rw[ho];simp only[resolve,hcal,Sem.run_bind,Sem.run_pure,Result.andThen_ok,invoke,Go.builtin,hargs,htys];rw[show Array.map a.eval #[x,y]= #[a.eval x,a.eval y] by simp,xE ht ht',hr];rfl
 -- from the block's state to the whole
 have fin:∀(v:Value) (w':World) (ρ':Nat→Loc),(execOp a.eval o).run P w= .ok (.value v) w'→
   aR G (fun b=>b<s.nx∨b=s.nx) ρ' {s with own:=dY own0 s.nx ⟨B',true⟩} a w'→aB ρ' (fun b=>b<s.nx∨b=s.nx) (aF G (dY own0 s.nx ⟨B',true⟩) ρ' w') w' (.own s.nx ei.size 0 (n+m)) v→o.wp P a w next Q:=by
  intro v w' ρ' hr h1 h2;refine Oper.cS hr (hk _ _ _ hK ⟨ρ',?_⟩);rw[hd];have h3:=h1.put (dst:=some d) (x:=.one rv) (v:=v) (fun d' hh=>by cases hh;exact hdn) (hrv _ _ _ _ h2)
  have h4:=h3.cR (dom':=fun b=>b<s.nx+1) (fun b hb=>by rcases hb with hb|hb<;>omega)
  exact{hd:=h4.hd,hn:=h4.hn,env:=h4.env,own:=h4.own,inj:=h4.inj,os:=h4.os,tape:=h4.tape,output:=h4.output,size:=h4.size,keep:=h4.keep,wf:=h4.wf,home:=h4.home,room:=h4.room}
 -- a new row
 have cellAt:∀(pre:List Value),pre=us0++us1→∀j c,B'.cell j=some c→∃u,pre[j]? =some u∧Gq B' ρ (fun b=>b<s.nx) (aF G s.own ρ w) w c u:=by
  intro pre hpre j c hj;obtain⟨hlt,rfl⟩:=hB' j c hj;have hdm:j/ei.size*ei.size+j%ei.size=j:=by rw[Nat.mul_comm];exact Nat.div_add_mod j ei.size
  have hml:j%ei.size<ei.size:=Nat.mod_lt _ hpos;have hdl:j/ei.size<n+m:=(Nat.div_lt_iff_lt_mul hpos).2 hlt;have hl0:=hc0.len
  by_cases hn:j/ei.size<n
  ·rw[if_pos hn];obtain⟨u,hu,hr⟩:=hc0.rep _ _ hn hml;rw[hdm]at hu;refine⟨u,?_,hr⟩;have hju:=(List.getElem?_eq_some_iff.1 hu).1;rw[hpre,List.getElem?_append_left hju];exact hu
  rw[if_neg hn];obtain⟨u,hu,hr⟩:=hc1.rep (j/ei.size-n) _ (by omega) hml;refine⟨u,?_,hr⟩;have hge:n*ei.size≤j:=by
   have:n*ei.size≤j/ei.size*ei.size:=Nat.mul_le_mul_right _ (by omega)
   omega
  rw[hpre,List.getElem?_append_right (by omega),hl0,←hu]
  congr 1
  have hmul:n*ei.size≤j/ei.size*ei.size:=Nat.mul_le_mul_right _ (by omega);rw[Nat.sub_mul,←Nat.sub_add_comm hmul,hdm]
 have hzz:(us0.toArray++us1.toArray).toList=us0++us1:=by simp
 have newRow:cap0<n+m→(own0=s.own∨∃b,own0=Eng.del s.own b)→o.wp P a w next Q:=by
  intro hcap hown;have hr:=uv (ty:=o.type) ht hei hez ad0 n cap0 us0 hc0.len hc0.at_ ad1 m cap1 us1 hc1.len hc1.at_ hcap hb h63;rw[←hv0,←hv1]at hr;have hgc:n+m≤grownCap w (n+m) cap0 e:=grownCap_ge w _ _ _;have h1:aR G (fun b=>b<s.nx) ρ {s with own:=own0} a w.drew:=by
   rcases hown with rfl|⟨b,rfl⟩
   ·exact hs.drew
   exact hs.drew.del b
  have hokm:∀g,aF G s.own ρ w g→aF G own0 ρ w.drew g:=fun g hg=>by
   rcases hown with rfl|⟨b,rfl⟩
   ·exact hg
   exact⟨hg.1,hg.2.1,fun b2 B2 hl2 hrw=>by
    rw[j8]at hl2
    split at hl2
    ·cases hl2
    exact hg.2.2 b2 B2 hl2 hrw⟩
  have hextd:Ext (aF G s.own ρ w) (aF G own0 ρ w.drew) w w.drew:=⟨fun g hg=>⟨hokm g hg,rfl⟩,fun _=>Nat.le_refl _⟩;have h2:=h1.wP hid B' (us0.toArray++us1.toArray++Builtin.zeroCells ez.cells (grownCap w (n+m) cap0 e-(n+m))) e (fun j c hj=>by
   obtain⟨u,hu,hr⟩:=cellAt _ rfl j c hj;refine⟨u,?_,?_⟩
   ·have hju:=(List.getElem?_eq_some_iff.1 hu).1;rw[Array.getElem?_append_left (by simpa using hju)];rw[←Array.getElem?_toList,hzz];exact hu
   cases B' with
   |var cs=>exact absurd rfl (hBv cs)
   |ints e k xs=>exact aP.ext hextd _ _ hr
   |rows e w n f=>exact aP.ext hextd _ _ hr
   |wins e b2 n g=>exact aB.ext hextd ⟨fun _ h=>h,fun _ _=>rfl⟩ _ _ hr)
  refine fin _ _ _ (hexec _ _ hr) h2 ⟨.inr rfl,by rw[lU];simp[hBl],grownCap w (n+m) cap0 e,hgc,.inl ⟨w.heap.size,0,0,by rw[lU];rfl,rfl,.inr (by simp),?_⟩⟩;have hrs:bU (w.drew.alloc (.cells (us0.toArray++us1.toArray++Builtin.zeroCells ez.cells (grownCap w (n+m) cap0 e-(n+m))) e)) w.heap.size=(us0.toArray++us1.toArray++Builtin.zeroCells ez.cells (grownCap w (n+m) cap0 e-(n+m))).size:=dH (heap_alloc_new w.drew _);rw[hrs];simp only[Array.size_append,List.size_toArray,size_zeroCells,hc0.len,hc1.len,hzs]
  have:grownCap w (n+m) cap0 e=n+m+(grownCap w (n+m) cap0 e-(n+m)):=by omega
  rw[Nat.zero_add,Nat.zero_add]
  conv=>lhs;rw[this]
  rw[Nat.add_mul,Nat.add_mul];exact Nat.le_refl _
 unfold yG at hbase
 split at hbase
 ·-- the base is nil
  simp only[Option.some.injEq]at hbase;have hxn:=hxr G ρ a w hs;have hxn:a.eval x= .slice none 0 0:=hxn;rw[hxn]at hv0;simp only[Value.slice.injEq]at hv0;obtain⟨rfl,rfl,rfl⟩:=hv0
  by_cases hm:m=0
  ·subst hm;have hr:=lQ (P:=P) (w:=w) (ty:=o.type) ht hei ad1 cap1;rw[←hv1,←hxn]at hr;subst hbase;have h2:=hs.CQ hid B' (fun j=>by
    cases hc:B'.cell j with
    |none=>rfl
    |some c=>have:=(hB' j c hc).1;simp at this) (by rw[hBl])
   exact fin _ _ _ (hexec _ _ hr) h2 ⟨.inr rfl,by rw[lU];simp,0,by simp,.inr ⟨by rw[lU],hxn,by simp,rfl⟩⟩
  exact newRow (by omega) (.inl hbase.symm)
 ·-- it is a slice of the frame's own
  rename_i b w' off len
  split at hbase
  ·rename_i hww
   subst hww
   cases hlo:lo s.own b with
   |none=>rw[hlo]at hbase;simp at hbase
   |some B=>
    rw[hlo]at hbase;simp only at hbase
    split at hbase
    ·rename_i hrw
     simp only[Option.some.injEq]at hbase
     by_cases hcap:cap0<n+m
     ·exact newRow hcap (.inr ⟨b,hbase.symm⟩)
     have hxo:=hxr G ρ a w hs;obtain⟨hdb,hle,cap,hc,hxo⟩:=hxo
     rcases hxo with⟨g,o1,o2,haddr,hvx,ho,hroom⟩|⟨haddr,hvx,rfl,rfl⟩
     ·rw[hvx]at hv0;simp only[Value.slice.injEq]at hv0;obtain⟨rfl,rfl,rfl⟩:=hv0;obtain⟨_,hlenb,hrepb,hlocb⟩:=hs.own b B hlo;unfold aL at hrepb;rw[haddr]at hrepb;obtain⟨cur,e',hg,hcells⟩:=hrepb;rw[dH hg]at hroom;have hlo':lo s.own b=some ⟨B.bk,true⟩:=by rw[hlo,←hrw]
      -- the base's place
      have hfit:o2+len*ei.size+us1.length≤cur.size∨len+m=0:=by
       by_cases h0:len+m=0
       ·exact .inr h0
       left
       have ho2:o2=o1+off*ei.size:=by rcases ho with ho|ho<;>omega
       have hl1:=hc1.len;have h3:(len+m)*ei.size≤cap*ei.size:=Nat.mul_le_mul_right _ (by omega);rw[Nat.add_mul]at h3 hroom;omega
      rcases hfit with hfit|h0
      ·have hr:=rX (P:=P) (w:=w) (ty:=o.type) ht hei g o2 len cap hg ad1 m cap1 us1 hc1.len hc1.at_ hc1.one (by omega) hfit;rw[←hvx,←hv1]at hr;have hsz':((cur.toList.take (o2+len*ei.size)++us1++cur.toList.drop (o2+len*ei.size+us1.length)).toArray).size=cur.size:=by simp;omega
       have h2:=hs.rewrite hlo' haddr hg hsz' hid B' o2 (fun j c hj=>by
        obtain⟨hlt,rfl⟩:=hB' j c hj;have hdm:j/ei.size*ei.size+j%ei.size=j:=by rw[Nat.mul_comm];exact Nat.div_add_mod j ei.size
        have hml:j%ei.size<ei.size:=Nat.mod_lt _ hpos;have hdl:j/ei.size<len+m:=(Nat.div_lt_iff_lt_mul hpos).2 hlt;have hlg:=g8 cur.toList (o2+len*ei.size) us1 (by simpa using hfit) (o2+j);have hl1:=hc1.len
        by_cases hn:j/ei.size<len
        ·rw[if_pos hn];obtain⟨u,hu,hr⟩:=hc0.rep _ _ hn hml;rw[hdm]at hu;have hjl:j<len*ei.size:=by
          have:(j/ei.size+1)*ei.size≤len*ei.size:=Nat.mul_le_mul_right _ hn
          rw[Nat.add_mul]at this;omega
         rw[if_neg (by omega)]at hlg;refine⟨u,?_,?_⟩
         ·rw[List.getElem?_toArray,hlg,Array.getElem?_toList]
          rcases hc0.at_ with h0|⟨ad,had,hat⟩
          ·rw[h0]at hu;simp at hu
          simp only[Option.some.injEq]at had;subst had
          have:=hat j u hu
          rw[e9,cell_of_row w g _ cur e' (0,0) hg]at this;exact this
         cases B' with
         |var cs=>exact absurd rfl (hBv cs)
         |ints e k xs=>exact hr
         |rows e w n f=>exact hr
         |wins e b2 n g=>exact hr
        rw[if_neg hn];obtain⟨u,hu,hr⟩:=hc1.rep (j/ei.size-len) _ (by omega) hml;have hmul:len*ei.size≤j/ei.size*ei.size:=Nat.mul_le_mul_right _ (by omega);have hge:len*ei.size≤j:=by omega
        rw[Nat.sub_mul,←Nat.sub_add_comm hmul,hdm]at hu;have hju:=(List.getElem?_eq_some_iff.1 hu).1;rw[if_pos (by omega),show o2+j-(o2+len*ei.size)=j-len*ei.size by omega]at hlg;refine⟨u,?_,?_⟩
        ·rw[List.getElem?_toArray,hlg,←hu]
        cases B' with
        |var cs=>exact absurd rfl (hBv cs)
        |ints e k xs=>exact hr
        |rows e w n f=>exact hr
        |wins e b2 n g=>exact hr)
       subst hbase;refine fin _ _ _ (hexec _ _ hr) h2 ⟨.inr rfl,by rw[lU];simp[hBl],cap,by omega,.inl ⟨g,o2,o2,by rw[lU],rfl,.inr (by simp),?_⟩⟩;rw[dH (setRow_heap w g cur _ e' (0,0) hg),hsz']
       by_cases hc0':cap=0
       ·subst hc0';simp;omega
       have ho2:o2=o1+off*ei.size:=by rcases ho with ho|ho<;>omega
       rw[Nat.add_mul]at hroom;rw[ho2,Nat.zero_add];omega
      -- nothing at all is laid
      have hl0:len=0:=by omega
      have hm0:m=0:=by omega
      subst hl0;subst hm0;have hr:=rY (P:=P) (w:=w) (ty:=o.type) ht hei (some ⟨g,o2,none⟩) 0 cap ad1 cap1 hc;rw[←hvx,←hv1]at hr;have h2:=hs.rewrite (cur':=cur) hlo' haddr hg rfl hid B' (o1+off*ei.size) (fun j c hj=>by have:=(hB' j c hj).1;simp at this);rw[setRow_self w g cur e' (0,0) hg]at h2;subst hbase;refine fin _ _ _ (hexec _ _ hr) h2 ⟨.inr rfl,by rw[lU];simp,cap,hc,.inl ⟨g,o1+off*ei.size,o2,by rw[lU],hvx,?_,?_⟩⟩
      ·rcases ho with ho|ho
       ·exact .inl ho
       exact .inr (by rw[ho];omega)
      rw[dH hg];rw[Nat.add_mul]at hroom;rw[Nat.zero_add];omega
     rw[hvx]at hv0;simp only[Value.slice.injEq]at hv0;obtain⟨rfl,rfl,rfl⟩:=hv0;have hm:m=0:=by omega
     subst hm;have hr:=lQ (P:=P) (w:=w) (ty:=o.type) ht hei ad1 cap1;rw[←hv1,←hvx]at hr;subst hbase;have h2:=(hs.del b).CQ hid B' (fun j=>by
      cases hc:B'.cell j with
      |none=>rfl
      |some c=>have:=(hB' j c hc).1;simp at this) (by rw[hBl])
     exact fin _ _ _ (hexec _ _ hr) h2 ⟨.inr rfl,by rw[lU];simp,0,by simp,.inr ⟨by rw[lU],hvx,by simp,rfl⟩⟩
    cases hbase
  cases hbase
 cases hbase
theorem Lt (hT:eD P T){c:Call}(ho:o.op= .call c)(hcal:c.callee= .builtin .append){x y:Operand}(hargs:c.args= #[x,y]){t t':TypeId}(htys:c.argTypes= #[t,t']){e':TypeId}(ht':P.underlying t'=some (.slice e'))
  (hdn:bT o s.n) (h:pK T s o.dst t x y K):mv P o s K:=by
 unfold pK at h
 cases hd:o.dst with
 |none=>rw[hd]at h;exact h.elim
 |some d=>
  rw[hd]at h;simp only at h
  cases hTt:T t with
  |none=>rw[hTt]at h;exact h.elim
  |some S=>
   rw[hTt]at h;simp only at h
   split at h
   ·rename_i e hSk
    have hu:=ff hT hTt hSk
    cases hTe:T e with
    |none=>rw[hTe]at h;exact h.elim
    |some E=>
     rw[hTe]at h;simp only at h;obtain⟨ei,ed,ez,hei,heu,hez,hek,hes,heb,hzc,hall⟩:=bD hT hTe
     split at h
     ·rename_i cx cy hx hy
      cases hb:yG s.own E.size (CE cx)with
      |none=>rw[hb]at h;exact h.elim
      |some own0=>
       rw[hb]at h;simp only at h;have hcx:∀G ρ a w,aR G (fun b=>b<s.nx) ρ s a w→aB ρ (fun b=>b<s.nx) (aF G s.own ρ w) w cx (a.eval x):=fun G ρ a w hs=>by
        have:=hs.ev x;rw[hx]at this;exact this
       have hcy:∀G ρ a w,aR G (fun b=>b<s.nx) ρ s a w→aB ρ (fun b=>b<s.nx) (aF G s.own ρ w) w cy (a.eval y):=fun G ρ a w hs=>by
        have:=hs.ev y;rw[hy]at this;exact this
       have hxr:∀G ρ a w,aR G (fun b=>b<s.nx) ρ s a w→aB ρ (fun b=>b<s.nx) (aF G s.own ρ w) w (CE cx) (a.eval x):=fun G ρ a w hs=>by
        have:=hcx G ρ a w hs
        cases cx with
        |win b b2 o l=>exact this.2
        |_=>exact this
       split at h
       ·rename_i k hk
        split at h
        ·rename_i xs ys hxs hys
         obtain⟨hzl,hE1,⟨hbd,h63⟩,hK⟩:=h;have hzs:ez.cells.size=ei.size:=by rw[←hes,←hzl,hzc];simp
         refine kU (wd:=E.size) (n:=xs.length) (m:=ys.length) (f0:=fun i _=>.int k (xs.getD i 0)) (f1:=fun i _=>.int k (ys.getD i 0)) hd (hdn d hd) ho hcal hargs htys ht' hu hei hez hzs hxr hes (by omega) hb (.ints e k (xs++ys)) (fun cs=>by simp) (by simp[Bk.len]) (fun j c hj=>?_) (by rw[←heb];exact hbd) h63 (fun G ρ a w hs=>?_) (fun G ρ a w hs=>?_) _ (fun _ _ _ _ h=>h) (by rw[hE1,←X6];exact hK)
         ·simp only[Bk.cell]at hj;obtain⟨v,hv,rfl⟩:=Option.map_eq_some_iff.1 hj;obtain⟨hjl,hjv⟩:=List.getElem?_eq_some_iff.1 hv;rw[X6]at hjl;rw[hE1,Nat.mul_one,Nat.div_one];refine⟨hjl,?_⟩;subst hjv
          by_cases hjx:j<xs.length
          ·rw[if_pos hjx]
           congr 1
           rw[List.getElem_append_left hjx]
           simp[X8 hjx]
          rw[if_neg hjx]
          congr 1
          rw[List.getElem_append_right (by omega)]
          have:j-xs.length<ys.length:=by omega
          simp[X8 this]
         ·rw[hE1];obtain⟨ad,cap,us,h1,h2⟩:=zf hs (fun _ h=>h) (hcx G ρ a w hs) hxs;exact⟨ad,cap,us,h1,h2.OU _⟩
         rw[hE1];obtain⟨ad,cap,us,h1,h2⟩:=zf hs (fun _ h=>h) (hcy G ρ a w hs) hys;exact⟨ad,cap,us,h1,h2.OU _⟩
        exact h.elim
       split at h
       ·split at h
        ·rename_i b3 n f b4 m g hxs hys
         obtain⟨hzl,hE1,⟨hbd,h63⟩,htag,hK⟩:=h;have hzs:ez.cells.size=ei.size:=by rw[←hes,←hzl,hzc];simp
         have src:∀{c:C} {v:Value} {G:Ctx} {ρ:Nat→Loc} {a:Act} {w:World} {bb k:Nat} {h:Nat→C} (B:Bk) (_:∃e b n g,B= .wins e b n g),aR G (fun b=>b<s.nx) ρ s a w→aB ρ (fun b=>b<s.nx) (aF G s.own ρ w) w c v→Iq s.own s.nx c=some (bb,k,h)→
           ∃ad cap us,v= .slice ad k cap∧th (Gq B ρ (fun b=>b<s.nx) (aF G s.own ρ w) w) w 1 k (fun i _=>h i) ad us:=by
          intro c v G ρ a w bb k h B hB hs hr hw;obtain⟨e1,b1,n1,g1,rfl⟩:=hB;unfold Iq at hw
          split at hw
          ·rename_i b b2 off len
           split at hw
           ·rename_i e3 b3 n3 g3 rw3 hl3
            split at hw
            ·rename_i h0
             split at hw
             ·rename_i hln
              subst h0;subst hln;simp only[Option.some.injEq,Prod.mk.injEq]at hw;obtain⟨rfl,rfl,rfl⟩:=hw;exact Fa hs hl3 hr.2
             cases hw
            cases hw
           cases hw
          split at hw
          ·rename_i n3 f3 hr3
           simp only[Option.some.injEq,Prod.mk.injEq]at hw;obtain⟨rfl,rfl,rfl⟩:=hw;obtain⟨ad,cap,us,h1,h2⟩:=oU hs (fun _ h=>h) hr hr3;exact⟨ad,cap,us,h1,(h2.congr (g:=fun i _=>f3 i 0) (fun i j _ hj=>by rw[show j=0 by omega])).OU _⟩
          cases hw
         refine kU (wd:=E.size) (n:=n) (m:=m) (f0:=fun i _=>f i) (f1:=fun i _=>g i) hd (hdn d hd) ho hcal hargs htys ht' hu hei hez hzs hxr hes (by omega) hb (.wins e (if uc cy=true then b4 else b3) (n+m) (fun i=>if i<n then f i else g (i-n))) (fun cs=>by simp) rfl (fun j c hj=>?_) (by rw[←heb];exact hbd) h63 (fun G ρ a w hs=>?_) (fun G ρ a w hs=>?_) _ (fun ρ' ok' w' v h=>?_) hK
         ·simp only[Bk.cell]at hj;rw[hE1,Nat.mul_one,Nat.div_one]
          split at hj
          ·rename_i hlt
           simp only[Option.some.injEq]at hj;exact⟨hlt,hj.symm⟩
          cases hj
         ·rw[hE1];exact src _ ⟨_,_,_,_,rfl⟩ hs (hcx G ρ a w hs) hxs
         ·rw[hE1];exact src _ ⟨_,_,_,_,rfl⟩ hs (hcy G ρ a w hs) hys
         rw[hE1]at h;exact⟨.inl htag,h⟩
        exact h.elim
       split at h
       ·rename_i n f m g hxs hys
        obtain⟨hzl,hpos,⟨hbd,h63⟩,hK⟩:=h;have hzs:ez.cells.size=ei.size:=by rw[←hes,←hzl,hzc];simp
        refine kU (wd:=E.size) (n:=n) (m:=m) (f0:=f) (f1:=g) hd (hdn d hd) ho hcal hargs htys ht' hu hei hez hzs hxr hes hpos hb (.rows e E.size (n+m) (fun i j=>if i<n then f i j else g (i-n) j)) (fun cs=>by simp) rfl (fun j c hj=>?_) (by rw[←heb];exact hbd) h63 (fun G ρ a w hs=>?_) (fun G ρ a w hs=>?_) _ (fun _ _ _ _ h=>h) hK
        ·simp only[Bk.cell]at hj
         split at hj
         ·rename_i hlt
          simp only[Option.some.injEq]at hj;exact⟨hlt,hj.symm⟩
         cases hj
        ·obtain⟨ad,cap,us,h1,h2⟩:=oU hs (fun _ h=>h) (hcx G ρ a w hs) hxs;exact⟨ad,cap,us,h1,h2.OU _⟩
        obtain⟨ad,cap,us,h1,h2⟩:=oU hs (fun _ h=>h) (hcy G ρ a w hs) hys;exact⟨ad,cap,us,h1,h2.OU _⟩
       exact h.elim
     exact h.elim
   exact h.elim
end
end Go.Eng
/-
  THE ENGINE, PART P: calls of functions that turn one block of the caller's.
-/
namespace Go.Eng
open Go
def Bk.plain:Bk→Prop
 |.var cs=>cs.all gj=true
 |.wins .. =>False
 |_=>True
structure xA (l:Loc) (w w':World):Prop where
 os:w'.os=w.os
 tape:w'.tape=w.tape
 output:w'.output=w.output
 size:w.heap.size≤w'.heap.size
 block:∀k,k<w.heap.size→(∀o,l.addr≠some (k,o))→w'.heap[k]? =w.heap[k]?
 room:∀g,bU w g≤bU w' g
def Fj (ok:Nat→Prop)(w w':World)(g:Nat):Prop:=ok g∨(w.heap.size≤g∧g<w'.heap.size)
def Mc (P:Program)(f:FuncId)(args:List V)(B:Bk)(R:V→Bk→Prop):Prop:=
 gX P f∧∀(ok:Nat→Prop) (w:World) (vs:Array Value) (l:Loc),(∀g,ok g→g<w.heap.size)→l.len=B.len→(∀g o,l.addr=some (g,o)→g<w.heap.size∧¬ok g)→
  aL bg bn ok w l B→a6 (fun _=>l) (fun b=>b=0) ok w args vs.toList→
  Calls P f vs w fun e w'=>∃v r B',e= .returned v∧R r B'∧B'.plain∧B'.len=B.len∧xA l w w'∧
   aL bg bn (Fj ok w w') w' l B'∧bZ (fun _=>l) (fun b=>b=0) (Fj ok w w') w' r v
def LV (b:Nat)(own:List (Nat×ft))(nx:Nat)(c:C):C:=
 match c with
 |.own b' wd off len=>if b'=b then .own 0 wd off len else jL own nx (.own b' wd off len)
 |.ptr b' off=>if b'=b then .ptr 0 off else jL own nx (.ptr b' off)
 |.win _ _ _ _=>.any
 |c=>jL own nx c
def IP (b:Nat)(own:List (Nat×ft))(nx:Nat):V→V
 |.one c=>.one (LV b own nx c)
 |.agg cs=>.agg (cs.map (LV b own nx))
 |_=>.unk
def Dy (b:Nat)(c:C):C:=
 match c with
 |.own _ wd off len=>.own b wd off len
 |.ptr _ off=>.ptr b off
 |.eptr _ _ _ _=>.any
 |.win _ _ _ _=>.any
 |.fn _ _ _=>.any
 |c=>c
def Gc (b:Nat):V→V
 |.one c=>.one (Dy b c)
 |_=>.unk
def ua (b:Nat):V→V
 |.one c=>.one (Dy b c)
 |.aA xs=>.aA (xs.map (Gc b))
 |_=>.unk
theorem aL.gC {ρ ρ':Nat→Loc}{dom dom' ok ok':Nat→Prop}{w:World}{l:Loc}{B:Bk}(hp:B.plain)(h:∀g,ok g→ok' g)(hr:aL ρ dom ok w l B):aL ρ' dom' ok' w l B:=by
 unfold aL at*
 cases ha:l.addr with
 |none=>rw[ha]at hr;exact hr
 |some p=>
  obtain⟨g,o⟩:=p;rw[ha]at hr;obtain⟨cur,e,hg,hc⟩:=hr;refine⟨cur,e,hg,fun j c hj=>?_⟩;obtain⟨u,hu,hr⟩:=hc j c hj;refine⟨u,hu,?_⟩
  cases B with
  |var cs=>
   have hm:c∈cs:=List.mem_of_getElem? hj;exact jQ (List.all_eq_true.1 hp c hm) hr
  |ints e k xs=>exact aP.ext (Ext.dx h) _ _ hr
  |rows e wd n f=>exact aP.ext (Ext.dx h) _ _ hr
  |wins e b2 n g=>exact hp.elim
section
variable {G:Ctx}{dom:Nat→Prop}{ρ:Nat→Loc}{s:St}{a:Act}{w:World}
theorem vf (hs:aR G dom ρ s a w)(b:Nat)(ids:List Nat)(c:C)(v:Value)(hi:∀b'∈gp c,b'≠b→b'∈ids)(hr:aB ρ dom (aF G s.own ρ w) w c v):
  aB (fun _=>ρ b) (fun i=>i=0) (cU G s.own ρ w ids) w (LV b s.own s.nx c) v:=by
 have o:Oper:=default;have hsame:ik bn (fun i:Nat=>i=0) bg (fun _=>ρ b):=⟨fun _ h=>h.elim,fun _ h=>h.elim⟩;have hx:Ext (cU G s.own ρ w ids) (cU G s.own ρ w ids) w w:=Ext.refl _ _;have view:(∀b'∈gp c,b'<s.nx→b'∈ids)→aB (fun _=>ρ b) (fun i=>i=0) (cU G s.own ρ w ids) w (jL s.own s.nx c) v:=fun hi'=>
  aB.ext hx hsame _ _ (nB hs (iX.refl s s.nx o) c v ids hi' hr)
 cases c with
 |own b' wd off len=>
  show aB _ _ _ w (LV b s.own s.nx (.own b' wd off len)) v;simp only[LV]
  by_cases hb:b'=b
  ·rw[if_pos hb];subst hb;obtain⟨_,h2,h3⟩:=hr;exact⟨rfl,h2,h3⟩
  rw[if_neg hb];refine view fun b2 hb2 _=>hi b2 hb2 ?_;simp only[gp,List.mem_singleton]at hb2;subst hb2;exact hb
 |ptr b' off=>
  show aB _ _ _ w (LV b s.own s.nx (.ptr b' off)) v;simp only[LV]
  by_cases hb:b'=b
  ·rw[if_pos hb];subst hb;obtain⟨_,h2⟩:=hr;exact⟨rfl,h2⟩
  rw[if_neg hb];refine view fun b2 hb2 _=>hi b2 hb2 ?_;simp only[gp,List.mem_singleton]at hb2;subst hb2;exact hb
 |win b' b2 off len=>exact(aB.plain (c:=.win b' b2 off len) hr).1
 |any=>exact view (fun _ h=>by simp[gp]at h)
 |bool t=>exact view (fun _ h=>by simp[gp]at h)
 |int k n=>exact view (fun _ h=>by simp[gp]at h)
 |str t=>exact view (fun _ h=>by simp[gp]at h)
 |nil=>exact view (fun _ h=>by simp[gp]at h)
 |ints k xs=>exact view (fun _ h=>by simp[gp]at h)
 |rows wd n f=>exact view (fun _ h=>by simp[gp]at h)
 |elt c wd i off=>exact view (fun _ h=>by simp[gp]at h)
 |eptr b wd i off=>exact view (fun _ h=>by simp[gp]at h)
 |fn f n caps=>exact view (fun _ h=>by simp[gp]at h)
theorem u6 (hs:aR G dom ρ s a w)(b:Nat)(ids:List Nat)(x:V)(v:Value)(hi:∀b'∈ky x,b'≠b→b'∈ids)(hr:bZ ρ dom (aF G s.own ρ w) w x v):
  dJ (fun _=>ρ b) (fun i=>i=0) (cU G s.own ρ w ids) w (IP b s.own s.nx x) v:=by
 cases x with
 |one c=>exact vf hs b ids c v hi hr
 |agg cs=>
  obtain⟨vs,hv,hl⟩:=hr;refine⟨vs,hv,?_⟩
  generalize vs.toList=l at hl
  have hi':∀c∈cs,∀b'∈gp c,b'≠b→b'∈ids:=fun c hc b' hb'=>hi b' (List.mem_flatMap.2 ⟨c,hc,hb'⟩);clear hv hi
  induction cs generalizing l with
  |nil=>cases l with
   |nil=>trivial
   |cons u l=>exact hl.elim
  |cons c cs ih=>
   cases l with
   |nil=>exact hl.elim
   |cons u l=>exact⟨vf hs b ids c u (hi' c (List.mem_cons_self ..)) hl.1,ih l hl.2 fun c' hc=>hi' c' (List.mem_cons_of_mem _ hc)⟩
 |aA xs=>trivial
 |unk=>trivial
theorem rF {dom:Nat→Prop}{ρ:Nat→Loc}{ok ok':Nat→Prop}{w:World}{b:Nat}(hb:dom b)(h:∀g,ok g→ok' g){c:C}{v:Value}(hr:aB (fun _=>ρ b) (fun i=>i=0) ok w c v):aB ρ dom ok' w (Dy b c) v:=by
 have hx:Ext ok ok' w w:=Ext.dx h
 cases c with
 |own b' wd off len=>
  obtain⟨_,h2,h3⟩:=hr;exact⟨hb,h2,h3⟩
 |ptr b' off=>
  obtain⟨_,h2⟩:=hr;exact⟨hb,h2⟩
 |eptr b' wd i off=>exact(aB.plain (c:=.eptr b' wd i off) hr).1
 |win b' b2 off len=>exact(aB.plain (c:=.win b' b2 off len) hr).1
 |fn f n caps=>exact(aB.plain (c:=.fn f n caps) hr).1
 |any=>exact aP.ext hx .any v hr
 |bool t=>exact aP.ext hx (.bool t) v hr
 |int k n=>exact aP.ext hx (.int k n) v hr
 |str t=>exact aP.ext hx (.str t) v hr
 |nil=>exact aP.ext hx .nil v hr
 |ints k xs=>exact aP.ext hx (.ints k xs) v hr
 |rows wd n f=>exact aP.ext hx (.rows wd n f) v hr
 |elt c wd i off=>exact aP.ext hx (.elt c wd i off) v hr
theorem rN {dom:Nat→Prop}{ρ:Nat→Loc}{ok ok':Nat→Prop}{w:World}{b:Nat}(hb:dom b)(h:∀g,ok g→ok' g):∀{xs:List V} {vs:List Value},a6 (fun _=>ρ b) (fun i=>i=0) ok w xs vs→a6 ρ dom ok' w (xs.map (Gc b)) vs
 |[],[],_=>trivial
 |x::xs,v::vs,hr=>by
  refine⟨?_,rN hb h hr.2⟩
  cases x with
  |one c=>exact rF (c:=c) hb h hr.1
  |unk=>trivial
  |agg cs=>trivial
  |aA ys=>trivial
 |[],_::_,hr=>hr.elim
 |_::_,[],hr=>hr.elim
theorem zQ {dom:Nat→Prop}{ρ:Nat→Loc}{ok ok':Nat→Prop}{w:World}{b:Nat}(hb:dom b)(h:∀g,ok g→ok' g){x:V}{v:Value}(hr:bZ (fun _=>ρ b) (fun i=>i=0) ok w x v):bZ ρ dom ok' w (ua b x) v:=by
 cases x with
 |one c=>exact rF (c:=c) hb h hr
 |unk=>trivial
 |agg cs=>trivial
 |aA xs=>
  obtain⟨vs,h1,h2⟩:=hr;exact⟨vs,h1,rN hb h h2⟩
theorem aR.N2 (h:aR G dom ρ s a w){b:Nat}{B:Bk}(hl:lo s.own b=some ⟨B,true⟩){ids:List Nat}(hids:b∉ids){w':World}(hm:xA (ρ b) w w'){B':Bk}(hp:B'.plain)(hlen:B'.len=B.len)
  (hrep:aL bg bn (Fj (cU G s.own ρ w ids) w w') w' (ρ b) B'):
  aR G dom ρ {s with own:=dY (Eng.dB s.own ids) b ⟨B',true⟩} a w'∧∀g,Fj (cU G s.own ρ w ids) w w' g→aF G (dY (Eng.dB s.own ids) b ⟨B',true⟩) ρ w' g:=by
 obtain⟨hd,hlB,hrB,hgB⟩:=h.own b _ hl;have hlo:∀b2 B2,b2≠b→lo (Eng.dB s.own ids) b2=some B2→∃B3,lo s.own b2=some B3∧B2.bk=B3.bk∧(B2.rw=true→B3.rw=true∧b2∉ids):=by
  intro b2 B2 _ h2;rw[fp]at h2
  cases h3:lo s.own b2 with
  |none=>rw[h3]at h2;simp at h2
  |some B3=>
   rw[h3]at h2;simp only[Option.map_some,Option.some.injEq]at h2
   by_cases hm:ids.contains b2=true
   ·rw[if_pos hm]at h2;subst h2;exact⟨B3,rfl,rfl,fun h=>by simp at h⟩
   rw[if_neg hm]at h2;subst h2;exact⟨B3,rfl,rfl,fun h=>⟨h,by simpa using hm⟩⟩
 have hok:∀g,Fj (cU G s.own ρ w ids) w w' g→aF G (dY (Eng.dB s.own ids) b ⟨B',true⟩) ρ w' g:=by
  have step:∀g,g<w'.heap.size→¬G.forb g→(∀o,(ρ b).addr≠some (g,o))→(∀b2 B2,b2≠b→lo (Eng.dB s.own ids) b2=some B2→B2.rw=true→∀o2,(ρ b2).addr≠some (g,o2))→aF G (dY (Eng.dB s.own ids) b ⟨B',true⟩) ρ w' g:=by
   intro g h1 h2 h3 h4;refine⟨h1,h2,fun b2 B2 hl2 hrw o2=>?_⟩;rw[b5]at hl2
   by_cases hbi:b2=b
   ·subst hbi;exact h3 o2
   rw[if_neg hbi]at hl2;exact h4 b2 B2 hbi hl2 hrw o2
  rintro g ((h3|⟨b1,hbi,B2,o',hl1,ha'⟩)|⟨h3,h4⟩)
  ·refine step g (Nat.lt_of_lt_of_le h3.1 hm.size) h3.2.1 (h3.2.2 b _ hl rfl) fun b2 B2 hne h2 hrw o2=>?_;obtain⟨B3,h5,_,h6⟩:=hlo b2 B2 hne h2;exact h3.2.2 b2 B3 h5 (h6 hrw).1 o2
  ·obtain⟨_,_,_,h4⟩:=h.own b1 B2 hl1;obtain⟨h5,h6,_⟩:=h4 g o' ha';have hne1:b≠b1:=fun e=>hids (e▸hbi);refine step g (Nat.lt_of_lt_of_le h5 hm.size) h6 (fun o he=>h.inj b _ b1 B2 hl hl1 hne1 rfl g o o' he ha') fun b2 B3 hne h2 hrw o2 he=>?_;obtain⟨B4,h7,_,h8⟩:=hlo b2 B3 hne h2;obtain⟨h9,h10⟩:=h8 hrw;exact h.inj b2 B4 b1 B2 h7 hl1 (fun e=>h10 (e▸hbi)) h9 g o2 o' he ha'
  refine step g h4 (fun hf=>absurd (h.wf _ hf) (by have:=h.size;omega)) (fun o he=>absurd (hgB g o he).1 (by omega)) fun b2 B2 hne h2 hrw o2 he=>?_;obtain⟨B3,h5,_,_⟩:=hlo b2 B2 hne h2;exact absurd ((h.own b2 B3 h5).2.2.2 g o2 he).1 (by omega)
 have hext:Ext (aF G s.own ρ w) (aF G (dY (Eng.dB s.own ids) b ⟨B',true⟩) ρ w') w w':=
  ⟨fun g hg=>⟨hok g (.inl (.inl hg)),hm.block g hg.1 (hg.2.2 b _ hl rfl)⟩,hm.room⟩
 have hs:ik dom dom ρ ρ:=⟨fun _ h=>h,fun _ _=>rfl⟩;refine⟨h.rZ hext hs ?_ ?_ hm.os hm.tape hm.output hm.size ?_,hok⟩
 ·intro b2 B2 hl2;rw[b5]at hl2
  by_cases hbi:b2=b
  ·subst hbi;rw[if_pos rfl]at hl2;obtain rfl:=Option.some.inj hl2;exact⟨hd,by rw[hlB];exact hlen.symm,hrep.gC hp hok,fun g o ha=>⟨Nat.lt_of_lt_of_le (hgB g o ha).1 hm.size,(hgB g o ha).2⟩⟩
  rw[if_neg hbi]at hl2;obtain⟨B3,h5,h6,_⟩:=hlo b2 B2 hbi hl2;obtain⟨h7,h8,h9,h10⟩:=h.own b2 B3 h5;rw[h6];exact⟨h7,h8,aL.ext hext hs _ _ (fun g o ha=>hm.block g (h10 g o ha).1 fun o2 he=>h.inj b _ b2 B3 hl h5 (fun e=>hbi e.symm) rfl g o2 o he ha) h9,fun g o ha=>⟨Nat.lt_of_lt_of_le (h10 g o ha).1 hm.size,(h10 g o ha).2⟩⟩
 ·have hget:∀b2 B2,lo (dY (Eng.dB s.own ids) b ⟨B',true⟩) b2=some B2→∃B3,lo s.own b2=some B3∧(B2.rw=true→B3.rw=true):=by
   intro b2 B2 hl2;rw[b5]at hl2
   by_cases hbi:b2=b
   ·subst hbi;exact⟨_,hl,fun _=>rfl⟩
   rw[if_neg hbi]at hl2;obtain⟨B3,h5,_,h7⟩:=hlo b2 B2 hbi hl2;exact⟨B3,h5,fun h=>(h7 h).1⟩
  intro b1 B1 b2 B2 hl1 hl2 hne hrw;obtain⟨B3,h5,h6⟩:=hget b1 B1 hl1;obtain⟨B4,h7,_⟩:=hget b2 B2 hl2;exact h.inj b1 B3 b2 B4 h5 h7 hne (h6 hrw)
 intro k hk hmine;refine hm.block k (Nat.lt_of_lt_of_le hk h.size) fun o he=>?_
 rcases(hgB k o he).2.2 with h1|h1
 ·omega
 exact hmine h1
end
def JM (b:Nat)(raw:List V):List Nat:=(raw.map ky).flatten.filter (fun b'=>b' !=b)
def Oh (s:St)(dst:Option Tmp)(b:Nat)(raw:List V)(r:V)(B':Bk):St:={s.put dst (ua b r)with own:=dY (dB s.own (JM b raw)) b ⟨B',true⟩}
def z5 (c:Option C)(v u:Value):Value:=match c with
 |some _=>.tuple #[v,u]
 |none=>v
def ra (P:Program)(f:FuncId)(args:List V)(n:Nat)(g:Nat→Nat→C)(B:Bk)(c:Option C):Prop:=
 (∀c',c=some c'→mP c')∧gX P f∧B.flat∧∀(ok:Nat→Prop) (w:World) (vs:Array Value),(∀g,ok g→g<w.heap.size)→a6 bg bn ok w args vs.toList→
  Calls P f vs w fun e w'=>∃v u l1 l2,e= .returned (z5 c v u)∧Go.RowKit.Below w.heap.size w w'∧l1.len=n∧l2.len=B.len∧
   (∀g o,l1.addr=some (g,o)→w.heap.size≤g∧g<w'.heap.size)∧(∀g o,l2.addr=some (g,o)→w.heap.size≤g∧g<w'.heap.size)∧(∀g o o',l1.addr=some (g,o)→l2.addr≠some (g,o'))∧
   aL bg bn (fun g=>ok g∨(w.heap.size≤g∧g<w'.heap.size∧∀o,l1.addr≠some (g,o)∧l2.addr≠some (g,o))) w' l2 B∧
   (∀(ρ:Nat→Loc) (dom ok':Nat→Prop) (b b2:Nat),ρ b=l1→ρ b2=l2→dom b→dom b2→(∀g,(ok g∨(w.heap.size≤g∧g<w'.heap.size∧∀o,l1.addr≠some (g,o)∧l2.addr≠some (g,o)))→ok' g)→
    aL ρ dom ok' w' l1 (.wins 0 b2 n (g b2))∧aB ρ dom ok' w' (.win b b2 0 n) v)∧∀c',c=some c'→aB bg bn (fun _=>False) w' c' u
def Ga (c:Option C)(x:C):V:=match c with
 |some c=>.aA [.one x,.one c]
 |none=>.one x
def G8 (raw:List V):List Nat:=(raw.map ky).flatten
def Og (s:St)(dst:Option Tmp)(raw:List V)(n:Nat)(g:Nat→Nat→C)(B:Bk)(c:Option C):St:=
 {s.put dst (Ga c (.win s.nx (s.nx+1) 0 n))with own:=dY (dY (dB s.own (G8 raw)) s.nx ⟨.wins 0 (s.nx+1) n (g (s.nx+1)),true⟩) (s.nx+1) ⟨B,true⟩,nx:=s.nx+2}
def x5 (P:Program)(f:FuncId)(raw:List V)(s:St)(dst:Option Tmp)(K:St→Prop):Prop:=
 (∃b B R,lo s.own b=some ⟨B,true⟩∧B.plain∧Mc P f (raw.map (IP b s.own s.nx)) B R∧∀r B',R r B'→B'.len=B.len→eE K (Oh s dst b raw r B'))∨
 (∃n g B c,ra P f (raw.map (Bv s.own s.nx)) n g B c∧eE K (Og s dst raw n g B c))
theorem Nf {P:Program}{f:FuncId}{s:St}{dst:Option Tmp}{K:St→Prop}{raw:List V}{n:Nat}{g:Nat→Nat→C}{B:Bk}{c0:Option C}(hF:ra P f (raw.map (Bv s.own s.nx)) n g B c0)(hK:K (Og s dst raw n g B c0))(hd:∀d,dst=some d→d<s.n)
  {G:Ctx} {a:Act} {w:World} {ρ:Nat→Loc} (hs:aR G (fun b=>b<s.nx) ρ s a w) {vs:Array Value} (hvs:a6 bg bn (cU G s.own ρ w (G8 raw)) w (raw.map (Bv s.own s.nx)) vs.toList):
  Calls P f vs w fun e w'=>∃v,e= .returned v∧∃s',K s'∧oI G s' (a.put dst v) w':=by
 obtain⟨hsc,hcall,hfl,hF⟩:=hF;have o:Oper:=default
 let ids:=G8 raw
 have hlt:∀g,cU G s.own ρ w ids g→g<w.heap.size:=by
  rintro g (h1|⟨b,_,B,o',hl,ha'⟩)
  ·exact h1.1
  exact((hs.own b B hl).2.2.2 g o' ha').1
 refine Calls.mono (hF _ w _ hlt hvs) fun e w' he=>?_;obtain⟨v,u,l1,l2,rfl,hb,hl1,hl2,hn1,hn2,hdj,hrep,hwin,hu⟩:=he;refine⟨_,rfl,_,hK,?_⟩;have h2:=hs.dB ids
 let Bb:=dY (dY (dB s.own ids) s.nx ⟨.wins 0 (s.nx+1) n (g (s.nx+1)),true⟩) (s.nx+1) ⟨B,true⟩
 let ρ2:=aY (aY ρ s.nx l1) (s.nx+1) l2
 have hr1:ρ2 s.nx=l1:=by show aY _ _ _ _=_;rw[aT _ _ (by omega),lU]
 have hr2:ρ2 (s.nx+1)=l2:=lU ..;have hwh:∀b B3,lo Bb b=some B3→(ρ2 b=l2)∨(ρ2 b=l1)∨(lo (dB s.own ids) b=some B3∧ρ2 b=ρ b):=by
  intro b B3 hl;rw[b5]at hl
  by_cases h1:b=s.nx+1
  ·exact .inl (by rw[h1];exact hr2)
  rw[if_neg h1,b5]at hl
  by_cases h3:b=s.nx
  ·exact .inr (.inl (by rw[h3];exact hr1))
  rw[if_neg h3]at hl;exact .inr (.inr ⟨hl,by show aY _ _ _ _=_;rw[aT _ _ h1,aT _ _ h3]⟩)
 have hok:∀g,(cU G s.own ρ w ids g∨(w.heap.size≤g∧g<w'.heap.size∧∀o,l1.addr≠some (g,o)∧l2.addr≠some (g,o)))→aF G Bb ρ2 w' g:=by
  have step:∀g,g<w'.heap.size→¬G.forb g→(∀o,l1.addr≠some (g,o)∧l2.addr≠some (g,o))→(∀b2 B2,lo (dB s.own ids) b2=some B2→B2.rw=true→∀o2,(ρ b2).addr≠some (g,o2))→aF G Bb ρ2 w' g:=by
   intro g h1 h2 h3 h4;refine⟨h1,h2,fun b2 B2 hl2 hrw o2=>?_⟩
   rcases hwh b2 B2 hl2 with e|e|⟨e1,e⟩<;>rw [e]
   ·exact(h3 o2).2
   ·exact(h3 o2).1
   exact h4 b2 B2 e1 hrw o2
  rintro g ((h3|⟨b,hbi,B2,o',hl,ha'⟩)|⟨h3,h4,h5⟩)
  ·exact step g (Nat.lt_of_lt_of_le h3.1 hb.size) h3.2.1 (fun o=>⟨fun he=>absurd h3.1 (by have:=(hn1 g o he).1;omega),fun he=>absurd h3.1 (by have:=(hn2 g o he).1;omega)⟩) (kn h3).2.2
  ·obtain⟨_,_,_,h4⟩:=hs.own b B2 hl;obtain⟨h5,h6,_⟩:=h4 g o' ha';refine step g (Nat.lt_of_lt_of_le h5 hb.size) h6 (fun o=>⟨fun he=>absurd h5 (by have:=(hn1 g o he).1;omega),fun he=>absurd h5 (by have:=(hn2 g o he).1;omega)⟩) fun b2 B3 hl2 hrw o2 ha2=>?_;rw[fp]at hl2
   cases hl3:lo s.own b2 with
   |none=>rw[hl3]at hl2;simp at hl2
   |some B4=>
    rw[hl3]at hl2;simp only[Option.map_some,Option.some.injEq]at hl2
    by_cases hm:ids.contains b2=true
    ·rw[if_pos hm]at hl2;subst hl2;simp at hrw
    rw[if_neg hm]at hl2;subst hl2
    by_cases hbb:b2=b
    ·subst hbb;exact hm (by simpa using hbi)
    exact hs.inj b2 B4 b B2 hl3 hl hbb hrw g o2 o' ha2 ha'
  refine step g h4 (fun hf=>absurd (hs.wf _ hf) (by have:=hs.size;omega)) h5 fun b2 B2 hl2 _ o2 ha2=>?_;rw[fp]at hl2
  cases hl3:lo s.own b2 with
  |none=>rw[hl3]at hl2;simp at hl2
  |some B3=>exact absurd ((hs.own b2 B3 hl3).2.2.2 g o2 ha2).1 (by omega)
 let dom2:Nat→Prop:=fun b=>(b<s.nx∨b=s.nx)∨b=s.nx+1
 obtain⟨hw1,hw2⟩:=hwin ρ2 dom2 (aF G Bb ρ2 w') s.nx (s.nx+1) hr1 hr2 (.inl (.inr rfl)) (.inr rfl) hok;have h3:=h2.JU hb (i:=s.nx) (j:=s.nx+1) (Nat.lt_irrefl _) (by omega) (by omega) (.wins 0 (s.nx+1) n (g (s.nx+1))) B l1 l2 hl1 hl2 hn1 hn2 hdj hw1
  (aL.ext (dom:=bn) (ρ:=bg) (Ext.dx hok) ⟨fun b hb=>hb.elim,fun b hb=>hb.elim⟩ _ _ (fun _ _ _=>rfl) hrep)
 have hcu:bZ ρ2 dom2 (aF G Bb ρ2 w') w' (Ga c0 (.win s.nx (s.nx+1) 0 n)) (z5 c0 v u):=by
  cases c0 with
  |none=>exact hw2
  |some c=>
   have h1:=hsc c rfl;have h2:=hu c rfl
   exact⟨_,rfl,hw2,(by cases c<;>first|exact h1.elim|exact h2),trivial⟩
 have h4:=h3.put (dst:=dst) (x:=Ga c0 (.win s.nx (s.nx+1) 0 n)) (v:=z5 c0 v u) hd hcu;refine⟨ρ2,?_⟩;have e2:aR G dom2 ρ2 (Og s dst raw n g B c0) (a.put dst (z5 c0 v u)) w':=by
  obtain⟨q1,q2,q3,q4,q5,q6,q7,q8,q9,q10,q11,q12,q13⟩:=h4
  cases dst
  ·exact⟨q1,q2,q3,q4,q5,q6,q7,q8,q9,q10,q11,q12,q13⟩
  exact⟨q1,q2,q3,q4,q5,q6,q7,q8,q9,q10,q11,q12,q13⟩
 have e3:dom2=fun b=>b<(Og s dst raw n g B c0).nx:=by
  funext b
  show((b<s.nx∨b=s.nx)∨b=s.nx+1)=(b<s.nx+2)
  exact propext ⟨fun h=>by omega,fun h=>by omega⟩
 rw[e3]at e2;exact e2
def om (P:Program)(op:Op)(dst:Option Tmp)(s:St)(K:St→Prop):Prop:=
 match op with
 |.call c=>match c.callee with
  |.value g=>match s.ev g with
   |.one (.fn f n _)=>n=0∧x5 P f (c.args.toList.map s.ev) s dst K
   |_=>False
  |_=>False
 |_=>False
theorem FK {P:Program}{o:Oper}{s:St}{K:St→Prop}(hd:bT o s.n)(h:om P o.op o.dst s K):mv P o s K:=by
 unfold om at h
 split at h
 ·rename_i c ho
  split at h
  ·rename_i g hc
   split at h
   ·rename_i f n caps hg
    obtain⟨rfl,h⟩:=h;intro G a w hsim Q next hk;obtain⟨ρ,hs⟩:=hsim;have hgv:=hs.ev g;rw[hg]at hgv;obtain⟨cs,hgv,hcs,_⟩:=hgv;obtain rfl:cs= #[]:=Array.eq_empty_of_size_eq_zero hcs;have hrun:gX P f→(execOp a.eval o).run P w= .ok (.enter f (c.args.map a.eval)) w:=by
     intro hcall;unfold execOp;rw[ho];simp only[resolve,hc,Sem.run_bind,hgv,Deferred.ofValue,Sem.run_pure,Result.andThen_ok,invoke]
     have:=lN (w:=w) hcall (c.args.map a.eval)
     simpa using this
    rcases h with⟨b,B,R,hl,hpl,⟨hcall,hmut⟩,hK⟩|⟨n0,g0,B,c0,hF,hK⟩
    rotate_left
    ·unfold Oper.wp;rw[hrun hF.2.1,Oper.upon_enter];refine Calls.mono (Nf hF hK (dst:=o.dst) hd hs (vs:=c.args.map a.eval) ?_) fun e w' he=>?_
     ·rw[Array.toList_map]
      have:=a6.mA (ρ:=bg) (dom:=bn) (ok:=cU G s.own ρ w (G8 (c.args.toList.map s.ev))) (w:=w) (fun x=>Bv s.own s.nx (s.ev x)) a.eval c.args.toList fun x hx=>
       nO hs (iX.refl s s.nx o) _ _ _ (fun b' hb' _=>List.mem_flatten.2 ⟨_,List.mem_map.2 ⟨s.ev x,List.mem_map.2 ⟨x,hx,rfl⟩,rfl⟩,hb'⟩) (hs.ev x)
      simpa[List.map_map,Function.comp_def]using this
     obtain⟨v,rfl,s',h1,h2⟩:=he;exact hk _ _ _ h1 h2
    unfold Oper.wp;rw[hrun hcall,Oper.upon_enter]
    let raw:=c.args.toList.map s.ev
    let ids:=JM b raw
    have hids:b∉ids:=by simp[ids,JM]
    obtain⟨hdb,hlB,hrB,hgB⟩:=hs.own b _ hl;have hlt:∀g,cU G s.own ρ w ids g→g<w.heap.size:=by
     rintro g (h1|⟨b,_,B,o',hl,ha'⟩)
     ·exact h1.1
     exact((hs.own b B hl).2.2.2 g o' ha').1
    have hnot:∀g o1,(ρ b).addr=some (g,o1)→g<w.heap.size∧¬cU G s.own ρ w ids g:=by
     intro g o1 ha;refine⟨(hgB g o1 ha).1,?_⟩
     rintro(h1|⟨b1,hb1,B1,o',hl1,ha'⟩)
     ·exact h1.2.2 b _ hl rfl o1 ha
     exact hs.inj b _ b1 B1 hl hl1 (fun e=>hids (e▸hb1)) rfl g o1 o' ha ha'
    have hargs:a6 (fun _=>ρ b) (fun i=>i=0) (cU G s.own ρ w ids) w (raw.map (IP b s.own s.nx)) (c.args.map a.eval).toList:=by
     rw[Array.toList_map]
     have:=a6.mA (ρ:=fun _=>ρ b) (dom:=fun i=>i=0) (ok:=cU G s.own ρ w ids) (w:=w) (fun x=>IP b s.own s.nx (s.ev x)) a.eval c.args.toList fun x hx=>by
      refine u6 hs b ids _ _ (fun b' hb' hne=>?_) (hs.ev x);refine List.mem_filter.2 ⟨List.mem_flatten.2 ⟨_,List.mem_map.2 ⟨s.ev x,List.mem_map.2 ⟨x,hx,rfl⟩,rfl⟩,hb'⟩,by simpa using hne⟩
     simpa[raw,List.map_map,Function.comp_def]using this
    have hrB':aL bg bn (cU G s.own ρ w ids) w (ρ b) B:=hrB.gC hpl fun g hg=>.inl hg;refine Calls.mono (hmut _ w _ (ρ b) hlt hlB hnot hrB' hargs) fun e w' he=>?_;obtain⟨v,r,B',rfl,hR,hp',hlen',hm,hrep,hval⟩:=he;obtain⟨hsim',hok⟩:=hs.N2 hl hids hm hp' hlen' hrep;refine hk _ _ _ (hK r B' hR hlen') ⟨ρ,?_⟩;have hv2:bZ ρ (fun i=>i<s.nx) (aF G (dY (dB s.own ids) b ⟨B',true⟩) ρ w') w' (ua b r) v:=zQ (dom:=fun i=>i<s.nx) hdb hok hval;have h4:=hsim'.put (dst:=o.dst) (x:=ua b r) (v:=v) hd hv2;have e2:Oh s o.dst b raw r B'=St.put {s with own:=dY (dB s.own ids) b ⟨B',true⟩} o.dst (ua b r):=by
     unfold Oh St.put
     cases o.dst<;>rfl
    show aR G _ _ (Oh s o.dst b raw r B') _ w';rw[e2]
    have hnx:(St.put {s with own:=dY (dB s.own ids) b ⟨B',true⟩} o.dst (ua b r)).nx=s.nx:=by cases o.dst<;>rfl
    rw[hnx];exact h4
   exact h.elim
  exact h.elim
 exact h.elim
end Go.Eng
/-
  THE ENGINE, PART Q: a statement whose order is open: whatever order the machine takes, it comes to what the text's order comes to.
-/
namespace Go.Eng
open Go
structure yI (s s':St):Prop where
 env:∀t,lk s.env t=lk s'.env t
 own:∀b,lo s.own b=lo s'.own b
 n:s.n=s'.n
theorem yI.refl (s:St):yI s s:=⟨fun _=>rfl,fun _=>rfl,rfl⟩
theorem yI.trans {a b c:St}(h:yI a b)(k:yI b c):yI a c:=⟨fun t=>(h.env t).trans (k.env t),fun t=>(h.own t).trans (k.own t),h.n.trans k.n⟩
theorem yI.symm {a b:St}(h:yI a b):yI b a:=⟨fun t=>(h.env t).symm,fun t=>(h.own t).symm,h.n.symm⟩
theorem aR.Fu {G:Ctx}{dom:Nat→Prop}{ρ:Nat→Loc}{s s':St}{a:Act}{w:World}(h:aR G dom ρ s a w)(hs:yI s s'):aR G dom ρ s' a w:=by
 have hok:aF G s'.own ρ w=aF G s.own ρ w:=by
  funext g
  unfold aF;simp only[hs.own]
 exact{
     hd:=h.hd,hn:=h.hn.trans hs.n,env:=fun t=>by rw[hok,←hs.env t];exact h.env t,own:=fun b B hl=>by rw[hok];exact h.own b B (by rw[hs.own];exact hl),
     inj:=fun b B b' B' hl hl'=>h.inj b B b' B' (by rw[hs.own];exact hl) (by rw[hs.own];exact hl'),os:=h.os,tape:=h.tape,output:=h.output,size:=h.size,keep:=h.keep,wf:=h.wf,home:=h.home,room:=h.room}
theorem CB (s:St)(dst:Option Tmp)(v:V)(t:Nat):lk (s.put dst v).env t=if dst=some t then v else lk s.env t:=by
 cases dst with
 |none=>simp[St.put]
 |some d=>
  simp only[St.put,CY,Option.some.injEq]
  by_cases h:t=d
  ·subst h;simp
  rw[if_neg h,if_neg (fun e=>h e.symm)]
theorem j5 (s:St)(dst:Option Tmp)(id:Nat)(e:eG)(t:Nat):lk (s.add dst id e).env t=if dst=some t then e.val else lk s.env t:=by
 have:(s.add dst id e).env=(s.put dst e.val).env:=by unfold St.add;split<;>rfl
 rw[this,CB]
def fY (fz:List Nat)(b:Nat)(v:ft):ft:=if fz.contains b then⟨v.bk,false⟩else v
theorem oX (s:St)(dst:Option Tmp)(id:Nat)(e:eG)(b:Nat):lo (s.add dst id e).own b=(match e.vN with
  |some B=>if b=id then some ⟨B,true⟩else(lo s.own b).map (fY e.fz b)
  |none=>(lo s.own b).map (fY e.fz b)):=by
 unfold St.add
 cases e.vN with
 |none=>simp only[xU];rw[fp];rfl
 |some B=>simp only[xU,b5];split<;>first|rfl|(rw[fp];rfl)
theorem CR (s:St)(dst:Option Tmp)(id:Nat)(e:eG):(s.add dst id e).n=s.n:=by
 unfold St.add;split<;>(cases dst<;>rfl)
theorem yI.add {s s':St}(h:yI s s')(dst:Option Tmp)(id:Nat)(e:eG):yI (s.add dst id e) (s'.add dst id e):=
 ⟨fun t=>by rw[j5,j5,h.env],fun b=>by rw[oX,oX,h.own],by rw[CR,CR,h.n]⟩
theorem DP (s:St){d1 d2:Option Tmp}{i1 i2:Nat}{e1 e2:eG}(hd:∀t,d1=some t→d2≠some t)(hi:i1≠i2)(h1:∀b∈e1.fz,b≠i2)(h2:∀b∈e2.fz,b≠i1):
  yI ((s.add d1 i1 e1).add d2 i2 e2) ((s.add d2 i2 e2).add d1 i1 e1):=by
 refine⟨fun t=>?_,fun b=>?_,by simp only[CR]⟩
 ·simp only[j5]
  by_cases h:d1=some t
  ·rw[if_pos h,if_neg (hd t h),if_pos h]
  rw[if_neg h,if_neg h]
 simp only[oX];have hc:∀(v:ft),fY e2.fz b (fY e1.fz b v)=fY e1.fz b (fY e2.fz b v):=fun v=>by
  unfold fY;split<;>split<;>rfl
 have hcc:(lo s.own b).map (fY e2.fz b∘fY e1.fz b)=(lo s.own b).map (fY e1.fz b∘fY e2.fz b):=by
  congr 1;funext v;exact hc v
 have n1:b=i2→∀B:Bk,(some (⟨B,true⟩:ft)).map (fY e1.fz b)=some ⟨B,true⟩:=fun hb B=>by
  subst hb;simp only[Option.map_some,fY];rw[if_neg (fun hc=>h1 b (by simpa using hc) rfl)]
 have n2:b=i1→∀B:Bk,(some (⟨B,true⟩:ft)).map (fY e2.fz b)=some ⟨B,true⟩:=fun hb B=>by
  subst hb;simp only[Option.map_some,fY];rw[if_neg (fun hc=>h2 b (by simpa using hc) rfl)]
 cases e1.vN with
 |none=>
  cases e2.vN with
  |none=>simp only[Option.map_map];exact hcc
  |some B2=>
   simp only
   by_cases hb:b=i2
   ·rw[if_pos hb,if_pos hb,n1 hb]
   rw[if_neg hb,if_neg hb];simp only[Option.map_map];exact hcc
 |some B1=>
  cases e2.vN with
  |none=>
   simp only
   by_cases hb:b=i1
   ·rw[if_pos hb,if_pos hb,n2 hb]
   rw[if_neg hb,if_neg hb];simp only[Option.map_map];exact hcc
  |some B2=>
   simp only
   by_cases hb:b=i1
   ·rw[if_pos hb,if_neg (fun e=>hi (hb.symm.trans e)),if_pos hb,n2 hb]
   by_cases hb2:b=i2
   ·rw[if_pos hb2,if_neg hb,if_pos hb2,n1 hb2]
   rw[if_neg hb2,if_neg hb,if_neg hb,if_neg hb2];simp only[Option.map_map];exact hcc
def eG.skip:eG:=⟨.aA [],none,[]⟩
def gv:V→Option (Option Bool)
 |.one (.bool b)=>some (some b)
 |.aA []=>some none
 |_=>none
def kX (P:Program)(ops:Array Oper)(nx0 i:Nat)(o:Oper)(s:St)(e:eG):Prop:=
 bT o s.n∧match o.guard with
 |none=>a7 P o s nx0 (nx0+i) e
 |some (g,want)=>∃t b,(ops[g]?).bind (·.dst)=some t∧gv (lk s.env t)=some b∧(if b=some want then a7 P o s nx0 (nx0+i) e else e=eG.skip)
def br (ops:Array Oper)(k:Nat):Option Tmp:=(ops[k]?).bind (·.dst)
def aK (σ:St)(nx0:Nat)(ops:Array Oper)(e:Nat→eG)(L:Nat→Bool):Nat→St
 |0=>σ
 |k+1=>if L k then(aK σ nx0 ops e L k).add (br ops k) (nx0+k) (e k)else aK σ nx0 ops e L k
section
variable {σ:St}{nx0:Nat}{ops:Array Oper}{e:Nat→eG}
theorem fI (L:Nat→Bool)(k:Nat):(aK σ nx0 ops e L k).n=σ.n:=by
 induction k with
 |zero=>rfl
 |succ k ih=>simp only[aK];split<;>simp only[CR,ih]
theorem cO {L L':Nat→Bool}(k:Nat)(h:∀j,j<k→L j=L' j):aK σ nx0 ops e L k=aK σ nx0 ops e L' k:=by
 induction k with
 |zero=>rfl
 |succ k ih=>simp only[aK,h k (Nat.lt_succ_self k),ih (fun j hj=>h j (Nat.lt_succ_of_lt hj))]
theorem nN {N:Nat}{L:Nat→Bool}{i:Nat}(hi:L i=false)(hdst:∀j k t,j<N→k<N→j≠k→br ops j=some t→br ops k=some t→False)(hfz:∀j,∀b∈(e j).fz,b<nx0):
  ∀k,k≤N→i<k→yI (aK σ nx0 ops e (fun j=>L j||j==i) k) ((aK σ nx0 ops e L k).add (br ops i) (nx0+i) (e i)):=by
 intro k
 induction k with
 |zero=>intro _ h;omega
 |succ k ih=>
  intro hkN hik
  by_cases hk:i=k
  ·subst hk;simp only[aK,beq_self_eq_true,Bool.or_true,if_true,hi,Bool.false_eq_true,if_false]
   rw[cO (L:=fun j=>L j||j==i) (L':=L) i (fun j hj=>by simp;omega)]
   exact yI.refl _
  have ih':=ih (by omega) (by omega);have hne:(k==i)=false:=by simp;omega
  simp only[aK,hne,Bool.or_false]
  by_cases hL:L k=true
  ·simp only[hL,if_true];exact(ih'.add _ _ _).trans (DP _ (fun t h1 h2=>hdst i k t (by omega) (by omega) hk h1 h2) (by omega) (fun b hb h=>by have:=hfz i b hb;omega) (fun b hb h=>by have:=hfz k b hb;omega))
  simp only[hL,Bool.false_eq_true,if_false];exact ih'
theorem ob (L:Nat→Bool)(t:Nat):∀k,(∀j,j<k→br ops j≠some t)→lk (aK σ nx0 ops e L k).env t=lk σ.env t:=by
 intro k
 induction k with
 |zero=>intro _;rfl
 |succ k ih=>
  intro h;simp only[aK]
  split
  ·rw[j5,if_neg (h k (Nat.lt_succ_self k))];exact ih (fun j hj=>h j (Nat.lt_succ_of_lt hj))
  exact ih (fun j hj=>h j (Nat.lt_succ_of_lt hj))
theorem dz {N:Nat}(L:Nat→Bool){t j:Nat}(hj:br ops j=some t)(hL:L j=true)(hdst:∀j k t,j<N→k<N→j≠k→br ops j=some t→br ops k=some t→False):
  ∀k,k≤N→j<k→lk (aK σ nx0 ops e L k).env t=(e j).val:=by
 intro k
 induction k with
 |zero=>intro _ h;omega
 |succ k ih=>
  intro hkN h;simp only[aK]
  by_cases hjk:j=k
  ·subst hjk;rw[if_pos hL,j5];exact if_pos hj
  have ih':=ih (by omega) (by omega)
  split
  ·rw[j5,if_neg (fun h2=>hdst j k t (by omega) (by omega) hjk hj h2)];exact ih'
  exact ih'
theorem iZ (L:Nat→Bool):∀k b,b<nx0→(lo (aK σ nx0 ops e L k).own b).map (·.bk)=(lo σ.own b).map (·.bk):=by
 intro k
 induction k with
 |zero=>intro b _;rfl
 |succ k ih=>
  intro b hb;simp only[aK]
  split
  ·rw[oX];have hm:((lo (aK σ nx0 ops e L k).own b).map (fY (e k).fz b)).map (·.bk)=(lo σ.own b).map (·.bk):=by
    rw[←ih b hb,Option.map_map]
    congr 1
    funext v
    simp only[Function.comp,fY]
    split<;>rfl
   cases(e k).vN with
   |none=>exact hm
   |some B=>simp only;rw[if_neg (by omega)];exact hm
  exact ih b hb
end
def HA (P:Program)(ops:Array Oper)(o:Oper)(s:St)(K:St→Prop):Prop:=
 match o.guard with
 |none=>mv P o s K
 |some (g,want)=>∃t b,br ops g=some t∧gv (lk s.env t)=some b∧(b=some want→mv P o s K)∧(b≠some want→K (s.put o.dst (.aA [])))
def uU (P:Program)(ops:Array Oper):List Oper→St→(St→Prop)→Prop
 |[],s,K=>K s
 |o::os,s,K=>bT o s.n∧HA P ops o s (fun s'=>uU P ops os s' K)
theorem ET {a:Array Value}{t:Nat}{b:Bool}(h:a.getD t undef= .bool b):a[t]? =some (.bool b):=by
 rw[Array.getD_eq_getD_getElem?]at h
 cases ha:a[t]? with
 |none=>rw[ha]at h;cases h
 |some v=>rw[ha]at h;simpa using h
theorem nr {G:Ctx}{dom:Nat→Prop}{ρ:Nat→Loc}{s:St}{a:Act}{w:World}(hs:aR G dom ρ s a w){ops:Array Oper}{o:Oper}{g:Nat}{want:Bool}{b:Option Bool}{t:Nat}(hg:o.guard=some (g,want))(ht:br ops g=some t)
  (hb:gv (lk s.env t)=some b):Region.wanted o (yielded ops a.tmps)=(b==some want):=by
 have hev:=hs.env t;have hd:(ops[g]?).bind (·.dst)=some t:=ht;have hy:yielded ops a.tmps g=b:=by
  unfold gv at hb
  split at hb
  ·rename_i b' he
   obtain rfl:=Option.some.inj hb;rw[he]at hev;have hev:a.tmps.getD t undef= .bool b':=hev;unfold yielded;simp only[hd,Option.bind_some,ET hev]
  ·rename_i he
   obtain rfl:=Option.some.inj hb;rw[he]at hev;obtain⟨vs,hv,_⟩:=hev;unfold yielded;simp only[hd,Option.bind_some]
   cases ha:a.tmps[t]? with
   |none=>rfl
   |some v=>
    rw[Array.getD_eq_getD_getElem?,ha]at hv;simp only[Option.getD_some]at hv;rw[hv]
  cases hb
 unfold Region.wanted;simp only[hg,hy]
theorem ig {o:Oper}{y:Nat→Option Bool}(hg:o.guard=none):Region.wanted o y=true:=by unfold Region.wanted;rw[hg]
theorem HA.step {P:Program}{ops:Array Oper}{i:Nat}{o:Oper}(ho:ops[i]? =some o){s:St}{K:St→Prop}(h:HA P ops o s K)(hd:bT o s.n){G:Ctx}{a:Act}{w:World}(hs:oI G s a w){Q:Exit→Act→World→Prop}{next:Act→World→Prop}
  (hk:∀s' a' w',K s'→oI G s' a' w'→next a' w'):wpOp P ops Q i next a w:=by
 unfold wpOp;simp only[ho];unfold HA at h
 split at h
 ·rename_i hg
  rw[ig hg,if_pos rfl];exact .inl (h G a w hs Q next hk)
 rename_i g want hg
 obtain⟨t,b,ht,hb,h1,h2⟩:=h;obtain⟨ρ,hr⟩:=hs;rw[nr hr hg ht hb]
 by_cases hbw:b=some want
 ·rw[if_pos (by simp[hbw])];exact .inl (h1 hbw G a w ⟨ρ,hr⟩ Q next hk)
 rw[if_neg (by simpa using hbw)]
 have:=hr.put (dst:=o.dst) (x:=.aA []) (v:=undef) hd ⟨#[],rfl,trivial⟩
 refine hk _ _ _ (h2 hbw) ⟨ρ,?_⟩
 cases hdst:o.dst with
 |none=>rw[hdst]at this;exact this
 |some d=>rw[hdst]at this;exact this
theorem a7.Pu {P:Program}{o:Oper}{s:St}{e:eG}{K:St→Prop}(h:a7 P o s s.nx s.nx e)(hK:K {s.add o.dst s.nx e with nx:=s.nx+1}):mv P o s K:=by
 intro G a w hsim Q next hk;obtain⟨ρ,hs⟩:=hsim;refine h.1 G (fun b=>b<s.nx) ρ s a w hs (Nat.lt_irrefl _) (iX.refl _ _ _) Q next fun v w' hs'=>?_;refine hk _ _ _ hK ?_;obtain⟨ρ',h1⟩:=hs'
 have h2:=h1.cR (dom':=fun b=>b<s.nx+1) (fun b hb=>by rcases hb with hb|hb<;>omega)
 exact⟨ρ',h2.Fu ⟨fun _=>rfl,fun _=>rfl,rfl⟩⟩
def da (ops:Array Oper)(i:Nat):List Nat:=
 match ops[i]? with
 |some o=>(o.after.toList.filter (Region.binds .any)).map (·.on)
 |none=>[]
def eR (ops:Array Oper):Nat→Nat→Nat→Bool
 |0,_,_=>false
 |n+1,i,j=>(da ops i).contains j||(da ops i).any (fun p=>eR ops n p j)
def tmpsOf (o:Oper):List Tmp:=o.op.operands.toList.filterMap fun|.tmp t=>some t|_=>none
def mZ (ops:Array Oper)(nR i:Nat)(o:Oper):Bool:=
 ((tmpsOf o).all fun t=>(List.range nR).all fun j=>br ops j !=some t||(decide (j<i)&&(da ops i).contains j))&&
 (
  match o.guard with
  |none=>true
  |some (g,_)=>decide (g<i)&&(da ops i).contains g)&&
 ((List.range nR).all fun j=>j==i||(br ops j).isNone||br ops j !=br ops i)
def tx (ops:Array Oper)(nR:Nat):Bool:=
 decide (nR≤ops.size)&&
 (List.range ops.size).all fun i=>match ops[i]? with
  |none=>false
  |some o=>((da ops i).all fun p=>decide (p<i))&&
   (if i<nR then mZ ops nR i o else(List.range i).all fun j=>eR ops ops.size i j)
structure x9 (ops:Array Oper) (nR:Nat):Prop where
 le:nR≤ops.size
 pred:∀i o,ops[i]? =some o→∀p∈da ops i,p<i
 data:∀i o,ops[i]? =some o→i<nR→∀t,t∈tmpsOf o→∀j,j<nR→br ops j=some t→j<i∧j∈da ops i
 guard:∀i o g want,ops[i]? =some o→i<nR→o.guard=some (g,want)→g<i∧g∈da ops i
 dst:∀j k t,j<nR→k<nR→j≠k→br ops j=some t→br ops k=some t→False
 clos:∀i,i<ops.size→nR≤i→∀j,j<i→eR ops ops.size i j=true
theorem zO {ops:Array Oper}{nR:Nat}(h:tx ops nR=true):x9 ops nR:=by
 unfold tx at h;simp only[Bool.and_eq_true,decide_eq_true_eq,List.all_eq_true,List.mem_range]at h;obtain⟨hle,h⟩:=h;have hi:∀i o,ops[i]? =some o→((da ops i).all fun p=>decide (p<i))=true∧(if i<nR then mZ ops nR i o else(List.range i).all fun j=>eR ops ops.size i j)=true:=by
  intro i o ho
  have:=h i (Array.getElem?_eq_some_iff.1 ho).1
  rw[ho]at this
  simpa using this
 have hR:∀i o,ops[i]? =some o→i<nR→mZ ops nR i o=true:=fun i o ho hlt=>by
  have:=(hi i o ho).2
  rw[if_pos hlt]at this;exact this
 refine⟨hle,fun i o ho p hp=>?_,fun i o ho hlt t ht j hj hd=>?_,fun i o g want ho hlt hg=>?_,fun j k t hj hk hjk h1 h2=>?_,fun i hi' hge j hj=>?_⟩
 ·have:=List.all_eq_true.1 (hi i o ho).1 p hp
  simpa using this
 ·have:=hR i o ho hlt
  unfold mZ at this;simp only[Bool.and_eq_true,List.all_eq_true,List.mem_range]at this
  have:=this.1.1 t ht j hj
  rw[hd]at this;simp at this;exact this
 ·have:=hR i o ho hlt
  unfold mZ at this;simp only[Bool.and_eq_true]at this
  have:=this.1.2
  rw[hg]at this
  simpa using this
 ·have hkk:k<ops.size:=by omega
  have:=hR k ops[k] (Array.getElem?_eq_getElem hkk) hk
  unfold mZ at this;simp only[Bool.and_eq_true,List.all_eq_true,List.mem_range]at this
  have:=this.2 j hj
  rw[h1,h2]at this;simp at this;exact hjk this
 have:=(hi i ops[i] (Array.getElem?_eq_getElem hi')).2
 rw[if_neg (by omega)]at this;exact List.all_eq_true.1 this j (by simpa using hj)
end Go.Eng
/-
  THE ENGINE, PART R: a statement whose order is open, put together.
-/
namespace Go.Eng
open Go
section
variable {P:Program}{ops:Array Oper}{nR:Nat}
theorem aV {listed:Array Bool}{i j:Nat}(hi:i<listed.size):(listed.setIfInBounds i true).getD j false=(listed.getD j false||j==i):=by
 by_cases h:i=j
 ·subst h
  simp[Array.getD,hi]
 rw[getD_set_ne false h]
 simp;intro e;exact absurd e.symm h
theorem fB {listed:Array Bool}(hdown:∀i,listed.getD i false=true→∀p∈da ops i,listed.getD p false=true):∀n i j,(∀p∈da ops i,listed.getD p false=true)→eR ops n i j=true→listed.getD j false=true:=by
 intro n
 induction n with
 |zero=>intro i j _ h;simp[eR]at h
 |succ n ih=>
  intro i j hp h;simp only[eR,Bool.or_eq_true,List.any_eq_true]at h
  rcases h with h|⟨p,hpm,h⟩
  ·exact hp j (by simpa using h)
  exact ih p j (hdown p (hp p hpm)) h
theorem ij {listed:Array Bool}{i:Nat}(h:i∈Region.ready .any ops listed):(∀p∈da ops i,listed.getD p false=true)∧i<ops.size∧listed.getD i true=false:=by
 obtain⟨h0,o,ho,hall⟩:=mem_ready.1 h;refine⟨fun p hp=>?_,(Array.getElem?_eq_some_iff.1 ho).1,h0⟩;unfold da at hp;rw[ho]at hp;obtain⟨e,he,rfl⟩:=List.mem_map.1 hp;obtain⟨he1,he2⟩:=List.mem_filter.1 he;exact hall e (by simpa using he1) he2
theorem mC {listed:Array Bool}{i:Nat}{o:Oper}(ho:ops[i]? =some o)(hu:listed.getD i true=false)(h:∀p∈da ops i,listed.getD p false=true):i∈Region.ready .any ops listed:=by
 refine mem_ready.2 ⟨hu,o,ho,fun e he hb=>h e.on ?_⟩;unfold da;rw[ho];exact List.mem_map.2 ⟨e,List.mem_filter.2 ⟨by simpa using he,hb⟩,rfl⟩
def iF (ops:Array Oper)(listed:Array Bool):Nat:=(List.range ops.size).countP (fun i=>!listed.getD i false)
theorem ox {listed:Array Bool}{i:Nat}(hsz:listed.size=ops.size)(hi:i<ops.size)(hu:listed.getD i true=false):iF ops (listed.setIfInBounds i true)+1=iF ops listed:=by
 unfold iF;have hf:listed.getD i false=false:=by
  have hlt:i<listed.size:=by omega
  simp[Array.getD,hlt]at hu⊢
  exact hu
 have key:∀l:List Nat,l.Nodup→(l.countP (fun j=>!(listed.setIfInBounds i true).getD j false))+(if i∈l then 1 else 0)=l.countP (fun j=>!listed.getD j false):=by
  intro l
  induction l with
  |nil=>intro _;simp
  |cons x l ih=>
   intro hnd;obtain⟨hx,hnd⟩:=List.nodup_cons.1 hnd;have ih':=ih hnd;simp only[List.countP_cons,aV (by omega:i<listed.size)]
   by_cases hxi:x=i
   ·subst hxi;rw[if_neg hx]at ih';simp only[hf,beq_self_eq_true,Bool.or_true,Bool.not_true,Bool.false_eq_true,if_false,Bool.not_false,if_true,List.mem_cons,true_or];simp only[aV (by omega:x<listed.size)]at ih';omega
   have hne:(x==i)=false:=by simpa using hxi
   have hmem:(i∈x::l)↔i∈l:=by simp[List.mem_cons];intro e;exact absurd e.symm hxi
   simp only[hne,Bool.or_false];simp only[hmem];simp only[aV (by omega:i<listed.size)]at ih';omega
 have:=key (List.range ops.size) List.nodup_range
 rw[if_pos (by simpa using hi)]at this;exact this
theorem rA {listed:Array Bool}(h:iF ops listed=0):∀i,i<ops.size→listed.getD i false=true:=by
 intro i hi;unfold iF at h;rw[List.countP_eq_zero]at h
 have:=h i (by simpa using hi)
 simpa using this
variable {σ:St}{es:Nat→eG}{K:St→Prop}
structure Dz (P:Program) (G:Ctx) (ops:Array Oper) (nR:Nat) (σ:St) (es:Nat→eG) (K:St→Prop) (listed:Array Bool) (a:Act) (w:World):Prop where
 size:listed.size=ops.size
 down:∀i,listed.getD i false=true→∀p∈da ops i,listed.getD p false=true
 where_:((∀i,listed.getD i false=true→i<nR)∧uO G (fun b=>b<σ.nx∨∃j,j<nR∧listed.getD j false=true∧b=σ.nx+j) (aK σ σ.nx ops es (fun j=>listed.getD j false) nR) a w)∨
  (∃k,nR≤k∧k≤ops.size∧(∀i,i<ops.size→(listed.getD i false=true↔i<k))∧∃s,uU P ops (ops.toList.drop k) s K∧oI G s a w)
theorem Dz.later (hck:x9 ops nR)(hW:uU P ops (ops.toList.drop nR) {aK σ σ.nx ops es (fun _=>true) nR with nx:=σ.nx+ops.size} K)
  {G:Ctx} {listed:Array Bool} {a:Act} {w:World} (h:Dz P G ops nR σ es K listed a w) (hall:∀j,j<nR→listed.getD j false=true):
  ∃k,nR≤k∧k≤ops.size∧(∀i,i<ops.size→(listed.getD i false=true↔i<k))∧∃s,uU P ops (ops.toList.drop k) s K∧oI G s a w:=by
 rcases h.where_ with⟨hlt,ρ,hsim⟩|hk
 ·refine⟨nR,Nat.le_refl _,hck.le,fun i _=>⟨hlt i,hall i⟩,_,hW,ρ,?_⟩;rw[cO (L:=fun j=>listed.getD j false) (L':=fun _=>true) nR (fun j hj=>hall j hj)]at hsim;have h2:=hsim.cR (dom':=fun b=>b<σ.nx+ops.size) (fun b hb=>by
   have:=hck.le
   rcases hb with hb|⟨j,hj,_,rfl⟩<;>omega)
  exact h2.Fu ⟨fun _=>rfl,fun _=>rfl,rfl⟩
 exact hk
theorem ND (hck:x9 ops nR){i:Nat}{o:Oper}(ho:ops[i]? =some o)(hi:i<nR){listed:Array Bool}(hp:∀p∈da ops i,listed.getD p false=true):
  iX (aK σ σ.nx ops es (fun _=>true) i) (aK σ σ.nx ops es (fun j=>listed.getD j false) nR) σ.nx o:=by
 refine⟨by rw[fI,fI],fun x hx=>?_,fun b hb=>by rw[iZ _ nR b hb,iZ _ i b hb]⟩
 cases x with
 |tmp t=>
  have htm:t∈tmpsOf o:=List.mem_filterMap.2 ⟨.tmp t,by simpa using hx,rfl⟩;show lk _ t=lk _ t
  by_cases hex:∃j,j<nR∧br ops j=some t
  ·obtain⟨j,hj,hd⟩:=hex;obtain⟨hji,hjp⟩:=hck.data i o ho hi t htm j hj hd;rw[dz (N:=nR) (fun j=>listed.getD j false) hd (hp j hjp) hck.dst nR (Nat.le_refl _) hj,dz (N:=nR) (fun _=>true) hd rfl hck.dst i (by omega) hji]
  rw[ob _ t nR (fun j hj h=>hex ⟨j,hj,h⟩),ob _ t i (fun j hj h=>hex ⟨j,by omega,h⟩)]
 |const v=>rfl
 |global g=>rfl
 |func f=>rfl
theorem zd (hck:x9 ops nR)(hfz:∀j,∀b∈(es j).fz,b<σ.nx)
  (hstep:∀(i:Nat) o,i<nR→ops[i]? =some o→kX P ops σ.nx i o (aK σ σ.nx ops es (fun _=>true) i) (es i))
  (hW:uU P ops (ops.toList.drop nR) {aK σ σ.nx ops es (fun _=>true) nR with nx:=σ.nx+ops.size} K)
  {G:Ctx} {Q:Exit→Act→World→Prop} (hQ:∀s a w,K s→oI G s a w→Q .normal a w):
  ∀(fuel:Nat) (listed:Array Bool) (a:Act) (w:World),Dz P G ops nR σ es K listed a w→iF ops listed≤fuel→wpAny P .any ops Q fuel listed a w:=by
 intro fuel
 induction fuel with
 |zero=>
  intro listed a w h hf;have hall:=rA (Nat.le_zero.1 hf);refine⟨?_,?_⟩
  ·cases hr:Region.ready .any ops listed with
   |nil=>rfl
   |cons i l=>
    obtain⟨_,hi,hu⟩:=ij (i:=i) (listed:=listed) (ops:=ops) (by rw[hr];simp);have h1:=hall i hi;have hlt:i<listed.size:=by rw[h.size];exact hi
    simp[Array.getD,hlt]at h1 hu
    rw[h1]at hu;cases hu
  obtain⟨k,hk1,hk2,hk3,s,hs,hsim⟩:=h.later hck hW (fun j hj=>hall j (by have:=hck.le;omega));have hke:k=ops.size:=by
   rcases Nat.lt_or_ge k ops.size with hlt|hge
   ·have:=(hk3 k hlt).1 (hall k hlt);omega
   omega
  subst hke;rw[List.drop_eq_nil_of_le (by simp)]at hs;exact hQ s a w hs hsim
 |succ fuel ih=>
  intro listed a w h hf;refine⟨fun hr=>?_,fun i hi=>?_⟩
  ·-- none is ready: all have been
   have hall:∀n i,i<n→i<ops.size→listed.getD i false=true:=by
    intro n
    induction n with
    |zero=>intro i hi;omega
    |succ n ihn=>
     intro i hin his
     by_cases hu:listed.getD i false=true
     ·exact hu
     have hlt:i<listed.size:=by rw[h.size];exact his
     have hu':listed.getD i true=false:=by
      simp[Array.getD,hlt]at hu⊢
      exact hu
     have hm:=mC (ops:=ops) (Array.getElem?_eq_getElem his) hu' (fun p hp=>ihn p (by have:=hck.pred i _ (Array.getElem?_eq_getElem his) p hp;omega) (by have:=hck.pred i _ (Array.getElem?_eq_getElem his) p hp;omega));rw[hr]at hm;cases hm
   obtain⟨k,hk1,hk2,hk3,s,hs,hsim⟩:=h.later hck hW (fun j hj=>hall _ j (Nat.lt_succ_self _) (by have:=hck.le;omega));have hke:k=ops.size:=by
    rcases Nat.lt_or_ge k ops.size with hlt|hge
    ·have:=(hk3 k hlt).1 (hall _ k (Nat.lt_succ_self _) hlt);omega
    omega
   subst hke;rw[List.drop_eq_nil_of_le (by simp)]at hs;exact hQ s a w hs hsim
  obtain⟨hp,his,hu⟩:=ij hi;have ho:=Array.getElem?_eq_getElem his;have hcount:=ox h.size his hu;have hlt:i<listed.size:=by rw[h.size];exact his
  have hu':listed.getD i false=false:=by
   simp[Array.getD,hlt]at hu⊢
   exact hu
  have hdown':∀j,(listed.setIfInBounds i true).getD j false=true→∀p∈da ops j,(listed.setIfInBounds i true).getD p false=true:=by
   intro j hj p hpj;rw[aV hlt]at hj⊢
   rcases Bool.or_eq_true_iff.1 hj with hj|hj
   ·rw[h.down j hj p hpj];rfl
   have:j=i:=by simpa using hj
   subst this;rw[hp p hpj];rfl
  by_cases hiR:i<nR
  ·-- one that only looks
   rcases h.where_ with⟨hlR,ρ,hsim⟩|⟨k,hk1,hk2,hk3,_⟩
   ·have hst:=hstep i ops[i] hiR ho;have hagr:=ND (σ:=σ) (es:=es) hck ho hiR hp;have hstand:∀a' w',uO G (fun b=>(b<σ.nx∨∃j,j<nR∧listed.getD j false=true∧b=σ.nx+j)∨b=σ.nx+i) ((aK σ σ.nx ops es (fun j=>listed.getD j false) nR).add (br ops i) (σ.nx+i) (es i)) a' w'→
      Dz P G ops nR σ es K (listed.setIfInBounds i true) a' w':=by
     rintro a' w' ⟨ρ',h1⟩;refine⟨by simpa using h.size,hdown',.inl ⟨fun j hj=>?_,ρ',?_⟩⟩
     ·rw[aV hlt]at hj
      rcases Bool.or_eq_true_iff.1 hj with hj|hj
      ·exact hlR j hj
      have:j=i:=by simpa using hj
      omega
     have h2:=h1.cR (dom':=fun b=>b<σ.nx∨∃j,j<nR∧(listed.setIfInBounds i true).getD j false=true∧b=σ.nx+j) (fun b hb=>by
      rcases hb with(hb|⟨j,hj,hlj,rfl⟩)|rfl
      ·exact .inl hb
      ·exact .inr ⟨j,hj,by rw[aV hlt,hlj];rfl,rfl⟩
      exact .inr ⟨i,hiR,by rw[aV hlt];simp,rfl⟩)
     have h3:=nN (σ:=σ) (nx0:=σ.nx) (e:=es) (N:=nR) (L:=fun j=>listed.getD j false) (i:=i) hu' hck.dst hfz nR (Nat.le_refl _) hiR;have h4:=h2.Fu h3.symm
     rw[cO (L:=fun j=>listed.getD j false||j==i) (L':=fun j=>(listed.setIfInBounds i true).getD j false) nR (fun j _=>(aV hlt).symm)]at h4
     exact h4
    have hdst:br ops i=ops[i].dst:=by unfold br;rw[ho];rfl
    have hid:¬(σ.nx+i<σ.nx∨∃j,j<nR∧listed.getD j false=true∧σ.nx+i=σ.nx+j):=by
     rintro(h1|⟨j,_,hj,he⟩)
     ·omega
     have:i=j:=by omega
     subst this;rw[hu']at hj;cases hj
    unfold wpOp;simp only[ho];obtain⟨hdl,hst⟩:=hst;have doit:a7 P ops[i] (aK σ σ.nx ops es (fun _=>true) i) σ.nx (σ.nx+i) (es i)→ops[i].wp P a w (wpAny P .any ops Q fuel (listed.setIfInBounds i true)) Q:=by
     intro hre;refine hre.1 G _ ρ _ a w hsim hid hagr Q _ fun v w' h5=>?_;refine ih _ _ _ (hstand _ _ ?_) (by omega);rw[hdst];exact h5
    split at hst
    ·rename_i hg
     rw[ig hg,if_pos rfl];exact .inl (doit hst)
    rename_i g want hg
    obtain⟨t,b,ht,hb,hst⟩:=hst;obtain⟨hgi,hgp⟩:=hck.guard i _ g want ho hiR hg;have hgR:g<nR:=by omega
    have hb':gv (lk (aK σ σ.nx ops es (fun j=>listed.getD j false) nR).env t)=some b:=by
     rw[dz (N:=nR) (fun j=>listed.getD j false) (t:=t) (j:=g) ht (hp g hgp) hck.dst nR (Nat.le_refl _) hgR];rw[dz (N:=nR) (fun _=>true) (t:=t) (j:=g) ht rfl hck.dst i (by omega) hgi]at hb;exact hb
    rw[nr hsim hg ht hb']
    by_cases hbw:b=some want
    ·rw[if_pos hbw]at hst;rw[if_pos (by simp[hbw])];exact .inl (doit hst)
    rw[if_neg hbw]at hst;rw[if_neg (by simpa using hbw)];refine ih _ _ _ (hstand _ _ ⟨ρ,?_⟩) (by omega);rw[hst,hdst];have h5:=hsim.put (dst:=ops[i].dst) (x:=.aA []) (v:=undef) (fun d hd=>by have:=hdl d hd;rw[fI]at this⊢;exact this) ⟨#[],rfl,trivial⟩;have h6:=h5.cR (dom':=fun b=>(b<σ.nx∨∃j,j<nR∧listed.getD j false=true∧b=σ.nx+j)∨b=σ.nx+i) (fun b hb=>Or.inl hb);unfold eG.skip;rw[St.add_plain];exact h6
   have:=(hk3 i his).2 (by omega)
   rw[hu']at this;cases this
  -- one that writes: all that stand ahead of it have been
  have hahead:∀j,j<i→listed.getD j false=true:=fun j hj=>fB h.down _ i j hp (hck.clos i his (by omega) j hj);obtain⟨k,hk1,hk2,hk3,s,hs,hsim⟩:=h.later hck hW (fun j hj=>hahead j (by omega));have hki:k=i:=by
   rcases Nat.lt_trichotomy k i with hlt'|rfl|hgt
   ·have:=(hk3 k (by omega)).1 (hahead k hlt');omega
   ·rfl
   have:=(hk3 i his).2 hgt;rw[hu']at this;cases this
  subst hki;have hdrop:ops.toList.drop k=ops[k]::ops.toList.drop (k+1):=by
   rw[List.drop_eq_getElem_cons (by simpa using his)];rfl
  rw[hdrop]at hs;refine HA.step ho hs.2 hs.1 hsim fun s' a' w' hs'' hsim'=>ih _ _ _ ?_ (by omega);refine⟨by simpa using h.size,hdown',.inr ⟨k+1,by omega,by omega,fun j hj=>?_,s',hs'',hsim'⟩⟩;rw[aV hlt]
  by_cases hjk:j=k
  ·subst hjk;simp
  have hne:(j==k)=false:=by simpa using hjk
  rw[hne,Bool.or_false,hk3 j hj];omega
end
def DT (f:Nat→Nat→C)(off len:Nat):Nat→Nat→C:=fun i j=>if off≤i then(if i<off+len then .any else f i j)else f i j
def zD (xs:List Int)(off len:Nat):List Int:=xs.take off++(List.replicate len 0++xs.drop (off+len))
def te (T:fD)(s:St)(dst:Option Tmp)(t:TypeId)(x:Operand)(K:St→Prop):Prop:=
 match T t with
 |some S=>match S.k with
  |.sl e=>match T e with
   |some E=>match s.ev x with
    |.one (.own b wd off len)=>match lo s.own b with
     |some ⟨.rows e' w n f,rw⟩=>rw=true∧wd=w∧E.size=w∧E.zero.length=w∧0<w∧K {s.put dst .unk with own:=dY s.own b ⟨.rows e' w n (DT f off len),true⟩}
     |some ⟨.ints e' k xs,rw⟩=>rw=true∧wd=1∧E.size=1∧E.zero=[.int k 0]∧K {s.put dst .unk with own:=dY s.own b ⟨.ints e' k (zD xs off len),true⟩}
     |_=>False
    |_=>False
   |none=>False
  |_=>False
 |none=>False
theorem HX (xs:List Int)(off len:Nat)(h:off+len≤xs.length)(j:Nat):(zD xs off len)[j]? =if off≤j∧j<off+len then some 0 else xs[j]? :=by
 unfold zD;rw[List.getElem?_append,List.getElem?_append,X5,List.length_replicate]
 by_cases h1:j<off
 ·rw[if_pos (by omega),if_neg (by omega),List.getElem?_take,if_pos h1]
 rw[if_neg (by omega)]
 by_cases h2:j<off+len
 ·rw[if_pos (by omega),if_pos (by omega),List.getElem?_replicate,if_pos (by omega)]
 rw[if_neg (by omega),if_neg (by omega),List.getElem?_drop];congr 1;omega
theorem zW (xs:List Int)(off len:Nat)(h:off+len≤xs.length):(zD xs off len).length=xs.length:=by
 unfold zD;simp;omega
theorem vY {P:Program}{w:World}{t ty e:TypeId}{i:TypeInfo}{z:Value}(ht:P.underlying t=some (.slice e))(hi:P.info? e=some i)(hz:i.zero=some z)(g o len cap:Nat){cur:Array Value}{e':TypeId}(hg:w.heap[g]? =some (.cells cur e' (0,0)))
  (hfit:o+len*z.cells.size≤cur.size) (h1:z.cells.toList.all Value.oneCell'=true) (hsz:0<z.cells.size) (hlen:0<len):
  (Builtin.clear_ #[t] ty #[.slice (some ⟨g,o,none⟩) len cap]).run P w= .ok (.tuple #[]) (w.setRow g (cur.toList.take o++(Builtin.zeroCells z.cells len).toList++cur.toList.drop (o+len*z.cells.size)).toArray):=by
 have hzl:(Builtin.zeroCells z.cells len).toList.length=len*z.cells.size:=by simp[Builtin.zeroCells]
 have hone:∀u∈(Builtin.zeroCells z.cells len).toList,u.oneCell'=true:=by
  intro u hu;simp only[Builtin.zeroCells,Array.toList_map,List.mem_map]at hu;obtain⟨k,_,rfl⟩:=hu;have hk:k%z.cells.size<z.cells.size:=Nat.mod_lt _ hsz;rw[getElem!_pos z.cells _ hk];exact List.all_eq_true.1 h1 _ (by simp)
 have hst:=run_storeCells_at P g o e' (Builtin.zeroCells z.cells len).toList 0 cur w hg (by rw[hzl];simpa using hfit) hone;simp only[Nat.add_zero,hzl]at hst
 cases len with
 |zero=>omega
 |succ len=>
  simp only[Builtin.clear_,List.getElem?_toArray,List.getElem?_cons_zero,Sem.run_bind,av ht,Result.andThen_ok,fC hi hz,hst,Sem.run_pure]
section
variable {P:Program}{T:fD}(hT:eD P T)
include hT
theorem NR {
        o:Oper} {s:St} {K:St→Prop} {c:Call} (ho:o.op= .call c) (hcal:c.callee= .builtin .clear) {x:Operand} (hargs:c.args= #[x]) {t:TypeId} (htys:c.argTypes= #[t]) (hdn:bT o s.n) (h:te T s o.dst t x K):mv P o s K:=by
 unfold te at h
 cases hTt:T t with
 |none=>rw[hTt]at h;exact h.elim
 |some S=>
  rw[hTt]at h;simp only at h
  split at h
  ·rename_i e hSk
   have hu:=ff hT hTt hSk
   cases hTe:T e with
   |none=>rw[hTe]at h;exact h.elim
   |some E=>
    rw[hTe]at h;simp only at h;obtain⟨ei,ed,ez,hei,heu,hez,hek,hes,_,hzc,hall⟩:=bD hT hTe;have hzl:E.zero.length=ez.cells.size:=by rw[hzc];simp
    split at h
    ·rename_i b wd off len hx
     intro G a w hsim Q next hk;obtain⟨ρ,hs⟩:=hsim;have hev:=hs.ev x;rw[hx]at hev;have hrun:∀(v:Value) (w':World),a.eval x=v→(∀ty,(Builtin.clear_ #[t] ty #[v]).run P w= .ok (.tuple #[]) w')→(execOp a.eval o).run P w= .ok (.value (.tuple #[])) w':=by
      intro v w' hv hr;unfold execOp;rw[ho];simp only[resolve,hcal,Sem.run_bind,Sem.run_pure,Result.andThen_ok,invoke,Go.builtin,hargs,htys,List.map_toArray,List.map_cons,List.map_nil,hv,hr]
     obtain⟨_,hle,cap,hcap,hval⟩:=hev;have hput:∀(w':World) (own':List (Nat×ft)),aR G (fun b=>b<s.nx) ρ {s with own:=own'} a w'→oI G {s.put o.dst .unk with own:=own'} (a.put o.dst (.tuple #[])) w':=by
      intro w' own' h1;have h2:=h1.put (dst:=o.dst) (x:=.unk) (v:=.tuple #[]) hdn trivial
      cases hd:o.dst with
      |none=>rw[hd]at h2;exact⟨ρ,h2⟩
      |some d=>rw[hd]at h2;exact⟨ρ,h2⟩
     by_cases hl0:len=0
     ·subst hl0;have hclr:∀v,v=a.eval x→(∃ad,v= .slice ad 0 cap)→∀ty,(Builtin.clear_ #[t] ty #[v]).run P w= .ok (.tuple #[]) w:=by
       rintro v _ ⟨ad,rfl⟩ ty
       cases ad<;>simp only[Builtin.clear_,List.getElem?_toArray,List.getElem?_cons_zero,Sem.run_bind,av hu,Result.andThen_ok,Sem.run_pure]
      have hsl:∃ad,a.eval x= .slice ad 0 cap:=by
       rcases hval with⟨g,o1,o2,_,hv,_⟩|⟨_,hv,_,hc0⟩
       ·exact⟨_,hv⟩
       exact⟨none,by rw[hv,hc0]⟩
      have hr:=hrun _ w rfl (hclr _ rfl hsl);have hsame:∀own',(∀b',lo own' b'=lo s.own b')→aR G (fun b=>b<s.nx) ρ {s with own:=own'} a w:=fun own' he=>hs.Fu ⟨fun _=>rfl,fun b'=>(he b').symm,rfl⟩
      split at h
      ·rename_i e' w0 n f rw_ hlo
       obtain⟨rfl,rfl,_,_,_,hK⟩:=h;refine Oper.cS hr (hk _ _ _ hK (hput _ _ (hsame _ fun b'=>?_)));rw[b5]
       split
       ·rename_i hb;subst hb;rw[hlo]
        have:DT f off 0=f:=by funext i j;unfold DT;by_cases h1:off≤i<;>simp [h1];omega
        rw[this]
       rfl
      ·rename_i e' k xs rw_ hlo
       obtain⟨rfl,rfl,_,_,hK⟩:=h;refine Oper.cS hr (hk _ _ _ hK (hput _ _ (hsame _ fun b'=>?_)));rw[b5]
       split
       ·rename_i hb;subst hb;rw[hlo]
        have:zD xs off 0=xs:=by unfold zD;simp
        rw[this]
       rfl
      exact h.elim
     rcases hval with⟨g,o1,o2,haddr,hv,ho2,_⟩|⟨_,_,h0,_⟩
     ·have ho3:o2=o1+off*wd:=by rcases ho2 with h1|h1<;>omega
      subst ho3
      split at h
      ·rename_i e' w0 n f rw_ hlo
       obtain⟨rfl,rfl,hE,hEz,hpos,hK⟩:=h;have hzs:ez.cells.size=wd:=by omega
       obtain⟨_,hlenρ,hrep,_⟩:=hs.own b _ hlo;unfold aL at hrep;rw[haddr]at hrep;obtain⟨cur,ee,hg,hc⟩:=hrep;simp only at hc;rw[hlenρ]at hle;simp only[Bk.len]at hle;have hmul:(off+len)*wd≤n*wd:=Nat.mul_le_mul_right _ hle;have hmul2:(off+len)*wd=off*wd+len*wd:=Nat.add_mul _ _ _;have hlw:0<len*wd:=Nat.mul_pos (by omega) hpos;have hfit:o1+off*wd+len*ez.cells.size≤cur.size:=by
        rw[hzs];obtain⟨u,hu',_⟩:=hc (n*wd-1) (f ((n*wd-1)/wd) ((n*wd-1)%wd)) (by simp only[Bk.cell];rw[if_pos (by omega)])
        have:=(Array.getElem?_eq_some_iff.1 hu').1
        omega
       have hr:=hrun _ _ hv (fun ty=>vY (ty:=ty) hu hei hez g (o1+off*wd) len cap hg hfit hall (by omega) (by omega));refine Oper.cS hr (hk _ _ _ hK (hput _ _ ?_));have hzl2:(Builtin.zeroCells ez.cells len).toList.length=len*wd:=by simp[Builtin.zeroCells,hzs]
       have hsz:((cur.toList.take (o1+off*wd)++(Builtin.zeroCells ez.cells len).toList++cur.toList.drop (o1+off*wd+len*ez.cells.size)).toArray).size=cur.size:=by
        simp only[List.size_toArray,X6,X5,List.length_drop,hzl2,Array.length_toList];rw[hzs]at hfit⊢;omega
       refine hs.write hlo haddr hg hsz (.rows e' wd n (DT f off len)) rfl fun j c' hj=>?_;simp only[Bk.cell]at hj
       split at hj
       ·rename_i hjn
        simp only[Option.some.injEq]at hj;have hlg:=g8 cur.toList (o1+off*wd) (Builtin.zeroCells ez.cells len).toList (by rw[hzl2];simp only[Array.length_toList];rw[hzs]at hfit;omega) (o1+j);rw[hzl2]at hlg;have hd1:=Nat.div_add_mod j wd;have hd2:=Nat.mod_lt j hpos;simp only[List.getElem?_toArray,hzs,hlg]
        by_cases hm:off*wd≤j∧j<off*wd+len*wd
        ·rw[if_pos (by omega)];have hi1:off≤j/wd:=(Nat.le_div_iff_mul_le hpos).2 hm.1;have hi2:j/wd<off+len:=(Nat.div_lt_iff_lt_mul hpos).2 (by omega);have hcany:c'= .any:=by rw[←hj];unfold DT;rw[if_pos hi1,if_pos hi2]
         subst hcany;have hlt:o1+j-(o1+off*wd)<(Builtin.zeroCells ez.cells len).toList.length:=by rw[hzl2];omega
         refine⟨_,X8 hlt,?_⟩;show Value.oneCell' _=true;simp only[Builtin.zeroCells,Array.getElem_toList,Array.getElem_map,Array.getElem_range];have hkk:(o1+j-(o1+off*wd))%ez.cells.size<ez.cells.size:=Nat.mod_lt _ (by omega);rw[getElem!_pos ez.cells _ hkk];exact List.all_eq_true.1 hall _ (by simp)
        rw[if_neg (by omega),Array.getElem?_toList];have hcf:c'=f (j/wd) (j%wd):=by
         rw[←hj];unfold DT
         by_cases hi1:off≤j/wd
         ·rw[if_pos hi1,if_neg];intro hi2;have a1:=(Nat.le_div_iff_mul_le hpos).1 hi1;have a2:=(Nat.div_lt_iff_lt_mul hpos).1 hi2;omega
         rw[if_neg hi1]
        exact hc j c' (by simp only[Bk.cell];rw[if_pos hjn,hcf])
       cases hj
      ·rename_i e' k xs rw_ hlo
       obtain⟨rfl,rfl,hE,hEz,hK⟩:=h;have hzs:ez.cells.size=1:=by rw[←hzl,hEz];rfl
       have hmm:len*ez.cells.size=len:=by rw[hzs,Nat.mul_one]
       obtain⟨_,hlenρ,hrep,_⟩:=hs.own b _ hlo;unfold aL at hrep;rw[haddr]at hrep;obtain⟨cur,ee,hg,hc⟩:=hrep;simp only at hc;rw[hlenρ]at hle;simp only[Bk.len]at hle;have hfit:o1+off*1+len*ez.cells.size≤cur.size:=by
        obtain⟨u,hu',_⟩:=hc (xs.length-1) (.int k xs[xs.length-1]) (by simp only[Bk.cell];rw[X8 (by omega)];rfl)
        have:=(Array.getElem?_eq_some_iff.1 hu').1
        omega
       have hr:=hrun _ _ hv (fun ty=>vY (ty:=ty) hu hei hez g (o1+off*1) len cap hg hfit hall (by omega) (by omega));refine Oper.cS hr (hk _ _ _ hK (hput _ _ ?_));have hzl2:(Builtin.zeroCells ez.cells len).toList.length=len:=by simp[Builtin.zeroCells,hzs]
       have hsz:((cur.toList.take (o1+off*1)++(Builtin.zeroCells ez.cells len).toList++cur.toList.drop (o1+off*1+len*ez.cells.size)).toArray).size=cur.size:=by
        simp only[List.size_toArray,X6,X5,List.length_drop,hzl2,Array.length_toList];omega
       refine hs.write hlo haddr hg hsz (.ints e' k (zD xs off len)) (zW xs off len hle) fun j c' hj=>?_;simp only[Bk.cell,HX xs off len hle]at hj;have hlg:=g8 cur.toList (o1+off*1) (Builtin.zeroCells ez.cells len).toList (by rw[hzl2];simp only[Array.length_toList];omega) (o1+j);rw[hzl2]at hlg;simp only[List.getElem?_toArray,hmm,hlg]
       by_cases hm:off≤j∧j<off+len
       ·rw[if_pos hm]at hj;simp only[Option.map_some,Option.some.injEq]at hj;subst hj;rw[if_pos (by omega)];have hlt:o1+j-(o1+off*1)<(Builtin.zeroCells ez.cells len).toList.length:=by rw[hzl2];omega
        refine⟨_,X8 hlt,?_⟩;simp only[Builtin.zeroCells,Array.getElem_toList,Array.getElem_map,Array.getElem_range];have hz0:ez.cells.toList.map Dn=[.int k 0]:=by rw[←hzc];exact hEz
        obtain⟨v0,hv0⟩:∃v0,ez.cells.toList=[v0]:=List.length_eq_one_iff.1 (by simpa using hzs);rw[hv0]at hz0;have hcv:Dn v0= .int k 0:=by simpa using hz0
        have hone:v0.oneCell'=true:=List.all_eq_true.1 hall _ (by rw[hv0];simp);have hrr:=zI (ok:=aF G s.own ρ w) (w:=w) v0 hone;rw[hcv]at hrr;have hkk:(o1+j-(o1+off*1))%ez.cells.size<ez.cells.size:=Nat.mod_lt _ (by omega);rw[getElem!_pos ez.cells _ hkk];have hv1:ez.cells[(o1+j-(o1+off*1))%ez.cells.size]=v0:=by
         have:ez.cells.toList[(o1+j-(o1+off*1))%ez.cells.size]? =some v0:=by
          rw[hv0,hzs,Nat.mod_one];rfl
         rw[Array.getElem?_toList,Array.getElem?_eq_getElem hkk]at this;exact Option.some.inj this
        rw[hv1];exact hrr
       rw[if_neg hm]at hj;rw[if_neg (by omega),Array.getElem?_toList];exact hc j c' hj
      exact h.elim
     omega
    exact h.elim
  exact h.elim
end
def y8 (f g:Nat→Nat→C)(off n:Nat):Nat→Nat→C:=fun i j=>if off≤i then(if i<off+n then g (i-off) j else f i j)else f i j
def yC (T:fD)(s:St)(dst:Option Tmp)(t:TypeId)(x y:Operand)(K:St→Prop):Prop:=
 match T t with
 |some S=>
       match S.k with
  |.sl e=>match T e with
   |some E=>match s.ev x with
    |.one (.own b wd off len)=>match lo s.own b with
     |some ⟨.rows e' w n f,rw⟩=>match s.ev y with
      |.one cy=>match g9 w (xh s.own s.nx cy)with
       |some (m,g)=>rw=true∧wd=w∧E.size=w∧0<w∧K {s.put dst (.one (.int .i64 ((if m<len then m else len:Nat):Int)))with own:=dY s.own b ⟨.rows e' w n (y8 f g off (if m<len then m else len)),true⟩}
       |none=>False
      |_=>False
     |_=>False
    |_=>False
   |none=>False
  |_=>False
 |none=>False
theorem Gm {P:Program}{w:World}{t t' ty e:TypeId}{i:TypeInfo}(ht:P.underlying t=some (.slice e))(hi:P.info? e=some i)(dv sv:Option Addr)(len cap m cap' n:Nat)(hn:n=if m<len then m else len){us:List Value}(hl:us.length=n*i.size)(hh:jO w sv us){w':World}
  (hst:(match dv with|some a=>storeCells a us|none=>pure ()).run P w= .ok () w'):
  (Builtin.copy_ #[t,t'] ty #[.slice dv len cap,.slice sv m cap']).run P w= .ok (goInt n) w':=by
 have hf:=dO (P:=P) i.size n sv m cap' us hl hh
 have hm:Nat.min m len=n:=by rw[hn];show min m len=_;split<;>omega
 cases dv with
 |none=>
  obtain rfl:w=w':=by simpa using hst
  simp[Builtin.copy_,Go.run_underlying ht,sizeOf,typeInfo,hi,Builtin.lenOf,hm,hf]
 |some a=>
  simp only at hst
  simp[Builtin.copy_,Go.run_underlying ht,sizeOf,typeInfo,hi,Builtin.lenOf,hm,hf,hst]
section
variable {P:Program}{T:fD}(hT:eD P T)
include hT
theorem OG {o:Oper}{s:St}{K:St→Prop}{c:Call}(ho:o.op= .call c)(hcal:c.callee= .builtin .copy){x y:Operand}(hargs:c.args= #[x,y]){t t':TypeId}(htys:c.argTypes= #[t,t'])(hdn:bT o s.n)(h:yC T s o.dst t x y K):mv P o s K:=by
 unfold yC at h
 cases hTt:T t with
 |none=>rw[hTt]at h;exact h.elim
 |some S=>
  rw[hTt]at h;simp only at h
  split at h
  rotate_left
  ·exact h.elim
  rename_i e hSk
  have hu:=ff hT hTt hSk
  cases hTe:T e with
  |none=>rw[hTe]at h;exact h.elim
  |some E=>
   rw[hTe]at h;simp only at h;obtain⟨ei,ed,ez,hei,heu,hez,hek,hes,_,hzc,hall⟩:=bD hT hTe
   split at h
   rotate_left
   ·exact h.elim
   rename_i b wd off len hx
   split at h
   rotate_left
   ·exact h.elim
   rename_i e' w0 n f rw_ hlo
   split at h
   rotate_left
   ·exact h.elim
   rename_i cy hy
   split at h
   rotate_left
   ·exact h.elim
   rename_i m g hm
   obtain⟨rfl,rfl,hE,hpos,hK⟩:=h;intro G a w hsim Q next hk;obtain⟨ρ,hs⟩:=hsim;have hev:=hs.ev x;rw[hx]at hev;have hevy:=hs.ev y;rw[hy]at hevy;obtain⟨ad,cap',us,hvy,hcs⟩:=oU hs (fun _ hb=>hb) hevy hm;obtain⟨_,hle,cap,hcap,hval⟩:=hev;obtain⟨nn,hnn⟩:∃nn,nn=if m<len then m else len:=⟨_,rfl⟩
   rw[←hnn]at hK
   have hnm:nn≤m∧nn≤len:=by rw[hnn];split<;>omega
   have hmul:nn*wd≤m*wd:=Nat.mul_le_mul_right _ hnm.1;have hes':ei.size=wd:=by omega
   have hl:(us.take (nn*wd)).length=nn*ei.size:=by rw[X5,hcs.len,hes'];omega
   have hh:jO w ad (us.take (nn*wd)):=by
    rcases hcs.at_ with h1|⟨a1,h1,h2⟩
    ·left;rw[h1];simp
    refine .inr ⟨a1,h1,fun j u hj=>h2 j u ?_⟩;rw[List.getElem?_take]at hj
    split at hj
    ·exact hj
    cases hj
   have hrun:∀(v:Value) (w':World) (dv:Option Addr),a.eval x=v→v= .slice dv len cap→(match dv with|some a=>storeCells a (us.take (nn*wd))|none=>pure ()).run P w= .ok () w'→(execOp a.eval o).run P w= .ok (.value (goInt nn)) w':=by
    intro v w' dv hv hv2 hst;subst hv2;have hr:=Gm (t':=t') (ty:=o.type) hu hei dv ad len cap m cap' nn hnn hl hh hst;unfold execOp;rw[ho];simp only[resolve,hcal,Sem.run_bind,Sem.run_pure,Result.andThen_ok,invoke,Go.builtin,hargs,htys,List.map_toArray,List.map_cons,List.map_nil,hv,hvy,hr]
   have hput:∀(w':World) (own':List (Nat×ft)),aR G (fun b=>b<s.nx) ρ {s with own:=own'} a w'→oI G {s.put o.dst (.one (.int .i64 (nn:Int)))with own:=own'} (a.put o.dst (goInt nn)) w':=by
    intro w' own' h1;have h2:=h1.put (dst:=o.dst) (x:=.one (.int .i64 (nn:Int))) (v:=goInt nn) hdn rfl
    cases hd:o.dst with
    |none=>rw[hd]at h2;exact⟨ρ,h2⟩
    |some d=>rw[hd]at h2;exact⟨ρ,h2⟩
   by_cases hl0:nn=0
   ·subst hl0;have hsl:∃dv,a.eval x= .slice dv len cap:=by
     rcases hval with⟨g,o1,o2,_,hv,_⟩|⟨_,hv,h1,h2⟩
     ·exact⟨_,hv⟩
     exact⟨none,by rw[hv,h1,h2]⟩
    obtain⟨dv,hv⟩:=hsl
    have hr:=hrun _ w dv hv rfl (by cases dv<;>simp [storeCells])
    refine Oper.cS hr (hk _ _ _ hK (hput _ _ (hs.Fu ⟨fun _=>rfl,fun b'=>?_,rfl⟩)));rw[b5]
    split
    ·rename_i hb;subst hb;rw[hlo]
     have:y8 f g off 0=f:=by funext i j;unfold y8;by_cases h1:off≤i<;>simp [h1];omega
     rw[this]
    rfl
   rcases hval with⟨g1,o1,o2,haddr,hv,ho2,_⟩|⟨_,_,h0,_⟩
   rotate_left
   ·omega
   have ho3:o2=o1+off*wd:=by rcases ho2 with h1|h1<;>omega
   subst ho3;obtain⟨_,hlenρ,hrep,_⟩:=hs.own b _ hlo;unfold aL at hrep;rw[haddr]at hrep;obtain⟨cur,ee,hg,hc⟩:=hrep;simp only at hc;rw[hlenρ]at hle;simp only[Bk.len]at hle;have hmul1:(off+nn)*wd≤n*wd:=Nat.mul_le_mul_right _ (by omega);have hmul2:(off+nn)*wd=off*wd+nn*wd:=Nat.add_mul _ _ _;have hlw:0<nn*wd:=Nat.mul_pos (by omega) hpos;have hl2:(us.take (nn*wd)).length=nn*wd:=by rw[hl,hes']
   have hfit:o1+off*wd+nn*wd≤cur.size:=by
    obtain⟨u,hu',_⟩:=hc (n*wd-1) (f ((n*wd-1)/wd) ((n*wd-1)%wd)) (by simp only[Bk.cell];rw[if_pos (by omega)])
    have:=(Array.getElem?_eq_some_iff.1 hu').1
    omega
   have hone:∀u∈us.take (nn*wd),u.oneCell'=true:=fun u hu=>hcs.one u (List.mem_of_mem_take hu);have hst:=run_storeCells_at P g1 (o1+off*wd) ee (us.take (nn*wd)) 0 cur w hg (by rw[hl2];omega) hone;simp only[Nat.add_zero,hl2]at hst;have hr:=hrun _ _ _ hv rfl hst;refine Oper.cS hr (hk _ _ _ hK (hput _ _ ?_));refine hs.write hlo haddr hg (by simp only[List.size_toArray,X6,X5,List.length_drop,Array.length_toList,hcs.len];omega) (.rows e' wd n (y8 f g off nn)) rfl fun j c' hj=>?_;simp only[Bk.cell]at hj
   split at hj
   rotate_left
   ·cases hj
   rename_i hjn
   simp only[Option.some.injEq]at hj;have hlg:=g8 cur.toList (o1+off*wd) (us.take (nn*wd)) (by rw[hl2];simp only[Array.length_toList];omega) (o1+j);rw[hl2]at hlg;have hd1:=Nat.div_add_mod j wd;have hd2:=Nat.mod_lt j hpos;simp only[List.getElem?_toArray,hlg]
   by_cases hmm:off*wd≤j∧j<off*wd+nn*wd
   ·rw[if_pos (by omega)];have hi1:off≤j/wd:=(Nat.le_div_iff_mul_le hpos).2 hmm.1;have hi2:j/wd<off+nn:=(Nat.div_lt_iff_lt_mul hpos).2 (by omega);have hcg:c'=g (j/wd-off) (j%wd):=by rw[←hj];unfold y8;rw[if_pos hi1,if_pos hi2]
    obtain⟨u,hu1,hu2⟩:=hcs.rep (j/wd-off) (j%wd) (by omega) hd2;refine⟨u,?_,by rw[hcg];exact hu2⟩;have ej:o1+j-(o1+off*wd)=(j/wd-off)*wd+j%wd:=by
     rw[Nat.sub_mul]
     have:off*wd≤j/wd*wd:=Nat.mul_le_mul_right _ hi1
     have:=Nat.mul_comm (j/wd) wd
     omega
    rw[List.getElem?_take,if_pos (by omega),ej,hu1]
   rw[if_neg (by omega),Array.getElem?_toList];have hcf:c'=f (j/wd) (j%wd):=by
    rw[←hj];unfold y8
    by_cases hi1:off≤j/wd
    ·rw[if_pos hi1,if_neg];intro hi2;have a1:=(Nat.le_div_iff_mul_le hpos).1 hi1;have a2:=(Nat.div_lt_iff_lt_mul hpos).1 hi2;omega
    rw[if_neg hi1]
   exact hc j c' (by simp only[Bk.cell];rw[if_pos hjn,hcf])
end
end Go.Eng
/-
  THE ENGINE, PART T: a statement whose order is open, where some operations that make nothing may come later than those that write.
-/
namespace Go.Eng
open Go
inductive WL where
 |nil
 |cons (i:Nat) (pd:List Nat) (sub alt:WL)
 /-- a new variable (operation 'q', slot 'd') that may be made before those that write, or behind the first of them -/
 |opt (q d:Nat) (t1 t2:WL)
def iL:WL→Nat→Bool
 |.nil,_=>false
 |.cons i _ sub _,j=>if j=i then true else iL sub j
 |.opt _ _ _ _,_=>false
def bG (ws:WL)(i:Nat):Bool:=!iL ws i
def rM:WL→Nat→Bool
 |.nil,_=>false
 |.cons i _ _ alt,j=>if j=i then true else rM alt j
 |.opt _ _ _ _,_=>false
def jW:Op→Bool
 |.alloc _=>true
 |_=>false
def xM:Op→Bool
 |.select _ _=>false
 |_=>true
def Ln (ops:Array Oper)(ws:WL)(i:Nat)(o:Oper):Bool:=
 ((tmpsOf o).all fun t=>(List.range ops.size).all fun j=>br ops j !=some t||(if bG ws j then decide (j<i)&&(da ops i).contains j else eR ops ops.size j i))&&
 (
  match o.guard with
  |none=>true
  |some (g,_)=>decide (g<i)&&(da ops i).contains g&&bG ws g)
def qz (ops:Array Oper)(l:List Nat)(j:Nat):Bool:=l.any fun i=>eR ops ops.size i j
def kf (ops:Array Oper)(ws:WL)(pre:List Nat)(t:WL):Bool:=
 (List.range ops.size).all fun i=>!iL ws i||pre.contains i||rM t i||(List.range ops.size).any fun j=>iL ws j&&!pre.contains j&&eR ops ops.size i j
def mm (
     ops:Array Oper) (ws:WL) (ex:Option Nat):List Nat→WL→Bool
 |_,.nil=>true
 |_,.opt _ _ _ _=>false
 |pre,.cons i pd sub alt=>(match ops[i]? with
   |none=>false
   |some o=>o.guard.isNone&&xM o.op&&!pre.contains i&&iL ws i&&
     ((List.range ops.size).all fun j=>!bG ws j||pd.contains j||ex==some j||qz ops (i::pre) j)&&
     (pd.all fun j=>bG ws j&&(match ops[j]? with
      |none=>false
      |some oj=>iD oj.op&&(match oj.dst with
       |none=>false
       |some d=>!(tmpsOf o).contains d))))&&
  kf ops ws (i::pre) sub&&mm ops ws ex (i::pre) sub&&mm ops ws ex pre alt
def DA (ops:Array Oper)(ws:WL)(q:Nat)(t:WL):Bool:=
 (List.range ops.size).all fun i=>!iL ws i||i==q||rM t i||(List.range ops.size).any fun j=>iL ws j&&eR ops ops.size i j
def D8 (ops:Array Oper)(ws:WL):Bool:=
 (List.range ops.size).all fun i=>match ops[i]? with
  |none=>false
  |some o=>((da ops i).all fun p=>decide (p<i))&&((List.range ops.size).all fun j=>j==i||(br ops j).isNone||br ops j !=br ops i)&&(!bG ws i||Ln ops ws i o)
def Ob (ops:Array Oper):WL→Bool
 |.opt q d t1 t2=>D8 ops t1&&kf ops t1 [] t1&&mm ops t1 (some q) [] t1&&D8 ops t2&&DA ops t2 q t2&&mm ops t2 none [] t2&&
   decide (q<ops.size)&&bG t1 q&&(br ops q==some d)&&((List.range ops.size).all fun j=>iL t2 j==(iL t1 j||j==q))&&
   ((List.range ops.size).all fun j=>!bG t2 j||match ops[j]? with|none=>true|some o=>!(tmpsOf o).contains d)&&(match ops[q]? with|none=>false|some o=>o.guard.isNone&&jW o.op)
 |ws=>D8 ops ws&&kf ops ws [] ws&&mm ops ws none [] ws
structure Pb (ops:Array Oper) (ws:WL) (ex:Option Nat) (pre:List Nat) (i:Nat) (pd:List Nat) (sub:WL):Prop where
 op:∃o,ops[i]? =some o∧o.guard=none∧xM o.op=true∧∀j∈pd,∃oj d,bG ws j=true∧ops[j]? =some oj∧iD oj.op=true∧oj.dst=some d∧d∉tmpsOf o
 all:∀j,j<ops.size→bG ws j=true→j∈pd∨ex=some j∨∃k∈i::pre,eR ops ops.size k j=true
 cov:kf ops ws (i::pre) sub=true
 sub:mm ops ws ex (i::pre) sub=true
structure Of (ops:Array Oper) (ws:WL):Prop where
 pred:∀i o,ops[i]? =some o→∀p∈da ops i,p<i
 dst:∀j k t,j<ops.size→k<ops.size→j≠k→br ops j=some t→br ops k=some t→False
 data:∀i o,ops[i]? =some o→bG ws i=true→∀t,t∈tmpsOf o→∀j,j<ops.size→br ops j=some t→(bG ws j=true→j<i∧j∈da ops i)∧(bG ws j=false→eR ops ops.size j i=true)
 guard:∀i o g want,ops[i]? =some o→bG ws i=true→o.guard=some (g,want)→g<i∧g∈da ops i∧bG ws g=true
theorem jg {ops:Array Oper}{ws:WL}{ex:Option Nat}{pre:List Nat}{i:Nat}{pd:List Nat}{sub alt:WL}(h:mm ops ws ex pre (.cons i pd sub alt)=true):Pb ops ws ex pre i pd sub∧mm ops ws ex pre alt=true:=by
 simp only[mm,Bool.and_eq_true]at h;obtain⟨⟨⟨h1,hc⟩,hs⟩,h2⟩:=h;refine⟨?_,h2⟩
 cases ho:ops[i]? with
 |none=>rw[ho]at h1;cases h1
 |some o=>
  rw[ho]at h1;simp only[Bool.and_eq_true,List.all_eq_true,Option.isNone_iff_eq_none,Bool.not_eq_true']at h1;obtain⟨⟨⟨⟨⟨g1,g2⟩,_⟩,_⟩,g5⟩,g6⟩:=h1;refine⟨⟨o,ho,g1,g2,fun j hj=>?_⟩,fun j hj hr=>?_,hc,hs⟩
  ·have h3:=g6 j hj;obtain⟨k1,k2⟩:=h3
   cases hoj:ops[j]? with
   |none=>rw[hoj]at k2;cases k2
   |some oj=>
    rw[hoj]at k2;simp only[Bool.and_eq_true]at k2;obtain⟨k3,k5⟩:=k2
    cases hd:oj.dst with
    |none=>rw[hd]at k5;cases k5
    |some d=>
     rw[hd]at k5;exact⟨oj,d,k1,rfl,k3,hd,by simpa using k5⟩
  have h3:=g5 j (by simpa using hj);rw[hr]at h3;have h4:(pd.contains j=true∨ex=some j)∨qz ops (i::pre) j=true:=by simpa using h3
  rcases h4 with(h4|h4)|h4
  ·exact .inl (by simpa using h4)
  ·exact .inr (.inl h4)
  refine .inr (.inr ?_);unfold qz at h4;obtain⟨k,hk,hc⟩:=List.any_eq_true.1 h4;exact⟨k,hk,hc⟩
theorem rK {ops:Array Oper}{ws:WL}{pre:List Nat}{t:WL}(h:kf ops ws pre t=true){i:Nat}(hi:i<ops.size)(hw:iL ws i=true):i∈pre∨rM t i=true∨∃j,j<ops.size∧iL ws j=true∧j∉pre∧eR ops ops.size i j=true:=by
 unfold kf at h;have h1:=List.all_eq_true.1 h i (by simpa using hi);rw[hw]at h1;simp only[Bool.not_true,Bool.false_or,Bool.or_eq_true]at h1
 rcases h1 with(h1|h1)|h1
 ·exact .inl (by simpa using h1)
 ·exact .inr (.inl h1)
 obtain⟨j,hj,h2⟩:=List.any_eq_true.1 h1;simp only[Bool.and_eq_true,Bool.not_eq_true']at h2;exact .inr (.inr ⟨j,by simpa using hj,h2.1.1,by simpa using h2.1.2,h2.2⟩)
theorem tA {ops:Array Oper}{ws:WL}(h1:D8 ops ws=true):Of ops ws:=by
 unfold D8 at h1;have hi:∀i o,ops[i]? =some o→((∀p∈da ops i,p<i)∧(∀j,j<ops.size→j≠i→∀t,br ops j=some t→br ops i≠some t))∧(bG ws i=true→Ln ops ws i o=true):=by
  intro i o ho;have hlt:=(Array.getElem?_eq_some_iff.1 ho).1;have h3:=List.all_eq_true.1 h1 i (by simpa using hlt);rw[ho]at h3;simp only[Bool.and_eq_true,List.all_eq_true,decide_eq_true_eq]at h3;obtain⟨⟨a1,a2⟩,a3⟩:=h3;refine⟨⟨a1,fun j hj hne t ht hti=>?_⟩,fun hr=>by rw[hr]at a3;simpa using a3⟩;have h4:=a2 j (by simpa using hj);rw[ht,hti]at h4
  simp[hne]at h4
 refine⟨fun i o ho=>(hi i o ho).1.1,fun j k t hj hk hne h3 h4=>?_,fun i o ho hr t ht j hj hd=>?_,fun i o g want ho hr hg=>?_⟩
 ·exact(hi k ops[k] (Array.getElem?_eq_getElem hk)).1.2 j hj hne t h3 h4
 ·have h3:=(hi i o ho).2 hr;unfold Ln at h3;rw[Bool.and_eq_true]at h3;have h4:=List.all_eq_true.1 (List.all_eq_true.1 h3.1 t ht) j (by simpa using hj);rw[hd]at h4;refine⟨fun hrj=>?_,fun hrj=>?_⟩
  ·rw[hrj]at h4;simpa using h4
  rw[hrj]at h4;simpa using h4
 have h3:=(hi i o ho).2 hr;unfold Ln at h3;rw[Bool.and_eq_true,hg]at h3
 simpa[and_assoc]using h3.2
open Classical in
noncomputable def tP (s:St)(H:Tmp→Prop):St:={s with env:=s.env.filter fun p=>decide (¬H p.1)}
open Classical in
theorem rh (H:Tmp→Prop)(t:Tmp):∀l:List (Nat×V),lk (l.filter fun p=>decide (¬H p.1)) t=if H t then .unk else lk l t
 |[]=>by simp[lk]
 |(t',v)::r=>by
  have ih:=rh H t r
  by_cases hH:H t'
  ·rw[List.filter_cons_of_neg (by simpa using hH),ih]
   by_cases ht:t=t'
   ·subst ht;simp[hH]
   simp[lk,ht]
  rw[List.filter_cons_of_pos (by simpa using hH)];simp only[lk]
  by_cases ht:t=t'
  ·subst ht;simp[hH]
  simp only[ht,if_false];exact ih
theorem sD (s:St)(H:Tmp→Prop)(t:Tmp)(h:¬H t):lk (tP s H).env t=lk s.env t:=by
 unfold tP;simp only[rh,if_neg h]
theorem Ae (s:St)(H:Tmp→Prop)(t:Tmp)(h:H t):lk (tP s H).env t= .unk:=by
 unfold tP;simp only[rh,if_pos h]
structure RU (H:Tmp→Prop) (a a':Act):Prop where
 defers:a.defers=a'.defers
 size:a.tmps.size=a'.tmps.size
 tmps:∀t,¬H t→a.tmps[t]? =a'.tmps[t]?
theorem RU.refl (H:Tmp→Prop)(a:Act):RU H a a:=⟨rfl,rfl,fun _ _=>rfl⟩
theorem RU.eq {H:Tmp→Prop}{a a':Act}(h:RU H a a')(hH:∀t,¬H t):a=a':=by
 obtain⟨h1,h2,h3⟩:=h
 cases a;cases a'
 simp only[Act.mk.injEq];exact⟨Array.ext_getElem? fun i=>h3 i (hH i),h1⟩
theorem RU.getD {H:Tmp→Prop}{a a':Act}(h:RU H a a'){t:Tmp}(ht:¬H t):a.tmps.getD t undef=a'.tmps.getD t undef:=by
 rw[Array.getD_eq_getD_getElem?,Array.getD_eq_getD_getElem?,h.tmps t ht]
theorem RU.put {H:Tmp→Prop}{a a':Act}(h:RU H a a')(dst:Option Tmp)(v:Value):RU H (a.put dst v) (a'.put dst v):=by
 cases dst with
 |none=>exact h
 |some d=>
  refine⟨h.defers,by simp[Act.put,h.size],fun t ht=>?_⟩;simp only[Act.put,Array.getElem?_setIfInBounds,h.size]
  split
  ·rfl
  exact h.tmps t ht
theorem mr {a:Act}{d t:Tmp}{v:Value}:(a.put (some d) v).tmps[t]? =if t=d∧d<a.tmps.size then some v else a.tmps[t]? :=by
 simp only[Act.put,Array.getElem?_setIfInBounds]
 by_cases h1:d=t
 ·subst h1
  by_cases h2:d<a.tmps.size
  ·simp[h2]
  simp[h2]
 rw[if_neg h1,if_neg (fun h=>h1 h.1.symm)]
theorem aR.tP {G:Ctx}{dom:Nat→Prop}{ρ:Nat→Loc}{s:St}{a a':Act}{w:World}{H:Tmp→Prop}(h:aR G dom ρ s a' w)(hu:RU H a a'):aR G dom ρ (tP s H) a w:=
 {
  h with
  hd:=by rw[hu.defers];exact h.hd
  hn:=by rw[hu.size];exact h.hn
  env:=fun t=>by
   by_cases ht:H t
   ·rw[Ae _ _ _ ht];trivial
   rw[sD _ _ _ ht,hu.getD ht];exact h.env t}
theorem RU.exec {H:Tmp→Prop}{a a':Act}(h:RU H a a'){o:Oper}(hns:xM o.op=true)(ht:∀t∈tmpsOf o,¬H t):execOp a.eval o=execOp a'.eval o:=by
 refine execOp_congr o (fun cs b he=>by rw[he]at hns;cases hns) fun x hx=>?_
 cases x with
 |tmp t=>exact h.getD (ht t (List.mem_filterMap.2 ⟨.tmp t,by simpa using hx,rfl⟩))
 |const v=>rfl
 |global g=>rfl
 |func f=>rfl
theorem RU.wp {P:Program}{H:Tmp→Prop}{a a':Act}(h:RU H a a'){o:Oper}(hns:xM o.op=true)(ht:∀t∈tmpsOf o,¬H t){w:World}{next next':Act→World→Prop}{Q:Exit→Act→World→Prop}
  (hQ:∀ch a a' w,Q (.panic ch) a w→Q (.panic ch) a' w) (hn:∀b b' w,RU H b b'→next' b' w→next b w) (hw:o.wp P a' w next' Q):o.wp P a w next Q:=by
 unfold Oper.wp at hw⊢;rw[h.exec hns ht]
 cases hr:(execOp a'.eval o).run P w with
 |halt x w'=>
  rw[hr]at hw
  cases x<;>first|exact hQ _ _ _ _ hw|exact hw.elim
 |ok x w'=>
  rw[hr]at hw
  cases x with
  |value v=>exact hn _ _ _ (h.put _ v) hw
  |skip=>exact hn _ _ _ (h.put _ undef) hw
  |defer d=>
   refine hn _ _ _ (RU.put (⟨?_,h.size,h.tmps⟩:RU H {a with defers:=d::a.defers} {a' with defers:=d::a'.defers}) _ undef) hw;simp only[h.defers]
  |enter f args=>
   refine Calls.mono hw fun e w'' he=>?_
   cases e with
   |returned v=>exact hn _ _ _ (h.put _ v) he
   |panicked ch=>exact hQ _ _ _ _ he
   |outgrown=>exact he
  |row r args=>exact Rows.mono hw fun v w'' he=>hn _ _ _ (h.put _ v) he
  |_=>exact hw.elim
section
variable {P:Program}{ops:Array Oper}{ws:WL}{σ:St}{es:Nat→eG}{K:St→Prop}
def G9 (P:Program)(ops:Array Oper)(s:St)(o:Oper)(d:Nat):Prop:=match o.guard with
 |none=>Lz P o s s.nx (lk s.env d)
 |some (g,want)=>∃t b,br ops g=some t∧gv (lk s.env t)=some b∧(if b=some want then Lz P o s s.nx (lk s.env d)else lk s.env d= .aA [])
def Promise (P:Program)(ops:Array Oper)(s:St)(pd:List Nat):Prop:=∀j∈pd,∃o d,ops[j]? =some o∧o.dst=some d∧G9 P ops s o d∧d<s.n
def EF (P:Program)(ops:Array Oper)(i:Nat)(pd:List Nat)(s:St)(K:St→Prop):Prop:=∃o,ops[i]? =some o∧bT o s.n∧mv P o s (fun s'=>Promise P ops s' pd∧K s')
def lT (P:Program)(ops:Array Oper):WL→St→(St→Prop)→Prop
 |.nil,s,K=>K s
 |.cons i pd sub .nil,s,K=>EF P ops i pd s (fun s'=>lT P ops sub s' K)
 |.cons i pd sub (.cons i' pd' sub' alt'),s,K=>EF P ops i pd s (fun s'=>lT P ops sub s' K)∧lT P ops (.cons i' pd' sub' alt') s K
 |.cons _ _ _ (.opt _ _ _ _),_,_=>False
 |.opt _ _ _ _,_,_=>False
theorem nq {P:Program}{ops:Array Oper}{ws:WL}{ex:Option Nat}{pre:List Nat}{i:Nat}{s:St}{K:St→Prop}:∀{t:WL},lT P ops t s K→mm ops ws ex pre t=true→rM t i=true→∃pd sub,EF P ops i pd s (fun s'=>lT P ops sub s' K)∧Pb ops ws ex pre i pd sub
 |.nil,_,_,hn=>by cases hn
 |.opt _ _ _ _,_,_,hn=>by cases hn
 |.cons _ _ _ (.opt _ _ _ _),h,_,_=>by rw[lT]at h;exact h.elim
 |.cons i0 pd sub .nil,h,hg,hn=>by
  simp only[rM]at hn
  by_cases he:i=i0
  ·subst he;rw[lT]at h;exact⟨pd,sub,h,(jg hg).1⟩
  rw[if_neg he]at hn;cases hn
 |.cons i0 pd sub (.cons i' pd' sub' alt'),h,hg,hn=>by
  rw[lT]at h
  by_cases he:i=i0
  ·subst he;exact⟨pd,sub,h.1,(jg hg).1⟩
  refine nq h.2 (jg hg).2 ?_;rw[rM,if_neg he]at hn;exact hn
def hid (ops:Array Oper)(ws:WL)(listed:Array Bool)(t:Tmp):Prop:=∃j,j<ops.size∧bG ws j=true∧listed.getD j false=false∧br ops j=some t
def tG (σ:St)(ops:Array Oper)(es:Nat→eG)(ws:WL):St:={aK σ σ.nx ops es (bG ws) ops.size with nx:=σ.nx+ops.size}
structure oP (P:Program) (G:Ctx) (ops:Array Oper) (ws:WL) (ex:Option Nat) (F:Prop) (σ:St) (es:Nat→eG) (K:St→Prop) (listed:Array Bool) (a:Act) (w:World):Prop where
 size:listed.size=ops.size
 down:∀i,listed.getD i false=true→∀p∈da ops i,listed.getD p false=true
 where_:(F∧(∀i,listed.getD i false=true→bG ws i=true)∧uO G (fun b=>b<σ.nx∨∃j,j<ops.size∧listed.getD j false=true∧b=σ.nx+j) (aK σ σ.nx ops es (fun j=>bG ws j&&listed.getD j false) ops.size) a w)∨
  (∃(pre:List Nat) (rest:WL) (pd:List Nat) (s:St) (a':Act),(∀j,j<ops.size→bG ws j=false→(listed.getD j false=true↔j∈pre))∧(∀k∈pre,listed.getD k false=true)∧mm ops ws ex pre rest=true∧(kf ops ws pre rest=true∧∀q,ex=some q→listed.getD q false=true)∧
   (∀j,j<ops.size→bG ws j=true→listed.getD j false=false→j∈pd)∧lT P ops rest s K∧Promise P ops s pd∧oI G s a' w∧RU (hid ops ws listed) a a')
theorem mD (L:Nat→Bool)(t:Nat):∀k,(∀j,j<k→L j=true→br ops j≠some t)→lk (aK σ σ.nx ops es L k).env t=lk σ.env t:=by
 intro k
 induction k with
 |zero=>intro _;rfl
 |succ k ih=>
  intro h;simp only[aK]
  split
  ·rename_i hL
   rw[j5,if_neg (h k (Nat.lt_succ_self k) hL)];exact ih (fun j hj=>h j (Nat.lt_succ_of_lt hj))
  exact ih (fun j hj=>h j (Nat.lt_succ_of_lt hj))
theorem Pc (hck:Of ops ws){i:Nat}{o:Oper}(ho:ops[i]? =some o)(hi:bG ws i=true){L:Nat→Bool}(hL:∀j,L j=true→bG ws j=true)(hp:∀p∈da ops i,bG ws p=true→L p=true):
  iX (aK σ σ.nx ops es (bG ws) i) (aK σ σ.nx ops es L ops.size) σ.nx o:=by
 have his:=(Array.getElem?_eq_some_iff.1 ho).1;refine⟨by rw[fI,fI],fun x hx=>?_,fun b hb=>by rw[iZ _ ops.size b hb,iZ _ i b hb]⟩
 cases x with
 |tmp t=>
  have htm:t∈tmpsOf o:=List.mem_filterMap.2 ⟨.tmp t,by simpa using hx,rfl⟩;show lk _ t=lk _ t
  by_cases hex:∃j,j<ops.size∧bG ws j=true∧br ops j=some t
  ·obtain⟨j,hj,hjR,hd⟩:=hex;obtain⟨hji,hjp⟩:=(hck.data i o ho hi t htm j hj hd).1 hjR;rw[dz (N:=ops.size) L hd (hp j hjp hjR) hck.dst ops.size (Nat.le_refl _) hj,dz (N:=ops.size) (bG ws) hd hjR hck.dst i (by omega) hji]
  rw[mD L t ops.size (fun j hj hLj h=>hex ⟨j,hj,hL j hLj,h⟩),mD (bG ws) t i (fun j hj hLj h=>hex ⟨j,by omega,hLj,h⟩)]
 |const v=>rfl
 |global g=>rfl
 |func f=>rfl
theorem ghost (hck:Of ops ws)(hfz:∀j,∀b∈(es j).fz,b<σ.nx)
  (hstep:∀(i:Nat) o,bG ws i=true→ops[i]? =some o→kX P ops σ.nx i o (aK σ σ.nx ops es (bG ws) i) (es i))
  {G:Ctx} {listed:Array Bool} {a:Act} {w:World} {dom:Nat→Prop} (hW:∀i,listed.getD i false=true→bG ws i=true)
  (hlate:∀j,j<ops.size→bG ws j=true→listed.getD j false=false→∃o,ops[j]? =some o∧iD o.op=true)
  (hs:uO G dom (aK σ σ.nx ops es (fun j=>bG ws j&&listed.getD j false) ops.size) a w) (hdown:∀i,listed.getD i false=true→∀p∈da ops i,listed.getD p false=true):
  ∀n,n≤ops.size→∃a',uO G dom (aK σ σ.nx ops es (fun j=>bG ws j&&(listed.getD j false||decide (j<n))) ops.size) a' w∧RU (hid ops ws listed) a a':=by
 intro n
 induction n with
 |zero=>
  intro _;refine⟨a,?_,RU.refl _ _⟩;rw[cO (L':=fun j=>bG ws j&&listed.getD j false) ops.size (fun j _=>by simp)];exact hs
 |succ n ih=>
  intro hn;obtain⟨a',⟨ρ,h1⟩,hu⟩:=ih (by omega)
  by_cases hc:bG ws n=true∧listed.getD n false=false
  ·obtain⟨hR,hl⟩:=hc;obtain⟨o,ho,hlt⟩:=hlate n (by omega) hR hl;obtain⟨hdl,hst⟩:=hstep n o hR ho
   have hagr:=Pc (σ:=σ) (es:=es) hck ho hR (L:=fun j=>bG ws j&&(listed.getD j false||decide (j<n))) (fun j hj=>by simp at hj;exact hj.1) (fun p hp hpR=>by
    have:=hck.pred n o ho p hp
    simp[hpR,this])
   have hval:(es n).vN=none∧(es n).fz=[]∧∃v,bZ ρ dom (aF G (aK σ σ.nx ops es (fun j=>bG ws j&&(listed.getD j false||decide (j<n))) ops.size).own ρ w) w (es n).val v:=by
    have doit:a7 P o (aK σ σ.nx ops es (bG ws) n) σ.nx (σ.nx+n) (es n)→(es n).vN=none∧(es n).fz=[]∧∃v,bZ ρ dom (aF G (aK σ σ.nx ops es (fun j=>bG ws j&&(listed.getD j false||decide (j<n))) ops.size).own ρ w) w (es n).val v:=fun hre=>by
     obtain⟨hblk,hfzn,hpe⟩:=hre.2 hlt;obtain⟨v,_,hv⟩:=hpe G dom ρ _ a' w h1 hagr;exact⟨hblk,hfzn,v,hv⟩
    split at hst
    ·exact doit hst
    obtain⟨t,b,_,_,hst⟩:=hst
    split at hst
    ·exact doit hst
    rw[hst];exact⟨rfl,rfl,undef,⟨#[],rfl,trivial⟩⟩
   obtain⟨hblk,hfzn,v,hv⟩:=hval;have hdst:br ops n=o.dst:=by unfold br;rw[ho];rfl
   have h2:=h1.put (dst:=o.dst) (x:=(es n).val) (v:=v) (fun d hd=>by have:=hdl d hd;rw[fI]at this⊢;exact this) hv;refine⟨a'.put o.dst v,⟨ρ,?_⟩,?_⟩
   ·have he:es n=⟨(es n).val,none,[]⟩:=by
     cases hen:es n with
     |mk v b f=>rw[hen]at hblk hfzn;simp only at hblk hfzn;rw[hblk,hfzn]
    have h3:=nN (σ:=σ) (nx0:=σ.nx) (e:=es) (N:=ops.size) (L:=fun j=>bG ws j&&(listed.getD j false||decide (j<n))) (i:=n) (by simp[hl]) hck.dst hfz ops.size (Nat.le_refl _) (by omega)
    rw[he,St.add_plain,hdst]at h3;have h4:=h2.Fu h3.symm
    rw[cO (L':=fun j=>(bG ws j&&(listed.getD j false||decide (j<n)))||j==n) ops.size (fun j _=>?_)]
    ·exact h4
    by_cases hjn:j=n
    ·subst hjn;simp[hR]
    have e1:decide (j<n+1)=decide (j<n):=by simp;omega
    have e2:(j==n)=false:=by simpa using hjn
    rw[e1,e2,Bool.or_false]
   cases hd:o.dst with
   |none=>exact hu
   |some d=>
    refine⟨hu.defers,by rw[hu.size];simp[Act.put],fun t ht=>?_⟩;rw[mr,if_neg,hu.tmps t ht];rintro⟨rfl,_⟩;exact ht ⟨n,by omega,hR,hl,by rw[hdst,hd]⟩
  refine⟨a',⟨ρ,?_⟩,hu⟩
  rw[cO (L':=fun j=>bG ws j&&(listed.getD j false||decide (j<n))) ops.size (fun j _=>?_)]
  ·exact h1
  by_cases hjn:j=n
  ·subst hjn
   cases hR:bG ws j with
   |false=>rfl
   |true=>
    have:listed.getD j false=true:=by
     cases hl:listed.getD j false with
     |true=>rfl
     |false=>exact absurd ⟨hR,hl⟩ hc
    rw[this];rfl
  have e1:decide (j<n+1)=decide (j<n):=by simp;omega
  rw[e1]
theorem kP {L:Nat→Bool}(h:∀j,j<ops.size→bG ws j=true→L j=true):aK σ σ.nx ops es (fun j=>bG ws j&&L j) ops.size=aK σ σ.nx ops es (bG ws) ops.size:=
 cO ops.size fun j hj=>by
  cases hR:bG ws j with
  |false=>rfl
  |true=>rw[h j hj hR];rfl
theorem L5 {ex:Option Nat}{F:Prop}{G:Ctx}{Q:Exit→Act→World→Prop}(hP:∀ch a a' w,Q (.panic ch) a w→Q (.panic ch) a' w){fuel:Nat}{listed:Array Bool}{a:Act}{w:World}(hsize:listed.size=ops.size)(hdn:∀i,listed.getD i false=true→∀p∈da ops i,listed.getD p false=true)
  {i:Nat} (his:i<ops.size) (hp:∀p∈da ops i,listed.getD p false=true) (hiW:bG ws i=false) {pre:List Nat} {sub:WL} {pdi:List Nat} {s:St} {a':Act} (h1:∀j,j<ops.size→bG ws j=false→(listed.getD j false=true↔j∈pre)) (hpl:∀k∈pre,listed.getD k false=true)
  (hwok:Pb ops ws ex pre i pdi sub) (h6:EF P ops i pdi s (fun s'=>lT P ops sub s' K)) (h8:oI G s a' w) (h9:RU (hid ops ws listed) a a') (hexl:∀q,ex=some q→listed.getD q false=true)
  (ih:∀a w,oP P G ops ws ex F σ es K (listed.setIfInBounds i true) a w→wpAny P .any ops Q fuel (listed.setIfInBounds i true) a w):wpOp P ops Q i (wpAny P .any ops Q fuel (listed.setIfInBounds i true)) a w:=by
 have ho:=Array.getElem?_eq_getElem his;have hlt:i<listed.size:=by rw[hsize];exact his
 have hdown':∀j,(listed.setIfInBounds i true).getD j false=true→∀p∈da ops j,(listed.setIfInBounds i true).getD p false=true:=by
  intro j hj p hpj;rw[aV hlt]at hj⊢
  rcases Bool.or_eq_true_iff.1 hj with hj|hj
  ·rw[hdn j hj p hpj];rfl
  have:j=i:=by simpa using hj
  subst this;rw[hp p hpj];rfl
 have hclos:∀j,eR ops ops.size i j=true→listed.getD j false=true:=fun j hj=>fB hdn _ i j hp hj;obtain⟨o,ho',hg,hns,hop⟩:=hwok.op;rw[ho]at ho';obtain rfl:=Option.some.inj ho';obtain⟨o2,ho2,hdl,hwe⟩:=h6;rw[ho]at ho2;obtain rfl:=Option.some.inj ho2;have hpend:∀j,j<ops.size→bG ws j=true→listed.getD j false=false→j∈pdi:=fun j hj hjR hjl=>by
  rcases hwok.all j hj hjR with k|ke|⟨k0,hk0,k⟩
  ·exact k
  ·rw[hexl j ke]at hjl;cases hjl
  rcases List.mem_cons.1 hk0 with rfl|hk0
  ·rw[hclos j k]at hjl;cases hjl
  rw[fB hdn _ k0 j (hdn k0 (hpl k0 hk0)) k]at hjl;cases hjl
 unfold wpOp;simp only[ho];rw[ig hg,if_pos rfl];refine .inl (h9.wp hns (fun t ht hh=>?_) hP ?_ (hwe G a' w h8 Q (fun b' w'=>∃s',(Promise P ops s' pdi∧lT P ops sub s' K)∧oI G s' b' w') fun s' b' w' k1 k2=>⟨s',k1,k2⟩))
 ·obtain⟨j,hj,hjR,hjl,hjd⟩:=hh;obtain⟨oj,d,_,k1,_,k2,k3⟩:=hop j (hpend j hj hjR hjl)
  have:br ops j=some d:=by unfold br;rw[k1];exact k2
  rw[this]at hjd;obtain rfl:=Option.some.inj hjd;exact k3 ht
 rintro b b' w' hru ⟨s',⟨k1,k2⟩,k3⟩;refine ih _ _ ⟨by simpa using hsize,hdown',.inr ⟨i::pre,sub,pdi,s',b',fun j hj hjR=>?_,fun k hk=>?_,hwok.sub,⟨hwok.cov,fun q hq=>by rw[aV hlt,hexl q hq];rfl⟩,fun j hj hjR hjl=>?_,k2,k1,k3,⟨hru.defers,hru.size,fun t ht=>hru.tmps t fun hh=>ht ?_⟩⟩⟩
 ·rw[aV hlt,Bool.or_eq_true,h1 j hj hjR,List.mem_cons,beq_iff_eq]
  constructor
  ·rintro(k|k)
   ·exact .inr k
   exact .inl k
  rintro(k|k)
  ·exact .inr k
  exact .inl k
 ·rw[aV hlt,Bool.or_eq_true,beq_iff_eq]
  rcases List.mem_cons.1 hk with hk|hk
  ·exact .inr hk
  exact .inl (hpl k hk)
 ·rw[aV hlt]at hjl;simp only[Bool.or_eq_false_iff]at hjl;exact hpend j hj hjR hjl.1
 obtain⟨j,hj,hjR,hjl,hjd⟩:=hh;refine⟨j,hj,hjR,?_,hjd⟩;rw[aV hlt,hjl,Bool.false_or,beq_eq_false_iff_ne];intro e;rw[e,hiW]at hjR;cases hjR
theorem kW {ex:Option Nat}{F:Prop}(hck:Of ops ws)(hcov:F→kf ops ws [] ws=true)(hgw:F→mm ops ws ex [] ws=true)(hfz:∀j,∀b∈(es j).fz,b<σ.nx)
  (hstep:F→∀(i:Nat) o,bG ws i=true→ops[i]? =some o→kX P ops σ.nx i o (aK σ σ.nx ops es (bG ws) i) (es i))
  (hW:F→lT P ops ws (tG σ ops es ws) K)
  {G:Ctx} {Q:Exit→Act→World→Prop} (hsw:F→∀q,ex=some q→∀(fuel:Nat) (listed:Array Bool) (a:Act) (w:World) (i:Nat),oP P G ops ws ex F σ es K listed a w→(∀j,listed.getD j false=true→bG ws j=true)→
   uO G (fun b=>b<σ.nx∨∃j,j<ops.size∧listed.getD j false=true∧b=σ.nx+j) (aK σ σ.nx ops es (fun j=>bG ws j&&listed.getD j false) ops.size) a w→listed.getD q false=false→
   i∈Region.ready .any ops listed→iL ws i=true→iF ops listed≤fuel+1→wpOp P ops Q i (wpAny P .any ops Q fuel (listed.setIfInBounds i true)) a w) (hQ:∀s a w,K s→oI G s a w→Q .normal a w) (hP:∀ch a a' w,Q (.panic ch) a w→Q (.panic ch) a' w):
  ∀(fuel:Nat) (listed:Array Bool) (a:Act) (w:World),oP P G ops ws ex F σ es K listed a w→iF ops listed≤fuel→wpAny P .any ops Q fuel listed a w:=by
 have hend:∀(listed:Array Bool) (a:Act) (w:World),oP P G ops ws ex F σ es K listed a w→(∀j,j<ops.size→listed.getD j false=true)→Q .normal a w:=by
  intro listed a w h hall
  rcases h.where_ with⟨hF,hR,ρ,hsim⟩|⟨pre,rest,pd,s,a',h1,h2,h3,h4,h5,h6,h7,h8,h9⟩
  ·have hW:=hW hF;have hno:∀i,i<ops.size→iL ws i=false:=fun i hi=>by
    have:=hR i (hall i hi)
    simpa[bG]using this
   cases hws:ws with
   |nil=>
    rw[hws]at hW hsim;refine hQ _ a w hW ⟨ρ,?_⟩;rw[kP (fun j hj _=>hall j hj)]at hsim
    have h10:=hsim.cR (dom':=fun b=>b<σ.nx+ops.size) (fun b hb=>by rcases hb with hb|⟨j,hj,_,rfl⟩<;>omega)
    exact h10.Fu ⟨fun _=>rfl,fun _=>rfl,rfl⟩
   |cons i pd sub alt=>
    exfalso
    have hw:=hgw hF;rw[hws]at hw;obtain⟨o,ho,_⟩:=(jg hw).1.op
    have:=hno i (Array.getElem?_eq_some_iff.1 ho).1
    rw[hws]at this
    simp[iL]at this
   |opt _ _ _ _=>rw[hws]at hW;exact hW.elim
  cases hrest:rest with
  |nil=>
   rw[hrest]at h6;have ha:a=a':=h9.eq fun t ht=>by
    obtain⟨j,hj,_,hl,_⟩:=ht;rw[hall j hj]at hl;cases hl
   subst ha;exact hQ s a w h6 h8
  |opt _ _ _ _=>rw[hrest]at h6;exact h6.elim
  |cons i pd' sub alt=>
   exfalso
   rw[hrest]at h3;have h11:=h3;simp only[mm,Bool.and_eq_true]at h11;obtain⟨⟨⟨h12,_⟩,_⟩,_⟩:=h11
   cases ho:ops[i]? with
   |none=>rw[ho]at h12;cases h12
   |some o=>
    rw[ho]at h12;simp only[Bool.and_eq_true,Bool.not_eq_true']at h12;obtain⟨⟨⟨⟨⟨_,_⟩,hnp⟩,hwi⟩,_⟩,_⟩:=h12;have his:=(Array.getElem?_eq_some_iff.1 ho).1
    have:=(h1 i his (by simp[bG,hwi])).1 (hall i his)
    simp[this]at hnp
 intro fuel
 induction fuel with
 |zero=>
  intro listed a w h hf;have hall:=rA (Nat.le_zero.1 hf);refine⟨?_,hend listed a w h hall⟩
  cases hr:Region.ready .any ops listed with
  |nil=>rfl
  |cons i l=>
   obtain⟨_,hi,hu⟩:=ij (i:=i) (listed:=listed) (ops:=ops) (by rw[hr];simp);have h1:=hall i hi;have hlt:i<listed.size:=by rw[h.size];exact hi
   simp[Array.getD,hlt]at h1 hu
   rw[h1]at hu;cases hu
 |succ fuel ih=>
  intro listed a w h hf;refine⟨fun hr=>?_,fun i hi=>?_⟩
  ·have hall:∀n i,i<n→i<ops.size→listed.getD i false=true:=by
    intro n
    induction n with
    |zero=>intro i hi;omega
    |succ n ihn=>
     intro i hin his
     by_cases hu:listed.getD i false=true
     ·exact hu
     have hlt:i<listed.size:=by rw[h.size];exact his
     have hu':listed.getD i true=false:=by
      simp[Array.getD,hlt]at hu⊢
      exact hu
     have hm:=mC (ops:=ops) (Array.getElem?_eq_getElem his) hu' (fun p hp=>ihn p (by have:=hck.pred i _ (Array.getElem?_eq_getElem his) p hp;omega) (by have:=hck.pred i _ (Array.getElem?_eq_getElem his) p hp;omega));rw[hr]at hm;cases hm
   exact hend listed a w h (fun j hj=>hall _ j (Nat.lt_succ_self _) hj)
  obtain⟨hp,his,hu⟩:=ij hi;have ho:=Array.getElem?_eq_getElem his;have hcount:=ox h.size his hu;have hlt:i<listed.size:=by rw[h.size];exact his
  have hu':listed.getD i false=false:=by
   simp[Array.getD,hlt]at hu⊢
   exact hu
  have hdown':∀j,(listed.setIfInBounds i true).getD j false=true→∀p∈da ops j,(listed.setIfInBounds i true).getD p false=true:=by
   intro j hj p hpj;rw[aV hlt]at hj⊢
   rcases Bool.or_eq_true_iff.1 hj with hj|hj
   ·rw[h.down j hj p hpj];rfl
   have:j=i:=by simpa using hj
   subst this;rw[hp p hpj];rfl
  have hclos:∀j,eR ops ops.size i j=true→listed.getD j false=true:=fun j hj=>fB h.down _ i j hp hj
  by_cases hiR:bG ws i=true
  ·rcases h.where_ with⟨hF,hlR,ρ,hsim⟩|⟨pre,rest,pd,s,a',h1,h2,h3,h4,h5,h6,h7,h8,h9⟩
   ·have hst:=hstep hF i ops[i] hiR ho;have hagr:=Pc (σ:=σ) (es:=es) hck ho hiR (L:=fun j=>bG ws j&&listed.getD j false) (fun j hj=>by simp at hj;exact hj.1) (fun p hpp hpR=>by rw[hpR,hp p hpp];rfl);have hstand:∀a' w',uO G (fun b=>(b<σ.nx∨∃j,j<ops.size∧listed.getD j false=true∧b=σ.nx+j)∨b=σ.nx+i) ((aK σ σ.nx ops es (fun j=>bG ws j&&listed.getD j false) ops.size).add (br ops i) (σ.nx+i) (es i)) a' w'→
      oP P G ops ws ex F σ es K (listed.setIfInBounds i true) a' w':=by
     rintro a' w' ⟨ρ',k1⟩;refine⟨by simpa using h.size,hdown',.inl ⟨hF,fun j hj=>?_,ρ',?_⟩⟩
     ·rw[aV hlt]at hj
      rcases Bool.or_eq_true_iff.1 hj with hj|hj
      ·exact hlR j hj
      have:j=i:=by simpa using hj
      rw[this];exact hiR
     have k2:=k1.cR (dom':=fun b=>b<σ.nx∨∃j,j<ops.size∧(listed.setIfInBounds i true).getD j false=true∧b=σ.nx+j) (fun b hb=>by
      rcases hb with(hb|⟨j,hj,hlj,rfl⟩)|rfl
      ·exact .inl hb
      ·exact .inr ⟨j,hj,by rw[aV hlt,hlj];rfl,rfl⟩
      exact .inr ⟨i,his,by rw[aV hlt];simp,rfl⟩)
     have k3:=nN (σ:=σ) (nx0:=σ.nx) (e:=es) (N:=ops.size) (L:=fun j=>bG ws j&&listed.getD j false) (i:=i) (by simp[hu']) hck.dst hfz ops.size (Nat.le_refl _) his;have k4:=k2.Fu k3.symm
     rw[cO (L:=fun j=>(bG ws j&&listed.getD j false)||j==i) (L':=fun j=>bG ws j&&(listed.setIfInBounds i true).getD j false) ops.size (fun j _=>by
      rw[aV hlt]
      by_cases hji:j=i
      ·subst hji;simp[hiR]
      have:(j==i)=false:=by simpa using hji
      rw[this,Bool.or_false,Bool.or_false])]at k4
     exact k4
    have hdst:br ops i=ops[i].dst:=by unfold br;rw[ho];rfl
    have hid':¬(σ.nx+i<σ.nx∨∃j,j<ops.size∧listed.getD j false=true∧σ.nx+i=σ.nx+j):=by
     rintro(k1|⟨j,_,hj,he⟩)
     ·omega
     have:i=j:=by omega
     subst this;rw[hu']at hj;cases hj
    unfold wpOp;simp only[ho];obtain⟨hdl,hst⟩:=hst;have doit:a7 P ops[i] (aK σ σ.nx ops es (bG ws) i) σ.nx (σ.nx+i) (es i)→ops[i].wp P a w (wpAny P .any ops Q fuel (listed.setIfInBounds i true)) Q:=by
     intro hre;refine hre.1 G _ ρ _ a w hsim hid' hagr Q _ fun v w' k5=>?_;refine ih _ _ _ (hstand _ _ ?_) (by omega);rw[hdst];exact k5
    split at hst
    ·rename_i hg
     rw[ig hg,if_pos rfl];exact .inl (doit hst)
    rename_i g want hg
    obtain⟨t,b,ht,hb,hst⟩:=hst;obtain⟨hgi,hgp,hgR⟩:=hck.guard i _ g want ho hiR hg;have hb':gv (lk (aK σ σ.nx ops es (fun j=>bG ws j&&listed.getD j false) ops.size).env t)=some b:=by
     rw[dz (N:=ops.size) (fun j=>bG ws j&&listed.getD j false) (t:=t) (j:=g) ht (by rw[hgR,hp g hgp];rfl) hck.dst ops.size (Nat.le_refl _) (by omega)];rw[dz (N:=ops.size) (bG ws) (t:=t) (j:=g) ht hgR hck.dst i (by omega) hgi]at hb;exact hb
    rw[nr hsim hg ht hb']
    by_cases hbw:b=some want
    ·rw[if_pos hbw]at hst;rw[if_pos (by simp[hbw])];exact .inl (doit hst)
    rw[if_neg hbw]at hst;rw[if_neg (by simpa using hbw)];refine ih _ _ _ (hstand _ _ ⟨ρ,?_⟩) (by omega);rw[hst,hdst];have k5:=hsim.put (dst:=ops[i].dst) (x:=.aA []) (v:=undef) (fun d hd=>by have:=hdl d hd;rw[fI]at this⊢;exact this) ⟨#[],rfl,trivial⟩;have k6:=k5.cR (dom':=fun b=>(b<σ.nx∨∃j,j<ops.size∧listed.getD j false=true∧b=σ.nx+j)∨b=σ.nx+i) (fun b hb=>Or.inl hb);unfold eG.skip;rw[St.add_plain];exact k6
   -- one that is late
   have hipd:=h5 i his hiR hu';obtain⟨o,d,ho',hd,hpe,hdn⟩:=h7 i hipd;rw[ho]at ho';obtain rfl:=Option.some.inj ho';obtain⟨ρ,hsim⟩:=h8;have hdst:br ops i=some d:=by unfold br;rw[ho];exact hd
   have hsimH:=hsim.tP h9;have hagr:iX s (tP s (hid ops ws listed)) s.nx ops[i]:=by
    refine⟨rfl,fun x hx=>?_,fun b _=>rfl⟩
    cases x with
    |tmp t=>
     have htm:t∈tmpsOf ops[i]:=List.mem_filterMap.2 ⟨.tmp t,by simpa using hx,rfl⟩;refine sD _ _ _ fun hh=>?_;obtain⟨j,hj,hjR,hjl,hjd⟩:=hh;rw[hp j ((hck.data i _ ho hiR t htm j hj hjd).1 hjR).2]at hjl;cases hjl
    |const v=>rfl
    |global g=>rfl
    |func f=>rfl
   have fin:∀v,bZ ρ (fun b=>b<s.nx) (aF G s.own ρ w) w (lk s.env d) v→wpAny P .any ops Q fuel (listed.setIfInBounds i true) (a.put (some d) v) w:=by
    intro v hv;refine ih _ _ _ ?_ (by omega);have hnew:aR G (fun b=>b<s.nx) ρ s (a'.put (some d) v) w:=by
     have k1:=hsim.put (dst:=some d) (x:=lk s.env d) (v:=v) (fun d' hd'=>by obtain rfl:=Option.some.inj hd';exact hdn) hv;refine k1.Fu ⟨fun t=>?_,fun _=>rfl,rfl⟩;rw[CB]
     by_cases ht:some d=some t
     ·obtain rfl:=Option.some.inj ht;rw[if_pos rfl]
     rw[if_neg ht]
    refine⟨by simpa using h.size,hdown',.inr ⟨pre,rest,pd,s,a'.put (some d) v,fun j hj hjR=>?_,fun k hk=>by rw[aV hlt,h2 k hk];rfl,h3,⟨h4.1,fun q hq=>by rw[aV hlt,h4.2 q hq];rfl⟩,fun j hj hjR hjl=>?_,h6,h7,⟨ρ,hnew⟩,?_⟩⟩
    ·rw[←h1 j hj hjR,aV hlt]
     have:(j==i)=false:=by
      rw[beq_eq_false_iff_ne];intro e;rw[e,hiR]at hjR;cases hjR
     rw[this,Bool.or_false]
    ·rw[aV hlt]at hjl;simp only[Bool.or_eq_false_iff]at hjl;exact h5 j hj hjR hjl.1
    refine⟨h9.defers,by simp[Act.put,h9.size],fun t ht=>?_⟩;rw[mr,mr,h9.size]
    split
    ·rfl
    rename_i hne
    by_cases htd:t=d
    ·subst htd;have h10:a'.tmps.size≤t:=Nat.le_of_not_lt fun h11=>hne ⟨rfl,h11⟩;rw[Array.getElem?_eq_none (by rw[h9.size];exact h10),Array.getElem?_eq_none h10]
    refine h9.tmps t fun hh=>ht ?_;obtain⟨j,hj,hjR,hjl,hjd⟩:=hh;refine⟨j,hj,hjR,?_,hjd⟩;rw[aV hlt,hjl,Bool.false_or,beq_eq_false_iff_ne];intro e;subst e;rw[hdst]at hjd;exact htd (Option.some.inj hjd).symm
   unfold wpOp;simp only[ho];unfold G9 at hpe
   split at hpe
   ·rename_i hg
    obtain⟨v,hrun,hv⟩:=hpe G _ ρ _ a w hsimH hagr;rw[ig hg,if_pos rfl];refine .inl (Oper.cS hrun ?_);rw[hd];exact fin v hv
   rename_i g want hg
   obtain⟨t,b,ht,hb,hpe⟩:=hpe;obtain⟨hgi,hgp,hgR⟩:=hck.guard i _ g want ho hiR hg;have hb':gv (lk (tP s (hid ops ws listed)).env t)=some b:=by
    rw[sD _ _ _ ?_]
    ·exact hb
    rintro⟨j,hj,hjR,hjl,hjd⟩
    by_cases hjg:j=g
    ·subst hjg;rw[hp j hgp]at hjl;cases hjl
    exact hck.dst j g t hj (by omega) hjg hjd ht
   rw[nr hsimH hg ht hb']
   by_cases hbw:b=some want
   ·rw[if_pos hbw]at hpe;rw[if_pos (by simp[hbw])];obtain⟨v,hrun,hv⟩:=hpe G _ ρ _ a w hsimH hagr;refine .inl (Oper.cS hrun ?_);rw[hd];exact fin v hv
   rw[if_neg hbw]at hpe;rw[if_neg (by simpa using hbw)];rw[hd];refine fin undef ?_;rw[hpe];exact⟨#[],rfl,trivial⟩
  have hiW:bG ws i=false:=by simpa using hiR
  have hiH:iL ws i=true:=by simpa[bG]using hiW
  by_cases hx:∃q,ex=some q∧listed.getD q false=false
  ·obtain⟨q,hq,hql⟩:=hx
   rcases h.where_ with⟨hF,hlR,hsim⟩|⟨pre,rest,pd,s,a',h1,h2,h3,h4,h5,h6,h7,h8,h9⟩
   ·exact hsw hF q hq fuel listed a w i h hlR hsim hql hi hiH hf
   rw[h4.2 q hq]at hql;cases hql
  have hexl:∀q,ex=some q→listed.getD q false=true:=fun q hq=>by
   cases hl:listed.getD q false with
   |true=>rfl
   |false=>exact absurd ⟨q,hq,hl⟩ hx
  -- where it stands among those that write
  have data:∃(pre:List Nat) (sub:WL) (pdi:List Nat) (s:St) (a':Act),(∀j,j<ops.size→bG ws j=false→(listed.getD j false=true↔j∈pre))∧(∀k∈pre,listed.getD k false=true)∧Pb ops ws ex pre i pdi sub∧
    EF P ops i pdi s (fun s'=>lT P ops sub s' K)∧oI G s a' w∧RU (hid ops ws listed) a a'∧∀q,ex=some q→listed.getD q false=true:=by
   rcases h.where_ with⟨hF,hlR,hsim⟩|⟨pre,rest,pd,s,a',h1,h2,h3,h4,h5,h6,h7,h8,h9⟩
   ·rcases rK (hcov hF) his hiH with k|k|⟨j,hj,hjw,_,hcl⟩
    ·cases k
    ·obtain⟨pdi,sub,hop,hwok⟩:=nq (hW hF) (hgw hF) k;obtain⟨ρ,hsim⟩:=hsim;obtain⟨a',hs',hu2⟩:=ghost (P:=P) hck hfz (hstep hF) hlR (fun j hj hjR hjl=>by
      rcases hwok.all j hj hjR with kd|ke|⟨k0,hk0,kc⟩
      ·obtain⟨o,_,_,_,hop⟩:=hwok.op;obtain⟨oj,d,_,k1,k2,_⟩:=hop j kd;exact⟨oj,k1,k2⟩
      ·rw[hexl j ke]at hjl;cases hjl
      have hk0:k0=i:=by simpa using hk0
      rw[hk0]at kc;rw[hclos j kc]at hjl;cases hjl) ⟨ρ,hsim⟩ h.down ops.size (Nat.le_refl _)
     refine⟨[],sub,pdi,tG σ ops es ws,a',fun j hj hjR=>?_,fun k hk=>by(cases hk),hwok,hop,?_,hu2,hexl⟩
     ·constructor
      ·intro k;rw[hlR j k]at hjR;cases hjR
      intro k;cases k
     obtain⟨ρ',k1⟩:=hs';rw[kP (fun j hj _=>by simp[hj])]at k1
     have k2:=k1.cR (dom':=fun b=>b<σ.nx+ops.size) (fun b hb=>by rcases hb with hb|⟨j,hj,_,rfl⟩<;>omega)
     exact⟨ρ',k2.Fu ⟨fun _=>rfl,fun _=>rfl,rfl⟩⟩
    exfalso
    have k2:=hlR j (hclos j hcl)
    simp[bG,hjw]at k2
   rcases rK h4.1 his hiH with k|k|⟨j,hj,hjw,hjp,hcl⟩
   ·exfalso;rw[h2 i k]at hu';cases hu'
   ·obtain⟨pdi,sub,hop,hwok⟩:=nq h6 h3 k;exact⟨pre,sub,pdi,s,a',h1,h2,hwok,hop,h8,h9,h4.2⟩
   exfalso
   exact hjp ((h1 j hj (by simp[bG,hjw])).1 (hclos j hcl))
  obtain⟨pre,sub,pdi,s,a',h1,hpl,hwok,h6,h8,h9,hexl⟩:=data;exact L5 hP h.size h.down his hp hiW h1 hpl hwok h6 h8 h9 hexl fun a w hst=>ih _ _ _ hst (by omega)
def IN:List (Nat×V)→Nat→List (Nat×V)
 |[],_=>[]
 |(t,v)::r,d=>if t=d then IN r d else(t,v)::IN r d
def Om (d id:Nat)(s:St):St:={s with env:=IN s.env d,own:=del s.own id}
theorem Ho (d t:Nat):∀l:List (Nat×V),lk (IN l d) t=if t=d then .unk else lk l t
 |[]=>by simp[IN,lk]
 |(t',v)::r=>by
  have ih:=Ho d t r;simp only[IN]
  by_cases h:t'=d
  ·rw[if_pos h,ih]
   by_cases h2:t=d
   ·rw[if_pos h2,if_pos h2]
   rw[if_neg h2,if_neg h2,lk,if_neg (fun e=>h2 (e.trans h))]
  rw[if_neg h];simp only[lk]
  by_cases h2:t=t'
  ·subst h2;rw[if_pos rfl,if_neg h,if_pos rfl]
  rw[if_neg h2,if_neg h2,ih]
structure Qn (ops:Array Oper) (q d:Nat) (t1 t2:WL):Prop where
 g1:Of ops t1
 c1:kf ops t1 [] t1=true
 w1:mm ops t1 (some q) [] t1=true
 g2:Of ops t2
 c2:DA ops t2 q t2=true
 w2:mm ops t2 none [] t2=true
 qs:q<ops.size
 qR:bG t1 q=true
 qd:br ops q=some d
 same:∀j,j<ops.size→iL t2 j=(iL t1 j||j==q)
 rd:∀j o,bG t2 j=true→ops[j]? =some o→d∉tmpsOf o
 al:∃o,ops[q]? =some o∧o.guard=none∧jW o.op=true
theorem Ll {ops:Array Oper}{q d:Nat}{t1 t2:WL}(h:Ob ops (.opt q d t1 t2)=true):Qn ops q d t1 t2:=by
 simp only[Ob,Bool.and_eq_true]at h;obtain⟨⟨⟨⟨⟨⟨⟨⟨⟨⟨⟨h1,h2⟩,h3⟩,h4⟩,h5⟩,h6⟩,h7⟩,h8⟩,h9⟩,h10⟩,h11⟩,h12⟩:=h;refine⟨tA h1,h2,h3,tA h4,h5,h6,of_decide_eq_true h7,h8,by simpa using h9,fun j hj=>?_,fun j o hj ho=>?_,?_⟩
 ·have:=List.all_eq_true.1 h10 j (by simpa using hj)
  exact beq_iff_eq.1 this
 ·have hlt:=(Array.getElem?_eq_some_iff.1 ho).1
  have:=List.all_eq_true.1 h11 j (by simpa using hlt)
  rw[hj,ho]at this
  simpa using this
 cases ho:ops[q]? with
 |none=>rw[ho]at h12;cases h12
 |some o=>
  rw[ho]at h12;simp only[Bool.and_eq_true,Option.isNone_iff_eq_none]at h12;exact⟨o,rfl,h12.1,h12.2⟩
theorem xT {q d:Nat}{t1 t2:WL}(hk:Qn ops q d t1 t2)(hfz:∀j,∀b∈(es j).fz,b<σ.nx)(hqfz:(es q).fz=[])
  (hstep:∀(i:Nat) o,bG t1 i=true→ops[i]? =some o→kX P ops σ.nx i o (aK σ σ.nx ops es (bG t1) i) (es i))
  (hW1:lT P ops t1 (tG σ ops es t1) K) (hW2:lT P ops t2 (Om d (σ.nx+q) (tG σ ops es t1)) K)
  {G:Ctx} {Q:Exit→Act→World→Prop} (hQ:∀s a w,K s→oI G s a w→Q .normal a w) (hP:∀ch a a' w,Q (.panic ch) a w→Q (.panic ch) a' w):
  ∀(fuel:Nat) (listed:Array Bool) (a:Act) (w:World),oP P G ops t1 (some q) True σ es K listed a w→iF ops listed≤fuel→wpAny P .any ops Q fuel listed a w:=by
 have hR2:∀j,j<ops.size→bG t1 j=true→j≠q→bG t2 j=true:=fun j hj h1 hq=>by
  have:(j==q)=false:=by simpa using hq
  simp only[bG,hk.same j hj,this,Bool.or_false];exact h1
 have hR1:∀j,j<ops.size→bG t2 j=true→bG t1 j=true∧j≠q:=fun j hj h2=>by
  simp only[bG,hk.same j hj,Bool.not_eq_true',Bool.or_eq_false_iff]at h2;exact⟨by simp[bG,h2.1],by simpa using h2.2⟩
 have hq2:bG t2 q=false:=by simp[bG,hk.same q hk.qs]
 -- the runs with and without the new variable
 have hacc:∀k,k≤ops.size→(k≤q→aK σ σ.nx ops es (bG t1) k=aK σ σ.nx ops es (bG t2) k)∧(q<k→yI (aK σ σ.nx ops es (bG t1) k) ((aK σ σ.nx ops es (bG t2) k).add (some d) (σ.nx+q) (es q))):=fun k hkN=>by
  refine⟨fun hkq=>cO k fun j hj=>?_,fun hqk=>?_⟩
  ·have h1:j<ops.size:=by omega
   have h2:(j==q)=false:=by rw[beq_eq_false_iff_ne];omega
   simp only[bG,hk.same j h1,h2,Bool.or_false]
  have h3:=nN (σ:=σ) (nx0:=σ.nx) (e:=es) (N:=ops.size) (L:=bG t2) (i:=q) hq2 hk.g1.dst hfz k hkN hqk;rw[hk.qd]at h3
  rw[cO (L:=bG t1) (L':=fun j=>bG t2 j||j==q) k fun j hj=>?_]
  ·exact h3
  have h1:j<ops.size:=by omega
  by_cases hjq:j=q
  ·subst hjq;rw[hk.qR];simp
  have h2:(j==q)=false:=by simpa using hjq
  simp only[bG,hk.same j h1,h2,Bool.or_false]
 have hlk:∀k,k≤ops.size→∀t,t≠d→lk (aK σ σ.nx ops es (bG t1) k).env t=lk (aK σ σ.nx ops es (bG t2) k).env t:=fun k hkN t ht=>by
  by_cases hkq:k≤q
  ·rw[(hacc k hkN).1 hkq]
  rw[((hacc k hkN).2 (by omega)).env t,j5,if_neg (fun e=>ht (Option.some.inj e).symm)]
 have hagr:∀j o,bG t2 j=true→ops[j]? =some o→∀Z,iX (aK σ σ.nx ops es (bG t2) j) Z σ.nx o→iX (aK σ σ.nx ops es (bG t1) j) Z σ.nx o:=fun j o hj ho Z hZ=>by
  have hjs:=(Array.getElem?_eq_some_iff.1 ho).1;refine⟨by rw[hZ.n,fI,fI],fun x hx=>?_,fun b hb=>by rw[hZ.own b hb,iZ _ j b hb,iZ _ j b hb]⟩;rw[hZ.ev x hx]
  cases x with
  |tmp t=>
   have htm:t∈tmpsOf o:=List.mem_filterMap.2 ⟨.tmp t,by simpa using hx,rfl⟩;exact(hlk j (Nat.le_of_lt hjs) t (fun e=>hk.rd j o hj ho (e▸htm))).symm
  |const v=>rfl
  |global g=>rfl
  |func f=>rfl
 have hre:∀j o e,bG t2 j=true→ops[j]? =some o→a7 P o (aK σ σ.nx ops es (bG t1) j) σ.nx (σ.nx+j) e→a7 P o (aK σ σ.nx ops es (bG t2) j) σ.nx (σ.nx+j) e:=fun j o e hj ho h=>
  ⟨fun G dom ρ Z a w hs hd hZ=>h.1 G dom ρ Z a w hs hd (hagr j o hj ho Z hZ),fun hl=>⟨(h.2 hl).1,(h.2 hl).2.1,fun G dom ρ Z a w hs hZ=>(h.2 hl).2.2 G dom ρ Z a w hs (hagr j o hj ho Z hZ)⟩⟩
 have hstep2:∀(i:Nat) o,bG t2 i=true→ops[i]? =some o→kX P ops σ.nx i o (aK σ σ.nx ops es (bG t2) i) (es i):=fun i o hi ho=>by
  have his:=(Array.getElem?_eq_some_iff.1 ho).1;obtain⟨hd,hs⟩:=hstep i o (hR1 i his hi).1 ho;refine⟨fun t ht=>by have:=hd t ht;rw[fI]at this⊢;exact this,?_⟩
  cases hg:o.guard with
  |none=>rw[hg]at hs;exact hre i o _ hi ho hs
  |some gw=>
   obtain⟨g,want⟩:=gw;rw[hg]at hs;obtain⟨t,b,ht,hb,hs⟩:=hs;obtain⟨hgi,hgp,hgR⟩:=hk.g2.guard i o g want ho hi hg;have htd:t≠d:=fun e=>by
    subst e;exact hk.g2.dst g q t (by omega) hk.qs (hR1 g (by omega) hgR).2 ht hk.qd
   refine⟨t,b,ht,by rw[←hlk i (Nat.le_of_lt his) t htd];exact hb,?_⟩
   by_cases hbw:b=some want
   ·rw[if_pos hbw]at hs⊢;exact hre i o _ hi ho hs
   rw[if_neg hbw]at hs⊢;exact hs
 refine kW (ex:=some q) (F:=True) hk.g1 (fun _=>hk.c1) (fun _=>hk.w1) hfz (fun _=>hstep) (fun _=>hW1) (fun _ q' hq' fuel listed a w i h hlR hsim hql hi hiH hf=>?_) hQ hP;obtain rfl:=Option.some.inj hq';obtain⟨hp,his,hu⟩:=ij hi;have hlt:i<listed.size:=by rw[h.size];exact his
 have hiq:i≠q:=fun e=>by subst e;have:=hk.qR;rw[bG,hiH]at this;cases this
 have hiW2:iL t2 i=true:=by rw[hk.same i his,hiH];rfl
 have hlR2:∀j,listed.getD j false=true→bG t2 j=true:=fun j hj=>by
  have hjs:j<ops.size:=by
   rw[←h.size];refine Nat.lt_of_not_le fun hle=>?_
   simp[Array.getD,Nat.not_lt.2 hle]at hj
  refine hR2 j hjs (hlR j hj) fun e=>?_;subst e;rw[hql]at hj;cases hj
 have hclos:∀j,eR ops ops.size i j=true→listed.getD j false=true:=fun j hj=>fB h.down _ i j hp hj;have hnext:rM t2 i=true:=by
  have h1:=List.all_eq_true.1 hk.c2 i (by simpa using his);rw[hiW2]at h1;have h2:(i==q)=false:=by simpa using hiq
  rw[h2]at h1;simp only[Bool.not_true,Bool.false_or,Bool.or_eq_true]at h1
  rcases h1 with h1|h1
  ·exact h1
  obtain⟨j,_,h3⟩:=List.any_eq_true.1 h1;simp only[Bool.and_eq_true]at h3;have h4:=hlR2 j (hclos j h3.2)
  simp[bG,h3.1]at h4
 obtain⟨pdi,sub,hop,hwok⟩:=nq hW2 hk.w2 hnext;have hsim2:uO G (fun b=>b<σ.nx∨∃j,j<ops.size∧listed.getD j false=true∧b=σ.nx+j) (aK σ σ.nx ops es (fun j=>bG t2 j&&listed.getD j false) ops.size) a w:=by
  rw[cO (L:=fun j=>bG t2 j&&listed.getD j false) (L':=fun j=>bG t1 j&&listed.getD j false) ops.size fun j hj=>?_]
  ·exact hsim
  cases hl:listed.getD j false with
  |false=>simp
  |true=>rw[hlR2 j hl,hlR j hl]
 obtain⟨a',hs',hu2⟩:=ghost (P:=P) hk.g2 hfz hstep2 hlR2 (fun j hj hjR hjl=>by
  rcases hwok.all j hj hjR with kd|ke|⟨k0,hk0,kc⟩
  ·obtain⟨o,_,_,_,hop⟩:=hwok.op;obtain⟨oj,d',_,k1,k2,_⟩:=hop j kd;exact⟨oj,k1,k2⟩
  ·cases ke
  have hk0:k0=i:=by simpa using hk0
  rw[hk0]at kc;rw[hclos j kc]at hjl;cases hjl) hsim2 h.down ops.size (Nat.le_refl _)
 obtain⟨ρ',k1⟩:=hs';rw[kP (ws:=t2) (fun j hj _=>by simp[hj])]at k1
 have k2:=k1.cR (dom':=fun b=>b<σ.nx+ops.size) (fun b hb=>by rcases hb with hb|⟨j,hj,_,rfl⟩<;>omega)
 have hnone:lo (aK σ σ.nx ops es (bG t2) ops.size).own (σ.nx+q)=none:=by
  cases hB:lo (aK σ σ.nx ops es (bG t2) ops.size).own (σ.nx+q)with
  |none=>rfl
  |some B=>
   exfalso
   rcases(k1.own _ _ hB).1 with hd|⟨j,_,hjl,hd⟩
   ·omega
   have:j=q:=by omega
   subst this;rw[hql]at hjl;cases hjl
 -- the state without the new variable
 have halk:=(hacc ops.size (Nat.le_refl _)).2 hk.qs;have k3:aR G (fun b=>b<σ.nx+ops.size) ρ' (tP (aK σ σ.nx ops es (bG t2) ops.size) (fun t=>t=d)) a' w:=k2.tP (RU.refl _ _);have k4:oI G (Om d (σ.nx+q) (tG σ ops es t1)) a' w:=by
  refine⟨ρ',k3.Fu ⟨fun t=>?_,fun b=>?_,?_⟩⟩
  ·show _=lk (IN (tG σ ops es t1).env d) t;rw[Ho]
   by_cases ht:t=d
   ·rw[if_pos ht,Ae _ (fun t=>t=d) _ ht]
   rw[if_neg ht,sD _ (fun t=>t=d) _ ht];exact(hlk ops.size (Nat.le_refl _) t ht).symm
  ·show _=lo (del (tG σ ops es t1).own (σ.nx+q)) b;rw[j8];have h5:=halk.own b;have h6:lo (tG σ ops es t1).own b=lo (aK σ σ.nx ops es (bG t1) ops.size).own b:=rfl;rw[h6,h5,oX,hqfz]
   by_cases hb:b=σ.nx+q
   ·rw[if_pos hb,hb];exact hnone
   rw[if_neg hb];show lo (aK σ σ.nx ops es (bG t2) ops.size).own b=_;have hfi:fY [] b=id:=by funext v;simp[fY]
   cases(es q).vN with
   |none=>simp only[hfi,Option.map_id,id]
   |some B=>simp only[hfi,Option.map_id,id,if_neg hb]
  show(aK σ σ.nx ops es (bG t2) ops.size).n=(aK σ σ.nx ops es (bG t1) ops.size).n
  rw[fI,fI]
 refine L5 (ws:=t2) (σ:=σ) (es:=es) (F:=False) (ex:=none) hP h.size h.down his hp (by simp[bG,hiW2]) (pre:=[]) (fun j hj hjR=>?_) (fun k hk=>by cases hk) hwok hop k4 hu2 (fun q hq=>by cases hq) fun a w hst=>?_
 ·constructor
  ·intro k;rw[hlR2 j k]at hjR;cases hjR
  intro k;cases k
 refine kW (ex:=none) (F:=False) hk.g2 (fun h=>h.elim) (fun h=>h.elim) hfz (fun h=>h.elim) (fun h=>h.elim) (fun h=>h.elim) hQ hP fuel _ a w hst ?_
 have:=ox h.size his hu
 omega
end
end Go.Eng
