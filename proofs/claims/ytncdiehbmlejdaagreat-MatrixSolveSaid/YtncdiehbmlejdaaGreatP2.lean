/-
  MatrixKernel and MatrixSolve: for every input the law returns true, and each argument reads afterwards as it read before. No condition beyond the cells of the given rows.
  (Text 2 of 9; made by a program out of smaller texts.)
-/
import Derived.Test.YtncdiehbmlejdaaGreatP1
set_option linter.unusedSimpArgs false
set_option linter.unusedVariables false
set_option maxHeartbeats 16000000
set_option maxRecDepth 10000
open Nat renaming reduceAdd→J1,reduceMul→J2,reduceSub→J3,reduceEqDiff→J4,reduceLT→J5,reduceLeDiff→J6,reduceBEq→J7,reduceDiv→J8,reduceMod→J9,reducePow→J0
open Int renaming reduceToNat→K1,reduceLE→K2,reduceLT→K3,reduceEq→K4,reducePow→K5,reduceSub→K6,reduceNeg→K7,natCast_add→X2,natCast_one→X3,natCast_zero→X4
open List renaming getD_cons_zero→X0,getD_cons_succ→X1,length_take→X5,length_append→X6,getD_eq_getElem?_getD→X7,getElem?_eq_getElem→X8
/-
  THE ENGINE, PART M: operations that write: a store, an append.
-/
namespace Go.Eng
open Go
def mF (P:Program)(o:Oper)(s:St)(K:St→Prop):Prop:=
 ∀G a w,oz G s a w→∀Q next,(∀s' a' w',K s'→oz G s' a' w'→next a' w')→o.wp P a w next Q
theorem H0 (l:List (Nat×fC)):dB l []=l:=by
 induction l with
 |nil=>rfl
 |cons x l ih=>obtain⟨b,B⟩:=x;simp[dB,ih]
theorem wh (l:List (Nat×fC))(ids:List Nat):uy l ids=dB l ids:=by
 cases ids with
 |nil=>rw[H0];rfl
 |cons x r=>rfl
theorem dC {w:World}{g:Nat}{cur:Array Value}{e:TypeId}{f:Nat×Nat}(h:w.heap[g]? =some (.cells cur e f)):cL w g=cur.size:=by simp[cL,h]
theorem aW.rewrite {G:Ctx}{dom:Nat→Prop}{ρ:Nat→Loc}{s:St}{a:Act}{w:World}(h:aW G dom ρ s a w){b g o:Nat}{B:Bk}(hl:lo s.own b=some ⟨B,true⟩)(haddr:(ρ b).addr=some (g,o))
  {cur cur':Array Value} {e:TypeId} (hg:w.heap[g]? =some (.cells cur e (0,0))) (hsz:cur'.size=cur.size) {id:Nat} (hid:¬dom id) (B':Bk) (o1:Nat)
  (hrep:∀j c,B'.cell j=some c→∃u,cur'[o1+j]? =some u∧(match B' with|.var _=>aI ρ dom (aJ G s.own ρ w) w c u|.wins .. =>aI ρ dom (aJ G s.own ρ w) w c u|_=>aP (aJ G s.own ρ w) w c u)):
  aW G (fun b=>dom b∨b=id) (aZ ρ id ⟨some (g,o1),B'.len⟩) {s with own:=eE (del s.own b) id ⟨B',true⟩} a (w.setRow g cur'):=by
 have hs:=gV.aZ ρ ⟨some (g,o1),B'.len⟩ hid;have hne:∀b B',lo s.own b=some B'→b≠id:=fun b B' hl e=>hid (e▸(h.own b B' hl).1);obtain⟨_,_,_,hloc⟩:=h.own b _ hl;obtain⟨hgl,hgf,hgm⟩:=hloc g o haddr;have hheap:∀g',g'≠g→(w.setRow g cur').heap[g']? =w.heap[g']? :=fun g' hn=>setRow_other w g g' cur' hn;have hext:Ext (aJ G s.own ρ w) (aJ G (eE (del s.own b) id ⟨B',true⟩) (aZ ρ id ⟨some (g,o1),B'.len⟩) (w.setRow g cur')) w (w.setRow g cur'):=by
  refine⟨fun g' hg'=>?_,fun g'=>?_⟩
  ·have hng:g'≠g:=fun e=>by subst e;exact hg'.2.2 b _ hl rfl o haddr
   refine⟨⟨by simpa using hg'.1,hg'.2.1,fun b2 B2 hl2 hrw o2=>?_⟩,hheap g' hng⟩;rw[bT]at hl2
   by_cases hbi:b2=id
   ·subst hbi;rw[lQ];intro he
    have:g=g':=by simpa using congrArg (Option.map Prod.fst) he
    exact hng this.symm
   rw[if_neg hbi,j3]at hl2;rw[aS _ _ hbi]
   split at hl2
   ·cases hl2
   exact hg'.2.2 b2 B2 hl2 hrw o2
  by_cases hng:g'=g
  ·subst hng;rw[dC hg,dC (setRow_heap w g' cur cur' e (0,0) hg),hsz];exact Nat.le_refl _
  rw[cJ (hheap g' hng)];exact Nat.le_refl _
 refine h.rA hext hs ?_ ?_ rfl rfl rfl (by simp) (fun k hk hm=>hheap k (fun e=>?_))
 ·intro b2 B2 hl2;rw[bT]at hl2
  by_cases hbi:b2=id
  ·subst hbi;rw[if_pos rfl]at hl2;obtain rfl:=Option.some.inj hl2;rw[lQ];refine⟨.inr rfl,rfl,?_,fun g' o' ha=>?_⟩
   ·unfold aL;refine⟨cur',e,setRow_heap w g cur cur' e (0,0) hg,fun j c hj=>?_⟩;obtain⟨u,hu,hr⟩:=hrep j c hj;refine⟨u,hu,?_⟩
    cases B' with
    |var cs=>exact aI.ext hext hs _ _ hr
    |ints e k xs=>exact aP.ext hext _ _ hr
    |rows e wd n f=>exact aP.ext hext _ _ hr
    |wins e b2 n g=>exact aI.ext hext hs _ _ hr
   have:g=g':=by simpa using congrArg (Option.map Prod.fst) ha
   subst this;exact⟨by simpa using hgl,hgf,hgm⟩
  rw[if_neg hbi,j3]at hl2;rw[aS _ _ hbi]
  split at hl2
  ·cases hl2
  rename_i hbb
  obtain⟨h1,h2,h3,h4⟩:=h.own b2 B2 hl2;refine⟨.inl h1,h2,aL.ext hext hs _ _ (fun g' o' ha=>hheap g' (fun e=>?_)) h3,fun g' o' ha=>by simpa using h4 g' o' ha⟩;subst e;exact h.inj b _ b2 B2 hl hl2 (fun e=>hbb e.symm) rfl g' o o' haddr ha
 ·intro b2 B2 b3 B3 hl2 hl3 hne' hrw g' o2 o3 ha;rw[bT]at hl2 hl3
  by_cases hbi:b2=id
  ·subst hbi;rw[if_neg (fun e=>hne' e.symm),j3]at hl3;rw[lQ]at ha;rw[aS _ _ (fun e=>hne' e.symm)];have hgg:g=g':=by simpa using congrArg (Option.map Prod.fst) ha
   subst hgg
   split at hl3
   ·cases hl3
   rename_i hbb
   exact h.inj b _ b3 B3 hl hl3 (fun e=>hbb e.symm) rfl g o o3 haddr
  rw[if_neg hbi,j3]at hl2;rw[aS _ _ hbi]at ha
  split at hl2
  ·cases hl2
  rename_i hbb
  by_cases hbi':b3=id
  ·subst hbi';rw[lQ];intro ha';have hgg:g=g':=by simpa using congrArg (Option.map Prod.fst) ha'
   subst hgg;exact h.inj b2 B2 b _ hl2 hl hbb hrw g o2 o ha haddr
  rw[if_neg hbi',j3]at hl3;rw[aS _ _ hbi']
  split at hl3
  ·cases hl3
  exact h.inj b2 B2 b3 B3 hl2 hl3 hne' hrw g' o2 o3 ha
 subst e
 rcases hgm with hgm|hgm
 ·omega
 exact hm hgm
theorem aW.write {G:Ctx}{dom:Nat→Prop}{ρ:Nat→Loc}{s:St}{a:Act}{w:World}(h:aW G dom ρ s a w){b g o:Nat}{B:Bk}(hl:lo s.own b=some ⟨B,true⟩)(haddr:(ρ b).addr=some (g,o))
  {cur cur':Array Value} {e:TypeId} (hg:w.heap[g]? =some (.cells cur e (0,0))) (hsz:cur'.size=cur.size) (B':Bk) (hlen:B'.len=B.len)
  (hrep:∀j c,B'.cell j=some c→∃u,cur'[o+j]? =some u∧(match B' with|.var _=>aI ρ dom (aJ G s.own ρ w) w c u|.wins .. =>aI ρ dom (aJ G s.own ρ w) w c u|_=>aP (aJ G s.own ρ w) w c u)):
  aW G dom ρ {s with own:=eE s.own b ⟨B',true⟩} a (w.setRow g cur'):=by
 have hs:gV dom dom ρ ρ:=⟨fun _ h=>h,fun _ _=>rfl⟩;obtain⟨hdomb,hlenb,_,hloc⟩:=h.own b _ hl;obtain⟨hgl,hgf,hgm⟩:=hloc g o haddr;have hheap:∀g',g'≠g→(w.setRow g cur').heap[g']? =w.heap[g']? :=fun g' hn=>setRow_other w g g' cur' hn;have hext:Ext (aJ G s.own ρ w) (aJ G (eE s.own b ⟨B',true⟩) ρ (w.setRow g cur')) w (w.setRow g cur'):=by
  refine⟨fun g' hg'=>?_,fun g'=>?_⟩
  ·have hng:g'≠g:=fun e=>by subst e;exact hg'.2.2 b _ hl rfl o haddr
   refine⟨⟨by simpa using hg'.1,hg'.2.1,fun b2 B2 hl2 hrw o2=>?_⟩,hheap g' hng⟩;rw[bT]at hl2
   by_cases hbi:b2=b
   ·subst hbi;intro he;rw[haddr]at he
    have:g=g':=by simpa using congrArg (Option.map Prod.fst) he
    exact hng this.symm
   rw[if_neg hbi]at hl2;exact hg'.2.2 b2 B2 hl2 hrw o2
  by_cases hng:g'=g
  ·subst hng;rw[dC hg,dC (setRow_heap w g' cur cur' e (0,0) hg),hsz];exact Nat.le_refl _
  rw[cJ (hheap g' hng)];exact Nat.le_refl _
 refine h.rA hext hs ?_ ?_ rfl rfl rfl (by simp) (fun k hk hm=>hheap k (fun e=>?_))
 ·intro b2 B2 hl2;rw[bT]at hl2
  by_cases hbi:b2=b
  ·subst hbi;rw[if_pos rfl]at hl2;obtain rfl:=Option.some.inj hl2;refine⟨hdomb,by rw[hlenb];exact hlen.symm,?_,fun g' o' ha=>by simpa using hloc g' o' ha⟩;unfold aL;rw[haddr];refine⟨cur',e,setRow_heap w g cur cur' e (0,0) hg,fun j c hj=>?_⟩;obtain⟨u,hu,hr⟩:=hrep j c hj;refine⟨u,hu,?_⟩
   cases B' with
   |var cs=>exact aI.ext hext hs _ _ hr
   |ints e k xs=>exact aP.ext hext _ _ hr
   |rows e wd n f=>exact aP.ext hext _ _ hr
   |wins e b2 n g=>exact aI.ext hext hs _ _ hr
  rw[if_neg hbi]at hl2;obtain⟨h1,h2,h3,h4⟩:=h.own b2 B2 hl2;refine⟨h1,h2,aL.ext hext hs _ _ (fun g' o' ha=>hheap g' (fun e=>?_)) h3,fun g' o' ha=>by simpa using h4 g' o' ha⟩;subst e;exact h.inj b _ b2 B2 hl hl2 (fun e=>hbi e.symm) rfl g' o o' haddr ha
 ·intro b2 B2 b3 B3 hl2 hl3 hne' hrw g' o2 o3 ha;rw[bT]at hl2 hl3
  by_cases hbi:b2=b
  ·subst hbi;rw[if_neg (fun e=>hne' e.symm)]at hl3;exact h.inj b2 _ b3 B3 hl hl3 hne' rfl g' o2 o3 ha
  rw[if_neg hbi]at hl2
  by_cases hbi':b3=b
  ·subst hbi';exact h.inj b2 B2 b3 _ hl2 hl hne' hrw g' o2 o3 ha
  rw[if_neg hbi']at hl3;exact h.inj b2 B2 b3 B3 hl2 hl3 hne' hrw g' o2 o3 ha
 subst e
 rcases hgm with hgm|hgm
 ·omega
 exact hm hgm
def a8 (f:Nat→Nat→C)(i off:Nat)(l:List C):Nat→Nat→C:=
 fun i' j'=>if i'=i then(if off≤j' then(if j'<off+l.length then l.getD (j'-off) .any else f i' j')else f i' j')else f i' j'
def OI:C→Bool
 |.own _ _ _ _=>true
 |.nil=>true
 |.ints _ _=>true
 |.rows _ _ _=>true
 |_=>false
def Hm (b2:Nat):C→Nat
 |.own b _ _ _=>b
 |_=>b2
def tN (T:fu)(s:St)(t:TypeId)(x y:Operand)(K:St→Prop):Prop:=
 match T t with
 |some E=>match s.ev x with
  |.one (.ptr b off)=>match lo s.own b with
   |some ⟨.var cs,rw⟩=>rw=true∧0<E.size∧(s.ev y).nY=true∧(cellsOf (s.ev y)).length=E.size∧off+E.size≤cs.length∧
     K {s with own:=eE s.own b ⟨.var (kK cs off (cellsOf (s.ev y))),true⟩}
   |_=>False
  |.one (.eptr b wd i off)=>match lo s.own b with
   |some ⟨.ints e k xs,rw⟩=>match s.ev y with
    |.one (.int k' n)=>rw=true∧k'=k∧wd=1∧E.size=1∧off=0∧K {s with own:=eE s.own b ⟨.ints e k (xs.set i n),true⟩}
    |_=>False
   |some ⟨.rows e w n f,rw⟩=>rw=true∧wd=w∧0<E.size∧(s.ev y).nY=true∧(cellsOf (s.ev y)).length=E.size∧off+E.size≤wd∧(ka (s.ev y)).contains b=false∧
     K {s with own:=eE (uy s.own (ka (s.ev y))) b ⟨.rows e w n (a8 f i off ((cellsOf (s.ev y)).map (jH s.own s.nx))),true⟩}
   |some ⟨.wins e b2 n g,rw⟩=>match s.ev y with
    |.one c=>rw=true∧wd=1∧E.size=1∧off=0∧OI c=true∧K {s with own:=eE s.own b ⟨.wins e (Hm b2 c) n (fun j=>if j=i then c else g j),true⟩}
    |_=>False
   |_=>False
  |_=>False
 |none=>False
theorem iK {P:Program}{w:World}{t:TypeId}{i:TypeInfo}(hi:P.info? t=some i){g o:Nat}{cur:Array Value}{e:TypeId}(hg:w.heap[g]? =some (.cells cur e (0,0)))(v:Value)(hv:v.cells.size=i.size)
  (hfit:o+i.size≤cur.size) (h1:∀u∈v.cells.toList,u.oneCell'=true):
  (storeVar t ⟨g,o,none⟩ v).run P w= .ok () (w.setRow g (cur.toList.take o++v.cells.toList++cur.toList.drop (o+i.size)).toArray):=by
 have hst:=run_storeCells_at P g o e v.cells.toList 0 cur w hg (by simp;omega) h1;simp only[Nat.add_zero,Array.length_toList,hv]at hst;simp only[storeVar,Sem.run_bind,run_sizeOf hi,Result.andThen_ok,hv,ne_eq,not_true_eq_false,↓reduceIte,Sem.run_ite,Sem.run_pure,hst]
theorem il (cur:List Value)(o:Nat)(us:List Value)(h:o+us.length≤cur.length)(j:Nat):
  (cur.take o++us++cur.drop (o+us.length))[j]? =if o≤j∧j<o+us.length then us[j-o]? else cur[j]? :=by
 rw[List.append_assoc,List.getElem?_append,List.getElem?_append,X5]
 by_cases h1:j<o
 ·rw[if_pos (by omega),if_neg (by omega),List.getElem?_take,if_pos h1]
 rw[if_neg (by omega)]
 by_cases h2:j<o+us.length
 ·rw[if_pos (by omega),if_pos (by omega)];congr 1;omega
 rw[if_neg (by omega),if_neg (by omega),List.getElem?_drop];congr 1;omega
theorem bZ.ub {ρ:Nat→Loc}{dom ok:Nat→Prop}{w:World}:∀{cs:List C} {vs:List Value},bZ ρ dom ok w cs vs→∀u∈vs,u.oneCell'=true
 |[],[],_,u,hu=>by simp at hu
 |_::cs,_::vs,h,u,hu=>by
  rcases List.mem_cons.1 hu with rfl|hu
  ·exact(aI.plain h.1).1
  exact bZ.ub h.2 u hu
 |[],_::_,h,_,_=>h.elim
 |_::_,[],h,_,_=>h.elim
section
variable {P:Program}{T:fu}(hT:eD P T){o:Oper}{s:St}{K:St→Prop}
include hT in
theorem NF {t:TypeId}{x y:Operand}(ho:o.op= .store t x y)(hd:o.dst=none)(h:tN T s t x y K):mF P o s K:=by
 intro G a w hsim Q next hk;obtain⟨ρ,hs⟩:=hsim;have hevx:=hs.ev x;have hevy:=hs.ev y;have hrun:∀(g off:Nat) (w':World),a.eval x= .pointer (some ⟨g,off,none⟩)→(storeVar t ⟨g,off,none⟩ (a.eval y)).run P w= .ok () w'→next a w'→o.wp P a w next Q:=by
  intro g off w' he hr hn;unfold Oper.wp execOp;rw[ho];simp only[Instr.storeAt,he,Instr.sureAddr,Sem.run_bind,Sem.run_pure,Result.andThen_ok,hr,Oper.upon_skip,hd];exact hn
 unfold tN at h
 cases hTt:T t with
 |none=>rw[hTt]at h;exact h.elim
 |some E=>
  rw[hTt]at h;simp only at h;obtain⟨i,d,z,hi,hu,_,hkk,hsz,_⟩:=bD hT hTt
  split at h
  ·rename_i b off hx
   rw[hx]at hevx;obtain⟨_,g,o',haddr,hval⟩:=hevx
   split at h
   ·rename_i cs rw_ hl
    obtain⟨rfl,hpos,hsol,hlen,hle,hK⟩:=h;obtain⟨_,_,hrep,_⟩:=hs.own b _ hl;unfold aL at hrep;rw[haddr]at hrep;obtain⟨cur,e,hg,hc⟩:=hrep;simp only at hc;have hcells:=cC.cells hevy hsol;have hvs:(a.eval y).cells.size=i.size:=by have:=bZ.length hcells;simp only[Array.length_toList]at this;omega
    have hfit:o'+off+i.size≤cur.size:=by
     obtain⟨u,hu',_⟩:=hc (off+i.size-1) cs[off+i.size-1] (by simp only[Bk.cell];exact X8 (by omega))
     have:=(Array.getElem?_eq_some_iff.1 hu').1
     omega
    refine hrun g _ _ hval (iK hi hg _ hvs hfit (bZ.ub hcells)) (hk _ _ _ hK ⟨ρ,?_⟩);have hvl:(a.eval y).cells.toList.length=i.size:=by simpa using hvs
    refine hs.write hl haddr hg (by simp[hvs];omega) (.var (kK cs off (cellsOf (s.ev y)))) rfl fun j c hj=>?_;simp only[Bk.cell]at hj;rw[ue _ _ _ (by omega)]at hj;have hlg:=il cur.toList (o'+off) (a.eval y).cells.toList (by simp only[Array.length_toList]at hvl⊢;omega) (o'+j);rw[hvl]at hlg;simp only[List.getElem?_toArray,hlg]
    by_cases hm:off≤j∧j<off+(cellsOf (s.ev y)).length
    ·rw[if_pos hm]at hj;rw[if_pos (by omega),show o'+j-(o'+off)=j-off by omega];exact bZ.get hcells _ _ hj
    rw[if_neg hm]at hj;rw[if_neg (by omega),Array.getElem?_toList];exact hc j c hj
   exact h.elim
  ·rename_i b wd ix off hx
   rw[hx]at hevx;obtain⟨_,hix,g,o',haddr,hval⟩:=hevx
   split at h
   ·rename_i e k xs rw_ hl
    split at h
    ·rename_i k' n hy
     obtain⟨rfl,rfl,rfl,hE1,rfl,hK⟩:=h;obtain⟨_,hlenρ,hrep,_⟩:=hs.own b _ hl;unfold aL at hrep;rw[haddr]at hrep;obtain⟨cur,e',hg,hc⟩:=hrep;simp only at hc;rw[hlenρ]at hix;simp only[Bk.len]at hix;rw[hy]at hevy;have hyv:a.eval y= .int k' n:=hevy;have hfit:o'+(ix*1+0)+i.size≤cur.size:=by
      obtain⟨u,hu',_⟩:=hc ix (.int k' (xs.getD ix 0)) (by simp[Bk.cell,X8 hix])
      have:=(Array.getElem?_eq_some_iff.1 hu').1
      omega
     have hvs:(a.eval y).cells.size=i.size:=by rw[hyv,←hsz,hE1];rfl
     have hvl:(a.eval y).cells.toList.length=i.size:=by simpa using hvs
     refine hrun g _ _ hval (iK hi hg _ hvs hfit (by rw[hyv];simp[Value.cells,Value.oneCell'])) (hk _ _ _ hK ⟨ρ,?_⟩);refine hs.write hl haddr hg (by simp[hvs];omega) (.ints e k' (xs.set ix n)) (by simp[Bk.len]) fun j c hj=>?_;have hlg:=il cur.toList (o'+(ix*1+0)) (a.eval y).cells.toList (by simp only[Array.length_toList]at hvl⊢;omega) (o'+j);rw[hvl]at hlg;simp only[List.getElem?_toArray,hlg];simp only[Bk.cell,List.getElem?_set]at hj
     by_cases hm:j=ix
     ·subst hm;rw[if_pos (by omega),hyv];rw[if_pos rfl,if_pos hix]at hj;simp only[Option.map_some,Option.some.injEq]at hj;subst hj;exact⟨.int k' n,by simp[Value.cells],rfl⟩
     rw[if_neg (by omega),Array.getElem?_toList];rw[if_neg (fun e=>hm e.symm)]at hj;exact hc j c hj
    exact h.elim
   ·rename_i e wd' n f rw_ hl
    obtain⟨rfl,rfl,hpos,hsol,hlen,hle,hnid,hK⟩:=h;obtain⟨_,hlenρ,hrep,_⟩:=hs.own b _ hl;unfold aL at hrep;rw[haddr]at hrep;obtain⟨cur,e',hg,hc⟩:=hrep;simp only at hc;rw[hlenρ]at hix;simp only[Bk.len]at hix;have hcells:=cC.cells hevy hsol;have hvs:(a.eval y).cells.size=i.size:=by have:=bZ.length hcells;simp only[Array.length_toList]at this;omega
    have hvl:(a.eval y).cells.toList.length=i.size:=by simpa using hvs
    have hrow:∀j,j<wd→ix*wd+j<n*wd:=fun j hj=>by
     have:(ix+1)*wd≤n*wd:=Nat.mul_le_mul_right _ hix
     rw[Nat.add_mul]at this;omega
    have hfit:o'+(ix*wd+off)+i.size≤cur.size:=by
     have hlt:=hrow (off+i.size-1) (by omega);obtain⟨u,hu',_⟩:=hc (ix*wd+(off+i.size-1)) (f ((ix*wd+(off+i.size-1))/wd) ((ix*wd+(off+i.size-1))%wd)) (by simp only[Bk.cell,if_pos hlt])
     have:=(Array.getElem?_eq_some_iff.1 hu').1
     omega
    have hids:∀x:V,(cellsOf x).flatMap gh=ka x:=fun x=>by cases x<;>simp [cellsOf,ka]
    have hview:=qG hs (iq.refl s s.nx o) (ka (s.ev y)) (cellsOf (s.ev y)) _ (fun b hb _=>by rw[hids]at hb;exact hb) hcells;have h1:=hs.dB (ka (s.ev y));have hl1:lo (dB s.own (ka (s.ev y))) b=some ⟨.rows e wd n f,true⟩:=by
     rw[fj,hl];simp only[Option.map_some,hnid,Bool.false_eq_true,↓reduceIte]
    rw[wh]at hK;refine hrun g _ _ hval (iK hi hg _ hvs hfit (bZ.ub hcells)) (hk _ _ _ hK ⟨ρ,?_⟩);refine h1.write hl1 haddr hg (by simp[hvs];omega) (.rows e wd n (a8 f ix off ((cellsOf (s.ev y)).map (jH s.own s.nx)))) rfl fun j c hj=>?_;have hlg:=il cur.toList (o'+(ix*wd+off)) (a.eval y).cells.toList (by simp only[Array.length_toList]at hvl⊢;omega) (o'+j);rw[hvl]at hlg;simp only[List.getElem?_toArray,hlg];simp only[Bk.cell]at hj
    split at hj
    ·rename_i hjn
     simp only[Option.some.injEq,a8,List.length_map]at hj;have hwd:0<wd:=by omega
     have hdm:j/wd*wd+j%wd=j:=by rw[Nat.mul_comm];exact Nat.div_add_mod j wd
     have hml:j%wd<wd:=Nat.mod_lt _ hwd
     by_cases hm:ix*wd+off≤j∧j<ix*wd+off+i.size
     ·have hjd:j/wd=ix:=by
       rw[Nat.div_eq_iff hwd]
       constructor
       ·omega
       omega
      have hjm:j%wd=j-ix*wd:=by rw[hjd]at hdm;omega
      rw[if_pos hjd,hjm,if_pos (by omega),if_pos (by omega)]at hj;rw[if_pos (by omega),show o'+j-(o'+(ix*wd+off))=j-ix*wd-off by omega];have hq:j-ix*wd-off<(cellsOf (s.ev y)).length:=by omega
      have hgl:((cellsOf (s.ev y)).map (jH s.own s.nx))[j-ix*wd-off]? =some c:=by
       rw[←hj,X7];rw[X8 (by simpa using hq)];rfl
      obtain⟨u,hu',hr⟩:=bZ.get hview _ _ hgl;exact⟨u,hu',aP.ext (Ext.dE fun g' hg'=>v5 hs _ hg') _ _ (aP.dV hr)⟩
     rw[if_neg (by omega),Array.getElem?_toList];have hfc:f (j/wd) (j%wd)=c:=by
      by_cases hjd:j/wd=ix
      ·rw[if_pos hjd]at hj;have hjm:j%wd=j-ix*wd:=by rw[hjd]at hdm;omega
       have hge:ix*wd≤j:=by rw[hjd]at hdm;omega
       by_cases h2:off≤j%wd
       ·rw[if_pos h2,if_neg (by omega)]at hj;exact hj
       rw[if_neg h2]at hj;exact hj
      rw[if_neg hjd]at hj;exact hj
     obtain⟨u,hu',hr⟩:=hc j c (by simp only[Bk.cell,if_pos hjn,hfc]);exact⟨u,hu',aP.ext (Ext.dE fun g' hg'=>kq hg') _ _ hr⟩
    cases hj
   ·rename_i e b2 n f rw_ hl
    split at h
    ·rename_i c hy
     obtain⟨rfl,rfl,hE1,rfl,_,hK⟩:=h;obtain⟨_,hlenρ,hrep,_⟩:=hs.own b _ hl;unfold aL at hrep;rw[haddr]at hrep;obtain⟨cur,e',hg,hc⟩:=hrep;simp only at hc;rw[hlenρ]at hix;simp only[Bk.len]at hix;rw[hy]at hevy;have hyv:aI ρ (fun b=>b<s.nx) (aJ G s.own ρ w) w c (a.eval y):=hevy;have hpl:=aI.plain hyv;have hfit:o'+(ix*1+0)+i.size≤cur.size:=by
      obtain⟨u,hu',_⟩:=hc ix (f ix) (by simp only[Bk.cell,if_pos hix])
      have:=(Array.getElem?_eq_some_iff.1 hu').1
      omega
     have hvs:(a.eval y).cells.size=i.size:=by rw[hpl.2,←hsz,hE1];rfl
     have hvl:(a.eval y).cells.toList.length=i.size:=by simpa using hvs
     refine hrun g _ _ hval (iK hi hg _ hvs hfit (by rw[hpl.2];simpa using hpl.1)) (hk _ _ _ hK ⟨ρ,?_⟩);refine hs.write hl haddr hg (by simp[hvs];omega) (.wins e (Hm b2 c) n (fun j=>if j=ix then c else f j)) rfl fun j c' hj=>?_;have hlg:=il cur.toList (o'+(ix*1+0)) (a.eval y).cells.toList (by simp only[Array.length_toList]at hvl⊢;omega) (o'+j);rw[hvl]at hlg;simp only[List.getElem?_toArray,hlg];simp only[Bk.cell]at hj
     split at hj
     ·rename_i hjn
      simp only[Option.some.injEq]at hj
      by_cases hm:j=ix
      ·subst hm;rw[if_pos rfl]at hj;rw[if_pos (by omega),hpl.2,←hj];exact⟨a.eval y,by simp,hyv⟩
      rw[if_neg hm]at hj;rw[if_neg (by omega),Array.getElem?_toList];exact hc j c' (by simp only[Bk.cell,if_pos hjn,hj])
     cases hj
    exact h.elim
   exact h.elim
  exact h.elim
end
end Go.Eng
/-
  THE ENGINE, PART N: append.
-/
namespace Go.Eng
open Go
def kL (w:World)(a:Option Addr)(us:List Value):Prop:=us=[]∨∃ad,a=some ad∧∀(j:Nat) u,us[j]? =some u→w.cell? (ad.add j)=some u
theorem dN {P:Program}{w:World}(size n:Nat)(a:Option Addr)(len cap:Nat)(us:List Value)(hl:us.length=n*size)(h:kL w a us):
  (Builtin.firstCells size n (.slice a len cap)).run P w= .ok us.toArray w:=by
 rcases h with rfl|⟨ad,rfl,h⟩
 ·cases a with
  |none=>simp[Builtin.firstCells]
  |some ad=>
   simp only[Builtin.firstCells];rw[←hl];exact j4 ad [] (fun j u hj=>by simp at hj)
 exact run_firstCells_some w size n ad len cap us hl h
structure Cells (ok:Nat→Prop) (w:World) (wd n:Nat) (f:Nat→Nat→C) (a:Option Addr) (us:List Value):Prop where
 len:us.length=n*wd
 at_:kL w a us
 one:∀u∈us,u.oneCell'=true
 rep:∀i j,i<n→j<wd→∃u,us[i*wd+j]? =some u∧aP ok w (f i j) u
theorem sY {ok:Nat→Prop}{w:World}{wd n g o:Nat}{f:Nat→Nat→C}(h:∀i j,i<n→j<wd→∃u,w.cell? ⟨g,o+(i*wd+j),none⟩=some u∧aP ok w (f i j) u):
  ∃us,Cells ok w wd n f (some ⟨g,o,none⟩) us:=by
 refine⟨(List.range (n*wd)).map (fun t=>(w.cell? ⟨g,o+t,none⟩).getD undef),?_⟩;have key:∀t,t<n*wd→∃u,w.cell? ⟨g,o+t,none⟩=some u∧aP ok w (f (t/wd) (t%wd)) u:=by
  intro t ht
  have hwd:0<wd:=by rcases Nat.eq_zero_or_pos wd with h0|h0;(subst h0;simp at ht);exact h0
  have h1:t/wd<n:=by rw[Nat.div_lt_iff_lt_mul hwd];exact ht
  obtain⟨u,hu,hr⟩:=h (t/wd) (t%wd) h1 (Nat.mod_lt _ hwd)
  have:t/wd*wd+t%wd=t:=by rw[Nat.mul_comm];exact Nat.div_add_mod t wd
  rw[this]at hu;exact⟨u,hu,hr⟩
 refine⟨by simp,.inr ⟨_,rfl,fun j u hj=>?_⟩,fun u hu=>?_,fun i j hi hj=>?_⟩
 ·simp only[List.getElem?_map]at hj;obtain⟨t,ht,he⟩:=Option.map_eq_some_iff.1 hj;obtain⟨hlt,rfl⟩:j<n*wd∧j=t:=by
   have:=List.getElem?_eq_some_iff.1 ht
   obtain⟨h1,h2⟩:=this;simp at h1 h2;exact⟨h1,h2⟩
  obtain⟨u',hu',_⟩:=key j hlt;rw[ft,hu'];rw[hu']at he
  simpa using he
 ·obtain⟨t,ht,he⟩:=List.mem_map.1 hu;obtain⟨u',hu',hr⟩:=key t (by simpa using ht);rw[hu']at he;simp only[Option.getD_some]at he;subst he;exact(aP.plain hr).1
 obtain⟨u,hu,hr⟩:=h i j hi hj;have hlt:i*wd+j<n*wd:=by
  have:(i+1)*wd≤n*wd:=Nat.mul_le_mul_right _ hi
  rw[Nat.add_mul]at this;omega
 exact⟨u,by simp[hlt,hu],hr⟩
theorem iX {ok:Nat→Prop}{w:World}{wd:Nat}{f:Nat→Nat→C}{a:Option Addr}:Cells ok w wd 0 f a []:=
 ⟨by simp,.inl rfl,fun u hu=>by simp at hu,fun i j hi=>absurd hi (Nat.not_lt_zero _)⟩
def gU (k:IntKind):C→Option (List Int)
 |.nil=>some []
 |.ints k' xs=>if k'=k then some xs else none
 |_=>none
theorem pz {ok:Nat→Prop}{w:World}{c:C}{v:Value}(h:aP ok w c v):
  (∀k xs,gU k c=some xs→∃a cap us,v= .slice a xs.length cap∧Cells ok w 1 xs.length (fun i _=>.int k (xs.getD i 0)) a us)∧
  (∀wd n f,(match c with|.nil=>n=0|.rows w' n' f'=>w'=wd∧n'=n∧f'=f|_=>False)→∃a cap us,v= .slice a n cap∧Cells ok w wd n f a us):=by
 constructor
 ·intro k xs hx
  cases c with
  |nil=>
   simp only[gU,Option.some.injEq]at hx;subst hx;exact⟨none,0,[],h,iX⟩
  |ints k' ys=>
   simp only[gU]at hx
   split at hx
   ·rename_i hk
    simp only[Option.some.injEq]at hx;subst hx;subst hk;obtain⟨a,cap,rfl,_,hr⟩:=h
    rcases hr with hr|⟨g,o,rfl,_,hcs⟩
    ·refine⟨a,cap,[],rfl,?_⟩;rw[hr];exact iX
    obtain⟨us,hus⟩:=sY (ok:=ok) (wd:=1) (n:=ys.length) (f:=fun i _=>.int k' (ys.getD i 0)) (fun i j hi hj=>⟨_,by rw[show i*1+j=i by omega];exact hcs i hi,rfl⟩);exact⟨_,cap,us,rfl,hus⟩
   cases hx
  |_=>simp[gU]at hx
 intro wd n f hm
 cases c with
 |nil=>
  simp only at hm;subst hm;exact⟨none,0,[],h,iX⟩
 |rows w' n' f'=>
  simp only at hm;obtain⟨rfl,rfl,rfl⟩:=hm;obtain⟨a,cap,rfl,_,hr⟩:=h
  rcases hr with hr|⟨g,o,rfl,_,hcs⟩
  ·refine⟨a,cap,[],rfl,?_⟩;rw[hr];exact iX
  obtain⟨us,hus⟩:=sY hcs;exact⟨_,cap,us,rfl,hus⟩
 |_=>exact hm.elim
theorem tK {P:Program}{w:World}{t ty e:TypeId}{i:TypeInfo}{z:Value}(ht:P.underlying t=some (.slice e))(hi:P.info? e=some i)(hz:i.zero=some z)
  (b:Option Addr) (sLen ql:Nat) (olds:List Value) (hlo:olds.length=sLen*i.size) (holds:kL w b olds)
  (a:Option Addr) (n c:Nat) (news:List Value) (hl:news.length=n*i.size) (hnews:kL w a news)
  (hg:ql<sLen+n) (hb:(sLen+n)*i.bytes≤140737488355328) (h63:sLen+n≤9223372036854775807):
  (Builtin.append_ #[t,t] ty #[.slice b sLen ql,.slice a n c]).run P w=
   .ok (.slice (some ⟨w.heap.size,0,none⟩) (sLen+n) (grownCap w (sLen+n) ql e))
    (w.drew.alloc (.cells (olds.toArray++news.toArray++Builtin.zeroCells z.cells (grownCap w (sLen+n) ql e-(sLen+n))) e)):=by
 have hn:¬(sLen+n≤ql):=by omega
 have h63':¬(9223372036854775807<((sLen:Int)+(n:Int))):=by omega
 have hfit:=growslice_fits hg hb;have h48':¬(281474976710656<Builtin.nextslicecap (sLen+n) ql*i.bytes):=by omega
 have hf:=dN (P:=P) (w:=w.drew) i.size n a n c news hl hnews;have hfo:=dN (P:=P) (w:=w.drew) i.size sLen b sLen ql olds hlo holds
 simp[Builtin.append_,Go.run_underlying ht,sizeOf,typeInfo,zeroValue,hi,hz,Builtin.lenOf,hn,h63',h48',Question.forced,hf,hfo,newRow,grownCap]
 congr 2
 apply Array.ext'
 simp[List.append_assoc]
theorem rF {P:Program}{w:World}{t ty e:TypeId}{i:TypeInfo}(ht:P.underlying t=some (.slice e))(hi:P.info? e=some i)
  (g o sLen ql:Nat) {cur:Array Value} {e':TypeId} (hg:w.heap[g]? =some (.cells cur e' (0,0)))
  (a:Option Addr) (n c:Nat) (news:List Value) (hl:news.length=n*i.size) (hnews:kL w a news) (h1:∀u∈news,u.oneCell'=true)
  (hroom:sLen+n≤ql) (hfit:o+sLen*i.size+news.length≤cur.size):
  (Builtin.append_ #[t,t] ty #[.slice (some ⟨g,o,none⟩) sLen ql,.slice a n c]).run P w=
   .ok (.slice (some ⟨g,o,none⟩) (sLen+n) ql) (w.setRow g (cur.toList.take (o+sLen*i.size)++news++cur.toList.drop (o+sLen*i.size+news.length)).toArray):=by
 have hf:=dN (P:=P) (w:=w) i.size n a n c news hl hnews;have hst:=run_storeCells_at P g (o+sLen*i.size) e' news 0 cur w hg (by simpa using hfit) h1;simp only[Nat.add_zero]at hst
 simp[Builtin.append_,Go.run_underlying ht,sizeOf,typeInfo,hi,Builtin.lenOf,hroom,hf,ft,hst]
theorem lL {P:Program}{w:World}{t ty e:TypeId}{i:TypeInfo}(ht:P.underlying t=some (.slice e))(hi:P.info? e=some i)(a:Option Addr)(c:Nat):
  (Builtin.append_ #[t,t] ty #[.slice none 0 0,.slice a 0 c]).run P w= .ok (.slice none 0 0) w:=by
 have hf:=dN (P:=P) (w:=w) i.size 0 a 0 c [] (by simp) (.inl rfl)
 simp[Builtin.append_,Go.run_underlying ht,sizeOf,typeInfo,hi,Builtin.lenOf,hf]
end Go.Eng
/-
  THE ENGINE, PART O: append, put together.
-/
namespace Go.Eng
open Go
def iG (wd:Nat):C→Option (Nat×(Nat→Nat→C))
 |.nil=>some (0,fun _ _=>.any)
 |.rows w n f=>if w=wd then some (n,f)else none
 |_=>none
def zo (own:List (Nat×fC))(wd:Nat):C→Option (List (Nat×fC))
 |.nil=>some own
 |.own b w _ _=>if w=wd then(match lo own b with
  |some B=>if B.rw then some (del own b)else none
  |none=>none)else none
 |_=>none
def x9 (own:List (Nat×fC))(nx0:Nat):C→C
 |.win _ _ _ _=>.any
 |.any=>jH own nx0 .any
 |.bool b=>jH own nx0 (.bool b)
 |.int k n=>jH own nx0 (.int k n)
 |.str s=>jH own nx0 (.str s)
 |.nil=>jH own nx0 .nil
 |.ints k xs=>jH own nx0 (.ints k xs)
 |.rows w n f=>jH own nx0 (.rows w n f)
 |.own b w o l=>jH own nx0 (.own b w o l)
 |.ptr b o=>jH own nx0 (.ptr b o)
 |.elt c w i o=>jH own nx0 (.elt c w i o)
 |.eptr b w i o=>jH own nx0 (.eptr b w i o)
 |.fn f n caps=>jH own nx0 (.fn f n caps)
def pj (T:fu)(s:St)(dst:Option Tmp)(t:TypeId)(x y:Operand)(K:St→Prop):Prop:=
 match dst with
 |none=>False
 |some d=>
       match T t with
  |some S=>
        match S.k with
   |.sl e=>match T e with
    |some E=>
          match s.ev x,s.ev y with
     |.one cx,.one cy=>match zo s.own E.size cx with
      |some own0=>match E.k with
       |.int k=>match gU k (x9 s.own s.nx cx),gU k (x9 s.own s.nx cy)with
        |some xs,some ys=>E.zero.length=E.size∧E.size=1∧((xs.length+ys.length)*E.bytes≤140737488355328∧xs.length+ys.length≤9223372036854775807)∧
          K {env:=(d,.one (.own s.nx 1 0 (xs++ys).length))::s.env,own:=eE own0 s.nx ⟨.ints e k (xs++ys),true⟩,nx:=s.nx+1,n:=s.n}
        |_,_=>False
       |_=>match iG E.size (x9 s.own s.nx cx),iG E.size (x9 s.own s.nx cy)with
        |some (n,f),some (m,g)=>E.zero.length=E.size∧0<E.size∧((n+m)*E.bytes≤140737488355328∧n+m≤9223372036854775807)∧
          K {env:=(d,.one (.own s.nx E.size 0 (n+m)))::s.env,own:=eE own0 s.nx ⟨.rows e E.size (n+m) (fun i j=>if i<n then f i j else g (i-n) j),true⟩,nx:=s.nx+1,n:=s.n}
        |_,_=>False
      |none=>False
     |_,_=>False
    |none=>False
   |_=>False
  |none=>False
section
variable {G:Ctx}{dom:Nat→Prop}{ρ:Nat→Loc}{s:St}{a:Act}{w:World}
theorem uS (hs:aW G dom ρ s a w){b wd off len:Nat}{B:fC}{v:Value}(hl:lo s.own b=some B)(hw:Ko B.bk=wd)(hfl:B.bk.flat)(hr:aI ρ dom (aJ G s.own ρ w) w (.own b wd off len) v):
  ∃ad cap us,v= .slice ad len cap∧Cells (aJ G s.own ρ w) w wd len (fun i j=>nW B.bk (off+i) j) ad us:=by
 obtain⟨_,hlen,hrep,_⟩:=hs.own b B hl;obtain⟨_,hle,cap,hc,hr⟩:=hr
 rcases hr with⟨g,o,o',haddr,rfl,ho,_⟩|⟨_,rfl,rfl,_⟩
 ·by_cases h0:len=0
  ·subst h0;exact⟨_,cap,[],rfl,iX⟩
  unfold aL at hrep;rw[haddr]at hrep;obtain⟨cur,e,hg,hcell⟩:=hrep
  have ho':o'=o+off*wd:=by rcases ho with ho|ho<;>omega
  rw[hlen]at hle;obtain⟨us,hus⟩:=sY (ok:=aJ G s.own ρ w) (w:=w) (wd:=wd) (n:=len) (g:=g) (o:=o') (f:=fun i j=>nW B.bk (off+i) j) (fun i j hi hj=>by
   rw[cell_of_row w g _ cur e (0,0) hg,ho']
   cases hB:B.bk with
   |var cs=>rw[hB]at hfl;exact hfl.elim
   |wins e b2 n g=>rw[hB]at hfl;exact hfl.elim
   |ints e' k xs=>
    rw[hB]at hcell hw hle;simp only[Ko]at hw;subst hw;simp only[Bk.len]at hle;have hx:off+i<xs.length:=by omega
    obtain⟨u,hu',hr⟩:=hcell (off+i) (.int k (xs.getD (off+i) 0)) (by simp[Bk.cell,X8 hx]);exact⟨u,by rw[show o+off*1+(i*1+j)=o+(off+i) by omega];exact hu',hr⟩
   |rows e' wd' n' f=>
    rw[hB]at hcell hw hle;simp only[Ko]at hw;subst hw;simp only[Bk.len]at hle;have hlt:(off+i)*wd'+j<n'*wd':=by
     have:(off+i+1)*wd'≤n'*wd':=Nat.mul_le_mul_right _ (by omega)
     rw[Nat.add_mul (off+i)]at this;omega
    obtain⟨u,hu',hr⟩:=hcell ((off+i)*wd'+j) (f (off+i) j) (by
     simp only[Bk.cell,if_pos hlt];rw[Nat.mul_comm (off+i) wd',Nat.mul_add_div (by omega),Nat.div_eq_of_lt hj,Nat.mul_add_mod,Nat.mod_eq_of_lt hj];simp)
    exact⟨u,by rw[show o+off*wd'+(i*wd'+j)=o+((off+i)*wd'+j) by rw[Nat.add_mul];omega];exact hu',hr⟩)
  exact⟨_,cap,us,rfl,hus⟩
 exact⟨none,0,[],rfl,iX⟩
theorem Cells.congr {ok:Nat→Prop}{wd n:Nat}{f g:Nat→Nat→C}{ad:Option Addr}{us:List Value}(h:Cells ok w wd n f ad us)(he:∀i j,i<n→j<wd→f i j=g i j):Cells ok w wd n g ad us:=
 ⟨h.len,h.at_,h.one,fun i j hi hj=>by rw[←he i j hi hj];exact h.rep i j hi hj⟩
theorem zP (own:List (Nat×fC))(nx b off:Nat)(k:IntKind)(wd:Nat):gU k (jH own nx (.ptr b off))=none∧iG wd (jH own nx (.ptr b off))=none:=by
 simp only[jH]
 split
 ·cases lo own b with
  |none=>exact⟨rfl,rfl⟩
  |some B=>obtain⟨B,r⟩:=B;cases B<;>exact ⟨rfl,rfl⟩
 exact⟨rfl,rfl⟩
theorem zN (hs:aW G dom ρ s a w)(hdom:∀b,dom b→b<s.nx){c:C}{v:Value}(hr:aI ρ dom (aJ G s.own ρ w) w c v){k:IntKind}{xs:List Int}(hx:gU k (x9 s.own s.nx c)=some xs):
  ∃ad cap us,v= .slice ad xs.length cap∧Cells (aJ G s.own ρ w) w 1 xs.length (fun i _=>.int k (xs.getD i 0)) ad us:=by
 cases c with
 |own b wd off len=>
  have hb:=hdom b hr.1;simp only[x9,jH,if_pos hb]at hx
  cases hl:lo s.own b with
  |none=>rw[hl]at hx;simp[gU]at hx
  |some B=>
   rw[hl]at hx;simp only at hx
   cases hB:B.bk with
   |var cs=>rw[hB]at hx;simp[fZ,gU]at hx
   |wins e b2 n g=>rw[hB]at hx;simp[fZ,gU]at hx
   |rows e w' n f=>rw[hB]at hx;simp only[fZ]at hx;split at hx<;>simp [gU]at hx
   |ints e k' ys=>
    rw[hB]at hx;simp only[fZ]at hx
    split at hx
    ·rename_i hwd
     subst hwd;simp only[gU]at hx
     split at hx
     ·rename_i hk
      subst hk;simp only[Option.some.injEq]at hx;obtain⟨ad,cap,us,hv,hc⟩:=uS hs hl (by rw[hB];rfl) (by rw[hB];trivial) hr;obtain⟨_,hlen,_,_⟩:=hs.own b B hl;have hle:=hr.2.1;rw[hlen,hB]at hle;simp only[Bk.len]at hle;have hxl:xs.length=len:=by rw[←hx];simp;omega
      refine⟨ad,cap,us,by rw[hxl];exact hv,?_⟩;rw[hxl];refine hc.congr fun i j hi hj=>?_;simp only[hB,nW,←hx,X7,List.getElem?_take,List.getElem?_drop];rw[if_pos hi]
     cases hx
    simp[gU]at hx
 |nil=>exact(pz (c:=.nil) hr).1 k xs hx
 |ints k' ys=>exact(pz (c:=.ints k' ys) hr).1 k xs hx
 |fn f n caps=>simp only[x9,jH]at hx;split at hx<;>simp [gU]at hx
 |ptr b off=>rw[x9,(zP s.own s.nx b off k 0).1]at hx;cases hx
 |_=>simp[x9,jH,gU]at hx
theorem sX (hs:aW G dom ρ s a w)(hdom:∀b,dom b→b<s.nx){c:C}{v:Value}(hr:aI ρ dom (aJ G s.own ρ w) w c v){wd n:Nat}{f:Nat→Nat→C}(hx:iG wd (x9 s.own s.nx c)=some (n,f)):
  ∃ad cap us,v= .slice ad n cap∧Cells (aJ G s.own ρ w) w wd n f ad us:=by
 cases c with
 |own b wd' off len=>
  have hb:=hdom b hr.1;simp only[x9,jH,if_pos hb]at hx
  cases hl:lo s.own b with
  |none=>rw[hl]at hx;simp[iG]at hx
  |some B=>
   rw[hl]at hx;simp only at hx
   cases hB:B.bk with
   |var cs=>rw[hB]at hx;simp[fZ,iG]at hx
   |wins e b2 n g=>rw[hB]at hx;simp[fZ,iG]at hx
   |ints e k' ys=>rw[hB]at hx;simp only[fZ]at hx;split at hx<;>simp [iG]at hx
   |rows e w' n' f'=>
    rw[hB]at hx;simp only[fZ]at hx
    split at hx
    ·rename_i hwd
     subst hwd;simp only[iG]at hx
     split at hx
     ·rename_i hww
      subst hww;simp only[Option.some.injEq,Prod.mk.injEq]at hx;obtain⟨rfl,rfl⟩:=hx;obtain⟨ad,cap,us,hv,hc⟩:=uS hs hl (by rw[hB];rfl) (by rw[hB];trivial) hr;refine⟨ad,cap,us,hv,hc.congr fun i j hi hj=>by rw[hB];rfl⟩
     cases hx
    simp[iG]at hx
 |nil=>
  simp only[x9,jH,iG,Option.some.injEq,Prod.mk.injEq]at hx;exact(pz (c:=.nil) hr).2 wd n f hx.1.symm
 |rows w' n' f'=>
  simp only[x9,jH,iG]at hx
  split at hx
  ·rename_i hw
   simp only[Option.some.injEq,Prod.mk.injEq]at hx;exact(pz (c:=.rows w' n' f') hr).2 wd n f ⟨hw,hx.1,hx.2⟩
  cases hx
 |fn f n caps=>simp only[x9,jH]at hx;split at hx<;>simp [iG]at hx
 |ptr b off=>rw[x9,(zP s.own s.nx b off .i64 wd).2]at hx;cases hx
 |_=>simp[x9,jH,iG]at hx
theorem aW.del (h:aW G dom ρ s a w)(b:Nat):aW G dom ρ {s with own:=Eng.del s.own b} a w:=by
 have hext:Ext (aJ G s.own ρ w) (aJ G (Eng.del s.own b) ρ w) w w:=Ext.dE fun g hg=>⟨hg.1,hg.2.1,fun b2 B2 hl2 hrw=>by
  rw[j3]at hl2
  split at hl2
  ·cases hl2
  exact hg.2.2 b2 B2 hl2 hrw⟩
 have hs:gV dom dom ρ ρ:=⟨fun _ h=>h,fun _ _=>rfl⟩;refine h.rA hext hs (fun b2 B2 hl2=>?_) (fun b2 B2 b3 B3 hl2 hl3=>?_) rfl rfl rfl (Nat.le_refl _) (fun _ _ _=>rfl)
 ·rw[j3]at hl2
  split at hl2
  ·cases hl2
  obtain⟨h1,h2,h3,h4⟩:=h.own b2 B2 hl2;exact⟨h1,h2,aL.ext hext hs _ _ (fun _ _ _=>rfl) h3,h4⟩
 rw[j3]at hl2 hl3
 split at hl2
 ·cases hl2
 split at hl3
 ·cases hl3
 exact h.inj b2 B2 b3 B3 hl2 hl3
theorem aW.CP (h:aW G dom ρ s a w){id:Nat}(hid:¬dom id)(B:Bk)(hB:∀j,B.cell j=none)(hlen:B.len=0):
  aW G (fun b=>dom b∨b=id) (aZ ρ id ⟨none,0⟩) {s with own:=eE s.own id ⟨B,true⟩} a w:=by
 have hs:=gV.aZ ρ ⟨none,0⟩ hid;have hext:Ext (aJ G s.own ρ w) (aJ G (eE s.own id ⟨B,true⟩) (Eng.aZ ρ id ⟨none,0⟩) w) w w:=Ext.dE fun g hg=>⟨hg.1,hg.2.1,fun b2 B2 hl2 hrw o=>by
  rw[bT]at hl2
  by_cases hbi:b2=id
  ·subst hbi;rw[lQ];simp
  rw[if_neg hbi]at hl2;rw[aS _ _ hbi];exact hg.2.2 b2 B2 hl2 hrw o⟩
 refine h.rA hext hs (fun b2 B2 hl2=>?_) (fun b2 B2 b3 B3 hl2 hl3 hne hrw g o o' ha=>?_) rfl rfl rfl (Nat.le_refl _) (fun _ _ _=>rfl)
 ·rw[bT]at hl2
  by_cases hbi:b2=id
  ·subst hbi;rw[if_pos rfl]at hl2;obtain rfl:=Option.some.inj hl2;rw[lQ];exact⟨.inr rfl,hlen.symm,hB,fun g o ha=>by cases ha⟩
  rw[if_neg hbi]at hl2;rw[aS _ _ hbi];obtain⟨h1,h2,h3,h4⟩:=h.own b2 B2 hl2;exact⟨.inl h1,h2,aL.ext hext hs _ _ (fun _ _ _=>rfl) h3,h4⟩
 rw[bT]at hl2 hl3
 by_cases hbi:b2=id
 ·subst hbi;rw[lQ]at ha;cases ha
 rw[if_neg hbi]at hl2;rw[aS _ _ hbi]at ha
 by_cases hbi':b3=id
 ·subst hbi';rw[lQ];simp
 rw[if_neg hbi']at hl3;rw[aS _ _ hbi'];exact h.inj b2 B2 b3 B3 hl2 hl3 hne hrw g o o' ha
theorem aW.drew (h:aW G dom ρ s a w):aW G dom ρ s a w.drew:=h.grown ((Go.RowKit.Below.refl _ _).drew)
end
theorem rv {P:Program}{w:World}{t ty e:TypeId}{i:TypeInfo}(ht:P.underlying t=some (.slice e))(hi:P.info? e=some i)(b:Option Addr)(n cap:Nat)(a:Option Addr)(c:Nat)(h:n≤cap):
  (Builtin.append_ #[t,t] ty #[.slice b n cap,.slice a 0 c]).run P w= .ok (.slice b n cap) w:=by
 have hf:=dN (P:=P) (w:=w) i.size 0 a 0 c [] (by simp) (.inl rfl)
 cases b<;>simp [Builtin.append_,Go.run_underlying ht,sizeOf,typeInfo,hi,Builtin.lenOf,hf,h,storeCells]
section
variable {P:Program}{T:fu}{o:Oper}{s:St}{K:St→Prop}
theorem xM {P:Program}{t t' e e':TypeId}(ht:P.underlying t=some (.slice e))(ht':P.underlying t'=some (.slice e'))(ty:TypeId)(u v:Value)(w:World):
  (Builtin.append_ #[t,t'] ty #[u,v]).run P w=(Builtin.append_ #[t,t] ty #[u,v]).run P w:=by
 simp only[Builtin.append_,List.getElem?_toArray,List.getElem?_cons_zero,List.getElem?_cons_succ,Sem.run_bind,av ht,av ht',Result.andThen_ok,Sem.run_pure]
 cases u<;>simp only[Sem.run_bind,av ht,av ht',Result.andThen_ok,Sem.run_pure]
theorem pA {d:Tmp}(hd:o.dst=some d)(hdn:d<s.n){c:Call}(ho:o.op= .call c)(hcal:c.callee= .builtin .append){x y:Operand}(hargs:c.args= #[x,y]){t t':TypeId}(htys:c.argTypes= #[t,t']){e':TypeId}(ht':P.underlying t'=some (.slice e'))
  {e:TypeId} {ei:TypeInfo} {ez:Value} (ht:P.underlying t=some (.slice e)) (hei:P.info? e=some ei) (hez:ei.zero=some ez) (hzs:ez.cells.size=ei.size)
  {cx:C} (hx:s.ev x= .one cx) {wd:Nat} (hwd:wd=ei.size) (hpos:0<wd) {own0:List (Nat×fC)} (hbase:zo s.own wd cx=some own0)
  {n m:Nat} {f0 f1:Nat→Nat→C} (B':Bk) (hBv:∀cs,B'≠ .var cs) (hBl:B'.len=n+m)
  (hB':∀j c,B'.cell j=some c→j<(n+m)*wd∧c=if j/wd<n then f0 (j/wd) (j%wd)else f1 (j/wd-n) (j%wd))
  (hb:(n+m)*ei.bytes≤140737488355328) (h63:n+m≤9223372036854775807)
  (hcx:∀G ρ a w,aW G (fun b=>b<s.nx) ρ s a w→∃ad cap us,a.eval x= .slice ad n cap∧Cells (aJ G s.own ρ w) w wd n f0 ad us)
  (hcy:∀G ρ a w,aW G (fun b=>b<s.nx) ρ s a w→∃ad cap us,a.eval y= .slice ad m cap∧Cells (aJ G s.own ρ w) w wd m f1 ad us)
  (hK:K {env:=(d,.one (.own s.nx wd 0 (n+m)))::s.env,own:=eE own0 s.nx ⟨B',true⟩,nx:=s.nx+1,n:=s.n}):mF P o s K:=by
 subst hwd;intro G a w hsim Q next hk;obtain⟨ρ,hs⟩:=hsim;obtain⟨ad0,cap0,us0,hv0,hc0⟩:=hcx G ρ a w hs;obtain⟨ad1,cap1,us1,hv1,hc1⟩:=hcy G ρ a w hs;have hid:¬(s.nx<s.nx):=Nat.lt_irrefl _;have hexec:∀(v:Value) (w':World),(Builtin.append_ #[t,t] o.type #[a.eval x,a.eval y]).run P w= .ok v w'→(execOp a.eval o).run P w= .ok (.value v) w':=by
  intro v w' hr;unfold execOp;rw[ho];simp only[resolve,hcal,Sem.run_bind,Sem.run_pure,Result.andThen_ok,invoke,Go.builtin,hargs,htys];rw[show Array.map a.eval #[x,y]= #[a.eval x,a.eval y] by simp,xM ht ht',hr];rfl
 -- from the block's state to the whole
 have fin:∀(v:Value) (w':World) (ρ':Nat→Loc),(execOp a.eval o).run P w= .ok (.value v) w'→
   aW G (fun b=>b<s.nx∨b=s.nx) ρ' {s with own:=eE own0 s.nx ⟨B',true⟩} a w'→aI ρ' (fun b=>b<s.nx∨b=s.nx) (aJ G (eE own0 s.nx ⟨B',true⟩) ρ' w') w' (.own s.nx ei.size 0 (n+m)) v→o.wp P a w next Q:=by
  intro v w' ρ' hr h1 h2;refine Oper.dc hr (hk _ _ _ hK ⟨ρ',?_⟩);rw[hd];have h3:=h1.put (dst:=some d) (x:=.one (.own s.nx ei.size 0 (n+m))) (v:=v) (fun d' hh=>by cases hh;exact hdn) h2
  have h4:=h3.cQ (dom':=fun b=>b<s.nx+1) (fun b hb=>by rcases hb with hb|hb<;>omega)
  exact{hd:=h4.hd,hn:=h4.hn,env:=h4.env,own:=h4.own,inj:=h4.inj,os:=h4.os,tape:=h4.tape,output:=h4.output,size:=h4.size,keep:=h4.keep,wf:=h4.wf,home:=h4.home,room:=h4.room}
 -- a new row
 have cellAt:∀(pre:List Value),pre=us0++us1→∀j c,B'.cell j=some c→∃u,pre[j]? =some u∧aP (aJ G s.own ρ w) w c u:=by
  intro pre hpre j c hj;obtain⟨hlt,rfl⟩:=hB' j c hj;have hdm:j/ei.size*ei.size+j%ei.size=j:=by rw[Nat.mul_comm];exact Nat.div_add_mod j ei.size
  have hml:j%ei.size<ei.size:=Nat.mod_lt _ hpos;have hdl:j/ei.size<n+m:=(Nat.div_lt_iff_lt_mul hpos).2 hlt;have hl0:=hc0.len
  by_cases hn:j/ei.size<n
  ·rw[if_pos hn];obtain⟨u,hu,hr⟩:=hc0.rep _ _ hn hml;rw[hdm]at hu;refine⟨u,?_,hr⟩;have hju:=(List.getElem?_eq_some_iff.1 hu).1;rw[hpre,List.getElem?_append_left hju];exact hu
  rw[if_neg hn];obtain⟨u,hu,hr⟩:=hc1.rep (j/ei.size-n) _ (by omega) hml;refine⟨u,?_,hr⟩;have hge:n*ei.size≤j:=by
   have:n*ei.size≤j/ei.size*ei.size:=Nat.mul_le_mul_right _ (by omega)
   omega
  rw[hpre,List.getElem?_append_right (by omega),hl0,←hu]
  congr 1
  have hmul:n*ei.size≤j/ei.size*ei.size:=Nat.mul_le_mul_right _ (by omega);rw[Nat.sub_mul,←Nat.sub_add_comm hmul,hdm]
 have hzz:(us0.toArray++us1.toArray).toList=us0++us1:=by simp
 have newRow:cap0<n+m→(own0=s.own∨∃b,own0=Eng.del s.own b)→o.wp P a w next Q:=by
  intro hcap hown;have hr:=tK (ty:=o.type) ht hei hez ad0 n cap0 us0 hc0.len hc0.at_ ad1 m cap1 us1 hc1.len hc1.at_ hcap hb h63;rw[←hv0,←hv1]at hr;have hgc:n+m≤grownCap w (n+m) cap0 e:=grownCap_ge w _ _ _;have h1:aW G (fun b=>b<s.nx) ρ {s with own:=own0} a w.drew:=by
   rcases hown with rfl|⟨b,rfl⟩
   ·exact hs.drew
   exact hs.drew.del b
  have hokm:∀g,aJ G s.own ρ w g→aJ G own0 ρ w.drew g:=fun g hg=>by
   rcases hown with rfl|⟨b,rfl⟩
   ·exact hg
   exact⟨hg.1,hg.2.1,fun b2 B2 hl2 hrw=>by
    rw[j3]at hl2
    split at hl2
    ·cases hl2
    exact hg.2.2 b2 B2 hl2 hrw⟩
  have hextd:Ext (aJ G s.own ρ w) (aJ G own0 ρ w.drew) w w.drew:=⟨fun g hg=>⟨hokm g hg,rfl⟩,fun _=>Nat.le_refl _⟩;have h2:=h1.AO hid B' (us0.toArray++us1.toArray++Builtin.zeroCells ez.cells (grownCap w (n+m) cap0 e-(n+m))) e (fun j c hj=>by
   obtain⟨u,hu,hr⟩:=cellAt _ rfl j c hj;refine⟨u,?_,?_⟩
   ·have hju:=(List.getElem?_eq_some_iff.1 hu).1;rw[Array.getElem?_append_left (by simpa using hju)];rw[←Array.getElem?_toList,hzz];exact hu
   have hr':=aP.ext hextd _ _ hr
   cases B' with
   |var cs=>exact absurd rfl (hBv cs)
   |ints e k xs=>exact hr'
   |rows e w n f=>exact hr'
   |wins e b2 n g=>exact aI.bh hr')
  refine fin _ _ _ (hexec _ _ hr) h2 ⟨.inr rfl,by rw[lQ];simp[hBl],grownCap w (n+m) cap0 e,hgc,.inl ⟨w.heap.size,0,0,by rw[lQ];rfl,rfl,.inr (by simp),?_⟩⟩;have hrs:cL (w.drew.alloc (.cells (us0.toArray++us1.toArray++Builtin.zeroCells ez.cells (grownCap w (n+m) cap0 e-(n+m))) e)) w.heap.size=(us0.toArray++us1.toArray++Builtin.zeroCells ez.cells (grownCap w (n+m) cap0 e-(n+m))).size:=dC (heap_alloc_new w.drew _);rw[hrs];simp only[Array.size_append,List.size_toArray,size_zeroCells,hc0.len,hc1.len,hzs]
  have:grownCap w (n+m) cap0 e=n+m+(grownCap w (n+m) cap0 e-(n+m)):=by omega
  rw[Nat.zero_add,Nat.zero_add]
  conv=>lhs;rw[this]
  rw[Nat.add_mul,Nat.add_mul];exact Nat.le_refl _
 unfold zo at hbase
 split at hbase
 ·-- the base is nil
  simp only[Option.some.injEq]at hbase;have hxn:=hs.ev x;rw[hx]at hxn;have hxn:a.eval x= .slice none 0 0:=hxn;rw[hxn]at hv0;simp only[Value.slice.injEq]at hv0;obtain⟨rfl,rfl,rfl⟩:=hv0
  by_cases hm:m=0
  ·subst hm;have hr:=lL (P:=P) (w:=w) (ty:=o.type) ht hei ad1 cap1;rw[←hv1,←hxn]at hr;subst hbase;have h2:=hs.CP hid B' (fun j=>by
    cases hc:B'.cell j with
    |none=>rfl
    |some c=>have:=(hB' j c hc).1;simp at this) (by rw[hBl])
   exact fin _ _ _ (hexec _ _ hr) h2 ⟨.inr rfl,by rw[lQ];simp,0,by simp,.inr ⟨by rw[lQ],hxn,by simp,rfl⟩⟩
  exact newRow (by omega) (.inl hbase.symm)
 ·-- it is a slice of the frame's own
  rename_i b w' off len
  split at hbase
  ·rename_i hww
   subst hww
   cases hlo:lo s.own b with
   |none=>rw[hlo]at hbase;simp at hbase
   |some B=>
    rw[hlo]at hbase;simp only at hbase
    split at hbase
    ·rename_i hrw
     simp only[Option.some.injEq]at hbase
     by_cases hcap:cap0<n+m
     ·exact newRow hcap (.inr ⟨b,hbase.symm⟩)
     have hxo:=hs.ev x;rw[hx]at hxo;obtain⟨hdb,hle,cap,hc,hxo⟩:=hxo
     rcases hxo with⟨g,o1,o2,haddr,hvx,ho,hroom⟩|⟨haddr,hvx,rfl,rfl⟩
     ·rw[hvx]at hv0;simp only[Value.slice.injEq]at hv0;obtain⟨rfl,rfl,rfl⟩:=hv0;obtain⟨_,hlenb,hrepb,hlocb⟩:=hs.own b B hlo;unfold aL at hrepb;rw[haddr]at hrepb;obtain⟨cur,e',hg,hcells⟩:=hrepb;rw[dC hg]at hroom;have hlo':lo s.own b=some ⟨B.bk,true⟩:=by rw[hlo,←hrw]
      -- the base's place
      have hfit:o2+len*ei.size+us1.length≤cur.size∨len+m=0:=by
       by_cases h0:len+m=0
       ·exact .inr h0
       left
       have ho2:o2=o1+off*ei.size:=by rcases ho with ho|ho<;>omega
       have hl1:=hc1.len;have h3:(len+m)*ei.size≤cap*ei.size:=Nat.mul_le_mul_right _ (by omega);rw[Nat.add_mul]at h3 hroom;omega
      rcases hfit with hfit|h0
      ·have hr:=rF (P:=P) (w:=w) (ty:=o.type) ht hei g o2 len cap hg ad1 m cap1 us1 hc1.len hc1.at_ hc1.one (by omega) hfit;rw[←hvx,←hv1]at hr;have hsz':((cur.toList.take (o2+len*ei.size)++us1++cur.toList.drop (o2+len*ei.size+us1.length)).toArray).size=cur.size:=by simp;omega
       have h2:=hs.rewrite hlo' haddr hg hsz' hid B' o2 (fun j c hj=>by
        obtain⟨hlt,rfl⟩:=hB' j c hj;have hdm:j/ei.size*ei.size+j%ei.size=j:=by rw[Nat.mul_comm];exact Nat.div_add_mod j ei.size
        have hml:j%ei.size<ei.size:=Nat.mod_lt _ hpos;have hdl:j/ei.size<len+m:=(Nat.div_lt_iff_lt_mul hpos).2 hlt;have hlg:=il cur.toList (o2+len*ei.size) us1 (by simpa using hfit) (o2+j);have hl1:=hc1.len
        by_cases hn:j/ei.size<len
        ·rw[if_pos hn];obtain⟨u,hu,hr⟩:=hc0.rep _ _ hn hml;rw[hdm]at hu;have hjl:j<len*ei.size:=by
          have:(j/ei.size+1)*ei.size≤len*ei.size:=Nat.mul_le_mul_right _ hn
          rw[Nat.add_mul]at this;omega
         rw[if_neg (by omega)]at hlg;refine⟨u,?_,?_⟩
         ·rw[List.getElem?_toArray,hlg,Array.getElem?_toList]
          rcases hc0.at_ with h0|⟨ad,had,hat⟩
          ·rw[h0]at hu;simp at hu
          simp only[Option.some.injEq]at had;subst had
          have:=hat j u hu
          rw[ft,cell_of_row w g _ cur e' (0,0) hg]at this;exact this
         cases B' with
         |var cs=>exact absurd rfl (hBv cs)
         |ints e k xs=>exact hr
         |rows e w n f=>exact hr
         |wins e b2 n g=>exact aI.bh hr
        rw[if_neg hn];obtain⟨u,hu,hr⟩:=hc1.rep (j/ei.size-len) _ (by omega) hml;have hmul:len*ei.size≤j/ei.size*ei.size:=Nat.mul_le_mul_right _ (by omega);have hge:len*ei.size≤j:=by omega
        rw[Nat.sub_mul,←Nat.sub_add_comm hmul,hdm]at hu;have hju:=(List.getElem?_eq_some_iff.1 hu).1;rw[if_pos (by omega),show o2+j-(o2+len*ei.size)=j-len*ei.size by omega]at hlg;refine⟨u,?_,?_⟩
        ·rw[List.getElem?_toArray,hlg,←hu]
        cases B' with
        |var cs=>exact absurd rfl (hBv cs)
        |ints e k xs=>exact hr
        |rows e w n f=>exact hr
        |wins e b2 n g=>exact aI.bh hr)
       subst hbase;refine fin _ _ _ (hexec _ _ hr) h2 ⟨.inr rfl,by rw[lQ];simp[hBl],cap,by omega,.inl ⟨g,o2,o2,by rw[lQ],rfl,.inr (by simp),?_⟩⟩;rw[dC (setRow_heap w g cur _ e' (0,0) hg),hsz']
       by_cases hc0':cap=0
       ·subst hc0';simp;omega
       have ho2:o2=o1+off*ei.size:=by rcases ho with ho|ho<;>omega
       rw[Nat.add_mul]at hroom;rw[ho2,Nat.zero_add];omega
      -- nothing at all is laid
      have hl0:len=0:=by omega
      have hm0:m=0:=by omega
      subst hl0;subst hm0;have hr:=rv (P:=P) (w:=w) (ty:=o.type) ht hei (some ⟨g,o2,none⟩) 0 cap ad1 cap1 hc;rw[←hvx,←hv1]at hr;have h2:=hs.rewrite (cur':=cur) hlo' haddr hg rfl hid B' (o1+off*ei.size) (fun j c hj=>by have:=(hB' j c hj).1;simp at this);rw[setRow_self w g cur e' (0,0) hg]at h2;subst hbase;refine fin _ _ _ (hexec _ _ hr) h2 ⟨.inr rfl,by rw[lQ];simp,cap,hc,.inl ⟨g,o1+off*ei.size,o2,by rw[lQ],hvx,?_,?_⟩⟩
      ·rcases ho with ho|ho
       ·exact .inl ho
       exact .inr (by rw[ho];omega)
      rw[dC hg];rw[Nat.add_mul]at hroom;rw[Nat.zero_add];omega
     rw[hvx]at hv0;simp only[Value.slice.injEq]at hv0;obtain⟨rfl,rfl,rfl⟩:=hv0;have hm:m=0:=by omega
     subst hm;have hr:=lL (P:=P) (w:=w) (ty:=o.type) ht hei ad1 cap1;rw[←hv1,←hvx]at hr;subst hbase;have h2:=(hs.del b).CP hid B' (fun j=>by
      cases hc:B'.cell j with
      |none=>rfl
      |some c=>have:=(hB' j c hc).1;simp at this) (by rw[hBl])
     exact fin _ _ _ (hexec _ _ hr) h2 ⟨.inr rfl,by rw[lQ];simp,0,by simp,.inr ⟨by rw[lQ],hvx,by simp,rfl⟩⟩
    cases hbase
  cases hbase
 cases hbase
theorem KT (hT:eD P T){c:Call}(ho:o.op= .call c)(hcal:c.callee= .builtin .append){x y:Operand}(hargs:c.args= #[x,y]){t t':TypeId}(htys:c.argTypes= #[t,t']){e':TypeId}(ht':P.underlying t'=some (.slice e'))
  (hdn:b5 o s.n) (h:pj T s o.dst t x y K):mF P o s K:=by
 unfold pj at h
 cases hd:o.dst with
 |none=>rw[hd]at h;exact h.elim
 |some d=>
  rw[hd]at h;simp only at h
  cases hTt:T t with
  |none=>rw[hTt]at h;exact h.elim
  |some S=>
   rw[hTt]at h;simp only at h
   split at h
   ·rename_i e hSk
    have hu:=fb hT hTt hSk
    cases hTe:T e with
    |none=>rw[hTe]at h;exact h.elim
    |some E=>
     rw[hTe]at h;simp only at h;obtain⟨ei,ed,ez,hei,heu,hez,hek,hes,heb,hzc,hall⟩:=bD hT hTe
     split at h
     ·rename_i cx cy hx hy
      cases hb:zo s.own E.size cx with
      |none=>rw[hb]at h;exact h.elim
      |some own0=>
       rw[hb]at h;simp only at h;have hcx:∀G ρ a w,aW G (fun b=>b<s.nx) ρ s a w→aI ρ (fun b=>b<s.nx) (aJ G s.own ρ w) w cx (a.eval x):=fun G ρ a w hs=>by
        have:=hs.ev x;rw[hx]at this;exact this
       have hcy:∀G ρ a w,aW G (fun b=>b<s.nx) ρ s a w→aI ρ (fun b=>b<s.nx) (aJ G s.own ρ w) w cy (a.eval y):=fun G ρ a w hs=>by
        have:=hs.ev y;rw[hy]at this;exact this
       split at h
       ·rename_i k hk
        split at h
        ·rename_i xs ys hxs hys
         obtain⟨hzl,hE1,⟨hbd,h63⟩,hK⟩:=h;have hzs:ez.cells.size=ei.size:=by rw[←hes,←hzl,hzc];simp
         refine pA (wd:=E.size) (n:=xs.length) (m:=ys.length) (f0:=fun i _=>.int k (xs.getD i 0)) (f1:=fun i _=>.int k (ys.getD i 0)) hd (hdn d hd) ho hcal hargs htys ht' hu hei hez hzs hx hes (by omega) hb (.ints e k (xs++ys)) (fun cs=>by simp) (by simp[Bk.len]) (fun j c hj=>?_) (by rw[←heb];exact hbd) h63 (fun G ρ a w hs=>?_) (fun G ρ a w hs=>?_) (by rw[hE1,←X6];exact hK)
         ·simp only[Bk.cell]at hj;obtain⟨v,hv,rfl⟩:=Option.map_eq_some_iff.1 hj;obtain⟨hjl,hjv⟩:=List.getElem?_eq_some_iff.1 hv;rw[X6]at hjl;rw[hE1,Nat.mul_one,Nat.div_one];refine⟨hjl,?_⟩;subst hjv
          by_cases hjx:j<xs.length
          ·rw[if_pos hjx]
           congr 1
           rw[List.getElem_append_left hjx]
           simp[X8 hjx]
          rw[if_neg hjx]
          congr 1
          rw[List.getElem_append_right (by omega)]
          have:j-xs.length<ys.length:=by omega
          simp[X8 this]
         ·rw[hE1];exact zN hs (fun _ h=>h) (hcx G ρ a w hs) hxs
         rw[hE1];exact zN hs (fun _ h=>h) (hcy G ρ a w hs) hys
        exact h.elim
       split at h
       ·rename_i n f m g hxs hys
        obtain⟨hzl,hpos,⟨hbd,h63⟩,hK⟩:=h;have hzs:ez.cells.size=ei.size:=by rw[←hes,←hzl,hzc];simp
        refine pA (wd:=E.size) (n:=n) (m:=m) (f0:=f) (f1:=g) hd (hdn d hd) ho hcal hargs htys ht' hu hei hez hzs hx hes hpos hb (.rows e E.size (n+m) (fun i j=>if i<n then f i j else g (i-n) j)) (fun cs=>by simp) rfl (fun j c hj=>?_) (by rw[←heb];exact hbd) h63 (fun G ρ a w hs=>?_) (fun G ρ a w hs=>?_) hK
        ·simp only[Bk.cell]at hj
         split at hj
         ·rename_i hlt
          simp only[Option.some.injEq]at hj;exact⟨hlt,hj.symm⟩
         cases hj
        ·exact sX hs (fun _ h=>h) (hcx G ρ a w hs) hxs
        exact sX hs (fun _ h=>h) (hcy G ρ a w hs) hys
       exact h.elim
     exact h.elim
   exact h.elim
end
end Go.Eng
/-
  THE ENGINE, PART P: calls of functions that turn one block of the caller's.
-/
namespace Go.Eng
open Go
def Bk.plain:Bk→Prop
 |.var cs=>cs.all fX=true
 |.wins .. =>False
 |_=>True
structure xf (l:Loc) (w w':World):Prop where
 os:w'.os=w.os
 tape:w'.tape=w.tape
 output:w'.output=w.output
 size:w.heap.size≤w'.heap.size
 block:∀k,k<w.heap.size→(∀o,l.addr≠some (k,o))→w'.heap[k]? =w.heap[k]?
 room:∀g,cL w g≤cL w' g
def E7 (ok:Nat→Prop)(w w':World)(g:Nat):Prop:=ok g∨(w.heap.size≤g∧g<w'.heap.size)
def Mc (P:Program)(f:FuncId)(args:List V)(B:Bk)(R:V→Bk→Prop):Prop:=
 gZ P f∧∀(ok:Nat→Prop) (w:World) (vs:Array Value) (l:Loc),(∀g,ok g→g<w.heap.size)→l.len=B.len→(∀g o,l.addr=some (g,o)→g<w.heap.size∧¬ok g)→
  aL bm bp ok w l B→a6 (fun _=>l) (fun b=>b=0) ok w args vs.toList→
  Calls P f vs w fun e w'=>∃v r B',e= .returned v∧R r B'∧B'.plain∧B'.len=B.len∧xf l w w'∧
   aL bm bp (E7 ok w w') w' l B'∧cC (fun _=>l) (fun b=>b=0) (E7 ok w w') w' r v
def L0 (b:Nat)(own:List (Nat×fC))(nx:Nat)(c:C):C:=
 match c with
 |.own b' wd off len=>if b'=b then .own 0 wd off len else jH own nx (.own b' wd off len)
 |.ptr b' off=>if b'=b then .ptr 0 off else jH own nx (.ptr b' off)
 |.win _ _ _ _=>.any
 |c=>jH own nx c
def Iz (b:Nat)(own:List (Nat×fC))(nx:Nat):V→V
 |.one c=>.one (L0 b own nx c)
 |.agg cs=>.agg (cs.map (L0 b own nx))
 |_=>.unk
def Dw (b:Nat)(c:C):C:=
 match c with
 |.own _ wd off len=>.own b wd off len
 |.ptr _ off=>.ptr b off
 |.eptr _ _ _ _=>.any
 |.win _ _ _ _=>.any
 |.fn _ _ _=>.any
 |c=>c
def Fu (b:Nat):V→V
 |.one c=>.one (Dw b c)
 |_=>.unk
def tP (b:Nat):V→V
 |.one c=>.one (Dw b c)
 |.aD xs=>.aD (xs.map (Fu b))
 |_=>.unk
theorem aL.gr {ρ ρ':Nat→Loc}{dom dom' ok ok':Nat→Prop}{w:World}{l:Loc}{B:Bk}(hp:B.plain)(h:∀g,ok g→ok' g)(hr:aL ρ dom ok w l B):aL ρ' dom' ok' w l B:=by
 unfold aL at*
 cases ha:l.addr with
 |none=>rw[ha]at hr;exact hr
 |some p=>
  obtain⟨g,o⟩:=p;rw[ha]at hr;obtain⟨cur,e,hg,hc⟩:=hr;refine⟨cur,e,hg,fun j c hj=>?_⟩;obtain⟨u,hu,hr⟩:=hc j c hj;refine⟨u,hu,?_⟩
  cases B with
  |var cs=>
   have hm:c∈cs:=List.mem_of_getElem? hj;exact jK (List.all_eq_true.1 hp c hm) hr
  |ints e k xs=>exact aP.ext (Ext.dE h) _ _ hr
  |rows e wd n f=>exact aP.ext (Ext.dE h) _ _ hr
  |wins e b2 n g=>exact hp.elim
section
variable {G:Ctx}{dom:Nat→Prop}{ρ:Nat→Loc}{s:St}{a:Act}{w:World}
theorem uQ (hs:aW G dom ρ s a w)(b:Nat)(ids:List Nat)(c:C)(v:Value)(hi:∀b'∈gh c,b'≠b→b'∈ids)(hr:aI ρ dom (aJ G s.own ρ w) w c v):
  aI (fun _=>ρ b) (fun i=>i=0) (cP G s.own ρ w ids) w (L0 b s.own s.nx c) v:=by
 have o:Oper:=default;have hsame:gV bp (fun i:Nat=>i=0) bm (fun _=>ρ b):=⟨fun _ h=>h.elim,fun _ h=>h.elim⟩;have hx:Ext (cP G s.own ρ w ids) (cP G s.own ρ w ids) w w:=Ext.refl _ _;have view:(∀b'∈gh c,b'<s.nx→b'∈ids)→aI (fun _=>ρ b) (fun i=>i=0) (cP G s.own ρ w ids) w (jH s.own s.nx c) v:=fun hi'=>
  aI.ext hx hsame _ _ (mT hs (iq.refl s s.nx o) c v ids hi' hr)
 cases c with
 |own b' wd off len=>
  show aI _ _ _ w (L0 b s.own s.nx (.own b' wd off len)) v;simp only[L0]
  by_cases hb:b'=b
  ·rw[if_pos hb];subst hb;obtain⟨_,h2,h3⟩:=hr;exact⟨rfl,h2,h3⟩
  rw[if_neg hb];refine view fun b2 hb2 _=>hi b2 hb2 ?_;simp only[gh,List.mem_singleton]at hb2;subst hb2;exact hb
 |ptr b' off=>
  show aI _ _ _ w (L0 b s.own s.nx (.ptr b' off)) v;simp only[L0]
  by_cases hb:b'=b
  ·rw[if_pos hb];subst hb;obtain⟨_,h2⟩:=hr;exact⟨rfl,h2⟩
  rw[if_neg hb];refine view fun b2 hb2 _=>hi b2 hb2 ?_;simp only[gh,List.mem_singleton]at hb2;subst hb2;exact hb
 |win b' b2 off len=>exact(aI.plain (c:=.win b' b2 off len) hr).1
 |any=>exact view (fun _ h=>by simp[gh]at h)
 |bool t=>exact view (fun _ h=>by simp[gh]at h)
 |int k n=>exact view (fun _ h=>by simp[gh]at h)
 |str t=>exact view (fun _ h=>by simp[gh]at h)
 |nil=>exact view (fun _ h=>by simp[gh]at h)
 |ints k xs=>exact view (fun _ h=>by simp[gh]at h)
 |rows wd n f=>exact view (fun _ h=>by simp[gh]at h)
 |elt c wd i off=>exact view (fun _ h=>by simp[gh]at h)
 |eptr b wd i off=>exact view (fun _ h=>by simp[gh]at h)
 |fn f n caps=>exact view (fun _ h=>by simp[gh]at h)
theorem vq (hs:aW G dom ρ s a w)(b:Nat)(ids:List Nat)(x:V)(v:Value)(hi:∀b'∈ka x,b'≠b→b'∈ids)(hr:cC ρ dom (aJ G s.own ρ w) w x v):
  dF (fun _=>ρ b) (fun i=>i=0) (cP G s.own ρ w ids) w (Iz b s.own s.nx x) v:=by
 cases x with
 |one c=>exact uQ hs b ids c v hi hr
 |agg cs=>
  obtain⟨vs,hv,hl⟩:=hr;refine⟨vs,hv,?_⟩
  generalize vs.toList=l at hl
  have hi':∀c∈cs,∀b'∈gh c,b'≠b→b'∈ids:=fun c hc b' hb'=>hi b' (List.mem_flatMap.2 ⟨c,hc,hb'⟩);clear hv hi
  induction cs generalizing l with
  |nil=>cases l with
   |nil=>trivial
   |cons u l=>exact hl.elim
  |cons c cs ih=>
   cases l with
   |nil=>exact hl.elim
   |cons u l=>exact⟨uQ hs b ids c u (hi' c (List.mem_cons_self ..)) hl.1,ih l hl.2 fun c' hc=>hi' c' (List.mem_cons_of_mem _ hc)⟩
 |aD xs=>trivial
 |unk=>trivial
theorem qV {dom:Nat→Prop}{ρ:Nat→Loc}{ok ok':Nat→Prop}{w:World}{b:Nat}(hb:dom b)(h:∀g,ok g→ok' g){c:C}{v:Value}(hr:aI (fun _=>ρ b) (fun i=>i=0) ok w c v):aI ρ dom ok' w (Dw b c) v:=by
 have hx:Ext ok ok' w w:=Ext.dE h
 cases c with
 |own b' wd off len=>
  obtain⟨_,h2,h3⟩:=hr;exact⟨hb,h2,h3⟩
 |ptr b' off=>
  obtain⟨_,h2⟩:=hr;exact⟨hb,h2⟩
 |eptr b' wd i off=>exact(aI.plain (c:=.eptr b' wd i off) hr).1
 |win b' b2 off len=>exact(aI.plain (c:=.win b' b2 off len) hr).1
 |fn f n caps=>exact(aI.plain (c:=.fn f n caps) hr).1
 |any=>exact aP.ext hx .any v hr
 |bool t=>exact aP.ext hx (.bool t) v hr
 |int k n=>exact aP.ext hx (.int k n) v hr
 |str t=>exact aP.ext hx (.str t) v hr
 |nil=>exact aP.ext hx .nil v hr
 |ints k xs=>exact aP.ext hx (.ints k xs) v hr
 |rows wd n f=>exact aP.ext hx (.rows wd n f) v hr
 |elt c wd i off=>exact aP.ext hx (.elt c wd i off) v hr
theorem q0 {dom:Nat→Prop}{ρ:Nat→Loc}{ok ok':Nat→Prop}{w:World}{b:Nat}(hb:dom b)(h:∀g,ok g→ok' g):∀{xs:List V} {vs:List Value},a6 (fun _=>ρ b) (fun i=>i=0) ok w xs vs→a6 ρ dom ok' w (xs.map (Fu b)) vs
 |[],[],_=>trivial
 |x::xs,v::vs,hr=>by
  refine⟨?_,q0 hb h hr.2⟩
  cases x with
  |one c=>exact qV (c:=c) hb h hr.1
  |unk=>trivial
  |agg cs=>trivial
  |aD ys=>trivial
 |[],_::_,hr=>hr.elim
 |_::_,[],hr=>hr.elim
theorem zF {dom:Nat→Prop}{ρ:Nat→Loc}{ok ok':Nat→Prop}{w:World}{b:Nat}(hb:dom b)(h:∀g,ok g→ok' g){x:V}{v:Value}(hr:cC (fun _=>ρ b) (fun i=>i=0) ok w x v):cC ρ dom ok' w (tP b x) v:=by
 cases x with
 |one c=>exact qV (c:=c) hb h hr
 |unk=>trivial
 |agg cs=>trivial
 |aD xs=>
  obtain⟨vs,h1,h2⟩:=hr;exact⟨vs,h1,q0 hb h h2⟩
theorem aW.NL (h:aW G dom ρ s a w){b:Nat}{B:Bk}(hl:lo s.own b=some ⟨B,true⟩){ids:List Nat}(hids:b∉ids){w':World}(hm:xf (ρ b) w w'){B':Bk}(hp:B'.plain)(hlen:B'.len=B.len)
  (hrep:aL bm bp (E7 (cP G s.own ρ w ids) w w') w' (ρ b) B'):
  aW G dom ρ {s with own:=eE (Eng.dB s.own ids) b ⟨B',true⟩} a w'∧∀g,E7 (cP G s.own ρ w ids) w w' g→aJ G (eE (Eng.dB s.own ids) b ⟨B',true⟩) ρ w' g:=by
 obtain⟨hd,hlB,hrB,hgB⟩:=h.own b _ hl;have hlo:∀b2 B2,b2≠b→lo (Eng.dB s.own ids) b2=some B2→∃B3,lo s.own b2=some B3∧B2.bk=B3.bk∧(B2.rw=true→B3.rw=true∧b2∉ids):=by
  intro b2 B2 _ h2;rw[fj]at h2
  cases h3:lo s.own b2 with
  |none=>rw[h3]at h2;simp at h2
  |some B3=>
   rw[h3]at h2;simp only[Option.map_some,Option.some.injEq]at h2
   by_cases hm:ids.contains b2=true
   ·rw[if_pos hm]at h2;subst h2;exact⟨B3,rfl,rfl,fun h=>by simp at h⟩
   rw[if_neg hm]at h2;subst h2;exact⟨B3,rfl,rfl,fun h=>⟨h,by simpa using hm⟩⟩
 have hok:∀g,E7 (cP G s.own ρ w ids) w w' g→aJ G (eE (Eng.dB s.own ids) b ⟨B',true⟩) ρ w' g:=by
  have step:∀g,g<w'.heap.size→¬G.forb g→(∀o,(ρ b).addr≠some (g,o))→(∀b2 B2,b2≠b→lo (Eng.dB s.own ids) b2=some B2→B2.rw=true→∀o2,(ρ b2).addr≠some (g,o2))→aJ G (eE (Eng.dB s.own ids) b ⟨B',true⟩) ρ w' g:=by
   intro g h1 h2 h3 h4;refine⟨h1,h2,fun b2 B2 hl2 hrw o2=>?_⟩;rw[bT]at hl2
   by_cases hbi:b2=b
   ·subst hbi;exact h3 o2
   rw[if_neg hbi]at hl2;exact h4 b2 B2 hbi hl2 hrw o2
  rintro g ((h3|⟨b1,hbi,B2,o',hl1,ha'⟩)|⟨h3,h4⟩)
  ·refine step g (Nat.lt_of_lt_of_le h3.1 hm.size) h3.2.1 (h3.2.2 b _ hl rfl) fun b2 B2 hne h2 hrw o2=>?_;obtain⟨B3,h5,_,h6⟩:=hlo b2 B2 hne h2;exact h3.2.2 b2 B3 h5 (h6 hrw).1 o2
  ·obtain⟨_,_,_,h4⟩:=h.own b1 B2 hl1;obtain⟨h5,h6,_⟩:=h4 g o' ha';have hne1:b≠b1:=fun e=>hids (e▸hbi);refine step g (Nat.lt_of_lt_of_le h5 hm.size) h6 (fun o he=>h.inj b _ b1 B2 hl hl1 hne1 rfl g o o' he ha') fun b2 B3 hne h2 hrw o2 he=>?_;obtain⟨B4,h7,_,h8⟩:=hlo b2 B3 hne h2;obtain⟨h9,h10⟩:=h8 hrw;exact h.inj b2 B4 b1 B2 h7 hl1 (fun e=>h10 (e▸hbi)) h9 g o2 o' he ha'
  refine step g h4 (fun hf=>absurd (h.wf _ hf) (by have:=h.size;omega)) (fun o he=>absurd (hgB g o he).1 (by omega)) fun b2 B2 hne h2 hrw o2 he=>?_;obtain⟨B3,h5,_,_⟩:=hlo b2 B2 hne h2;exact absurd ((h.own b2 B3 h5).2.2.2 g o2 he).1 (by omega)
 have hext:Ext (aJ G s.own ρ w) (aJ G (eE (Eng.dB s.own ids) b ⟨B',true⟩) ρ w') w w':=
  ⟨fun g hg=>⟨hok g (.inl (.inl hg)),hm.block g hg.1 (hg.2.2 b _ hl rfl)⟩,hm.room⟩
 have hs:gV dom dom ρ ρ:=⟨fun _ h=>h,fun _ _=>rfl⟩;refine⟨h.rA hext hs ?_ ?_ hm.os hm.tape hm.output hm.size ?_,hok⟩
 ·intro b2 B2 hl2;rw[bT]at hl2
  by_cases hbi:b2=b
  ·subst hbi;rw[if_pos rfl]at hl2;obtain rfl:=Option.some.inj hl2;exact⟨hd,by rw[hlB];exact hlen.symm,hrep.gr hp hok,fun g o ha=>⟨Nat.lt_of_lt_of_le (hgB g o ha).1 hm.size,(hgB g o ha).2⟩⟩
  rw[if_neg hbi]at hl2;obtain⟨B3,h5,h6,_⟩:=hlo b2 B2 hbi hl2;obtain⟨h7,h8,h9,h10⟩:=h.own b2 B3 h5;rw[h6];exact⟨h7,h8,aL.ext hext hs _ _ (fun g o ha=>hm.block g (h10 g o ha).1 fun o2 he=>h.inj b _ b2 B3 hl h5 (fun e=>hbi e.symm) rfl g o2 o he ha) h9,fun g o ha=>⟨Nat.lt_of_lt_of_le (h10 g o ha).1 hm.size,(h10 g o ha).2⟩⟩
 ·have hget:∀b2 B2,lo (eE (Eng.dB s.own ids) b ⟨B',true⟩) b2=some B2→∃B3,lo s.own b2=some B3∧(B2.rw=true→B3.rw=true):=by
   intro b2 B2 hl2;rw[bT]at hl2
   by_cases hbi:b2=b
   ·subst hbi;exact⟨_,hl,fun _=>rfl⟩
   rw[if_neg hbi]at hl2;obtain⟨B3,h5,_,h7⟩:=hlo b2 B2 hbi hl2;exact⟨B3,h5,fun h=>(h7 h).1⟩
  intro b1 B1 b2 B2 hl1 hl2 hne hrw;obtain⟨B3,h5,h6⟩:=hget b1 B1 hl1;obtain⟨B4,h7,_⟩:=hget b2 B2 hl2;exact h.inj b1 B3 b2 B4 h5 h7 hne (h6 hrw)
 intro k hk hmine;refine hm.block k (Nat.lt_of_lt_of_le hk h.size) fun o he=>?_
 rcases(hgB k o he).2.2 with h1|h1
 ·omega
 exact hmine h1
end
def Kz (b:Nat)(raw:List V):List Nat:=(raw.map ka).flatten.filter (fun b'=>b' !=b)
def N0 (s:St)(dst:Option Tmp)(b:Nat)(raw:List V)(r:V)(B':Bk):St:={s.put dst (tP b r)with own:=eE (dB s.own (Kz b raw)) b ⟨B',true⟩}
def sE (P:Program)(f:FuncId)(args:List V)(n wd:Nat)(g:Nat→Nat×Nat)(B:Bk)(c:C):Prop:=
 l7 c∧gZ P f∧B.flat∧∀(ok:Nat→Prop) (w:World) (vs:Array Value),(∀g,ok g→g<w.heap.size)→a6 bm bp ok w args vs.toList→
  Calls P f vs w fun e w'=>∃v u l1 l2,e= .returned (.tuple #[v,u])∧Go.RowKit.Below w.heap.size w w'∧l1.len=n∧l2.len=B.len∧
   (∀g o,l1.addr=some (g,o)→w.heap.size≤g∧g<w'.heap.size)∧(∀g o,l2.addr=some (g,o)→w.heap.size≤g∧g<w'.heap.size)∧(∀g o o',l1.addr=some (g,o)→l2.addr≠some (g,o'))∧
   aL bm bp (fun g=>ok g∨(w.heap.size≤g∧g<w'.heap.size∧∀o,l1.addr≠some (g,o)∧l2.addr≠some (g,o))) w' l2 B∧
   (∀(ρ:Nat→Loc) (dom ok':Nat→Prop) (b b2:Nat),ρ b=l1→ρ b2=l2→dom b→dom b2→aL ρ dom ok' w' l1 (.wins 0 b2 n fun i=>.own b2 wd (g i).1 (g i).2)∧aI ρ dom ok' w' (.win b b2 0 n) v)∧aI bm bp (fun _=>False) w' c u
def Fe (raw:List V):List Nat:=(raw.map ka).flatten
def N8 (s:St)(dst:Option Tmp)(raw:List V)(n wd:Nat)(g:Nat→Nat×Nat)(B:Bk)(c:C):St:=
 {s.put dst (.aD [.one (.win s.nx (s.nx+1) 0 n),.one c])with own:=eE (eE (dB s.own (Fe raw)) s.nx ⟨.wins 0 (s.nx+1) n fun i=>.own (s.nx+1) wd (g i).1 (g i).2,true⟩) (s.nx+1) ⟨B,true⟩,nx:=s.nx+2}
def xP (P:Program)(f:FuncId)(raw:List V)(s:St)(dst:Option Tmp)(K:St→Prop):Prop:=
 (∃b B R,lo s.own b=some ⟨B,true⟩∧B.plain∧Mc P f (raw.map (Iz b s.own s.nx)) B R∧∀r B',R r B'→B'.len=B.len→eC K (N0 s dst b raw r B'))∨
 (∃n wd g B c,sE P f (raw.map (Am s.own s.nx)) n wd g B c∧eC K (N8 s dst raw n wd g B c))
theorem MU {P:Program}{f:FuncId}{s:St}{dst:Option Tmp}{K:St→Prop}{raw:List V}{n wd:Nat}{g:Nat→Nat×Nat}{B:Bk}{c0:C}(hF:sE P f (raw.map (Am s.own s.nx)) n wd g B c0)(hK:K (N8 s dst raw n wd g B c0))(hd:∀d,dst=some d→d<s.n)
  {G:Ctx} {a:Act} {w:World} {ρ:Nat→Loc} (hs:aW G (fun b=>b<s.nx) ρ s a w) {vs:Array Value} (hvs:a6 bm bp (cP G s.own ρ w (Fe raw)) w (raw.map (Am s.own s.nx)) vs.toList):
  Calls P f vs w fun e w'=>∃v,e= .returned v∧∃s',K s'∧oz G s' (a.put dst v) w':=by
 obtain⟨hsc,hcall,hfl,hF⟩:=hF;have o:Oper:=default
 let ids:=Fe raw
 have hlt:∀g,cP G s.own ρ w ids g→g<w.heap.size:=by
  rintro g (h1|⟨b,_,B,o',hl,ha'⟩)
  ·exact h1.1
  exact((hs.own b B hl).2.2.2 g o' ha').1
 refine Calls.mono (hF _ w _ hlt hvs) fun e w' he=>?_;obtain⟨v,u,l1,l2,rfl,hb,hl1,hl2,hn1,hn2,hdj,hrep,hwin,hu⟩:=he;refine⟨_,rfl,_,hK,?_⟩;have h2:=hs.dB ids
 let Bv:=eE (eE (dB s.own ids) s.nx ⟨.wins 0 (s.nx+1) n fun i=>.own (s.nx+1) wd (g i).1 (g i).2,true⟩) (s.nx+1) ⟨B,true⟩
 let ρ2:=aZ (aZ ρ s.nx l1) (s.nx+1) l2
 have hr1:ρ2 s.nx=l1:=by show aZ _ _ _ _=_;rw[aS _ _ (by omega),lQ]
 have hr2:ρ2 (s.nx+1)=l2:=lQ ..;have hwh:∀b B3,lo Bv b=some B3→(ρ2 b=l2)∨(ρ2 b=l1)∨(lo (dB s.own ids) b=some B3∧ρ2 b=ρ b):=by
  intro b B3 hl;rw[bT]at hl
  by_cases h1:b=s.nx+1
  ·exact .inl (by rw[h1];exact hr2)
  rw[if_neg h1,bT]at hl
  by_cases h3:b=s.nx
  ·exact .inr (.inl (by rw[h3];exact hr1))
  rw[if_neg h3]at hl;exact .inr (.inr ⟨hl,by show aZ _ _ _ _=_;rw[aS _ _ h1,aS _ _ h3]⟩)
 have hok:∀g,(cP G s.own ρ w ids g∨(w.heap.size≤g∧g<w'.heap.size∧∀o,l1.addr≠some (g,o)∧l2.addr≠some (g,o)))→aJ G Bv ρ2 w' g:=by
  have step:∀g,g<w'.heap.size→¬G.forb g→(∀o,l1.addr≠some (g,o)∧l2.addr≠some (g,o))→(∀b2 B2,lo (dB s.own ids) b2=some B2→B2.rw=true→∀o2,(ρ b2).addr≠some (g,o2))→aJ G Bv ρ2 w' g:=by
   intro g h1 h2 h3 h4;refine⟨h1,h2,fun b2 B2 hl2 hrw o2=>?_⟩
   rcases hwh b2 B2 hl2 with e|e|⟨e1,e⟩<;>rw [e]
   ·exact(h3 o2).2
   ·exact(h3 o2).1
   exact h4 b2 B2 e1 hrw o2
  rintro g ((h3|⟨b,hbi,B2,o',hl,ha'⟩)|⟨h3,h4,h5⟩)
  ·exact step g (Nat.lt_of_lt_of_le h3.1 hb.size) h3.2.1 (fun o=>⟨fun he=>absurd h3.1 (by have:=(hn1 g o he).1;omega),fun he=>absurd h3.1 (by have:=(hn2 g o he).1;omega)⟩) (kq h3).2.2
  ·obtain⟨_,_,_,h4⟩:=hs.own b B2 hl;obtain⟨h5,h6,_⟩:=h4 g o' ha';refine step g (Nat.lt_of_lt_of_le h5 hb.size) h6 (fun o=>⟨fun he=>absurd h5 (by have:=(hn1 g o he).1;omega),fun he=>absurd h5 (by have:=(hn2 g o he).1;omega)⟩) fun b2 B3 hl2 hrw o2 ha2=>?_;rw[fj]at hl2
   cases hl3:lo s.own b2 with
   |none=>rw[hl3]at hl2;simp at hl2
   |some B4=>
    rw[hl3]at hl2;simp only[Option.map_some,Option.some.injEq]at hl2
    by_cases hm:ids.contains b2=true
    ·rw[if_pos hm]at hl2;subst hl2;simp at hrw
    rw[if_neg hm]at hl2;subst hl2
    by_cases hbb:b2=b
    ·subst hbb;exact hm (by simpa using hbi)
    exact hs.inj b2 B4 b B2 hl3 hl hbb hrw g o2 o' ha2 ha'
  refine step g h4 (fun hf=>absurd (hs.wf _ hf) (by have:=hs.size;omega)) h5 fun b2 B2 hl2 _ o2 ha2=>?_;rw[fj]at hl2
  cases hl3:lo s.own b2 with
  |none=>rw[hl3]at hl2;simp at hl2
  |some B3=>exact absurd ((hs.own b2 B3 hl3).2.2.2 g o2 ha2).1 (by omega)
 let dom2:Nat→Prop:=fun b=>(b<s.nx∨b=s.nx)∨b=s.nx+1
 obtain⟨hw1,hw2⟩:=hwin ρ2 dom2 (aJ G Bv ρ2 w') s.nx (s.nx+1) hr1 hr2 (.inl (.inr rfl)) (.inr rfl);have h3:=h2.Ln hb (i:=s.nx) (j:=s.nx+1) (Nat.lt_irrefl _) (by omega) (by omega) (.wins 0 (s.nx+1) n fun i=>.own (s.nx+1) wd (g i).1 (g i).2) B l1 l2 hl1 hl2 hn1 hn2 hdj hw1
  (aL.ext (dom:=bp) (ρ:=bm) (Ext.dE hok) ⟨fun b hb=>hb.elim,fun b hb=>hb.elim⟩ _ _ (fun _ _ _=>rfl) hrep)
 have hcu:aI ρ2 dom2 (aJ G Bv ρ2 w') w' c0 u:=by cases c0<;>first|exact hsc.elim|exact hu
 have h4:=h3.put (dst:=dst) (x:=.aD [.one (.win s.nx (s.nx+1) 0 n),.one c0]) (v:=.tuple #[v,u]) hd ⟨_,rfl,hw2,hcu,trivial⟩;refine⟨ρ2,?_⟩;have e2:aW G dom2 ρ2 (N8 s dst raw n wd g B c0) (a.put dst (.tuple #[v,u])) w':=by
  obtain⟨q1,q2,q3,q4,q5,q6,q7,q8,q9,q10,q11,q12,q13⟩:=h4
  cases dst
  ·exact⟨q1,q2,q3,q4,q5,q6,q7,q8,q9,q10,q11,q12,q13⟩
  exact⟨q1,q2,q3,q4,q5,q6,q7,q8,q9,q10,q11,q12,q13⟩
 have e3:dom2=fun b=>b<(N8 s dst raw n wd g B c0).nx:=by
  funext b
  show((b<s.nx∨b=s.nx)∨b=s.nx+1)=(b<s.nx+2)
  exact propext ⟨fun h=>by omega,fun h=>by omega⟩
 rw[e3]at e2;exact e2
def nU (P:Program)(op:Op)(dst:Option Tmp)(s:St)(K:St→Prop):Prop:=
 match op with
 |.call c=>match c.callee with
  |.value g=>match s.ev g with
   |.one (.fn f n _)=>n=0∧xP P f (c.args.toList.map s.ev) s dst K
   |_=>False
  |_=>False
 |_=>False
theorem F8 {P:Program}{o:Oper}{s:St}{K:St→Prop}(hd:b5 o s.n)(h:nU P o.op o.dst s K):mF P o s K:=by
 unfold nU at h
 split at h
 ·rename_i c ho
  split at h
  ·rename_i g hc
   split at h
   ·rename_i f n caps hg
    obtain⟨rfl,h⟩:=h;intro G a w hsim Q next hk;obtain⟨ρ,hs⟩:=hsim;have hgv:=hs.ev g;rw[hg]at hgv;obtain⟨cs,hgv,hcs,_⟩:=hgv;obtain rfl:cs= #[]:=Array.eq_empty_of_size_eq_zero hcs;have hrun:gZ P f→(execOp a.eval o).run P w= .ok (.enter f (c.args.map a.eval)) w:=by
     intro hcall;unfold execOp;rw[ho];simp only[resolve,hc,Sem.run_bind,hgv,Deferred.ofValue,Sem.run_pure,Result.andThen_ok,invoke]
     have:=lB (w:=w) hcall (c.args.map a.eval)
     simpa using this
    rcases h with⟨b,B,R,hl,hpl,⟨hcall,hmut⟩,hK⟩|⟨n0,wd,g0,B,c0,hF,hK⟩
    rotate_left
    ·unfold Oper.wp;rw[hrun hF.2.1,Oper.upon_enter];refine Calls.mono (MU hF hK (dst:=o.dst) hd hs (vs:=c.args.map a.eval) ?_) fun e w' he=>?_
     ·rw[Array.toList_map]
      have:=a6.mc (ρ:=bm) (dom:=bp) (ok:=cP G s.own ρ w (Fe (c.args.toList.map s.ev))) (w:=w) (fun x=>Am s.own s.nx (s.ev x)) a.eval c.args.toList fun x hx=>
       mX hs (iq.refl s s.nx o) _ _ _ (fun b' hb' _=>List.mem_flatten.2 ⟨_,List.mem_map.2 ⟨s.ev x,List.mem_map.2 ⟨x,hx,rfl⟩,rfl⟩,hb'⟩) (hs.ev x)
      simpa[List.map_map,Function.comp_def]using this
     obtain⟨v,rfl,s',h1,h2⟩:=he;exact hk _ _ _ h1 h2
    unfold Oper.wp;rw[hrun hcall,Oper.upon_enter]
    let raw:=c.args.toList.map s.ev
    let ids:=Kz b raw
    have hids:b∉ids:=by simp[ids,Kz]
    obtain⟨hdb,hlB,hrB,hgB⟩:=hs.own b _ hl;have hlt:∀g,cP G s.own ρ w ids g→g<w.heap.size:=by
     rintro g (h1|⟨b,_,B,o',hl,ha'⟩)
     ·exact h1.1
     exact((hs.own b B hl).2.2.2 g o' ha').1
    have hnot:∀g o1,(ρ b).addr=some (g,o1)→g<w.heap.size∧¬cP G s.own ρ w ids g:=by
     intro g o1 ha;refine⟨(hgB g o1 ha).1,?_⟩
     rintro(h1|⟨b1,hb1,B1,o',hl1,ha'⟩)
     ·exact h1.2.2 b _ hl rfl o1 ha
     exact hs.inj b _ b1 B1 hl hl1 (fun e=>hids (e▸hb1)) rfl g o1 o' ha ha'
    have hargs:a6 (fun _=>ρ b) (fun i=>i=0) (cP G s.own ρ w ids) w (raw.map (Iz b s.own s.nx)) (c.args.map a.eval).toList:=by
     rw[Array.toList_map]
     have:=a6.mc (ρ:=fun _=>ρ b) (dom:=fun i=>i=0) (ok:=cP G s.own ρ w ids) (w:=w) (fun x=>Iz b s.own s.nx (s.ev x)) a.eval c.args.toList fun x hx=>by
      refine vq hs b ids _ _ (fun b' hb' hne=>?_) (hs.ev x);refine List.mem_filter.2 ⟨List.mem_flatten.2 ⟨_,List.mem_map.2 ⟨s.ev x,List.mem_map.2 ⟨x,hx,rfl⟩,rfl⟩,hb'⟩,by simpa using hne⟩
     simpa[raw,List.map_map,Function.comp_def]using this
    have hrB':aL bm bp (cP G s.own ρ w ids) w (ρ b) B:=hrB.gr hpl fun g hg=>.inl hg;refine Calls.mono (hmut _ w _ (ρ b) hlt hlB hnot hrB' hargs) fun e w' he=>?_;obtain⟨v,r,B',rfl,hR,hp',hlen',hm,hrep,hval⟩:=he;obtain⟨hsim',hok⟩:=hs.NL hl hids hm hp' hlen' hrep;refine hk _ _ _ (hK r B' hR hlen') ⟨ρ,?_⟩;have hv2:cC ρ (fun i=>i<s.nx) (aJ G (eE (dB s.own ids) b ⟨B',true⟩) ρ w') w' (tP b r) v:=zF (dom:=fun i=>i<s.nx) hdb hok hval;have h4:=hsim'.put (dst:=o.dst) (x:=tP b r) (v:=v) hd hv2;have e2:N0 s o.dst b raw r B'=St.put {s with own:=eE (dB s.own ids) b ⟨B',true⟩} o.dst (tP b r):=by
     unfold N0 St.put
     cases o.dst<;>rfl
    show aW G _ _ (N0 s o.dst b raw r B') _ w';rw[e2]
    have hnx:(St.put {s with own:=eE (dB s.own ids) b ⟨B',true⟩} o.dst (tP b r)).nx=s.nx:=by cases o.dst<;>rfl
    rw[hnx];exact h4
   exact h.elim
  exact h.elim
 exact h.elim
end Go.Eng
/-
  THE ENGINE, PART Q: a statement whose order is open: whatever order the machine takes, it comes to what the text's order comes to.
-/
namespace Go.Eng
open Go
structure yJ (s s':St):Prop where
 env:∀t,lk s.env t=lk s'.env t
 own:∀b,lo s.own b=lo s'.own b
 n:s.n=s'.n
theorem yJ.refl (s:St):yJ s s:=⟨fun _=>rfl,fun _=>rfl,rfl⟩
theorem yJ.trans {a b c:St}(h:yJ a b)(k:yJ b c):yJ a c:=⟨fun t=>(h.env t).trans (k.env t),fun t=>(h.own t).trans (k.own t),h.n.trans k.n⟩
theorem yJ.symm {a b:St}(h:yJ a b):yJ b a:=⟨fun t=>(h.env t).symm,fun t=>(h.own t).symm,h.n.symm⟩
theorem aW.Hv {G:Ctx}{dom:Nat→Prop}{ρ:Nat→Loc}{s s':St}{a:Act}{w:World}(h:aW G dom ρ s a w)(hs:yJ s s'):aW G dom ρ s' a w:=by
 have hok:aJ G s'.own ρ w=aJ G s.own ρ w:=by
  funext g
  unfold aJ;simp only[hs.own]
 exact{
     hd:=h.hd,hn:=h.hn.trans hs.n,env:=fun t=>by rw[hok,←hs.env t];exact h.env t,own:=fun b B hl=>by rw[hok];exact h.own b B (by rw[hs.own];exact hl),
     inj:=fun b B b' B' hl hl'=>h.inj b B b' B' (by rw[hs.own];exact hl) (by rw[hs.own];exact hl'),os:=h.os,tape:=h.tape,output:=h.output,size:=h.size,keep:=h.keep,wf:=h.wf,home:=h.home,room:=h.room}
theorem Db (s:St)(dst:Option Tmp)(v:V)(t:Nat):lk (s.put dst v).env t=if dst=some t then v else lk s.env t:=by
 cases dst with
 |none=>simp[St.put]
 |some d=>
  simp only[St.put,CT,Option.some.injEq]
  by_cases h:t=d
  ·subst h;simp
  rw[if_neg h,if_neg (fun e=>h e.symm)]
theorem jG (s:St)(dst:Option Tmp)(id:Nat)(e:eG)(t:Nat):lk (s.add dst id e).env t=if dst=some t then e.val else lk s.env t:=by
 have:(s.add dst id e).env=(s.put dst e.val).env:=by unfold St.add;split<;>rfl
 rw[this,Db]
def fW (fz:List Nat)(b:Nat)(v:fC):fC:=if fz.contains b then⟨v.bk,false⟩else v
theorem oX (s:St)(dst:Option Tmp)(id:Nat)(e:eG)(b:Nat):lo (s.add dst id e).own b=(match e.uP with
  |some B=>if b=id then some ⟨B,true⟩else(lo s.own b).map (fW e.fz b)
  |none=>(lo s.own b).map (fW e.fz b)):=by
 unfold St.add
 cases e.uP with
 |none=>simp only[wh];rw[fj];rfl
 |some B=>simp only[wh,bT];split<;>first|rfl|(rw[fj];rfl)
theorem Dp (s:St)(dst:Option Tmp)(id:Nat)(e:eG):(s.add dst id e).n=s.n:=by
 unfold St.add;split<;>(cases dst<;>rfl)
theorem yJ.add {s s':St}(h:yJ s s')(dst:Option Tmp)(id:Nat)(e:eG):yJ (s.add dst id e) (s'.add dst id e):=
 ⟨fun t=>by rw[jG,jG,h.env],fun b=>by rw[oX,oX,h.own],by rw[Dp,Dp,h.n]⟩
theorem EO (s:St){d1 d2:Option Tmp}{i1 i2:Nat}{e1 e2:eG}(hd:∀t,d1=some t→d2≠some t)(hi:i1≠i2)(h1:∀b∈e1.fz,b≠i2)(h2:∀b∈e2.fz,b≠i1):
  yJ ((s.add d1 i1 e1).add d2 i2 e2) ((s.add d2 i2 e2).add d1 i1 e1):=by
 refine⟨fun t=>?_,fun b=>?_,by simp only[Dp]⟩
 ·simp only[jG]
  by_cases h:d1=some t
  ·rw[if_pos h,if_neg (hd t h),if_pos h]
  rw[if_neg h,if_neg h]
 simp only[oX];have hc:∀(v:fC),fW e2.fz b (fW e1.fz b v)=fW e1.fz b (fW e2.fz b v):=fun v=>by
  unfold fW;split<;>split<;>rfl
 have hcc:(lo s.own b).map (fW e2.fz b∘fW e1.fz b)=(lo s.own b).map (fW e1.fz b∘fW e2.fz b):=by
  congr 1;funext v;exact hc v
 have n1:b=i2→∀B:Bk,(some (⟨B,true⟩:fC)).map (fW e1.fz b)=some ⟨B,true⟩:=fun hb B=>by
  subst hb;simp only[Option.map_some,fW];rw[if_neg (fun hc=>h1 b (by simpa using hc) rfl)]
 have n2:b=i1→∀B:Bk,(some (⟨B,true⟩:fC)).map (fW e2.fz b)=some ⟨B,true⟩:=fun hb B=>by
  subst hb;simp only[Option.map_some,fW];rw[if_neg (fun hc=>h2 b (by simpa using hc) rfl)]
 cases e1.uP with
 |none=>
  cases e2.uP with
  |none=>simp only[Option.map_map];exact hcc
  |some B2=>
   simp only
   by_cases hb:b=i2
   ·rw[if_pos hb,if_pos hb,n1 hb]
   rw[if_neg hb,if_neg hb];simp only[Option.map_map];exact hcc
 |some B1=>
  cases e2.uP with
  |none=>
   simp only
   by_cases hb:b=i1
   ·rw[if_pos hb,if_pos hb,n2 hb]
   rw[if_neg hb,if_neg hb];simp only[Option.map_map];exact hcc
  |some B2=>
   simp only
   by_cases hb:b=i1
   ·rw[if_pos hb,if_neg (fun e=>hi (hb.symm.trans e)),if_pos hb,n2 hb]
   by_cases hb2:b=i2
   ·rw[if_pos hb2,if_neg hb,if_pos hb2,n1 hb2]
   rw[if_neg hb2,if_neg hb,if_neg hb,if_neg hb2];simp only[Option.map_map];exact hcc
def eG.skip:eG:=⟨.aD [],none,[]⟩
def gv:V→Option (Option Bool)
 |.one (.bool b)=>some (some b)
 |.aD []=>some none
 |_=>none
def kQ (P:Program)(ops:Array Oper)(nx0 i:Nat)(o:Oper)(s:St)(e:eG):Prop:=
 b5 o s.n∧match o.guard with
 |none=>bf P o s nx0 (nx0+i) e
 |some (g,want)=>∃t b,(ops[g]?).bind (·.dst)=some t∧gv (lk s.env t)=some b∧(if b=some want then bf P o s nx0 (nx0+i) e else e=eG.skip)
def br (ops:Array Oper)(k:Nat):Option Tmp:=(ops[k]?).bind (·.dst)
def aK (σ:St)(nx0:Nat)(ops:Array Oper)(e:Nat→eG)(L:Nat→Bool):Nat→St
 |0=>σ
 |k+1=>if L k then(aK σ nx0 ops e L k).add (br ops k) (nx0+k) (e k)else aK σ nx0 ops e L k
section
variable {σ:St}{nx0:Nat}{ops:Array Oper}{e:Nat→eG}
theorem fF (L:Nat→Bool)(k:Nat):(aK σ nx0 ops e L k).n=σ.n:=by
 induction k with
 |zero=>rfl
 |succ k ih=>simp only[aK];split<;>simp only[Dp,ih]
theorem cN {L L':Nat→Bool}(k:Nat)(h:∀j,j<k→L j=L' j):aK σ nx0 ops e L k=aK σ nx0 ops e L' k:=by
 induction k with
 |zero=>rfl
 |succ k ih=>simp only[aK,h k (Nat.lt_succ_self k),ih (fun j hj=>h j (Nat.lt_succ_of_lt hj))]
theorem ny {N:Nat}{L:Nat→Bool}{i:Nat}(hi:L i=false)(hdst:∀j k t,j<N→k<N→j≠k→br ops j=some t→br ops k=some t→False)(hfz:∀j,∀b∈(e j).fz,b<nx0):
  ∀k,k≤N→i<k→yJ (aK σ nx0 ops e (fun j=>L j||j==i) k) ((aK σ nx0 ops e L k).add (br ops i) (nx0+i) (e i)):=by
 intro k
 induction k with
 |zero=>intro _ h;omega
 |succ k ih=>
  intro hkN hik
  by_cases hk:i=k
  ·subst hk;simp only[aK,beq_self_eq_true,Bool.or_true,if_true,hi,Bool.false_eq_true,if_false]
   rw[cN (L:=fun j=>L j||j==i) (L':=L) i (fun j hj=>by simp;omega)]
   exact yJ.refl _
  have ih':=ih (by omega) (by omega);have hne:(k==i)=false:=by simp;omega
  simp only[aK,hne,Bool.or_false]
  by_cases hL:L k=true
  ·simp only[hL,if_true];exact(ih'.add _ _ _).trans (EO _ (fun t h1 h2=>hdst i k t (by omega) (by omega) hk h1 h2) (by omega) (fun b hb h=>by have:=hfz i b hb;omega) (fun b hb h=>by have:=hfz k b hb;omega))
  simp only[hL,Bool.false_eq_true,if_false];exact ih'
theorem nL (L:Nat→Bool)(t:Nat):∀k,(∀j,j<k→br ops j≠some t)→lk (aK σ nx0 ops e L k).env t=lk σ.env t:=by
 intro k
 induction k with
 |zero=>intro _;rfl
 |succ k ih=>
  intro h;simp only[aK]
  split
  ·rw[jG,if_neg (h k (Nat.lt_succ_self k))];exact ih (fun j hj=>h j (Nat.lt_succ_of_lt hj))
  exact ih (fun j hj=>h j (Nat.lt_succ_of_lt hj))
theorem dr {N:Nat}(L:Nat→Bool){t j:Nat}(hj:br ops j=some t)(hL:L j=true)(hdst:∀j k t,j<N→k<N→j≠k→br ops j=some t→br ops k=some t→False):
  ∀k,k≤N→j<k→lk (aK σ nx0 ops e L k).env t=(e j).val:=by
 intro k
 induction k with
 |zero=>intro _ h;omega
 |succ k ih=>
  intro hkN h;simp only[aK]
  by_cases hjk:j=k
  ·subst hjk;rw[if_pos hL,jG];exact if_pos hj
  have ih':=ih (by omega) (by omega)
  split
  ·rw[jG,if_neg (fun h2=>hdst j k t (by omega) (by omega) hjk hj h2)];exact ih'
  exact ih'
theorem iZ (L:Nat→Bool):∀k b,b<nx0→(lo (aK σ nx0 ops e L k).own b).map (·.bk)=(lo σ.own b).map (·.bk):=by
 intro k
 induction k with
 |zero=>intro b _;rfl
 |succ k ih=>
  intro b hb;simp only[aK]
  split
  ·rw[oX];have hm:((lo (aK σ nx0 ops e L k).own b).map (fW (e k).fz b)).map (·.bk)=(lo σ.own b).map (·.bk):=by
    rw[←ih b hb,Option.map_map]
    congr 1
    funext v
    simp only[Function.comp,fW]
    split<;>rfl
   cases(e k).uP with
   |none=>exact hm
   |some B=>simp only;rw[if_neg (by omega)];exact hm
  exact ih b hb
end
def FY (P:Program)(ops:Array Oper)(o:Oper)(s:St)(K:St→Prop):Prop:=
 match o.guard with
 |none=>mF P o s K
 |some (g,want)=>∃t b,br ops g=some t∧gv (lk s.env t)=some b∧(b=some want→mF P o s K)∧(b≠some want→K (s.put o.dst (.aD [])))
def ux (P:Program)(ops:Array Oper):List Oper→St→(St→Prop)→Prop
 |[],s,K=>K s
 |o::os,s,K=>b5 o s.n∧FY P ops o s (fun s'=>ux P ops os s' K)
theorem Eh {a:Array Value}{t:Nat}{b:Bool}(h:a.getD t undef= .bool b):a[t]? =some (.bool b):=by
 rw[Array.getD_eq_getD_getElem?]at h
 cases ha:a[t]? with
 |none=>rw[ha]at h;cases h
 |some v=>rw[ha]at h;simpa using h
theorem nu {G:Ctx}{dom:Nat→Prop}{ρ:Nat→Loc}{s:St}{a:Act}{w:World}(hs:aW G dom ρ s a w){ops:Array Oper}{o:Oper}{g:Nat}{want:Bool}{b:Option Bool}{t:Nat}(hg:o.guard=some (g,want))(ht:br ops g=some t)
  (hb:gv (lk s.env t)=some b):Region.wanted o (yielded ops a.tmps)=(b==some want):=by
 have hev:=hs.env t;have hd:(ops[g]?).bind (·.dst)=some t:=ht;have hy:yielded ops a.tmps g=b:=by
  unfold gv at hb
  split at hb
  ·rename_i b' he
   obtain rfl:=Option.some.inj hb;rw[he]at hev;have hev:a.tmps.getD t undef= .bool b':=hev;unfold yielded;simp only[hd,Option.bind_some,Eh hev]
  ·rename_i he
   obtain rfl:=Option.some.inj hb;rw[he]at hev;obtain⟨vs,hv,_⟩:=hev;unfold yielded;simp only[hd,Option.bind_some]
   cases ha:a.tmps[t]? with
   |none=>rfl
   |some v=>
    rw[Array.getD_eq_getD_getElem?,ha]at hv;simp only[Option.getD_some]at hv;rw[hv]
  cases hb
 unfold Region.wanted;simp only[hg,hy]
theorem ic {o:Oper}{y:Nat→Option Bool}(hg:o.guard=none):Region.wanted o y=true:=by unfold Region.wanted;rw[hg]
theorem FY.step {P:Program}{ops:Array Oper}{i:Nat}{o:Oper}(ho:ops[i]? =some o){s:St}{K:St→Prop}(h:FY P ops o s K)(hd:b5 o s.n){G:Ctx}{a:Act}{w:World}(hs:oz G s a w){Q:Exit→Act→World→Prop}{next:Act→World→Prop}
  (hk:∀s' a' w',K s'→oz G s' a' w'→next a' w'):wpOp P ops Q i next a w:=by
 unfold wpOp;simp only[ho];unfold FY at h
 split at h
 ·rename_i hg
  rw[ic hg,if_pos rfl];exact .inl (h G a w hs Q next hk)
 rename_i g want hg
 obtain⟨t,b,ht,hb,h1,h2⟩:=h;obtain⟨ρ,hr⟩:=hs;rw[nu hr hg ht hb]
 by_cases hbw:b=some want
 ·rw[if_pos (by simp[hbw])];exact .inl (h1 hbw G a w ⟨ρ,hr⟩ Q next hk)
 rw[if_neg (by simpa using hbw)]
 have:=hr.put (dst:=o.dst) (x:=.aD []) (v:=undef) hd ⟨#[],rfl,trivial⟩
 refine hk _ _ _ (h2 hbw) ⟨ρ,?_⟩
 cases hdst:o.dst with
 |none=>rw[hdst]at this;exact this
 |some d=>rw[hdst]at this;exact this
theorem bf.Pg {P:Program}{o:Oper}{s:St}{e:eG}{K:St→Prop}(h:bf P o s s.nx s.nx e)(hK:K {s.add o.dst s.nx e with nx:=s.nx+1}):mF P o s K:=by
 intro G a w hsim Q next hk;obtain⟨ρ,hs⟩:=hsim;refine h.1 G (fun b=>b<s.nx) ρ s a w hs (Nat.lt_irrefl _) (iq.refl _ _ _) Q next fun v w' hs'=>?_;refine hk _ _ _ hK ?_;obtain⟨ρ',h1⟩:=hs'
 have h2:=h1.cQ (dom':=fun b=>b<s.nx+1) (fun b hb=>by rcases hb with hb|hb<;>omega)
 exact⟨ρ',h2.Hv ⟨fun _=>rfl,fun _=>rfl,rfl⟩⟩
def cX (ops:Array Oper)(i:Nat):List Nat:=
 match ops[i]? with
 |some o=>(o.after.toList.filter (Region.binds .any)).map (·.on)
 |none=>[]
def eR (ops:Array Oper):Nat→Nat→Nat→Bool
 |0,_,_=>false
 |n+1,i,j=>(cX ops i).contains j||(cX ops i).any (fun p=>eR ops n p j)
def tmpsOf (o:Oper):List Tmp:=o.op.operands.toList.filterMap fun|.tmp t=>some t|_=>none
def nj (ops:Array Oper)(nR i:Nat)(o:Oper):Bool:=
 ((tmpsOf o).all fun t=>(List.range nR).all fun j=>br ops j !=some t||(decide (j<i)&&(cX ops i).contains j))&&
 (
  match o.guard with
  |none=>true
  |some (g,_)=>decide (g<i)&&(cX ops i).contains g)&&
 ((List.range nR).all fun j=>j==i||(br ops j).isNone||br ops j !=br ops i)
def tJ (ops:Array Oper)(nR:Nat):Bool:=
 decide (nR≤ops.size)&&
 (List.range ops.size).all fun i=>match ops[i]? with
  |none=>false
  |some o=>((cX ops i).all fun p=>decide (p<i))&&
   (if i<nR then nj ops nR i o else(List.range i).all fun j=>eR ops ops.size i j)
structure wV (ops:Array Oper) (nR:Nat):Prop where
 le:nR≤ops.size
 pred:∀i o,ops[i]? =some o→∀p∈cX ops i,p<i
 data:∀i o,ops[i]? =some o→i<nR→∀t,t∈tmpsOf o→∀j,j<nR→br ops j=some t→j<i∧j∈cX ops i
 guard:∀i o g want,ops[i]? =some o→i<nR→o.guard=some (g,want)→g<i∧g∈cX ops i
 dst:∀j k t,j<nR→k<nR→j≠k→br ops j=some t→br ops k=some t→False
 clos:∀i,i<ops.size→nR≤i→∀j,j<i→eR ops ops.size i j=true
theorem zX {ops:Array Oper}{nR:Nat}(h:tJ ops nR=true):wV ops nR:=by
 unfold tJ at h;simp only[Bool.and_eq_true,decide_eq_true_eq,List.all_eq_true,List.mem_range]at h;obtain⟨hle,h⟩:=h;have hi:∀i o,ops[i]? =some o→((cX ops i).all fun p=>decide (p<i))=true∧(if i<nR then nj ops nR i o else(List.range i).all fun j=>eR ops ops.size i j)=true:=by
  intro i o ho
  have:=h i (Array.getElem?_eq_some_iff.1 ho).1
  rw[ho]at this
  simpa using this
 have hR:∀i o,ops[i]? =some o→i<nR→nj ops nR i o=true:=fun i o ho hlt=>by
  have:=(hi i o ho).2
  rw[if_pos hlt]at this;exact this
 refine⟨hle,fun i o ho p hp=>?_,fun i o ho hlt t ht j hj hd=>?_,fun i o g want ho hlt hg=>?_,fun j k t hj hk hjk h1 h2=>?_,fun i hi' hge j hj=>?_⟩
 ·have:=List.all_eq_true.1 (hi i o ho).1 p hp
  simpa using this
 ·have:=hR i o ho hlt
  unfold nj at this;simp only[Bool.and_eq_true,List.all_eq_true,List.mem_range]at this
  have:=this.1.1 t ht j hj
  rw[hd]at this;simp at this;exact this
 ·have:=hR i o ho hlt
  unfold nj at this;simp only[Bool.and_eq_true]at this
  have:=this.1.2
  rw[hg]at this
  simpa using this
 ·have hkk:k<ops.size:=by omega
  have:=hR k ops[k] (Array.getElem?_eq_getElem hkk) hk
  unfold nj at this;simp only[Bool.and_eq_true,List.all_eq_true,List.mem_range]at this
  have:=this.2 j hj
  rw[h1,h2]at this;simp at this;exact hjk this
 have:=(hi i ops[i] (Array.getElem?_eq_getElem hi')).2
 rw[if_neg (by omega)]at this;exact List.all_eq_true.1 this j (by simpa using hj)
end Go.Eng
/-
  THE ENGINE, PART R: a statement whose order is open, put together.
-/
namespace Go.Eng
open Go
section
variable {P:Program}{ops:Array Oper}{nR:Nat}
theorem aU {listed:Array Bool}{i j:Nat}(hi:i<listed.size):(listed.setIfInBounds i true).getD j false=(listed.getD j false||j==i):=by
 by_cases h:i=j
 ·subst h
  simp[Array.getD,hi]
 rw[getD_set_ne false h]
 simp;intro e;exact absurd e.symm h
theorem fm {listed:Array Bool}(hdown:∀i,listed.getD i false=true→∀p∈cX ops i,listed.getD p false=true):∀n i j,(∀p∈cX ops i,listed.getD p false=true)→eR ops n i j=true→listed.getD j false=true:=by
 intro n
 induction n with
 |zero=>intro i j _ h;simp[eR]at h
 |succ n ih=>
  intro i j hp h;simp only[eR,Bool.or_eq_true,List.any_eq_true]at h
  rcases h with h|⟨p,hpm,h⟩
  ·exact hp j (by simpa using h)
  exact ih p j (hdown p (hp p hpm)) h
theorem gY {listed:Array Bool}{i:Nat}(h:i∈Region.ready .any ops listed):(∀p∈cX ops i,listed.getD p false=true)∧i<ops.size∧listed.getD i true=false:=by
 obtain⟨h0,o,ho,hall⟩:=mem_ready.1 h;refine⟨fun p hp=>?_,(Array.getElem?_eq_some_iff.1 ho).1,h0⟩;unfold cX at hp;rw[ho]at hp;obtain⟨e,he,rfl⟩:=List.mem_map.1 hp;obtain⟨he1,he2⟩:=List.mem_filter.1 he;exact hall e (by simpa using he1) he2
theorem mv {listed:Array Bool}{i:Nat}{o:Oper}(ho:ops[i]? =some o)(hu:listed.getD i true=false)(h:∀p∈cX ops i,listed.getD p false=true):i∈Region.ready .any ops listed:=by
 refine mem_ready.2 ⟨hu,o,ho,fun e he hb=>h e.on ?_⟩;unfold cX;rw[ho];exact List.mem_map.2 ⟨e,List.mem_filter.2 ⟨by simpa using he,hb⟩,rfl⟩
def iF (ops:Array Oper)(listed:Array Bool):Nat:=(List.range ops.size).countP (fun i=>!listed.getD i false)
theorem oe {listed:Array Bool}{i:Nat}(hsz:listed.size=ops.size)(hi:i<ops.size)(hu:listed.getD i true=false):iF ops (listed.setIfInBounds i true)+1=iF ops listed:=by
 unfold iF;have hf:listed.getD i false=false:=by
  have hlt:i<listed.size:=by omega
  simp[Array.getD,hlt]at hu⊢
  exact hu
 have key:∀l:List Nat,l.Nodup→(l.countP (fun j=>!(listed.setIfInBounds i true).getD j false))+(if i∈l then 1 else 0)=l.countP (fun j=>!listed.getD j false):=by
  intro l
  induction l with
  |nil=>intro _;simp
  |cons x l ih=>
   intro hnd;obtain⟨hx,hnd⟩:=List.nodup_cons.1 hnd;have ih':=ih hnd;simp only[List.countP_cons,aU (by omega:i<listed.size)]
   by_cases hxi:x=i
   ·subst hxi;rw[if_neg hx]at ih';simp only[hf,beq_self_eq_true,Bool.or_true,Bool.not_true,Bool.false_eq_true,if_false,Bool.not_false,if_true,List.mem_cons,true_or];simp only[aU (by omega:x<listed.size)]at ih';omega
   have hne:(x==i)=false:=by simpa using hxi
   have hmem:(i∈x::l)↔i∈l:=by simp[List.mem_cons];intro e;exact absurd e.symm hxi
   simp only[hne,Bool.or_false];simp only[hmem];simp only[aU (by omega:i<listed.size)]at ih';omega
 have:=key (List.range ops.size) List.nodup_range
 rw[if_pos (by simpa using hi)]at this;exact this
theorem rf {listed:Array Bool}(h:iF ops listed=0):∀i,i<ops.size→listed.getD i false=true:=by
 intro i hi;unfold iF at h;rw[List.countP_eq_zero]at h
 have:=h i (by simpa using hi)
 simpa using this
variable {σ:St}{es:Nat→eG}{K:St→Prop}
structure Du (P:Program) (G:Ctx) (ops:Array Oper) (nR:Nat) (σ:St) (es:Nat→eG) (K:St→Prop) (listed:Array Bool) (a:Act) (w:World):Prop where
 size:listed.size=ops.size
 down:∀i,listed.getD i false=true→∀p∈cX ops i,listed.getD p false=true
 where_:((∀i,listed.getD i false=true→i<nR)∧uF G (fun b=>b<σ.nx∨∃j,j<nR∧listed.getD j false=true∧b=σ.nx+j) (aK σ σ.nx ops es (fun j=>listed.getD j false) nR) a w)∨
  (∃k,nR≤k∧k≤ops.size∧(∀i,i<ops.size→(listed.getD i false=true↔i<k))∧∃s,ux P ops (ops.toList.drop k) s K∧oz G s a w)
theorem Du.later (hck:wV ops nR)(hW:ux P ops (ops.toList.drop nR) {aK σ σ.nx ops es (fun _=>true) nR with nx:=σ.nx+ops.size} K)
  {G:Ctx} {listed:Array Bool} {a:Act} {w:World} (h:Du P G ops nR σ es K listed a w) (hall:∀j,j<nR→listed.getD j false=true):
  ∃k,nR≤k∧k≤ops.size∧(∀i,i<ops.size→(listed.getD i false=true↔i<k))∧∃s,ux P ops (ops.toList.drop k) s K∧oz G s a w:=by
 rcases h.where_ with⟨hlt,ρ,hsim⟩|hk
 ·refine⟨nR,Nat.le_refl _,hck.le,fun i _=>⟨hlt i,hall i⟩,_,hW,ρ,?_⟩;rw[cN (L:=fun j=>listed.getD j false) (L':=fun _=>true) nR (fun j hj=>hall j hj)]at hsim;have h2:=hsim.cQ (dom':=fun b=>b<σ.nx+ops.size) (fun b hb=>by
   have:=hck.le
   rcases hb with hb|⟨j,hj,_,rfl⟩<;>omega)
  exact h2.Hv ⟨fun _=>rfl,fun _=>rfl,rfl⟩
 exact hk
theorem ML (hck:wV ops nR){i:Nat}{o:Oper}(ho:ops[i]? =some o)(hi:i<nR){listed:Array Bool}(hp:∀p∈cX ops i,listed.getD p false=true):
  iq (aK σ σ.nx ops es (fun _=>true) i) (aK σ σ.nx ops es (fun j=>listed.getD j false) nR) σ.nx o:=by
 refine⟨by rw[fF,fF],fun x hx=>?_,fun b hb=>by rw[iZ _ nR b hb,iZ _ i b hb]⟩
 cases x with
 |tmp t=>
  have htm:t∈tmpsOf o:=List.mem_filterMap.2 ⟨.tmp t,by simpa using hx,rfl⟩;show lk _ t=lk _ t
  by_cases hex:∃j,j<nR∧br ops j=some t
  ·obtain⟨j,hj,hd⟩:=hex;obtain⟨hji,hjp⟩:=hck.data i o ho hi t htm j hj hd;rw[dr (N:=nR) (fun j=>listed.getD j false) hd (hp j hjp) hck.dst nR (Nat.le_refl _) hj,dr (N:=nR) (fun _=>true) hd rfl hck.dst i (by omega) hji]
  rw[nL _ t nR (fun j hj h=>hex ⟨j,hj,h⟩),nL _ t i (fun j hj h=>hex ⟨j,by omega,h⟩)]
 |const v=>rfl
 |global g=>rfl
 |func f=>rfl
theorem yb (hck:wV ops nR)(hfz:∀j,∀b∈(es j).fz,b<σ.nx)
  (hstep:∀(i:Nat) o,i<nR→ops[i]? =some o→kQ P ops σ.nx i o (aK σ σ.nx ops es (fun _=>true) i) (es i))
  (hW:ux P ops (ops.toList.drop nR) {aK σ σ.nx ops es (fun _=>true) nR with nx:=σ.nx+ops.size} K)
  {G:Ctx} {Q:Exit→Act→World→Prop} (hQ:∀s a w,K s→oz G s a w→Q .normal a w):
  ∀(fuel:Nat) (listed:Array Bool) (a:Act) (w:World),Du P G ops nR σ es K listed a w→iF ops listed≤fuel→wpAny P .any ops Q fuel listed a w:=by
 intro fuel
 induction fuel with
 |zero=>
  intro listed a w h hf;have hall:=rf (Nat.le_zero.1 hf);refine⟨?_,?_⟩
  ·cases hr:Region.ready .any ops listed with
   |nil=>rfl
   |cons i l=>
    obtain⟨_,hi,hu⟩:=gY (i:=i) (listed:=listed) (ops:=ops) (by rw[hr];simp);have h1:=hall i hi;have hlt:i<listed.size:=by rw[h.size];exact hi
    simp[Array.getD,hlt]at h1 hu
    rw[h1]at hu;cases hu
  obtain⟨k,hk1,hk2,hk3,s,hs,hsim⟩:=h.later hck hW (fun j hj=>hall j (by have:=hck.le;omega));have hke:k=ops.size:=by
   rcases Nat.lt_or_ge k ops.size with hlt|hge
   ·have:=(hk3 k hlt).1 (hall k hlt);omega
   omega
  subst hke;rw[List.drop_eq_nil_of_le (by simp)]at hs;exact hQ s a w hs hsim
 |succ fuel ih=>
  intro listed a w h hf;refine⟨fun hr=>?_,fun i hi=>?_⟩
  ·-- none is ready: all have been
   have hall:∀n i,i<n→i<ops.size→listed.getD i false=true:=by
    intro n
    induction n with
    |zero=>intro i hi;omega
    |succ n ihn=>
     intro i hin his
     by_cases hu:listed.getD i false=true
     ·exact hu
     have hlt:i<listed.size:=by rw[h.size];exact his
     have hu':listed.getD i true=false:=by
      simp[Array.getD,hlt]at hu⊢
      exact hu
     have hm:=mv (ops:=ops) (Array.getElem?_eq_getElem his) hu' (fun p hp=>ihn p (by have:=hck.pred i _ (Array.getElem?_eq_getElem his) p hp;omega) (by have:=hck.pred i _ (Array.getElem?_eq_getElem his) p hp;omega));rw[hr]at hm;cases hm
   obtain⟨k,hk1,hk2,hk3,s,hs,hsim⟩:=h.later hck hW (fun j hj=>hall _ j (Nat.lt_succ_self _) (by have:=hck.le;omega));have hke:k=ops.size:=by
    rcases Nat.lt_or_ge k ops.size with hlt|hge
    ·have:=(hk3 k hlt).1 (hall _ k (Nat.lt_succ_self _) hlt);omega
    omega
   subst hke;rw[List.drop_eq_nil_of_le (by simp)]at hs;exact hQ s a w hs hsim
  obtain⟨hp,his,hu⟩:=gY hi;have ho:=Array.getElem?_eq_getElem his;have hcount:=oe h.size his hu;have hlt:i<listed.size:=by rw[h.size];exact his
  have hu':listed.getD i false=false:=by
   simp[Array.getD,hlt]at hu⊢
   exact hu
  have hdown':∀j,(listed.setIfInBounds i true).getD j false=true→∀p∈cX ops j,(listed.setIfInBounds i true).getD p false=true:=by
   intro j hj p hpj;rw[aU hlt]at hj⊢
   rcases Bool.or_eq_true_iff.1 hj with hj|hj
   ·rw[h.down j hj p hpj];rfl
   have:j=i:=by simpa using hj
   subst this;rw[hp p hpj];rfl
  by_cases hiR:i<nR
  ·-- one that only looks
   rcases h.where_ with⟨hlR,ρ,hsim⟩|⟨k,hk1,hk2,hk3,_⟩
   ·have hst:=hstep i ops[i] hiR ho;have hagr:=ML (σ:=σ) (es:=es) hck ho hiR hp;have hstand:∀a' w',uF G (fun b=>(b<σ.nx∨∃j,j<nR∧listed.getD j false=true∧b=σ.nx+j)∨b=σ.nx+i) ((aK σ σ.nx ops es (fun j=>listed.getD j false) nR).add (br ops i) (σ.nx+i) (es i)) a' w'→
      Du P G ops nR σ es K (listed.setIfInBounds i true) a' w':=by
     rintro a' w' ⟨ρ',h1⟩;refine⟨by simpa using h.size,hdown',.inl ⟨fun j hj=>?_,ρ',?_⟩⟩
     ·rw[aU hlt]at hj
      rcases Bool.or_eq_true_iff.1 hj with hj|hj
      ·exact hlR j hj
      have:j=i:=by simpa using hj
      omega
     have h2:=h1.cQ (dom':=fun b=>b<σ.nx∨∃j,j<nR∧(listed.setIfInBounds i true).getD j false=true∧b=σ.nx+j) (fun b hb=>by
      rcases hb with(hb|⟨j,hj,hlj,rfl⟩)|rfl
      ·exact .inl hb
      ·exact .inr ⟨j,hj,by rw[aU hlt,hlj];rfl,rfl⟩
      exact .inr ⟨i,hiR,by rw[aU hlt];simp,rfl⟩)
     have h3:=ny (σ:=σ) (nx0:=σ.nx) (e:=es) (N:=nR) (L:=fun j=>listed.getD j false) (i:=i) hu' hck.dst hfz nR (Nat.le_refl _) hiR;have h4:=h2.Hv h3.symm
     rw[cN (L:=fun j=>listed.getD j false||j==i) (L':=fun j=>(listed.setIfInBounds i true).getD j false) nR (fun j _=>(aU hlt).symm)]at h4
     exact h4
    have hdst:br ops i=ops[i].dst:=by unfold br;rw[ho];rfl
    have hid:¬(σ.nx+i<σ.nx∨∃j,j<nR∧listed.getD j false=true∧σ.nx+i=σ.nx+j):=by
     rintro(h1|⟨j,_,hj,he⟩)
     ·omega
     have:i=j:=by omega
     subst this;rw[hu']at hj;cases hj
    unfold wpOp;simp only[ho];obtain⟨hdl,hst⟩:=hst;have doit:bf P ops[i] (aK σ σ.nx ops es (fun _=>true) i) σ.nx (σ.nx+i) (es i)→ops[i].wp P a w (wpAny P .any ops Q fuel (listed.setIfInBounds i true)) Q:=by
     intro hre;refine hre.1 G _ ρ _ a w hsim hid hagr Q _ fun v w' h5=>?_;refine ih _ _ _ (hstand _ _ ?_) (by omega);rw[hdst];exact h5
    split at hst
    ·rename_i hg
     rw[ic hg,if_pos rfl];exact .inl (doit hst)
    rename_i g want hg
    obtain⟨t,b,ht,hb,hst⟩:=hst;obtain⟨hgi,hgp⟩:=hck.guard i _ g want ho hiR hg;have hgR:g<nR:=by omega
    have hb':gv (lk (aK σ σ.nx ops es (fun j=>listed.getD j false) nR).env t)=some b:=by
     rw[dr (N:=nR) (fun j=>listed.getD j false) (t:=t) (j:=g) ht (hp g hgp) hck.dst nR (Nat.le_refl _) hgR];rw[dr (N:=nR) (fun _=>true) (t:=t) (j:=g) ht rfl hck.dst i (by omega) hgi]at hb;exact hb
    rw[nu hsim hg ht hb']
    by_cases hbw:b=some want
    ·rw[if_pos hbw]at hst;rw[if_pos (by simp[hbw])];exact .inl (doit hst)
    rw[if_neg hbw]at hst;rw[if_neg (by simpa using hbw)];refine ih _ _ _ (hstand _ _ ⟨ρ,?_⟩) (by omega);rw[hst,hdst];have h5:=hsim.put (dst:=ops[i].dst) (x:=.aD []) (v:=undef) (fun d hd=>by have:=hdl d hd;rw[fF]at this⊢;exact this) ⟨#[],rfl,trivial⟩;have h6:=h5.cQ (dom':=fun b=>(b<σ.nx∨∃j,j<nR∧listed.getD j false=true∧b=σ.nx+j)∨b=σ.nx+i) (fun b hb=>Or.inl hb);unfold eG.skip;rw[St.add_plain];exact h6
   have:=(hk3 i his).2 (by omega)
   rw[hu']at this;cases this
  -- one that writes: all that stand ahead of it have been
  have hahead:∀j,j<i→listed.getD j false=true:=fun j hj=>fm h.down _ i j hp (hck.clos i his (by omega) j hj);obtain⟨k,hk1,hk2,hk3,s,hs,hsim⟩:=h.later hck hW (fun j hj=>hahead j (by omega));have hki:k=i:=by
   rcases Nat.lt_trichotomy k i with hlt'|rfl|hgt
   ·have:=(hk3 k (by omega)).1 (hahead k hlt');omega
   ·rfl
   have:=(hk3 i his).2 hgt;rw[hu']at this;cases this
  subst hki;have hdrop:ops.toList.drop k=ops[k]::ops.toList.drop (k+1):=by
   rw[List.drop_eq_getElem_cons (by simpa using his)];rfl
  rw[hdrop]at hs;refine FY.step ho hs.2 hs.1 hsim fun s' a' w' hs'' hsim'=>ih _ _ _ ?_ (by omega);refine⟨by simpa using h.size,hdown',.inr ⟨k+1,by omega,by omega,fun j hj=>?_,s',hs'',hsim'⟩⟩;rw[aU hlt]
  by_cases hjk:j=k
  ·subst hjk;simp
  have hne:(j==k)=false:=by simpa using hjk
  rw[hne,Bool.or_false,hk3 j hj];omega
end
def Ek (f:Nat→Nat→C)(off len:Nat):Nat→Nat→C:=fun i j=>if off≤i then(if i<off+len then .any else f i j)else f i j
def zQ (xs:List Int)(off len:Nat):List Int:=xs.take off++(List.replicate len 0++xs.drop (off+len))
def ti (T:fu)(s:St)(dst:Option Tmp)(t:TypeId)(x:Operand)(K:St→Prop):Prop:=
 match T t with
 |some S=>match S.k with
  |.sl e=>match T e with
   |some E=>match s.ev x with
    |.one (.own b wd off len)=>match lo s.own b with
     |some ⟨.rows e' w n f,rw⟩=>rw=true∧wd=w∧E.size=w∧E.zero.length=w∧0<w∧K {s.put dst .unk with own:=eE s.own b ⟨.rows e' w n (Ek f off len),true⟩}
     |some ⟨.ints e' k xs,rw⟩=>rw=true∧wd=1∧E.size=1∧E.zero=[.int k 0]∧K {s.put dst .unk with own:=eE s.own b ⟨.ints e' k (zQ xs off len),true⟩}
     |_=>False
    |_=>False
   |none=>False
  |_=>False
 |none=>False
theorem FQ (xs:List Int)(off len:Nat)(h:off+len≤xs.length)(j:Nat):(zQ xs off len)[j]? =if off≤j∧j<off+len then some 0 else xs[j]? :=by
 unfold zQ;rw[List.getElem?_append,List.getElem?_append,X5,List.length_replicate]
 by_cases h1:j<off
 ·rw[if_pos (by omega),if_neg (by omega),List.getElem?_take,if_pos h1]
 rw[if_neg (by omega)]
 by_cases h2:j<off+len
 ·rw[if_pos (by omega),if_pos (by omega),List.getElem?_replicate,if_pos (by omega)]
 rw[if_neg (by omega),if_neg (by omega),List.getElem?_drop];congr 1;omega
theorem zq (xs:List Int)(off len:Nat)(h:off+len≤xs.length):(zQ xs off len).length=xs.length:=by
 unfold zQ;simp;omega
theorem uR {P:Program}{w:World}{t ty e:TypeId}{i:TypeInfo}{z:Value}(ht:P.underlying t=some (.slice e))(hi:P.info? e=some i)(hz:i.zero=some z)(g o len cap:Nat){cur:Array Value}{e':TypeId}(hg:w.heap[g]? =some (.cells cur e' (0,0)))
  (hfit:o+len*z.cells.size≤cur.size) (h1:z.cells.toList.all Value.oneCell'=true) (hsz:0<z.cells.size) (hlen:0<len):
  (Builtin.clear_ #[t] ty #[.slice (some ⟨g,o,none⟩) len cap]).run P w= .ok (.tuple #[]) (w.setRow g (cur.toList.take o++(Builtin.zeroCells z.cells len).toList++cur.toList.drop (o+len*z.cells.size)).toArray):=by
 have hzl:(Builtin.zeroCells z.cells len).toList.length=len*z.cells.size:=by simp[Builtin.zeroCells]
 have hone:∀u∈(Builtin.zeroCells z.cells len).toList,u.oneCell'=true:=by
  intro u hu;simp only[Builtin.zeroCells,Array.toList_map,List.mem_map]at hu;obtain⟨k,_,rfl⟩:=hu;have hk:k%z.cells.size<z.cells.size:=Nat.mod_lt _ hsz;rw[getElem!_pos z.cells _ hk];exact List.all_eq_true.1 h1 _ (by simp)
 have hst:=run_storeCells_at P g o e' (Builtin.zeroCells z.cells len).toList 0 cur w hg (by rw[hzl];simpa using hfit) hone;simp only[Nat.add_zero,hzl]at hst
 cases len with
 |zero=>omega
 |succ len=>
  simp only[Builtin.clear_,List.getElem?_toArray,List.getElem?_cons_zero,Sem.run_bind,av ht,Result.andThen_ok,fk hi hz,hst,Sem.run_pure]
section
variable {P:Program}{T:fu}(hT:eD P T)
include hT
theorem NA {
        o:Oper} {s:St} {K:St→Prop} {c:Call} (ho:o.op= .call c) (hcal:c.callee= .builtin .clear) {x:Operand} (hargs:c.args= #[x]) {t:TypeId} (htys:c.argTypes= #[t]) (hdn:b5 o s.n) (h:ti T s o.dst t x K):mF P o s K:=by
 unfold ti at h
 cases hTt:T t with
 |none=>rw[hTt]at h;exact h.elim
 |some S=>
  rw[hTt]at h;simp only at h
  split at h
  ·rename_i e hSk
   have hu:=fb hT hTt hSk
   cases hTe:T e with
   |none=>rw[hTe]at h;exact h.elim
   |some E=>
    rw[hTe]at h;simp only at h;obtain⟨ei,ed,ez,hei,heu,hez,hek,hes,_,hzc,hall⟩:=bD hT hTe;have hzl:E.zero.length=ez.cells.size:=by rw[hzc];simp
    split at h
    ·rename_i b wd off len hx
     intro G a w hsim Q next hk;obtain⟨ρ,hs⟩:=hsim;have hev:=hs.ev x;rw[hx]at hev;have hrun:∀(v:Value) (w':World),a.eval x=v→(∀ty,(Builtin.clear_ #[t] ty #[v]).run P w= .ok (.tuple #[]) w')→(execOp a.eval o).run P w= .ok (.value (.tuple #[])) w':=by
      intro v w' hv hr;unfold execOp;rw[ho];simp only[resolve,hcal,Sem.run_bind,Sem.run_pure,Result.andThen_ok,invoke,Go.builtin,hargs,htys,List.map_toArray,List.map_cons,List.map_nil,hv,hr]
     obtain⟨_,hle,cap,hcap,hval⟩:=hev;have hput:∀(w':World) (own':List (Nat×fC)),aW G (fun b=>b<s.nx) ρ {s with own:=own'} a w'→oz G {s.put o.dst .unk with own:=own'} (a.put o.dst (.tuple #[])) w':=by
      intro w' own' h1;have h2:=h1.put (dst:=o.dst) (x:=.unk) (v:=.tuple #[]) hdn trivial
      cases hd:o.dst with
      |none=>rw[hd]at h2;exact⟨ρ,h2⟩
      |some d=>rw[hd]at h2;exact⟨ρ,h2⟩
     by_cases hl0:len=0
     ·subst hl0;have hclr:∀v,v=a.eval x→(∃ad,v= .slice ad 0 cap)→∀ty,(Builtin.clear_ #[t] ty #[v]).run P w= .ok (.tuple #[]) w:=by
       rintro v _ ⟨ad,rfl⟩ ty
       cases ad<;>simp only[Builtin.clear_,List.getElem?_toArray,List.getElem?_cons_zero,Sem.run_bind,av hu,Result.andThen_ok,Sem.run_pure]
      have hsl:∃ad,a.eval x= .slice ad 0 cap:=by
       rcases hval with⟨g,o1,o2,_,hv,_⟩|⟨_,hv,_,hc0⟩
       ·exact⟨_,hv⟩
       exact⟨none,by rw[hv,hc0]⟩
      have hr:=hrun _ w rfl (hclr _ rfl hsl);have hsame:∀own',(∀b',lo own' b'=lo s.own b')→aW G (fun b=>b<s.nx) ρ {s with own:=own'} a w:=fun own' he=>hs.Hv ⟨fun _=>rfl,fun b'=>(he b').symm,rfl⟩
      split at h
      ·rename_i e' w0 n f rw_ hlo
       obtain⟨rfl,rfl,_,_,_,hK⟩:=h;refine Oper.dc hr (hk _ _ _ hK (hput _ _ (hsame _ fun b'=>?_)));rw[bT]
       split
       ·rename_i hb;subst hb;rw[hlo]
        have:Ek f off 0=f:=by funext i j;unfold Ek;by_cases h1:off≤i<;>simp [h1];omega
        rw[this]
       rfl
      ·rename_i e' k xs rw_ hlo
       obtain⟨rfl,rfl,_,_,hK⟩:=h;refine Oper.dc hr (hk _ _ _ hK (hput _ _ (hsame _ fun b'=>?_)));rw[bT]
       split
       ·rename_i hb;subst hb;rw[hlo]
        have:zQ xs off 0=xs:=by unfold zQ;simp
        rw[this]
       rfl
      exact h.elim
     rcases hval with⟨g,o1,o2,haddr,hv,ho2,_⟩|⟨_,_,h0,_⟩
     ·have ho3:o2=o1+off*wd:=by rcases ho2 with h1|h1<;>omega
      subst ho3
      split at h
      ·rename_i e' w0 n f rw_ hlo
       obtain⟨rfl,rfl,hE,hEz,hpos,hK⟩:=h;have hzs:ez.cells.size=wd:=by omega
       obtain⟨_,hlenρ,hrep,_⟩:=hs.own b _ hlo;unfold aL at hrep;rw[haddr]at hrep;obtain⟨cur,ee,hg,hc⟩:=hrep;simp only at hc;rw[hlenρ]at hle;simp only[Bk.len]at hle;have hmul:(off+len)*wd≤n*wd:=Nat.mul_le_mul_right _ hle;have hmul2:(off+len)*wd=off*wd+len*wd:=Nat.add_mul _ _ _;have hlw:0<len*wd:=Nat.mul_pos (by omega) hpos;have hfit:o1+off*wd+len*ez.cells.size≤cur.size:=by
        rw[hzs];obtain⟨u,hu',_⟩:=hc (n*wd-1) (f ((n*wd-1)/wd) ((n*wd-1)%wd)) (by simp only[Bk.cell];rw[if_pos (by omega)])
        have:=(Array.getElem?_eq_some_iff.1 hu').1
        omega
       have hr:=hrun _ _ hv (fun ty=>uR (ty:=ty) hu hei hez g (o1+off*wd) len cap hg hfit hall (by omega) (by omega));refine Oper.dc hr (hk _ _ _ hK (hput _ _ ?_));have hzl2:(Builtin.zeroCells ez.cells len).toList.length=len*wd:=by simp[Builtin.zeroCells,hzs]
       have hsz:((cur.toList.take (o1+off*wd)++(Builtin.zeroCells ez.cells len).toList++cur.toList.drop (o1+off*wd+len*ez.cells.size)).toArray).size=cur.size:=by
        simp only[List.size_toArray,X6,X5,List.length_drop,hzl2,Array.length_toList];rw[hzs]at hfit⊢;omega
       refine hs.write hlo haddr hg hsz (.rows e' wd n (Ek f off len)) rfl fun j c' hj=>?_;simp only[Bk.cell]at hj
       split at hj
       ·rename_i hjn
        simp only[Option.some.injEq]at hj;have hlg:=il cur.toList (o1+off*wd) (Builtin.zeroCells ez.cells len).toList (by rw[hzl2];simp only[Array.length_toList];rw[hzs]at hfit;omega) (o1+j);rw[hzl2]at hlg;have hd1:=Nat.div_add_mod j wd;have hd2:=Nat.mod_lt j hpos;simp only[List.getElem?_toArray,hzs,hlg]
        by_cases hm:off*wd≤j∧j<off*wd+len*wd
        ·rw[if_pos (by omega)];have hi1:off≤j/wd:=(Nat.le_div_iff_mul_le hpos).2 hm.1;have hi2:j/wd<off+len:=(Nat.div_lt_iff_lt_mul hpos).2 (by omega);have hcany:c'= .any:=by rw[←hj];unfold Ek;rw[if_pos hi1,if_pos hi2]
         subst hcany;have hlt:o1+j-(o1+off*wd)<(Builtin.zeroCells ez.cells len).toList.length:=by rw[hzl2];omega
         refine⟨_,X8 hlt,?_⟩;show Value.oneCell' _=true;simp only[Builtin.zeroCells,Array.getElem_toList,Array.getElem_map,Array.getElem_range];have hkk:(o1+j-(o1+off*wd))%ez.cells.size<ez.cells.size:=Nat.mod_lt _ (by omega);rw[getElem!_pos ez.cells _ hkk];exact List.all_eq_true.1 hall _ (by simp)
        rw[if_neg (by omega),Array.getElem?_toList];have hcf:c'=f (j/wd) (j%wd):=by
         rw[←hj];unfold Ek
         by_cases hi1:off≤j/wd
         ·rw[if_pos hi1,if_neg];intro hi2;have a1:=(Nat.le_div_iff_mul_le hpos).1 hi1;have a2:=(Nat.div_lt_iff_lt_mul hpos).1 hi2;omega
         rw[if_neg hi1]
        exact hc j c' (by simp only[Bk.cell];rw[if_pos hjn,hcf])
       cases hj
      ·rename_i e' k xs rw_ hlo
       obtain⟨rfl,rfl,hE,hEz,hK⟩:=h;have hzs:ez.cells.size=1:=by rw[←hzl,hEz];rfl
       have hmm:len*ez.cells.size=len:=by rw[hzs,Nat.mul_one]
       obtain⟨_,hlenρ,hrep,_⟩:=hs.own b _ hlo;unfold aL at hrep;rw[haddr]at hrep;obtain⟨cur,ee,hg,hc⟩:=hrep;simp only at hc;rw[hlenρ]at hle;simp only[Bk.len]at hle;have hfit:o1+off*1+len*ez.cells.size≤cur.size:=by
        obtain⟨u,hu',_⟩:=hc (xs.length-1) (.int k xs[xs.length-1]) (by simp only[Bk.cell];rw[X8 (by omega)];rfl)
        have:=(Array.getElem?_eq_some_iff.1 hu').1
        omega
       have hr:=hrun _ _ hv (fun ty=>uR (ty:=ty) hu hei hez g (o1+off*1) len cap hg hfit hall (by omega) (by omega));refine Oper.dc hr (hk _ _ _ hK (hput _ _ ?_));have hzl2:(Builtin.zeroCells ez.cells len).toList.length=len:=by simp[Builtin.zeroCells,hzs]
       have hsz:((cur.toList.take (o1+off*1)++(Builtin.zeroCells ez.cells len).toList++cur.toList.drop (o1+off*1+len*ez.cells.size)).toArray).size=cur.size:=by
        simp only[List.size_toArray,X6,X5,List.length_drop,hzl2,Array.length_toList];omega
       refine hs.write hlo haddr hg hsz (.ints e' k (zQ xs off len)) (zq xs off len hle) fun j c' hj=>?_;simp only[Bk.cell,FQ xs off len hle]at hj;have hlg:=il cur.toList (o1+off*1) (Builtin.zeroCells ez.cells len).toList (by rw[hzl2];simp only[Array.length_toList];omega) (o1+j);rw[hzl2]at hlg;simp only[List.getElem?_toArray,hmm,hlg]
       by_cases hm:off≤j∧j<off+len
       ·rw[if_pos hm]at hj;simp only[Option.map_some,Option.some.injEq]at hj;subst hj;rw[if_pos (by omega)];have hlt:o1+j-(o1+off*1)<(Builtin.zeroCells ez.cells len).toList.length:=by rw[hzl2];omega
        refine⟨_,X8 hlt,?_⟩;simp only[Builtin.zeroCells,Array.getElem_toList,Array.getElem_map,Array.getElem_range];have hz0:ez.cells.toList.map Cs=[.int k 0]:=by rw[←hzc];exact hEz
        obtain⟨v0,hv0⟩:∃v0,ez.cells.toList=[v0]:=List.length_eq_one_iff.1 (by simpa using hzs);rw[hv0]at hz0;have hcv:Cs v0= .int k 0:=by simpa using hz0
        have hone:v0.oneCell'=true:=List.all_eq_true.1 hall _ (by rw[hv0];simp);have hrr:=yD (ok:=aJ G s.own ρ w) (w:=w) v0 hone;rw[hcv]at hrr;have hkk:(o1+j-(o1+off*1))%ez.cells.size<ez.cells.size:=Nat.mod_lt _ (by omega);rw[getElem!_pos ez.cells _ hkk];have hv1:ez.cells[(o1+j-(o1+off*1))%ez.cells.size]=v0:=by
         have:ez.cells.toList[(o1+j-(o1+off*1))%ez.cells.size]? =some v0:=by
          rw[hv0,hzs,Nat.mod_one];rfl
         rw[Array.getElem?_toList,Array.getElem?_eq_getElem hkk]at this;exact Option.some.inj this
        rw[hv1];exact hrr
       rw[if_neg hm]at hj;rw[if_neg (by omega),Array.getElem?_toList];exact hc j c' hj
      exact h.elim
     omega
    exact h.elim
  exact h.elim
end
def yl (f g:Nat→Nat→C)(off n:Nat):Nat→Nat→C:=fun i j=>if off≤i then(if i<off+n then g (i-off) j else f i j)else f i j
def yH (T:fu)(s:St)(dst:Option Tmp)(t:TypeId)(x y:Operand)(K:St→Prop):Prop:=
 match T t with
 |some S=>
       match S.k with
  |.sl e=>match T e with
   |some E=>match s.ev x with
    |.one (.own b wd off len)=>match lo s.own b with
     |some ⟨.rows e' w n f,rw⟩=>match s.ev y with
      |.one cy=>match iG w (x9 s.own s.nx cy)with
       |some (m,g)=>rw=true∧wd=w∧E.size=w∧0<w∧K {s.put dst (.one (.int .i64 ((if m<len then m else len:Nat):Int)))with own:=eE s.own b ⟨.rows e' w n (yl f g off (if m<len then m else len)),true⟩}
       |none=>False
      |_=>False
     |_=>False
    |_=>False
   |none=>False
  |_=>False
 |none=>False
theorem Ga {P:Program}{w:World}{t t' ty e:TypeId}{i:TypeInfo}(ht:P.underlying t=some (.slice e))(hi:P.info? e=some i)(dv sv:Option Addr)(len cap m cap' n:Nat)(hn:n=if m<len then m else len){us:List Value}(hl:us.length=n*i.size)(hh:kL w sv us){w':World}
  (hst:(match dv with|some a=>storeCells a us|none=>pure ()).run P w= .ok () w'):
  (Builtin.copy_ #[t,t'] ty #[.slice dv len cap,.slice sv m cap']).run P w= .ok (goInt n) w':=by
 have hf:=dN (P:=P) i.size n sv m cap' us hl hh
 have hm:Nat.min m len=n:=by rw[hn];show min m len=_;split<;>omega
 cases dv with
 |none=>
  obtain rfl:w=w':=by simpa using hst
  simp[Builtin.copy_,Go.run_underlying ht,sizeOf,typeInfo,hi,Builtin.lenOf,hm,hf]
 |some a=>
  simp only at hst
  simp[Builtin.copy_,Go.run_underlying ht,sizeOf,typeInfo,hi,Builtin.lenOf,hm,hf,hst]
section
variable {P:Program}{T:fu}(hT:eD P T)
include hT
theorem Pa {o:Oper}{s:St}{K:St→Prop}{c:Call}(ho:o.op= .call c)(hcal:c.callee= .builtin .copy){x y:Operand}(hargs:c.args= #[x,y]){t t':TypeId}(htys:c.argTypes= #[t,t'])(hdn:b5 o s.n)(h:yH T s o.dst t x y K):mF P o s K:=by
 unfold yH at h
 cases hTt:T t with
 |none=>rw[hTt]at h;exact h.elim
 |some S=>
  rw[hTt]at h;simp only at h
  split at h
  rotate_left
  ·exact h.elim
  rename_i e hSk
  have hu:=fb hT hTt hSk
  cases hTe:T e with
  |none=>rw[hTe]at h;exact h.elim
  |some E=>
   rw[hTe]at h;simp only at h;obtain⟨ei,ed,ez,hei,heu,hez,hek,hes,_,hzc,hall⟩:=bD hT hTe
   split at h
   rotate_left
   ·exact h.elim
   rename_i b wd off len hx
   split at h
   rotate_left
   ·exact h.elim
   rename_i e' w0 n f rw_ hlo
   split at h
   rotate_left
   ·exact h.elim
   rename_i cy hy
   split at h
   rotate_left
   ·exact h.elim
   rename_i m g hm
   obtain⟨rfl,rfl,hE,hpos,hK⟩:=h;intro G a w hsim Q next hk;obtain⟨ρ,hs⟩:=hsim;have hev:=hs.ev x;rw[hx]at hev;have hevy:=hs.ev y;rw[hy]at hevy;obtain⟨ad,cap',us,hvy,hcs⟩:=sX hs (fun _ hb=>hb) hevy hm;obtain⟨_,hle,cap,hcap,hval⟩:=hev;obtain⟨nn,hnn⟩:∃nn,nn=if m<len then m else len:=⟨_,rfl⟩
   rw[←hnn]at hK
   have hnm:nn≤m∧nn≤len:=by rw[hnn];split<;>omega
   have hmul:nn*wd≤m*wd:=Nat.mul_le_mul_right _ hnm.1;have hes':ei.size=wd:=by omega
   have hl:(us.take (nn*wd)).length=nn*ei.size:=by rw[X5,hcs.len,hes'];omega
   have hh:kL w ad (us.take (nn*wd)):=by
    rcases hcs.at_ with h1|⟨a1,h1,h2⟩
    ·left;rw[h1];simp
    refine .inr ⟨a1,h1,fun j u hj=>h2 j u ?_⟩;rw[List.getElem?_take]at hj
    split at hj
    ·exact hj
    cases hj
   have hrun:∀(v:Value) (w':World) (dv:Option Addr),a.eval x=v→v= .slice dv len cap→(match dv with|some a=>storeCells a (us.take (nn*wd))|none=>pure ()).run P w= .ok () w'→(execOp a.eval o).run P w= .ok (.value (goInt nn)) w':=by
    intro v w' dv hv hv2 hst;subst hv2;have hr:=Ga (t':=t') (ty:=o.type) hu hei dv ad len cap m cap' nn hnn hl hh hst;unfold execOp;rw[ho];simp only[resolve,hcal,Sem.run_bind,Sem.run_pure,Result.andThen_ok,invoke,Go.builtin,hargs,htys,List.map_toArray,List.map_cons,List.map_nil,hv,hvy,hr]
   have hput:∀(w':World) (own':List (Nat×fC)),aW G (fun b=>b<s.nx) ρ {s with own:=own'} a w'→oz G {s.put o.dst (.one (.int .i64 (nn:Int)))with own:=own'} (a.put o.dst (goInt nn)) w':=by
    intro w' own' h1;have h2:=h1.put (dst:=o.dst) (x:=.one (.int .i64 (nn:Int))) (v:=goInt nn) hdn rfl
    cases hd:o.dst with
    |none=>rw[hd]at h2;exact⟨ρ,h2⟩
    |some d=>rw[hd]at h2;exact⟨ρ,h2⟩
   by_cases hl0:nn=0
   ·subst hl0;have hsl:∃dv,a.eval x= .slice dv len cap:=by
     rcases hval with⟨g,o1,o2,_,hv,_⟩|⟨_,hv,h1,h2⟩
     ·exact⟨_,hv⟩
     exact⟨none,by rw[hv,h1,h2]⟩
    obtain⟨dv,hv⟩:=hsl
    have hr:=hrun _ w dv hv rfl (by cases dv<;>simp [storeCells])
    refine Oper.dc hr (hk _ _ _ hK (hput _ _ (hs.Hv ⟨fun _=>rfl,fun b'=>?_,rfl⟩)));rw[bT]
    split
    ·rename_i hb;subst hb;rw[hlo]
     have:yl f g off 0=f:=by funext i j;unfold yl;by_cases h1:off≤i<;>simp [h1];omega
     rw[this]
    rfl
   rcases hval with⟨g1,o1,o2,haddr,hv,ho2,_⟩|⟨_,_,h0,_⟩
   rotate_left
   ·omega
   have ho3:o2=o1+off*wd:=by rcases ho2 with h1|h1<;>omega
   subst ho3;obtain⟨_,hlenρ,hrep,_⟩:=hs.own b _ hlo;unfold aL at hrep;rw[haddr]at hrep;obtain⟨cur,ee,hg,hc⟩:=hrep;simp only at hc;rw[hlenρ]at hle;simp only[Bk.len]at hle;have hmul1:(off+nn)*wd≤n*wd:=Nat.mul_le_mul_right _ (by omega);have hmul2:(off+nn)*wd=off*wd+nn*wd:=Nat.add_mul _ _ _;have hlw:0<nn*wd:=Nat.mul_pos (by omega) hpos;have hl2:(us.take (nn*wd)).length=nn*wd:=by rw[hl,hes']
   have hfit:o1+off*wd+nn*wd≤cur.size:=by
    obtain⟨u,hu',_⟩:=hc (n*wd-1) (f ((n*wd-1)/wd) ((n*wd-1)%wd)) (by simp only[Bk.cell];rw[if_pos (by omega)])
    have:=(Array.getElem?_eq_some_iff.1 hu').1
    omega
   have hone:∀u∈us.take (nn*wd),u.oneCell'=true:=fun u hu=>hcs.one u (List.mem_of_mem_take hu);have hst:=run_storeCells_at P g1 (o1+off*wd) ee (us.take (nn*wd)) 0 cur w hg (by rw[hl2];omega) hone;simp only[Nat.add_zero,hl2]at hst;have hr:=hrun _ _ _ hv rfl hst;refine Oper.dc hr (hk _ _ _ hK (hput _ _ ?_));refine hs.write hlo haddr hg (by simp only[List.size_toArray,X6,X5,List.length_drop,Array.length_toList,hcs.len];omega) (.rows e' wd n (yl f g off nn)) rfl fun j c' hj=>?_;simp only[Bk.cell]at hj
   split at hj
   rotate_left
   ·cases hj
   rename_i hjn
   simp only[Option.some.injEq]at hj;have hlg:=il cur.toList (o1+off*wd) (us.take (nn*wd)) (by rw[hl2];simp only[Array.length_toList];omega) (o1+j);rw[hl2]at hlg;have hd1:=Nat.div_add_mod j wd;have hd2:=Nat.mod_lt j hpos;simp only[List.getElem?_toArray,hlg]
   by_cases hmm:off*wd≤j∧j<off*wd+nn*wd
   ·rw[if_pos (by omega)];have hi1:off≤j/wd:=(Nat.le_div_iff_mul_le hpos).2 hmm.1;have hi2:j/wd<off+nn:=(Nat.div_lt_iff_lt_mul hpos).2 (by omega);have hcg:c'=g (j/wd-off) (j%wd):=by rw[←hj];unfold yl;rw[if_pos hi1,if_pos hi2]
    obtain⟨u,hu1,hu2⟩:=hcs.rep (j/wd-off) (j%wd) (by omega) hd2;refine⟨u,?_,by rw[hcg];exact hu2⟩;have ej:o1+j-(o1+off*wd)=(j/wd-off)*wd+j%wd:=by
     rw[Nat.sub_mul]
     have:off*wd≤j/wd*wd:=Nat.mul_le_mul_right _ hi1
     have:=Nat.mul_comm (j/wd) wd
     omega
    rw[List.getElem?_take,if_pos (by omega),ej,hu1]
   rw[if_neg (by omega),Array.getElem?_toList];have hcf:c'=f (j/wd) (j%wd):=by
    rw[←hj];unfold yl
    by_cases hi1:off≤j/wd
    ·rw[if_pos hi1,if_neg];intro hi2;have a1:=(Nat.le_div_iff_mul_le hpos).1 hi1;have a2:=(Nat.div_lt_iff_lt_mul hpos).1 hi2;omega
    rw[if_neg hi1]
   exact hc j c' (by simp only[Bk.cell];rw[if_pos hjn,hcf])
end
end Go.Eng
/-
  THE ENGINE, PART T: a statement whose order is open, where some operations that make nothing may come later than those that write.
-/
namespace Go.Eng
open Go
inductive WL where
 |nil
 |cons (i:Nat) (pd:List Nat) (sub alt:WL)
 /-- a new variable (operation 'q', slot 'd') that may be made before those that write, or behind the first of them -/
 |opt (q d:Nat) (t1 t2:WL)
def iR:WL→Nat→Bool
 |.nil,_=>false
 |.cons i _ sub _,j=>if j=i then true else iR sub j
 |.opt _ _ _ _,_=>false
def bH (ws:WL)(i:Nat):Bool:=!iR ws i
def rj:WL→Nat→Bool
 |.nil,_=>false
 |.cons i _ _ alt,j=>if j=i then true else rj alt j
 |.opt _ _ _ _,_=>false
def jX:Op→Bool
 |.alloc _=>true
 |_=>false
def wU:Op→Bool
 |.select _ _=>false
 |_=>true
def KL (ops:Array Oper)(ws:WL)(i:Nat)(o:Oper):Bool:=
 ((tmpsOf o).all fun t=>(List.range ops.size).all fun j=>br ops j !=some t||(if bH ws j then decide (j<i)&&(cX ops i).contains j else eR ops ops.size j i))&&
 (
  match o.guard with
  |none=>true
  |some (g,_)=>decide (g<i)&&(cX ops i).contains g&&bH ws g)
def pX (ops:Array Oper)(l:List Nat)(j:Nat):Bool:=l.any fun i=>eR ops ops.size i j
def j8 (ops:Array Oper)(ws:WL)(pre:List Nat)(t:WL):Bool:=
 (List.range ops.size).all fun i=>!iR ws i||pre.contains i||rj t i||(List.range ops.size).any fun j=>iR ws j&&!pre.contains j&&eR ops ops.size i j
def lS (
     ops:Array Oper) (ws:WL) (ex:Option Nat):List Nat→WL→Bool
 |_,.nil=>true
 |_,.opt _ _ _ _=>false
 |pre,.cons i pd sub alt=>(match ops[i]? with
   |none=>false
   |some o=>o.guard.isNone&&wU o.op&&!pre.contains i&&iR ws i&&
     ((List.range ops.size).all fun j=>!bH ws j||pd.contains j||ex==some j||pX ops (i::pre) j)&&
     (pd.all fun j=>bH ws j&&(match ops[j]? with
      |none=>false
      |some oj=>jg oj.op&&(match oj.dst with
       |none=>false
       |some d=>!(tmpsOf o).contains d))))&&
  j8 ops ws (i::pre) sub&&lS ops ws ex (i::pre) sub&&lS ops ws ex pre alt
def C9 (ops:Array Oper)(ws:WL)(q:Nat)(t:WL):Bool:=
 (List.range ops.size).all fun i=>!iR ws i||i==q||rj t i||(List.range ops.size).any fun j=>iR ws j&&eR ops ops.size i j
def ET (ops:Array Oper)(ws:WL):Bool:=
 (List.range ops.size).all fun i=>match ops[i]? with
  |none=>false
  |some o=>((cX ops i).all fun p=>decide (p<i))&&((List.range ops.size).all fun j=>j==i||(br ops j).isNone||br ops j !=br ops i)&&(!bH ws i||KL ops ws i o)
def N7 (ops:Array Oper):WL→Bool
 |.opt q d t1 t2=>ET ops t1&&j8 ops t1 [] t1&&lS ops t1 (some q) [] t1&&ET ops t2&&C9 ops t2 q t2&&lS ops t2 none [] t2&&
   decide (q<ops.size)&&bH t1 q&&(br ops q==some d)&&((List.range ops.size).all fun j=>iR t2 j==(iR t1 j||j==q))&&
   ((List.range ops.size).all fun j=>!bH t2 j||match ops[j]? with|none=>true|some o=>!(tmpsOf o).contains d)&&(match ops[q]? with|none=>false|some o=>o.guard.isNone&&jX o.op)
 |ws=>ET ops ws&&j8 ops ws [] ws&&lS ops ws none [] ws
structure Ob (ops:Array Oper) (ws:WL) (ex:Option Nat) (pre:List Nat) (i:Nat) (pd:List Nat) (sub:WL):Prop where
 op:∃o,ops[i]? =some o∧o.guard=none∧wU o.op=true∧∀j∈pd,∃oj d,bH ws j=true∧ops[j]? =some oj∧jg oj.op=true∧oj.dst=some d∧d∉tmpsOf o
 all:∀j,j<ops.size→bH ws j=true→j∈pd∨ex=some j∨∃k∈i::pre,eR ops ops.size k j=true
 cov:j8 ops ws (i::pre) sub=true
 sub:lS ops ws ex (i::pre) sub=true
structure N1 (ops:Array Oper) (ws:WL):Prop where
 pred:∀i o,ops[i]? =some o→∀p∈cX ops i,p<i
 dst:∀j k t,j<ops.size→k<ops.size→j≠k→br ops j=some t→br ops k=some t→False
 data:∀i o,ops[i]? =some o→bH ws i=true→∀t,t∈tmpsOf o→∀j,j<ops.size→br ops j=some t→(bH ws j=true→j<i∧j∈cX ops i)∧(bH ws j=false→eR ops ops.size j i=true)
 guard:∀i o g want,ops[i]? =some o→bH ws i=true→o.guard=some (g,want)→g<i∧g∈cX ops i∧bH ws g=true
theorem ja {ops:Array Oper}{ws:WL}{ex:Option Nat}{pre:List Nat}{i:Nat}{pd:List Nat}{sub alt:WL}(h:lS ops ws ex pre (.cons i pd sub alt)=true):Ob ops ws ex pre i pd sub∧lS ops ws ex pre alt=true:=by
 simp only[lS,Bool.and_eq_true]at h;obtain⟨⟨⟨h1,hc⟩,hs⟩,h2⟩:=h;refine⟨?_,h2⟩
 cases ho:ops[i]? with
 |none=>rw[ho]at h1;cases h1
 |some o=>
  rw[ho]at h1;simp only[Bool.and_eq_true,List.all_eq_true,Option.isNone_iff_eq_none,Bool.not_eq_true']at h1;obtain⟨⟨⟨⟨⟨g1,g2⟩,_⟩,_⟩,g5⟩,g6⟩:=h1;refine⟨⟨o,ho,g1,g2,fun j hj=>?_⟩,fun j hj hr=>?_,hc,hs⟩
  ·have h3:=g6 j hj;obtain⟨k1,k2⟩:=h3
   cases hoj:ops[j]? with
   |none=>rw[hoj]at k2;cases k2
   |some oj=>
    rw[hoj]at k2;simp only[Bool.and_eq_true]at k2;obtain⟨k3,k5⟩:=k2
    cases hd:oj.dst with
    |none=>rw[hd]at k5;cases k5
    |some d=>
     rw[hd]at k5;exact⟨oj,d,k1,rfl,k3,hd,by simpa using k5⟩
  have h3:=g5 j (by simpa using hj);rw[hr]at h3;have h4:(pd.contains j=true∨ex=some j)∨pX ops (i::pre) j=true:=by simpa using h3
  rcases h4 with(h4|h4)|h4
  ·exact .inl (by simpa using h4)
  ·exact .inr (.inl h4)
  refine .inr (.inr ?_);unfold pX at h4;obtain⟨k,hk,hc⟩:=List.any_eq_true.1 h4;exact⟨k,hk,hc⟩
theorem qY {ops:Array Oper}{ws:WL}{pre:List Nat}{t:WL}(h:j8 ops ws pre t=true){i:Nat}(hi:i<ops.size)(hw:iR ws i=true):i∈pre∨rj t i=true∨∃j,j<ops.size∧iR ws j=true∧j∉pre∧eR ops ops.size i j=true:=by
 unfold j8 at h;have h1:=List.all_eq_true.1 h i (by simpa using hi);rw[hw]at h1;simp only[Bool.not_true,Bool.false_or,Bool.or_eq_true]at h1
 rcases h1 with(h1|h1)|h1
 ·exact .inl (by simpa using h1)
 ·exact .inr (.inl h1)
 obtain⟨j,hj,h2⟩:=List.any_eq_true.1 h1;simp only[Bool.and_eq_true,Bool.not_eq_true']at h2;exact .inr (.inr ⟨j,by simpa using hj,h2.1.1,by simpa using h2.1.2,h2.2⟩)
theorem tT {ops:Array Oper}{ws:WL}(h1:ET ops ws=true):N1 ops ws:=by
 unfold ET at h1;have hi:∀i o,ops[i]? =some o→((∀p∈cX ops i,p<i)∧(∀j,j<ops.size→j≠i→∀t,br ops j=some t→br ops i≠some t))∧(bH ws i=true→KL ops ws i o=true):=by
  intro i o ho;have hlt:=(Array.getElem?_eq_some_iff.1 ho).1;have h3:=List.all_eq_true.1 h1 i (by simpa using hlt);rw[ho]at h3;simp only[Bool.and_eq_true,List.all_eq_true,decide_eq_true_eq]at h3;obtain⟨⟨a1,a2⟩,a3⟩:=h3;refine⟨⟨a1,fun j hj hne t ht hti=>?_⟩,fun hr=>by rw[hr]at a3;simpa using a3⟩;have h4:=a2 j (by simpa using hj);rw[ht,hti]at h4
  simp[hne]at h4
 refine⟨fun i o ho=>(hi i o ho).1.1,fun j k t hj hk hne h3 h4=>?_,fun i o ho hr t ht j hj hd=>?_,fun i o g want ho hr hg=>?_⟩
 ·exact(hi k ops[k] (Array.getElem?_eq_getElem hk)).1.2 j hj hne t h3 h4
 ·have h3:=(hi i o ho).2 hr;unfold KL at h3;rw[Bool.and_eq_true]at h3;have h4:=List.all_eq_true.1 (List.all_eq_true.1 h3.1 t ht) j (by simpa using hj);rw[hd]at h4;refine⟨fun hrj=>?_,fun hrj=>?_⟩
  ·rw[hrj]at h4;simpa using h4
  rw[hrj]at h4;simpa using h4
 have h3:=(hi i o ho).2 hr;unfold KL at h3;rw[Bool.and_eq_true,hg]at h3
 simpa[and_assoc]using h3.2
open Classical in
noncomputable def tQ (s:St)(H:Tmp→Prop):St:={s with env:=s.env.filter fun p=>decide (¬H p.1)}
open Classical in
theorem p6 (H:Tmp→Prop)(t:Tmp):∀l:List (Nat×V),lk (l.filter fun p=>decide (¬H p.1)) t=if H t then .unk else lk l t
 |[]=>by simp[lk]
 |(t',v)::r=>by
  have ih:=p6 H t r
  by_cases hH:H t'
  ·rw[List.filter_cons_of_neg (by simpa using hH),ih]
   by_cases ht:t=t'
   ·subst ht;simp[hH]
   simp[lk,ht]
  rw[List.filter_cons_of_pos (by simpa using hH)];simp only[lk]
  by_cases ht:t=t'
  ·subst ht;simp[hH]
  simp only[ht,if_false];exact ih
theorem rI (s:St)(H:Tmp→Prop)(t:Tmp)(h:¬H t):lk (tQ s H).env t=lk s.env t:=by
 unfold tQ;simp only[p6,if_neg h]
theorem yu (s:St)(H:Tmp→Prop)(t:Tmp)(h:H t):lk (tQ s H).env t= .unk:=by
 unfold tQ;simp only[p6,if_pos h]
structure RU (H:Tmp→Prop) (a a':Act):Prop where
 defers:a.defers=a'.defers
 size:a.tmps.size=a'.tmps.size
 tmps:∀t,¬H t→a.tmps[t]? =a'.tmps[t]?
theorem RU.refl (H:Tmp→Prop)(a:Act):RU H a a:=⟨rfl,rfl,fun _ _=>rfl⟩
theorem RU.eq {H:Tmp→Prop}{a a':Act}(h:RU H a a')(hH:∀t,¬H t):a=a':=by
 obtain⟨h1,h2,h3⟩:=h
 cases a;cases a'
 simp only[Act.mk.injEq];exact⟨Array.ext_getElem? fun i=>h3 i (hH i),h1⟩
theorem RU.getD {H:Tmp→Prop}{a a':Act}(h:RU H a a'){t:Tmp}(ht:¬H t):a.tmps.getD t undef=a'.tmps.getD t undef:=by
 rw[Array.getD_eq_getD_getElem?,Array.getD_eq_getD_getElem?,h.tmps t ht]
theorem RU.put {H:Tmp→Prop}{a a':Act}(h:RU H a a')(dst:Option Tmp)(v:Value):RU H (a.put dst v) (a'.put dst v):=by
 cases dst with
 |none=>exact h
 |some d=>
  refine⟨h.defers,by simp[Act.put,h.size],fun t ht=>?_⟩;simp only[Act.put,Array.getElem?_setIfInBounds,h.size]
  split
  ·rfl
  exact h.tmps t ht
theorem mC {a:Act}{d t:Tmp}{v:Value}:(a.put (some d) v).tmps[t]? =if t=d∧d<a.tmps.size then some v else a.tmps[t]? :=by
 simp only[Act.put,Array.getElem?_setIfInBounds]
 by_cases h1:d=t
 ·subst h1
  by_cases h2:d<a.tmps.size
  ·simp[h2]
  simp[h2]
 rw[if_neg h1,if_neg (fun h=>h1 h.1.symm)]
theorem aW.tQ {G:Ctx}{dom:Nat→Prop}{ρ:Nat→Loc}{s:St}{a a':Act}{w:World}{H:Tmp→Prop}(h:aW G dom ρ s a' w)(hu:RU H a a'):aW G dom ρ (tQ s H) a w:=
 {
  h with
  hd:=by rw[hu.defers];exact h.hd
  hn:=by rw[hu.size];exact h.hn
  env:=fun t=>by
   by_cases ht:H t
   ·rw[yu _ _ _ ht];trivial
   rw[rI _ _ _ ht,hu.getD ht];exact h.env t}
theorem RU.exec {H:Tmp→Prop}{a a':Act}(h:RU H a a'){o:Oper}(hns:wU o.op=true)(ht:∀t∈tmpsOf o,¬H t):execOp a.eval o=execOp a'.eval o:=by
 refine execOp_congr o (fun cs b he=>by rw[he]at hns;cases hns) fun x hx=>?_
 cases x with
 |tmp t=>exact h.getD (ht t (List.mem_filterMap.2 ⟨.tmp t,by simpa using hx,rfl⟩))
 |const v=>rfl
 |global g=>rfl
 |func f=>rfl
theorem RU.wp {P:Program}{H:Tmp→Prop}{a a':Act}(h:RU H a a'){o:Oper}(hns:wU o.op=true)(ht:∀t∈tmpsOf o,¬H t){w:World}{next next':Act→World→Prop}{Q:Exit→Act→World→Prop}
  (hQ:∀ch a a' w,Q (.panic ch) a w→Q (.panic ch) a' w) (hn:∀b b' w,RU H b b'→next' b' w→next b w) (hw:o.wp P a' w next' Q):o.wp P a w next Q:=by
 unfold Oper.wp at hw⊢;rw[h.exec hns ht]
 cases hr:(execOp a'.eval o).run P w with
 |halt x w'=>
  rw[hr]at hw
  cases x<;>first|exact hQ _ _ _ _ hw|exact hw.elim
 |ok x w'=>
  rw[hr]at hw
  cases x with
  |value v=>exact hn _ _ _ (h.put _ v) hw
  |skip=>exact hn _ _ _ (h.put _ undef) hw
  |defer d=>
   refine hn _ _ _ (RU.put (⟨?_,h.size,h.tmps⟩:RU H {a with defers:=d::a.defers} {a' with defers:=d::a'.defers}) _ undef) hw;simp only[h.defers]
  |enter f args=>
   refine Calls.mono hw fun e w'' he=>?_
   cases e with
   |returned v=>exact hn _ _ _ (h.put _ v) he
   |panicked ch=>exact hQ _ _ _ _ he
   |outgrown=>exact he
  |row r args=>exact Rows.mono hw fun v w'' he=>hn _ _ _ (h.put _ v) he
  |_=>exact hw.elim
section
variable {P:Program}{ops:Array Oper}{ws:WL}{σ:St}{es:Nat→eG}{K:St→Prop}
def GM (P:Program)(ops:Array Oper)(s:St)(o:Oper)(d:Nat):Prop:=match o.guard with
 |none=>Lv P o s s.nx (lk s.env d)
 |some (g,want)=>∃t b,br ops g=some t∧gv (lk s.env t)=some b∧(if b=some want then Lv P o s s.nx (lk s.env d)else lk s.env d= .aD [])
def Promise (P:Program)(ops:Array Oper)(s:St)(pd:List Nat):Prop:=∀j∈pd,∃o d,ops[j]? =some o∧o.dst=some d∧GM P ops s o d∧d<s.n
def Ck (P:Program)(ops:Array Oper)(i:Nat)(pd:List Nat)(s:St)(K:St→Prop):Prop:=∃o,ops[i]? =some o∧b5 o s.n∧mF P o s (fun s'=>Promise P ops s' pd∧K s')
def lN (P:Program)(ops:Array Oper):WL→St→(St→Prop)→Prop
 |.nil,s,K=>K s
 |.cons i pd sub .nil,s,K=>Ck P ops i pd s (fun s'=>lN P ops sub s' K)
 |.cons i pd sub (.cons i' pd' sub' alt'),s,K=>Ck P ops i pd s (fun s'=>lN P ops sub s' K)∧lN P ops (.cons i' pd' sub' alt') s K
 |.cons _ _ _ (.opt _ _ _ _),_,_=>False
 |.opt _ _ _ _,_,_=>False
theorem nw {P:Program}{ops:Array Oper}{ws:WL}{ex:Option Nat}{pre:List Nat}{i:Nat}{s:St}{K:St→Prop}:∀{t:WL},lN P ops t s K→lS ops ws ex pre t=true→rj t i=true→∃pd sub,Ck P ops i pd s (fun s'=>lN P ops sub s' K)∧Ob ops ws ex pre i pd sub
 |.nil,_,_,hn=>by cases hn
 |.opt _ _ _ _,_,_,hn=>by cases hn
 |.cons _ _ _ (.opt _ _ _ _),h,_,_=>by rw[lN]at h;exact h.elim
 |.cons i0 pd sub .nil,h,hg,hn=>by
  simp only[rj]at hn
  by_cases he:i=i0
  ·subst he;rw[lN]at h;exact⟨pd,sub,h,(ja hg).1⟩
  rw[if_neg he]at hn;cases hn
 |.cons i0 pd sub (.cons i' pd' sub' alt'),h,hg,hn=>by
  rw[lN]at h
  by_cases he:i=i0
  ·subst he;exact⟨pd,sub,h.1,(ja hg).1⟩
  refine nw h.2 (ja hg).2 ?_;rw[rj,if_neg he]at hn;exact hn
def hid (ops:Array Oper)(ws:WL)(listed:Array Bool)(t:Tmp):Prop:=∃j,j<ops.size∧bH ws j=true∧listed.getD j false=false∧br ops j=some t
def sR (σ:St)(ops:Array Oper)(es:Nat→eG)(ws:WL):St:={aK σ σ.nx ops es (bH ws) ops.size with nx:=σ.nx+ops.size}
structure n9 (P:Program) (G:Ctx) (ops:Array Oper) (ws:WL) (ex:Option Nat) (F:Prop) (σ:St) (es:Nat→eG) (K:St→Prop) (listed:Array Bool) (a:Act) (w:World):Prop where
 size:listed.size=ops.size
 down:∀i,listed.getD i false=true→∀p∈cX ops i,listed.getD p false=true
 where_:(F∧(∀i,listed.getD i false=true→bH ws i=true)∧uF G (fun b=>b<σ.nx∨∃j,j<ops.size∧listed.getD j false=true∧b=σ.nx+j) (aK σ σ.nx ops es (fun j=>bH ws j&&listed.getD j false) ops.size) a w)∨
  (∃(pre:List Nat) (rest:WL) (pd:List Nat) (s:St) (a':Act),(∀j,j<ops.size→bH ws j=false→(listed.getD j false=true↔j∈pre))∧(∀k∈pre,listed.getD k false=true)∧lS ops ws ex pre rest=true∧(j8 ops ws pre rest=true∧∀q,ex=some q→listed.getD q false=true)∧
   (∀j,j<ops.size→bH ws j=true→listed.getD j false=false→j∈pd)∧lN P ops rest s K∧Promise P ops s pd∧oz G s a' w∧RU (hid ops ws listed) a a')
theorem mB (L:Nat→Bool)(t:Nat):∀k,(∀j,j<k→L j=true→br ops j≠some t)→lk (aK σ σ.nx ops es L k).env t=lk σ.env t:=by
 intro k
 induction k with
 |zero=>intro _;rfl
 |succ k ih=>
  intro h;simp only[aK]
  split
  ·rename_i hL
   rw[jG,if_neg (h k (Nat.lt_succ_self k) hL)];exact ih (fun j hj=>h j (Nat.lt_succ_of_lt hj))
  exact ih (fun j hj=>h j (Nat.lt_succ_of_lt hj))
theorem Oh (hck:N1 ops ws){i:Nat}{o:Oper}(ho:ops[i]? =some o)(hi:bH ws i=true){L:Nat→Bool}(hL:∀j,L j=true→bH ws j=true)(hp:∀p∈cX ops i,bH ws p=true→L p=true):
  iq (aK σ σ.nx ops es (bH ws) i) (aK σ σ.nx ops es L ops.size) σ.nx o:=by
 have his:=(Array.getElem?_eq_some_iff.1 ho).1;refine⟨by rw[fF,fF],fun x hx=>?_,fun b hb=>by rw[iZ _ ops.size b hb,iZ _ i b hb]⟩
 cases x with
 |tmp t=>
  have htm:t∈tmpsOf o:=List.mem_filterMap.2 ⟨.tmp t,by simpa using hx,rfl⟩;show lk _ t=lk _ t
  by_cases hex:∃j,j<ops.size∧bH ws j=true∧br ops j=some t
  ·obtain⟨j,hj,hjR,hd⟩:=hex;obtain⟨hji,hjp⟩:=(hck.data i o ho hi t htm j hj hd).1 hjR;rw[dr (N:=ops.size) L hd (hp j hjp hjR) hck.dst ops.size (Nat.le_refl _) hj,dr (N:=ops.size) (bH ws) hd hjR hck.dst i (by omega) hji]
  rw[mB L t ops.size (fun j hj hLj h=>hex ⟨j,hj,hL j hLj,h⟩),mB (bH ws) t i (fun j hj hLj h=>hex ⟨j,by omega,hLj,h⟩)]
 |const v=>rfl
 |global g=>rfl
 |func f=>rfl
theorem ghost (hck:N1 ops ws)(hfz:∀j,∀b∈(es j).fz,b<σ.nx)
  (hstep:∀(i:Nat) o,bH ws i=true→ops[i]? =some o→kQ P ops σ.nx i o (aK σ σ.nx ops es (bH ws) i) (es i))
  {G:Ctx} {listed:Array Bool} {a:Act} {w:World} {dom:Nat→Prop} (hW:∀i,listed.getD i false=true→bH ws i=true)
  (hlate:∀j,j<ops.size→bH ws j=true→listed.getD j false=false→∃o,ops[j]? =some o∧jg o.op=true)
  (hs:uF G dom (aK σ σ.nx ops es (fun j=>bH ws j&&listed.getD j false) ops.size) a w) (hdown:∀i,listed.getD i false=true→∀p∈cX ops i,listed.getD p false=true):
  ∀n,n≤ops.size→∃a',uF G dom (aK σ σ.nx ops es (fun j=>bH ws j&&(listed.getD j false||decide (j<n))) ops.size) a' w∧RU (hid ops ws listed) a a':=by
 intro n
 induction n with
 |zero=>
  intro _;refine⟨a,?_,RU.refl _ _⟩;rw[cN (L':=fun j=>bH ws j&&listed.getD j false) ops.size (fun j _=>by simp)];exact hs
 |succ n ih=>
  intro hn;obtain⟨a',⟨ρ,h1⟩,hu⟩:=ih (by omega)
  by_cases hc:bH ws n=true∧listed.getD n false=false
  ·obtain⟨hR,hl⟩:=hc;obtain⟨o,ho,hlt⟩:=hlate n (by omega) hR hl;obtain⟨hdl,hst⟩:=hstep n o hR ho
   have hagr:=Oh (σ:=σ) (es:=es) hck ho hR (L:=fun j=>bH ws j&&(listed.getD j false||decide (j<n))) (fun j hj=>by simp at hj;exact hj.1) (fun p hp hpR=>by
    have:=hck.pred n o ho p hp
    simp[hpR,this])
   have hval:(es n).uP=none∧(es n).fz=[]∧∃v,cC ρ dom (aJ G (aK σ σ.nx ops es (fun j=>bH ws j&&(listed.getD j false||decide (j<n))) ops.size).own ρ w) w (es n).val v:=by
    have doit:bf P o (aK σ σ.nx ops es (bH ws) n) σ.nx (σ.nx+n) (es n)→(es n).uP=none∧(es n).fz=[]∧∃v,cC ρ dom (aJ G (aK σ σ.nx ops es (fun j=>bH ws j&&(listed.getD j false||decide (j<n))) ops.size).own ρ w) w (es n).val v:=fun hre=>by
     obtain⟨hblk,hfzn,hpe⟩:=hre.2 hlt;obtain⟨v,_,hv⟩:=hpe G dom ρ _ a' w h1 hagr;exact⟨hblk,hfzn,v,hv⟩
    split at hst
    ·exact doit hst
    obtain⟨t,b,_,_,hst⟩:=hst
    split at hst
    ·exact doit hst
    rw[hst];exact⟨rfl,rfl,undef,⟨#[],rfl,trivial⟩⟩
   obtain⟨hblk,hfzn,v,hv⟩:=hval;have hdst:br ops n=o.dst:=by unfold br;rw[ho];rfl
   have h2:=h1.put (dst:=o.dst) (x:=(es n).val) (v:=v) (fun d hd=>by have:=hdl d hd;rw[fF]at this⊢;exact this) hv;refine⟨a'.put o.dst v,⟨ρ,?_⟩,?_⟩
   ·have he:es n=⟨(es n).val,none,[]⟩:=by
     cases hen:es n with
     |mk v b f=>rw[hen]at hblk hfzn;simp only at hblk hfzn;rw[hblk,hfzn]
    have h3:=ny (σ:=σ) (nx0:=σ.nx) (e:=es) (N:=ops.size) (L:=fun j=>bH ws j&&(listed.getD j false||decide (j<n))) (i:=n) (by simp[hl]) hck.dst hfz ops.size (Nat.le_refl _) (by omega)
    rw[he,St.add_plain,hdst]at h3;have h4:=h2.Hv h3.symm
    rw[cN (L':=fun j=>(bH ws j&&(listed.getD j false||decide (j<n)))||j==n) ops.size (fun j _=>?_)]
    ·exact h4
    by_cases hjn:j=n
    ·subst hjn;simp[hR]
    have e1:decide (j<n+1)=decide (j<n):=by simp;omega
    have e2:(j==n)=false:=by simpa using hjn
    rw[e1,e2,Bool.or_false]
   cases hd:o.dst with
   |none=>exact hu
   |some d=>
    refine⟨hu.defers,by rw[hu.size];simp[Act.put],fun t ht=>?_⟩;rw[mC,if_neg,hu.tmps t ht];rintro⟨rfl,_⟩;exact ht ⟨n,by omega,hR,hl,by rw[hdst,hd]⟩
  refine⟨a',⟨ρ,?_⟩,hu⟩
  rw[cN (L':=fun j=>bH ws j&&(listed.getD j false||decide (j<n))) ops.size (fun j _=>?_)]
  ·exact h1
  by_cases hjn:j=n
  ·subst hjn
   cases hR:bH ws j with
   |false=>rfl
   |true=>
    have:listed.getD j false=true:=by
     cases hl:listed.getD j false with
     |true=>rfl
     |false=>exact absurd ⟨hR,hl⟩ hc
    rw[this];rfl
  have e1:decide (j<n+1)=decide (j<n):=by simp;omega
  rw[e1]
theorem kT {L:Nat→Bool}(h:∀j,j<ops.size→bH ws j=true→L j=true):aK σ σ.nx ops es (fun j=>bH ws j&&L j) ops.size=aK σ σ.nx ops es (bH ws) ops.size:=
 cN ops.size fun j hj=>by
  cases hR:bH ws j with
  |false=>rfl
  |true=>rw[h j hj hR];rfl
theorem LK {ex:Option Nat}{F:Prop}{G:Ctx}{Q:Exit→Act→World→Prop}(hP:∀ch a a' w,Q (.panic ch) a w→Q (.panic ch) a' w){fuel:Nat}{listed:Array Bool}{a:Act}{w:World}(hsize:listed.size=ops.size)(hdn:∀i,listed.getD i false=true→∀p∈cX ops i,listed.getD p false=true)
  {i:Nat} (his:i<ops.size) (hp:∀p∈cX ops i,listed.getD p false=true) (hiW:bH ws i=false) {pre:List Nat} {sub:WL} {pdi:List Nat} {s:St} {a':Act} (h1:∀j,j<ops.size→bH ws j=false→(listed.getD j false=true↔j∈pre)) (hpl:∀k∈pre,listed.getD k false=true)
  (hwok:Ob ops ws ex pre i pdi sub) (h6:Ck P ops i pdi s (fun s'=>lN P ops sub s' K)) (h8:oz G s a' w) (h9:RU (hid ops ws listed) a a') (hexl:∀q,ex=some q→listed.getD q false=true)
  (ih:∀a w,n9 P G ops ws ex F σ es K (listed.setIfInBounds i true) a w→wpAny P .any ops Q fuel (listed.setIfInBounds i true) a w):wpOp P ops Q i (wpAny P .any ops Q fuel (listed.setIfInBounds i true)) a w:=by
 have ho:=Array.getElem?_eq_getElem his;have hlt:i<listed.size:=by rw[hsize];exact his
 have hdown':∀j,(listed.setIfInBounds i true).getD j false=true→∀p∈cX ops j,(listed.setIfInBounds i true).getD p false=true:=by
  intro j hj p hpj;rw[aU hlt]at hj⊢
  rcases Bool.or_eq_true_iff.1 hj with hj|hj
  ·rw[hdn j hj p hpj];rfl
  have:j=i:=by simpa using hj
  subst this;rw[hp p hpj];rfl
 have hclos:∀j,eR ops ops.size i j=true→listed.getD j false=true:=fun j hj=>fm hdn _ i j hp hj;obtain⟨o,ho',hg,hns,hop⟩:=hwok.op;rw[ho]at ho';obtain rfl:=Option.some.inj ho';obtain⟨o2,ho2,hdl,hwe⟩:=h6;rw[ho]at ho2;obtain rfl:=Option.some.inj ho2;have hpend:∀j,j<ops.size→bH ws j=true→listed.getD j false=false→j∈pdi:=fun j hj hjR hjl=>by
  rcases hwok.all j hj hjR with k|ke|⟨k0,hk0,k⟩
  ·exact k
  ·rw[hexl j ke]at hjl;cases hjl
  rcases List.mem_cons.1 hk0 with rfl|hk0
  ·rw[hclos j k]at hjl;cases hjl
  rw[fm hdn _ k0 j (hdn k0 (hpl k0 hk0)) k]at hjl;cases hjl
 unfold wpOp;simp only[ho];rw[ic hg,if_pos rfl];refine .inl (h9.wp hns (fun t ht hh=>?_) hP ?_ (hwe G a' w h8 Q (fun b' w'=>∃s',(Promise P ops s' pdi∧lN P ops sub s' K)∧oz G s' b' w') fun s' b' w' k1 k2=>⟨s',k1,k2⟩))
 ·obtain⟨j,hj,hjR,hjl,hjd⟩:=hh;obtain⟨oj,d,_,k1,_,k2,k3⟩:=hop j (hpend j hj hjR hjl)
  have:br ops j=some d:=by unfold br;rw[k1];exact k2
  rw[this]at hjd;obtain rfl:=Option.some.inj hjd;exact k3 ht
 rintro b b' w' hru ⟨s',⟨k1,k2⟩,k3⟩;refine ih _ _ ⟨by simpa using hsize,hdown',.inr ⟨i::pre,sub,pdi,s',b',fun j hj hjR=>?_,fun k hk=>?_,hwok.sub,⟨hwok.cov,fun q hq=>by rw[aU hlt,hexl q hq];rfl⟩,fun j hj hjR hjl=>?_,k2,k1,k3,⟨hru.defers,hru.size,fun t ht=>hru.tmps t fun hh=>ht ?_⟩⟩⟩
 ·rw[aU hlt,Bool.or_eq_true,h1 j hj hjR,List.mem_cons,beq_iff_eq]
  constructor
  ·rintro(k|k)
   ·exact .inr k
   exact .inl k
  rintro(k|k)
  ·exact .inr k
  exact .inl k
 ·rw[aU hlt,Bool.or_eq_true,beq_iff_eq]
  rcases List.mem_cons.1 hk with hk|hk
  ·exact .inr hk
  exact .inl (hpl k hk)
 ·rw[aU hlt]at hjl;simp only[Bool.or_eq_false_iff]at hjl;exact hpend j hj hjR hjl.1
 obtain⟨j,hj,hjR,hjl,hjd⟩:=hh;refine⟨j,hj,hjR,?_,hjd⟩;rw[aU hlt,hjl,Bool.false_or,beq_eq_false_iff_ne];intro e;rw[e,hiW]at hjR;cases hjR
theorem lE {ex:Option Nat}{F:Prop}(hck:N1 ops ws)(hcov:F→j8 ops ws [] ws=true)(hgw:F→lS ops ws ex [] ws=true)(hfz:∀j,∀b∈(es j).fz,b<σ.nx)
  (hstep:F→∀(i:Nat) o,bH ws i=true→ops[i]? =some o→kQ P ops σ.nx i o (aK σ σ.nx ops es (bH ws) i) (es i))
  (hW:F→lN P ops ws (sR σ ops es ws) K)
  {G:Ctx} {Q:Exit→Act→World→Prop} (hsw:F→∀q,ex=some q→∀(fuel:Nat) (listed:Array Bool) (a:Act) (w:World) (i:Nat),n9 P G ops ws ex F σ es K listed a w→(∀j,listed.getD j false=true→bH ws j=true)→
   uF G (fun b=>b<σ.nx∨∃j,j<ops.size∧listed.getD j false=true∧b=σ.nx+j) (aK σ σ.nx ops es (fun j=>bH ws j&&listed.getD j false) ops.size) a w→listed.getD q false=false→
   i∈Region.ready .any ops listed→iR ws i=true→iF ops listed≤fuel+1→wpOp P ops Q i (wpAny P .any ops Q fuel (listed.setIfInBounds i true)) a w) (hQ:∀s a w,K s→oz G s a w→Q .normal a w) (hP:∀ch a a' w,Q (.panic ch) a w→Q (.panic ch) a' w):
  ∀(fuel:Nat) (listed:Array Bool) (a:Act) (w:World),n9 P G ops ws ex F σ es K listed a w→iF ops listed≤fuel→wpAny P .any ops Q fuel listed a w:=by
 have hend:∀(listed:Array Bool) (a:Act) (w:World),n9 P G ops ws ex F σ es K listed a w→(∀j,j<ops.size→listed.getD j false=true)→Q .normal a w:=by
  intro listed a w h hall
  rcases h.where_ with⟨hF,hR,ρ,hsim⟩|⟨pre,rest,pd,s,a',h1,h2,h3,h4,h5,h6,h7,h8,h9⟩
  ·have hW:=hW hF;have hno:∀i,i<ops.size→iR ws i=false:=fun i hi=>by
    have:=hR i (hall i hi)
    simpa[bH]using this
   cases hws:ws with
   |nil=>
    rw[hws]at hW hsim;refine hQ _ a w hW ⟨ρ,?_⟩;rw[kT (fun j hj _=>hall j hj)]at hsim
    have h10:=hsim.cQ (dom':=fun b=>b<σ.nx+ops.size) (fun b hb=>by rcases hb with hb|⟨j,hj,_,rfl⟩<;>omega)
    exact h10.Hv ⟨fun _=>rfl,fun _=>rfl,rfl⟩
   |cons i pd sub alt=>
    exfalso
    have hw:=hgw hF;rw[hws]at hw;obtain⟨o,ho,_⟩:=(ja hw).1.op
    have:=hno i (Array.getElem?_eq_some_iff.1 ho).1
    rw[hws]at this
    simp[iR]at this
   |opt _ _ _ _=>rw[hws]at hW;exact hW.elim
  cases hrest:rest with
  |nil=>
   rw[hrest]at h6;have ha:a=a':=h9.eq fun t ht=>by
    obtain⟨j,hj,_,hl,_⟩:=ht;rw[hall j hj]at hl;cases hl
   subst ha;exact hQ s a w h6 h8
  |opt _ _ _ _=>rw[hrest]at h6;exact h6.elim
  |cons i pd' sub alt=>
   exfalso
   rw[hrest]at h3;have h11:=h3;simp only[lS,Bool.and_eq_true]at h11;obtain⟨⟨⟨h12,_⟩,_⟩,_⟩:=h11
   cases ho:ops[i]? with
   |none=>rw[ho]at h12;cases h12
   |some o=>
    rw[ho]at h12;simp only[Bool.and_eq_true,Bool.not_eq_true']at h12;obtain⟨⟨⟨⟨⟨_,_⟩,hnp⟩,hwi⟩,_⟩,_⟩:=h12;have his:=(Array.getElem?_eq_some_iff.1 ho).1
    have:=(h1 i his (by simp[bH,hwi])).1 (hall i his)
    simp[this]at hnp
 intro fuel
 induction fuel with
 |zero=>
  intro listed a w h hf;have hall:=rf (Nat.le_zero.1 hf);refine⟨?_,hend listed a w h hall⟩
  cases hr:Region.ready .any ops listed with
  |nil=>rfl
  |cons i l=>
   obtain⟨_,hi,hu⟩:=gY (i:=i) (listed:=listed) (ops:=ops) (by rw[hr];simp);have h1:=hall i hi;have hlt:i<listed.size:=by rw[h.size];exact hi
   simp[Array.getD,hlt]at h1 hu
   rw[h1]at hu;cases hu
 |succ fuel ih=>
  intro listed a w h hf;refine⟨fun hr=>?_,fun i hi=>?_⟩
  ·have hall:∀n i,i<n→i<ops.size→listed.getD i false=true:=by
    intro n
    induction n with
    |zero=>intro i hi;omega
    |succ n ihn=>
     intro i hin his
     by_cases hu:listed.getD i false=true
     ·exact hu
     have hlt:i<listed.size:=by rw[h.size];exact his
     have hu':listed.getD i true=false:=by
      simp[Array.getD,hlt]at hu⊢
      exact hu
     have hm:=mv (ops:=ops) (Array.getElem?_eq_getElem his) hu' (fun p hp=>ihn p (by have:=hck.pred i _ (Array.getElem?_eq_getElem his) p hp;omega) (by have:=hck.pred i _ (Array.getElem?_eq_getElem his) p hp;omega));rw[hr]at hm;cases hm
   exact hend listed a w h (fun j hj=>hall _ j (Nat.lt_succ_self _) hj)
  obtain⟨hp,his,hu⟩:=gY hi;have ho:=Array.getElem?_eq_getElem his;have hcount:=oe h.size his hu;have hlt:i<listed.size:=by rw[h.size];exact his
  have hu':listed.getD i false=false:=by
   simp[Array.getD,hlt]at hu⊢
   exact hu
  have hdown':∀j,(listed.setIfInBounds i true).getD j false=true→∀p∈cX ops j,(listed.setIfInBounds i true).getD p false=true:=by
   intro j hj p hpj;rw[aU hlt]at hj⊢
   rcases Bool.or_eq_true_iff.1 hj with hj|hj
   ·rw[h.down j hj p hpj];rfl
   have:j=i:=by simpa using hj
   subst this;rw[hp p hpj];rfl
  have hclos:∀j,eR ops ops.size i j=true→listed.getD j false=true:=fun j hj=>fm h.down _ i j hp hj
  by_cases hiR:bH ws i=true
  ·rcases h.where_ with⟨hF,hlR,ρ,hsim⟩|⟨pre,rest,pd,s,a',h1,h2,h3,h4,h5,h6,h7,h8,h9⟩
   ·have hst:=hstep hF i ops[i] hiR ho;have hagr:=Oh (σ:=σ) (es:=es) hck ho hiR (L:=fun j=>bH ws j&&listed.getD j false) (fun j hj=>by simp at hj;exact hj.1) (fun p hpp hpR=>by rw[hpR,hp p hpp];rfl);have hstand:∀a' w',uF G (fun b=>(b<σ.nx∨∃j,j<ops.size∧listed.getD j false=true∧b=σ.nx+j)∨b=σ.nx+i) ((aK σ σ.nx ops es (fun j=>bH ws j&&listed.getD j false) ops.size).add (br ops i) (σ.nx+i) (es i)) a' w'→
      n9 P G ops ws ex F σ es K (listed.setIfInBounds i true) a' w':=by
     rintro a' w' ⟨ρ',k1⟩;refine⟨by simpa using h.size,hdown',.inl ⟨hF,fun j hj=>?_,ρ',?_⟩⟩
     ·rw[aU hlt]at hj
      rcases Bool.or_eq_true_iff.1 hj with hj|hj
      ·exact hlR j hj
      have:j=i:=by simpa using hj
      rw[this];exact hiR
     have k2:=k1.cQ (dom':=fun b=>b<σ.nx∨∃j,j<ops.size∧(listed.setIfInBounds i true).getD j false=true∧b=σ.nx+j) (fun b hb=>by
      rcases hb with(hb|⟨j,hj,hlj,rfl⟩)|rfl
      ·exact .inl hb
      ·exact .inr ⟨j,hj,by rw[aU hlt,hlj];rfl,rfl⟩
      exact .inr ⟨i,his,by rw[aU hlt];simp,rfl⟩)
     have k3:=ny (σ:=σ) (nx0:=σ.nx) (e:=es) (N:=ops.size) (L:=fun j=>bH ws j&&listed.getD j false) (i:=i) (by simp[hu']) hck.dst hfz ops.size (Nat.le_refl _) his;have k4:=k2.Hv k3.symm
     rw[cN (L:=fun j=>(bH ws j&&listed.getD j false)||j==i) (L':=fun j=>bH ws j&&(listed.setIfInBounds i true).getD j false) ops.size (fun j _=>by
      rw[aU hlt]
      by_cases hji:j=i
      ·subst hji;simp[hiR]
      have:(j==i)=false:=by simpa using hji
      rw[this,Bool.or_false,Bool.or_false])]at k4
     exact k4
    have hdst:br ops i=ops[i].dst:=by unfold br;rw[ho];rfl
    have hid':¬(σ.nx+i<σ.nx∨∃j,j<ops.size∧listed.getD j false=true∧σ.nx+i=σ.nx+j):=by
     rintro(k1|⟨j,_,hj,he⟩)
     ·omega
     have:i=j:=by omega
     subst this;rw[hu']at hj;cases hj
    unfold wpOp;simp only[ho];obtain⟨hdl,hst⟩:=hst;have doit:bf P ops[i] (aK σ σ.nx ops es (bH ws) i) σ.nx (σ.nx+i) (es i)→ops[i].wp P a w (wpAny P .any ops Q fuel (listed.setIfInBounds i true)) Q:=by
     intro hre;refine hre.1 G _ ρ _ a w hsim hid' hagr Q _ fun v w' k5=>?_;refine ih _ _ _ (hstand _ _ ?_) (by omega);rw[hdst];exact k5
    split at hst
    ·rename_i hg
     rw[ic hg,if_pos rfl];exact .inl (doit hst)
    rename_i g want hg
    obtain⟨t,b,ht,hb,hst⟩:=hst;obtain⟨hgi,hgp,hgR⟩:=hck.guard i _ g want ho hiR hg;have hb':gv (lk (aK σ σ.nx ops es (fun j=>bH ws j&&listed.getD j false) ops.size).env t)=some b:=by
     rw[dr (N:=ops.size) (fun j=>bH ws j&&listed.getD j false) (t:=t) (j:=g) ht (by rw[hgR,hp g hgp];rfl) hck.dst ops.size (Nat.le_refl _) (by omega)];rw[dr (N:=ops.size) (bH ws) (t:=t) (j:=g) ht hgR hck.dst i (by omega) hgi]at hb;exact hb
    rw[nu hsim hg ht hb']
    by_cases hbw:b=some want
    ·rw[if_pos hbw]at hst;rw[if_pos (by simp[hbw])];exact .inl (doit hst)
    rw[if_neg hbw]at hst;rw[if_neg (by simpa using hbw)];refine ih _ _ _ (hstand _ _ ⟨ρ,?_⟩) (by omega);rw[hst,hdst];have k5:=hsim.put (dst:=ops[i].dst) (x:=.aD []) (v:=undef) (fun d hd=>by have:=hdl d hd;rw[fF]at this⊢;exact this) ⟨#[],rfl,trivial⟩;have k6:=k5.cQ (dom':=fun b=>(b<σ.nx∨∃j,j<ops.size∧listed.getD j false=true∧b=σ.nx+j)∨b=σ.nx+i) (fun b hb=>Or.inl hb);unfold eG.skip;rw[St.add_plain];exact k6
   -- one that is late
   have hipd:=h5 i his hiR hu';obtain⟨o,d,ho',hd,hpe,hdn⟩:=h7 i hipd;rw[ho]at ho';obtain rfl:=Option.some.inj ho';obtain⟨ρ,hsim⟩:=h8;have hdst:br ops i=some d:=by unfold br;rw[ho];exact hd
   have hsimH:=hsim.tQ h9;have hagr:iq s (tQ s (hid ops ws listed)) s.nx ops[i]:=by
    refine⟨rfl,fun x hx=>?_,fun b _=>rfl⟩
    cases x with
    |tmp t=>
     have htm:t∈tmpsOf ops[i]:=List.mem_filterMap.2 ⟨.tmp t,by simpa using hx,rfl⟩;refine rI _ _ _ fun hh=>?_;obtain⟨j,hj,hjR,hjl,hjd⟩:=hh;rw[hp j ((hck.data i _ ho hiR t htm j hj hjd).1 hjR).2]at hjl;cases hjl
    |const v=>rfl
    |global g=>rfl
    |func f=>rfl
   have fin:∀v,cC ρ (fun b=>b<s.nx) (aJ G s.own ρ w) w (lk s.env d) v→wpAny P .any ops Q fuel (listed.setIfInBounds i true) (a.put (some d) v) w:=by
    intro v hv;refine ih _ _ _ ?_ (by omega);have hnew:aW G (fun b=>b<s.nx) ρ s (a'.put (some d) v) w:=by
     have k1:=hsim.put (dst:=some d) (x:=lk s.env d) (v:=v) (fun d' hd'=>by obtain rfl:=Option.some.inj hd';exact hdn) hv;refine k1.Hv ⟨fun t=>?_,fun _=>rfl,rfl⟩;rw[Db]
     by_cases ht:some d=some t
     ·obtain rfl:=Option.some.inj ht;rw[if_pos rfl]
     rw[if_neg ht]
    refine⟨by simpa using h.size,hdown',.inr ⟨pre,rest,pd,s,a'.put (some d) v,fun j hj hjR=>?_,fun k hk=>by rw[aU hlt,h2 k hk];rfl,h3,⟨h4.1,fun q hq=>by rw[aU hlt,h4.2 q hq];rfl⟩,fun j hj hjR hjl=>?_,h6,h7,⟨ρ,hnew⟩,?_⟩⟩
    ·rw[←h1 j hj hjR,aU hlt]
     have:(j==i)=false:=by
      rw[beq_eq_false_iff_ne];intro e;rw[e,hiR]at hjR;cases hjR
     rw[this,Bool.or_false]
    ·rw[aU hlt]at hjl;simp only[Bool.or_eq_false_iff]at hjl;exact h5 j hj hjR hjl.1
    refine⟨h9.defers,by simp[Act.put,h9.size],fun t ht=>?_⟩;rw[mC,mC,h9.size]
    split
    ·rfl
    rename_i hne
    by_cases htd:t=d
    ·subst htd;have h10:a'.tmps.size≤t:=Nat.le_of_not_lt fun h11=>hne ⟨rfl,h11⟩;rw[Array.getElem?_eq_none (by rw[h9.size];exact h10),Array.getElem?_eq_none h10]
    refine h9.tmps t fun hh=>ht ?_;obtain⟨j,hj,hjR,hjl,hjd⟩:=hh;refine⟨j,hj,hjR,?_,hjd⟩;rw[aU hlt,hjl,Bool.false_or,beq_eq_false_iff_ne];intro e;subst e;rw[hdst]at hjd;exact htd (Option.some.inj hjd).symm
   unfold wpOp;simp only[ho];unfold GM at hpe
   split at hpe
   ·rename_i hg
    obtain⟨v,hrun,hv⟩:=hpe G _ ρ _ a w hsimH hagr;rw[ic hg,if_pos rfl];refine .inl (Oper.dc hrun ?_);rw[hd];exact fin v hv
   rename_i g want hg
   obtain⟨t,b,ht,hb,hpe⟩:=hpe;obtain⟨hgi,hgp,hgR⟩:=hck.guard i _ g want ho hiR hg;have hb':gv (lk (tQ s (hid ops ws listed)).env t)=some b:=by
    rw[rI _ _ _ ?_]
    ·exact hb
    rintro⟨j,hj,hjR,hjl,hjd⟩
    by_cases hjg:j=g
    ·subst hjg;rw[hp j hgp]at hjl;cases hjl
    exact hck.dst j g t hj (by omega) hjg hjd ht
   rw[nu hsimH hg ht hb']
   by_cases hbw:b=some want
   ·rw[if_pos hbw]at hpe;rw[if_pos (by simp[hbw])];obtain⟨v,hrun,hv⟩:=hpe G _ ρ _ a w hsimH hagr;refine .inl (Oper.dc hrun ?_);rw[hd];exact fin v hv
   rw[if_neg hbw]at hpe;rw[if_neg (by simpa using hbw)];rw[hd];refine fin undef ?_;rw[hpe];exact⟨#[],rfl,trivial⟩
  have hiW:bH ws i=false:=by simpa using hiR
  have hiH:iR ws i=true:=by simpa[bH]using hiW
  by_cases hx:∃q,ex=some q∧listed.getD q false=false
  ·obtain⟨q,hq,hql⟩:=hx
   rcases h.where_ with⟨hF,hlR,hsim⟩|⟨pre,rest,pd,s,a',h1,h2,h3,h4,h5,h6,h7,h8,h9⟩
   ·exact hsw hF q hq fuel listed a w i h hlR hsim hql hi hiH hf
   rw[h4.2 q hq]at hql;cases hql
  have hexl:∀q,ex=some q→listed.getD q false=true:=fun q hq=>by
   cases hl:listed.getD q false with
   |true=>rfl
   |false=>exact absurd ⟨q,hq,hl⟩ hx
  -- where it stands among those that write
  have data:∃(pre:List Nat) (sub:WL) (pdi:List Nat) (s:St) (a':Act),(∀j,j<ops.size→bH ws j=false→(listed.getD j false=true↔j∈pre))∧(∀k∈pre,listed.getD k false=true)∧Ob ops ws ex pre i pdi sub∧
    Ck P ops i pdi s (fun s'=>lN P ops sub s' K)∧oz G s a' w∧RU (hid ops ws listed) a a'∧∀q,ex=some q→listed.getD q false=true:=by
   rcases h.where_ with⟨hF,hlR,hsim⟩|⟨pre,rest,pd,s,a',h1,h2,h3,h4,h5,h6,h7,h8,h9⟩
   ·rcases qY (hcov hF) his hiH with k|k|⟨j,hj,hjw,_,hcl⟩
    ·cases k
    ·obtain⟨pdi,sub,hop,hwok⟩:=nw (hW hF) (hgw hF) k;obtain⟨ρ,hsim⟩:=hsim;obtain⟨a',hs',hu2⟩:=ghost (P:=P) hck hfz (hstep hF) hlR (fun j hj hjR hjl=>by
      rcases hwok.all j hj hjR with kd|ke|⟨k0,hk0,kc⟩
      ·obtain⟨o,_,_,_,hop⟩:=hwok.op;obtain⟨oj,d,_,k1,k2,_⟩:=hop j kd;exact⟨oj,k1,k2⟩
      ·rw[hexl j ke]at hjl;cases hjl
      have hk0:k0=i:=by simpa using hk0
      rw[hk0]at kc;rw[hclos j kc]at hjl;cases hjl) ⟨ρ,hsim⟩ h.down ops.size (Nat.le_refl _)
     refine⟨[],sub,pdi,sR σ ops es ws,a',fun j hj hjR=>?_,fun k hk=>by(cases hk),hwok,hop,?_,hu2,hexl⟩
     ·constructor
      ·intro k;rw[hlR j k]at hjR;cases hjR
      intro k;cases k
     obtain⟨ρ',k1⟩:=hs';rw[kT (fun j hj _=>by simp[hj])]at k1
     have k2:=k1.cQ (dom':=fun b=>b<σ.nx+ops.size) (fun b hb=>by rcases hb with hb|⟨j,hj,_,rfl⟩<;>omega)
     exact⟨ρ',k2.Hv ⟨fun _=>rfl,fun _=>rfl,rfl⟩⟩
    exfalso
    have k2:=hlR j (hclos j hcl)
    simp[bH,hjw]at k2
   rcases qY h4.1 his hiH with k|k|⟨j,hj,hjw,hjp,hcl⟩
   ·exfalso;rw[h2 i k]at hu';cases hu'
   ·obtain⟨pdi,sub,hop,hwok⟩:=nw h6 h3 k;exact⟨pre,sub,pdi,s,a',h1,h2,hwok,hop,h8,h9,h4.2⟩
   exfalso
   exact hjp ((h1 j hj (by simp[bH,hjw])).1 (hclos j hcl))
  obtain⟨pre,sub,pdi,s,a',h1,hpl,hwok,h6,h8,h9,hexl⟩:=data;exact LK hP h.size h.down his hp hiW h1 hpl hwok h6 h8 h9 hexl fun a w hst=>ih _ _ _ hst (by omega)
def Ix:List (Nat×V)→Nat→List (Nat×V)
 |[],_=>[]
 |(t,v)::r,d=>if t=d then Ix r d else(t,v)::Ix r d
def Oo (d id:Nat)(s:St):St:={s with env:=Ix s.env d,own:=del s.own id}
theorem Fs (d t:Nat):∀l:List (Nat×V),lk (Ix l d) t=if t=d then .unk else lk l t
 |[]=>by simp[Ix,lk]
 |(t',v)::r=>by
  have ih:=Fs d t r;simp only[Ix]
  by_cases h:t'=d
  ·rw[if_pos h,ih]
   by_cases h2:t=d
   ·rw[if_pos h2,if_pos h2]
   rw[if_neg h2,if_neg h2,lk,if_neg (fun e=>h2 (e.trans h))]
  rw[if_neg h];simp only[lk]
  by_cases h2:t=t'
  ·subst h2;rw[if_pos rfl,if_neg h,if_pos rfl]
  rw[if_neg h2,if_neg h2,ih]
structure P4 (ops:Array Oper) (q d:Nat) (t1 t2:WL):Prop where
 g1:N1 ops t1
 c1:j8 ops t1 [] t1=true
 w1:lS ops t1 (some q) [] t1=true
 g2:N1 ops t2
 c2:C9 ops t2 q t2=true
 w2:lS ops t2 none [] t2=true
 qs:q<ops.size
 qR:bH t1 q=true
 qd:br ops q=some d
 same:∀j,j<ops.size→iR t2 j=(iR t1 j||j==q)
 rd:∀j o,bH t2 j=true→ops[j]? =some o→d∉tmpsOf o
 al:∃o,ops[q]? =some o∧o.guard=none∧jX o.op=true
theorem Ll {ops:Array Oper}{q d:Nat}{t1 t2:WL}(h:N7 ops (.opt q d t1 t2)=true):P4 ops q d t1 t2:=by
 simp only[N7,Bool.and_eq_true]at h;obtain⟨⟨⟨⟨⟨⟨⟨⟨⟨⟨⟨h1,h2⟩,h3⟩,h4⟩,h5⟩,h6⟩,h7⟩,h8⟩,h9⟩,h10⟩,h11⟩,h12⟩:=h;refine⟨tT h1,h2,h3,tT h4,h5,h6,of_decide_eq_true h7,h8,by simpa using h9,fun j hj=>?_,fun j o hj ho=>?_,?_⟩
 ·have:=List.all_eq_true.1 h10 j (by simpa using hj)
  exact beq_iff_eq.1 this
 ·have hlt:=(Array.getElem?_eq_some_iff.1 ho).1
  have:=List.all_eq_true.1 h11 j (by simpa using hlt)
  rw[hj,ho]at this
  simpa using this
 cases ho:ops[q]? with
 |none=>rw[ho]at h12;cases h12
 |some o=>
  rw[ho]at h12;simp only[Bool.and_eq_true,Option.isNone_iff_eq_none]at h12;exact⟨o,rfl,h12.1,h12.2⟩
theorem x5 {q d:Nat}{t1 t2:WL}(hk:P4 ops q d t1 t2)(hfz:∀j,∀b∈(es j).fz,b<σ.nx)(hqfz:(es q).fz=[])
  (hstep:∀(i:Nat) o,bH t1 i=true→ops[i]? =some o→kQ P ops σ.nx i o (aK σ σ.nx ops es (bH t1) i) (es i))
  (hW1:lN P ops t1 (sR σ ops es t1) K) (hW2:lN P ops t2 (Oo d (σ.nx+q) (sR σ ops es t1)) K)
  {G:Ctx} {Q:Exit→Act→World→Prop} (hQ:∀s a w,K s→oz G s a w→Q .normal a w) (hP:∀ch a a' w,Q (.panic ch) a w→Q (.panic ch) a' w):
  ∀(fuel:Nat) (listed:Array Bool) (a:Act) (w:World),n9 P G ops t1 (some q) True σ es K listed a w→iF ops listed≤fuel→wpAny P .any ops Q fuel listed a w:=by
 have hR2:∀j,j<ops.size→bH t1 j=true→j≠q→bH t2 j=true:=fun j hj h1 hq=>by
  have:(j==q)=false:=by simpa using hq
  simp only[bH,hk.same j hj,this,Bool.or_false];exact h1
 have hR1:∀j,j<ops.size→bH t2 j=true→bH t1 j=true∧j≠q:=fun j hj h2=>by
  simp only[bH,hk.same j hj,Bool.not_eq_true',Bool.or_eq_false_iff]at h2;exact⟨by simp[bH,h2.1],by simpa using h2.2⟩
 have hq2:bH t2 q=false:=by simp[bH,hk.same q hk.qs]
 -- the runs with and without the new variable
 have hacc:∀k,k≤ops.size→(k≤q→aK σ σ.nx ops es (bH t1) k=aK σ σ.nx ops es (bH t2) k)∧(q<k→yJ (aK σ σ.nx ops es (bH t1) k) ((aK σ σ.nx ops es (bH t2) k).add (some d) (σ.nx+q) (es q))):=fun k hkN=>by
  refine⟨fun hkq=>cN k fun j hj=>?_,fun hqk=>?_⟩
  ·have h1:j<ops.size:=by omega
   have h2:(j==q)=false:=by rw[beq_eq_false_iff_ne];omega
   simp only[bH,hk.same j h1,h2,Bool.or_false]
  have h3:=ny (σ:=σ) (nx0:=σ.nx) (e:=es) (N:=ops.size) (L:=bH t2) (i:=q) hq2 hk.g1.dst hfz k hkN hqk;rw[hk.qd]at h3
  rw[cN (L:=bH t1) (L':=fun j=>bH t2 j||j==q) k fun j hj=>?_]
  ·exact h3
  have h1:j<ops.size:=by omega
  by_cases hjq:j=q
  ·subst hjq;rw[hk.qR];simp
  have h2:(j==q)=false:=by simpa using hjq
  simp only[bH,hk.same j h1,h2,Bool.or_false]
 have hlk:∀k,k≤ops.size→∀t,t≠d→lk (aK σ σ.nx ops es (bH t1) k).env t=lk (aK σ σ.nx ops es (bH t2) k).env t:=fun k hkN t ht=>by
  by_cases hkq:k≤q
  ·rw[(hacc k hkN).1 hkq]
  rw[((hacc k hkN).2 (by omega)).env t,jG,if_neg (fun e=>ht (Option.some.inj e).symm)]
 have hagr:∀j o,bH t2 j=true→ops[j]? =some o→∀Z,iq (aK σ σ.nx ops es (bH t2) j) Z σ.nx o→iq (aK σ σ.nx ops es (bH t1) j) Z σ.nx o:=fun j o hj ho Z hZ=>by
  have hjs:=(Array.getElem?_eq_some_iff.1 ho).1;refine⟨by rw[hZ.n,fF,fF],fun x hx=>?_,fun b hb=>by rw[hZ.own b hb,iZ _ j b hb,iZ _ j b hb]⟩;rw[hZ.ev x hx]
  cases x with
  |tmp t=>
   have htm:t∈tmpsOf o:=List.mem_filterMap.2 ⟨.tmp t,by simpa using hx,rfl⟩;exact(hlk j (Nat.le_of_lt hjs) t (fun e=>hk.rd j o hj ho (e▸htm))).symm
  |const v=>rfl
  |global g=>rfl
  |func f=>rfl
 have hre:∀j o e,bH t2 j=true→ops[j]? =some o→bf P o (aK σ σ.nx ops es (bH t1) j) σ.nx (σ.nx+j) e→bf P o (aK σ σ.nx ops es (bH t2) j) σ.nx (σ.nx+j) e:=fun j o e hj ho h=>
  ⟨fun G dom ρ Z a w hs hd hZ=>h.1 G dom ρ Z a w hs hd (hagr j o hj ho Z hZ),fun hl=>⟨(h.2 hl).1,(h.2 hl).2.1,fun G dom ρ Z a w hs hZ=>(h.2 hl).2.2 G dom ρ Z a w hs (hagr j o hj ho Z hZ)⟩⟩
 have hstep2:∀(i:Nat) o,bH t2 i=true→ops[i]? =some o→kQ P ops σ.nx i o (aK σ σ.nx ops es (bH t2) i) (es i):=fun i o hi ho=>by
  have his:=(Array.getElem?_eq_some_iff.1 ho).1;obtain⟨hd,hs⟩:=hstep i o (hR1 i his hi).1 ho;refine⟨fun t ht=>by have:=hd t ht;rw[fF]at this⊢;exact this,?_⟩
  cases hg:o.guard with
  |none=>rw[hg]at hs;exact hre i o _ hi ho hs
  |some gw=>
   obtain⟨g,want⟩:=gw;rw[hg]at hs;obtain⟨t,b,ht,hb,hs⟩:=hs;obtain⟨hgi,hgp,hgR⟩:=hk.g2.guard i o g want ho hi hg;have htd:t≠d:=fun e=>by
    subst e;exact hk.g2.dst g q t (by omega) hk.qs (hR1 g (by omega) hgR).2 ht hk.qd
   refine⟨t,b,ht,by rw[←hlk i (Nat.le_of_lt his) t htd];exact hb,?_⟩
   by_cases hbw:b=some want
   ·rw[if_pos hbw]at hs⊢;exact hre i o _ hi ho hs
   rw[if_neg hbw]at hs⊢;exact hs
 refine lE (ex:=some q) (F:=True) hk.g1 (fun _=>hk.c1) (fun _=>hk.w1) hfz (fun _=>hstep) (fun _=>hW1) (fun _ q' hq' fuel listed a w i h hlR hsim hql hi hiH hf=>?_) hQ hP;obtain rfl:=Option.some.inj hq';obtain⟨hp,his,hu⟩:=gY hi;have hlt:i<listed.size:=by rw[h.size];exact his
 have hiq:i≠q:=fun e=>by subst e;have:=hk.qR;rw[bH,hiH]at this;cases this
 have hiW2:iR t2 i=true:=by rw[hk.same i his,hiH];rfl
 have hlR2:∀j,listed.getD j false=true→bH t2 j=true:=fun j hj=>by
  have hjs:j<ops.size:=by
   rw[←h.size];refine Nat.lt_of_not_le fun hle=>?_
   simp[Array.getD,Nat.not_lt.2 hle]at hj
  refine hR2 j hjs (hlR j hj) fun e=>?_;subst e;rw[hql]at hj;cases hj
 have hclos:∀j,eR ops ops.size i j=true→listed.getD j false=true:=fun j hj=>fm h.down _ i j hp hj;have hnext:rj t2 i=true:=by
  have h1:=List.all_eq_true.1 hk.c2 i (by simpa using his);rw[hiW2]at h1;have h2:(i==q)=false:=by simpa using hiq
  rw[h2]at h1;simp only[Bool.not_true,Bool.false_or,Bool.or_eq_true]at h1
  rcases h1 with h1|h1
  ·exact h1
  obtain⟨j,_,h3⟩:=List.any_eq_true.1 h1;simp only[Bool.and_eq_true]at h3;have h4:=hlR2 j (hclos j h3.2)
  simp[bH,h3.1]at h4
 obtain⟨pdi,sub,hop,hwok⟩:=nw hW2 hk.w2 hnext;have hsim2:uF G (fun b=>b<σ.nx∨∃j,j<ops.size∧listed.getD j false=true∧b=σ.nx+j) (aK σ σ.nx ops es (fun j=>bH t2 j&&listed.getD j false) ops.size) a w:=by
  rw[cN (L:=fun j=>bH t2 j&&listed.getD j false) (L':=fun j=>bH t1 j&&listed.getD j false) ops.size fun j hj=>?_]
  ·exact hsim
  cases hl:listed.getD j false with
  |false=>simp
  |true=>rw[hlR2 j hl,hlR j hl]
 obtain⟨a',hs',hu2⟩:=ghost (P:=P) hk.g2 hfz hstep2 hlR2 (fun j hj hjR hjl=>by
  rcases hwok.all j hj hjR with kd|ke|⟨k0,hk0,kc⟩
  ·obtain⟨o,_,_,_,hop⟩:=hwok.op;obtain⟨oj,d',_,k1,k2,_⟩:=hop j kd;exact⟨oj,k1,k2⟩
  ·cases ke
  have hk0:k0=i:=by simpa using hk0
  rw[hk0]at kc;rw[hclos j kc]at hjl;cases hjl) hsim2 h.down ops.size (Nat.le_refl _)
 obtain⟨ρ',k1⟩:=hs';rw[kT (ws:=t2) (fun j hj _=>by simp[hj])]at k1
 have k2:=k1.cQ (dom':=fun b=>b<σ.nx+ops.size) (fun b hb=>by rcases hb with hb|⟨j,hj,_,rfl⟩<;>omega)
 have hnone:lo (aK σ σ.nx ops es (bH t2) ops.size).own (σ.nx+q)=none:=by
  cases hB:lo (aK σ σ.nx ops es (bH t2) ops.size).own (σ.nx+q)with
  |none=>rfl
  |some B=>
   exfalso
   rcases(k1.own _ _ hB).1 with hd|⟨j,_,hjl,hd⟩
   ·omega
   have:j=q:=by omega
   subst this;rw[hql]at hjl;cases hjl
 -- the state without the new variable
 have halk:=(hacc ops.size (Nat.le_refl _)).2 hk.qs;have k3:aW G (fun b=>b<σ.nx+ops.size) ρ' (tQ (aK σ σ.nx ops es (bH t2) ops.size) (fun t=>t=d)) a' w:=k2.tQ (RU.refl _ _);have k4:oz G (Oo d (σ.nx+q) (sR σ ops es t1)) a' w:=by
  refine⟨ρ',k3.Hv ⟨fun t=>?_,fun b=>?_,?_⟩⟩
  ·show _=lk (Ix (sR σ ops es t1).env d) t;rw[Fs]
   by_cases ht:t=d
   ·rw[if_pos ht,yu _ (fun t=>t=d) _ ht]
   rw[if_neg ht,rI _ (fun t=>t=d) _ ht];exact(hlk ops.size (Nat.le_refl _) t ht).symm
  ·show _=lo (del (sR σ ops es t1).own (σ.nx+q)) b;rw[j3];have h5:=halk.own b;have h6:lo (sR σ ops es t1).own b=lo (aK σ σ.nx ops es (bH t1) ops.size).own b:=rfl;rw[h6,h5,oX,hqfz]
   by_cases hb:b=σ.nx+q
   ·rw[if_pos hb,hb];exact hnone
   rw[if_neg hb];show lo (aK σ σ.nx ops es (bH t2) ops.size).own b=_;have hfi:fW [] b=id:=by funext v;simp[fW]
   cases(es q).uP with
   |none=>simp only[hfi,Option.map_id,id]
   |some B=>simp only[hfi,Option.map_id,id,if_neg hb]
  show(aK σ σ.nx ops es (bH t2) ops.size).n=(aK σ σ.nx ops es (bH t1) ops.size).n
  rw[fF,fF]
 refine LK (ws:=t2) (σ:=σ) (es:=es) (F:=False) (ex:=none) hP h.size h.down his hp (by simp[bH,hiW2]) (pre:=[]) (fun j hj hjR=>?_) (fun k hk=>by cases hk) hwok hop k4 hu2 (fun q hq=>by cases hq) fun a w hst=>?_
 ·constructor
  ·intro k;rw[hlR2 j k]at hjR;cases hjR
  intro k;cases k
 refine lE (ex:=none) (F:=False) hk.g2 (fun h=>h.elim) (fun h=>h.elim) hfz (fun h=>h.elim) (fun h=>h.elim) (fun h=>h.elim) hQ hP fuel _ a w hst ?_
 have:=oe h.size his hu
 omega
end
end Go.Eng
