/-
  EquationEval: for every input the law returns true, and each argument reads afterwards as it read before. No condition beyond the given row's own cells.
  (Text 2 of 10; made by a program out of smaller texts.)
-/
import Derived.Test.YtgalhjhdgkoemaaGreatP1
set_option linter.unusedSimpArgs false
set_option linter.unusedVariables false
set_option maxHeartbeats 16000000
set_option maxRecDepth 10000
open Nat renaming reduceAdd→J1,reduceMul→J2,reduceSub→J3,reduceEqDiff→J4,reduceLT→J5,reduceLeDiff→J6,reduceBEq→J7,reduceDiv→J8,reduceMod→J9,reducePow→J0
open Int renaming reduceToNat→K1,reduceLE→K2,reduceLT→K3,reduceEq→K4,reducePow→K5,reduceSub→K6,reduceNeg→K7,natCast_add→X2,natCast_one→X3,natCast_zero→X4
open List renaming getD_cons_zero→X0,getD_cons_succ→X1,length_take→X5,length_append→X6,getD_eq_getElem?_getD→X7,getElem?_eq_getElem→X8
/-
  THE ENGINE, PART O: append, put together.
-/
namespace Go.Eng
open Go
def jW (wd:Nat):C→Option (Nat×(Nat→Nat→C))
 |.nil=>some (0,fun _ _=>.any)
 |.rows w n f=>if w=wd then some (n,f)else none
 |_=>none
def AB (own:List (Nat×gI))(wd:Nat):C→Option (List (Nat×gI))
 |.nil=>some own
 |.own b w _ _=>if w=wd then(match lo own b with
  |some B=>if B.rw then some (del own b)else none
  |none=>none)else none
 |_=>none
def pq (T:fP)(s:St)(dst:Option Tmp)(t:TypeId)(x y:Operand)(K:St→Prop):Prop:=
 match dst with
 |none=>False
 |some d=>
       match T t with
  |some S=>
        match S.k with
   |.sl e=>match T e with
    |some E=>
          match s.ev x,s.ev y with
     |.one cx,.one cy=>match AB s.own E.size cx with
      |some own0=>match E.k with
       |.int k=>match iI k (oR s.own s.nx cx),iI k (oR s.own s.nx cy)with
        |some xs,some ys=>E.zero.length=E.size∧E.size=1∧((xs.length+ys.length)*E.bytes≤140737488355328∧xs.length+ys.length≤9223372036854775807)∧
          K {env:=(d,.one (.own s.nx 1 0 (xs++ys).length))::s.env,own:=iX own0 s.nx ⟨.ints e k (xs++ys),true⟩,nx:=s.nx+1,n:=s.n}
        |_,_=>False
       |_=>match jW E.size (oR s.own s.nx cx),jW E.size (oR s.own s.nx cy)with
        |some (n,f),some (m,g)=>E.zero.length=E.size∧0<E.size∧((n+m)*E.bytes≤140737488355328∧n+m≤9223372036854775807)∧
          K {env:=(d,.one (.own s.nx E.size 0 (n+m)))::s.env,own:=iX own0 s.nx ⟨.rows e E.size (n+m) (fun i j=>if i<n then f i j else g (i-n) j),true⟩,nx:=s.nx+1,n:=s.n}
        |_,_=>False
      |none=>False
     |_,_=>False
    |none=>False
   |_=>False
  |none=>False
section
variable {G:Ctx}{dom:Nat→Prop}{ρ:Nat→Loc}{s:St}{a:Act}{w:World}
theorem wL (hs:a7 G dom ρ s a w){b wd off len:Nat}{B:gI}{v:Value}(hl:lo s.own b=some B)(hw:Ly B.bk=wd)(hr:aW ρ dom (aQ G s.own ρ w) w (.own b wd off len) v):
  ∃ad cap us,v= .slice ad len cap∧Cells (aQ G s.own ρ w) w wd len (fun i j=>oc B.bk (off+i) j) ad us:=by
 obtain⟨_,hlen,hrep,_⟩:=hs.own b B hl;obtain⟨_,hle,cap,hc,hr⟩:=hr
 rcases hr with⟨g,o,o',haddr,rfl,ho,_⟩|⟨_,rfl,rfl,_⟩
 ·by_cases h0:len=0
  ·subst h0;exact⟨_,cap,[],rfl,jb⟩
  unfold aT at hrep;rw[haddr]at hrep;obtain⟨cur,e,hg,hcell⟩:=hrep
  have ho':o'=o+off*wd:=by rcases ho with ho|ho<;>omega
  rw[hlen]at hle;obtain⟨us,hus⟩:=uQ (ok:=aQ G s.own ρ w) (w:=w) (wd:=wd) (n:=len) (g:=g) (o:=o') (f:=fun i j=>oc B.bk (off+i) j) (fun i j hi hj=>by
   rw[cell_of_row w g _ cur e (0,0) hg,ho']
   cases hB:B.bk with
   |var cs=>rw[hB]at hw;simp only[Ly]at hw;omega
   |ints e' k xs=>
    rw[hB]at hcell hw hle;simp only[Ly]at hw;subst hw;simp only[Bk.len]at hle;have hx:off+i<xs.length:=by omega
    obtain⟨u,hu',hr⟩:=hcell (off+i) (.int k (xs.getD (off+i) 0)) (by simp[Bk.cell,X8 hx]);exact⟨u,by rw[show o+off*1+(i*1+j)=o+(off+i) by omega];exact hu',hr⟩
   |rows e' wd' n' f=>
    rw[hB]at hcell hw hle;simp only[Ly]at hw;subst hw;simp only[Bk.len]at hle;have hlt:(off+i)*wd'+j<n'*wd':=by
     have:(off+i+1)*wd'≤n'*wd':=Nat.mul_le_mul_right _ (by omega)
     rw[Nat.add_mul (off+i)]at this;omega
    obtain⟨u,hu',hr⟩:=hcell ((off+i)*wd'+j) (f (off+i) j) (by
     simp only[Bk.cell,if_pos hlt];rw[Nat.mul_comm (off+i) wd',Nat.mul_add_div (by omega),Nat.div_eq_of_lt hj,Nat.mul_add_mod,Nat.mod_eq_of_lt hj];simp)
    exact⟨u,by rw[show o+off*wd'+(i*wd'+j)=o+((off+i)*wd'+j) by rw[Nat.add_mul];omega];exact hu',hr⟩)
  exact⟨_,cap,us,rfl,hus⟩
 exact⟨none,0,[],rfl,jb⟩
theorem Cells.congr {ok:Nat→Prop}{wd n:Nat}{f g:Nat→Nat→C}{ad:Option Addr}{us:List Value}(h:Cells ok w wd n f ad us)(he:∀i j,i<n→j<wd→f i j=g i j):Cells ok w wd n g ad us:=
 ⟨h.len,h.at_,h.one,fun i j hi hj=>by rw[←he i j hi hj];exact h.rep i j hi hj⟩
theorem zM (own:List (Nat×gI))(nx b off:Nat)(k:IntKind)(wd:Nat):iI k (oR own nx (.ptr b off))=none∧jW wd (oR own nx (.ptr b off))=none:=by
 simp only[oR]
 split
 ·cases lo own b with
  |none=>exact⟨rfl,rfl⟩
  |some B=>obtain⟨B,r⟩:=B;cases B<;>exact ⟨rfl,rfl⟩
 exact⟨rfl,rfl⟩
theorem Ag (hs:a7 G dom ρ s a w)(hdom:∀b,dom b→b<s.nx){c:C}{v:Value}(hr:aW ρ dom (aQ G s.own ρ w) w c v){k:IntKind}{xs:List Int}(hx:iI k (oR s.own s.nx c)=some xs):
  ∃ad cap us,v= .slice ad xs.length cap∧Cells (aQ G s.own ρ w) w 1 xs.length (fun i _=>.int k (xs.getD i 0)) ad us:=by
 cases c with
 |own b wd off len=>
  have hb:=hdom b hr.1;simp only[oR,if_pos hb]at hx
  cases hl:lo s.own b with
  |none=>rw[hl]at hx;simp[iI]at hx
  |some B=>
   rw[hl]at hx;simp only at hx
   cases hB:B.bk with
   |var cs=>rw[hB]at hx;simp[jL,iI]at hx
   |rows e w' n f=>rw[hB]at hx;simp only[jL]at hx;split at hx<;>simp [iI]at hx
   |ints e k' ys=>
    rw[hB]at hx;simp only[jL]at hx
    split at hx
    ·rename_i hwd
     subst hwd;simp only[iI]at hx
     split at hx
     ·rename_i hk
      subst hk;simp only[Option.some.injEq]at hx;obtain⟨ad,cap,us,hv,hc⟩:=wL hs hl (by rw[hB];rfl) hr;obtain⟨_,hlen,_,_⟩:=hs.own b B hl;have hle:=hr.2.1;rw[hlen,hB]at hle;simp only[Bk.len]at hle;have hxl:xs.length=len:=by rw[←hx];simp;omega
      refine⟨ad,cap,us,by rw[hxl];exact hv,?_⟩;rw[hxl];refine hc.congr fun i j hi hj=>?_;simp only[hB,oc,←hx,X7,List.getElem?_take,List.getElem?_drop];rw[if_pos hi]
     cases hx
    simp[iI]at hx
 |nil=>exact(pZ (c:=.nil) hr).1 k xs hx
 |ints k' ys=>exact(pZ (c:=.ints k' ys) hr).1 k xs hx
 |fn f n caps=>simp only[oR]at hx;split at hx<;>simp [iI]at hx
 |ptr b off=>rw[(zM s.own s.nx b off k 0).1]at hx;cases hx
 |_=>simp[oR,iI]at hx
theorem yD (hs:a7 G dom ρ s a w)(hdom:∀b,dom b→b<s.nx){c:C}{v:Value}(hr:aW ρ dom (aQ G s.own ρ w) w c v){wd n:Nat}{f:Nat→Nat→C}(hx:jW wd (oR s.own s.nx c)=some (n,f)):
  ∃ad cap us,v= .slice ad n cap∧Cells (aQ G s.own ρ w) w wd n f ad us:=by
 cases c with
 |own b wd' off len=>
  have hb:=hdom b hr.1;simp only[oR,if_pos hb]at hx
  cases hl:lo s.own b with
  |none=>rw[hl]at hx;simp[jW]at hx
  |some B=>
   rw[hl]at hx;simp only at hx
   cases hB:B.bk with
   |var cs=>rw[hB]at hx;simp[jL,jW]at hx
   |ints e k' ys=>rw[hB]at hx;simp only[jL]at hx;split at hx<;>simp [jW]at hx
   |rows e w' n' f'=>
    rw[hB]at hx;simp only[jL]at hx
    split at hx
    ·rename_i hwd
     subst hwd;simp only[jW]at hx
     split at hx
     ·rename_i hww
      subst hww;simp only[Option.some.injEq,Prod.mk.injEq]at hx;obtain⟨rfl,rfl⟩:=hx;obtain⟨ad,cap,us,hv,hc⟩:=wL hs hl (by rw[hB];rfl) hr;refine⟨ad,cap,us,hv,hc.congr fun i j hi hj=>by rw[hB];rfl⟩
     cases hx
    simp[jW]at hx
 |nil=>
  simp only[oR,jW,Option.some.injEq,Prod.mk.injEq]at hx;exact(pZ (c:=.nil) hr).2 wd n f hx.1.symm
 |rows w' n' f'=>
  simp only[oR,jW]at hx
  split at hx
  ·rename_i hw
   simp only[Option.some.injEq,Prod.mk.injEq]at hx;exact(pZ (c:=.rows w' n' f') hr).2 wd n f ⟨hw,hx.1,hx.2⟩
  cases hx
 |fn f n caps=>simp only[oR]at hx;split at hx<;>simp [jW]at hx
 |ptr b off=>rw[(zM s.own s.nx b off .i64 wd).2]at hx;cases hx
 |_=>simp[oR,jW]at hx
theorem a7.del (h:a7 G dom ρ s a w)(b:Nat):a7 G dom ρ {s with own:=Eng.del s.own b} a w:=by
 have hext:Ext (aQ G s.own ρ w) (aQ G (Eng.del s.own b) ρ w) w w:=Ext.dG fun g hg=>⟨hg.1,hg.2.1,fun b2 B2 hl2 hrw=>by
  rw[ka]at hl2
  split at hl2
  ·cases hl2
  exact hg.2.2 b2 B2 hl2 hrw⟩
 have hs:jH dom dom ρ ρ:=⟨fun _ h=>h,fun _ _=>rfl⟩;refine h.vg hext hs (fun b2 B2 hl2=>?_) (fun b2 B2 b3 B3 hl2 hl3=>?_) rfl rfl rfl (Nat.le_refl _) (fun _ _ _=>rfl)
 ·rw[ka]at hl2
  split at hl2
  ·cases hl2
  obtain⟨h1,h2,h3,h4⟩:=h.own b2 B2 hl2;exact⟨h1,h2,aT.ext hext hs _ _ (fun _ _ _=>rfl) h3,h4⟩
 rw[ka]at hl2 hl3
 split at hl2
 ·cases hl2
 split at hl3
 ·cases hl3
 exact h.inj b2 B2 b3 B3 hl2 hl3
theorem a7.Dl (h:a7 G dom ρ s a w){id:Nat}(hid:¬dom id)(B:Bk)(hB:∀j,B.cell j=none)(hlen:B.len=0):
  a7 G (fun b=>dom b∨b=id) (cM ρ id ⟨none,0⟩) {s with own:=iX s.own id ⟨B,true⟩} a w:=by
 have hs:=jH.cM ρ ⟨none,0⟩ hid;have hext:Ext (aQ G s.own ρ w) (aQ G (iX s.own id ⟨B,true⟩) (Eng.cM ρ id ⟨none,0⟩) w) w w:=Ext.dG fun g hg=>⟨hg.1,hg.2.1,fun b2 B2 hl2 hrw o=>by
  rw[dk]at hl2
  by_cases hbi:b2=id
  ·subst hbi;rw[oE];simp
  rw[if_neg hbi]at hl2;rw[bt _ _ hbi];exact hg.2.2 b2 B2 hl2 hrw o⟩
 refine h.vg hext hs (fun b2 B2 hl2=>?_) (fun b2 B2 b3 B3 hl2 hl3 hne hrw g o o' ha=>?_) rfl rfl rfl (Nat.le_refl _) (fun _ _ _=>rfl)
 ·rw[dk]at hl2
  by_cases hbi:b2=id
  ·subst hbi;rw[if_pos rfl]at hl2;obtain rfl:=Option.some.inj hl2;rw[oE];exact⟨.inr rfl,hlen.symm,hB,fun g o ha=>by cases ha⟩
  rw[if_neg hbi]at hl2;rw[bt _ _ hbi];obtain⟨h1,h2,h3,h4⟩:=h.own b2 B2 hl2;exact⟨.inl h1,h2,aT.ext hext hs _ _ (fun _ _ _=>rfl) h3,h4⟩
 rw[dk]at hl2 hl3
 by_cases hbi:b2=id
 ·subst hbi;rw[oE]at ha;cases ha
 rw[if_neg hbi]at hl2;rw[bt _ _ hbi]at ha
 by_cases hbi':b3=id
 ·subst hbi';rw[oE];simp
 rw[if_neg hbi']at hl3;rw[bt _ _ hbi'];exact h.inj b2 B2 b3 B3 hl2 hl3 hne hrw g o o' ha
theorem a7.drew (h:a7 G dom ρ s a w):a7 G dom ρ s a w.drew:=h.grown ((Go.RowKit.Below.refl _ _).drew)
end
theorem sf {P:Program}{w:World}{t ty e:TypeId}{i:TypeInfo}(ht:P.underlying t=some (.slice e))(hi:P.info? e=some i)(b:Option Addr)(n cap:Nat)(a:Option Addr)(c:Nat)(h:n≤cap):
  (Builtin.append_ #[t,t] ty #[.slice b n cap,.slice a 0 c]).run P w= .ok (.slice b n cap) w:=by
 have hf:=eN (P:=P) (w:=w) i.size 0 a 0 c [] (by simp) (.inl rfl)
 cases b<;>simp [Builtin.append_,Go.run_underlying ht,sizeOf,typeInfo,hi,Builtin.lenOf,hf,h,storeCells]
section
variable {P:Program}{T:fP}{o:Oper}{s:St}{K:St→Prop}
theorem ye {P:Program}{t t' e e':TypeId}(ht:P.underlying t=some (.slice e))(ht':P.underlying t'=some (.slice e'))(ty:TypeId)(u v:Value)(w:World):
  (Builtin.append_ #[t,t'] ty #[u,v]).run P w=(Builtin.append_ #[t,t] ty #[u,v]).run P w:=by
 simp only[Builtin.append_,List.getElem?_toArray,List.getElem?_cons_zero,List.getElem?_cons_succ,Sem.run_bind,av ht,av ht',Result.andThen_ok,Sem.run_pure]
 cases u<;>simp only[Sem.run_bind,av ht,av ht',Result.andThen_ok,Sem.run_pure]
theorem o8 {d:Tmp}(hd:o.dst=some d)(hdn:d<s.n){c:Call}(ho:o.op= .call c)(hcal:c.callee= .builtin .append){x y:Operand}(hargs:c.args= #[x,y]){t t':TypeId}(htys:c.argTypes= #[t,t']){e':TypeId}(ht':P.underlying t'=some (.slice e'))
  {e:TypeId} {ei:TypeInfo} {ez:Value} (ht:P.underlying t=some (.slice e)) (hei:P.info? e=some ei) (hez:ei.zero=some ez) (hzs:ez.cells.size=ei.size)
  {cx:C} (hx:s.ev x= .one cx) {wd:Nat} (hwd:wd=ei.size) (hpos:0<wd) {own0:List (Nat×gI)} (hbase:AB s.own wd cx=some own0)
  {n m:Nat} {f0 f1:Nat→Nat→C} (B':Bk) (hBv:∀cs,B'≠ .var cs) (hBl:B'.len=n+m)
  (hB':∀j c,B'.cell j=some c→j<(n+m)*wd∧c=if j/wd<n then f0 (j/wd) (j%wd)else f1 (j/wd-n) (j%wd))
  (hb:(n+m)*ei.bytes≤140737488355328) (h63:n+m≤9223372036854775807)
  (hcx:∀G ρ a w,a7 G (fun b=>b<s.nx) ρ s a w→∃ad cap us,a.eval x= .slice ad n cap∧Cells (aQ G s.own ρ w) w wd n f0 ad us)
  (hcy:∀G ρ a w,a7 G (fun b=>b<s.nx) ρ s a w→∃ad cap us,a.eval y= .slice ad m cap∧Cells (aQ G s.own ρ w) w wd m f1 ad us)
  (hK:K {env:=(d,.one (.own s.nx wd 0 (n+m)))::s.env,own:=iX own0 s.nx ⟨B',true⟩,nx:=s.nx+1,n:=s.n}):nN P o s K:=by
 subst hwd;intro G a w hsim Q next hk;obtain⟨ρ,hs⟩:=hsim;obtain⟨ad0,cap0,us0,hv0,hc0⟩:=hcx G ρ a w hs;obtain⟨ad1,cap1,us1,hv1,hc1⟩:=hcy G ρ a w hs;have hid:¬(s.nx<s.nx):=Nat.lt_irrefl _;have hexec:∀(v:Value) (w':World),(Builtin.append_ #[t,t] o.type #[a.eval x,a.eval y]).run P w= .ok v w'→(execOp a.eval o).run P w= .ok (.value v) w':=by
  intro v w' hr;unfold execOp;rw[ho];simp only[resolve,hcal,Sem.run_bind,Sem.run_pure,Result.andThen_ok,invoke,Go.builtin,hargs,htys];rw[show Array.map a.eval #[x,y]= #[a.eval x,a.eval y] by simp,ye ht ht',hr];rfl
 -- from the block's state to the whole
 have fin:∀(v:Value) (w':World) (ρ':Nat→Loc),(execOp a.eval o).run P w= .ok (.value v) w'→
   a7 G (fun b=>b<s.nx∨b=s.nx) ρ' {s with own:=iX own0 s.nx ⟨B',true⟩} a w'→aW ρ' (fun b=>b<s.nx∨b=s.nx) (aQ G (iX own0 s.nx ⟨B',true⟩) ρ' w') w' (.own s.nx ei.size 0 (n+m)) v→o.wp P a w next Q:=by
  intro v w' ρ' hr h1 h2;refine Oper.dN hr (hk _ _ _ hK ⟨ρ',?_⟩);rw[hd];have h3:=h1.put (dst:=some d) (x:=.one (.own s.nx ei.size 0 (n+m))) (v:=v) (fun d' hh=>by cases hh;exact hdn) h2
  have h4:=h3.cQ (dom':=fun b=>b<s.nx+1) (fun b hb=>by rcases hb with hb|hb<;>omega)
  exact{hd:=h4.hd,hn:=h4.hn,env:=h4.env,own:=h4.own,inj:=h4.inj,os:=h4.os,tape:=h4.tape,output:=h4.output,size:=h4.size,keep:=h4.keep,wf:=h4.wf,home:=h4.home,room:=h4.room}
 -- a new row
 have cellAt:∀(pre:List Value),pre=us0++us1→∀j c,B'.cell j=some c→∃u,pre[j]? =some u∧aM (aQ G s.own ρ w) w c u:=by
  intro pre hpre j c hj;obtain⟨hlt,rfl⟩:=hB' j c hj;have hdm:j/ei.size*ei.size+j%ei.size=j:=by rw[Nat.mul_comm];exact Nat.div_add_mod j ei.size
  have hml:j%ei.size<ei.size:=Nat.mod_lt _ hpos;have hdl:j/ei.size<n+m:=(Nat.div_lt_iff_lt_mul hpos).2 hlt;have hl0:=hc0.len
  by_cases hn:j/ei.size<n
  ·rw[if_pos hn];obtain⟨u,hu,hr⟩:=hc0.rep _ _ hn hml;rw[hdm]at hu;refine⟨u,?_,hr⟩;have hju:=(List.getElem?_eq_some_iff.1 hu).1;rw[hpre,List.getElem?_append_left hju];exact hu
  rw[if_neg hn];obtain⟨u,hu,hr⟩:=hc1.rep (j/ei.size-n) _ (by omega) hml;refine⟨u,?_,hr⟩;have hge:n*ei.size≤j:=by
   have:n*ei.size≤j/ei.size*ei.size:=Nat.mul_le_mul_right _ (by omega)
   omega
  rw[hpre,List.getElem?_append_right (by omega),hl0,←hu]
  congr 1
  have hmul:n*ei.size≤j/ei.size*ei.size:=Nat.mul_le_mul_right _ (by omega);rw[Nat.sub_mul,←Nat.sub_add_comm hmul,hdm]
 have hzz:(us0.toArray++us1.toArray).toList=us0++us1:=by simp
 have newRow:cap0<n+m→(own0=s.own∨∃b,own0=Eng.del s.own b)→o.wp P a w next Q:=by
  intro hcap hown;have hr:=tY (ty:=o.type) ht hei hez ad0 n cap0 us0 hc0.len hc0.at_ ad1 m cap1 us1 hc1.len hc1.at_ hcap hb h63;rw[←hv0,←hv1]at hr;have hgc:n+m≤grownCap w (n+m) cap0 e:=grownCap_ge w _ _ _;have h1:a7 G (fun b=>b<s.nx) ρ {s with own:=own0} a w.drew:=by
   rcases hown with rfl|⟨b,rfl⟩
   ·exact hs.drew
   exact hs.drew.del b
  have hokm:∀g,aQ G s.own ρ w g→aQ G own0 ρ w.drew g:=fun g hg=>by
   rcases hown with rfl|⟨b,rfl⟩
   ·exact hg
   exact⟨hg.1,hg.2.1,fun b2 B2 hl2 hrw=>by
    rw[ka]at hl2
    split at hl2
    ·cases hl2
    exact hg.2.2 b2 B2 hl2 hrw⟩
  have hextd:Ext (aQ G s.own ρ w) (aQ G own0 ρ w.drew) w w.drew:=⟨fun g hg=>⟨hokm g hg,rfl⟩,fun _=>Nat.le_refl _⟩;have h2:=h1.B6 hid B' (us0.toArray++us1.toArray++Builtin.zeroCells ez.cells (grownCap w (n+m) cap0 e-(n+m))) e (fun j c hj=>by
   obtain⟨u,hu,hr⟩:=cellAt _ rfl j c hj;refine⟨u,?_,?_⟩
   ·have hju:=(List.getElem?_eq_some_iff.1 hu).1;rw[Array.getElem?_append_left (by simpa using hju)];rw[←Array.getElem?_toList,hzz];exact hu
   have hr':=aM.ext hextd _ _ hr
   cases B' with
   |var cs=>exact absurd rfl (hBv cs)
   |ints e k xs=>exact hr'
   |rows e w n f=>exact hr')
  refine fin _ _ _ (hexec _ _ hr) h2 ⟨.inr rfl,by rw[oE];simp[hBl],grownCap w (n+m) cap0 e,hgc,.inl ⟨w.heap.size,0,0,by rw[oE];rfl,rfl,.inr (by simp),?_⟩⟩;have hrs:b6 (w.drew.alloc (.cells (us0.toArray++us1.toArray++Builtin.zeroCells ez.cells (grownCap w (n+m) cap0 e-(n+m))) e)) w.heap.size=(us0.toArray++us1.toArray++Builtin.zeroCells ez.cells (grownCap w (n+m) cap0 e-(n+m))).size:=cL (heap_alloc_new w.drew _);rw[hrs];simp only[Array.size_append,List.size_toArray,size_zeroCells,hc0.len,hc1.len,hzs]
  have:grownCap w (n+m) cap0 e=n+m+(grownCap w (n+m) cap0 e-(n+m)):=by omega
  rw[Nat.zero_add,Nat.zero_add]
  conv=>lhs;rw[this]
  rw[Nat.add_mul,Nat.add_mul];exact Nat.le_refl _
 unfold AB at hbase
 split at hbase
 ·-- the base is nil
  simp only[Option.some.injEq]at hbase;have hxn:=hs.ev x;rw[hx]at hxn;have hxn:a.eval x= .slice none 0 0:=hxn;rw[hxn]at hv0;simp only[Value.slice.injEq]at hv0;obtain⟨rfl,rfl,rfl⟩:=hv0
  by_cases hm:m=0
  ·subst hm;have hr:=lO (P:=P) (w:=w) (ty:=o.type) ht hei ad1 cap1;rw[←hv1,←hxn]at hr;subst hbase;have h2:=hs.Dl hid B' (fun j=>by
    cases hc:B'.cell j with
    |none=>rfl
    |some c=>have:=(hB' j c hc).1;simp at this) (by rw[hBl])
   exact fin _ _ _ (hexec _ _ hr) h2 ⟨.inr rfl,by rw[oE];simp,0,by simp,.inr ⟨by rw[oE],hxn,by simp,rfl⟩⟩
  exact newRow (by omega) (.inl hbase.symm)
 ·-- it is a slice of the frame's own
  rename_i b w' off len
  split at hbase
  ·rename_i hww
   subst hww
   cases hlo:lo s.own b with
   |none=>rw[hlo]at hbase;simp at hbase
   |some B=>
    rw[hlo]at hbase;simp only at hbase
    split at hbase
    ·rename_i hrw
     simp only[Option.some.injEq]at hbase
     by_cases hcap:cap0<n+m
     ·exact newRow hcap (.inr ⟨b,hbase.symm⟩)
     have hxo:=hs.ev x;rw[hx]at hxo;obtain⟨hdb,hle,cap,hc,hxo⟩:=hxo
     rcases hxo with⟨g,o1,o2,haddr,hvx,ho,hroom⟩|⟨haddr,hvx,rfl,rfl⟩
     ·rw[hvx]at hv0;simp only[Value.slice.injEq]at hv0;obtain⟨rfl,rfl,rfl⟩:=hv0;obtain⟨_,hlenb,hrepb,hlocb⟩:=hs.own b B hlo;unfold aT at hrepb;rw[haddr]at hrepb;obtain⟨cur,e',hg,hcells⟩:=hrepb;rw[cL hg]at hroom;have hlo':lo s.own b=some ⟨B.bk,true⟩:=by rw[hlo,←hrw]
      -- the base's place
      have hfit:o2+len*ei.size+us1.length≤cur.size∨len+m=0:=by
       by_cases h0:len+m=0
       ·exact .inr h0
       left
       have ho2:o2=o1+off*ei.size:=by rcases ho with ho|ho<;>omega
       have hl1:=hc1.len;have h3:(len+m)*ei.size≤cap*ei.size:=Nat.mul_le_mul_right _ (by omega);rw[Nat.add_mul]at h3 hroom;omega
      rcases hfit with hfit|h0
      ·have hr:=r8 (P:=P) (w:=w) (ty:=o.type) ht hei g o2 len cap hg ad1 m cap1 us1 hc1.len hc1.at_ hc1.one (by omega) hfit;rw[←hvx,←hv1]at hr;have hsz':((cur.toList.take (o2+len*ei.size)++us1++cur.toList.drop (o2+len*ei.size+us1.length)).toArray).size=cur.size:=by simp;omega
       have h2:=hs.rewrite hlo' haddr hg hsz' hid B' o2 (fun j c hj=>by
        obtain⟨hlt,rfl⟩:=hB' j c hj;have hdm:j/ei.size*ei.size+j%ei.size=j:=by rw[Nat.mul_comm];exact Nat.div_add_mod j ei.size
        have hml:j%ei.size<ei.size:=Nat.mod_lt _ hpos;have hdl:j/ei.size<len+m:=(Nat.div_lt_iff_lt_mul hpos).2 hlt;have hlg:=kH cur.toList (o2+len*ei.size) us1 (by simpa using hfit) (o2+j);have hl1:=hc1.len
        by_cases hn:j/ei.size<len
        ·rw[if_pos hn];obtain⟨u,hu,hr⟩:=hc0.rep _ _ hn hml;rw[hdm]at hu;have hjl:j<len*ei.size:=by
          have:(j/ei.size+1)*ei.size≤len*ei.size:=Nat.mul_le_mul_right _ hn
          rw[Nat.add_mul]at this;omega
         rw[if_neg (by omega)]at hlg;refine⟨u,?_,?_⟩
         ·rw[List.getElem?_toArray,hlg,Array.getElem?_toList]
          rcases hc0.at_ with h0|⟨ad,had,hat⟩
          ·rw[h0]at hu;simp at hu
          simp only[Option.some.injEq]at had;subst had
          have:=hat j u hu
          rw[fV,cell_of_row w g _ cur e' (0,0) hg]at this;exact this
         cases B' with
         |var cs=>exact absurd rfl (hBv cs)
         |ints e k xs=>exact hr
         |rows e w n f=>exact hr
        rw[if_neg hn];obtain⟨u,hu,hr⟩:=hc1.rep (j/ei.size-len) _ (by omega) hml;have hmul:len*ei.size≤j/ei.size*ei.size:=Nat.mul_le_mul_right _ (by omega);have hge:len*ei.size≤j:=by omega
        rw[Nat.sub_mul,←Nat.sub_add_comm hmul,hdm]at hu;have hju:=(List.getElem?_eq_some_iff.1 hu).1;rw[if_pos (by omega),show o2+j-(o2+len*ei.size)=j-len*ei.size by omega]at hlg;refine⟨u,?_,?_⟩
        ·rw[List.getElem?_toArray,hlg,←hu]
        cases B' with
        |var cs=>exact absurd rfl (hBv cs)
        |ints e k xs=>exact hr
        |rows e w n f=>exact hr)
       subst hbase;refine fin _ _ _ (hexec _ _ hr) h2 ⟨.inr rfl,by rw[oE];simp[hBl],cap,by omega,.inl ⟨g,o2,o2,by rw[oE],rfl,.inr (by simp),?_⟩⟩;rw[cL (setRow_heap w g cur _ e' (0,0) hg),hsz']
       by_cases hc0':cap=0
       ·subst hc0';simp;omega
       have ho2:o2=o1+off*ei.size:=by rcases ho with ho|ho<;>omega
       rw[Nat.add_mul]at hroom;rw[ho2,Nat.zero_add];omega
      -- nothing at all is laid
      have hl0:len=0:=by omega
      have hm0:m=0:=by omega
      subst hl0;subst hm0;have hr:=sf (P:=P) (w:=w) (ty:=o.type) ht hei (some ⟨g,o2,none⟩) 0 cap ad1 cap1 hc;rw[←hvx,←hv1]at hr;have h2:=hs.rewrite (cur':=cur) hlo' haddr hg rfl hid B' (o1+off*ei.size) (fun j c hj=>by have:=(hB' j c hj).1;simp at this);rw[setRow_self w g cur e' (0,0) hg]at h2;subst hbase;refine fin _ _ _ (hexec _ _ hr) h2 ⟨.inr rfl,by rw[oE];simp,cap,hc,.inl ⟨g,o1+off*ei.size,o2,by rw[oE],hvx,?_,?_⟩⟩
      ·rcases ho with ho|ho
       ·exact .inl ho
       exact .inr (by rw[ho];omega)
      rw[cL hg];rw[Nat.add_mul]at hroom;rw[Nat.zero_add];omega
     rw[hvx]at hv0;simp only[Value.slice.injEq]at hv0;obtain⟨rfl,rfl,rfl⟩:=hv0;have hm:m=0:=by omega
     subst hm;have hr:=lO (P:=P) (w:=w) (ty:=o.type) ht hei ad1 cap1;rw[←hv1,←hvx]at hr;subst hbase;have h2:=(hs.del b).Dl hid B' (fun j=>by
      cases hc:B'.cell j with
      |none=>rfl
      |some c=>have:=(hB' j c hc).1;simp at this) (by rw[hBl])
     exact fin _ _ _ (hexec _ _ hr) h2 ⟨.inr rfl,by rw[oE];simp,0,by simp,.inr ⟨by rw[oE],hvx,by simp,rfl⟩⟩
    cases hbase
  cases hbase
 cases hbase
theorem JJ (hT:fg P T){c:Call}(ho:o.op= .call c)(hcal:c.callee= .builtin .append){x y:Operand}(hargs:c.args= #[x,y]){t t':TypeId}(htys:c.argTypes= #[t,t']){e':TypeId}(ht':P.underlying t'=some (.slice e'))
  (hdn:bZ o s.n) (h:pq T s o.dst t x y K):nN P o s K:=by
 unfold pq at h
 cases hd:o.dst with
 |none=>rw[hd]at h;exact h.elim
 |some d=>
  rw[hd]at h;simp only at h
  cases hTt:T t with
  |none=>rw[hTt]at h;exact h.elim
  |some S=>
   rw[hTt]at h;simp only at h
   split at h
   ·rename_i e hSk
    have hu:=fD hT hTt hSk
    cases hTe:T e with
    |none=>rw[hTe]at h;exact h.elim
    |some E=>
     rw[hTe]at h;simp only at h;obtain⟨ei,ed,ez,hei,heu,hez,hek,hes,heb,hzc,hall⟩:=bI hT hTe
     split at h
     ·rename_i cx cy hx hy
      cases hb:AB s.own E.size cx with
      |none=>rw[hb]at h;exact h.elim
      |some own0=>
       rw[hb]at h;simp only at h;have hcx:∀G ρ a w,a7 G (fun b=>b<s.nx) ρ s a w→aW ρ (fun b=>b<s.nx) (aQ G s.own ρ w) w cx (a.eval x):=fun G ρ a w hs=>by
        have:=hs.ev x;rw[hx]at this;exact this
       have hcy:∀G ρ a w,a7 G (fun b=>b<s.nx) ρ s a w→aW ρ (fun b=>b<s.nx) (aQ G s.own ρ w) w cy (a.eval y):=fun G ρ a w hs=>by
        have:=hs.ev y;rw[hy]at this;exact this
       split at h
       ·rename_i k hk
        split at h
        ·rename_i xs ys hxs hys
         obtain⟨hzl,hE1,⟨hbd,h63⟩,hK⟩:=h;have hzs:ez.cells.size=ei.size:=by rw[←hes,←hzl,hzc];simp
         refine o8 (wd:=E.size) (n:=xs.length) (m:=ys.length) (f0:=fun i _=>.int k (xs.getD i 0)) (f1:=fun i _=>.int k (ys.getD i 0)) hd (hdn d hd) ho hcal hargs htys ht' hu hei hez hzs hx hes (by omega) hb (.ints e k (xs++ys)) (fun cs=>by simp) (by simp[Bk.len]) (fun j c hj=>?_) (by rw[←heb];exact hbd) h63 (fun G ρ a w hs=>?_) (fun G ρ a w hs=>?_) (by rw[hE1,←X6];exact hK)
         ·simp only[Bk.cell]at hj;obtain⟨v,hv,rfl⟩:=Option.map_eq_some_iff.1 hj;obtain⟨hjl,hjv⟩:=List.getElem?_eq_some_iff.1 hv;rw[X6]at hjl;rw[hE1,Nat.mul_one,Nat.div_one];refine⟨hjl,?_⟩;subst hjv
          by_cases hjx:j<xs.length
          ·rw[if_pos hjx]
           congr 1
           rw[List.getElem_append_left hjx]
           simp[X8 hjx]
          rw[if_neg hjx]
          congr 1
          rw[List.getElem_append_right (by omega)]
          have:j-xs.length<ys.length:=by omega
          simp[X8 this]
         ·rw[hE1];exact Ag hs (fun _ h=>h) (hcx G ρ a w hs) hxs
         rw[hE1];exact Ag hs (fun _ h=>h) (hcy G ρ a w hs) hys
        exact h.elim
       split at h
       ·rename_i n f m g hxs hys
        obtain⟨hzl,hpos,⟨hbd,h63⟩,hK⟩:=h;have hzs:ez.cells.size=ei.size:=by rw[←hes,←hzl,hzc];simp
        refine o8 (wd:=E.size) (n:=n) (m:=m) (f0:=f) (f1:=g) hd (hdn d hd) ho hcal hargs htys ht' hu hei hez hzs hx hes hpos hb (.rows e E.size (n+m) (fun i j=>if i<n then f i j else g (i-n) j)) (fun cs=>by simp) rfl (fun j c hj=>?_) (by rw[←heb];exact hbd) h63 (fun G ρ a w hs=>?_) (fun G ρ a w hs=>?_) hK
        ·simp only[Bk.cell]at hj
         split at hj
         ·rename_i hlt
          simp only[Option.some.injEq]at hj;exact⟨hlt,hj.symm⟩
         cases hj
        ·exact yD hs (fun _ h=>h) (hcx G ρ a w hs) hxs
        exact yD hs (fun _ h=>h) (hcy G ρ a w hs) hys
       exact h.elim
     exact h.elim
   exact h.elim
end
end Go.Eng
/-
  THE ENGINE, PART P: calls of functions that turn one block of the caller's.
-/
namespace Go.Eng
open Go
def Bk.plain:Bk→Prop
 |.var cs=>cs.all gn=true
 |_=>True
structure xD (l:Loc) (w w':World):Prop where
 os:w'.os=w.os
 tape:w'.tape=w.tape
 output:w'.output=w.output
 size:w.heap.size≤w'.heap.size
 block:∀k,k<w.heap.size→(∀o,l.addr≠some (k,o))→w'.heap[k]? =w.heap[k]?
 room:∀g,b6 w g≤b6 w' g
def so (ok:Nat→Prop)(w w':World)(g:Nat):Prop:=ok g∨(w.heap.size≤g∧g<w'.heap.size)
def Mc (P:Program)(f:FuncId)(args:List V)(B:Bk)(R:V→Bk→Prop):Prop:=
 kz P f∧∀(ok:Nat→Prop) (w:World) (vs:Array Value) (l:Loc),(∀g,ok g→g<w.heap.size)→l.len=B.len→(∀g o,l.addr=some (g,o)→g<w.heap.size∧¬ok g)→
  aT bz bH ok w l B→a8 (fun _=>l) (fun b=>b=0) ok w args vs.toList→
  Calls P f vs w fun e w'=>∃v r B',e= .returned v∧R r B'∧B'.plain∧B'.len=B.len∧xD l w w'∧
   aT bz bH (so ok w w') w' l B'∧cd (fun _=>l) (fun b=>b=0) (so ok w w') w' r v
def Mi (b:Nat)(own:List (Nat×gI))(nx:Nat)(c:C):C:=
 match c with
 |.own b' wd off len=>if b'=b then .own 0 wd off len else oR own nx (.own b' wd off len)
 |.ptr b' off=>if b'=b then .ptr 0 off else .any
 |c=>oR own nx c
def I5 (b:Nat)(own:List (Nat×gI))(nx:Nat):V→V
 |.one c=>.one (Mi b own nx c)
 |.agg cs=>.agg (cs.map (Mi b own nx))
 |_=>.unk
def CX (b:Nat)(c:C):C:=
 match c with
 |.own _ wd off len=>.own b wd off len
 |.ptr _ off=>.ptr b off
 |.eptr _ _ _ _=>.any
 |.fn _ _ _=>.any
 |c=>c
def GU (b:Nat):V→V
 |.one c=>.one (CX b c)
 |_=>.unk
def tR (b:Nat):V→V
 |.one c=>.one (CX b c)
 |.aJ xs=>.aJ (xs.map (GU b))
 |_=>.unk
theorem aT.gE {ρ ρ':Nat→Loc}{dom dom' ok ok':Nat→Prop}{w:World}{l:Loc}{B:Bk}(hp:B.plain)(h:∀g,ok g→ok' g)(hr:aT ρ dom ok w l B):aT ρ' dom' ok' w l B:=by
 unfold aT at*
 cases ha:l.addr with
 |none=>rw[ha]at hr;exact hr
 |some p=>
  obtain⟨g,o⟩:=p;rw[ha]at hr;obtain⟨cur,e,hg,hc⟩:=hr;refine⟨cur,e,hg,fun j c hj=>?_⟩;obtain⟨u,hu,hr⟩:=hc j c hj;refine⟨u,hu,?_⟩
  cases B with
  |var cs=>
   have hm:c∈cs:=List.mem_of_getElem? hj;exact jV (List.all_eq_true.1 hp c hm) hr
  |ints e k xs=>exact aM.ext (Ext.dG h) _ _ hr
  |rows e wd n f=>exact aM.ext (Ext.dG h) _ _ hr
section
variable {G:Ctx}{dom:Nat→Prop}{ρ:Nat→Loc}{s:St}{a:Act}{w:World}
theorem wV (hs:a7 G dom ρ s a w)(b:Nat)(ids:List Nat)(c:C)(v:Value)(hi:∀b'∈jK c,b'≠b→b'∈ids)(hr:aW ρ dom (aQ G s.own ρ w) w c v):
  aW (fun _=>ρ b) (fun i=>i=0) (dQ G s.own ρ w ids) w (Mi b s.own s.nx c) v:=by
 have o:Oper:=default;have hsame:jH bH (fun i:Nat=>i=0) bz (fun _=>ρ b):=⟨fun _ h=>h.elim,fun _ h=>h.elim⟩;have hx:Ext (dQ G s.own ρ w ids) (dQ G s.own ρ w ids) w w:=Ext.refl _ _;have view:(∀b'∈jK c,b'<s.nx→b'∈ids)→aW (fun _=>ρ b) (fun i=>i=0) (dQ G s.own ρ w ids) w (oR s.own s.nx c) v:=fun hi'=>
  aW.ext hx hsame _ _ (kt hs (rJ.refl s s.nx o) c v ids hi' hr)
 cases c with
 |own b' wd off len=>
  show aW _ _ _ w (Mi b s.own s.nx (.own b' wd off len)) v;simp only[Mi]
  by_cases hb:b'=b
  ·rw[if_pos hb];subst hb;obtain⟨_,h2,h3⟩:=hr;exact⟨rfl,h2,h3⟩
  rw[if_neg hb];refine view fun b2 hb2 _=>hi b2 hb2 ?_;simp only[jK,List.mem_singleton]at hb2;subst hb2;exact hb
 |ptr b' off=>
  show aW _ _ _ w (Mi b s.own s.nx (.ptr b' off)) v;simp only[Mi]
  by_cases hb:b'=b
  ·rw[if_pos hb];subst hb;obtain⟨_,h2⟩:=hr;exact⟨rfl,h2⟩
  rw[if_neg hb];have hr:aW ρ dom (aQ G s.own ρ w) w (.ptr b' off) v:=hr;exact(aW.plain hr).1
 |any=>exact view (fun _ h=>by simp[jK]at h)
 |bool t=>exact view (fun _ h=>by simp[jK]at h)
 |int k n=>exact view (fun _ h=>by simp[jK]at h)
 |str t=>exact view (fun _ h=>by simp[jK]at h)
 |nil=>exact view (fun _ h=>by simp[jK]at h)
 |ints k xs=>exact view (fun _ h=>by simp[jK]at h)
 |rows wd n f=>exact view (fun _ h=>by simp[jK]at h)
 |elt c wd i off=>exact view (fun _ h=>by simp[jK]at h)
 |eptr b wd i off=>exact view (fun _ h=>by simp[jK]at h)
 |fn f n caps=>exact view (fun _ h=>by simp[jK]at h)
theorem vJ (hs:a7 G dom ρ s a w)(b:Nat)(ids:List Nat)(x:V)(v:Value)(hi:∀b'∈ij x,b'≠b→b'∈ids)(hr:cd ρ dom (aQ G s.own ρ w) w x v):
  dM (fun _=>ρ b) (fun i=>i=0) (dQ G s.own ρ w ids) w (I5 b s.own s.nx x) v:=by
 cases x with
 |one c=>exact wV hs b ids c v hi hr
 |agg cs=>
  obtain⟨vs,hv,hl⟩:=hr;refine⟨vs,hv,?_⟩
  generalize vs.toList=l at hl
  have hi':∀c∈cs,∀b'∈jK c,b'≠b→b'∈ids:=fun c hc b' hb'=>hi b' (List.mem_flatMap.2 ⟨c,hc,hb'⟩);clear hv hi
  induction cs generalizing l with
  |nil=>cases l with
   |nil=>trivial
   |cons u l=>exact hl.elim
  |cons c cs ih=>
   cases l with
   |nil=>exact hl.elim
   |cons u l=>exact⟨wV hs b ids c u (hi' c (List.mem_cons_self ..)) hl.1,ih l hl.2 fun c' hc=>hi' c' (List.mem_cons_of_mem _ hc)⟩
 |aJ xs=>trivial
 |unk=>trivial
theorem rX {dom:Nat→Prop}{ρ:Nat→Loc}{ok ok':Nat→Prop}{w:World}{b:Nat}(hb:dom b)(h:∀g,ok g→ok' g){c:C}{v:Value}(hr:aW (fun _=>ρ b) (fun i=>i=0) ok w c v):aW ρ dom ok' w (CX b c) v:=by
 have hx:Ext ok ok' w w:=Ext.dG h
 cases c with
 |own b' wd off len=>
  obtain⟨_,h2,h3⟩:=hr;exact⟨hb,h2,h3⟩
 |ptr b' off=>
  obtain⟨_,h2⟩:=hr;exact⟨hb,h2⟩
 |eptr b' wd i off=>exact(aW.plain (c:=.eptr b' wd i off) hr).1
 |fn f n caps=>exact(aW.plain (c:=.fn f n caps) hr).1
 |any=>exact aM.ext hx .any v hr
 |bool t=>exact aM.ext hx (.bool t) v hr
 |int k n=>exact aM.ext hx (.int k n) v hr
 |str t=>exact aM.ext hx (.str t) v hr
 |nil=>exact aM.ext hx .nil v hr
 |ints k xs=>exact aM.ext hx (.ints k xs) v hr
 |rows wd n f=>exact aM.ext hx (.rows wd n f) v hr
 |elt c wd i off=>exact aM.ext hx (.elt c wd i off) v hr
theorem rL {dom:Nat→Prop}{ρ:Nat→Loc}{ok ok':Nat→Prop}{w:World}{b:Nat}(hb:dom b)(h:∀g,ok g→ok' g):∀{xs:List V} {vs:List Value},a8 (fun _=>ρ b) (fun i=>i=0) ok w xs vs→a8 ρ dom ok' w (xs.map (GU b)) vs
 |[],[],_=>trivial
 |x::xs,v::vs,hr=>by
  refine⟨?_,rL hb h hr.2⟩
  cases x with
  |one c=>exact rX (c:=c) hb h hr.1
  |unk=>trivial
  |agg cs=>trivial
  |aJ ys=>trivial
 |[],_::_,hr=>hr.elim
 |_::_,[],hr=>hr.elim
theorem yL {dom:Nat→Prop}{ρ:Nat→Loc}{ok ok':Nat→Prop}{w:World}{b:Nat}(hb:dom b)(h:∀g,ok g→ok' g){x:V}{v:Value}(hr:cd (fun _=>ρ b) (fun i=>i=0) ok w x v):cd ρ dom ok' w (tR b x) v:=by
 cases x with
 |one c=>exact rX (c:=c) hb h hr
 |unk=>trivial
 |agg cs=>trivial
 |aJ xs=>
  obtain⟨vs,h1,h2⟩:=hr;exact⟨vs,h1,rL hb h h2⟩
theorem a7.Nz (h:a7 G dom ρ s a w){b:Nat}{B:Bk}(hl:lo s.own b=some ⟨B,true⟩){ids:List Nat}(hids:b∉ids){w':World}(hm:xD (ρ b) w w'){B':Bk}(hp:B'.plain)(hlen:B'.len=B.len)
  (hrep:aT bz bH (so (dQ G s.own ρ w ids) w w') w' (ρ b) B'):
  a7 G dom ρ {s with own:=iX (Eng.fh s.own ids) b ⟨B',true⟩} a w'∧∀g,so (dQ G s.own ρ w ids) w w' g→aQ G (iX (Eng.fh s.own ids) b ⟨B',true⟩) ρ w' g:=by
 obtain⟨hd,hlB,hrB,hgB⟩:=h.own b _ hl;have hlo:∀b2 B2,b2≠b→lo (Eng.fh s.own ids) b2=some B2→∃B3,lo s.own b2=some B3∧B2.bk=B3.bk∧(B2.rw=true→B3.rw=true∧b2∉ids):=by
  intro b2 B2 _ h2;rw[iC]at h2
  cases h3:lo s.own b2 with
  |none=>rw[h3]at h2;simp at h2
  |some B3=>
   rw[h3]at h2;simp only[Option.map_some,Option.some.injEq]at h2
   by_cases hm:ids.contains b2=true
   ·rw[if_pos hm]at h2;subst h2;exact⟨B3,rfl,rfl,fun h=>by simp at h⟩
   rw[if_neg hm]at h2;subst h2;exact⟨B3,rfl,rfl,fun h=>⟨h,by simpa using hm⟩⟩
 have hok:∀g,so (dQ G s.own ρ w ids) w w' g→aQ G (iX (Eng.fh s.own ids) b ⟨B',true⟩) ρ w' g:=by
  have step:∀g,g<w'.heap.size→¬G.forb g→(∀o,(ρ b).addr≠some (g,o))→(∀b2 B2,b2≠b→lo (Eng.fh s.own ids) b2=some B2→B2.rw=true→∀o2,(ρ b2).addr≠some (g,o2))→aQ G (iX (Eng.fh s.own ids) b ⟨B',true⟩) ρ w' g:=by
   intro g h1 h2 h3 h4;refine⟨h1,h2,fun b2 B2 hl2 hrw o2=>?_⟩;rw[dk]at hl2
   by_cases hbi:b2=b
   ·subst hbi;exact h3 o2
   rw[if_neg hbi]at hl2;exact h4 b2 B2 hbi hl2 hrw o2
  rintro g ((h3|⟨b1,hbi,B2,o',hl1,ha'⟩)|⟨h3,h4⟩)
  ·refine step g (Nat.lt_of_lt_of_le h3.1 hm.size) h3.2.1 (h3.2.2 b _ hl rfl) fun b2 B2 hne h2 hrw o2=>?_;obtain⟨B3,h5,_,h6⟩:=hlo b2 B2 hne h2;exact h3.2.2 b2 B3 h5 (h6 hrw).1 o2
  ·obtain⟨_,_,_,h4⟩:=h.own b1 B2 hl1;obtain⟨h5,h6,_⟩:=h4 g o' ha';have hne1:b≠b1:=fun e=>hids (e▸hbi);refine step g (Nat.lt_of_lt_of_le h5 hm.size) h6 (fun o he=>h.inj b _ b1 B2 hl hl1 hne1 rfl g o o' he ha') fun b2 B3 hne h2 hrw o2 he=>?_;obtain⟨B4,h7,_,h8⟩:=hlo b2 B3 hne h2;obtain⟨h9,h10⟩:=h8 hrw;exact h.inj b2 B4 b1 B2 h7 hl1 (fun e=>h10 (e▸hbi)) h9 g o2 o' he ha'
  refine step g h4 (fun hf=>absurd (h.wf _ hf) (by have:=h.size;omega)) (fun o he=>absurd (hgB g o he).1 (by omega)) fun b2 B2 hne h2 hrw o2 he=>?_;obtain⟨B3,h5,_,_⟩:=hlo b2 B2 hne h2;exact absurd ((h.own b2 B3 h5).2.2.2 g o2 he).1 (by omega)
 have hext:Ext (aQ G s.own ρ w) (aQ G (iX (Eng.fh s.own ids) b ⟨B',true⟩) ρ w') w w':=
  ⟨fun g hg=>⟨hok g (.inl (.inl hg)),hm.block g hg.1 (hg.2.2 b _ hl rfl)⟩,hm.room⟩
 have hs:jH dom dom ρ ρ:=⟨fun _ h=>h,fun _ _=>rfl⟩;refine⟨h.vg hext hs ?_ ?_ hm.os hm.tape hm.output hm.size ?_,hok⟩
 ·intro b2 B2 hl2;rw[dk]at hl2
  by_cases hbi:b2=b
  ·subst hbi;rw[if_pos rfl]at hl2;obtain rfl:=Option.some.inj hl2;exact⟨hd,by rw[hlB];exact hlen.symm,hrep.gE hp hok,fun g o ha=>⟨Nat.lt_of_lt_of_le (hgB g o ha).1 hm.size,(hgB g o ha).2⟩⟩
  rw[if_neg hbi]at hl2;obtain⟨B3,h5,h6,_⟩:=hlo b2 B2 hbi hl2;obtain⟨h7,h8,h9,h10⟩:=h.own b2 B3 h5;rw[h6];exact⟨h7,h8,aT.ext hext hs _ _ (fun g o ha=>hm.block g (h10 g o ha).1 fun o2 he=>h.inj b _ b2 B3 hl h5 (fun e=>hbi e.symm) rfl g o2 o he ha) h9,fun g o ha=>⟨Nat.lt_of_lt_of_le (h10 g o ha).1 hm.size,(h10 g o ha).2⟩⟩
 ·have hget:∀b2 B2,lo (iX (Eng.fh s.own ids) b ⟨B',true⟩) b2=some B2→∃B3,lo s.own b2=some B3∧(B2.rw=true→B3.rw=true):=by
   intro b2 B2 hl2;rw[dk]at hl2
   by_cases hbi:b2=b
   ·subst hbi;exact⟨_,hl,fun _=>rfl⟩
   rw[if_neg hbi]at hl2;obtain⟨B3,h5,_,h7⟩:=hlo b2 B2 hbi hl2;exact⟨B3,h5,fun h=>(h7 h).1⟩
  intro b1 B1 b2 B2 hl1 hl2 hne hrw;obtain⟨B3,h5,h6⟩:=hget b1 B1 hl1;obtain⟨B4,h7,_⟩:=hget b2 B2 hl2;exact h.inj b1 B3 b2 B4 h5 h7 hne (h6 hrw)
 intro k hk hmine;refine hm.block k (Nat.lt_of_lt_of_le hk h.size) fun o he=>?_
 rcases(hgB k o he).2.2 with h1|h1
 ·omega
 exact hmine h1
end
def Ka (b:Nat)(raw:List V):List Nat:=(raw.map ij).flatten.filter (fun b'=>b' !=b)
def NW (s:St)(dst:Option Tmp)(b:Nat)(raw:List V)(r:V)(B':Bk):St:={s.put dst (tR b r)with own:=iX (fh s.own (Ka b raw)) b ⟨B',true⟩}
def CN (P:Program)(f:FuncId)(raw:List V)(s:St)(dst:Option Tmp)(K:St→Prop):Prop:=
 ∃b B R,lo s.own b=some ⟨B,true⟩∧B.plain∧Mc P f (raw.map (I5 b s.own s.nx)) B R∧∀r B',R r B'→B'.len=B.len→eH K (NW s dst b raw r B')
def oi (P:Program)(op:Op)(dst:Option Tmp)(s:St)(K:St→Prop):Prop:=
 match op with
 |.call c=>match c.callee with
  |.value g=>match s.ev g with
   |.one (.fn f n _)=>n=0∧CN P f (c.args.toList.map s.ev) s dst K
   |_=>False
  |_=>False
 |_=>False
theorem H5 {P:Program}{o:Oper}{s:St}{K:St→Prop}(hd:bZ o s.n)(h:oi P o.op o.dst s K):nN P o s K:=by
 unfold oi at h
 split at h
 ·rename_i c ho
  split at h
  ·rename_i g hc
   split at h
   ·rename_i f n caps hg
    obtain⟨rfl,b,B,R,hl,hpl,⟨hcall,hmut⟩,hK⟩:=h;intro G a w hsim Q next hk;obtain⟨ρ,hs⟩:=hsim;have hgv:=hs.ev g;rw[hg]at hgv;obtain⟨cs,hgv,hcs,_⟩:=hgv;obtain rfl:cs= #[]:=Array.eq_empty_of_size_eq_zero hcs;have hrun:(execOp a.eval o).run P w= .ok (.enter f (c.args.map a.eval)) w:=by
     unfold execOp;rw[ho];simp only[resolve,hc,Sem.run_bind,hgv,Deferred.ofValue,Sem.run_pure,Result.andThen_ok,invoke]
     have:=lF (w:=w) hcall (c.args.map a.eval)
     simpa using this
    unfold Oper.wp;rw[hrun,Oper.upon_enter]
    let raw:=c.args.toList.map s.ev
    let ids:=Ka b raw
    have hids:b∉ids:=by simp[ids,Ka]
    obtain⟨hdb,hlB,hrB,hgB⟩:=hs.own b _ hl;have hlt:∀g,dQ G s.own ρ w ids g→g<w.heap.size:=by
     rintro g (h1|⟨b,_,B,o',hl,ha'⟩)
     ·exact h1.1
     exact((hs.own b B hl).2.2.2 g o' ha').1
    have hnot:∀g o1,(ρ b).addr=some (g,o1)→g<w.heap.size∧¬dQ G s.own ρ w ids g:=by
     intro g o1 ha;refine⟨(hgB g o1 ha).1,?_⟩
     rintro(h1|⟨b1,hb1,B1,o',hl1,ha'⟩)
     ·exact h1.2.2 b _ hl rfl o1 ha
     exact hs.inj b _ b1 B1 hl hl1 (fun e=>hids (e▸hb1)) rfl g o1 o' ha ha'
    have hargs:a8 (fun _=>ρ b) (fun i=>i=0) (dQ G s.own ρ w ids) w (raw.map (I5 b s.own s.nx)) (c.args.map a.eval).toList:=by
     rw[Array.toList_map]
     have:=a8.pG (ρ:=fun _=>ρ b) (dom:=fun i=>i=0) (ok:=dQ G s.own ρ w ids) (w:=w) (fun x=>I5 b s.own s.nx (s.ev x)) a.eval c.args.toList fun x hx=>by
      refine vJ hs b ids _ _ (fun b' hb' hne=>?_) (hs.ev x);refine List.mem_filter.2 ⟨List.mem_flatten.2 ⟨_,List.mem_map.2 ⟨s.ev x,List.mem_map.2 ⟨x,hx,rfl⟩,rfl⟩,hb'⟩,by simpa using hne⟩
     simpa[raw,List.map_map,Function.comp_def]using this
    have hrB':aT bz bH (dQ G s.own ρ w ids) w (ρ b) B:=hrB.gE hpl fun g hg=>.inl hg;refine Calls.mono (hmut _ w _ (ρ b) hlt hlB hnot hrB' hargs) fun e w' he=>?_;obtain⟨v,r,B',rfl,hR,hp',hlen',hm,hrep,hval⟩:=he;obtain⟨hsim',hok⟩:=hs.Nz hl hids hm hp' hlen' hrep;refine hk _ _ _ (hK r B' hR hlen') ⟨ρ,?_⟩;have hv2:cd ρ (fun i=>i<s.nx) (aQ G (iX (fh s.own ids) b ⟨B',true⟩) ρ w') w' (tR b r) v:=yL (dom:=fun i=>i<s.nx) hdb hok hval;have h4:=hsim'.put (dst:=o.dst) (x:=tR b r) (v:=v) hd hv2;have e2:NW s o.dst b raw r B'=St.put {s with own:=iX (fh s.own ids) b ⟨B',true⟩} o.dst (tR b r):=by
     unfold NW St.put
     cases o.dst<;>rfl
    show a7 G _ _ (NW s o.dst b raw r B') _ w';rw[e2]
    have hnx:(St.put {s with own:=iX (fh s.own ids) b ⟨B',true⟩} o.dst (tR b r)).nx=s.nx:=by cases o.dst<;>rfl
    rw[hnx];exact h4
   exact h.elim
  exact h.elim
 exact h.elim
end Go.Eng
/-
  THE ENGINE, PART Q: a statement whose order is open: whatever order the machine takes, it comes to what the text's order comes to.
-/
namespace Go.Eng
open Go
structure Af (s s':St):Prop where
 env:∀t,lk s.env t=lk s'.env t
 own:∀b,lo s.own b=lo s'.own b
 n:s.n=s'.n
theorem Af.refl (s:St):Af s s:=⟨fun _=>rfl,fun _=>rfl,rfl⟩
theorem Af.trans {a b c:St}(h:Af a b)(k:Af b c):Af a c:=⟨fun t=>(h.env t).trans (k.env t),fun t=>(h.own t).trans (k.own t),h.n.trans k.n⟩
theorem Af.symm {a b:St}(h:Af a b):Af b a:=⟨fun t=>(h.env t).symm,fun t=>(h.own t).symm,h.n.symm⟩
theorem a7.I4 {G:Ctx}{dom:Nat→Prop}{ρ:Nat→Loc}{s s':St}{a:Act}{w:World}(h:a7 G dom ρ s a w)(hs:Af s s'):a7 G dom ρ s' a w:=by
 have hok:aQ G s'.own ρ w=aQ G s.own ρ w:=by
  funext g
  unfold aQ;simp only[hs.own]
 exact{
     hd:=h.hd,hn:=h.hn.trans hs.n,env:=fun t=>by rw[hok,←hs.env t];exact h.env t,own:=fun b B hl=>by rw[hok];exact h.own b B (by rw[hs.own];exact hl),
     inj:=fun b B b' B' hl hl'=>h.inj b B b' B' (by rw[hs.own];exact hl) (by rw[hs.own];exact hl'),os:=h.os,tape:=h.tape,output:=h.output,size:=h.size,keep:=h.keep,wf:=h.wf,home:=h.home,room:=h.room}
theorem Dw (s:St)(dst:Option Tmp)(v:V)(t:Nat):lk (s.put dst v).env t=if dst=some t then v else lk s.env t:=by
 cases dst with
 |none=>simp[St.put]
 |some d=>
  simp only[St.put,Dc,Option.some.injEq]
  by_cases h:t=d
  ·subst h;simp
  rw[if_neg h,if_neg (fun e=>h e.symm)]
theorem jQ (s:St)(dst:Option Tmp)(id:Nat)(e:ey)(t:Nat):lk (s.add dst id e).env t=if dst=some t then e.val else lk s.env t:=by
 have:(s.add dst id e).env=(s.put dst e.val).env:=by unfold St.add;split<;>rfl
 rw[this,Dw]
def gh (fz:List Nat)(b:Nat)(v:gI):gI:=if fz.contains b then⟨v.bk,false⟩else v
theorem pV (s:St)(dst:Option Tmp)(id:Nat)(e:ey)(b:Nat):lo (s.add dst id e).own b=(match e.oB with
  |some B=>if b=id then some ⟨B,true⟩else(lo s.own b).map (gh e.fz b)
  |none=>(lo s.own b).map (gh e.fz b)):=by
 unfold St.add
 cases e.oB with
 |none=>simp only[xZ];rw[iC];rfl
 |some B=>simp only[xZ,dk];split<;>first|rfl|(rw[iC];rfl)
theorem Dx (s:St)(dst:Option Tmp)(id:Nat)(e:ey):(s.add dst id e).n=s.n:=by
 unfold St.add;split<;>(cases dst<;>rfl)
theorem Af.add {s s':St}(h:Af s s')(dst:Option Tmp)(id:Nat)(e:ey):Af (s.add dst id e) (s'.add dst id e):=
 ⟨fun t=>by rw[jQ,jQ,h.env],fun b=>by rw[pV,pV,h.own],by rw[Dx,Dx,h.n]⟩
theorem Ew (s:St){d1 d2:Option Tmp}{i1 i2:Nat}{e1 e2:ey}(hd:∀t,d1=some t→d2≠some t)(hi:i1≠i2)(h1:∀b∈e1.fz,b≠i2)(h2:∀b∈e2.fz,b≠i1):
  Af ((s.add d1 i1 e1).add d2 i2 e2) ((s.add d2 i2 e2).add d1 i1 e1):=by
 refine⟨fun t=>?_,fun b=>?_,by simp only[Dx]⟩
 ·simp only[jQ]
  by_cases h:d1=some t
  ·rw[if_pos h,if_neg (hd t h),if_pos h]
  rw[if_neg h,if_neg h]
 simp only[pV];have hc:∀(v:gI),gh e2.fz b (gh e1.fz b v)=gh e1.fz b (gh e2.fz b v):=fun v=>by
  unfold gh;split<;>split<;>rfl
 have hcc:(lo s.own b).map (gh e2.fz b∘gh e1.fz b)=(lo s.own b).map (gh e1.fz b∘gh e2.fz b):=by
  congr 1;funext v;exact hc v
 have n1:b=i2→∀B:Bk,(some (⟨B,true⟩:gI)).map (gh e1.fz b)=some ⟨B,true⟩:=fun hb B=>by
  subst hb;simp only[Option.map_some,gh];rw[if_neg (fun hc=>h1 b (by simpa using hc) rfl)]
 have n2:b=i1→∀B:Bk,(some (⟨B,true⟩:gI)).map (gh e2.fz b)=some ⟨B,true⟩:=fun hb B=>by
  subst hb;simp only[Option.map_some,gh];rw[if_neg (fun hc=>h2 b (by simpa using hc) rfl)]
 cases e1.oB with
 |none=>
  cases e2.oB with
  |none=>simp only[Option.map_map];exact hcc
  |some B2=>
   simp only
   by_cases hb:b=i2
   ·rw[if_pos hb,if_pos hb,n1 hb]
   rw[if_neg hb,if_neg hb];simp only[Option.map_map];exact hcc
 |some B1=>
  cases e2.oB with
  |none=>
   simp only
   by_cases hb:b=i1
   ·rw[if_pos hb,if_pos hb,n2 hb]
   rw[if_neg hb,if_neg hb];simp only[Option.map_map];exact hcc
  |some B2=>
   simp only
   by_cases hb:b=i1
   ·rw[if_pos hb,if_neg (fun e=>hi (hb.symm.trans e)),if_pos hb,n2 hb]
   by_cases hb2:b=i2
   ·rw[if_pos hb2,if_neg hb,if_pos hb2,n1 hb2]
   rw[if_neg hb2,if_neg hb,if_neg hb,if_neg hb2];simp only[Option.map_map];exact hcc
def ey.skip:ey:=⟨.aJ [],none,[]⟩
def gv:V→Option (Option Bool)
 |.one (.bool b)=>some (some b)
 |.aJ []=>some none
 |_=>none
def lA (P:Program)(ops:Array Oper)(nx0 i:Nat)(o:Oper)(s:St)(e:ey):Prop:=
 bZ o s.n∧match o.guard with
 |none=>bm P o s nx0 (nx0+i) e
 |some (g,want)=>∃t b,(ops[g]?).bind (·.dst)=some t∧gv (lk s.env t)=some b∧(if b=some want then bm P o s nx0 (nx0+i) e else e=ey.skip)
def br (ops:Array Oper)(k:Nat):Option Tmp:=(ops[k]?).bind (·.dst)
def aH (σ:St)(nx0:Nat)(ops:Array Oper)(e:Nat→ey)(L:Nat→Bool):Nat→St
 |0=>σ
 |k+1=>if L k then(aH σ nx0 ops e L k).add (br ops k) (nx0+k) (e k)else aH σ nx0 ops e L k
section
variable {σ:St}{nx0:Nat}{ops:Array Oper}{e:Nat→ey}
theorem fH (L:Nat→Bool)(k:Nat):(aH σ nx0 ops e L k).n=σ.n:=by
 induction k with
 |zero=>rfl
 |succ k ih=>simp only[aH];split<;>simp only[Dx,ih]
theorem cC {L L':Nat→Bool}(k:Nat)(h:∀j,j<k→L j=L' j):aH σ nx0 ops e L k=aH σ nx0 ops e L' k:=by
 induction k with
 |zero=>rfl
 |succ k ih=>simp only[aH,h k (Nat.lt_succ_self k),ih (fun j hj=>h j (Nat.lt_succ_of_lt hj))]
theorem nB {N:Nat}{L:Nat→Bool}{i:Nat}(hi:L i=false)(hdst:∀j k t,j<N→k<N→j≠k→br ops j=some t→br ops k=some t→False)(hfz:∀j,∀b∈(e j).fz,b<nx0):
  ∀k,k≤N→i<k→Af (aH σ nx0 ops e (fun j=>L j||j==i) k) ((aH σ nx0 ops e L k).add (br ops i) (nx0+i) (e i)):=by
 intro k
 induction k with
 |zero=>intro _ h;omega
 |succ k ih=>
  intro hkN hik
  by_cases hk:i=k
  ·subst hk;simp only[aH,beq_self_eq_true,Bool.or_true,if_true,hi,Bool.false_eq_true,if_false]
   rw[cC (L:=fun j=>L j||j==i) (L':=L) i (fun j hj=>by simp;omega)]
   exact Af.refl _
  have ih':=ih (by omega) (by omega);have hne:(k==i)=false:=by simp;omega
  simp only[aH,hne,Bool.or_false]
  by_cases hL:L k=true
  ·simp only[hL,if_true];exact(ih'.add _ _ _).trans (Ew _ (fun t h1 h2=>hdst i k t (by omega) (by omega) hk h1 h2) (by omega) (fun b hb h=>by have:=hfz i b hb;omega) (fun b hb h=>by have:=hfz k b hb;omega))
  simp only[hL,Bool.false_eq_true,if_false];exact ih'
theorem og (L:Nat→Bool)(t:Nat):∀k,(∀j,j<k→br ops j≠some t)→lk (aH σ nx0 ops e L k).env t=lk σ.env t:=by
 intro k
 induction k with
 |zero=>intro _;rfl
 |succ k ih=>
  intro h;simp only[aH]
  split
  ·rw[jQ,if_neg (h k (Nat.lt_succ_self k))];exact ih (fun j hj=>h j (Nat.lt_succ_of_lt hj))
  exact ih (fun j hj=>h j (Nat.lt_succ_of_lt hj))
theorem dz {N:Nat}(L:Nat→Bool){t j:Nat}(hj:br ops j=some t)(hL:L j=true)(hdst:∀j k t,j<N→k<N→j≠k→br ops j=some t→br ops k=some t→False):
  ∀k,k≤N→j<k→lk (aH σ nx0 ops e L k).env t=(e j).val:=by
 intro k
 induction k with
 |zero=>intro _ h;omega
 |succ k ih=>
  intro hkN h;simp only[aH]
  by_cases hjk:j=k
  ·subst hjk;rw[if_pos hL,jQ];exact if_pos hj
  have ih':=ih (by omega) (by omega)
  split
  ·rw[jQ,if_neg (fun h2=>hdst j k t (by omega) (by omega) hjk hj h2)];exact ih'
  exact ih'
theorem jh (L:Nat→Bool):∀k b,b<nx0→(lo (aH σ nx0 ops e L k).own b).map (·.bk)=(lo σ.own b).map (·.bk):=by
 intro k
 induction k with
 |zero=>intro b _;rfl
 |succ k ih=>
  intro b hb;simp only[aH]
  split
  ·rw[pV];have hm:((lo (aH σ nx0 ops e L k).own b).map (gh (e k).fz b)).map (·.bk)=(lo σ.own b).map (·.bk):=by
    rw[←ih b hb,Option.map_map]
    congr 1
    funext v
    simp only[Function.comp,gh]
    split<;>rfl
   cases(e k).oB with
   |none=>exact hm
   |some B=>simp only;rw[if_neg (by omega)];exact hm
  exact ih b hb
end
def G9 (P:Program)(ops:Array Oper)(o:Oper)(s:St)(K:St→Prop):Prop:=
 match o.guard with
 |none=>nN P o s K
 |some (g,want)=>∃t b,br ops g=some t∧gv (lk s.env t)=some b∧(b=some want→nN P o s K)∧(b≠some want→K (s.put o.dst (.aJ [])))
def vo (P:Program)(ops:Array Oper):List Oper→St→(St→Prop)→Prop
 |[],s,K=>K s
 |o::os,s,K=>bZ o s.n∧G9 P ops o s (fun s'=>vo P ops os s' K)
theorem EC {a:Array Value}{t:Nat}{b:Bool}(h:a.getD t undef= .bool b):a[t]? =some (.bool b):=by
 rw[Array.getD_eq_getD_getElem?]at h
 cases ha:a[t]? with
 |none=>rw[ha]at h;cases h
 |some v=>rw[ha]at h;simpa using h
theorem nG {G:Ctx}{dom:Nat→Prop}{ρ:Nat→Loc}{s:St}{a:Act}{w:World}(hs:a7 G dom ρ s a w){ops:Array Oper}{o:Oper}{g:Nat}{want:Bool}{b:Option Bool}{t:Nat}(hg:o.guard=some (g,want))(ht:br ops g=some t)
  (hb:gv (lk s.env t)=some b):Region.wanted o (yielded ops a.tmps)=(b==some want):=by
 have hev:=hs.env t;have hd:(ops[g]?).bind (·.dst)=some t:=ht;have hy:yielded ops a.tmps g=b:=by
  unfold gv at hb
  split at hb
  ·rename_i b' he
   obtain rfl:=Option.some.inj hb;rw[he]at hev;have hev:a.tmps.getD t undef= .bool b':=hev;unfold yielded;simp only[hd,Option.bind_some,EC hev]
  ·rename_i he
   obtain rfl:=Option.some.inj hb;rw[he]at hev;obtain⟨vs,hv,_⟩:=hev;unfold yielded;simp only[hd,Option.bind_some]
   cases ha:a.tmps[t]? with
   |none=>rfl
   |some v=>
    rw[Array.getD_eq_getD_getElem?,ha]at hv;simp only[Option.getD_some]at hv;rw[hv]
  cases hb
 unfold Region.wanted;simp only[hg,hy]
theorem gZ {o:Oper}{y:Nat→Option Bool}(hg:o.guard=none):Region.wanted o y=true:=by unfold Region.wanted;rw[hg]
theorem G9.step {P:Program}{ops:Array Oper}{i:Nat}{o:Oper}(ho:ops[i]? =some o){s:St}{K:St→Prop}(h:G9 P ops o s K)(hd:bZ o s.n){G:Ctx}{a:Act}{w:World}(hs:qc G s a w){Q:Exit→Act→World→Prop}{next:Act→World→Prop}
  (hk:∀s' a' w',K s'→qc G s' a' w'→next a' w'):wpOp P ops Q i next a w:=by
 unfold wpOp;simp only[ho];unfold G9 at h
 split at h
 ·rename_i hg
  rw[gZ hg,if_pos rfl];exact .inl (h G a w hs Q next hk)
 rename_i g want hg
 obtain⟨t,b,ht,hb,h1,h2⟩:=h;obtain⟨ρ,hr⟩:=hs;rw[nG hr hg ht hb]
 by_cases hbw:b=some want
 ·rw[if_pos (by simp[hbw])];exact .inl (h1 hbw G a w ⟨ρ,hr⟩ Q next hk)
 rw[if_neg (by simpa using hbw)]
 have:=hr.put (dst:=o.dst) (x:=.aJ []) (v:=undef) hd ⟨#[],rfl,trivial⟩
 refine hk _ _ _ (h2 hbw) ⟨ρ,?_⟩
 cases hdst:o.dst with
 |none=>rw[hdst]at this;exact this
 |some d=>rw[hdst]at this;exact this
theorem bm.OO {P:Program}{o:Oper}{s:St}{e:ey}{K:St→Prop}(h:bm P o s s.nx s.nx e)(hK:K {s.add o.dst s.nx e with nx:=s.nx+1}):nN P o s K:=by
 intro G a w hsim Q next hk;obtain⟨ρ,hs⟩:=hsim;refine h.1 G (fun b=>b<s.nx) ρ s a w hs (Nat.lt_irrefl _) (rJ.refl _ _ _) Q next fun v w' hs'=>?_;refine hk _ _ _ hK ?_;obtain⟨ρ',h1⟩:=hs'
 have h2:=h1.cQ (dom':=fun b=>b<s.nx+1) (fun b hb=>by rcases hb with hb|hb<;>omega)
 exact⟨ρ',h2.I4 ⟨fun _=>rfl,fun _=>rfl,rfl⟩⟩
def cX (ops:Array Oper)(i:Nat):List Nat:=
 match ops[i]? with
 |some o=>(o.after.toList.filter (Region.binds .any)).map (·.on)
 |none=>[]
def eI (ops:Array Oper):Nat→Nat→Nat→Bool
 |0,_,_=>false
 |n+1,i,j=>(cX ops i).contains j||(cX ops i).any (fun p=>eI ops n p j)
def tmpsOf (o:Oper):List Tmp:=o.op.operands.toList.filterMap fun|.tmp t=>some t|_=>none
def nk (ops:Array Oper)(nR i:Nat)(o:Oper):Bool:=
 ((tmpsOf o).all fun t=>(List.range nR).all fun j=>br ops j !=some t||(decide (j<i)&&(cX ops i).contains j))&&
 (
  match o.guard with
  |none=>true
  |some (g,_)=>decide (g<i)&&(cX ops i).contains g)&&
 ((List.range nR).all fun j=>j==i||(br ops j).isNone||br ops j !=br ops i)
def sU (ops:Array Oper)(nR:Nat):Bool:=
 decide (nR≤ops.size)&&
 (List.range ops.size).all fun i=>match ops[i]? with
  |none=>false
  |some o=>((cX ops i).all fun p=>decide (p<i))&&
   (if i<nR then nk ops nR i o else(List.range i).all fun j=>eI ops ops.size i j)
structure xi (ops:Array Oper) (nR:Nat):Prop where
 le:nR≤ops.size
 pred:∀i o,ops[i]? =some o→∀p∈cX ops i,p<i
 data:∀i o,ops[i]? =some o→i<nR→∀t,t∈tmpsOf o→∀j,j<nR→br ops j=some t→j<i∧j∈cX ops i
 guard:∀i o g want,ops[i]? =some o→i<nR→o.guard=some (g,want)→g<i∧g∈cX ops i
 dst:∀j k t,j<nR→k<nR→j≠k→br ops j=some t→br ops k=some t→False
 clos:∀i,i<ops.size→nR≤i→∀j,j<i→eI ops ops.size i j=true
theorem zp {ops:Array Oper}{nR:Nat}(h:sU ops nR=true):xi ops nR:=by
 unfold sU at h;simp only[Bool.and_eq_true,decide_eq_true_eq,List.all_eq_true,List.mem_range]at h;obtain⟨hle,h⟩:=h;have hi:∀i o,ops[i]? =some o→((cX ops i).all fun p=>decide (p<i))=true∧(if i<nR then nk ops nR i o else(List.range i).all fun j=>eI ops ops.size i j)=true:=by
  intro i o ho
  have:=h i (Array.getElem?_eq_some_iff.1 ho).1
  rw[ho]at this
  simpa using this
 have hR:∀i o,ops[i]? =some o→i<nR→nk ops nR i o=true:=fun i o ho hlt=>by
  have:=(hi i o ho).2
  rw[if_pos hlt]at this;exact this
 refine⟨hle,fun i o ho p hp=>?_,fun i o ho hlt t ht j hj hd=>?_,fun i o g want ho hlt hg=>?_,fun j k t hj hk hjk h1 h2=>?_,fun i hi' hge j hj=>?_⟩
 ·have:=List.all_eq_true.1 (hi i o ho).1 p hp
  simpa using this
 ·have:=hR i o ho hlt
  unfold nk at this;simp only[Bool.and_eq_true,List.all_eq_true,List.mem_range]at this
  have:=this.1.1 t ht j hj
  rw[hd]at this;simp at this;exact this
 ·have:=hR i o ho hlt
  unfold nk at this;simp only[Bool.and_eq_true]at this
  have:=this.1.2
  rw[hg]at this
  simpa using this
 ·have hkk:k<ops.size:=by omega
  have:=hR k ops[k] (Array.getElem?_eq_getElem hkk) hk
  unfold nk at this;simp only[Bool.and_eq_true,List.all_eq_true,List.mem_range]at this
  have:=this.2 j hj
  rw[h1,h2]at this;simp at this;exact hjk this
 have:=(hi i ops[i] (Array.getElem?_eq_getElem hi')).2
 rw[if_neg (by omega)]at this;exact List.all_eq_true.1 this j (by simpa using hj)
end Go.Eng
/-
  THE ENGINE, PART R: a statement whose order is open, put together.
-/
namespace Go.Eng
open Go
section
variable {P:Program}{ops:Array Oper}{nR:Nat}
theorem aU {listed:Array Bool}{i j:Nat}(hi:i<listed.size):(listed.setIfInBounds i true).getD j false=(listed.getD j false||j==i):=by
 by_cases h:i=j
 ·subst h
  simp[Array.getD,hi]
 rw[getD_set_ne false h]
 simp;intro e;exact absurd e.symm h
theorem fm {listed:Array Bool}(hdown:∀i,listed.getD i false=true→∀p∈cX ops i,listed.getD p false=true):∀n i j,(∀p∈cX ops i,listed.getD p false=true)→eI ops n i j=true→listed.getD j false=true:=by
 intro n
 induction n with
 |zero=>intro i j _ h;simp[eI]at h
 |succ n ih=>
  intro i j hp h;simp only[eI,Bool.or_eq_true,List.any_eq_true]at h
  rcases h with h|⟨p,hpm,h⟩
  ·exact hp j (by simpa using h)
  exact ih p j (hdown p (hp p hpm)) h
theorem gX {listed:Array Bool}{i:Nat}(h:i∈Region.ready .any ops listed):(∀p∈cX ops i,listed.getD p false=true)∧i<ops.size∧listed.getD i true=false:=by
 obtain⟨h0,o,ho,hall⟩:=mem_ready.1 h;refine⟨fun p hp=>?_,(Array.getElem?_eq_some_iff.1 ho).1,h0⟩;unfold cX at hp;rw[ho]at hp;obtain⟨e,he,rfl⟩:=List.mem_map.1 hp;obtain⟨he1,he2⟩:=List.mem_filter.1 he;exact hall e (by simpa using he1) he2
theorem my {listed:Array Bool}{i:Nat}{o:Oper}(ho:ops[i]? =some o)(hu:listed.getD i true=false)(h:∀p∈cX ops i,listed.getD p false=true):i∈Region.ready .any ops listed:=by
 refine mem_ready.2 ⟨hu,o,ho,fun e he hb=>h e.on ?_⟩;unfold cX;rw[ho];exact List.mem_map.2 ⟨e,List.mem_filter.2 ⟨by simpa using he,hb⟩,rfl⟩
def iF (ops:Array Oper)(listed:Array Bool):Nat:=(List.range ops.size).countP (fun i=>!listed.getD i false)
theorem oJ {listed:Array Bool}{i:Nat}(hsz:listed.size=ops.size)(hi:i<ops.size)(hu:listed.getD i true=false):iF ops (listed.setIfInBounds i true)+1=iF ops listed:=by
 unfold iF;have hf:listed.getD i false=false:=by
  have hlt:i<listed.size:=by omega
  simp[Array.getD,hlt]at hu⊢
  exact hu
 have key:∀l:List Nat,l.Nodup→(l.countP (fun j=>!(listed.setIfInBounds i true).getD j false))+(if i∈l then 1 else 0)=l.countP (fun j=>!listed.getD j false):=by
  intro l
  induction l with
  |nil=>intro _;simp
  |cons x l ih=>
   intro hnd;obtain⟨hx,hnd⟩:=List.nodup_cons.1 hnd;have ih':=ih hnd;simp only[List.countP_cons,aU (by omega:i<listed.size)]
   by_cases hxi:x=i
   ·subst hxi;rw[if_neg hx]at ih';simp only[hf,beq_self_eq_true,Bool.or_true,Bool.not_true,Bool.false_eq_true,if_false,Bool.not_false,if_true,List.mem_cons,true_or];simp only[aU (by omega:x<listed.size)]at ih';omega
   have hne:(x==i)=false:=by simpa using hxi
   have hmem:(i∈x::l)↔i∈l:=by simp[List.mem_cons];intro e;exact absurd e.symm hxi
   simp only[hne,Bool.or_false];simp only[hmem];simp only[aU (by omega:i<listed.size)]at ih';omega
 have:=key (List.range ops.size) List.nodup_range
 rw[if_pos (by simpa using hi)]at this;exact this
theorem rH {listed:Array Bool}(h:iF ops listed=0):∀i,i<ops.size→listed.getD i false=true:=by
 intro i hi;unfold iF at h;rw[List.countP_eq_zero]at h
 have:=h i (by simpa using hi)
 simpa using this
variable {σ:St}{es:Nat→ey}{K:St→Prop}
structure D6 (P:Program) (G:Ctx) (ops:Array Oper) (nR:Nat) (σ:St) (es:Nat→ey) (K:St→Prop) (listed:Array Bool) (a:Act) (w:World):Prop where
 size:listed.size=ops.size
 down:∀i,listed.getD i false=true→∀p∈cX ops i,listed.getD p false=true
 where_:((∀i,listed.getD i false=true→i<nR)∧vA G (fun b=>b<σ.nx∨∃j,j<nR∧listed.getD j false=true∧b=σ.nx+j) (aH σ σ.nx ops es (fun j=>listed.getD j false) nR) a w)∨
  (∃k,nR≤k∧k≤ops.size∧(∀i,i<ops.size→(listed.getD i false=true↔i<k))∧∃s,vo P ops (ops.toList.drop k) s K∧qc G s a w)
theorem D6.later (hck:xi ops nR)(hW:vo P ops (ops.toList.drop nR) {aH σ σ.nx ops es (fun _=>true) nR with nx:=σ.nx+ops.size} K)
  {G:Ctx} {listed:Array Bool} {a:Act} {w:World} (h:D6 P G ops nR σ es K listed a w) (hall:∀j,j<nR→listed.getD j false=true):
  ∃k,nR≤k∧k≤ops.size∧(∀i,i<ops.size→(listed.getD i false=true↔i<k))∧∃s,vo P ops (ops.toList.drop k) s K∧qc G s a w:=by
 rcases h.where_ with⟨hlt,ρ,hsim⟩|hk
 ·refine⟨nR,Nat.le_refl _,hck.le,fun i _=>⟨hlt i,hall i⟩,_,hW,ρ,?_⟩;rw[cC (L:=fun j=>listed.getD j false) (L':=fun _=>true) nR (fun j hj=>hall j hj)]at hsim;have h2:=hsim.cQ (dom':=fun b=>b<σ.nx+ops.size) (fun b hb=>by
   have:=hck.le
   rcases hb with hb|⟨j,hj,_,rfl⟩<;>omega)
  exact h2.I4 ⟨fun _=>rfl,fun _=>rfl,rfl⟩
 exact hk
theorem MF (hck:xi ops nR){i:Nat}{o:Oper}(ho:ops[i]? =some o)(hi:i<nR){listed:Array Bool}(hp:∀p∈cX ops i,listed.getD p false=true):
  rJ (aH σ σ.nx ops es (fun _=>true) i) (aH σ σ.nx ops es (fun j=>listed.getD j false) nR) σ.nx o:=by
 refine⟨by rw[fH,fH],fun x hx=>?_,fun b hb=>by rw[jh _ nR b hb,jh _ i b hb]⟩
 cases x with
 |tmp t=>
  have htm:t∈tmpsOf o:=List.mem_filterMap.2 ⟨.tmp t,by simpa using hx,rfl⟩;show lk _ t=lk _ t
  by_cases hex:∃j,j<nR∧br ops j=some t
  ·obtain⟨j,hj,hd⟩:=hex;obtain⟨hji,hjp⟩:=hck.data i o ho hi t htm j hj hd;rw[dz (N:=nR) (fun j=>listed.getD j false) hd (hp j hjp) hck.dst nR (Nat.le_refl _) hj,dz (N:=nR) (fun _=>true) hd rfl hck.dst i (by omega) hji]
  rw[og _ t nR (fun j hj h=>hex ⟨j,hj,h⟩),og _ t i (fun j hj h=>hex ⟨j,by omega,h⟩)]
 |const v=>rfl
 |global g=>rfl
 |func f=>rfl
theorem yK (hck:xi ops nR)(hfz:∀j,∀b∈(es j).fz,b<σ.nx)
  (hstep:∀(i:Nat) o,i<nR→ops[i]? =some o→lA P ops σ.nx i o (aH σ σ.nx ops es (fun _=>true) i) (es i))
  (hW:vo P ops (ops.toList.drop nR) {aH σ σ.nx ops es (fun _=>true) nR with nx:=σ.nx+ops.size} K)
  {G:Ctx} {Q:Exit→Act→World→Prop} (hQ:∀s a w,K s→qc G s a w→Q .normal a w):
  ∀(fuel:Nat) (listed:Array Bool) (a:Act) (w:World),D6 P G ops nR σ es K listed a w→iF ops listed≤fuel→wpAny P .any ops Q fuel listed a w:=by
 intro fuel
 induction fuel with
 |zero=>
  intro listed a w h hf;have hall:=rH (Nat.le_zero.1 hf);refine⟨?_,?_⟩
  ·cases hr:Region.ready .any ops listed with
   |nil=>rfl
   |cons i l=>
    obtain⟨_,hi,hu⟩:=gX (i:=i) (listed:=listed) (ops:=ops) (by rw[hr];simp);have h1:=hall i hi;have hlt:i<listed.size:=by rw[h.size];exact hi
    simp[Array.getD,hlt]at h1 hu
    rw[h1]at hu;cases hu
  obtain⟨k,hk1,hk2,hk3,s,hs,hsim⟩:=h.later hck hW (fun j hj=>hall j (by have:=hck.le;omega));have hke:k=ops.size:=by
   rcases Nat.lt_or_ge k ops.size with hlt|hge
   ·have:=(hk3 k hlt).1 (hall k hlt);omega
   omega
  subst hke;rw[List.drop_eq_nil_of_le (by simp)]at hs;exact hQ s a w hs hsim
 |succ fuel ih=>
  intro listed a w h hf;refine⟨fun hr=>?_,fun i hi=>?_⟩
  ·-- none is ready: all have been
   have hall:∀n i,i<n→i<ops.size→listed.getD i false=true:=by
    intro n
    induction n with
    |zero=>intro i hi;omega
    |succ n ihn=>
     intro i hin his
     by_cases hu:listed.getD i false=true
     ·exact hu
     have hlt:i<listed.size:=by rw[h.size];exact his
     have hu':listed.getD i true=false:=by
      simp[Array.getD,hlt]at hu⊢
      exact hu
     have hm:=my (ops:=ops) (Array.getElem?_eq_getElem his) hu' (fun p hp=>ihn p (by have:=hck.pred i _ (Array.getElem?_eq_getElem his) p hp;omega) (by have:=hck.pred i _ (Array.getElem?_eq_getElem his) p hp;omega));rw[hr]at hm;cases hm
   obtain⟨k,hk1,hk2,hk3,s,hs,hsim⟩:=h.later hck hW (fun j hj=>hall _ j (Nat.lt_succ_self _) (by have:=hck.le;omega));have hke:k=ops.size:=by
    rcases Nat.lt_or_ge k ops.size with hlt|hge
    ·have:=(hk3 k hlt).1 (hall _ k (Nat.lt_succ_self _) hlt);omega
    omega
   subst hke;rw[List.drop_eq_nil_of_le (by simp)]at hs;exact hQ s a w hs hsim
  obtain⟨hp,his,hu⟩:=gX hi;have ho:=Array.getElem?_eq_getElem his;have hcount:=oJ h.size his hu;have hlt:i<listed.size:=by rw[h.size];exact his
  have hu':listed.getD i false=false:=by
   simp[Array.getD,hlt]at hu⊢
   exact hu
  have hdown':∀j,(listed.setIfInBounds i true).getD j false=true→∀p∈cX ops j,(listed.setIfInBounds i true).getD p false=true:=by
   intro j hj p hpj;rw[aU hlt]at hj⊢
   rcases Bool.or_eq_true_iff.1 hj with hj|hj
   ·rw[h.down j hj p hpj];rfl
   have:j=i:=by simpa using hj
   subst this;rw[hp p hpj];rfl
  by_cases hiR:i<nR
  ·-- one that only looks
   rcases h.where_ with⟨hlR,ρ,hsim⟩|⟨k,hk1,hk2,hk3,_⟩
   ·have hst:=hstep i ops[i] hiR ho;have hagr:=MF (σ:=σ) (es:=es) hck ho hiR hp;have hstand:∀a' w',vA G (fun b=>(b<σ.nx∨∃j,j<nR∧listed.getD j false=true∧b=σ.nx+j)∨b=σ.nx+i) ((aH σ σ.nx ops es (fun j=>listed.getD j false) nR).add (br ops i) (σ.nx+i) (es i)) a' w'→
      D6 P G ops nR σ es K (listed.setIfInBounds i true) a' w':=by
     rintro a' w' ⟨ρ',h1⟩;refine⟨by simpa using h.size,hdown',.inl ⟨fun j hj=>?_,ρ',?_⟩⟩
     ·rw[aU hlt]at hj
      rcases Bool.or_eq_true_iff.1 hj with hj|hj
      ·exact hlR j hj
      have:j=i:=by simpa using hj
      omega
     have h2:=h1.cQ (dom':=fun b=>b<σ.nx∨∃j,j<nR∧(listed.setIfInBounds i true).getD j false=true∧b=σ.nx+j) (fun b hb=>by
      rcases hb with(hb|⟨j,hj,hlj,rfl⟩)|rfl
      ·exact .inl hb
      ·exact .inr ⟨j,hj,by rw[aU hlt,hlj];rfl,rfl⟩
      exact .inr ⟨i,hiR,by rw[aU hlt];simp,rfl⟩)
     have h3:=nB (σ:=σ) (nx0:=σ.nx) (e:=es) (N:=nR) (L:=fun j=>listed.getD j false) (i:=i) hu' hck.dst hfz nR (Nat.le_refl _) hiR;have h4:=h2.I4 h3.symm
     rw[cC (L:=fun j=>listed.getD j false||j==i) (L':=fun j=>(listed.setIfInBounds i true).getD j false) nR (fun j _=>(aU hlt).symm)]at h4
     exact h4
    have hdst:br ops i=ops[i].dst:=by unfold br;rw[ho];rfl
    have hid:¬(σ.nx+i<σ.nx∨∃j,j<nR∧listed.getD j false=true∧σ.nx+i=σ.nx+j):=by
     rintro(h1|⟨j,_,hj,he⟩)
     ·omega
     have:i=j:=by omega
     subst this;rw[hu']at hj;cases hj
    unfold wpOp;simp only[ho];obtain⟨hdl,hst⟩:=hst;have doit:bm P ops[i] (aH σ σ.nx ops es (fun _=>true) i) σ.nx (σ.nx+i) (es i)→ops[i].wp P a w (wpAny P .any ops Q fuel (listed.setIfInBounds i true)) Q:=by
     intro hre;refine hre.1 G _ ρ _ a w hsim hid hagr Q _ fun v w' h5=>?_;refine ih _ _ _ (hstand _ _ ?_) (by omega);rw[hdst];exact h5
    split at hst
    ·rename_i hg
     rw[gZ hg,if_pos rfl];exact .inl (doit hst)
    rename_i g want hg
    obtain⟨t,b,ht,hb,hst⟩:=hst;obtain⟨hgi,hgp⟩:=hck.guard i _ g want ho hiR hg;have hgR:g<nR:=by omega
    have hb':gv (lk (aH σ σ.nx ops es (fun j=>listed.getD j false) nR).env t)=some b:=by
     rw[dz (N:=nR) (fun j=>listed.getD j false) (t:=t) (j:=g) ht (hp g hgp) hck.dst nR (Nat.le_refl _) hgR];rw[dz (N:=nR) (fun _=>true) (t:=t) (j:=g) ht rfl hck.dst i (by omega) hgi]at hb;exact hb
    rw[nG hsim hg ht hb']
    by_cases hbw:b=some want
    ·rw[if_pos hbw]at hst;rw[if_pos (by simp[hbw])];exact .inl (doit hst)
    rw[if_neg hbw]at hst;rw[if_neg (by simpa using hbw)];refine ih _ _ _ (hstand _ _ ⟨ρ,?_⟩) (by omega);rw[hst,hdst];have h5:=hsim.put (dst:=ops[i].dst) (x:=.aJ []) (v:=undef) (fun d hd=>by have:=hdl d hd;rw[fH]at this⊢;exact this) ⟨#[],rfl,trivial⟩;have h6:=h5.cQ (dom':=fun b=>(b<σ.nx∨∃j,j<nR∧listed.getD j false=true∧b=σ.nx+j)∨b=σ.nx+i) (fun b hb=>Or.inl hb);unfold ey.skip;rw[St.add_plain];exact h6
   have:=(hk3 i his).2 (by omega)
   rw[hu']at this;cases this
  -- one that writes: all that stand ahead of it have been
  have hahead:∀j,j<i→listed.getD j false=true:=fun j hj=>fm h.down _ i j hp (hck.clos i his (by omega) j hj);obtain⟨k,hk1,hk2,hk3,s,hs,hsim⟩:=h.later hck hW (fun j hj=>hahead j (by omega));have hki:k=i:=by
   rcases Nat.lt_trichotomy k i with hlt'|rfl|hgt
   ·have:=(hk3 k (by omega)).1 (hahead k hlt');omega
   ·rfl
   have:=(hk3 i his).2 hgt;rw[hu']at this;cases this
  subst hki;have hdrop:ops.toList.drop k=ops[k]::ops.toList.drop (k+1):=by
   rw[List.drop_eq_getElem_cons (by simpa using his)];rfl
  rw[hdrop]at hs;refine G9.step ho hs.2 hs.1 hsim fun s' a' w' hs'' hsim'=>ih _ _ _ ?_ (by omega);refine⟨by simpa using h.size,hdown',.inr ⟨k+1,by omega,by omega,fun j hj=>?_,s',hs'',hsim'⟩⟩;rw[aU hlt]
  by_cases hjk:j=k
  ·subst hjk;simp
  have hne:(j==k)=false:=by simpa using hjk
  rw[hne,Bool.or_false,hk3 j hj];omega
end
def AY (f:Nat→Nat→C)(off len:Nat):Nat→Nat→C:=fun i j=>if off≤i then(if i<off+len then .any else f i j)else f i j
def yU (xs:List Int)(off len:Nat):List Int:=xs.take off++(List.replicate len 0++xs.drop (off+len))
def uL (T:fP)(s:St)(dst:Option Tmp)(t:TypeId)(x:Operand)(K:St→Prop):Prop:=
 match T t with
 |some S=>match S.k with
  |.sl e=>match T e with
   |some E=>match s.ev x with
    |.one (.own b wd off len)=>match lo s.own b with
     |some ⟨.rows e' w n f,rw⟩=>rw=true∧wd=w∧E.size=w∧E.zero.length=w∧0<w∧K {s.put dst .unk with own:=iX s.own b ⟨.rows e' w n (AY f off len),true⟩}
     |some ⟨.ints e' k xs,rw⟩=>rw=true∧wd=1∧E.size=1∧E.zero=[.int k 0]∧K {s.put dst .unk with own:=iX s.own b ⟨.ints e' k (yU xs off len),true⟩}
     |_=>False
    |_=>False
   |none=>False
  |_=>False
 |none=>False
theorem IV (xs:List Int)(off len:Nat)(h:off+len≤xs.length)(j:Nat):(yU xs off len)[j]? =if off≤j∧j<off+len then some 0 else xs[j]? :=by
 unfold yU;rw[List.getElem?_append,List.getElem?_append,X5,List.length_replicate]
 by_cases h1:j<off
 ·rw[if_pos (by omega),if_neg (by omega),List.getElem?_take,if_pos h1]
 rw[if_neg (by omega)]
 by_cases h2:j<off+len
 ·rw[if_pos (by omega),if_pos (by omega),List.getElem?_replicate,if_pos (by omega)]
 rw[if_neg (by omega),if_neg (by omega),List.getElem?_drop];congr 1;omega
theorem Aj (xs:List Int)(off len:Nat)(h:off+len≤xs.length):(yU xs off len).length=xs.length:=by
 unfold yU;simp;omega
theorem wK {P:Program}{w:World}{t ty e:TypeId}{i:TypeInfo}{z:Value}(ht:P.underlying t=some (.slice e))(hi:P.info? e=some i)(hz:i.zero=some z)(g o len cap:Nat){cur:Array Value}{e':TypeId}(hg:w.heap[g]? =some (.cells cur e' (0,0)))
  (hfit:o+len*z.cells.size≤cur.size) (h1:z.cells.toList.all Value.oneCell'=true) (hsz:0<z.cells.size) (hlen:0<len):
  (Builtin.clear_ #[t] ty #[.slice (some ⟨g,o,none⟩) len cap]).run P w= .ok (.tuple #[]) (w.setRow g (cur.toList.take o++(Builtin.zeroCells z.cells len).toList++cur.toList.drop (o+len*z.cells.size)).toArray):=by
 have hzl:(Builtin.zeroCells z.cells len).toList.length=len*z.cells.size:=by simp[Builtin.zeroCells]
 have hone:∀u∈(Builtin.zeroCells z.cells len).toList,u.oneCell'=true:=by
  intro u hu;simp only[Builtin.zeroCells,Array.toList_map,List.mem_map]at hu;obtain⟨k,_,rfl⟩:=hu;have hk:k%z.cells.size<z.cells.size:=Nat.mod_lt _ hsz;rw[getElem!_pos z.cells _ hk];exact List.all_eq_true.1 h1 _ (by simp)
 have hst:=run_storeCells_at P g o e' (Builtin.zeroCells z.cells len).toList 0 cur w hg (by rw[hzl];simpa using hfit) hone;simp only[Nat.add_zero,hzl]at hst
 cases len with
 |zero=>omega
 |succ len=>
  simp only[Builtin.clear_,List.getElem?_toArray,List.getElem?_cons_zero,Sem.run_bind,av ht,Result.andThen_ok,fj hi hz,hst,Sem.run_pure]
section
variable {P:Program}{T:fP}(hT:fg P T)
include hT
theorem Mm {
        o:Oper} {s:St} {K:St→Prop} {c:Call} (ho:o.op= .call c) (hcal:c.callee= .builtin .clear) {x:Operand} (hargs:c.args= #[x]) {t:TypeId} (htys:c.argTypes= #[t]) (hdn:bZ o s.n) (h:uL T s o.dst t x K):nN P o s K:=by
 unfold uL at h
 cases hTt:T t with
 |none=>rw[hTt]at h;exact h.elim
 |some S=>
  rw[hTt]at h;simp only at h
  split at h
  ·rename_i e hSk
   have hu:=fD hT hTt hSk
   cases hTe:T e with
   |none=>rw[hTe]at h;exact h.elim
   |some E=>
    rw[hTe]at h;simp only at h;obtain⟨ei,ed,ez,hei,heu,hez,hek,hes,_,hzc,hall⟩:=bI hT hTe;have hzl:E.zero.length=ez.cells.size:=by rw[hzc];simp
    split at h
    ·rename_i b wd off len hx
     intro G a w hsim Q next hk;obtain⟨ρ,hs⟩:=hsim;have hev:=hs.ev x;rw[hx]at hev;have hrun:∀(v:Value) (w':World),a.eval x=v→(∀ty,(Builtin.clear_ #[t] ty #[v]).run P w= .ok (.tuple #[]) w')→(execOp a.eval o).run P w= .ok (.value (.tuple #[])) w':=by
      intro v w' hv hr;unfold execOp;rw[ho];simp only[resolve,hcal,Sem.run_bind,Sem.run_pure,Result.andThen_ok,invoke,Go.builtin,hargs,htys,List.map_toArray,List.map_cons,List.map_nil,hv,hr]
     obtain⟨_,hle,cap,hcap,hval⟩:=hev;have hput:∀(w':World) (own':List (Nat×gI)),a7 G (fun b=>b<s.nx) ρ {s with own:=own'} a w'→qc G {s.put o.dst .unk with own:=own'} (a.put o.dst (.tuple #[])) w':=by
      intro w' own' h1;have h2:=h1.put (dst:=o.dst) (x:=.unk) (v:=.tuple #[]) hdn trivial
      cases hd:o.dst with
      |none=>rw[hd]at h2;exact⟨ρ,h2⟩
      |some d=>rw[hd]at h2;exact⟨ρ,h2⟩
     by_cases hl0:len=0
     ·subst hl0;have hclr:∀v,v=a.eval x→(∃ad,v= .slice ad 0 cap)→∀ty,(Builtin.clear_ #[t] ty #[v]).run P w= .ok (.tuple #[]) w:=by
       rintro v _ ⟨ad,rfl⟩ ty
       cases ad<;>simp only[Builtin.clear_,List.getElem?_toArray,List.getElem?_cons_zero,Sem.run_bind,av hu,Result.andThen_ok,Sem.run_pure]
      have hsl:∃ad,a.eval x= .slice ad 0 cap:=by
       rcases hval with⟨g,o1,o2,_,hv,_⟩|⟨_,hv,_,hc0⟩
       ·exact⟨_,hv⟩
       exact⟨none,by rw[hv,hc0]⟩
      have hr:=hrun _ w rfl (hclr _ rfl hsl);have hsame:∀own',(∀b',lo own' b'=lo s.own b')→a7 G (fun b=>b<s.nx) ρ {s with own:=own'} a w:=fun own' he=>hs.I4 ⟨fun _=>rfl,fun b'=>(he b').symm,rfl⟩
      split at h
      ·rename_i e' w0 n f rw_ hlo
       obtain⟨rfl,rfl,_,_,_,hK⟩:=h;refine Oper.dN hr (hk _ _ _ hK (hput _ _ (hsame _ fun b'=>?_)));rw[dk]
       split
       ·rename_i hb;subst hb;rw[hlo]
        have:AY f off 0=f:=by funext i j;unfold AY;by_cases h1:off≤i<;>simp [h1];omega
        rw[this]
       rfl
      ·rename_i e' k xs rw_ hlo
       obtain⟨rfl,rfl,_,_,hK⟩:=h;refine Oper.dN hr (hk _ _ _ hK (hput _ _ (hsame _ fun b'=>?_)));rw[dk]
       split
       ·rename_i hb;subst hb;rw[hlo]
        have:yU xs off 0=xs:=by unfold yU;simp
        rw[this]
       rfl
      exact h.elim
     rcases hval with⟨g,o1,o2,haddr,hv,ho2,_⟩|⟨_,_,h0,_⟩
     ·have ho3:o2=o1+off*wd:=by rcases ho2 with h1|h1<;>omega
      subst ho3
      split at h
      ·rename_i e' w0 n f rw_ hlo
       obtain⟨rfl,rfl,hE,hEz,hpos,hK⟩:=h;have hzs:ez.cells.size=wd:=by omega
       obtain⟨_,hlenρ,hrep,_⟩:=hs.own b _ hlo;unfold aT at hrep;rw[haddr]at hrep;obtain⟨cur,ee,hg,hc⟩:=hrep;simp only at hc;rw[hlenρ]at hle;simp only[Bk.len]at hle;have hmul:(off+len)*wd≤n*wd:=Nat.mul_le_mul_right _ hle;have hmul2:(off+len)*wd=off*wd+len*wd:=Nat.add_mul _ _ _;have hlw:0<len*wd:=Nat.mul_pos (by omega) hpos;have hfit:o1+off*wd+len*ez.cells.size≤cur.size:=by
        rw[hzs];obtain⟨u,hu',_⟩:=hc (n*wd-1) (f ((n*wd-1)/wd) ((n*wd-1)%wd)) (by simp only[Bk.cell];rw[if_pos (by omega)])
        have:=(Array.getElem?_eq_some_iff.1 hu').1
        omega
       have hr:=hrun _ _ hv (fun ty=>wK (ty:=ty) hu hei hez g (o1+off*wd) len cap hg hfit hall (by omega) (by omega));refine Oper.dN hr (hk _ _ _ hK (hput _ _ ?_));have hzl2:(Builtin.zeroCells ez.cells len).toList.length=len*wd:=by simp[Builtin.zeroCells,hzs]
       have hsz:((cur.toList.take (o1+off*wd)++(Builtin.zeroCells ez.cells len).toList++cur.toList.drop (o1+off*wd+len*ez.cells.size)).toArray).size=cur.size:=by
        simp only[List.size_toArray,X6,X5,List.length_drop,hzl2,Array.length_toList];rw[hzs]at hfit⊢;omega
       refine hs.write hlo haddr hg hsz (.rows e' wd n (AY f off len)) rfl fun j c' hj=>?_;simp only[Bk.cell]at hj
       split at hj
       ·rename_i hjn
        simp only[Option.some.injEq]at hj;have hlg:=kH cur.toList (o1+off*wd) (Builtin.zeroCells ez.cells len).toList (by rw[hzl2];simp only[Array.length_toList];rw[hzs]at hfit;omega) (o1+j);rw[hzl2]at hlg;have hd1:=Nat.div_add_mod j wd;have hd2:=Nat.mod_lt j hpos;simp only[List.getElem?_toArray,hzs,hlg]
        by_cases hm:off*wd≤j∧j<off*wd+len*wd
        ·rw[if_pos (by omega)];have hi1:off≤j/wd:=(Nat.le_div_iff_mul_le hpos).2 hm.1;have hi2:j/wd<off+len:=(Nat.div_lt_iff_lt_mul hpos).2 (by omega);have hcany:c'= .any:=by rw[←hj];unfold AY;rw[if_pos hi1,if_pos hi2]
         subst hcany;have hlt:o1+j-(o1+off*wd)<(Builtin.zeroCells ez.cells len).toList.length:=by rw[hzl2];omega
         refine⟨_,X8 hlt,?_⟩;show Value.oneCell' _=true;simp only[Builtin.zeroCells,Array.getElem_toList,Array.getElem_map,Array.getElem_range];have hkk:(o1+j-(o1+off*wd))%ez.cells.size<ez.cells.size:=Nat.mod_lt _ (by omega);rw[getElem!_pos ez.cells _ hkk];exact List.all_eq_true.1 hall _ (by simp)
        rw[if_neg (by omega),Array.getElem?_toList];have hcf:c'=f (j/wd) (j%wd):=by
         rw[←hj];unfold AY
         by_cases hi1:off≤j/wd
         ·rw[if_pos hi1,if_neg];intro hi2;have a1:=(Nat.le_div_iff_mul_le hpos).1 hi1;have a2:=(Nat.div_lt_iff_lt_mul hpos).1 hi2;omega
         rw[if_neg hi1]
        exact hc j c' (by simp only[Bk.cell];rw[if_pos hjn,hcf])
       cases hj
      ·rename_i e' k xs rw_ hlo
       obtain⟨rfl,rfl,hE,hEz,hK⟩:=h;have hzs:ez.cells.size=1:=by rw[←hzl,hEz];rfl
       have hmm:len*ez.cells.size=len:=by rw[hzs,Nat.mul_one]
       obtain⟨_,hlenρ,hrep,_⟩:=hs.own b _ hlo;unfold aT at hrep;rw[haddr]at hrep;obtain⟨cur,ee,hg,hc⟩:=hrep;simp only at hc;rw[hlenρ]at hle;simp only[Bk.len]at hle;have hfit:o1+off*1+len*ez.cells.size≤cur.size:=by
        obtain⟨u,hu',_⟩:=hc (xs.length-1) (.int k xs[xs.length-1]) (by simp only[Bk.cell];rw[X8 (by omega)];rfl)
        have:=(Array.getElem?_eq_some_iff.1 hu').1
        omega
       have hr:=hrun _ _ hv (fun ty=>wK (ty:=ty) hu hei hez g (o1+off*1) len cap hg hfit hall (by omega) (by omega));refine Oper.dN hr (hk _ _ _ hK (hput _ _ ?_));have hzl2:(Builtin.zeroCells ez.cells len).toList.length=len:=by simp[Builtin.zeroCells,hzs]
       have hsz:((cur.toList.take (o1+off*1)++(Builtin.zeroCells ez.cells len).toList++cur.toList.drop (o1+off*1+len*ez.cells.size)).toArray).size=cur.size:=by
        simp only[List.size_toArray,X6,X5,List.length_drop,hzl2,Array.length_toList];omega
       refine hs.write hlo haddr hg hsz (.ints e' k (yU xs off len)) (Aj xs off len hle) fun j c' hj=>?_;simp only[Bk.cell,IV xs off len hle]at hj;have hlg:=kH cur.toList (o1+off*1) (Builtin.zeroCells ez.cells len).toList (by rw[hzl2];simp only[Array.length_toList];omega) (o1+j);rw[hzl2]at hlg;simp only[List.getElem?_toArray,hmm,hlg]
       by_cases hm:off≤j∧j<off+len
       ·rw[if_pos hm]at hj;simp only[Option.map_some,Option.some.injEq]at hj;subst hj;rw[if_pos (by omega)];have hlt:o1+j-(o1+off*1)<(Builtin.zeroCells ez.cells len).toList.length:=by rw[hzl2];omega
        refine⟨_,X8 hlt,?_⟩;simp only[Builtin.zeroCells,Array.getElem_toList,Array.getElem_map,Array.getElem_range];have hz0:ez.cells.toList.map Db=[.int k 0]:=by rw[←hzc];exact hEz
        obtain⟨v0,hv0⟩:∃v0,ez.cells.toList=[v0]:=List.length_eq_one_iff.1 (by simpa using hzs);rw[hv0]at hz0;have hcv:Db v0= .int k 0:=by simpa using hz0
        have hone:v0.oneCell'=true:=List.all_eq_true.1 hall _ (by rw[hv0];simp);have hrr:=Aq (ok:=aQ G s.own ρ w) (w:=w) v0 hone;rw[hcv]at hrr;have hkk:(o1+j-(o1+off*1))%ez.cells.size<ez.cells.size:=Nat.mod_lt _ (by omega);rw[getElem!_pos ez.cells _ hkk];have hv1:ez.cells[(o1+j-(o1+off*1))%ez.cells.size]=v0:=by
         have:ez.cells.toList[(o1+j-(o1+off*1))%ez.cells.size]? =some v0:=by
          rw[hv0,hzs,Nat.mod_one];rfl
         rw[Array.getElem?_toList,Array.getElem?_eq_getElem hkk]at this;exact Option.some.inj this
        rw[hv1];exact hrr
       rw[if_neg hm]at hj;rw[if_neg (by omega),Array.getElem?_toList];exact hc j c' hj
      exact h.elim
     omega
    exact h.elim
  exact h.elim
end
end Go.Eng
/-
  THE ENGINE, PART T: a statement whose order is open, where some operations that make nothing may come later than those that write.
-/
namespace Go.Eng
open Go
inductive WL where
 |nil
 |cons (i:Nat) (pd:List Nat) (sub alt:WL)
 /-- a new variable (operation 'q', slot 'd') that may be made before those that write, or behind the first of them -/
 |opt (q d:Nat) (t1 t2:WL)
def j6:WL→Nat→Bool
 |.nil,_=>false
 |.cons i _ sub _,j=>if j=i then true else j6 sub j
 |.opt _ _ _ _,_=>false
def bP (ws:WL)(i:Nat):Bool:=!j6 ws i
def rG:WL→Nat→Bool
 |.nil,_=>false
 |.cons i _ _ alt,j=>if j=i then true else rG alt j
 |.opt _ _ _ _,_=>false
def jO:Op→Bool
 |.alloc _=>true
 |_=>false
def xI:Op→Bool
 |.select _ _=>false
 |_=>true
def Li (ops:Array Oper)(ws:WL)(i:Nat)(o:Oper):Bool:=
 ((tmpsOf o).all fun t=>(List.range ops.size).all fun j=>br ops j !=some t||(if bP ws j then decide (j<i)&&(cX ops i).contains j else eI ops ops.size j i))&&
 (
  match o.guard with
  |none=>true
  |some (g,_)=>decide (g<i)&&(cX ops i).contains g&&bP ws g)
def qT (ops:Array Oper)(l:List Nat)(j:Nat):Bool:=l.any fun i=>eI ops ops.size i j
def kb (ops:Array Oper)(ws:WL)(pre:List Nat)(t:WL):Bool:=
 (List.range ops.size).all fun i=>!j6 ws i||pre.contains i||rG t i||(List.range ops.size).any fun j=>j6 ws j&&!pre.contains j&&eI ops ops.size i j
def mK (
     ops:Array Oper) (ws:WL) (ex:Option Nat):List Nat→WL→Bool
 |_,.nil=>true
 |_,.opt _ _ _ _=>false
 |pre,.cons i pd sub alt=>(match ops[i]? with
   |none=>false
   |some o=>o.guard.isNone&&xI o.op&&!pre.contains i&&j6 ws i&&
     ((List.range ops.size).all fun j=>!bP ws j||pd.contains j||ex==some j||qT ops (i::pre) j)&&
     (pd.all fun j=>bP ws j&&(match ops[j]? with
      |none=>false
      |some oj=>jo oj.op&&(match oj.dst with
       |none=>false
       |some d=>!(tmpsOf o).contains d))))&&
  kb ops ws (i::pre) sub&&mK ops ws ex (i::pre) sub&&mK ops ws ex pre alt
def Dk (ops:Array Oper)(ws:WL)(q:Nat)(t:WL):Bool:=
 (List.range ops.size).all fun i=>!j6 ws i||i==q||rG t i||(List.range ops.size).any fun j=>j6 ws j&&eI ops ops.size i j
def Fi (ops:Array Oper)(ws:WL):Bool:=
 (List.range ops.size).all fun i=>match ops[i]? with
  |none=>false
  |some o=>((cX ops i).all fun p=>decide (p<i))&&((List.range ops.size).all fun j=>j==i||(br ops j).isNone||br ops j !=br ops i)&&(!bP ws i||Li ops ws i o)
def NU (ops:Array Oper):WL→Bool
 |.opt q d t1 t2=>Fi ops t1&&kb ops t1 [] t1&&mK ops t1 (some q) [] t1&&Fi ops t2&&Dk ops t2 q t2&&mK ops t2 none [] t2&&
   decide (q<ops.size)&&bP t1 q&&(br ops q==some d)&&((List.range ops.size).all fun j=>j6 t2 j==(j6 t1 j||j==q))&&
   ((List.range ops.size).all fun j=>!bP t2 j||match ops[j]? with|none=>true|some o=>!(tmpsOf o).contains d)&&(match ops[q]? with|none=>false|some o=>o.guard.isNone&&jO o.op)
 |ws=>Fi ops ws&&kb ops ws [] ws&&mK ops ws none [] ws
structure N2 (ops:Array Oper) (ws:WL) (ex:Option Nat) (pre:List Nat) (i:Nat) (pd:List Nat) (sub:WL):Prop where
 op:∃o,ops[i]? =some o∧o.guard=none∧xI o.op=true∧∀j∈pd,∃oj d,bP ws j=true∧ops[j]? =some oj∧jo oj.op=true∧oj.dst=some d∧d∉tmpsOf o
 all:∀j,j<ops.size→bP ws j=true→j∈pd∨ex=some j∨∃k∈i::pre,eI ops ops.size k j=true
 cov:kb ops ws (i::pre) sub=true
 sub:mK ops ws ex (i::pre) sub=true
structure NT (ops:Array Oper) (ws:WL):Prop where
 pred:∀i o,ops[i]? =some o→∀p∈cX ops i,p<i
 dst:∀j k t,j<ops.size→k<ops.size→j≠k→br ops j=some t→br ops k=some t→False
 data:∀i o,ops[i]? =some o→bP ws i=true→∀t,t∈tmpsOf o→∀j,j<ops.size→br ops j=some t→(bP ws j=true→j<i∧j∈cX ops i)∧(bP ws j=false→eI ops ops.size j i=true)
 guard:∀i o g want,ops[i]? =some o→bP ws i=true→o.guard=some (g,want)→g<i∧g∈cX ops i∧bP ws g=true
theorem jc {ops:Array Oper}{ws:WL}{ex:Option Nat}{pre:List Nat}{i:Nat}{pd:List Nat}{sub alt:WL}(h:mK ops ws ex pre (.cons i pd sub alt)=true):N2 ops ws ex pre i pd sub∧mK ops ws ex pre alt=true:=by
 simp only[mK,Bool.and_eq_true]at h;obtain⟨⟨⟨h1,hc⟩,hs⟩,h2⟩:=h;refine⟨?_,h2⟩
 cases ho:ops[i]? with
 |none=>rw[ho]at h1;cases h1
 |some o=>
  rw[ho]at h1;simp only[Bool.and_eq_true,List.all_eq_true,Option.isNone_iff_eq_none,Bool.not_eq_true']at h1;obtain⟨⟨⟨⟨⟨g1,g2⟩,_⟩,_⟩,g5⟩,g6⟩:=h1;refine⟨⟨o,ho,g1,g2,fun j hj=>?_⟩,fun j hj hr=>?_,hc,hs⟩
  ·have h3:=g6 j hj;obtain⟨k1,k2⟩:=h3
   cases hoj:ops[j]? with
   |none=>rw[hoj]at k2;cases k2
   |some oj=>
    rw[hoj]at k2;simp only[Bool.and_eq_true]at k2;obtain⟨k3,k5⟩:=k2
    cases hd:oj.dst with
    |none=>rw[hd]at k5;cases k5
    |some d=>
     rw[hd]at k5;exact⟨oj,d,k1,rfl,k3,hd,by simpa using k5⟩
  have h3:=g5 j (by simpa using hj);rw[hr]at h3;have h4:(pd.contains j=true∨ex=some j)∨qT ops (i::pre) j=true:=by simpa using h3
  rcases h4 with(h4|h4)|h4
  ·exact .inl (by simpa using h4)
  ·exact .inr (.inl h4)
  refine .inr (.inr ?_);unfold qT at h4;obtain⟨k,hk,hc⟩:=List.any_eq_true.1 h4;exact⟨k,hk,hc⟩
theorem rV {ops:Array Oper}{ws:WL}{pre:List Nat}{t:WL}(h:kb ops ws pre t=true){i:Nat}(hi:i<ops.size)(hw:j6 ws i=true):i∈pre∨rG t i=true∨∃j,j<ops.size∧j6 ws j=true∧j∉pre∧eI ops ops.size i j=true:=by
 unfold kb at h;have h1:=List.all_eq_true.1 h i (by simpa using hi);rw[hw]at h1;simp only[Bool.not_true,Bool.false_or,Bool.or_eq_true]at h1
 rcases h1 with(h1|h1)|h1
 ·exact .inl (by simpa using h1)
 ·exact .inr (.inl h1)
 obtain⟨j,hj,h2⟩:=List.any_eq_true.1 h1;simp only[Bool.and_eq_true,Bool.not_eq_true']at h2;exact .inr (.inr ⟨j,by simpa using hj,h2.1.1,by simpa using h2.1.2,h2.2⟩)
theorem ug {ops:Array Oper}{ws:WL}(h1:Fi ops ws=true):NT ops ws:=by
 unfold Fi at h1;have hi:∀i o,ops[i]? =some o→((∀p∈cX ops i,p<i)∧(∀j,j<ops.size→j≠i→∀t,br ops j=some t→br ops i≠some t))∧(bP ws i=true→Li ops ws i o=true):=by
  intro i o ho;have hlt:=(Array.getElem?_eq_some_iff.1 ho).1;have h3:=List.all_eq_true.1 h1 i (by simpa using hlt);rw[ho]at h3;simp only[Bool.and_eq_true,List.all_eq_true,decide_eq_true_eq]at h3;obtain⟨⟨a1,a2⟩,a3⟩:=h3;refine⟨⟨a1,fun j hj hne t ht hti=>?_⟩,fun hr=>by rw[hr]at a3;simpa using a3⟩;have h4:=a2 j (by simpa using hj);rw[ht,hti]at h4
  simp[hne]at h4
 refine⟨fun i o ho=>(hi i o ho).1.1,fun j k t hj hk hne h3 h4=>?_,fun i o ho hr t ht j hj hd=>?_,fun i o g want ho hr hg=>?_⟩
 ·exact(hi k ops[k] (Array.getElem?_eq_getElem hk)).1.2 j hj hne t h3 h4
 ·have h3:=(hi i o ho).2 hr;unfold Li at h3;rw[Bool.and_eq_true]at h3;have h4:=List.all_eq_true.1 (List.all_eq_true.1 h3.1 t ht) j (by simpa using hj);rw[hd]at h4;refine⟨fun hrj=>?_,fun hrj=>?_⟩
  ·rw[hrj]at h4;simpa using h4
  rw[hrj]at h4;simpa using h4
 have h3:=(hi i o ho).2 hr;unfold Li at h3;rw[Bool.and_eq_true,hg]at h3
 simpa[and_assoc]using h3.2
open Classical in
noncomputable def s7 (s:St)(H:Tmp→Prop):St:={s with env:=s.env.filter fun p=>decide (¬H p.1)}
open Classical in
theorem qG (H:Tmp→Prop)(t:Tmp):∀l:List (Nat×V),lk (l.filter fun p=>decide (¬H p.1)) t=if H t then .unk else lk l t
 |[]=>by simp[lk]
 |(t',v)::r=>by
  have ih:=qG H t r
  by_cases hH:H t'
  ·rw[List.filter_cons_of_neg (by simpa using hH),ih]
   by_cases ht:t=t'
   ·subst ht;simp[hH]
   simp[lk,ht]
  rw[List.filter_cons_of_pos (by simpa using hH)];simp only[lk]
  by_cases ht:t=t'
  ·subst ht;simp[hH]
  simp only[ht,if_false];exact ih
theorem sM (s:St)(H:Tmp→Prop)(t:Tmp)(h:¬H t):lk (s7 s H).env t=lk s.env t:=by
 unfold s7;simp only[qG,if_neg h]
theorem Ap (s:St)(H:Tmp→Prop)(t:Tmp)(h:H t):lk (s7 s H).env t= .unk:=by
 unfold s7;simp only[qG,if_pos h]
structure RU (H:Tmp→Prop) (a a':Act):Prop where
 defers:a.defers=a'.defers
 size:a.tmps.size=a'.tmps.size
 tmps:∀t,¬H t→a.tmps[t]? =a'.tmps[t]?
theorem RU.refl (H:Tmp→Prop)(a:Act):RU H a a:=⟨rfl,rfl,fun _ _=>rfl⟩
theorem RU.eq {H:Tmp→Prop}{a a':Act}(h:RU H a a')(hH:∀t,¬H t):a=a':=by
 obtain⟨h1,h2,h3⟩:=h
 cases a;cases a'
 simp only[Act.mk.injEq];exact⟨Array.ext_getElem? fun i=>h3 i (hH i),h1⟩
theorem RU.getD {H:Tmp→Prop}{a a':Act}(h:RU H a a'){t:Tmp}(ht:¬H t):a.tmps.getD t undef=a'.tmps.getD t undef:=by
 rw[Array.getD_eq_getD_getElem?,Array.getD_eq_getD_getElem?,h.tmps t ht]
theorem RU.put {H:Tmp→Prop}{a a':Act}(h:RU H a a')(dst:Option Tmp)(v:Value):RU H (a.put dst v) (a'.put dst v):=by
 cases dst with
 |none=>exact h
 |some d=>
  refine⟨h.defers,by simp[Act.put,h.size],fun t ht=>?_⟩;simp only[Act.put,Array.getElem?_setIfInBounds,h.size]
  split
  ·rfl
  exact h.tmps t ht
theorem mQ {a:Act}{d t:Tmp}{v:Value}:(a.put (some d) v).tmps[t]? =if t=d∧d<a.tmps.size then some v else a.tmps[t]? :=by
 simp only[Act.put,Array.getElem?_setIfInBounds]
 by_cases h1:d=t
 ·subst h1
  by_cases h2:d<a.tmps.size
  ·simp[h2]
  simp[h2]
 rw[if_neg h1,if_neg (fun h=>h1 h.1.symm)]
theorem a7.s7 {G:Ctx}{dom:Nat→Prop}{ρ:Nat→Loc}{s:St}{a a':Act}{w:World}{H:Tmp→Prop}(h:a7 G dom ρ s a' w)(hu:RU H a a'):a7 G dom ρ (s7 s H) a w:=
 {
  h with
  hd:=by rw[hu.defers];exact h.hd
  hn:=by rw[hu.size];exact h.hn
  env:=fun t=>by
   by_cases ht:H t
   ·rw[Ap _ _ _ ht];trivial
   rw[sM _ _ _ ht,hu.getD ht];exact h.env t}
theorem RU.exec {H:Tmp→Prop}{a a':Act}(h:RU H a a'){o:Oper}(hns:xI o.op=true)(ht:∀t∈tmpsOf o,¬H t):execOp a.eval o=execOp a'.eval o:=by
 refine execOp_congr o (fun cs b he=>by rw[he]at hns;cases hns) fun x hx=>?_
 cases x with
 |tmp t=>exact h.getD (ht t (List.mem_filterMap.2 ⟨.tmp t,by simpa using hx,rfl⟩))
 |const v=>rfl
 |global g=>rfl
 |func f=>rfl
theorem RU.wp {P:Program}{H:Tmp→Prop}{a a':Act}(h:RU H a a'){o:Oper}(hns:xI o.op=true)(ht:∀t∈tmpsOf o,¬H t){w:World}{next next':Act→World→Prop}{Q:Exit→Act→World→Prop}
  (hQ:∀ch a a' w,Q (.panic ch) a w→Q (.panic ch) a' w) (hn:∀b b' w,RU H b b'→next' b' w→next b w) (hw:o.wp P a' w next' Q):o.wp P a w next Q:=by
 unfold Oper.wp at hw⊢;rw[h.exec hns ht]
 cases hr:(execOp a'.eval o).run P w with
 |halt x w'=>
  rw[hr]at hw
  cases x<;>first|exact hQ _ _ _ _ hw|exact hw.elim
 |ok x w'=>
  rw[hr]at hw
  cases x with
  |value v=>exact hn _ _ _ (h.put _ v) hw
  |skip=>exact hn _ _ _ (h.put _ undef) hw
  |defer d=>
   refine hn _ _ _ (RU.put (⟨?_,h.size,h.tmps⟩:RU H {a with defers:=d::a.defers} {a' with defers:=d::a'.defers}) _ undef) hw;simp only[h.defers]
  |enter f args=>
   refine Calls.mono hw fun e w'' he=>?_
   cases e with
   |returned v=>exact hn _ _ _ (h.put _ v) he
   |panicked ch=>exact hQ _ _ _ _ he
   |outgrown=>exact he
  |row r args=>exact Rows.mono hw fun v w'' he=>hn _ _ _ (h.put _ v) he
  |_=>exact hw.elim
section
variable {P:Program}{ops:Array Oper}{ws:WL}{σ:St}{es:Nat→ey}{K:St→Prop}
def IT (P:Program)(ops:Array Oper)(s:St)(o:Oper)(d:Nat):Prop:=match o.guard with
 |none=>Kw P o s s.nx (lk s.env d)
 |some (g,want)=>∃t b,br ops g=some t∧gv (lk s.env t)=some b∧(if b=some want then Kw P o s s.nx (lk s.env d)else lk s.env d= .aJ [])
def Promise (P:Program)(ops:Array Oper)(s:St)(pd:List Nat):Prop:=∀j∈pd,∃o d,ops[j]? =some o∧o.dst=some d∧IT P ops s o d∧d<s.n
def NQ (P:Program)(ops:Array Oper)(i:Nat)(pd:List Nat)(s:St)(K:St→Prop):Prop:=∃o,ops[i]? =some o∧bZ o s.n∧nN P o s (fun s'=>Promise P ops s' pd∧K s')
def lT (P:Program)(ops:Array Oper):WL→St→(St→Prop)→Prop
 |.nil,s,K=>K s
 |.cons i pd sub .nil,s,K=>NQ P ops i pd s (fun s'=>lT P ops sub s' K)
 |.cons i pd sub (.cons i' pd' sub' alt'),s,K=>NQ P ops i pd s (fun s'=>lT P ops sub s' K)∧lT P ops (.cons i' pd' sub' alt') s K
 |.cons _ _ _ (.opt _ _ _ _),_,_=>False
 |.opt _ _ _ _,_,_=>False
theorem mZ {P:Program}{ops:Array Oper}{ws:WL}{ex:Option Nat}{pre:List Nat}{i:Nat}{s:St}{K:St→Prop}:∀{t:WL},lT P ops t s K→mK ops ws ex pre t=true→rG t i=true→∃pd sub,NQ P ops i pd s (fun s'=>lT P ops sub s' K)∧N2 ops ws ex pre i pd sub
 |.nil,_,_,hn=>by cases hn
 |.opt _ _ _ _,_,_,hn=>by cases hn
 |.cons _ _ _ (.opt _ _ _ _),h,_,_=>by rw[lT]at h;exact h.elim
 |.cons i0 pd sub .nil,h,hg,hn=>by
  simp only[rG]at hn
  by_cases he:i=i0
  ·subst he;rw[lT]at h;exact⟨pd,sub,h,(jc hg).1⟩
  rw[if_neg he]at hn;cases hn
 |.cons i0 pd sub (.cons i' pd' sub' alt'),h,hg,hn=>by
  rw[lT]at h
  by_cases he:i=i0
  ·subst he;exact⟨pd,sub,h.1,(jc hg).1⟩
  refine mZ h.2 (jc hg).2 ?_;rw[rG,if_neg he]at hn;exact hn
def hid (ops:Array Oper)(ws:WL)(listed:Array Bool)(t:Tmp):Prop:=∃j,j<ops.size∧bP ws j=true∧listed.getD j false=false∧br ops j=some t
def uo (σ:St)(ops:Array Oper)(es:Nat→ey)(ws:WL):St:={aH σ σ.nx ops es (bP ws) ops.size with nx:=σ.nx+ops.size}
structure ow (P:Program) (G:Ctx) (ops:Array Oper) (ws:WL) (ex:Option Nat) (F:Prop) (σ:St) (es:Nat→ey) (K:St→Prop) (listed:Array Bool) (a:Act) (w:World):Prop where
 size:listed.size=ops.size
 down:∀i,listed.getD i false=true→∀p∈cX ops i,listed.getD p false=true
 where_:(F∧(∀i,listed.getD i false=true→bP ws i=true)∧vA G (fun b=>b<σ.nx∨∃j,j<ops.size∧listed.getD j false=true∧b=σ.nx+j) (aH σ σ.nx ops es (fun j=>bP ws j&&listed.getD j false) ops.size) a w)∨
  (∃(pre:List Nat) (rest:WL) (pd:List Nat) (s:St) (a':Act),(∀j,j<ops.size→bP ws j=false→(listed.getD j false=true↔j∈pre))∧(∀k∈pre,listed.getD k false=true)∧mK ops ws ex pre rest=true∧(kb ops ws pre rest=true∧∀q,ex=some q→listed.getD q false=true)∧
   (∀j,j<ops.size→bP ws j=true→listed.getD j false=false→j∈pd)∧lT P ops rest s K∧Promise P ops s pd∧qc G s a' w∧RU (hid ops ws listed) a a')
theorem mO (L:Nat→Bool)(t:Nat):∀k,(∀j,j<k→L j=true→br ops j≠some t)→lk (aH σ σ.nx ops es L k).env t=lk σ.env t:=by
 intro k
 induction k with
 |zero=>intro _;rfl
 |succ k ih=>
  intro h;simp only[aH]
  split
  ·rename_i hL
   rw[jQ,if_neg (h k (Nat.lt_succ_self k) hL)];exact ih (fun j hj=>h j (Nat.lt_succ_of_lt hj))
  exact ih (fun j hj=>h j (Nat.lt_succ_of_lt hj))
theorem NY (hck:NT ops ws){i:Nat}{o:Oper}(ho:ops[i]? =some o)(hi:bP ws i=true){L:Nat→Bool}(hL:∀j,L j=true→bP ws j=true)(hp:∀p∈cX ops i,bP ws p=true→L p=true):
  rJ (aH σ σ.nx ops es (bP ws) i) (aH σ σ.nx ops es L ops.size) σ.nx o:=by
 have his:=(Array.getElem?_eq_some_iff.1 ho).1;refine⟨by rw[fH,fH],fun x hx=>?_,fun b hb=>by rw[jh _ ops.size b hb,jh _ i b hb]⟩
 cases x with
 |tmp t=>
  have htm:t∈tmpsOf o:=List.mem_filterMap.2 ⟨.tmp t,by simpa using hx,rfl⟩;show lk _ t=lk _ t
  by_cases hex:∃j,j<ops.size∧bP ws j=true∧br ops j=some t
  ·obtain⟨j,hj,hjR,hd⟩:=hex;obtain⟨hji,hjp⟩:=(hck.data i o ho hi t htm j hj hd).1 hjR;rw[dz (N:=ops.size) L hd (hp j hjp hjR) hck.dst ops.size (Nat.le_refl _) hj,dz (N:=ops.size) (bP ws) hd hjR hck.dst i (by omega) hji]
  rw[mO L t ops.size (fun j hj hLj h=>hex ⟨j,hj,hL j hLj,h⟩),mO (bP ws) t i (fun j hj hLj h=>hex ⟨j,by omega,hLj,h⟩)]
 |const v=>rfl
 |global g=>rfl
 |func f=>rfl
theorem ghost (hck:NT ops ws)(hfz:∀j,∀b∈(es j).fz,b<σ.nx)
  (hstep:∀(i:Nat) o,bP ws i=true→ops[i]? =some o→lA P ops σ.nx i o (aH σ σ.nx ops es (bP ws) i) (es i))
  {G:Ctx} {listed:Array Bool} {a:Act} {w:World} {dom:Nat→Prop} (hW:∀i,listed.getD i false=true→bP ws i=true)
  (hlate:∀j,j<ops.size→bP ws j=true→listed.getD j false=false→∃o,ops[j]? =some o∧jo o.op=true)
  (hs:vA G dom (aH σ σ.nx ops es (fun j=>bP ws j&&listed.getD j false) ops.size) a w) (hdown:∀i,listed.getD i false=true→∀p∈cX ops i,listed.getD p false=true):
  ∀n,n≤ops.size→∃a',vA G dom (aH σ σ.nx ops es (fun j=>bP ws j&&(listed.getD j false||decide (j<n))) ops.size) a' w∧RU (hid ops ws listed) a a':=by
 intro n
 induction n with
 |zero=>
  intro _;refine⟨a,?_,RU.refl _ _⟩;rw[cC (L':=fun j=>bP ws j&&listed.getD j false) ops.size (fun j _=>by simp)];exact hs
 |succ n ih=>
  intro hn;obtain⟨a',⟨ρ,h1⟩,hu⟩:=ih (by omega)
  by_cases hc:bP ws n=true∧listed.getD n false=false
  ·obtain⟨hR,hl⟩:=hc;obtain⟨o,ho,hlt⟩:=hlate n (by omega) hR hl;obtain⟨hdl,hst⟩:=hstep n o hR ho
   have hagr:=NY (σ:=σ) (es:=es) hck ho hR (L:=fun j=>bP ws j&&(listed.getD j false||decide (j<n))) (fun j hj=>by simp at hj;exact hj.1) (fun p hp hpR=>by
    have:=hck.pred n o ho p hp
    simp[hpR,this])
   have hval:(es n).oB=none∧(es n).fz=[]∧∃v,cd ρ dom (aQ G (aH σ σ.nx ops es (fun j=>bP ws j&&(listed.getD j false||decide (j<n))) ops.size).own ρ w) w (es n).val v:=by
    have doit:bm P o (aH σ σ.nx ops es (bP ws) n) σ.nx (σ.nx+n) (es n)→(es n).oB=none∧(es n).fz=[]∧∃v,cd ρ dom (aQ G (aH σ σ.nx ops es (fun j=>bP ws j&&(listed.getD j false||decide (j<n))) ops.size).own ρ w) w (es n).val v:=fun hre=>by
     obtain⟨hblk,hfzn,hpe⟩:=hre.2 hlt;obtain⟨v,_,hv⟩:=hpe G dom ρ _ a' w h1 hagr;exact⟨hblk,hfzn,v,hv⟩
    split at hst
    ·exact doit hst
    obtain⟨t,b,_,_,hst⟩:=hst
    split at hst
    ·exact doit hst
    rw[hst];exact⟨rfl,rfl,undef,⟨#[],rfl,trivial⟩⟩
   obtain⟨hblk,hfzn,v,hv⟩:=hval;have hdst:br ops n=o.dst:=by unfold br;rw[ho];rfl
   have h2:=h1.put (dst:=o.dst) (x:=(es n).val) (v:=v) (fun d hd=>by have:=hdl d hd;rw[fH]at this⊢;exact this) hv;refine⟨a'.put o.dst v,⟨ρ,?_⟩,?_⟩
   ·have he:es n=⟨(es n).val,none,[]⟩:=by
     cases hen:es n with
     |mk v b f=>rw[hen]at hblk hfzn;simp only at hblk hfzn;rw[hblk,hfzn]
    have h3:=nB (σ:=σ) (nx0:=σ.nx) (e:=es) (N:=ops.size) (L:=fun j=>bP ws j&&(listed.getD j false||decide (j<n))) (i:=n) (by simp[hl]) hck.dst hfz ops.size (Nat.le_refl _) (by omega)
    rw[he,St.add_plain,hdst]at h3;have h4:=h2.I4 h3.symm
    rw[cC (L':=fun j=>(bP ws j&&(listed.getD j false||decide (j<n)))||j==n) ops.size (fun j _=>?_)]
    ·exact h4
    by_cases hjn:j=n
    ·subst hjn;simp[hR]
    have e1:decide (j<n+1)=decide (j<n):=by simp;omega
    have e2:(j==n)=false:=by simpa using hjn
    rw[e1,e2,Bool.or_false]
   cases hd:o.dst with
   |none=>exact hu
   |some d=>
    refine⟨hu.defers,by rw[hu.size];simp[Act.put],fun t ht=>?_⟩;rw[mQ,if_neg,hu.tmps t ht];rintro⟨rfl,_⟩;exact ht ⟨n,by omega,hR,hl,by rw[hdst,hd]⟩
  refine⟨a',⟨ρ,?_⟩,hu⟩
  rw[cC (L':=fun j=>bP ws j&&(listed.getD j false||decide (j<n))) ops.size (fun j _=>?_)]
  ·exact h1
  by_cases hjn:j=n
  ·subst hjn
   cases hR:bP ws j with
   |false=>rfl
   |true=>
    have:listed.getD j false=true:=by
     cases hl:listed.getD j false with
     |true=>rfl
     |false=>exact absurd ⟨hR,hl⟩ hc
    rw[this];rfl
  have e1:decide (j<n+1)=decide (j<n):=by simp;omega
  rw[e1]
theorem kR {L:Nat→Bool}(h:∀j,j<ops.size→bP ws j=true→L j=true):aH σ σ.nx ops es (fun j=>bP ws j&&L j) ops.size=aH σ σ.nx ops es (bP ws) ops.size:=
 cC ops.size fun j hj=>by
  cases hR:bP ws j with
  |false=>rfl
  |true=>rw[h j hj hR];rfl
theorem L4 {ex:Option Nat}{F:Prop}{G:Ctx}{Q:Exit→Act→World→Prop}(hP:∀ch a a' w,Q (.panic ch) a w→Q (.panic ch) a' w){fuel:Nat}{listed:Array Bool}{a:Act}{w:World}(hsize:listed.size=ops.size)(hdn:∀i,listed.getD i false=true→∀p∈cX ops i,listed.getD p false=true)
  {i:Nat} (his:i<ops.size) (hp:∀p∈cX ops i,listed.getD p false=true) (hiW:bP ws i=false) {pre:List Nat} {sub:WL} {pdi:List Nat} {s:St} {a':Act} (h1:∀j,j<ops.size→bP ws j=false→(listed.getD j false=true↔j∈pre)) (hpl:∀k∈pre,listed.getD k false=true)
  (hwok:N2 ops ws ex pre i pdi sub) (h6:NQ P ops i pdi s (fun s'=>lT P ops sub s' K)) (h8:qc G s a' w) (h9:RU (hid ops ws listed) a a') (hexl:∀q,ex=some q→listed.getD q false=true)
  (ih:∀a w,ow P G ops ws ex F σ es K (listed.setIfInBounds i true) a w→wpAny P .any ops Q fuel (listed.setIfInBounds i true) a w):wpOp P ops Q i (wpAny P .any ops Q fuel (listed.setIfInBounds i true)) a w:=by
 have ho:=Array.getElem?_eq_getElem his;have hlt:i<listed.size:=by rw[hsize];exact his
 have hdown':∀j,(listed.setIfInBounds i true).getD j false=true→∀p∈cX ops j,(listed.setIfInBounds i true).getD p false=true:=by
  intro j hj p hpj;rw[aU hlt]at hj⊢
  rcases Bool.or_eq_true_iff.1 hj with hj|hj
  ·rw[hdn j hj p hpj];rfl
  have:j=i:=by simpa using hj
  subst this;rw[hp p hpj];rfl
 have hclos:∀j,eI ops ops.size i j=true→listed.getD j false=true:=fun j hj=>fm hdn _ i j hp hj;obtain⟨o,ho',hg,hns,hop⟩:=hwok.op;rw[ho]at ho';obtain rfl:=Option.some.inj ho';obtain⟨o2,ho2,hdl,hwe⟩:=h6;rw[ho]at ho2;obtain rfl:=Option.some.inj ho2;have hpend:∀j,j<ops.size→bP ws j=true→listed.getD j false=false→j∈pdi:=fun j hj hjR hjl=>by
  rcases hwok.all j hj hjR with k|ke|⟨k0,hk0,k⟩
  ·exact k
  ·rw[hexl j ke]at hjl;cases hjl
  rcases List.mem_cons.1 hk0 with rfl|hk0
  ·rw[hclos j k]at hjl;cases hjl
  rw[fm hdn _ k0 j (hdn k0 (hpl k0 hk0)) k]at hjl;cases hjl
 unfold wpOp;simp only[ho];rw[gZ hg,if_pos rfl];refine .inl (h9.wp hns (fun t ht hh=>?_) hP ?_ (hwe G a' w h8 Q (fun b' w'=>∃s',(Promise P ops s' pdi∧lT P ops sub s' K)∧qc G s' b' w') fun s' b' w' k1 k2=>⟨s',k1,k2⟩))
 ·obtain⟨j,hj,hjR,hjl,hjd⟩:=hh;obtain⟨oj,d,_,k1,_,k2,k3⟩:=hop j (hpend j hj hjR hjl)
  have:br ops j=some d:=by unfold br;rw[k1];exact k2
  rw[this]at hjd;obtain rfl:=Option.some.inj hjd;exact k3 ht
 rintro b b' w' hru ⟨s',⟨k1,k2⟩,k3⟩;refine ih _ _ ⟨by simpa using hsize,hdown',.inr ⟨i::pre,sub,pdi,s',b',fun j hj hjR=>?_,fun k hk=>?_,hwok.sub,⟨hwok.cov,fun q hq=>by rw[aU hlt,hexl q hq];rfl⟩,fun j hj hjR hjl=>?_,k2,k1,k3,⟨hru.defers,hru.size,fun t ht=>hru.tmps t fun hh=>ht ?_⟩⟩⟩
 ·rw[aU hlt,Bool.or_eq_true,h1 j hj hjR,List.mem_cons,beq_iff_eq]
  constructor
  ·rintro(k|k)
   ·exact .inr k
   exact .inl k
  rintro(k|k)
  ·exact .inr k
  exact .inl k
 ·rw[aU hlt,Bool.or_eq_true,beq_iff_eq]
  rcases List.mem_cons.1 hk with hk|hk
  ·exact .inr hk
  exact .inl (hpl k hk)
 ·rw[aU hlt]at hjl;simp only[Bool.or_eq_false_iff]at hjl;exact hpend j hj hjR hjl.1
 obtain⟨j,hj,hjR,hjl,hjd⟩:=hh;refine⟨j,hj,hjR,?_,hjd⟩;rw[aU hlt,hjl,Bool.false_or,beq_eq_false_iff_ne];intro e;rw[e,hiW]at hjR;cases hjR
theorem lM {ex:Option Nat}{F:Prop}(hck:NT ops ws)(hcov:F→kb ops ws [] ws=true)(hgw:F→mK ops ws ex [] ws=true)(hfz:∀j,∀b∈(es j).fz,b<σ.nx)
  (hstep:F→∀(i:Nat) o,bP ws i=true→ops[i]? =some o→lA P ops σ.nx i o (aH σ σ.nx ops es (bP ws) i) (es i))
  (hW:F→lT P ops ws (uo σ ops es ws) K)
  {G:Ctx} {Q:Exit→Act→World→Prop} (hsw:F→∀q,ex=some q→∀(fuel:Nat) (listed:Array Bool) (a:Act) (w:World) (i:Nat),ow P G ops ws ex F σ es K listed a w→(∀j,listed.getD j false=true→bP ws j=true)→
   vA G (fun b=>b<σ.nx∨∃j,j<ops.size∧listed.getD j false=true∧b=σ.nx+j) (aH σ σ.nx ops es (fun j=>bP ws j&&listed.getD j false) ops.size) a w→listed.getD q false=false→
   i∈Region.ready .any ops listed→j6 ws i=true→iF ops listed≤fuel+1→wpOp P ops Q i (wpAny P .any ops Q fuel (listed.setIfInBounds i true)) a w) (hQ:∀s a w,K s→qc G s a w→Q .normal a w) (hP:∀ch a a' w,Q (.panic ch) a w→Q (.panic ch) a' w):
  ∀(fuel:Nat) (listed:Array Bool) (a:Act) (w:World),ow P G ops ws ex F σ es K listed a w→iF ops listed≤fuel→wpAny P .any ops Q fuel listed a w:=by
 have hend:∀(listed:Array Bool) (a:Act) (w:World),ow P G ops ws ex F σ es K listed a w→(∀j,j<ops.size→listed.getD j false=true)→Q .normal a w:=by
  intro listed a w h hall
  rcases h.where_ with⟨hF,hR,ρ,hsim⟩|⟨pre,rest,pd,s,a',h1,h2,h3,h4,h5,h6,h7,h8,h9⟩
  ·have hW:=hW hF;have hno:∀i,i<ops.size→j6 ws i=false:=fun i hi=>by
    have:=hR i (hall i hi)
    simpa[bP]using this
   cases hws:ws with
   |nil=>
    rw[hws]at hW hsim;refine hQ _ a w hW ⟨ρ,?_⟩;rw[kR (fun j hj _=>hall j hj)]at hsim
    have h10:=hsim.cQ (dom':=fun b=>b<σ.nx+ops.size) (fun b hb=>by rcases hb with hb|⟨j,hj,_,rfl⟩<;>omega)
    exact h10.I4 ⟨fun _=>rfl,fun _=>rfl,rfl⟩
   |cons i pd sub alt=>
    exfalso
    have hw:=hgw hF;rw[hws]at hw;obtain⟨o,ho,_⟩:=(jc hw).1.op
    have:=hno i (Array.getElem?_eq_some_iff.1 ho).1
    rw[hws]at this
    simp[j6]at this
   |opt _ _ _ _=>rw[hws]at hW;exact hW.elim
  cases hrest:rest with
  |nil=>
   rw[hrest]at h6;have ha:a=a':=h9.eq fun t ht=>by
    obtain⟨j,hj,_,hl,_⟩:=ht;rw[hall j hj]at hl;cases hl
   subst ha;exact hQ s a w h6 h8
  |opt _ _ _ _=>rw[hrest]at h6;exact h6.elim
  |cons i pd' sub alt=>
   exfalso
   rw[hrest]at h3;have h11:=h3;simp only[mK,Bool.and_eq_true]at h11;obtain⟨⟨⟨h12,_⟩,_⟩,_⟩:=h11
   cases ho:ops[i]? with
   |none=>rw[ho]at h12;cases h12
   |some o=>
    rw[ho]at h12;simp only[Bool.and_eq_true,Bool.not_eq_true']at h12;obtain⟨⟨⟨⟨⟨_,_⟩,hnp⟩,hwi⟩,_⟩,_⟩:=h12;have his:=(Array.getElem?_eq_some_iff.1 ho).1
    have:=(h1 i his (by simp[bP,hwi])).1 (hall i his)
    simp[this]at hnp
 intro fuel
 induction fuel with
 |zero=>
  intro listed a w h hf;have hall:=rH (Nat.le_zero.1 hf);refine⟨?_,hend listed a w h hall⟩
  cases hr:Region.ready .any ops listed with
  |nil=>rfl
  |cons i l=>
   obtain⟨_,hi,hu⟩:=gX (i:=i) (listed:=listed) (ops:=ops) (by rw[hr];simp);have h1:=hall i hi;have hlt:i<listed.size:=by rw[h.size];exact hi
   simp[Array.getD,hlt]at h1 hu
   rw[h1]at hu;cases hu
 |succ fuel ih=>
  intro listed a w h hf;refine⟨fun hr=>?_,fun i hi=>?_⟩
  ·have hall:∀n i,i<n→i<ops.size→listed.getD i false=true:=by
    intro n
    induction n with
    |zero=>intro i hi;omega
    |succ n ihn=>
     intro i hin his
     by_cases hu:listed.getD i false=true
     ·exact hu
     have hlt:i<listed.size:=by rw[h.size];exact his
     have hu':listed.getD i true=false:=by
      simp[Array.getD,hlt]at hu⊢
      exact hu
     have hm:=my (ops:=ops) (Array.getElem?_eq_getElem his) hu' (fun p hp=>ihn p (by have:=hck.pred i _ (Array.getElem?_eq_getElem his) p hp;omega) (by have:=hck.pred i _ (Array.getElem?_eq_getElem his) p hp;omega));rw[hr]at hm;cases hm
   exact hend listed a w h (fun j hj=>hall _ j (Nat.lt_succ_self _) hj)
  obtain⟨hp,his,hu⟩:=gX hi;have ho:=Array.getElem?_eq_getElem his;have hcount:=oJ h.size his hu;have hlt:i<listed.size:=by rw[h.size];exact his
  have hu':listed.getD i false=false:=by
   simp[Array.getD,hlt]at hu⊢
   exact hu
  have hdown':∀j,(listed.setIfInBounds i true).getD j false=true→∀p∈cX ops j,(listed.setIfInBounds i true).getD p false=true:=by
   intro j hj p hpj;rw[aU hlt]at hj⊢
   rcases Bool.or_eq_true_iff.1 hj with hj|hj
   ·rw[h.down j hj p hpj];rfl
   have:j=i:=by simpa using hj
   subst this;rw[hp p hpj];rfl
  have hclos:∀j,eI ops ops.size i j=true→listed.getD j false=true:=fun j hj=>fm h.down _ i j hp hj
  by_cases hiR:bP ws i=true
  ·rcases h.where_ with⟨hF,hlR,ρ,hsim⟩|⟨pre,rest,pd,s,a',h1,h2,h3,h4,h5,h6,h7,h8,h9⟩
   ·have hst:=hstep hF i ops[i] hiR ho;have hagr:=NY (σ:=σ) (es:=es) hck ho hiR (L:=fun j=>bP ws j&&listed.getD j false) (fun j hj=>by simp at hj;exact hj.1) (fun p hpp hpR=>by rw[hpR,hp p hpp];rfl);have hstand:∀a' w',vA G (fun b=>(b<σ.nx∨∃j,j<ops.size∧listed.getD j false=true∧b=σ.nx+j)∨b=σ.nx+i) ((aH σ σ.nx ops es (fun j=>bP ws j&&listed.getD j false) ops.size).add (br ops i) (σ.nx+i) (es i)) a' w'→
      ow P G ops ws ex F σ es K (listed.setIfInBounds i true) a' w':=by
     rintro a' w' ⟨ρ',k1⟩;refine⟨by simpa using h.size,hdown',.inl ⟨hF,fun j hj=>?_,ρ',?_⟩⟩
     ·rw[aU hlt]at hj
      rcases Bool.or_eq_true_iff.1 hj with hj|hj
      ·exact hlR j hj
      have:j=i:=by simpa using hj
      rw[this];exact hiR
     have k2:=k1.cQ (dom':=fun b=>b<σ.nx∨∃j,j<ops.size∧(listed.setIfInBounds i true).getD j false=true∧b=σ.nx+j) (fun b hb=>by
      rcases hb with(hb|⟨j,hj,hlj,rfl⟩)|rfl
      ·exact .inl hb
      ·exact .inr ⟨j,hj,by rw[aU hlt,hlj];rfl,rfl⟩
      exact .inr ⟨i,his,by rw[aU hlt];simp,rfl⟩)
     have k3:=nB (σ:=σ) (nx0:=σ.nx) (e:=es) (N:=ops.size) (L:=fun j=>bP ws j&&listed.getD j false) (i:=i) (by simp[hu']) hck.dst hfz ops.size (Nat.le_refl _) his;have k4:=k2.I4 k3.symm
     rw[cC (L:=fun j=>(bP ws j&&listed.getD j false)||j==i) (L':=fun j=>bP ws j&&(listed.setIfInBounds i true).getD j false) ops.size (fun j _=>by
      rw[aU hlt]
      by_cases hji:j=i
      ·subst hji;simp[hiR]
      have:(j==i)=false:=by simpa using hji
      rw[this,Bool.or_false,Bool.or_false])]at k4
     exact k4
    have hdst:br ops i=ops[i].dst:=by unfold br;rw[ho];rfl
    have hid':¬(σ.nx+i<σ.nx∨∃j,j<ops.size∧listed.getD j false=true∧σ.nx+i=σ.nx+j):=by
     rintro(k1|⟨j,_,hj,he⟩)
     ·omega
     have:i=j:=by omega
     subst this;rw[hu']at hj;cases hj
    unfold wpOp;simp only[ho];obtain⟨hdl,hst⟩:=hst;have doit:bm P ops[i] (aH σ σ.nx ops es (bP ws) i) σ.nx (σ.nx+i) (es i)→ops[i].wp P a w (wpAny P .any ops Q fuel (listed.setIfInBounds i true)) Q:=by
     intro hre;refine hre.1 G _ ρ _ a w hsim hid' hagr Q _ fun v w' k5=>?_;refine ih _ _ _ (hstand _ _ ?_) (by omega);rw[hdst];exact k5
    split at hst
    ·rename_i hg
     rw[gZ hg,if_pos rfl];exact .inl (doit hst)
    rename_i g want hg
    obtain⟨t,b,ht,hb,hst⟩:=hst;obtain⟨hgi,hgp,hgR⟩:=hck.guard i _ g want ho hiR hg;have hb':gv (lk (aH σ σ.nx ops es (fun j=>bP ws j&&listed.getD j false) ops.size).env t)=some b:=by
     rw[dz (N:=ops.size) (fun j=>bP ws j&&listed.getD j false) (t:=t) (j:=g) ht (by rw[hgR,hp g hgp];rfl) hck.dst ops.size (Nat.le_refl _) (by omega)];rw[dz (N:=ops.size) (bP ws) (t:=t) (j:=g) ht hgR hck.dst i (by omega) hgi]at hb;exact hb
    rw[nG hsim hg ht hb']
    by_cases hbw:b=some want
    ·rw[if_pos hbw]at hst;rw[if_pos (by simp[hbw])];exact .inl (doit hst)
    rw[if_neg hbw]at hst;rw[if_neg (by simpa using hbw)];refine ih _ _ _ (hstand _ _ ⟨ρ,?_⟩) (by omega);rw[hst,hdst];have k5:=hsim.put (dst:=ops[i].dst) (x:=.aJ []) (v:=undef) (fun d hd=>by have:=hdl d hd;rw[fH]at this⊢;exact this) ⟨#[],rfl,trivial⟩;have k6:=k5.cQ (dom':=fun b=>(b<σ.nx∨∃j,j<ops.size∧listed.getD j false=true∧b=σ.nx+j)∨b=σ.nx+i) (fun b hb=>Or.inl hb);unfold ey.skip;rw[St.add_plain];exact k6
   -- one that is late
   have hipd:=h5 i his hiR hu';obtain⟨o,d,ho',hd,hpe,hdn⟩:=h7 i hipd;rw[ho]at ho';obtain rfl:=Option.some.inj ho';obtain⟨ρ,hsim⟩:=h8;have hdst:br ops i=some d:=by unfold br;rw[ho];exact hd
   have hsimH:=hsim.s7 h9;have hagr:rJ s (s7 s (hid ops ws listed)) s.nx ops[i]:=by
    refine⟨rfl,fun x hx=>?_,fun b _=>rfl⟩
    cases x with
    |tmp t=>
     have htm:t∈tmpsOf ops[i]:=List.mem_filterMap.2 ⟨.tmp t,by simpa using hx,rfl⟩;refine sM _ _ _ fun hh=>?_;obtain⟨j,hj,hjR,hjl,hjd⟩:=hh;rw[hp j ((hck.data i _ ho hiR t htm j hj hjd).1 hjR).2]at hjl;cases hjl
    |const v=>rfl
    |global g=>rfl
    |func f=>rfl
   have fin:∀v,cd ρ (fun b=>b<s.nx) (aQ G s.own ρ w) w (lk s.env d) v→wpAny P .any ops Q fuel (listed.setIfInBounds i true) (a.put (some d) v) w:=by
    intro v hv;refine ih _ _ _ ?_ (by omega);have hnew:a7 G (fun b=>b<s.nx) ρ s (a'.put (some d) v) w:=by
     have k1:=hsim.put (dst:=some d) (x:=lk s.env d) (v:=v) (fun d' hd'=>by obtain rfl:=Option.some.inj hd';exact hdn) hv;refine k1.I4 ⟨fun t=>?_,fun _=>rfl,rfl⟩;rw[Dw]
     by_cases ht:some d=some t
     ·obtain rfl:=Option.some.inj ht;rw[if_pos rfl]
     rw[if_neg ht]
    refine⟨by simpa using h.size,hdown',.inr ⟨pre,rest,pd,s,a'.put (some d) v,fun j hj hjR=>?_,fun k hk=>by rw[aU hlt,h2 k hk];rfl,h3,⟨h4.1,fun q hq=>by rw[aU hlt,h4.2 q hq];rfl⟩,fun j hj hjR hjl=>?_,h6,h7,⟨ρ,hnew⟩,?_⟩⟩
    ·rw[←h1 j hj hjR,aU hlt]
     have:(j==i)=false:=by
      rw[beq_eq_false_iff_ne];intro e;rw[e,hiR]at hjR;cases hjR
     rw[this,Bool.or_false]
    ·rw[aU hlt]at hjl;simp only[Bool.or_eq_false_iff]at hjl;exact h5 j hj hjR hjl.1
    refine⟨h9.defers,by simp[Act.put,h9.size],fun t ht=>?_⟩;rw[mQ,mQ,h9.size]
    split
    ·rfl
    rename_i hne
    by_cases htd:t=d
    ·subst htd;have h10:a'.tmps.size≤t:=Nat.le_of_not_lt fun h11=>hne ⟨rfl,h11⟩;rw[Array.getElem?_eq_none (by rw[h9.size];exact h10),Array.getElem?_eq_none h10]
    refine h9.tmps t fun hh=>ht ?_;obtain⟨j,hj,hjR,hjl,hjd⟩:=hh;refine⟨j,hj,hjR,?_,hjd⟩;rw[aU hlt,hjl,Bool.false_or,beq_eq_false_iff_ne];intro e;subst e;rw[hdst]at hjd;exact htd (Option.some.inj hjd).symm
   unfold wpOp;simp only[ho];unfold IT at hpe
   split at hpe
   ·rename_i hg
    obtain⟨v,hrun,hv⟩:=hpe G _ ρ _ a w hsimH hagr;rw[gZ hg,if_pos rfl];refine .inl (Oper.dN hrun ?_);rw[hd];exact fin v hv
   rename_i g want hg
   obtain⟨t,b,ht,hb,hpe⟩:=hpe;obtain⟨hgi,hgp,hgR⟩:=hck.guard i _ g want ho hiR hg;have hb':gv (lk (s7 s (hid ops ws listed)).env t)=some b:=by
    rw[sM _ _ _ ?_]
    ·exact hb
    rintro⟨j,hj,hjR,hjl,hjd⟩
    by_cases hjg:j=g
    ·subst hjg;rw[hp j hgp]at hjl;cases hjl
    exact hck.dst j g t hj (by omega) hjg hjd ht
   rw[nG hsimH hg ht hb']
   by_cases hbw:b=some want
   ·rw[if_pos hbw]at hpe;rw[if_pos (by simp[hbw])];obtain⟨v,hrun,hv⟩:=hpe G _ ρ _ a w hsimH hagr;refine .inl (Oper.dN hrun ?_);rw[hd];exact fin v hv
   rw[if_neg hbw]at hpe;rw[if_neg (by simpa using hbw)];rw[hd];refine fin undef ?_;rw[hpe];exact⟨#[],rfl,trivial⟩
  have hiW:bP ws i=false:=by simpa using hiR
  have hiH:j6 ws i=true:=by simpa[bP]using hiW
  by_cases hx:∃q,ex=some q∧listed.getD q false=false
  ·obtain⟨q,hq,hql⟩:=hx
   rcases h.where_ with⟨hF,hlR,hsim⟩|⟨pre,rest,pd,s,a',h1,h2,h3,h4,h5,h6,h7,h8,h9⟩
   ·exact hsw hF q hq fuel listed a w i h hlR hsim hql hi hiH hf
   rw[h4.2 q hq]at hql;cases hql
  have hexl:∀q,ex=some q→listed.getD q false=true:=fun q hq=>by
   cases hl:listed.getD q false with
   |true=>rfl
   |false=>exact absurd ⟨q,hq,hl⟩ hx
  -- where it stands among those that write
  have data:∃(pre:List Nat) (sub:WL) (pdi:List Nat) (s:St) (a':Act),(∀j,j<ops.size→bP ws j=false→(listed.getD j false=true↔j∈pre))∧(∀k∈pre,listed.getD k false=true)∧N2 ops ws ex pre i pdi sub∧
    NQ P ops i pdi s (fun s'=>lT P ops sub s' K)∧qc G s a' w∧RU (hid ops ws listed) a a'∧∀q,ex=some q→listed.getD q false=true:=by
   rcases h.where_ with⟨hF,hlR,hsim⟩|⟨pre,rest,pd,s,a',h1,h2,h3,h4,h5,h6,h7,h8,h9⟩
   ·rcases rV (hcov hF) his hiH with k|k|⟨j,hj,hjw,_,hcl⟩
    ·cases k
    ·obtain⟨pdi,sub,hop,hwok⟩:=mZ (hW hF) (hgw hF) k;obtain⟨ρ,hsim⟩:=hsim;obtain⟨a',hs',hu2⟩:=ghost (P:=P) hck hfz (hstep hF) hlR (fun j hj hjR hjl=>by
      rcases hwok.all j hj hjR with kd|ke|⟨k0,hk0,kc⟩
      ·obtain⟨o,_,_,_,hop⟩:=hwok.op;obtain⟨oj,d,_,k1,k2,_⟩:=hop j kd;exact⟨oj,k1,k2⟩
      ·rw[hexl j ke]at hjl;cases hjl
      have hk0:k0=i:=by simpa using hk0
      rw[hk0]at kc;rw[hclos j kc]at hjl;cases hjl) ⟨ρ,hsim⟩ h.down ops.size (Nat.le_refl _)
     refine⟨[],sub,pdi,uo σ ops es ws,a',fun j hj hjR=>?_,fun k hk=>by(cases hk),hwok,hop,?_,hu2,hexl⟩
     ·constructor
      ·intro k;rw[hlR j k]at hjR;cases hjR
      intro k;cases k
     obtain⟨ρ',k1⟩:=hs';rw[kR (fun j hj _=>by simp[hj])]at k1
     have k2:=k1.cQ (dom':=fun b=>b<σ.nx+ops.size) (fun b hb=>by rcases hb with hb|⟨j,hj,_,rfl⟩<;>omega)
     exact⟨ρ',k2.I4 ⟨fun _=>rfl,fun _=>rfl,rfl⟩⟩
    exfalso
    have k2:=hlR j (hclos j hcl)
    simp[bP,hjw]at k2
   rcases rV h4.1 his hiH with k|k|⟨j,hj,hjw,hjp,hcl⟩
   ·exfalso;rw[h2 i k]at hu';cases hu'
   ·obtain⟨pdi,sub,hop,hwok⟩:=mZ h6 h3 k;exact⟨pre,sub,pdi,s,a',h1,h2,hwok,hop,h8,h9,h4.2⟩
   exfalso
   exact hjp ((h1 j hj (by simp[bP,hjw])).1 (hclos j hcl))
  obtain⟨pre,sub,pdi,s,a',h1,hpl,hwok,h6,h8,h9,hexl⟩:=data;exact L4 hP h.size h.down his hp hiW h1 hpl hwok h6 h8 h9 hexl fun a w hst=>ih _ _ _ hst (by omega)
def I3:List (Nat×V)→Nat→List (Nat×V)
 |[],_=>[]
 |(t,v)::r,d=>if t=d then I3 r d else(t,v)::I3 r d
def N9 (d id:Nat)(s:St):St:={s with env:=I3 s.env d,own:=del s.own id}
theorem Ij (d t:Nat):∀l:List (Nat×V),lk (I3 l d) t=if t=d then .unk else lk l t
 |[]=>by simp[I3,lk]
 |(t',v)::r=>by
  have ih:=Ij d t r;simp only[I3]
  by_cases h:t'=d
  ·rw[if_pos h,ih]
   by_cases h2:t=d
   ·rw[if_pos h2,if_pos h2]
   rw[if_neg h2,if_neg h2,lk,if_neg (fun e=>h2 (e.trans h))]
  rw[if_neg h];simp only[lk]
  by_cases h2:t=t'
  ·subst h2;rw[if_pos rfl,if_neg h,if_pos rfl]
  rw[if_neg h2,if_neg h2,ih]
structure LN (ops:Array Oper) (q d:Nat) (t1 t2:WL):Prop where
 g1:NT ops t1
 c1:kb ops t1 [] t1=true
 w1:mK ops t1 (some q) [] t1=true
 g2:NT ops t2
 c2:Dk ops t2 q t2=true
 w2:mK ops t2 none [] t2=true
 qs:q<ops.size
 qR:bP t1 q=true
 qd:br ops q=some d
 same:∀j,j<ops.size→j6 t2 j=(j6 t1 j||j==q)
 rd:∀j o,bP t2 j=true→ops[j]? =some o→d∉tmpsOf o
 al:∃o,ops[q]? =some o∧o.guard=none∧jO o.op=true
theorem Lv {ops:Array Oper}{q d:Nat}{t1 t2:WL}(h:NU ops (.opt q d t1 t2)=true):LN ops q d t1 t2:=by
 simp only[NU,Bool.and_eq_true]at h;obtain⟨⟨⟨⟨⟨⟨⟨⟨⟨⟨⟨h1,h2⟩,h3⟩,h4⟩,h5⟩,h6⟩,h7⟩,h8⟩,h9⟩,h10⟩,h11⟩,h12⟩:=h;refine⟨ug h1,h2,h3,ug h4,h5,h6,of_decide_eq_true h7,h8,by simpa using h9,fun j hj=>?_,fun j o hj ho=>?_,?_⟩
 ·have:=List.all_eq_true.1 h10 j (by simpa using hj)
  exact beq_iff_eq.1 this
 ·have hlt:=(Array.getElem?_eq_some_iff.1 ho).1
  have:=List.all_eq_true.1 h11 j (by simpa using hlt)
  rw[hj,ho]at this
  simpa using this
 cases ho:ops[q]? with
 |none=>rw[ho]at h12;cases h12
 |some o=>
  rw[ho]at h12;simp only[Bool.and_eq_true,Option.isNone_iff_eq_none]at h12;exact⟨o,rfl,h12.1,h12.2⟩
theorem xN {q d:Nat}{t1 t2:WL}(hk:LN ops q d t1 t2)(hfz:∀j,∀b∈(es j).fz,b<σ.nx)(hqfz:(es q).fz=[])
  (hstep:∀(i:Nat) o,bP t1 i=true→ops[i]? =some o→lA P ops σ.nx i o (aH σ σ.nx ops es (bP t1) i) (es i))
  (hW1:lT P ops t1 (uo σ ops es t1) K) (hW2:lT P ops t2 (N9 d (σ.nx+q) (uo σ ops es t1)) K)
  {G:Ctx} {Q:Exit→Act→World→Prop} (hQ:∀s a w,K s→qc G s a w→Q .normal a w) (hP:∀ch a a' w,Q (.panic ch) a w→Q (.panic ch) a' w):
  ∀(fuel:Nat) (listed:Array Bool) (a:Act) (w:World),ow P G ops t1 (some q) True σ es K listed a w→iF ops listed≤fuel→wpAny P .any ops Q fuel listed a w:=by
 have hR2:∀j,j<ops.size→bP t1 j=true→j≠q→bP t2 j=true:=fun j hj h1 hq=>by
  have:(j==q)=false:=by simpa using hq
  simp only[bP,hk.same j hj,this,Bool.or_false];exact h1
 have hR1:∀j,j<ops.size→bP t2 j=true→bP t1 j=true∧j≠q:=fun j hj h2=>by
  simp only[bP,hk.same j hj,Bool.not_eq_true',Bool.or_eq_false_iff]at h2;exact⟨by simp[bP,h2.1],by simpa using h2.2⟩
 have hq2:bP t2 q=false:=by simp[bP,hk.same q hk.qs]
 -- the runs with and without the new variable
 have hacc:∀k,k≤ops.size→(k≤q→aH σ σ.nx ops es (bP t1) k=aH σ σ.nx ops es (bP t2) k)∧(q<k→Af (aH σ σ.nx ops es (bP t1) k) ((aH σ σ.nx ops es (bP t2) k).add (some d) (σ.nx+q) (es q))):=fun k hkN=>by
  refine⟨fun hkq=>cC k fun j hj=>?_,fun hqk=>?_⟩
  ·have h1:j<ops.size:=by omega
   have h2:(j==q)=false:=by rw[beq_eq_false_iff_ne];omega
   simp only[bP,hk.same j h1,h2,Bool.or_false]
  have h3:=nB (σ:=σ) (nx0:=σ.nx) (e:=es) (N:=ops.size) (L:=bP t2) (i:=q) hq2 hk.g1.dst hfz k hkN hqk;rw[hk.qd]at h3
  rw[cC (L:=bP t1) (L':=fun j=>bP t2 j||j==q) k fun j hj=>?_]
  ·exact h3
  have h1:j<ops.size:=by omega
  by_cases hjq:j=q
  ·subst hjq;rw[hk.qR];simp
  have h2:(j==q)=false:=by simpa using hjq
  simp only[bP,hk.same j h1,h2,Bool.or_false]
 have hlk:∀k,k≤ops.size→∀t,t≠d→lk (aH σ σ.nx ops es (bP t1) k).env t=lk (aH σ σ.nx ops es (bP t2) k).env t:=fun k hkN t ht=>by
  by_cases hkq:k≤q
  ·rw[(hacc k hkN).1 hkq]
  rw[((hacc k hkN).2 (by omega)).env t,jQ,if_neg (fun e=>ht (Option.some.inj e).symm)]
 have hagr:∀j o,bP t2 j=true→ops[j]? =some o→∀Z,rJ (aH σ σ.nx ops es (bP t2) j) Z σ.nx o→rJ (aH σ σ.nx ops es (bP t1) j) Z σ.nx o:=fun j o hj ho Z hZ=>by
  have hjs:=(Array.getElem?_eq_some_iff.1 ho).1;refine⟨by rw[hZ.n,fH,fH],fun x hx=>?_,fun b hb=>by rw[hZ.own b hb,jh _ j b hb,jh _ j b hb]⟩;rw[hZ.ev x hx]
  cases x with
  |tmp t=>
   have htm:t∈tmpsOf o:=List.mem_filterMap.2 ⟨.tmp t,by simpa using hx,rfl⟩;exact(hlk j (Nat.le_of_lt hjs) t (fun e=>hk.rd j o hj ho (e▸htm))).symm
  |const v=>rfl
  |global g=>rfl
  |func f=>rfl
 have hre:∀j o e,bP t2 j=true→ops[j]? =some o→bm P o (aH σ σ.nx ops es (bP t1) j) σ.nx (σ.nx+j) e→bm P o (aH σ σ.nx ops es (bP t2) j) σ.nx (σ.nx+j) e:=fun j o e hj ho h=>
  ⟨fun G dom ρ Z a w hs hd hZ=>h.1 G dom ρ Z a w hs hd (hagr j o hj ho Z hZ),fun hl=>⟨(h.2 hl).1,(h.2 hl).2.1,fun G dom ρ Z a w hs hZ=>(h.2 hl).2.2 G dom ρ Z a w hs (hagr j o hj ho Z hZ)⟩⟩
 have hstep2:∀(i:Nat) o,bP t2 i=true→ops[i]? =some o→lA P ops σ.nx i o (aH σ σ.nx ops es (bP t2) i) (es i):=fun i o hi ho=>by
  have his:=(Array.getElem?_eq_some_iff.1 ho).1;obtain⟨hd,hs⟩:=hstep i o (hR1 i his hi).1 ho;refine⟨fun t ht=>by have:=hd t ht;rw[fH]at this⊢;exact this,?_⟩
  cases hg:o.guard with
  |none=>rw[hg]at hs;exact hre i o _ hi ho hs
  |some gw=>
   obtain⟨g,want⟩:=gw;rw[hg]at hs;obtain⟨t,b,ht,hb,hs⟩:=hs;obtain⟨hgi,hgp,hgR⟩:=hk.g2.guard i o g want ho hi hg;have htd:t≠d:=fun e=>by
    subst e;exact hk.g2.dst g q t (by omega) hk.qs (hR1 g (by omega) hgR).2 ht hk.qd
   refine⟨t,b,ht,by rw[←hlk i (Nat.le_of_lt his) t htd];exact hb,?_⟩
   by_cases hbw:b=some want
   ·rw[if_pos hbw]at hs⊢;exact hre i o _ hi ho hs
   rw[if_neg hbw]at hs⊢;exact hs
 refine lM (ex:=some q) (F:=True) hk.g1 (fun _=>hk.c1) (fun _=>hk.w1) hfz (fun _=>hstep) (fun _=>hW1) (fun _ q' hq' fuel listed a w i h hlR hsim hql hi hiH hf=>?_) hQ hP;obtain rfl:=Option.some.inj hq';obtain⟨hp,his,hu⟩:=gX hi;have hlt:i<listed.size:=by rw[h.size];exact his
 have hiq:i≠q:=fun e=>by subst e;have:=hk.qR;rw[bP,hiH]at this;cases this
 have hiW2:j6 t2 i=true:=by rw[hk.same i his,hiH];rfl
 have hlR2:∀j,listed.getD j false=true→bP t2 j=true:=fun j hj=>by
  have hjs:j<ops.size:=by
   rw[←h.size];refine Nat.lt_of_not_le fun hle=>?_
   simp[Array.getD,Nat.not_lt.2 hle]at hj
  refine hR2 j hjs (hlR j hj) fun e=>?_;subst e;rw[hql]at hj;cases hj
 have hclos:∀j,eI ops ops.size i j=true→listed.getD j false=true:=fun j hj=>fm h.down _ i j hp hj;have hnext:rG t2 i=true:=by
  have h1:=List.all_eq_true.1 hk.c2 i (by simpa using his);rw[hiW2]at h1;have h2:(i==q)=false:=by simpa using hiq
  rw[h2]at h1;simp only[Bool.not_true,Bool.false_or,Bool.or_eq_true]at h1
  rcases h1 with h1|h1
  ·exact h1
  obtain⟨j,_,h3⟩:=List.any_eq_true.1 h1;simp only[Bool.and_eq_true]at h3;have h4:=hlR2 j (hclos j h3.2)
  simp[bP,h3.1]at h4
 obtain⟨pdi,sub,hop,hwok⟩:=mZ hW2 hk.w2 hnext;have hsim2:vA G (fun b=>b<σ.nx∨∃j,j<ops.size∧listed.getD j false=true∧b=σ.nx+j) (aH σ σ.nx ops es (fun j=>bP t2 j&&listed.getD j false) ops.size) a w:=by
  rw[cC (L:=fun j=>bP t2 j&&listed.getD j false) (L':=fun j=>bP t1 j&&listed.getD j false) ops.size fun j hj=>?_]
  ·exact hsim
  cases hl:listed.getD j false with
  |false=>simp
  |true=>rw[hlR2 j hl,hlR j hl]
 obtain⟨a',hs',hu2⟩:=ghost (P:=P) hk.g2 hfz hstep2 hlR2 (fun j hj hjR hjl=>by
  rcases hwok.all j hj hjR with kd|ke|⟨k0,hk0,kc⟩
  ·obtain⟨o,_,_,_,hop⟩:=hwok.op;obtain⟨oj,d',_,k1,k2,_⟩:=hop j kd;exact⟨oj,k1,k2⟩
  ·cases ke
  have hk0:k0=i:=by simpa using hk0
  rw[hk0]at kc;rw[hclos j kc]at hjl;cases hjl) hsim2 h.down ops.size (Nat.le_refl _)
 obtain⟨ρ',k1⟩:=hs';rw[kR (ws:=t2) (fun j hj _=>by simp[hj])]at k1
 have k2:=k1.cQ (dom':=fun b=>b<σ.nx+ops.size) (fun b hb=>by rcases hb with hb|⟨j,hj,_,rfl⟩<;>omega)
 have hnone:lo (aH σ σ.nx ops es (bP t2) ops.size).own (σ.nx+q)=none:=by
  cases hB:lo (aH σ σ.nx ops es (bP t2) ops.size).own (σ.nx+q)with
  |none=>rfl
  |some B=>
   exfalso
   rcases(k1.own _ _ hB).1 with hd|⟨j,_,hjl,hd⟩
   ·omega
   have:j=q:=by omega
   subst this;rw[hql]at hjl;cases hjl
 -- the state without the new variable
 have halk:=(hacc ops.size (Nat.le_refl _)).2 hk.qs;have k3:a7 G (fun b=>b<σ.nx+ops.size) ρ' (s7 (aH σ σ.nx ops es (bP t2) ops.size) (fun t=>t=d)) a' w:=k2.s7 (RU.refl _ _);have k4:qc G (N9 d (σ.nx+q) (uo σ ops es t1)) a' w:=by
  refine⟨ρ',k3.I4 ⟨fun t=>?_,fun b=>?_,?_⟩⟩
  ·show _=lk (I3 (uo σ ops es t1).env d) t;rw[Ij]
   by_cases ht:t=d
   ·rw[if_pos ht,Ap _ (fun t=>t=d) _ ht]
   rw[if_neg ht,sM _ (fun t=>t=d) _ ht];exact(hlk ops.size (Nat.le_refl _) t ht).symm
  ·show _=lo (del (uo σ ops es t1).own (σ.nx+q)) b;rw[ka];have h5:=halk.own b;have h6:lo (uo σ ops es t1).own b=lo (aH σ σ.nx ops es (bP t1) ops.size).own b:=rfl;rw[h6,h5,pV,hqfz]
   by_cases hb:b=σ.nx+q
   ·rw[if_pos hb,hb];exact hnone
   rw[if_neg hb];show lo (aH σ σ.nx ops es (bP t2) ops.size).own b=_;have hfi:gh [] b=id:=by funext v;simp[gh]
   cases(es q).oB with
   |none=>simp only[hfi,Option.map_id,id]
   |some B=>simp only[hfi,Option.map_id,id,if_neg hb]
  show(aH σ σ.nx ops es (bP t2) ops.size).n=(aH σ σ.nx ops es (bP t1) ops.size).n
  rw[fH,fH]
 refine L4 (ws:=t2) (σ:=σ) (es:=es) (F:=False) (ex:=none) hP h.size h.down his hp (by simp[bP,hiW2]) (pre:=[]) (fun j hj hjR=>?_) (fun k hk=>by cases hk) hwok hop k4 hu2 (fun q hq=>by cases hq) fun a w hst=>?_
 ·constructor
  ·intro k;rw[hlR2 j k]at hjR;cases hjR
  intro k;cases k
 refine lM (ex:=none) (F:=False) hk.g2 (fun h=>h.elim) (fun h=>h.elim) hfz (fun h=>h.elim) (fun h=>h.elim) (fun h=>h.elim) hQ hP fuel _ a w hst ?_
 have:=oJ h.size his hu
 omega
end
end Go.Eng
/-
  THE ENGINE, PART S: a function's text as a proposition that can be reckoned; and that it says enough.
-/
namespace Go.Eng
open Go
def yf:Value→Bool
 |.slice a _ _=>match a with
  |none=>true
  |some _=>false
 |_=>false
def qu:Operand→Bool
 |.const v=>yf v
 |_=>false
def wg:BinOp→Bool
 |.eql=>true
 |_=>false
def r7:Op→Bool
 |.store _ _ _=>true
 |.binOp op _ _ y _=>wg op&&qu y
 |.call c=>match c.callee with
  |.builtin b=>match b with
   |.append=>true
   |.cap=>true
   |.clear=>true
   |_=>false
  |_=>false
 |_=>false
def cV:Op→Bool
 |.call c=>match c.callee with
  |.value _=>true
  |_=>false
 |_=>false
def orM (A B:Prop):Prop:=A∨B
def tz:Op→Bool
 |.assign _=>true
 |op=>r7 op
def Ai (d:Tmp):Operand→Bool
 |.tmp t=>t==d
 |_=>false
def LU (d:Tmp)(o:Op):Bool:=
 match o with
 |.convert _ _ x=>Ai d x
 |_=>false
def aP (d:Option Tmp)(os:List Oper):Bool:=
 match d with
 |none=>false
 |some d=>os.any fun o=>LU d o.op||match o.op with
  |.call c=>match c.callee with
   |.value _=>c.args.toList.any (Ai d)
   |_=>false
  |.build _ ps=>ps.toList.any fun p=>Ai d p.2
  |.buildSlice _ _ ps=>ps.toList.any fun p=>Ai d p.2
  |_=>false
def uG (i:Nat)(os:List Oper):Bool:=os.any fun o=>match o.guard with
 |some (g,_)=>g==i
 |none=>false
def GY (T:fP)(s:St)(dst:Option Tmp)(t:TypeId)(x:Operand)(K:St→Prop):Prop:=
 match T t with
 |some E=>match E.k with
  |.sl _=>match s.ev x with
   |.one c=>match jw c with
    |some n=>∀m:Nat,n≤m→(c= .nil→m=0)→eH K (s.put dst (.one (.int .i64 m)))
    |none=>False
   |_=>False
  |_=>False
 |none=>False
def Oj (T:fP)(t:TypeId):Prop:=
 match T t with
 |some S=>(match S.k with
  |.sl _=>True
  |_=>False)
 |none=>False
theorem Mw {T:fP}{P:Program}(hT:fg P T){t:TypeId}(h:Oj T t):∃e,P.underlying t=some (.slice e):=by
 unfold Oj at h
 cases hTt:T t with
 |none=>rw[hTt]at h;exact h.elim
 |some S=>
  rw[hTt]at h;simp only at h
  split at h
  ·rename_i e hk
   exact⟨e,fD hT hTt hk⟩
  exact h.elim
def Ig (T:fP)(s:St)(dst:Option Tmp)(t:TypeId)(x:Operand)(K:St→Prop):Prop:=
 match T t with
 |some E=>match E.k with
  |.sl _=>match s.ev x with
   |.one c=>match jw c with
    |some n=>∀b:Bool,(0<n→b=false)→eH K (s.put dst (.one (.bool b)))
    |none=>False
   |_=>False
  |_=>False
 |none=>False
def CB (T:fP)(op:Op)(dst:Option Tmp)(s:St)(K:St→Prop):Prop:=
 match op with
 |.store t x y=>dst=none∧uO T s t x y K
 |.binOp op t x y _=>wg op=true∧qu y=true∧Ig T s dst t x K
 |.call c=>match c.callee with
  |.builtin b=>match b,c.args.toList,c.argTypes.toList with
   |.append,[x,y],[t,t']=>Oj T t'∧pq T s dst t x y K
   |.cap,[x],[t]=>GY T s dst t x K
   |.clear,[x],[t]=>uL T s dst t x K
   |_,_,_=>False
  |_=>False
 |_=>False
def bU (u:Bool)(e:ey)(K:ey→Prop):Prop:=
 if u then(match e.val with
  |.one (.bool b)=>(b=true→eH K ⟨.one (.bool true),e.oB,e.fz⟩)∧(b=false→eH K ⟨.one (.bool false),e.oB,e.fz⟩)
  |_=>False)
 else K e
def after (s:St)(dst:Option Tmp)(e:ey):St:={s.add dst s.nx e with nx:=s.nx+1}
def dT (u:Bool)(i:Nat)(dst:Option Tmp)(gd:List (Nat×Tmp)):List (Nat×Tmp):=
 if u then(match dst with
  |some d=>(i,d)::gd
  |none=>gd)else gd
def fZ:List (Nat×Tmp)→Nat→Option Tmp
 |[],_=>none
 |(i',t)::r,i=>if i=i' then some t else fZ r i
def guarded (s:St)(gd:List (Nat×Tmp))(g:Option (Nat×Bool))(A B:Prop):Prop:=
 match g with
 |none=>A
 |some (g,want)=>match fZ gd g with
  |some t=>match gv (lk s.env t)with
   |some b=>if b=some want then A else B
   |none=>False
  |none=>False
def pB (dst:Option Tmp)(n:Nat):Prop:=
 match dst with
 |none=>True
 |some d=>d<n
def u5 (nx0:Nat):List Nat→Prop
 |[]=>True
 |b::r=>b<nx0∧u5 nx0 r
def qf (T:fP)(P:Program):Nat→List Oper→List (Nat×Tmp)→St→(St→Prop)→Prop
 |_,[],_,s,K=>K s
 |i,o::os,gd,s,K=>
  pB o.dst s.n∧guarded s gd o.guard
   (
    if r7 o.op then CB T o.op o.dst s (fun s'=>qf T P (i+1) os gd s' K)
    else if cV o.op then orM (eF T P o.op s s.nx s.nx (aP o.dst os) (fun e=>bU (uG i os) e fun e'=>qf T P (i+1) os (dT (uG i os) i o.dst gd) (after s o.dst e') K)) (oi P o.op o.dst s (fun s'=>qf T P (i+1) os gd s' K))
    else eF T P o.op s s.nx s.nx (aP o.dst os) (fun e=>bU (uG i os) e fun e'=>qf T P (i+1) os (dT (uG i os) i o.dst gd) (after s o.dst e') K))
   (qf T P (i+1) os (dT (uG i os) i o.dst gd) (s.put o.dst (.aJ [])) K)
def vd (T:fP)(P:Program)(nx0 len:Nat):Nat→List Oper→List (Nat×Tmp)→St→(St→Prop)→Prop
 |_,[],_,s,K=>K {s with nx:=nx0+len}
 |i,o::os,gd,s,K=>
  if tz o.op then qf T P i (o::os) gd {s with nx:=nx0+len} K
  else pB o.dst s.n∧guarded s gd o.guard
   (if cV o.op then orM (eF T P o.op s nx0 (nx0+i) (aP o.dst os) (fun e=>u5 nx0 e.fz∧bU (uG i os) e fun e'=>vd T P nx0 len (i+1) os (dT (uG i os) i o.dst gd) (s.add o.dst (nx0+i) e') K)) False else eF T P o.op s nx0 (nx0+i) (aP o.dst os) (fun e=>u5 nx0 e.fz∧bU (uG i os) e fun e'=>vd T P nx0 len (i+1) os (dT (uG i os) i o.dst gd) (s.add o.dst (nx0+i) e') K))
   (vd T P nx0 len (i+1) os (dT (uG i os) i o.dst gd) (s.put o.dst (.aJ [])) K)
def gi (T:fP)(P:Program)(nx0 len:Nat)(ws:WL):Nat→List Oper→List (Nat×Tmp)→St→(St→Prop)→Prop
 |_,[],_,s,K=>K {s with nx:=nx0+len}
 |i,o::os,gd,s,K=>
  if j6 ws i then gi T P nx0 len ws (i+1) os gd s K
  else pB o.dst s.n∧guarded s gd o.guard
   (if cV o.op then orM (eF T P o.op s nx0 (nx0+i) (aP o.dst os) (fun e=>u5 nx0 e.fz∧bU (uG i os) e fun e'=>gi T P nx0 len ws (i+1) os (dT (uG i os) i o.dst gd) (s.add o.dst (nx0+i) e') K)) False else eF T P o.op s nx0 (nx0+i) (aP o.dst os) (fun e=>u5 nx0 e.fz∧bU (uG i os) e fun e'=>gi T P nx0 len ws (i+1) os (dT (uG i os) i o.dst gd) (s.add o.dst (nx0+i) e') K))
   (gi T P nx0 len ws (i+1) os (dT (uG i os) i o.dst gd) (s.put o.dst (.aJ [])) K)
def wU (T:fP)(P:Program)(os:List Oper)(o:Oper)(d:Nat)(s:St):Prop:=match o.guard with
 |none=>eF T P o.op s s.nx s.nx false (fun e=>e.val=lk s.env d)
 |some (g,want)=>match(os[g]?).bind (·.dst)with
  |some t=>match gv (lk s.env t)with
   |some b=>if b=some want then eF T P o.op s s.nx s.nx false (fun e=>e.val=lk s.env d)else lk s.env d= .aJ []
   |none=>False
  |none=>False
def prom (T:fP)(P:Program)(os:List Oper):List Nat→St→Prop
 |[],_=>True
 |j::r,s=>(match os[j]? with
  |some o=>match o.dst with
   |some d=>d<s.n∧wU T P os o d s
   |none=>False
  |none=>False)∧prom T P os r s
def uJ (T:fP)(P:Program)(o:Oper)(os:List Oper)(s:St)(K:St→Prop):Prop:=
 if r7 o.op then CB T o.op o.dst s K
 else if cV o.op then orM (eF T P o.op s s.nx s.nx (aP o.dst os) (fun e=>K (after s o.dst e))) (oi P o.op o.dst s K)
 else eF T P o.op s s.nx s.nx (aP o.dst os) (fun e=>K (after s o.dst e))
def D8 (T:fP)(P:Program)(os:List Oper)(i:Nat)(pd:List Nat)(s:St)(K:St→Prop):Prop:=match os[i]? with
  |some o=>pB o.dst s.n∧uJ T P o os s (fun s'=>prom T P os pd s'∧K s')
  |none=>False
def iW (T:fP)(P:Program)(os:List Oper):WL→St→(St→Prop)→Prop
 |.nil,s,K=>K s
 |.cons i pd sub .nil,s,K=>D8 T P os i pd s (fun s'=>iW T P os sub s' K)
 |.cons i pd sub (.cons i' pd' sub' alt'),s,K=>D8 T P os i pd s (fun s'=>iW T P os sub s' K)∧iW T P os (.cons i' pd' sub' alt') s K
 |.cons _ _ _ (.opt _ _ _ _),_,_=>False
 |.opt _ _ _ _,_,_=>False
structure Kp where
 ks:List Nat
 ms:List (Nat×WL)
def mf:List (Nat×WL)→Nat→Option WL
 |[],_=>none
 |(i,ws)::r,id=>if id=i then some ws else mf r id
def gc (keep:List Nat)(s:St):St:={s with env:=keep.map fun t=>(t,lk s.env t)}
def oy (T:fP)(P:Program)(m:Option WL)(os:List Oper)(s:St)(K:St→Prop):Prop:=
 match m with
 |none=>vd T P s.nx os.length 0 os [] s K
 |some (.opt q d t1 t2)=>gi T P s.nx os.length t1 0 os [] s (fun s'=>iW T P os t1 s' K∧iW T P os t2 (N9 d (s.nx+q) s') K)
 |some ws=>gi T P s.nx os.length ws 0 os [] s (fun s'=>iW T P os ws s' K)
def ik (T:fP)(P:Program)(ms:List (Nat×WL))(id:Nat)(draw:Bool)(os:List Oper)(s:St)(K:St→Prop):Prop:=
 if draw then oy T P (mf ms id) os s K else qf T P 0 os [] s K
def Sub (s s':St):Prop:=∀G a w,qc G s a w→qc G s' a w
def vc (T:fP)(P:Program)(keep:Kp):Code→St→(Exit→St→Prop)→Prop
 |.skip,s,Q=>Q .normal s
 |.region id ops draw,s,Q=>ik T P keep.ms id draw ops.toList s (fun s'=>Q .normal (gc keep.ks s'))
 |.seq a b,s,Q=>vc T P keep a s (fun e s'=>match e with
  |.normal=>vc T P keep b s' Q
  |e=>Q e s')
 |.cond c a b,s,Q=>match s.ev c with
  |.one (.bool t)=>(t=true→eH (fun s=>vc T P keep a s Q) s)∧(t=false→eH (fun s=>vc T P keep b s Q) s)
  |_=>False
 |.block id c,s,Q=>vc T P keep c s (fun e s'=>match e with
  |.exit id'=>if id'=id then Q .normal s' else Q (.exit id') s'
  |e=>Q e s')
 |.loop c,s,Q=>∃(ι:Type) (I:ι→St) (m:ι→Nat) (x0:ι),Sub s (I x0)∧∀x,eH (fun s=>vc T P keep c s (fun e s'=>match e with
  |.normal=>∃y,Sub s' (I y)∧m y<m x
  |e=>Q e s')) (I x)
 |.exit id,s,Q=>Q (.exit id) s
 |.ret,s,Q=>Q .ret s
 |_,_,_=>False
theorem G9.mono {P:Program}{ops:Array Oper}{o:Oper}{s:St}{K K':St→Prop}(h:G9 P ops o s K)(hk:∀s',K s'→K' s'):G9 P ops o s K':=by
 unfold G9 at*
 have hw:nN P o s K→nN P o s K':=fun h G a w hs Q next hn=>h G a w hs Q next (fun s' a' w' h1 h2=>hn s' a' w' (hk s' h1) h2)
 split at h
 ·exact hw h
 obtain⟨t,b,h1,h2,h3,h4⟩:=h;exact⟨t,b,h1,h2,fun e=>hw (h3 e),fun e=>hk _ (h4 e)⟩
def yz (ops:Array Oper)(gd:List (Nat×Tmp)):Prop:=∀g t,fZ gd g=some t→br ops g=some t
theorem yz.set {ops:Array Oper}{gd:List (Nat×Tmp)}(h:yz ops gd){i:Nat}{o:Oper}(ho:ops[i]? =some o)(u:Bool):yz ops (dT u i o.dst gd):=by
 unfold dT
 split
 ·cases hd:o.dst with
  |none=>exact h
  |some d=>
   intro g t hg;simp only[fZ]at hg
   split at hg
   ·rename_i hgi
    subst hgi;simp only[Option.some.injEq]at hg;subst hg;unfold br;rw[ho];exact hd
   exact h g t hg
 exact h
theorem jk {u:Bool}{e:ey}{K:ey→Prop}(h:bU u e K):K e:=by
 unfold bU at h
 split at h
 ·split at h
  ·rename_i b hb
   obtain⟨v,bl,fz⟩:=e;simp only at hb;subst hb
   cases b
   ·exact h.2 rfl
   exact h.1 rfl
  exact h.elim
 exact h
section
variable {T:fP}{P:Program}(hT:fg P T)
include hT
theorem qV {o:Oper}{s:St}{K:St→Prop}{c:Call}(ho:o.op= .call c)(hcal:c.callee= .builtin .cap){x:Operand}(hargs:c.args= #[x]){t:TypeId}(htys:c.argTypes= #[t])(hdn:bZ o s.n)(h:GY T s o.dst t x K):nN P o s K:=by
 unfold GY at h
 cases hTt:T t with
 |none=>rw[hTt]at h;exact h.elim
 |some E=>
  rw[hTt]at h;simp only at h
  split at h
  ·rename_i e hEk
   have hu:=fD hT hTt hEk
   split at h
   ·rename_i cc hx
    split at h
    ·rename_i n hl
     intro G a w hsim Q next hk;obtain⟨ρ,hs⟩:=hsim;have hev:=hs.ev x;rw[hx]at hev;obtain⟨ad,cap,hv,hc,hn⟩:=CY hl hev;have hr:(execOp a.eval o).run P w= .ok (.value (.int .i64 cap)) w:=by
      unfold execOp;rw[ho];simp only[resolve,hcal,Sem.run_bind,Sem.run_pure,Result.andThen_ok,invoke,Go.builtin,hargs,htys];simp only[Builtin.cap_,hv,List.map_toArray,List.map_cons,List.map_nil,List.getElem?_toArray,List.getElem?_cons_zero,Sem.run_bind,av hu,Result.andThen_ok,Sem.run_pure];rfl
     refine Oper.dN hr (hk _ _ _ (h cap hc hn) ⟨ρ,?_⟩);have h1:=hs.put (dst:=o.dst) (x:=.one (.int .i64 cap)) (v:=.int .i64 cap) hdn rfl
     cases hd:o.dst with
     |none=>rw[hd]at h1;exact h1
     |some d=>rw[hd]at h1;exact h1
    exact h.elim
   exact h.elim
  exact h.elim
omit hT in
theorem E4 {ρ:Nat→Loc}{dom ok:Nat→Prop}{w:World}{c:C}{n:Nat}{v:Value}(hl:jw c=some n)(h:aW ρ dom ok w c v):∃a cap,v= .slice a n cap∧(0<n→∃ad,a=some ad):=by
 cases c with
 |own b wd off len=>
  simp only[jw,Option.some.injEq]at hl;subst hl;obtain⟨_,_,cap,_,hr⟩:=h
  rcases hr with⟨g,o1,o2,_,hv,_⟩|⟨_,hv,h0,_⟩
  ·exact⟨_,_,hv,fun _=>⟨_,rfl⟩⟩
  exact⟨none,0,by rw[hv,h0],fun hp=>by omega⟩
 |ints k xs=>
  simp only[jw,Option.some.injEq]at hl;subst hl;obtain⟨a,cap,hv,_,hr⟩:=h
  rcases hr with hr|⟨g,o,ha,_⟩
  ·exact⟨a,cap,hv,fun hp=>by omega⟩
  exact⟨a,cap,hv,fun _=>⟨_,ha⟩⟩
 |rows wd m f=>
  simp only[jw,Option.some.injEq]at hl;subst hl;obtain⟨a,cap,hv,_,hr⟩:=h
  rcases hr with hr|⟨g,o,ha,_⟩
  ·exact⟨a,cap,hv,fun hp=>by omega⟩
  exact⟨a,cap,hv,fun _=>⟨_,ha⟩⟩
 |nil=>
  simp only[jw,Option.some.injEq]at hl;subst hl;exact⟨none,0,h,fun hp=>by omega⟩
 |any=>simp[jw]at hl
 |bool b=>simp[jw]at hl
 |int k n=>simp[jw]at hl
 |str b=>simp[jw]at hl
 |ptr b off=>simp[jw]at hl
 |eptr b wd i off=>simp[jw]at hl
 |elt c wd i off=>simp[jw]at hl
 |fn f n caps=>simp[jw]at hl
omit hT in
theorem sk (w:World)(d:Nat){t e:TypeId}(hu:P.underlying t=some (.slice e))(ad:Option Addr)(n cap l c0:Nat):(Op.equalIn (d+1) t (.slice ad n cap) (.slice none l c0)).run P w= .ok ad.isNone w:=by
 cases ad<;>simp only[Op.equalIn,Sem.run_bind,av hu,Result.andThen_ok,Sem.run_pure,Option.isNone]
theorem OX {
       o:Oper} {s:St} {K:St→Prop} {op:BinOp} {t t':TypeId} {x y:Operand} (ho:o.op= .binOp op t x y t') (hop:wg op=true) (hy:qu y=true) (hdn:bZ o s.n) (h:Ig T s o.dst t x K):nN P o s K:=by
 have hop:op= .eql:=by cases op<;>simp [wg]at hop⊢
 subst hop;have hyv:∃l c,y= .const (.slice none l c):=by
  cases y<;>simp [qu]at hy
  rename_i v
  cases v<;>simp [yf]at hy
  rename_i a l c
  cases a<;>simp at hy
  exact⟨l,c,rfl⟩
 obtain⟨l,c0,rfl⟩:=hyv;unfold Ig at h
 cases hTt:T t with
 |none=>rw[hTt]at h;exact h.elim
 |some E=>
  rw[hTt]at h;simp only at h
  split at h
  ·rename_i e hEk
   have hu:=fD hT hTt hEk
   split at h
   ·rename_i cc hx
    split at h
    ·rename_i n hl
     intro G a w hsim Q next hk;obtain⟨ρ,hs⟩:=hsim;have hev:=hs.ev x;rw[hx]at hev;obtain⟨ad,cap,hv,hn⟩:=E4 hl hev;have hr:(execOp a.eval o).run P w= .ok (.value (.bool ad.isNone)) w:=by
      unfold execOp;rw[ho];refine dP ?_;have hce:a.eval (.const (.slice none l c0))= .slice none l c0:=rfl;rw[hv,hce];have hg:(eqGuard .eql t x (.const (.slice none l c0)) (.slice ad n cap) (.slice none l c0)).run P w= .ok () w:=by
       unfold eqGuard;rfl
      have he:(Op.equal t (.slice ad n cap) (.slice none l c0)).run P w= .ok ad.isNone w:=by
       exact sk w 9999 hu ad n cap l c0
      rw[Sem.run_bind,hg,Result.andThen_ok];simp only[Go.binOp,Sem.run_bind,he,Result.andThen_ok,Sem.run_pure]
     refine Oper.dN hr (hk _ _ _ (h ad.isNone (fun hp=>by obtain⟨x,rfl⟩:=hn hp;rfl)) ⟨ρ,?_⟩);have h1:=hs.put (dst:=o.dst) (x:=.one (.bool ad.isNone)) (v:=.bool ad.isNone) hdn rfl
     cases hd:o.dst with
     |none=>rw[hd]at h1;exact h1
     |some d=>rw[hd]at h1;exact h1
    exact h.elim
   exact h.elim
  exact h.elim
theorem wq {o:Oper}{s:St}{K:St→Prop}(hdn:bZ o s.n)(h:CB T o.op o.dst s K):nN P o s K:=by
 unfold CB at h
 split at h
 ·rename_i t x y ho
  exact MI hT ho h.1 h.2
 ·rename_i op t x y t' ho
  exact OX hT ho h.1 h.2.1 hdn h.2.2
 ·rename_i c ho
  split at h
  ·rename_i b hb
   split at h
   ·rename_i x y t t' hb2 hargs htys
    obtain⟨hsl,h⟩:=h;obtain⟨e',he'⟩:=Mw hT hsl;exact JJ hT ho hb (Array.toList_inj.1 hargs) (Array.toList_inj.1 htys) he' hdn h
   ·rename_i x t hb2 hargs htys
    exact qV hT ho hb (Array.toList_inj.1 hargs) (Array.toList_inj.1 htys) hdn h
   ·rename_i x t hb2 hargs htys
    exact Mm hT ho hb (Array.toList_inj.1 hargs) (Array.toList_inj.1 htys) hdn h
   exact h.elim
  exact h.elim
 exact h.elim
omit hT in
theorem sG {o:Oper}{n:Nat}(h:pB o.dst n):bZ o n:=fun d hd=>by rw[hd]at h;exact h
theorem gx {ops:Array Oper}:∀(os:List Oper) (i:Nat) (gd:List (Nat×Tmp)) (s:St) (K:St→Prop),ops.toList.drop i=os→yz ops gd→qf T P i os gd s K→vo P ops os s K
 |[],_,_,_,_,_,_,h=>h
 |o::os,i,gd,s,K,hdrop,hgd,h=>by
  simp only[qf]at h;obtain⟨hd,h⟩:=h;have hdl:=sG hd;have ho:ops[i]? =some o:=by
   have:(ops.toList.drop i)[0]? =some o:=by rw[hdrop];rfl
   rw[List.getElem?_drop]at this
   simpa using this
  have hdrop':ops.toList.drop (i+1)=os:=by
   rw[←List.drop_drop,hdrop];rfl
  have taken:(if r7 o.op then CB T o.op o.dst s (fun s'=>qf T P (i+1) os gd s' K)
    else if cV o.op then orM (eF T P o.op s s.nx s.nx (aP o.dst os) (fun e=>bU (uG i os) e fun e'=>qf T P (i+1) os (dT (uG i os) i o.dst gd) (after s o.dst e') K)) (oi P o.op o.dst s (fun s'=>qf T P (i+1) os gd s' K))
    else eF T P o.op s s.nx s.nx (aP o.dst os) (fun e=>bU (uG i os) e fun e'=>qf T P (i+1) os (dT (uG i os) i o.dst gd) (after s o.dst e') K))→nN P o s (fun s'=>vo P ops os s' K):=by
   intro h
   split at h
   ·have:=wq hT hdl h
    intro G a w hs Q next hn;exact this G a w hs Q next (fun s' a' w' h1 h2=>hn s' a' w' (gx os (i+1) gd s' K hdrop' hgd h1) h2)
   split at h
   ·rcases h with h|h
    ·obtain⟨e,hK,hre⟩:=fN hT hdl h;exact hre.OO (gx os (i+1) _ _ K hdrop' (hgd.set ho _) (jk hK))
    have:=H5 hdl h
    intro G a w hs Q next hn;exact this G a w hs Q next (fun s' a' w' h1 h2=>hn s' a' w' (gx os (i+1) gd s' K hdrop' hgd h1) h2)
   obtain⟨e,hK,hre⟩:=fN hT hdl h;exact hre.OO (gx os (i+1) _ _ K hdrop' (hgd.set ho _) (jk hK))
  refine⟨hdl,?_⟩;unfold G9;unfold guarded at h
  cases hg:o.guard with
  |none=>rw[hg]at h;exact taken h
  |some gw=>
   obtain⟨g,want⟩:=gw;rw[hg]at h;simp only at h
   cases hgl:fZ gd g with
   |none=>rw[hgl]at h;exact h.elim
   |some t=>
    rw[hgl]at h;simp only at h
    split at h
    ·rename_i b hb
     refine⟨t,b,hgd g t hgl,hb,fun e=>?_,fun e=>?_⟩
     ·rw[if_pos e]at h;exact taken h
     rw[if_neg e]at h;exact gx os (i+1) _ _ K hdrop' (hgd.set ho _) h
    exact h.elim
theorem Bn {o:Oper}{os:List Oper}{s:St}{K:St→Prop}(hd:bZ o s.n)(h:uJ T P o os s K):nN P o s K:=by
 unfold uJ at h
 split at h
 ·exact wq hT hd h
 split at h
 ·rcases h with h|h
  ·obtain⟨e,hK,hre⟩:=fN hT hd h;exact hre.OO hK
  exact H5 hd h
 obtain⟨e,hK,hre⟩:=fN hT hd h;exact hre.OO hK
theorem tc {ops:Array Oper}{s:St}:∀(pd:List Nat),(∀j∈pd,∃o,ops[j]? =some o∧jo o.op=true)→prom T P ops.toList pd s→Promise P ops s pd
 |[],_,_=>fun j hj=>by cases hj
 |i::r,hl,h=>by
  simp only[prom]at h;obtain⟨h1,h2⟩:=h;intro j hj
  rcases List.mem_cons.1 hj with rfl|hj
  ·obtain⟨o,ho,hlate⟩:=hl j (by simp);rw[Array.getElem?_toList,ho]at h1;simp only at h1
   cases hd:o.dst with
   |none=>rw[hd]at h1;exact h1.elim
   |some d=>
    rw[hd]at h1;obtain⟨hdn,h1⟩:=h1;have doit:eF T P o.op s s.nx s.nx false (fun e=>e.val=lk s.env d)→Kw P o s s.nx (lk s.env d):=fun h1=>by
     obtain⟨e,he,hre⟩:=fN hT (fun d' hd'=>by rw[hd]at hd';obtain rfl:=Option.some.inj hd';exact hdn) h1;have he:e.val=lk s.env d:=he;rw[←he];exact(hre.2 hlate).2.2
    refine⟨o,d,ho,hd,?_,hdn⟩;unfold wU at h1;unfold IT
    split at h1
    ·rename_i hg;(try rw[hg]);exact doit h1
    rename_i g want hg
    try rw[hg]
    split at h1
    ·rename_i t ht
     split at h1
     ·rename_i b hb
      refine⟨t,b,?_,hb,?_⟩
      ·unfold br;rw[←Array.getElem?_toList];exact ht
      split at h1
      ·rename_i hbw;rw[if_pos hbw];exact doit h1
      rename_i hbw;rw[if_neg hbw];exact h1
     exact h1.elim
    exact h1.elim
  exact tc r (fun j hj=>hl j (by simp[hj])) h2 j hj
theorem ud {ops:Array Oper}{ws:WL}{ex:Option Nat}{pre:List Nat}{i:Nat}{pd:List Nat}{sub:WL}{s:St}{K K':St→Prop}(h1:N2 ops ws ex pre i pd sub)(h:D8 T P ops.toList i pd s K)(hK:∀s',K s'→K' s'):NQ P ops i pd s K':=by
 simp only[D8,Array.getElem?_toList]at h;obtain⟨o,ho,_,_,hop⟩:=h1.op;rw[ho]at h;obtain⟨hd,h⟩:=h;have hdl:bZ o s.n:=sG hd;refine⟨o,ho,hdl,fun G a w hs Q next hk=>Bn hT hdl h G a w hs Q next fun s' a' w' k1 k2=>hk s' a' w' ⟨?_,hK _ k1.2⟩ k2⟩;exact tc hT pd (fun j hj=>by obtain⟨oj,d,_,k1,k2,_⟩:=hop j hj;exact⟨oj,k1,k2⟩) k1.1
theorem gK {ops:Array Oper}{ws:WL}{ex:Option Nat}:∀(t:WL) (pre:List Nat) (s:St) (K:St→Prop),mK ops ws ex pre t=true→iW T P ops.toList t s K→lT P ops t s K
 |.nil,_,_,_,_,h=>h
 |.opt _ _ _ _,_,_,_,_,h=>h.elim
 |.cons _ _ _ (.opt _ _ _ _),_,_,_,_,h=>by rw[iW]at h;exact h.elim
 |.cons i pd sub .nil,pre,s,K,hg,h=>by
  obtain⟨h1,_⟩:=jc hg;rw[iW]at h;rw[lT];exact ud hT h1 h fun s' k=>gK sub (i::pre) s' K h1.sub k
 |.cons i pd sub (.cons i' pd' sub' alt'),pre,s,K,hg,h=>by
  obtain⟨h1,h2⟩:=jc hg;rw[iW]at h;rw[lT];exact⟨ud hT h1 h.1 fun s' k=>gK sub (i::pre) s' K h1.sub k,gK (.cons i' pd' sub' alt') pre s K h2 h.2⟩
def IE (P:Program)(ops:Array Oper)(ws:WL)(σ:St)(es:Nat→ey)(k:Nat):Prop:=
 (∀j,∀b∈(es j).fz,b<σ.nx)∧(∀(j:Nat) o,j<k→bP ws j=true→ops[j]? =some o→lA P ops σ.nx j o (aH σ σ.nx ops es (bP ws) j) (es j))∧
  ∀(j:Nat) o,j<k→bP ws j=true→ops[j]? =some o→jO o.op=true→(es j).fz=[]
omit hT in
theorem MA {op:Op}{s:St}{nx0 id:Nat}{fz:Bool}{K:ey→Prop}(ha:jO op=true)(h:eF T P op s nx0 id fz K):eF T P op s nx0 id fz (fun e=>K e∧e.fz=[]):=by
 cases op<;>simp only[jO,Bool.false_eq_true]at ha
 simp only[eF]at h⊢
 split at h
 ·exact⟨h,trivial⟩
 exact h.elim
def mU (os:List Oper):Nat:=(os.takeWhile fun o=>!tz o.op).length
omit hT in
theorem xj {nx0:Nat}:∀{l:List Nat},u5 nx0 l→∀b∈l,b<nx0
 |[],_,b,hb=>by simp at hb
 |x::r,h,b,hb=>by
  rcases List.mem_cons.1 hb with rfl|hb
  ·exact h.1
  exact xj h.2 b hb
omit hT in
theorem Ay {σ:St}{nx0:Nat}{ops:Array Oper}{e e':Nat→ey}{L:Nat→Bool}:∀k,(∀j,j<k→e j=e' j)→aH σ nx0 ops e L k=aH σ nx0 ops e' L k:=by
 intro k
 induction k with
 |zero=>intro _;rfl
 |succ k ih=>intro h;simp only[aH,ih (fun j hj=>h j (by omega)),h k (by omega)]
def Laid (P:Program)(ops:Array Oper)(σ:St)(es:Nat→ey)(k:Nat):Prop:=
 (∀j,∀b∈(es j).fz,b<σ.nx)∧∀(j:Nat) o,j<k→ops[j]? =some o→lA P ops σ.nx j o (aH σ σ.nx ops es (fun _=>true) j) (es j)
theorem vX {ops:Array Oper}{σ:St}:∀(os:List Oper) (i:Nat) (gd:List (Nat×Tmp)) (s:St) (K:St→Prop) (es:Nat→ey),ops.toList.drop i=os→yz ops gd→s=aH σ σ.nx ops es (fun _=>true) i→
  Laid P ops σ es i→vd T P σ.nx ops.size i os gd s K→
  ∃es',Laid P ops σ es' (i+mU os)∧vo P ops (ops.toList.drop (i+mU os)) {aH σ σ.nx ops es' (fun _=>true) (i+mU os)with nx:=σ.nx+ops.size} K
 |[],i,gd,s,K,es,hdrop,hgd,hs,hl,h=>by
  refine⟨es,hl,?_⟩;simp only[mU,List.takeWhile_nil,List.length_nil,Nat.add_zero,hdrop];rw[←hs];exact h
 |o::os,i,gd,s,K,es,hdrop,hgd,hs,hl,h=>by
  simp only[vd]at h;have ho:ops[i]? =some o:=by
   have:(ops.toList.drop i)[0]? =some o:=by rw[hdrop];rfl
   rw[List.getElem?_drop]at this
   simpa using this
  have hdrop':ops.toList.drop (i+1)=os:=by
   rw[←List.drop_drop,hdrop];rfl
  by_cases hlast:tz o.op=true
  ·rw[if_pos hlast]at h;have hn:mU (o::os)=0:=by simp[mU,List.takeWhile_cons,hlast]
   rw[hn,Nat.add_zero,hdrop];refine⟨es,hl,?_⟩
   have:=gx hT (ops:=ops) (o::os) i gd _ K hdrop hgd h
   rw[hs]at this;exact this
  rw[if_neg hlast]at h;obtain⟨hd,h⟩:=h;have hdl:=sG hd;have hn:mU (o::os)=mU os+1:=by simp[mU,List.takeWhile_cons,hlast]
  rw[hn,show i+(mU os+1)=i+1+mU os by omega]
  -- one more laid down
  have more:∀(e:ey) (gd':List (Nat×Tmp)),yz ops gd'→(∀b∈e.fz,b<σ.nx)→lA P ops σ.nx i o s e→vd T P σ.nx ops.size (i+1) os gd' (s.add o.dst (σ.nx+i) e) K→
    ∃es',Laid P ops σ es' (i+1+mU os)∧vo P ops (ops.toList.drop (i+1+mU os)) {aH σ σ.nx ops es' (fun _=>true) (i+1+mU os)with nx:=σ.nx+ops.size} K:=by
   intro e gd' hgd' hfz hst hv;have hsame:∀j,j<i→es j=(fun j=>if j=i then e else es j) j:=fun j hj=>by simp only;rw[if_neg (by omega)]
   have hacc:∀j,j≤i→aH σ σ.nx ops (fun j=>if j=i then e else es j) (fun _=>true) j=aH σ σ.nx ops es (fun _=>true) j:=fun j hj=>(Ay j (fun m hm=>hsame m (by omega))).symm;refine vX os (i+1) gd' (s.add o.dst (σ.nx+i) e) K (fun j=>if j=i then e else es j) hdrop' hgd' ?_ ⟨fun j b hb=>?_,fun j o' hj ho'=>?_⟩ hv
   ·simp only[aH,if_true];rw[hacc i (Nat.le_refl _),←hs]
    have:br ops i=o.dst:=by unfold br;rw[ho];rfl
    rw[this]
   ·simp only at hb
    split at hb
    ·exact hfz b hb
    exact hl.1 j b hb
   rw[hacc j (by omega)]
   by_cases hji:j=i
   ·subst hji;rw[ho]at ho';obtain rfl:=Option.some.inj ho';simp only[if_true];rw[←hs];exact hst
   simp only[hji,if_false];exact hl.2 j o' (by omega) ho'
  have taken:(if cV o.op then orM (eF T P o.op s σ.nx (σ.nx+i) (aP o.dst os) (fun e=>u5 σ.nx e.fz∧bU (uG i os) e fun e'=>vd T P σ.nx ops.size (i+1) os (dT (uG i os) i o.dst gd) (s.add o.dst (σ.nx+i) e') K)) False else eF T P o.op s σ.nx (σ.nx+i) (aP o.dst os) (fun e=>u5 σ.nx e.fz∧bU (uG i os) e fun e'=>vd T P σ.nx ops.size (i+1) os (dT (uG i os) i o.dst gd) (s.add o.dst (σ.nx+i) e') K))→
    ∃e,bm P o s σ.nx (σ.nx+i) e∧(∀b∈e.fz,b<σ.nx)∧vd T P σ.nx ops.size (i+1) os (dT (uG i os) i o.dst gd) (s.add o.dst (σ.nx+i) e) K:=by
   intro h;have h:eF T P o.op s σ.nx (σ.nx+i) (aP o.dst os) (fun e=>u5 σ.nx e.fz∧bU (uG i os) e fun e'=>vd T P σ.nx ops.size (i+1) os (dT (uG i os) i o.dst gd) (s.add o.dst (σ.nx+i) e') K):=by
    split at h
    ·rcases h with h|h
     ·exact h
     exact h.elim
    exact h
   obtain⟨e,hK,hre⟩:=fN hT hdl h;exact⟨e,hre,xj hK.1,jk hK.2⟩
  unfold guarded at h
  cases hg:o.guard with
  |none=>
   rw[hg]at h;obtain⟨e,hre,hfz,hv⟩:=taken h;exact more e _ (hgd.set ho _) hfz ⟨hdl,by rw[hg];exact hre⟩ hv
  |some gw=>
   obtain⟨g,want⟩:=gw;rw[hg]at h;simp only at h
   cases hgl:fZ gd g with
   |none=>rw[hgl]at h;exact h.elim
   |some t=>
    rw[hgl]at h;simp only at h
    split at h
    ·rename_i b hb
     by_cases hbw:b=some want
     ·rw[if_pos hbw]at h;obtain⟨e,hre,hfz,hv⟩:=taken h;exact more e _ (hgd.set ho _) hfz ⟨hdl,by rw[hg];exact⟨t,b,hgd g t hgl,hb,by rw[if_pos hbw];exact hre⟩⟩ hv
     rw[if_neg hbw]at h;refine more ey.skip (dT (uG i os) i o.dst gd) (hgd.set ho _) (fun b hb=>by simp[ey.skip]at hb) ⟨hdl,by rw[hg];exact⟨t,b,hgd g t hgl,hb,by rw[if_neg hbw]⟩⟩ ?_;unfold ey.skip;rw[St.add_plain];exact h
    exact h.elim
theorem kW {ops:Array Oper}{σ:St}{ws:WL}:∀(os:List Oper) (i:Nat) (gd:List (Nat×Tmp)) (s:St) (K:St→Prop) (es:Nat→ey),i≤ops.size→ops.toList.drop i=os→yz ops gd→s=aH σ σ.nx ops es (bP ws) i→
  IE P ops ws σ es i→gi T P σ.nx ops.size ws i os gd s K→
  ∃es',IE P ops ws σ es' ops.size∧K (uo σ ops es' ws)
 |[],i,gd,s,K,es,hi,hdrop,hgd,hs,hl,h=>by
  have:i=ops.size:=by
   have:=List.drop_eq_nil_iff.1 hdrop
   simp at this;omega
  subst this;refine⟨es,hl,?_⟩;unfold uo;rw[←hs];exact h
 |o::os,i,gd,s,K,es,hi,hdrop,hgd,hs,hl,h=>by
  simp only[gi]at h;have ho:ops[i]? =some o:=by
   have:(ops.toList.drop i)[0]? =some o:=by rw[hdrop];rfl
   rw[List.getElem?_drop]at this
   simpa using this
  have hlt:=(Array.getElem?_eq_some_iff.1 ho).1;have hdrop':ops.toList.drop (i+1)=os:=by
   rw[←List.drop_drop,hdrop];rfl
  by_cases hw:j6 ws i=true
  ·rw[if_pos hw]at h;have hnR:bP ws i=false:=by simp[bP,hw]
   refine kW os (i+1) gd s K es (by omega) hdrop' hgd ?_ ⟨hl.1,fun j o' hj hR ho'=>?_,fun j o' hj hR ho'=>?_⟩ h
   ·simp only[aH,hnR,Bool.false_eq_true,if_false];exact hs
   ·by_cases hji:j=i
    ·rw[hji,hnR]at hR;cases hR
    exact hl.2.1 j o' (by omega) hR ho'
   by_cases hji:j=i
   ·rw[hji,hnR]at hR;cases hR
   exact hl.2.2 j o' (by omega) hR ho'
  rw[if_neg hw]at h;have hR:bP ws i=true:=by simp[bP,hw]
  obtain⟨hd,h⟩:=h;have hdl:=sG hd;have more:∀(e:ey) (gd':List (Nat×Tmp)),yz ops gd'→(∀b∈e.fz,b<σ.nx)→(jO o.op=true→e.fz=[])→lA P ops σ.nx i o s e→gi T P σ.nx ops.size ws (i+1) os gd' (s.add o.dst (σ.nx+i) e) K→
    ∃es',IE P ops ws σ es' ops.size∧K (uo σ ops es' ws):=by
   intro e gd' hgd' hfz hfa hst hv;have hsame:∀j,j<i→es j=(fun j=>if j=i then e else es j) j:=fun j hj=>by simp only;rw[if_neg (by omega)]
   have hacc:∀j,j≤i→aH σ σ.nx ops (fun j=>if j=i then e else es j) (bP ws) j=aH σ σ.nx ops es (bP ws) j:=fun j hj=>(Ay j (fun m hm=>hsame m (by omega))).symm;refine kW os (i+1) gd' (s.add o.dst (σ.nx+i) e) K (fun j=>if j=i then e else es j) (by omega) hdrop' hgd' ?_ ⟨fun j b hb=>?_,fun j o' hj hRj ho'=>?_,fun j o' hj hRj ho'=>?_⟩ hv
   ·simp only[aH,hR,if_true];rw[hacc i (Nat.le_refl _),←hs]
    have:br ops i=o.dst:=by unfold br;rw[ho];rfl
    rw[this]
   ·simp only at hb
    split at hb
    ·exact hfz b hb
    exact hl.1 j b hb
   ·rw[hacc j (by omega)]
    by_cases hji:j=i
    ·subst hji;rw[ho]at ho';obtain rfl:=Option.some.inj ho';simp only[if_true];rw[←hs];exact hst
    simp only[hji,if_false];exact hl.2.1 j o' (by omega) hRj ho'
   by_cases hji:j=i
   ·subst hji;rw[ho]at ho';obtain rfl:=Option.some.inj ho';simp only[if_true];exact hfa
   simp only[hji,if_false];exact hl.2.2 j o' (by omega) hRj ho'
  have taken:(if cV o.op then orM (eF T P o.op s σ.nx (σ.nx+i) (aP o.dst os) (fun e=>u5 σ.nx e.fz∧bU (uG i os) e fun e'=>gi T P σ.nx ops.size ws (i+1) os (dT (uG i os) i o.dst gd) (s.add o.dst (σ.nx+i) e') K)) False else eF T P o.op s σ.nx (σ.nx+i) (aP o.dst os) (fun e=>u5 σ.nx e.fz∧bU (uG i os) e fun e'=>gi T P σ.nx ops.size ws (i+1) os (dT (uG i os) i o.dst gd) (s.add o.dst (σ.nx+i) e') K))→
    ∃e,bm P o s σ.nx (σ.nx+i) e∧(∀b∈e.fz,b<σ.nx)∧(jO o.op=true→e.fz=[])∧gi T P σ.nx ops.size ws (i+1) os (dT (uG i os) i o.dst gd) (s.add o.dst (σ.nx+i) e) K:=by
   intro h;have h:eF T P o.op s σ.nx (σ.nx+i) (aP o.dst os) (fun e=>u5 σ.nx e.fz∧bU (uG i os) e fun e'=>gi T P σ.nx ops.size ws (i+1) os (dT (uG i os) i o.dst gd) (s.add o.dst (σ.nx+i) e') K):=by
    split at h
    ·rcases h with h|h
     ·exact h
     exact h.elim
    exact h
   by_cases ha:jO o.op=true
   ·obtain⟨e,hK,hre⟩:=fN hT hdl (MA ha h);exact⟨e,hre,xj hK.1.1,fun _=>hK.2,jk hK.1.2⟩
   obtain⟨e,hK,hre⟩:=fN hT hdl h;exact⟨e,hre,xj hK.1,fun h=>absurd h ha,jk hK.2⟩
  unfold guarded at h
  cases hg:o.guard with
  |none=>
   rw[hg]at h;obtain⟨e,hre,hfz,hfa,hv⟩:=taken h;exact more e _ (hgd.set ho _) hfz hfa ⟨hdl,by rw[hg];exact hre⟩ hv
  |some gw=>
   obtain⟨g,want⟩:=gw;rw[hg]at h;simp only at h
   cases hgl:fZ gd g with
   |none=>rw[hgl]at h;exact h.elim
   |some t=>
    rw[hgl]at h;simp only at h
    split at h
    ·rename_i b hb
     by_cases hbw:b=some want
     ·rw[if_pos hbw]at h;obtain⟨e,hre,hfz,hfa,hv⟩:=taken h;exact more e _ (hgd.set ho _) hfz hfa ⟨hdl,by rw[hg];exact⟨t,b,hgd g t hgl,hb,by rw[if_pos hbw];exact hre⟩⟩ hv
     rw[if_neg hbw]at h;refine more ey.skip (dT (uG i os) i o.dst gd) (hgd.set ho _) (fun b hb=>by simp[ey.skip]at hb) (fun _=>rfl) ⟨hdl,by rw[hg];exact⟨t,b,hgd g t hgl,hb,by rw[if_neg hbw]⟩⟩ ?_;unfold ey.skip;rw[St.add_plain];exact h
    exact h.elim
end
def codeOk (kp:Kp):Code→Bool
 |.region id ops draw=>!draw||(match mf kp.ms id with
  |none=>sU ops (mU ops.toList)
  |some ws=>NU ops ws)
 |.seq a b=>codeOk kp a&&codeOk kp b
 |.cond _ a b=>codeOk kp a&&codeOk kp b
 |.block _ c=>codeOk kp c
 |.loop c=>codeOk kp c
 |.skip=>true
 |.exit _=>true
 |.ret=>true
 |_=>false
theorem uZ {T:fP}{P:Program}(hT:fg P T)(hm:P.follows .mixedOrders=true){id:Nat}{ops:Array Oper}{draw:Bool}{kp:Kp}(hck:codeOk kp (.region id ops draw)=true){s:St}{K:St→Prop}(h:ik T P kp.ms id draw ops.toList s K)
  {G:Ctx} {a:Act} {w:World} (hs:qc G s a w):(Code.region id ops draw).wp P (fun e a w=>e= .normal∧∃s',K s'∧qc G s' a w) a w:=by
 unfold ik at h
 cases draw with
 |false=>
  simp only[Bool.false_eq_true,if_false]at h;have hW:=gx hT (ops:=ops) ops.toList 0 [] s K (by simp) (fun g t hg=>by simp[fZ]at hg) h;refine wp_region ?_;have key:∀(os:List Oper) (i:Nat) (s:St) (a:Act) (w:World),ops.toList.drop i=os→vo P ops os s K→qc G s a w→wpOps P ops (fun e a w=>e= .normal∧∃s',K s'∧qc G s' a w) (List.range' i os.length) a w:=by
   intro os
   induction os with
   |nil=>intro i s a w _ hW hs;exact⟨rfl,s,hW,hs⟩
   |cons o os ih=>
    intro i s a w hdrop hW hs;have ho:ops[i]? =some o:=by
     have:(ops.toList.drop i)[0]? =some o:=by rw[hdrop];rfl
     rw[List.getElem?_drop]at this
     simpa using this
    have hdrop':ops.toList.drop (i+1)=os:=by
     rw[←List.drop_drop,hdrop];rfl
    rw[List.length_cons,List.range'_succ,wpOps_cons];exact G9.step ho hW.2 hW.1 hs fun s' a' w' h1 h2=>ih (i+1) s' a' w' hdrop' h1 h2
  have:=key ops.toList 0 s a w (by simp) hW hs
  rw[List.range_eq_range']
  simpa using this
 |true=>
  simp only[if_true]at h;have hck0:(match mf kp.ms id with
   |none=>sU ops (mU ops.toList)
   |some ws=>NU ops ws)=true:=by simpa[codeOk]using hck
  have hsz:ops.toList.length=ops.size:=by simp
  unfold oy at h;rw[hsz]at h
  cases hmd:mf kp.ms id with
  |some ws=>
   rw[hmd]at h hck0;simp only at hck0;obtain⟨ρ,hr⟩:=hs;have hacc0:∀(es:Nat→ey) (wt:WL) k,aH s s.nx ops es (fun j=>bP wt j&&(Array.replicate ops.size false).getD j false) k=s:=by
    intro es wt k
    induction k with
    |zero=>rfl
    |succ k ih=>
     simp only[aH];rw[if_neg (by simp[Array.getD]),ih]
   have hcnt:iF ops (Array.replicate ops.size false)≤ops.size:=by
    unfold iF
    have:=List.countP_le_length (p:=fun i=>!(Array.replicate ops.size false).getD i false) (l:=List.range ops.size)
    simpa using this
   have hstart:∀(es:Nat→ey) (wt:WL) (ex:Option Nat),ow P G ops wt ex True s es K (Array.replicate ops.size false) a w.drew:=fun es wt ex=>by
    refine⟨by simp,fun i hi=>by simp[Array.getD]at hi,.inl ⟨trivial,fun i hi=>by simp[Array.getD]at hi,ρ,?_⟩⟩;rw[hacc0];have h1:a7 G (fun b=>b<s.nx) ρ s a w.drew:=hr.drew;exact h1.cQ (fun b hb=>Or.inl hb)
   refine wp_region_any hm ?_;have plain:(∀q d t1 t2,ws≠ .opt q d t1 t2)→wpAny P .any ops (fun e a w=>e= .normal∧∃s',K s'∧qc G s' a w) ops.size (Array.replicate ops.size false) a w.drew:=fun hno=>by
    have hg3:Fi ops ws=true∧kb ops ws [] ws=true∧mK ops ws none [] ws=true:=by
     cases ws with
     |opt q d t1 t2=>exact absurd rfl (hno q d t1 t2)
     |nil=>simpa[NU,and_assoc]using hck0
     |cons _ _ _ _=>simpa[NU,and_assoc]using hck0
    have h':gi T P s.nx ops.size ws 0 ops.toList [] s (fun s'=>iW T P ops.toList ws s' K):=by
     cases ws with
     |opt q d t1 t2=>exact absurd rfl (hno q d t1 t2)
     |nil=>exact h
     |cons _ _ _ _=>exact h
    have hg:=ug hg3.1;obtain⟨es,hl,hW⟩:=kW hT (ops:=ops) (σ:=s) (ws:=ws) ops.toList 0 [] s _ (fun _=>ey.skip) (Nat.zero_le _) (by simp) (fun g t hg=>by simp[fZ]at hg) rfl ⟨fun j b hb=>by simp[ey.skip]at hb,fun j o hj=>by omega,fun j o hj=>by omega⟩ h';have hW':=gK hT (ops:=ops) ws [] _ K hg3.2.2 hW;exact lM (ex:=none) (F:=True) hg (fun _=>hg3.2.1) (fun _=>hg3.2.2) hl.1 (fun _ i o hR ho=>hl.2.1 i o (Array.getElem?_eq_some_iff.1 ho).1 hR ho) (fun _=>hW') (fun _ q hq=>by cases hq) (fun s' a' w' h1 h2=>⟨rfl,s',h1,h2⟩) (fun ch a a' w h=>by cases h.1) ops.size _ a _ (hstart es ws none) hcnt
   cases ws with
   |nil=>exact plain fun _ _ _ _ e=>by cases e
   |cons _ _ _ _=>exact plain fun _ _ _ _ e=>by cases e
   |opt q d t1 t2=>
    have hk:=Lv hck0;obtain⟨es,hl,hW1,hW2⟩:=kW hT (ops:=ops) (σ:=s) (ws:=t1) ops.toList 0 [] s _ (fun _=>ey.skip) (Nat.zero_le _) (by simp) (fun g t hg=>by simp[fZ]at hg) rfl ⟨fun j b hb=>by simp[ey.skip]at hb,fun j o hj=>by omega,fun j o hj=>by omega⟩ h;obtain⟨oq,hoq,_,haq⟩:=hk.al;exact xN hk hl.1 (hl.2.2 q oq hk.qs hk.qR hoq haq) (fun i o hR ho=>hl.2.1 i o (Array.getElem?_eq_some_iff.1 ho).1 hR ho) (gK hT (ops:=ops) t1 [] _ K hk.w1 hW1) (gK hT (ops:=ops) t2 [] _ K hk.w2 hW2)
     (fun s' a' w' h1 h2=>⟨rfl,s',h1,h2⟩) (fun ch a a' w h=>by cases h.1) ops.size _ a _ (hstart es t1 (some q)) hcnt
  |none=>
  rw[hmd]at h hck0;simp only at h hck0;have hck':sU ops (mU ops.toList)=true:=hck0;obtain⟨es,hl,hW⟩:=vX hT (ops:=ops) (σ:=s) ops.toList 0 [] s K (fun _=>ey.skip) (by simp) (fun g t hg=>by simp[fZ]at hg) rfl ⟨fun j b hb=>by simp[ey.skip]at hb,fun j o hj=>by omega⟩ h;rw[Nat.zero_add]at hl hW;refine wp_region_any hm ?_;obtain⟨ρ,hr⟩:=hs;have hacc0:∀k,aH s s.nx ops es (fun j=>(Array.replicate ops.size false).getD j false) k=s:=by
   intro k
   induction k with
   |zero=>rfl
   |succ k ih=>
    simp only[aH];rw[if_neg (by simp[Array.getD]),ih]
  refine yK (zp hck') hl.1 hl.2 hW (fun s' a' w' h1 h2=>⟨rfl,s',h1,h2⟩) ops.size _ a _ ⟨by simp,fun i hi=>by simp[Array.getD]at hi,.inl ⟨fun i hi=>by simp[Array.getD]at hi,ρ,?_⟩⟩ ?_
  ·rw[hacc0];have h1:a7 G (fun b=>b<s.nx) ρ s a w.drew:=hr.drew;exact h1.cQ (fun b hb=>Or.inl hb)
  unfold iF
  have:=List.countP_le_length (p:=fun i=>!(Array.replicate ops.size false).getD i false) (l:=List.range ops.size)
  simpa using this
theorem Oo (keep:List Nat)(s:St)(t:Nat):lk (gc keep s).env t=if t∈keep then lk s.env t else .unk:=by
 simp only[gc]
 induction keep with
 |nil=>simp[lk]
 |cons x r ih=>
  simp only[List.map_cons,lk,List.mem_cons]
  by_cases h:t=x
  ·subst h;simp
  rw[if_neg h,ih]
  simp[h]
theorem Np (keep:List Nat)(s:St):Sub s (gc keep s):=by
 rintro G a w ⟨ρ,h⟩;refine⟨ρ,{hd:=h.hd,hn:=h.hn,env:=fun t=>?_,own:=h.own,inj:=h.inj,os:=h.os,tape:=h.tape,output:=h.output,size:=h.size,keep:=h.keep,wf:=h.wf,home:=h.home,room:=h.room}⟩;rw[Oo]
 split
 ·exact h.env t
 trivial
theorem pP {T:fP}{P:Program}(hT:fg P T)(hm:P.follows .mixedOrders=true)(keep:Kp):∀(c:Code),codeOk keep c=true→∀(s:St) (Q:Exit→St→Prop),vc T P keep c s Q→∀(G:Ctx) (a:Act) (w:World),qc G s a w→
  c.wp P (fun e a w=>∃s',Q e s'∧qc G s' a w) a w:=by
 intro c
 induction c with
 |skip=>intro _ s Q h G a w hs;exact wp_skip ⟨s,h,hs⟩
 |region id ops draw=>
  intro hck s Q h G a w hs;refine wp_mono (uZ hT hm hck h hs) ?_;rintro e a w ⟨rfl,s',h1,h2⟩;exact⟨_,h1,Np keep.ks s' G a w h2⟩
 |seq x y ihx ihy=>
  intro hck s Q h G a w hs;simp only[codeOk,Bool.and_eq_true]at hck;refine wp_seq (wp_mono (ihx hck.1 s _ h G a w hs) ?_);rintro e a w ⟨s',h1,h2⟩
  cases e with
  |normal=>exact ihy hck.2 s' Q h1 G a w h2
  |_=>exact⟨s',h1,h2⟩
 |cond c x y ihx ihy=>
  intro hck s Q h G a w hs;simp only[codeOk,Bool.and_eq_true]at hck;simp only[vc]at h
  split at h
  ·rename_i t ht
   have hev:a.eval c= .bool t:=by
    obtain⟨ρ,hr⟩:=hs
    have:=hr.ev c
    rw[ht]at this;exact this
   exact wp_cond_split hev (fun e=>ihx hck.1 s Q (h.1 e) G a w hs) (fun e=>ihy hck.2 s Q (h.2 e) G a w hs)
  exact h.elim
 |block id c ih=>
  intro hck s Q h G a w hs;refine wp_block (wp_mono (ih hck s _ h G a w hs) ?_);rintro e a w ⟨s',h1,h2⟩
  cases e with
  |exit id'=>
   simp only[Exit.inBlock];simp only at h1
   split
   ·rename_i he;rw[if_pos he]at h1;exact⟨s',h1,h2⟩
   rename_i he;rw[if_neg he]at h1;exact⟨s',h1,h2⟩
  |_=>exact⟨s',h1,h2⟩
 |loop c ih=>
  intro hck s Q h G a w hs;obtain⟨ι,I,m,x0,hsub,hround⟩:=h;refine wp_loop_ghost (fun n a w=>∃x,m x=n∧qc G (I x) a w) (m x0) ⟨x0,rfl,hsub G a w hs⟩ ?_;rintro n a w ⟨x,rfl,hx⟩;refine wp_mono (ih hck (I x) _ (hround x) G a w hx) ?_;rintro e a w ⟨s',h1,h2⟩
  cases e with
  |normal=>
   obtain⟨y,hy,hlt⟩:=h1;exact⟨m y,hlt,y,rfl,hy G a w h2⟩
  |_=>exact⟨s',h1,h2⟩
 |exit id=>intro _ s Q h G a w hs;exact wp_exit ⟨s,h,hs⟩
 |ret=>intro _ s Q h G a w hs;exact wp_ret ⟨s,h,hs⟩
 |_=>intro hck;simp[codeOk]at hck
end Go.Eng
/-
  THE ENGINE, PART U: from a function's text to its contract; and one state for another.
-/
namespace Go.Eng
open Go
def eO:Nat→List V→List (Nat×V)
 |_,[]=>[]
 |i,v::r=>(i,v)::eO (i+1) r
def iS (args:List V)(n:Nat):St:={env:=eO 0 args,own:=[],nx:=1,n:=n}
def jJ (x y:V):Prop:=∀ok w v,cd bz bH ok w x v→cd bz bH ok w y v
theorem jJ.refl (x:V):jJ x x:=fun _ _ _ h=>h
theorem Ve {x y:V}(h:x=y):jJ x y:=h▸jJ.refl x
def KZ (E:Ty):Bool:=
 match E.k.agg with
 |some true=>true
 |some false=>E.size==1
 |none=>false
def IJ (
     T:fP) (s:St):ResultVar→Option V
 |.tmp t=>some (yI s.own s.nx (lk s.env t))
 |.cell a t=>match T t with
  |some E=>match lk s.env a with
   |.one (.ptr b off)=>match lo s.own b with
    |some B=>match B.bk with
     |.var cs=>if off=0∧cs.length=E.size∧KZ E=true then some (yI s.own s.nx (NX E.k cs))else none
     |_=>none
    |none=>none
   |_=>none
  |none=>none
def te (T:fP)(s:St):List ResultVar→Option (List V)
 |[]=>some []
 |r::rs=>match IJ T s r,te T s rs with
  |some v,some vs=>some (v::vs)
  |_,_=>none
def BC:List V→V
 |[v]=>v
 |vs=>.aJ vs
def cE {α:Type}(x:Option α)(K:α→Prop):Prop:=
 match x with
 |some a=>K a
 |none=>False
theorem oN {α:Type}(a:α)(K:α→Prop):cE (some a) K=K a:=rfl
def Jh (T:fP)(rs:List ResultVar)(R:V→Prop):Exit→St→Prop
 |.ret,s=>cE (te T s rs) fun vs=>R (BC vs)
 |.normal,s=>cE (te T s rs) fun vs=>R (BC vs)
 |_,_=>False
theorem LF {E:Ty}(h:KZ E=true):E.k.agg=some true∨(E.k.agg=some false∧E.size=1):=by
 unfold KZ at h
 cases ha:E.k.agg with
 |none=>rw[ha]at h;cases h
 |some b=>cases b with
  |true=>exact .inl rfl
  |false=>rw[ha]at h;exact .inr ⟨rfl,by simpa using h⟩
def wy (G:Ctx)(w:World)(g:Nat):Prop:=g<w.heap.size∧¬G.forb g
theorem FE {G:Ctx}{dom:Nat→Prop}{ρ:Nat→Loc}{s:St}{a:Act}{w:World}(hs:a7 G dom ρ s a w){ids:List Nat}{g:Nat}(h:dQ G s.own ρ w ids g):wy G w g:=by
 rcases h with h|⟨b,_,B,o,hl,ha⟩
 ·exact⟨h.1,h.2.1⟩
 have:=(hs.own b B hl).2.2.2 g o ha
 exact⟨this.1,this.2.1⟩
theorem zg {G:Ctx}{dom:Nat→Prop}{ρ:Nat→Loc}{s:St}{a:Act}{w:World}(hs:a7 G dom ρ s a w){x:V}{v:Value}(h:cd ρ dom (aQ G s.own ρ w) w x v):dM bz bH (wy G w) w (yI s.own s.nx x) v:=by
 have o:Oper:=default;have h1:=ny hs (rJ.refl s s.nx o) (ij x) x v (fun b hb _=>hb) h;exact dM.ext (Ext.dG fun g hg=>FE hs hg) ⟨fun b hb=>hb.elim,fun b hb=>hb.elim⟩ _ _ h1
def DZ (tmps:Array Value)(r:ResultVar):Sem Value:=
 match r with
 |.tmp t=>pure (tmps.getD t undef)
 |.cell a t=>do loadVar t (←asAddr (tmps.getD a undef))
theorem Io {P:Program}{T:fP}(hT:fg P T){G:Ctx}{dom:Nat→Prop}{ρ:Nat→Loc}{s:St}{a:Act}{w:World}(hs:a7 G dom ρ s a w){r:ResultVar}{x:V}(h:IJ T s r=some x):
  ∃v,(DZ a.tmps r).run P w= .ok v w∧dM bz bH (wy G w) w x v:=by
 cases r with
 |tmp t=>
  simp only[IJ,Option.some.injEq]at h;subst h;exact⟨_,rfl,zg hs (hs.env t)⟩
 |cell ad t=>
  simp only[IJ]at h
  cases hTt:T t with
  |none=>rw[hTt]at h;cases h
  |some E=>
   rw[hTt]at h;simp only at h;obtain⟨i,d,z,hi,hu,_,hk,hsz,_⟩:=bI hT hTt
   split at h
   ·rename_i b off hx
    cases hlo:lo s.own b with
    |none=>rw[hlo]at h;cases h
    |some B=>
     rw[hlo]at h;simp only at h
     split at h
     ·rename_i cs hB
      split at h
      ·rename_i hc
       obtain⟨rfl,hlen,hld0⟩:=hc;simp only[Option.some.injEq]at h;subst h;have hev:=hs.env ad;rw[hx]at hev;obtain⟨_,g,o',haddr,hval⟩:=hev;obtain⟨_,_,hrep,_⟩:=hs.own b B hlo;unfold aT at hrep;rw[haddr]at hrep;obtain⟨cur,e,hg,hcell⟩:=hrep;rw[hB]at hcell;simp only at hcell;have hld:=LF hld0;rw[hk]at hld;obtain⟨v,hv,hr⟩:=j0 (P:=P) (t:=t) hi hu g (o'+0) cs (by omega) (by
        rcases hld with h|⟨h1,h2⟩
        ·exact .inl h
        ·exact .inr ⟨h1,by omega⟩) (fun j c hj=>by
        obtain⟨u,hu',hr⟩:=hcell j c (by simpa[Bk.cell]using hj);exact⟨u,by rw[cell_of_row w g _ cur e (0,0) hg];exact hu',hr⟩)
       rw[←hk]at hr;refine⟨v,?_,zg hs hr⟩;simp only[DZ,Sem.run_bind];have hval':a.tmps.getD ad undef= .pointer (some ⟨g,o'+0,none⟩):=hval;rw[hval'];exact hv
      cases h
     cases h
   cases h
theorem Ar {P:Program}{T:fP}(hT:fg P T){G:Ctx}{dom:Nat→Prop}{ρ:Nat→Loc}{s:St}{a:Act}{w:World}(hs:a7 G dom ρ s a w):∀(rs:List ResultVar) (xs:List V),te T s rs=some xs→
  ∃vs,(rs.mapM (DZ a.tmps)).run P w= .ok vs w∧a8 bz bH (wy G w) w xs vs
 |[],xs,h=>by
  simp only[te,Option.some.injEq]at h;subst h;exact⟨[],rfl,trivial⟩
 |r::rs,xs,h=>by
  simp only[te]at h
  split at h
  ·rename_i x xs' hx hxs
   simp only[Option.some.injEq]at h;subst h;obtain⟨v,hv,hr⟩:=Io hT hs hx;obtain⟨vs,hvs,hrs⟩:=Ar hT hs rs xs' hxs;refine⟨v::vs,?_,hr,hrs⟩;rw[List.mapM_cons];simp only[Sem.run_bind,hv,Result.andThen_ok,hvs,Sem.run_pure]
  cases h
theorem kG:∀(args:List V) (i t:Nat),lk (eO i args) t=if i≤t∧t<i+args.length then args.getD (t-i) .unk else .unk
 |[],i,t=>by simp[eO,lk]
 |v::r,i,t=>by
  simp only[eO,lk,List.length_cons]
  by_cases h:t=i
  ·subst h;rw[if_pos rfl,if_pos (by omega)];simp
  rw[if_neg h,kG r (i+1) t]
  by_cases h2:i+1≤t∧t<i+1+r.length
  ·rw[if_pos h2,if_pos (by omega)];obtain⟨q,hq⟩:∃q,t=i+1+q:=⟨t-(i+1),by omega⟩;subst hq;rw[show i+1+q-(i+1)=q by omega,show i+1+q-i=q+1 by omega]
   simp
  rw[if_neg h2,if_neg (by omega)]
theorem a8.length {ρ:Nat→Loc}{dom ok:Nat→Prop}{w:World}:∀{xs:List V} {vs:List Value},a8 ρ dom ok w xs vs→xs.length=vs.length
 |[],[],_=>rfl
 |_::xs,_::vs,h=>by simp[a8.length h.2]
 |[],_::_,h=>h.elim
 |_::_,[],h=>h.elim
theorem pv {P:Program}{T:fP}(hT:fg P T)(hm:P.follows .mixedOrders=true){f:FuncId}{fn:Func}{c:Code}(hf:P.funcs[f]? =some fn)(hb:fn.body=some c)(hn:(fn.name== "runtime.NumGoroutine")=false)
  (args:List V) (hargs:args.length≤fn.ntmps) (keep:Kp) (hck:codeOk keep c=true) (r:V)
  (h:vc T P keep c (iS args fn.ntmps) (Jh T fn.results.toList (fun x=>jJ x r))):Pr P f args r:=by
 refine⟨⟨fn,hf,by rw[hb];rfl,hn⟩,fun ok w vs hok hvs=>?_⟩;have hlen:=a8.length hvs;simp only[Array.length_toList]at hlen
 let G:Ctx:={W0:=w,forb:=fun g=>g<w.heap.size∧¬ok g,mine:=fun _=>False}
 let a0:Act:={tmps:=vs++Array.replicate (fn.ntmps-vs.size) undef,defers:=[]}
 have hokG:∀g,ok g→aQ G [] bz w g:=fun g hg=>⟨hok g hg,fun hf=>hf.2 hg,fun b B hl=>by cases hl⟩;have hsim:qc G (iS args fn.ntmps) a0 w:=by
  refine⟨bz,{hd:=rfl,hn:=?_,env:=fun t=>?_,own:=fun b B hl=>(by cases hl),inj:=fun b B b' B' hl=>(by cases hl),os:=rfl,tape:=rfl,output:=rfl,size:=Nat.le_refl _,keep:=fun _ _ _=>rfl,wf:=fun k hk=>hk.1,home:=fun l hl=>(by cases hl),room:=fun _=>Nat.le_refl _}⟩
  ·simp[a0,iS];omega
  simp only[iS,kG]
  split
  ·rename_i ht
   simp only[Nat.sub_zero,Nat.zero_add]at ht⊢;have hx:args[t]? =some (args.getD t .unk):=by
    rw[X7,X8 ht.2];rfl
   obtain⟨v,hv,hr⟩:=a8.get hvs t _ hx;have hv':a0.tmps.getD t undef=v:=by
    rw[Array.getElem?_toList]at hv;have hlt:=(Array.getElem?_eq_some_iff.1 hv).1;simp only[a0,Array.getD_eq_getD_getElem?];rw[Array.getElem?_append_left hlt,hv];rfl
   rw[hv'];exact cd.uf (dM.ext (Ext.dG hokG) ⟨fun b hb=>hb.elim,fun b hb=>hb.elim⟩ _ _ hr)
  trivial
 refine calls_of_wp hf hb (wp_mono (pP hT hm keep c hck _ _ h G a0 w hsim) ?_);rintro e a w' ⟨s',hq,ρ,hs⟩;have fin:cE (te T s' fn.results.toList) (fun vs=>jJ (BC vs) r)→a.defers=[]∧∃v,(results fn a.tmps).run P w'= .ok v w'∧∃u,Ending.returned v= .returned u∧Go.RowKit.Below w.heap.size w w'∧cd bz bH (fun g=>ok g∨(w.heap.size≤g∧g<w'.heap.size)) w' r u:=by
  intro hq;unfold cE at hq
  split at hq
  ·rename_i xs hxs
   obtain⟨us,hus,hrep⟩:=Ar hT hs _ _ hxs;refine⟨hs.hd,?_⟩;have hend:∀g,wy G w' g→ok g∨(w.heap.size≤g∧g<w'.heap.size):=fun g hg=>by
    by_cases hgs:g<w.heap.size
    ·by_cases hok':ok g
     ·exact .inl hok'
     exact absurd ⟨hgs,hok'⟩ hg.2
    exact .inr ⟨by omega,hg.1⟩
   have hbelow:Go.RowKit.Below w.heap.size w w':=⟨hs.os,hs.tape,hs.output,hs.size,fun k hk=>hs.keep k hk (fun hf=>hf)⟩;have hmap:(fn.results.mapM fun
     |.tmp t=>pure (a.tmps.getD t undef)
     |.cell ad t=>do loadVar t (←asAddr (a.tmps.getD ad undef)):Sem (Array Value)).run P w'= .ok us.toArray w':=by
    have e:(fun r:ResultVar=>(match r with
     |.tmp t=>pure (a.tmps.getD t undef)
     |.cell ad t=>do loadVar t (←asAddr (a.tmps.getD ad undef)):Sem Value))=DZ a.tmps:=by
     funext r;cases r<;>rfl
    have e2:=congrArg (fun g=>(fn.results.mapM g).run P w') e;refine e2.trans ?_;rw[Array.mapM_eq_mapM_toList,Sem.run_map,hus];rfl
   have hres:(results fn a.tmps).run P w'= .ok (if h:us.toArray.size=1 then us.toArray[0]else .tuple us.toArray) w':=by
    unfold results;rw[Sem.run_bind];refine Eq.trans (congrArg (fun x=>Result.andThen x _) hmap) ?_;rfl
   refine⟨_,hres,_,rfl,hbelow,?_⟩;have hrr:cd bz bH (fun g=>ok g∨(w.heap.size≤g∧g<w'.heap.size)) w' (BC xs) (if h:us.toArray.size=1 then us.toArray[0]else .tuple us.toArray):=by
    have hx:Ext (wy G w') (fun g=>ok g∨(w.heap.size≤g∧g<w'.heap.size)) w' w':=Ext.dG hend;have hsame:jH bH bH bz bz:=⟨fun _ h=>h,fun _ _=>rfl⟩;have hl2:=a8.length hrep
    match xs,us,hrep,hl2 with
    |[x],[u],hrep,_=>
     rw[dif_pos (by simp)];exact cd.uf (dM.ext hx hsame _ _ hrep.1)
    |[],[],_,_=>
     rw[dif_neg (by simp)];exact⟨#[],rfl,trivial⟩
    |x::y::xs,u::v::us,hrep,_=>
     rw[dif_neg (by simp)];exact⟨_,rfl,a8.ext hx hsame _ _ (by simpa using hrep)⟩
   exact hq _ _ _ hrr
  exact hq.elim
 cases e with
 |normal=>exact fin hq
 |ret=>exact fin hq
 |_=>exact hq.elim
end Go.Eng
