/-
  CurveMiddle: for every input the law returns true, and each argument reads afterwards as it read before. No condition.
  (Text 10 of 11; made by a program out of smaller texts.)
-/
import Derived.Test.YtaihcpdpmijifaaGreatP9
set_option linter.unusedSimpArgs false
set_option linter.unusedVariables false
set_option maxHeartbeats 16000000
set_option maxRecDepth 10000
open Nat renaming reduceAdd→J1,reduceMul→J2,reduceSub→J3,reduceEqDiff→J4,reduceLT→J5,reduceLeDiff→J6,reduceBEq→J7,reduceDiv→J8,reduceMod→J9,reducePow→J0
open Int renaming reduceToNat→K1,reduceLE→K2,reduceLT→K3,reduceEq→K4,reducePow→K5,reduceSub→K6,reduceNeg→K7,natCast_add→X2,natCast_one→X3,natCast_zero→X4
open List renaming getD_cons_zero→X0,getD_cons_succ→X1,length_take→X5,length_append→X6,getD_eq_getElem?_getD→X7,getElem?_eq_getElem→X8
open Nat renaming le_trans→O0,le_refl→O1,mod_eq_of_lt→O7,mul_le_mul_right→O8
open Option.some renaming injEq→Q6
open Go.Result renaming andThen_ok→Q7
noncomputable section
namespace Go.Eng.Run
open Go
def srcE (S:Nat→Option EB)(wd:Nat)(x:EV):Option (List X×Nat):=
 match x with
 |.v (.one (.cl .nil))=>some ([],0)
 |.v (.one (.cl (.own b wd' off len)))=>match S b with
  |some (.mem wd2 cs)=>if wd'=wd∧wd2=wd then some ((cs.drop (off*wd)).take (len*wd),len)else none
  |_=>none
 |.v (.one (.op wd' cs))=>if wd'=wd∧0<wd∧cs.length%wd=0∧cs.all X.mapless=true then some (cs,cs.length/wd)else none
 |.v (.one .emp)=>some ([],0)
 |_=>none
def baseE (x:EV):Option (Option Nat):=
 match x with
 |.v (.one (.cl .nil))=>some none
 |.v (.one (.cl (.own b _ _ _)))=>some (some b)
 |.v (.one .emp)=>some none
 |_=>none
def srcY (S:Nat→Option EB)(E S':Ty)(y:EV):Option (List X×Nat):=
 match S'.k with
 |.sl _=>srcE S E.size y
 |.int _=>match y with
  |.v (.one (.cl (.int _ m)))=>if 0≤m then some (xz (zerosC E.zero m.toNat),m.toNat)else none
  |_=>none
 |_=>none
def append1 (T:Tab)(ev:Operand→EV)(st:Sto)(nx:Nat)(t t':TypeId)(x y:Operand):Option Oc:=
 match T t,T t' with
 |some S,some S'=>match S.k with
  |.sl e=>match T e with
   |some E=>match srcE st.get E.size (ev x),srcY st.get E S' (ev y),baseE (ev x)with
    |some (xs,n),some (ys,m),some b=>if E.zero.length=E.size∧0<E.size∧(n+m)*E.bytes≤140737488355328∧n+m≤9223372036854775807 then
      (if m=0 then some (ev x,st,nx)
      else some (ec (.own nx E.size 0 (n+m)),(match b with|some b=>st.put b none|none=>st).put nx (some (.mem E.size (xs++ys))),nx+1))else none
    |_,_,_=>none
   |none=>none
  |_=>none
 |_,_=>none
section
variable {forb dom dom' dom'':Nat→Prop}{ρ ρ' ρ'':Nat→Loc}{w w' w'':World}{P:Program}{T:Tab}(hT:TabOk P T){n:Nat}{env:Nat→Option EV}{a:Act}{o:Oper}{r:EV}
theorem At.trans {S S' S'':Nat→Option EB}{nx nx' nx'':Nat}(h:At forb dom ρ S w nx dom' ρ' S' w' nx')(k:At forb dom' ρ' S' w' nx' dom'' ρ'' S'' w'' nx''):At forb dom ρ S w nx dom'' ρ'' S'' w'' nx'':=
 ⟨h.stp.trans k.stp,k.sim,k.lt,O0 h.le k.le,fun b hb hd=>h.old b hb (k.old b (Nat.lt_of_lt_of_le hb h.le) hd)⟩
theorem At.kill {S:Nat→Option EB}{nx:Nat}(hs:SimE forb dom ρ S w)(hlt:∀b,dom b→b<nx){b:Nat}{B:EB}(hl:S b=some B)(hnh:B≠ .held):At forb dom ρ S w nx dom ρ (upS S b none) w nx:=by
 have old:∀b' B1,upS S b none b'=some B1→b'≠b∧S b'=some B1:=fun b' B1 h1=>by
  by_cases e:b'=b
  ·subst e;rw[upS_same]at h1;cases h1
  rw[upS_ne e]at h1;exact⟨e,h1⟩
 have hst:Stp dom ρ S w dom ρ (upS S b none) w:=⟨⟨fun _ h=>h,fun _ _=>rfl⟩,rfl,rfl,rfl,O1 _,fun _ _ _=>rfl,fun _=>O1 _,fun b' B' h _=>⟨B',(old b' B' h).2⟩,fun b' B' h g o ha=>.inr ⟨b',B',o,(old b' B' h).2,ha⟩⟩;refine⟨hst,hs.turn hst (fun b' hb'=>⟨?_,fun _ _ _=>rfl⟩) (fun b' B' hb'=>.inl ⟨(old b' B' hb').2,fun _ _ _=>rfl⟩) (fun b1 B1 b2 B2 h1 h2=>hs.inj b1 B1 b2 B2 (old b1 B1 h1).2 (old b2 B2 h2).2) (fun b hb=>.inl hb),hlt,O1 _,fun _ _ h=>h⟩;rw[upS_ne (fun e:b'=b=>by subst e;rw[hl]at hb';cases hb';exact hnh rfl)];exact hb'
theorem srcE_run {S:Nat→Option EB}{wd:Nat}{x:EV}{v:Value}{xs:List X}{m:Nat}(hs:SimE forb dom ρ S w)(hr:RepE ρ dom (okE forb ρ S w) w x v)(h:srcE S wd x=some (xs,m)):
  ∃ad cap us,v= .slice ad m cap∧m≤cap∧us.length=m*wd∧HoldsAt w ad us∧RepXL ρ dom (okE forb ρ S w) w xs us:=by
 unfold srcE at h
 split at h
 ·cases h
  have hr:v= .slice none 0 0:=hr;exact⟨none,0,[],hr,O1 _,by simp,.inl rfl,trivial⟩
 ·rename_i b wd' off len
  split at h
  ·rename_i wd2 cs hl
   split at h
   ·rename_i hc
    obtain⟨rfl,rfl⟩:=hc;simp only[Q6,Prod.mk.injEq]at h;obtain⟨h1,h2⟩:=h;obtain⟨_,g,og,ha,_,_,hlen,cur,e,hg,hcell⟩:=hs.own b _ hl;obtain⟨_,hle,cap,hcap,hv⟩:=hr;have hle2:(off+len)*wd2≤cs.length:=by rw[←hlen];exact O8 _ hle
    rw[Nat.add_mul]at hle2;have hxl:xs.length=len*wd2:=by rw[←h1];simp;omega
    rcases hv with⟨g',o',o'',ha',hv,ho,_⟩|⟨hn,_⟩
    ·rw[ha]at ha'
     cases ha'
     subst h2
     by_cases h0:len*wd2=0
     ·have hx0:xs=[]:=List.eq_nil_of_length_eq_zero (by omega);exact⟨_,cap,[],hv,hcap,by simp[h0],.inl rfl,by rw[hx0];trivial⟩
     have hcap0:cap≠0:=fun e=>h0 (by
                         have:len=0:=by omega
                         rw[this,Nat.zero_mul])
     have ho:o''=og+off*wd2:=by rcases ho with ho|ho;exact absurd ho hcap0;exact ho
     have hcs:og+cs.length≤cur.size:=by
      obtain⟨u,hu,_⟩:=hcell (cs.length-1) cs[cs.length-1] (X8 (by omega))
      have:=(Array.getElem?_eq_some_iff.1 hu).1
      omega
     refine⟨_,cap,(cur.toList.drop o'').take (len*wd2),hv,hcap,by simp;omega,.inr ⟨_,rfl,fun j u hj=>?_⟩,RepXL.of_get (by simp;omega) fun j x u hx hu=>?_⟩
     ·rw[List.getElem?_take]at hj
      split at hj
      ·rw[List.getElem?_drop]at hj;rw[add_lit',cell_of_row w g _ cur e (0,0) hg]
       simpa using hj
      cases hj
     rw[←h1,List.getElem?_take]at hx;rw[List.getElem?_take]at hu
     split at hx
     ·rename_i hj
      rw[if_pos hj,List.getElem?_drop]at hu;rw[List.getElem?_drop]at hx;obtain⟨u',hu',hr'⟩:=hcell _ _ hx;rw[Array.getElem?_toList,ho,Nat.add_assoc]at hu;rw[hu']at hu
      cases hu
      exact hr'
     cases hx
    rw[ha]at hn;cases hn
   cases h
  cases h
 ·rename_i wd' cs
  split at h
  ·rename_i hc
   obtain⟨rfl,hw,hmod,hml⟩:=hc;simp only[Q6,Prod.mk.injEq]at h;obtain⟨rfl,rfl⟩:=h;obtain⟨ad,cap,hv,hcap,h3⟩:=hr;have hlen:cs.length/wd'*wd'=cs.length:=Nat.div_mul_cancel (Nat.dvd_of_mod_eq_zero hmod)
   rcases h3 with h3|⟨g,og,rfl,_,hcell⟩
   ·have h0:cs=[]:=List.eq_nil_of_length_eq_zero (by rw[←hlen,h3,Nat.zero_mul]);exact⟨ad,cap,[],hv,hcap,by rw[h3];simp,.inl rfl,by rw[h0];trivial⟩
   have cell:∀j x,cs[j]? =some x→∃u,w.cell? ⟨g,og+j,none⟩=some u∧RepX ρ dom (okE forb ρ S w) w x u:=by
    intro j x hj;have hjl:=(List.getElem?_eq_some_iff.1 hj).1;have h4:j/wd'<cs.length/wd':=by
     rw[Nat.div_lt_iff_lt_mul hw,hlen];exact hjl
    obtain⟨u,hu,hr⟩:=hcell (j/wd') (j%wd') h4 (Nat.mod_lt _ hw);have h5:j/wd'*wd'+j%wd'=j:=Nat.div_add_mod' j wd';rw[h5]at hu;refine⟨u,hu,RepX.ofC (List.all_eq_true.1 hml x (List.mem_of_getElem? hj)) (RepC.of_repI ?_)⟩;simp only[h5,denL_getD,hj]at hr;exact hr
   have build:∀(l:List X) (o:Nat),(∀j x,l[j]? =some x→∃u,w.cell? ⟨g,o+j,none⟩=some u∧RepX ρ dom (okE forb ρ S w) w x u)→
     ∃us:List Value,us.length=l.length∧(∀j u,us[j]? =some u→w.cell? ⟨g,o+j,none⟩=some u)∧RepXL ρ dom (okE forb ρ S w) w l us:=by
    intro l
    induction l with
    |nil=>intro o _;exact⟨[],rfl,fun j u hj=>by simp at hj,trivial⟩
    |cons c l ih=>
     intro o h;obtain⟨u,hu,hr⟩:=h 0 c rfl;obtain⟨us,h1,h2,h3⟩:=ih (o+1) (fun j c' hj=>by
      obtain⟨u',hu',hr'⟩:=h (j+1) c' (by simpa using hj);exact⟨u',by rw[show o+1+j=o+(j+1) by omega];exact hu',hr'⟩)
     refine⟨u::us,by simp[h1],fun j u' hj=>?_,hr,h3⟩
     cases j with
     |zero=>simp at hj;subst hj;exact hu
     |succ j=>rw[show o+(j+1)=o+1+j by omega];exact h2 j u' (by simpa using hj)
   obtain⟨us,h6,h7,h8⟩:=build cs og cell;exact⟨_,cap,us,hv,hcap,by rw[h6,hlen],.inr ⟨_,rfl,fun j u hj=>by rw[add_lit'];exact h7 j u hj⟩,h8⟩
  cases h
 ·cases h
  obtain⟨ad,rfl⟩:=hr;exact⟨ad,0,[],rfl,O1 _,by simp,.inl rfl,trivial⟩
 cases h
structure App (P:Program) (w:World) (t t' e:TypeId) (i:TypeInfo) (z:Value) (v:Value) (m:Nat) (us:List Value):Prop where
 len:us.length=m*i.size
 none:m=0→∀(ty:TypeId) (b:Option Addr) (n cap:Nat),n≤cap→(Builtin.append_ #[t,t'] ty #[.slice b n cap,v]).run P w= .ok (.slice b n cap) w
 new:m≠0→∀(ty:TypeId) (b:Option Addr) (n cap:Nat) (olds:List Value),olds.length=n*i.size→HoldsAt w b olds→cap<n+m→(n+m)*i.bytes≤140737488355328→n+m≤9223372036854775807→
  (Builtin.append_ #[t,t'] ty #[.slice b n cap,v]).run P w= .ok (.slice (some ⟨w.heap.size,0,Option.none⟩) (n+m) (grownCap w (n+m) cap e))
   (w.drew.alloc (.cells (olds.toArray++us.toArray++Builtin.zeroCells z.cells (grownCap w (n+m) cap e-(n+m))) e))
 room:m≠0→∀(ty:TypeId) (g o n cap:Nat) (cur:Array Value) (e':TypeId),w.heap[g]? =some (.cells cur e' (0,0))→(∀u∈us,u.oneCell'=true)→n+m≤cap→o+n*i.size+us.length≤cur.size→(n+m)*i.bytes≤140737488355328→n+m≤9223372036854775807→
  (Builtin.append_ #[t,t'] ty #[.slice (some ⟨g,o,Option.none⟩) n cap,v]).run P w=
   .ok (.slice (some ⟨g,o,Option.none⟩) (n+m) cap) (w.setRow g (cur.toList.take (o+n*i.size)++us++cur.toList.drop (o+n*i.size+us.length)).toArray)
theorem App.ofSlice {t t' e e':TypeId}{i:TypeInfo}{z:Value}(ht:P.underlying t=some (.slice e))(ht':P.underlying t'=some (.slice e'))(hi:P.info? e=some i)(hz:i.zero=some z)
  {ad:Option Addr} {m cap:Nat} {us:List Value} (hl:us.length=m*i.size) (hh:HoldsAt w ad us):App P w t t' e i z (.slice ad m cap) m us:=by
 refine⟨hl,fun h0 ty b n c hc=>?_,fun hm ty b n c olds h1 h2 h3 h4 h5=>?_,fun hm ty g o n c cur e1 hg h1 h2 h3 _ _=>?_⟩
 ·subst h0;rw[append_types ht ht'];exact append_zero_run ht hi b n c ad cap hc
 ·rw[append_types ht ht'];exact append_new_run ht hi hz b n c olds h1 h2 ad m cap us hl hh h3 h4 h5
 rw[append_types ht ht'];exact append_room_run ht hi g o n c hg ad m cap us hl hh h1 h2 h3
theorem zeroCells_size (z:Array Value)(n:Nat):(Builtin.zeroCells z n).size=n*z.size:=by simp[Builtin.zeroCells]
theorem App.ofMake {t t' e:TypeId}{i:TypeInfo}{z:Value}{k k':IntKind}(ht:P.underlying t=some (.slice e))(ht':P.underlying t'=some (.int k))(hi:P.info? e=some i)(hz:i.zero=some z)(hzs:z.cells.size=i.size)(hp:0<i.size)
  {m:Nat} (hb:m*i.bytes≤140737488355328) (h63:m≤9223372036854775807):App P w t t' e i z (.int k' m) m (Builtin.zeroCells z.cells m).toList:=by
 have hw:IntKind.i64.wrap (m:Int)=m:=wrap64_id (by omega) (by omega);have hneg:¬((m:Int)<0):=by omega
 have hbig:¬((m:Int)*(i.bytes:Int)>2^48):=by
  have:((m*i.bytes:Nat):Int)=(m:Int)*(i.bytes:Int):=by push_cast;rfl
  omega
 have hbig':¬(281474976710656<(m:Int)*(i.bytes:Int)):=by omega
 refine⟨by simp[zeroCells_size,hzs],fun h0 ty b n c hc=>?_,fun hm ty b n c olds h1 h2 h3 h4 h5=>?_,fun hm ty g o n c cur e1 hg h1 h2 h3 _ _=>?_⟩
 ·subst h0;have hw0:IntKind.i64.wrap 0=0:=by decide
  cases b<;>simp [Builtin.append_,Go.run_underlying ht,Go.run_underlying ht',sizeOf,typeInfo,hi,asInt,asIntOf,hw0,hc,storeCells]
 ·have hn:¬(n+m≤c):=by omega
  have h63':¬(9223372036854775807<((n:Int)+(m:Int))):=by omega
  have hfit:=growslice_fits h3 h4;have h48':¬(281474976710656<Builtin.nextslicecap (n+m) c*i.bytes):=by omega
  have hfo:=firstCells_run (P:=P) (w:=w.drew) i.size n b n c olds h1 h2;have hp0:¬(i.size=0):=by omega
  have hmp:¬(m=0):=hm
  simp[Builtin.append_,Go.run_underlying ht,Go.run_underlying ht',sizeOf,typeInfo,zeroValue,hi,hz,asInt,asIntOf,hw,hneg,hbig',hmp,hp0,hn,h63',h48',Question.forced,hfo,newRow,grownCap]
  exact fun h0=>absurd h0 (Nat.mul_ne_zero hm hp0)
 have hst:=run_storeCells_at P g (o+n*i.size) e1 (Builtin.zeroCells z.cells m).toList 0 cur w hg (by simpa using h3) h1;simp only[Nat.add_zero]at hst;have hp0:¬(i.size=0):=by omega
 simp[Builtin.append_,Go.run_underlying ht,Go.run_underlying ht',sizeOf,typeInfo,zeroValue,hi,hz,asInt,asIntOf,hw,hneg,hbig',hm,hp0,h2,add_lit',hst]
 exact fun h0=>absurd h0 (Nat.mul_ne_zero hm hp0)
include hT in
theorem T_intK {t:TypeId}{S:Ty}{k:IntKind}(h:T t=some S)(hk:S.k= .int k):∃k',P.underlying t=some (.int k'):=by
 obtain⟨i,d,z,_,hu,_,hkd,_⟩:=T_parts hT h;rw[hk]at hkd;rw[hu]
 cases d<;>simp only[kindOf]at hkd<;>first|exact ⟨_,rfl⟩|cases hkd|(split at hkd<;>cases hkd)
include hT in
theorem srcY_app {S:Nat→Option EB}{E S':Ty}{y:EV}{v:Value}{ys:List X}{m:Nat}{t t' e:TypeId}{i:TypeInfo}{z:Value}(hs:SimE forb dom ρ S w)(hr:RepE ρ dom (okE forb ρ S w) w y v)
  (ht:P.underlying t=some (.slice e)) (hS':T t'=some S') (hi:P.info? e=some i) (hz:i.zero=some z) (hzs:z.cells.size=i.size) (hes:E.size=i.size) (hzc:E.zero=z.cells.toList.map cvC) (hall:z.cells.toList.all Value.oneCell'=true) (hp:0<E.size)
  (hb:m*i.bytes≤140737488355328) (h63:m≤9223372036854775807) (h:srcY S E S' y=some (ys,m)):∃us,App P w t t' e i z v m us∧RepXL ρ dom (okE forb ρ S w) w ys us:=by
 unfold srcY at h
 split at h
 ·rename_i hk
  obtain⟨ad,cap,us,rfl,_,hl,hh,hx⟩:=srcE_run hs hr h;exact⟨us,App.ofSlice ht (T_slice hT hS' hk) hi hz (by rw[hl,hes]) hh,hx⟩
 ·rename_i hk
  obtain⟨k',hu⟩:=T_intK hT hS' hk
  split at h
  ·rename_i kk mm
   split at h
   ·rename_i h0
    simp only[Q6,Prod.mk.injEq]at h;obtain⟨rfl,rfl⟩:=h;have hr:v= .int kk mm:=hr;have hmm:mm=((mm.toNat:Nat):Int):=by omega
    rw[hr];refine⟨(Builtin.zeroCells z.cells mm.toNat).toList,?_,?_⟩
    ·conv=>arg 8;rw[hmm]
     exact App.ofMake ht hu hi hz hzs (by omega) hb h63
    rw[hzc];exact xz_rep _ _ (zeros_rep z.cells mm.toNat (by omega) hall)
   cases h
  cases h
 cases h
include hT in
theorem gAppend {st:Sto}{nx:Nat}{c:Call}{x y:Operand}{t t':TypeId}{q:Oc}(hs:SimE forb dom ρ st.get w)(h:EnvOk ρ dom (okE forb ρ st.get w) w n env a)(hlt:∀b,dom b→b<nx)(ho:o.op= .call c)(hcal:c.callee= .builtin .append)(hargs:c.args= #[x,y])(htys:c.argTypes= #[t,t'])
  (hq:append1 T (evO env) st nx t t' x y=some q):Goes P o a w forb dom ρ st.get nx [q]:=by
 unfold append1 at hq
 split at hq
 ·rename_i S S' hS hS'
  split at hq
  ·rename_i e hk
   split at hq
   ·rename_i E hE
    split at hq
    ·rename_i xs n0 ys m b hxs hys hbase
     split at hq
     ·rename_i hcond
      obtain⟨hzl,hpos,hb,h63⟩:=hcond;have ht:=T_slice hT hS hk;obtain⟨ei,ed,ez,hei,heu,hez,hek,hes,heb,hzc,hall⟩:=T_parts hT hE;have hzs:ez.cells.size=ei.size:=by rw[←hes,←hzl,hzc];simp
      have hxv:=h.ev x;have hyv:=h.ev y;obtain⟨ad0,cap0,us0,hv0,hcap0,hl0,hh0,hr0⟩:=srcE_run hs hxv hxs;obtain⟨us1,app,hr1⟩:=srcY_app hT hs hyv ht hS' hei hez hzs hes hzc hall hpos (O0 (O8 _ (Nat.le_add_left m n0)) (by rw[←heb];exact hb)) (by omega) hys;have hl1:=app.len;have hexec:∀(v:Value) (w':World),(Builtin.append_ #[t,t'] o.type #[a.eval x,a.eval y]).run P w= .ok v w'→(execOp a.eval o).run P w= .ok (.value v) w':=by
       intro v w' hr;unfold execOp;rw[ho];simp only[resolve,hcal,Sem.run_bind,Sem.run_pure,Q7,invoke,Go.builtin,hargs,htys];rw[show Array.map a.eval #[x,y]= #[a.eval x,a.eval y] by simp,hr];rfl
      rw[hes]at hl0;rw[heb]at hb
      split at hq
      ·rename_i hm
       subst hm
       cases hq
       have hr:=app.none rfl o.type ad0 n0 cap0 hcap0;rw[←hv0]at hr;exact fun next Q hk=>Oper.wp_value (hexec _ _ hr) (hk _ (List.mem_singleton.2 rfl) _ _ _ _ (At.refl hs hlt) hxv)
      rename_i hm
      cases hq
      have hlen2:(us0++us1).length=(n0+m)*ei.size:=by rw[X6,hl0,hl1,Nat.add_mul]
      have hxl:=RepXL.length hr0;have hyl:=RepXL.length hr1;have hcl:(n0+m)*E.size=(xs++ys).length:=by rw[X6,hxl,hyl,hl0,hl1,hes,Nat.add_mul]
      have cellAt:∀(j:Nat) (z:X),(xs++ys)[j]? =some z→∃u,(us0++us1)[j]? =some u∧RepX ρ dom (okE forb ρ st.get w) w z u:=by
       intro j z hj
       by_cases hjl:j<xs.length
       ·rw[List.getElem?_append_left hjl]at hj;obtain⟨u,hu,hr⟩:=RepXL.get hr0 j z hj;exact⟨u,by rw[List.getElem?_append_left (by omega)];exact hu,hr⟩
       rw[List.getElem?_append_right (by omega)]at hj;obtain⟨u,hu,hr⟩:=RepXL.get hr1 _ z hj;exact⟨u,by rw[List.getElem?_append_right (by omega),←hxl];exact hu,hr⟩
      -- a new row
      have newRow:∀(st1:Sto),At forb dom ρ st.get w nx dom ρ st1.get w nx→cap0<n0+m→Goes P o a w forb dom ρ st.get nx [(ec (.own nx E.size 0 (n0+m)),st1.put nx (some (.mem E.size (xs++ys))),nx+1)]:=by
       intro st1 h1 hcap;have hr:=app.new hm o.type ad0 n0 cap0 us0 hl0 hh0 hcap hb h63;rw[←hv0]at hr;have hgc:n0+m≤grownCap w (n0+m) cap0 e:=grownCap_ge w _ _ _;have h2:=mem_new h1.sim h1.lt (w1:=w.drew) ((below_self w).drew) (cells:=us0.toArray++us1.toArray++Builtin.zeroCells ez.cells (grownCap w (n0+m) cap0 e-(n0+m))) (e:=e) (cs:=xs++ys) (wd:=E.size) (len:=n0+m) (fun j z hj=>by
        obtain⟨u,hu,hr⟩:=cellAt j z hj;refine⟨u,?_,RepX.ext h1.stp.ext h1.stp.same hr⟩;have hju:=(List.getElem?_eq_some_iff.1 hu).1;rw[Array.getElem?_append_left (by simpa using hju),←Array.getElem?_toList]
        simpa using hu) hcl rfl
       rw[←get_put_upS]at h2;refine fun next Q hk=>Oper.wp_value (hexec _ _ hr) (hk _ (List.mem_singleton.2 rfl) _ _ _ _ (h1.trans h2) (own_new (O1 _) hgc ?_));have hrs:rowSize (w.drew.alloc (.cells (us0.toArray++us1.toArray++Builtin.zeroCells ez.cells (grownCap w (n0+m) cap0 e-(n0+m))) e)) w.heap.size=(us0.toArray++us1.toArray++Builtin.zeroCells ez.cells (grownCap w (n0+m) cap0 e-(n0+m))).size:=rowSize_of (heap_alloc_new w.drew _);rw[hrs];simp only[Array.size_append,List.size_toArray,size_zeroCells,hl0,hl1,hzs,hes]
       have:grownCap w (n0+m) cap0 e=n0+m+(grownCap w (n0+m) cap0 e-(n0+m)):=by omega
       conv=>lhs;rw[this]
       rw[Nat.add_mul,Nat.add_mul];exact O1 _
      unfold baseE at hbase
      split at hbase
      ·rename_i hx
       cases hbase
       rw[hx]at hxv;have hxn:a.eval x= .slice none 0 0:=hxv;rw[hxn]at hv0;simp only[Value.slice.injEq]at hv0;obtain⟨rfl,rfl,rfl⟩:=hv0;exact newRow st (At.refl hs hlt) (by omega)
      ·rename_i b' wd' off len hx
       cases hbase
       rw[hx]at hxv hxs;unfold srcE at hxs;simp only at hxs
       split at hxs
       ·rename_i wd2 cs hl
        split at hxs
        ·rename_i hww
         obtain⟨rfl,rfl⟩:=hww;simp only[Q6,Prod.mk.injEq]at hxs;obtain⟨_,rfl⟩:=hxs;have hkill:=At.kill hs hlt hl (by simp);rw[←get_put_upS]at hkill
         by_cases hroom:len+m≤cap0
         ·-- there is room
          obtain⟨_,g,og,ha,_,_,hlen,cur,e1,hg,hcell⟩:=hs.own b' _ hl;obtain⟨_,hle,cap,hcap,hv⟩:=hxv
          rcases hv with⟨g',o',o'',ha',hv,hof,hrm⟩|⟨hn,_⟩
          ·rw[ha]at ha'
           cases ha'
           rw[hv]at hv0;simp only[Value.slice.injEq]at hv0;obtain⟨rfl,_,rfl⟩:=hv0
           have hof:o''=og+off*E.size:=by rcases hof with h|h;omega;exact h
           rw[rowSize_of hg]at hrm;have hfit:o''+len*ei.size+us1.length≤cur.size:=by
            rw[hl1,←hes];have h5:(off+(len+m))*E.size≤(off+cap)*E.size:=O8 _ (by omega);rw[Nat.add_mul,Nat.add_mul]at h5;omega
           have hr:=app.room hm o.type g o'' len cap cur e1 hg (RepXL.oneCells hr1) hroom hfit hb h63;rw[←hv]at hr;have hwr:=wr_setRow hg (cs:=(cur.toList.take (o''+len*ei.size)++us1++cur.toList.drop (o''+len*ei.size+us1.length)).toArray) (by simp;omega);have hid:¬dom nx:=fun hd=>Nat.lt_irrefl _ (hlt _ hd);have hst:=Stp.rename (S:=st.get) hs hl ha hwr hid (.mem E.size (xs++ys)) o'' (len+m);have hsim:=hs.rename hl (by simp) ha hwr hid (.mem E.size (xs++ys)) o'' (len+m) ⟨hcl,_,e1,setRow_heap w g cur _ e1 (0,0) hg,fun j z hj=>by
            obtain⟨u,hu,hrz⟩:=cellAt j z hj;refine⟨u,?_,RepX.ext hst.ext hst.same hrz⟩;have hlg:=laid_get cur.toList (o''+len*ei.size) us1 (by simpa using hfit) (o''+j);simp only[List.getElem?_toArray,hlg]
            by_cases hjl:j<us0.length
            ·rw[if_neg (by omega)];rw[List.getElem?_append_left hjl]at hu
             rcases hh0 with hh0|⟨ad,had,hh0⟩
             ·rw[hh0]at hjl;simp at hjl
             cases had
             have:=hh0 j u hu
             rw[add_lit',cell_of_row w g _ cur e1 (0,0) hg]at this
             simpa using this
            have hju:=(List.getElem?_eq_some_iff.1 hu).1;rw[List.getElem?_append_right (by omega)]at hu;rw[X6]at hju;rw[if_pos (by omega),←hu]
            congr 1;omega⟩
           have hat:At forb dom ρ st.get w nx _ _ _ _ (nx+1):=⟨hst,hsim,fun b hb=>by rcases hb with hb|hb;have:=hlt b hb;omega;omega,by omega,fun b hb hd=>by rcases hd with hd|hd;exact hd;omega⟩
           rw[←get_put_upS,←get_put_upS]at hat;refine fun next Q hk=>Oper.wp_value (hexec _ _ hr) (hk _ (List.mem_singleton.2 rfl) _ _ _ _ hat ⟨.inr rfl,by rw[sLs];simp,cap,hroom,.inl ⟨g,o'',o'',by rw[sLs],rfl,.inr (by simp),?_⟩⟩);have h6:=hwr.room g;rw[rowSize_of hg]at h6;refine O0 ?_ h6;rw[Nat.zero_add,hof,Nat.add_assoc,←Nat.add_mul];exact hrm
          rw[ha]at hn;cases hn
         exact newRow _ hkill (by omega)
        cases hxs
       cases hxs
      ·rename_i hx
       cases hbase
       rw[hx]at hxv;obtain⟨ad,hxn⟩:=hxv;rw[hxn]at hv0;simp only[Value.slice.injEq]at hv0;obtain⟨rfl,rfl,rfl⟩:=hv0;exact newRow st (At.refl hs hlt) (by omega)
      cases hbase
     cases hq
    cases hq
   cases hq
  cases hq
 cases hq
end
end Go.Eng.Run
noncomputable section
namespace Go.Eng.Run
open Go
def clear1 (T:Tab)(ev:Operand→EV)(st:Sto)(nx:Nat)(t:TypeId)(x:Operand):Option Oc:=
 match T t with
 |some S=>match S.k with
  |.sl e=>match T e with
   |some E=>match ev x with
    |.v (.one (.cl (.own b wd off len)))=>match st.get b with
     |some (.mem wd' cs)=>if len=0 then some (.un,st,nx)else if wd=wd'∧wd=E.size∧E.zero.length=E.size∧0<E.size then some (.un,st.put b (some (.mem wd (spliceX cs (off*wd) (xz (zerosC E.zero len))))),nx)else none
     |_=>none
    |_=>none
   |none=>none
  |_=>none
 |none=>none
section
variable {forb dom:Nat→Prop}{ρ:Nat→Loc}{w:World}{P:Program}{T:Tab}(hT:TabOk P T){n:Nat}{env:Nat→Option EV}{a:Act}{o:Oper}
include hT in
theorem gClear {
        st:Sto} {nx:Nat} {c:Call} {x:Operand} {t:TypeId} {q:Oc} (hs:SimE forb dom ρ st.get w) (h:EnvOk ρ dom (okE forb ρ st.get w) w n env a) (hlt:∀b,dom b→b<nx) (ho:o.op= .call c) (hcal:c.callee= .builtin .clear) (hargs:c.args= #[x]) (htys:c.argTypes= #[t])
  (hq:clear1 T (evO env) st nx t x=some q):Goes P o a w forb dom ρ st.get nx [q]:=by
 unfold clear1 at hq
 split at hq
 ·rename_i S hS
  split at hq
  ·rename_i e hk
   have hu:=T_slice hT hS hk
   split at hq
   ·rename_i E hE
    obtain⟨ei,ed,ez,hei,heu,hez,hek,hes,_,hzc,hall⟩:=T_parts hT hE;have hzl:E.zero.length=ez.cells.size:=by rw[hzc];simp
    split at hq
    ·rename_i b wd off len hx
     have hev:=h.ev x;rw[hx]at hev;obtain⟨_,hle,cap,hcap,hval⟩:=hev;have hrun:∀(v:Value) (w':World),a.eval x=v→(∀ty,(Builtin.clear_ #[t] ty #[v]).run P w= .ok (.tuple #[]) w')→(execOp a.eval o).run P w= .ok (.value (.tuple #[])) w':=by
      intro v w' hv hr;unfold execOp;rw[ho];simp only[resolve,hcal,Sem.run_bind,Sem.run_pure,Q7,invoke,Go.builtin,hargs,htys,List.map_toArray,List.map_cons,List.map_nil,hv,hr]
     split at hq
     ·rename_i wd' cs hl
      obtain⟨_,g,og,ha,hgl,_,hlw,cur,ee,hg,hc⟩:=hs.own b _ hl
      split at hq
      ·rename_i hl0
       subst hl0
       cases hq
       obtain⟨ad,hsl⟩:∃ad,a.eval x= .slice ad 0 cap:=by
        rcases hval with⟨g,o1,o2,_,hv,_⟩|⟨_,hv,_,hc0⟩
        ·exact⟨_,hv⟩
        exact⟨none,by rw[hv,hc0]⟩
       have hr:=hrun _ w hsl (fun ty=>by cases ad<;>simp only[Builtin.clear_,List.getElem?_toArray,List.getElem?_cons_zero,Sem.run_bind,run_underlying' hu,Q7,Sem.run_pure])
       exact fun next Q hk=>Oper.wp_value hr (hk _ (List.mem_singleton.2 rfl) _ _ _ _ (At.refl hs hlt) trivial)
      rename_i hl0
      split at hq
      ·rename_i hcond
       obtain⟨rfl,hwE,hz,hpos⟩:=hcond
       cases hq
       have hzs:ez.cells.size=wd:=by omega
       rcases hval with⟨g',o1,o2,ha',hv,ho2,_⟩|⟨hn,_⟩
       ·rw[ha]at ha'
        cases ha'
        have ho3:o2=og+off*wd:=by rcases ho2 with h1|h1<;>omega
        subst ho3;have hmul:(off+len)*wd≤(ρ b).len*wd:=O8 _ hle;rw[hlw,Nat.add_mul]at hmul;have hlw0:0<len*wd:=Nat.mul_pos (by omega) (by omega);have hfit:og+off*wd+len*wd≤cur.size:=by
         obtain⟨u,hu',_⟩:=hc (cs.length-1) cs[cs.length-1] (X8 (by omega))
         have:=(Array.getElem?_eq_some_iff.1 hu').1
         omega
        have hr:=hrun _ _ hv (fun ty=>clear_run (ty:=ty) hu hei hez g (og+off*wd) len cap hg (by rw[hzs];exact hfit) hall (by omega) (by omega));rw[hzs]at hr;have hzl2:(Builtin.zeroCells ez.cells len).toList.length=len*wd:=by simp[Builtin.zeroCells,hzs]
        have hxl:(xz (zerosC E.zero len)).length=len*wd:=by rw[xz,List.length_map,zerosC_length,hz,hwE]
        have hzr:RepXL ρ dom (okE forb ρ st.get w) w (xz (zerosC E.zero len)) (Builtin.zeroCells ez.cells len).toList:=by
         rw[hzc];exact xz_rep _ _ (zeros_rep ez.cells len (by omega) hall)
        have hwr:=wr_setRow hg (cs:=(cur.toList.take (og+off*wd)++(Builtin.zeroCells ez.cells len).toList++cur.toList.drop (og+off*wd+len*wd)).toArray) (by
         simp only[List.size_toArray,X6,X5,List.length_drop,hzl2,Array.length_toList];omega)
        have hstp:=Stp.write (dom:=dom) (ρ:=ρ) hl ha hwr (.mem wd (spliceX cs (off*wd) (xz (zerosC E.zero len))));refine fun next Q hk=>Oper.wp_value hr (hk _ (List.mem_singleton.2 rfl) _ _ dom ρ ?_ trivial);rw[get_put_upS];refine⟨hstp,hs.write hl (by simp) ha hwr _ ⟨by rw[spliceX_length _ _ _ (by omega)];exact hlw,_,ee,setRow_heap w g cur _ ee (0,0) hg,fun j x hj=>?_⟩,hlt,O1 _,fun _ _ h=>h⟩;rw[spliceX_get _ _ _ (by omega)]at hj;have hlg:=laid_get cur.toList (og+off*wd) (Builtin.zeroCells ez.cells len).toList (by rw[hzl2];simpa using hfit) (og+j);rw[hzl2]at hlg;simp only[List.getElem?_toArray,hlg]
        by_cases hm:off*wd≤j∧j<off*wd+(xz (zerosC E.zero len)).length
        ·rw[if_pos hm]at hj;rw[if_pos (by omega),show og+j-(og+off*wd)=j-off*wd by omega];obtain⟨u,hu,hr⟩:=RepXL.get hzr _ _ hj;exact⟨u,hu,RepX.ext hstp.ext hstp.same hr⟩
        rw[if_neg hm]at hj;rw[if_neg (by omega),Array.getElem?_toList];obtain⟨u,hu,hr⟩:=hc j x hj;exact⟨u,hu,RepX.ext hstp.ext hstp.same hr⟩
       rw[ha]at hn;cases hn
      cases hq
     cases hq
    cases hq
   cases hq
  cases hq
 cases hq
end
end Go.Eng.Run
noncomputable section
namespace Go.Eng.Run
open Go
def upd1 (P:Program)(st:Sto)(nx:Nat)(t:TypeId)(m k v:EV):Option Oc:=
 match mapT P t,m,k,v with
 |some (kk,_),.v (.one (.mp b)),.v (.one (.cl (.int k n))),.v tv=>match st.get b with
  |some (.map kk' es)=>if k=kk∧(es.isEmpty=true∨kk'=kk)then some (.un,st.put b (some (.map kk (updK n tv es))),nx)else none
  |_=>none
 |_,_,_,_=>none
section
variable {forb dom:Nat→Prop}{ρ:Nat→Loc}{w:World}{P:Program}{T:Tab}(hT:TabOk P T){n:Nat}{env:Nat→Option EV}{a:Act}{o:Oper}{r:EV}
theorem gMakeMap {S:Nat→Option EB}{id:Nat}{t:TypeId}(hs:SimE forb dom ρ S w)(hid:¬dom id)(ho:o.op= .makeMap t none):
  MkOk P o a w forb dom ρ S id (.v (.one (.mp id))) (.map .i64 []):=by
 have hrun:(execOp a.eval o).run P w= .ok (.value (.map (some w.heap.size))) (w.alloc (.map #[] 0)):=by
  unfold execOp;rw[ho];refine run_v ?_;simp only[Instr.makeMap,Option.map_none,Sem.run_bind,run_newObj,Q7,Sem.run_pure];rfl
 have hb:Go.RowKit.Below w.heap.size w (w.alloc (.map #[] 0)):=(below_self w).alloc (by omega) _;have hst:=Stp.new hs hid (.map .i64 []) 0 hb (g:=w.heap.size) (O1 _) 0;have hsim:=hs.new hid (.map .i64 []) 0 hb (O1 _) (by show _<(w.heap.push _).size;rw[Array.size_push];omega) 0 ⟨rfl,#[],0,heap_alloc_new w _,by simp,fun e he=>by simp at he,by simp,fun k t hk=>(by cases hk),fun e he=>by simp at he⟩;exact fun next Q hk=>Oper.wp_value hrun (hk _ _ _ hst hsim ⟨.inr rfl,w.heap.size,0,by rw[sLs],rfl⟩)
def setO (w:World)(g:Nat)(ob:Obj):World:={w with heap:=w.heap.setIfInBounds g ob}
theorem wr_setO {g:Nat}{ob ob':Obj}(hg:w.heap[g]? =some ob)(hn:∀c e f,ob≠ .cells c e f):Wr w (setO w g ob') g:=by
 refine⟨rfl,rfl,rfl,Array.size_setIfInBounds,fun g' hne=>?_,fun g'=>?_⟩
 ·show(w.heap.setIfInBounds g ob')[g']? =_
  rw[Array.getElem?_setIfInBounds_ne (fun e=>hne e.symm)]
 by_cases h:g'=g
 ·subst h
  have:rowSize w g'=0:=by
   unfold rowSize;rw[hg]
   cases ob<;>first|rfl|(rename_i c e f;exact absurd rfl (hn c e f))
  omega
 have:(setO w g ob').heap[g']? =w.heap[g']? :=by
  show(w.heap.setIfInBounds g ob')[g']? =_
  rw[Array.getElem?_setIfInBounds_ne (fun e=>h e.symm)]
 unfold rowSize;rw[this];exact O1 _
theorem setO_heap {g:Nat}{ob ob':Obj}(hg:w.heap[g]? =some ob):(setO w g ob').heap[g]? =some ob':=by
 show(w.heap.setIfInBounds g ob')[g]? =_
 have:=(Array.getElem?_eq_some_iff.1 hg).1
 rw[Array.getElem?_setIfInBounds_self_of_lt this]
theorem run_setO {g:Nat}{ob ob':Obj}(hg:w.heap[g]? =some ob)(hn:∀c e f,ob≠ .cells c e f):(setObj g ob').run P w= .ok () (setO w g ob'):=by
 simp only[setObj,Sem.run];rw[hg]
 cases ob<;>first|rfl|(rename_i c e f;exact absurd rfl (hn c e f))
theorem modify_mem {l:List MapEntry}{j:Nat}{e0:MapEntry}{f:MapEntry→MapEntry}(hj:l[j]? =some e0){e:MapEntry}(he:e∈l.modify j f):e=f e0∨∃i,i≠j∧l[i]? =some e:=by
 obtain⟨i,hi⟩:=List.getElem?_of_mem he;rw[List.getElem?_modify]at hi
 by_cases h:j=i
 ·subst h;rw[hj]at hi;simp at hi;exact .inl hi.symm
 simp[h]at hi
 exact .inr ⟨i,fun e=>h e.symm,hi⟩
theorem modify_map {α:Type}{l:List MapEntry}{j:Nat}{e0:MapEntry}{f:MapEntry→MapEntry}(g:MapEntry→α)(hj:l[j]? =some e0)(hf:g (f e0)=g e0):(l.modify j f).map g=l.map g:=by
 apply List.ext_getElem?
 intro i;rw[List.getElem?_map,List.getElem?_map,List.getElem?_modify]
 by_cases h:j=i
 ·subst h;rw[hj];simp[hf]
 simp[h]
theorem gUpdate {st:Sto}{nx:Nat}{t:TypeId}{m k x:Operand}{q:Oc}(hs:SimE forb dom ρ st.get w)(h:EnvOk ρ dom (okE forb ρ st.get w) w n env a)(hlt:∀b,dom b→b<nx)(ho:o.op= .insert t m k x∨o.op= .mapUpdate t m k x)
  (hq:upd1 P st nx t (evO env m) (evO env k) (evO env x)=some q):Goes P o a w forb dom ρ st.get nx [q]:=by
 unfold upd1 at hq
 split at hq
 ·rename_i kk et b k' kn tv hm hmv hkv hxv
  split at hq
  ·rename_i kk' es hl
   split at hq
   ·rename_i hc
    obtain⟨rfl,hkk⟩:=hc
    cases hq
    obtain⟨kt,hu,hku⟩:=mapT_is hm;have h1:=h.ev m;rw[hmv]at h1;obtain⟨_,g,og,ha,hv⟩:=h1;have h2:=h.ev k;rw[hkv]at h2;have h2:a.eval k= .int k' kn:=h2;have h3:=h.ev x;rw[hxv]at h3;obtain⟨_,g',og',ha',_,_,h0,ents,clock,hg,hb1,hb2,hnd,h4,h5⟩:=hs.own b _ hl;rw[ha]at ha'
    cases ha'
    have hkeys:∀e∈ents.toList,∃k,e.key= .int k' k:=fun e he=>by
     obtain⟨k,t,hmem,hk⟩:=h5 e he
     rcases hkk with hkk|rfl
     ·rw[List.isEmpty_iff.1 hkk]at hmem;cases hmem
     exact⟨k,hk⟩
    have h4':∀k t,(k,t)∈es→∃e∈ents.toList,e.key= .int k' k∧RepT ρ dom (okE forb ρ st.get w) w t e.val:=fun k t hk=>by
     rcases hkk with hkk|rfl
     ·rw[List.isEmpty_iff.1 hkk]at hk;cases hk
     exact h4 k t hk
    have h5':∀e∈ents.toList,∃k t,(k,t)∈es∧e.key= .int k' k:=fun e he=>by
     rcases hkk with hkk|rfl
     ·obtain⟨k,t,hk,_⟩:=h5 e he;rw[List.isEmpty_iff.1 hkk]at hk;cases hk
     exact h5 e he
    have hget:(getObj g).run P w= .ok (.map ents clock) w:=by simp only[getObj,Sem.run,hg]
    have fin:∀(ents':Array MapEntry) (clock':Nat),(ents'.toList.map (·.born)).Nodup→(∀e∈ents'.toList,e.born<clock')→(ents'.toList.map (·.key)).Nodup→
      (∀k,k≠kn→∀e∈ents.toList,e.key= .int k' k→∃e'∈ents'.toList,e'.key= .int k' k∧e'.val=e.val)→(∃e'∈ents'.toList,e'.key= .int k' kn∧e'.val=a.eval x)→(∀e'∈ents'.toList,e'.key= .int k' kn∨∃k,k≠kn∧e'.key= .int k' k∧∃e∈ents.toList,e.key= .int k' k)→
      (Instr.mapUpdate t (a.eval m) (a.eval k) (a.eval x)).run P w= .ok () (setO w g (.map ents' clock'))→Goes P o a w forb dom ρ st.get nx [(.un,st.put b (some (.map k' (updK kn tv es))),nx)]:=by
     intro ents' clock' f1 f2 f3 f4 f5 f6 hrun;have hwr:=wr_setO (ob':=.map ents' clock') hg (by intro c e f hc;cases hc);have hstp:=Stp.write (dom:=dom) (ρ:=ρ) hl ha hwr (.map k' (updK kn tv es));intro next Q hk;have hnext:=hk _ (List.mem_singleton.2 rfl) undef _ dom ρ (by
      rw[get_put_upS];refine⟨hstp,hs.write hl (by simp) ha hwr _ ⟨h0,ents',clock',setO_heap hg,f1,f2,f3,fun k t hk=>?_,fun e' he'=>?_⟩,hlt,O1 _,fun _ _ h=>h⟩
      ·rcases updK_mem.1 hk with hk|⟨hk,hne⟩
       ·cases hk
        obtain⟨e',he',hk',hv'⟩:=f5;exact⟨e',he',hk',by rw[hv'];exact RepT.ext hstp.ext hstp.same h3⟩
       obtain⟨e,he,hek,hr⟩:=h4' k t hk;obtain⟨e',he',hk',hv'⟩:=f4 k hne e he hek;exact⟨e',he',hk',by rw[hv'];exact RepT.ext hstp.ext hstp.same hr⟩
      rcases f6 e' he' with hk|⟨k,hne,hk,e,he,hek⟩
      ·exact⟨kn,tv,updK_mem.2 (.inl rfl),hk⟩
      obtain⟨k2,t2,hmem,hk2⟩:=h5' e he;rw[hek]at hk2
      cases hk2
      exact⟨k,t2,updK_mem.2 (.inr ⟨hmem,hne⟩),hk⟩) trivial
     unfold Oper.wp execOp
     rcases ho with ho|ho
     ·rw[ho];simp only[Sem.run_bind,hrun,Q7,Sem.run_pure,Oper.upon_skip];exact hnext
     rw[ho];simp only[Sem.run_bind,hrun,Q7,Sem.run_pure,Oper.upon_skip];exact hnext
    have hset:∀ob,(setObj g ob).run P w= .ok () (setO w g ob):=fun ob=>run_setO hg (by intro c e f hc;cases hc)
    rcases findNow_is (k:=kn) ents.toList 0 hkeys with⟨hf,hn⟩|⟨j,e0,hj,hek,hf⟩
    ·refine fin (ents.push {key:=.int k' kn,val:=a.eval x,born:=clock}) (clock+1) ?_ (fun e he=>?_) ?_ (fun k hne e he hek=>⟨e,by simp[he],hek,rfl⟩) ⟨{key:=.int k' kn,val:=a.eval x,born:=clock},by simp,rfl,rfl⟩ (fun e' he'=>?_) ?_
     ·rw[Array.toList_push,List.map_append,List.nodup_append];refine⟨hb1,by simp,fun x hx y hy=>?_⟩;obtain⟨e,he,rfl⟩:=List.mem_map.1 hx;simp only[List.map_cons,List.map_nil,List.mem_singleton]at hy;subst hy
      have:=hb2 e he
      omega
     ·rw[Array.toList_push]at he
      rcases List.mem_append.1 he with he|he
      ·have:=hb2 e he;omega
      rw[List.mem_singleton.1 he];exact Nat.lt_succ_self _
     ·rw[Array.toList_push,List.map_append,List.nodup_append];refine⟨hnd,by simp,fun x hx y hy=>?_⟩;obtain⟨e,he,rfl⟩:=List.mem_map.1 hx;simp only[List.map_cons,List.map_nil,List.mem_singleton]at hy;subst hy;exact hn e he
     ·rw[Array.toList_push]at he'
      rcases List.mem_append.1 he' with he|he
      ·obtain⟨k,hk⟩:=hkeys e' he;exact .inr ⟨k,fun e=>hn e' he (by rw[hk,e]),hk,e',he,hk⟩
      rw[List.mem_singleton.1 he];exact .inl rfl
     rw[hv,h2];simp only[Instr.mapUpdate,Sem.run_bind,run_underlying' hu,Q7,hget,checkKey_int hku 9999,Instr.findKey,run_underlying' hku,hf,Sem.run_pure,hset]
    have hje:ents[j]? =some e0:=by simpa using hj
    have hm1:(ents.modify j fun e=>{e with key:=.int k' kn,val:=a.eval x}).toList=ents.toList.modify j fun e=>{e with key:=.int k' kn,val:=a.eval x}:=by simp
    have hjl:j<ents.toList.length:=(List.getElem?_eq_some_iff.1 hj).1;have hat:(ents.toList.modify j fun e=>{e with key:=.int k' kn,val:=a.eval x})[j]? =some {e0 with key:=.int k' kn,val:=a.eval x}:=by rw[List.getElem?_modify,hj];simp
    refine fin (ents.modify j fun e=>{e with key:=.int k' kn,val:=a.eval x}) clock ?_ (fun e he=>?_) ?_ (fun k hne e he hek'=>?_) ⟨_,by rw[hm1];exact List.mem_of_getElem? hat,rfl,rfl⟩ (fun e' he'=>?_) ?_
    ·rw[hm1,modify_map (·.born) hj rfl];exact hb1
    ·rw[hm1]at he
     rcases modify_mem hj he with rfl|⟨i,_,hi⟩
     ·exact hb2 e0 (List.mem_of_getElem? hj)
     exact hb2 e (List.mem_of_getElem? hi)
    ·rw[hm1,modify_map (·.key) hj hek.symm];exact hnd
    ·obtain⟨i,hi⟩:=List.getElem?_of_mem he;have hij:j≠i:=fun e'=>by
      subst e';rw[hj]at hi
      cases hi
      rw[hek]at hek'
      cases hek'
      exact hne rfl
     exact⟨e,by rw[hm1];exact List.mem_of_getElem? (i:=i) (by rw[List.getElem?_modify,hi];simp[hij]),hek',rfl⟩
    ·rw[hm1]at he'
     rcases modify_mem hj he' with rfl|⟨i,hij,hi⟩
     ·exact .inl rfl
     have he:=List.mem_of_getElem? hi;obtain⟨k,hk⟩:=hkeys e' he;refine .inr ⟨k,fun e=>?_,hk,e',he,hk⟩;subst e
     have:=nodup_key hnd he (List.mem_of_getElem? hj) (hk.trans hek.symm)
     subst this;have h6:=(List.getElem?_inj (i:=i) (j:=j) (l:=ents.toList.map (·.key)) (by rw[List.length_map];exact(List.getElem?_eq_some_iff.1 hi).1) hnd).1 (by rw[List.getElem?_map,List.getElem?_map,hi,hj]);exact hij h6
    rw[hv,h2];simp only[Instr.mapUpdate,Sem.run_bind,run_underlying' hu,Q7,hget,checkKey_int hku 9999,Instr.findKey,run_underlying' hku,hf,Sem.run_pure,Nat.zero_add,hje,Option.map_some,Option.getD_some,hek,Instr.keyThatStays,Instr.sameBits,beq_self_eq_true,Bool.and_self,if_true,hset]
   cases hq
  cases hq
 cases hq
end
end Go.Eng.Run
noncomputable section
namespace Go.Eng.Run
open Go
def range1 (P:Program)(st:Sto)(nx:Nat)(t:TypeId)(x:EV):Option Oc:=
 match mapT P t,x with
 |some _,.v (.one (.mp b))=>match st.get b with
  |some (.map kk es)=>some (ec (.ptr nx 0),(st.put b (some .held)).put nx (some (.iter b kk es none)),nx+1)
  |_=>none
 |_,_=>none
def next1 (st:Sto)(nx:Nat)(x:EV):Option (List Oc):=
 match x with
 |.v (.one (.cl (.ptr b 0)))=>match st.get b with
  |some (.iter mb kk rest _)=>match rest with
   |[]=>some [(.tup [.one (.cl (.bool false))],st,nx)]
   |_=>some (rest.map fun y=>(.tup [.one (.cl (.bool true)),.one (.cl (.int kk y.1)),y.2],st.put b (some (.iter mb kk (rest.filter fun z=>!(z.1==y.1)) (some y))),nx))
  |_=>none
 |_=>none
section
variable {forb dom:Nat→Prop}{ρ:Nat→Loc}{w:World}{P:Program}{T:Tab}{n:Nat}{env:Nat→Option EV}{a:Act}{o:Oper}{r:EV}
theorem At.hold {S:Nat→Option EB}{nx:Nat}(hs:SimE forb dom ρ S w)(hlt:∀b,dom b→b<nx){b:Nat}{B:EB}(hl:S b=some B)(hnh:B≠ .held):At forb dom ρ S w nx dom ρ (upS S b (some .held)) w nx:=by
 have old:∀b' B1,upS S b (some .held) b'=some B1→(b'=b∧B1= .held)∨(b'≠b∧S b'=some B1):=fun b' B1 h1=>by
  by_cases e:b'=b
  ·subst e;rw[upS_same]at h1;cases h1;exact .inl ⟨rfl,rfl⟩
  rw[upS_ne e]at h1;exact .inr ⟨e,h1⟩
 have was:∀b' B1,upS S b (some .held) b'=some B1→∃B2,S b'=some B2:=fun b' B1 h1=>by
  rcases old b' B1 h1 with⟨rfl,_⟩|⟨_,h⟩
  ·exact⟨B,hl⟩
  exact⟨B1,h⟩
 have hst:Stp dom ρ S w dom ρ (upS S b (some .held)) w:=⟨⟨fun _ h=>h,fun _ _=>rfl⟩,rfl,rfl,rfl,O1 _,fun _ _ _=>rfl,fun _=>O1 _,fun b' B' h _=>was b' B' h,fun b' B' h g o ha=>by
  obtain⟨B2,h2⟩:=was b' B' h;exact .inr ⟨b',B2,o,h2,ha⟩⟩
 refine⟨hst,hs.turn hst (fun b' hb'=>⟨?_,fun _ _ _=>rfl⟩) (fun b' B' hb'=>?_) (fun b1 B1 b2 B2 h1 h2=>?_) (fun b hb=>.inl hb),hlt,O1 _,fun _ _ h=>h⟩
 ·by_cases e:b'=b
  ·subst e;rw[upS_same]
  rw[upS_ne e];exact hb'
 ·rcases old b' B' hb' with⟨rfl,rfl⟩|⟨_,h⟩
  ·obtain⟨hd,g,o,ha,hg,hf,_⟩:=hs.own b' B hl;exact .inr ⟨hd,g,o,ha,hg,hf,trivial⟩
  exact .inl ⟨h,fun _ _ _=>rfl⟩
 obtain⟨B3,h3⟩:=was b1 B1 h1;obtain⟨B4,h4⟩:=was b2 B2 h2;exact hs.inj b1 B3 b2 B4 h3 h4
theorem gRange {st:Sto}{nx:Nat}{t:TypeId}{x:Operand}{q:Oc}(hs:SimE forb dom ρ st.get w)(h:EnvOk ρ dom (okE forb ρ st.get w) w n env a)(hlt:∀b,dom b→b<nx)(ho:o.op= .range t x)(hq:range1 P st nx t (evO env x)=some q):Goes P o a w forb dom ρ st.get nx [q]:=by
 unfold range1 at hq
 split at hq
 ·rename_i kt b hm hx
  obtain⟨kk0,et⟩:=kt
  split at hq
  ·rename_i kk es hl
   cases hq
   obtain⟨kt,hu,_⟩:=mapT_is hm;have hev:=h.ev x;rw[hx]at hev;obtain⟨hd,g,og,ha,hv⟩:=hev;obtain⟨_,g',og',ha',hgl,_,h0,ents,clock,hg,hb1,hb2,hnd,h4,h5⟩:=hs.own b _ hl;rw[ha]at ha'
   cases ha'
   have hget:(getObj g).run P w= .ok (.map ents clock) w:=by simp only[getObj,Sem.run,hg]
   have hrun:(execOp a.eval o).run P w= .ok (.value (.pointer (some ⟨w.heap.size,0,none⟩))) (w.alloc (.mapIter (some g) clock #[] clock)):=by
    unfold execOp;rw[ho];refine run_v ?_;rw[hv];simp only[Instr.range,Sem.run_bind,run_underlying' hu,Q7,hget,Sem.run_pure,run_newObj];rfl
   have h1:=At.hold hs hlt hl (by simp);have hbn:b≠nx:=fun e=>by have:=hlt b hd;omega
   have hb:Go.RowKit.Below w.heap.size w (w.alloc (.mapIter (some g) clock #[] clock)):=(below_self w).alloc (by omega) _;have hid:¬dom nx:=fun h=>Nat.lt_irrefl _ (hlt _ h);have hst:=Stp.new h1.sim hid (.iter b kk es none) 0 hb (g:=w.heap.size) (O1 _) 0;have hgw:(w.alloc (.mapIter (some g) clock #[] clock)).heap[g]? =some (.map ents clock):=by
    rw[hb.block g hgl];exact hg
   have hsim:=h1.sim.new hid (.iter b kk es none) 0 hb (O1 _) (by show _<(w.heap.push _).size;rw[Array.size_push];omega) 0 ⟨rfl,by rw[upS_ne hbn,upS_same],g,og,ents,clock,#[],by rw[setLoc_ne ρ _ hbn];exact ha,hgw,heap_alloc_new w _,⟨hb2,hb1,hnd⟩,
    fun k t hk=>by
     obtain⟨e,he,hek,hr⟩:=h4 k t hk;exact⟨e,he,by simp,hek,RepT.ext ((h1.stp.trans hst).ext) ((h1.stp.trans hst).same) hr⟩,
    fun e he _=>by
     obtain⟨k,t,hk,hek⟩:=h5 e he;obtain⟨e',he',hek',hr⟩:=h4 k t hk
     have:e'=e:=nodup_key hnd he' he (hek'.trans hek.symm)
     subst this;exact⟨k,t,hk,hek,RepT.ext ((h1.stp.trans hst).ext) ((h1.stp.trans hst).same) hr⟩,
    fun k t hc=>by cases hc⟩
   have hat:At forb dom ρ st.get w nx _ _ _ _ (nx+1):=⟨h1.stp.trans hst,hsim,fun b hb=>by rcases hb with hb|hb;have:=hlt b hb;omega;omega,by omega,fun b hb hd=>by rcases hd with hd|hd;exact hd;omega⟩
   rw[←get_put_upS,←get_put_upS]at hat;exact fun next Q hk=>Oper.wp_value hrun (hk _ (List.mem_singleton.2 rfl) _ _ _ _ hat ptr_new)
  cases hq
 cases hq
theorem next_run {g gm clock:Nat}{seen:Array Nat}{ents:Array MapEntry}{ty:TypeId}(hg:w.heap[g]? =some (.mapIter (some gm) clock seen clock))(hgm:w.heap[gm]? =some (.map ents clock))(hb:∀e∈ents.toList,e.born<clock):
  ((∀e∈ents.toList,e.born∈seen.toList)∧(Instr.next (.pointer (some ⟨g,0,none⟩)) false ty).run P w= .ok (.tuple #[.bool false]) w)∨
  ∃e∈ents.toList,e.born∉seen.toList∧∃w1,(w1=w∨w1=w.drew)∧(Instr.next (.pointer (some ⟨g,0,none⟩)) false ty).run P w= .ok (.tuple #[.bool true,e.key,e.val]) (setO w1 g (.mapIter (some gm) clock (seen.push e.born) clock)):=by
 have hget:(getObj g).run P w= .ok (.mapIter (some gm) clock seen clock) w:=by simp only[getObj,Sem.run,hg]
 have hget2:(getObj gm).run P w= .ok (.map ents clock) w:=by simp only[getObj,Sem.run,hgm]
 simp only[Instr.next,Sem.run_bind,hget,hget2,Q7,next_test_false seen ents clock clock hb (O1 _),Bool.false_eq_true,if_false];have hmem:∀x∈(Array.filter (fun e=>!seen.contains e.born) ents).toList,x.born<clock:=fun x hx=>hb x (by simp at hx⊢;exact hx.1);have hmem2:∀x,x∈(Array.filter (fun e=>!seen.contains e.born) ents).toList↔x∈ents.toList∧x.born∉seen.toList:=fun x=>by simp
 generalize Array.filter (fun e=>!seen.contains e.born) ents=L at hmem hmem2⊢
 have e1:L.filter (fun x=>decide (x.born<clock))=L:=Array.filter_eq_self.2 (fun x hx=>by simpa using hmem x (by simpa using hx));have e2:L.filter (fun x=>decide (x.born≥clock))= #[]:=by
  rw[Array.filter_eq_empty_iff];intro x hx
  have:=hmem x (by simpa using hx)
  simp
  omega
 simp only[e1,e2,Array.append_empty]
 by_cases h0:L.size=0
 ·left
  have:L= #[]:=Array.eq_empty_of_size_eq_zero h0
  subst this;refine⟨fun e he=>Classical.byContradiction fun hn=>by
   have:=(hmem2 e).2 ⟨he,hn⟩
   simp at this,?_⟩
  simp[choose,Sem.run,Question.forced]
 right
 have hne:L.isEmpty=false:=by simp[Array.isEmpty,h0]
 simp only[hne,Bool.false_eq_true,if_false,Array.empty_append,Array.size_map];have hch:∃(j:Nat) (w1:World),j<L.size∧(w1=w∨w1=w.drew)∧(choose (Question.mapNext L.size)).run P w= .ok j w1:=by
  by_cases hf:L.size≤1
  ·exact⟨0,w,by omega,.inl rfl,by simp[choose,Sem.run,Question.forced,hf]⟩
  exact⟨_,w.drew,Nat.mod_lt _ (by omega),.inr rfl,by
   simp only[choose,Sem.run,Question.forced,decide_eq_true_eq,hf,if_false,Question.cut];rfl⟩
 obtain⟨j,w1,hj,hw1,hrun⟩:=hch;have hLj:=(hmem2 L[j]).1 (by simp);refine⟨L[j],hLj.1,hLj.2,w1,hw1,?_⟩
 have hg1:w1.heap[g]? =some (.mapIter (some gm) clock seen clock):=by rcases hw1 with rfl|rfl<;>exact hg
 have hset:∀ob,(setObj g ob).run P w1= .ok () (setO w1 g ob):=fun ob=>run_setO hg1 (by intro c e f hc;cases hc);simp only[hrun,Q7,Array.getElem?_map,Array.getElem?_eq_getElem hj,Option.map_some,Sem.run_bind,hset,Sem.run_pure]
theorem gNext {st:Sto}{nx:Nat}{x:Operand}{outs:List Oc}(hs:SimE forb dom ρ st.get w)(h:EnvOk ρ dom (okE forb ρ st.get w) w n env a)(hlt:∀b,dom b→b<nx)(ho:o.op= .next x false)(hq:next1 st nx (evO env x)=some outs):Goes P o a w forb dom ρ st.get nx outs:=by
 unfold next1 at hq
 split at hq
 ·rename_i b hx
  split at hq
  ·rename_i mb kk rest cur hl
   have hev:=h.ev x;rw[hx]at hev;obtain⟨_,g,og,ha,hv⟩:=hev;obtain⟨_,g',og',ha',hgl,hnf,h0,hmb,gm,om,ents,clock,seen,hm,hgm,hg,⟨hb2,hb1,hnd⟩,h4,h5,_⟩:=hs.own b _ hl;rw[ha]at ha'
   cases ha'
   subst h0;have hex:∀{v:Value} {w':World},(Instr.next (.pointer (some ⟨g,0,none⟩)) false o.type).run P w= .ok v w'→(execOp a.eval o).run P w= .ok (.value v) w':=by
    intro v w' hr;unfold execOp;rw[ho];simp only[hv,Nat.add_zero,Sem.run_bind,hr,Q7,Sem.run_pure]
   rcases next_run (P:=P) (ty:=o.type) hg hgm hb2 with⟨hall,hr⟩|⟨e,he,hns,w1,hw1,hr⟩
   ·cases rest with
    |nil=>
     cases hq
     exact fun next Q hk=>Oper.wp_value (hex hr) (hk _ (List.mem_singleton.2 rfl) _ _ _ _ (At.refl hs hlt) ⟨_,rfl,rfl,trivial⟩)
    |cons y rest=>
     obtain⟨e,he,hn,_⟩:=h4 y.1 y.2 List.mem_cons_self;exact absurd (hall e he) hn
   obtain⟨k,t,hkt,hek,hre⟩:=h5 e he hns
   cases rest with
   |nil=>cases hkt
   |cons y rest=>
    simp only[Q6]at hq;subst hq;have hb01:Go.RowKit.Below w.heap.size w w1:=by
     rcases hw1 with rfl|rfl
     ·exact below_self _
     exact(below_self w).drew
    have hat1:At forb dom ρ st.get w nx dom ρ st.get w1 nx:=⟨Stp.grown hb01,hs.grown hb01,hlt,O1 _,fun _ _ h=>h⟩
    have hg1:w1.heap[g]? =some (.mapIter (some gm) clock seen clock):=by rcases hw1 with rfl|rfl<;>exact hg
    have hgm1:w1.heap[gm]? =some (.map ents clock):=by rcases hw1 with rfl|rfl<;>exact hgm
    have hwr:=wr_setO (ob':=.mapIter (some gm) clock (seen.push e.born) clock) hg1 (by intro c e f hc;cases hc);have hne:gm≠g:=fun e=>by rw[e,hg]at hgm;cases hgm
    have hbm:mb≠b:=fun e=>by rw[e,hl]at hmb;cases hmb
    have hstp:=Stp.write (dom:=dom) (ρ:=ρ) hl ha hwr (.iter mb kk ((y::rest).filter fun z=>!(z.1==k)) (some (k,t)));have hst:=hat1.stp.trans hstp;have hgw:(setO w1 g (.mapIter (some gm) clock (seen.push e.born) clock)).heap[gm]? =some (.map ents clock):=by rw[hwr.other gm hne];exact hgm1
    have same:∀e'∈ents.toList,e'.key= .int kk k→e'=e:=fun e' he' hk'=>nodup_key hnd he' he (hk'.trans hek.symm);have hsim:=hat1.sim.write hl (by simp) ha hwr (.iter mb kk ((y::rest).filter fun z=>!(z.1==k)) (some (k,t))) ⟨rfl,by rw[upS_ne hbm];exact hmb,gm,om,ents,clock,seen.push e.born,hm,hgw,setO_heap hg1,⟨hb2,hb1,hnd⟩,
     fun k' t' hk'=>by
      obtain⟨hmem,hne'⟩:=List.mem_filter.1 hk';obtain⟨e',he',hn',hk2,hr'⟩:=h4 k' t' hmem;refine⟨e',he',?_,hk2,RepT.ext hst.ext hst.same hr'⟩;simp only[Array.toList_push,List.mem_append,List.mem_singleton,not_or];refine⟨hn',fun hbb=>?_⟩
      have:e'=e:=by
       have h7:=find_born e' ents.toList hb1 he';have h8:=find_born e ents.toList hb1 he;rw[hbb]at h7;rw[h7]at h8;exact Option.some.inj h8
      subst this;rw[hk2]at hek
      cases hek
      simp at hne',
     fun e' he' hn'=>by
      simp only[Array.toList_push,List.mem_append,List.mem_singleton,not_or]at hn';obtain⟨k',t',hmem,hk2,hr'⟩:=h5 e' he' hn'.1;refine⟨k',t',List.mem_filter.2 ⟨hmem,?_⟩,hk2,RepT.ext hst.ext hst.same hr'⟩
      have:k'≠k:=fun e1=>by
       subst e1;exact hn'.2 (by rw[same e' he' hk2])
      simpa using this,
     fun k' t' hc=>by
      cases hc
      exact⟨e,he,by simp,hek,RepT.ext hst.ext hst.same hre⟩⟩
    have hat:At forb dom ρ st.get w nx dom ρ (upS st.get b (some (.iter mb kk ((y::rest).filter fun z=>!(z.1==k)) (some (k,t))))) _ nx:=⟨hst,hsim,hlt,O1 _,fun _ _ h=>h⟩;rw[←get_put_upS]at hat;intro next Q hk;refine Oper.wp_value (hex hr) (hk _ (List.mem_map.2 ⟨(k,t),hkt,rfl⟩) _ _ _ _ hat ⟨_,rfl,rfl,hek,?_,trivial⟩);have h9:=hst.ext (forb:=forb);rw[←get_put_upS]at h9;exact RepT.ext h9 hst.same hre
  cases hq
 cases hq
end
end Go.Eng.Run
noncomputable section
namespace Go.Eng.Run
open Go
def makeE (T:Tab)(ev:Operand→EV)(id:Nat)(op:Op):Option (EV×EB):=
 match op with
 |.alloc t=>(T t).map fun E=>(ec (.ptr id 0),.mem 1 (xz E.zero))
 |.box _ x=>match ev x with
  |.v tv=>some (ec (.ptr id 0),.mem 1 (cellsT tv))
  |_=>none
 |.buildSlice t len parts=>match T t with
  |some S=>match S.k with
   |.sl e=>match T e with
    |some E=>if E.zero.length=E.size∧0<E.size∧len*E.size≤16777216 then
      (match fillX (placesC E.size 0 len) (xz (zerosC E.zero len)) (parts.toList.map fun p=>(p.1,ev p.2))with
      |some cs=>if cs.length=len*E.size then some (ec (.own id E.size 0 len),.mem E.size cs)else none
      |none=>none)else none
    |none=>none
   |_=>none
  |none=>none
 |.makeSlice t l c=>match T t with
  |some S=>match S.k with
   |.sl e=>match T e with
    |some E=>match ev l,ev c with
     |.v (.one (.cl (.int _ ln))),.v (.one (.cl (.int _ cn)))=>if E.zero.length=E.size∧0<E.size∧0≤ln∧ln≤cn∧cn*E.bytes≤281474976710656∧cn≤9223372036854775807 then
       some (ec (.own id E.size 0 ln.toNat),.mem E.size (xz (zerosC E.zero cn.toNat)))else none
     |_,_=>none
    |none=>none
   |_=>none
  |none=>none
 |.makeMap _ none=>some (.v (.one (.mp id)),.map .i64 [])
 |_=>none
abbrev CallT:=FuncId→List EV→Sto→Nat→Option (List Oc)
def one1 (q:Option Oc):Option (List Oc):=q.map fun q=>[q]
def actE (P:Program)(T:Tab)(call:CallT)(ev:Operand→EV)(st:Sto)(nx:Nat)(o:Oper):Option (List Oc):=
 match o.op with
 |.store t x y=>match o.dst with
  |some _=>none
  |none=>match T t,stPlace (ev x),ev y with
   |some E,some (b,off),.v tv=>match st.get b with
    |some (.mem wd cs)=>if 0<E.size∧(cellsT tv).length=E.size∧off+E.size≤cs.length then some [(.un,st.put b (some (.mem wd (spliceX cs off (cellsT tv)))),nx)]else none
    |_=>none
   |_,_,_=>none
 |.call c=>match c.callee with
  |.builtin .append=>match c.args.toList,c.argTypes.toList with
   |[x,y],[t,t']=>one1 (append1 T ev st nx t t' x y)
   |_,_=>none
  |.builtin .clear=>match c.args.toList,c.argTypes.toList with
   |[x],[t]=>one1 (clear1 T ev st nx t x)
   |_,_=>none
  |.value g=>match ev g with
   |.v (.one (.fn f caps))=>call f (c.args.toList.map ev++caps.map ec) st nx
   |_=>none
  |_=>none
 |.insert t m k x=>one1 (upd1 P st nx t (ev m) (ev k) (ev x))
 |.mapUpdate t m k x=>one1 (upd1 P st nx t (ev m) (ev k) (ev x))
 |.range t x=>one1 (range1 P st nx t (ev x))
 |.next x false=>next1 st nx (ev x)
 |_=>none
section
variable {forb dom dom':Nat→Prop}{ρ ρ':Nat→Loc}{w w':World}{P:Program}{T:Tab}(hT:TabOk P T){n:Nat}{env:Nat→Option EV}{a:Act}{o:Oper}{r:EV}
def RepEL (ρ:Nat→Loc)(dom ok:Nat→Prop)(w:World):List EV→List Value→Prop
 |[],[]=>True
 |x::xs,v::vs=>RepE ρ dom ok w x v∧RepEL ρ dom ok w xs vs
 |_,_=>False
def CallOk (P:Program)(call:CallT):Prop:=
 ∀f args st nx outs,call f args st nx=some outs→Callable P f∧∀(forb dom:Nat→Prop) (ρ:Nat→Loc) (w:World) (vs:Array Value),SimE forb dom ρ st.get w→(∀b,dom b→b<nx)→RepEL ρ dom (okE forb ρ st.get w) w args vs.toList→
  Calls P f vs w fun e w'=>∃v,e= .returned v∧∃q∈outs,∃dom' ρ',At forb dom ρ st.get w nx dom' ρ' q.2.1.get w' q.2.2∧RepE ρ' dom' (okE forb ρ' q.2.1.get w') w' q.1 v
include hT in
theorem makeE_sound {S:Nat→Option EB}{id:Nat}{v:EV}{B:EB}(hs:SimE forb dom ρ S w)(h:EnvOk ρ dom (okE forb ρ S w) w n env a)(hid:¬dom id)(hr:makeE T (evO env) id o.op=some (v,B)):
  MkOk P o a w forb dom ρ S id v B:=by
 cases ho:o.op<;>rw [ho]at hr<;>simp only[makeE]at hr
 case alloc t=>
  obtain⟨E,hE,he⟩:=Option.map_eq_some_iff.1 hr
  cases he
  exact gAlloc hT hs hid ho hE
 case box t x=>
  split at hr
  ·rename_i tv hx;cases hr;exact gBox hs h hid ho hx
  cases hr
 case buildSlice t len parts=>
  split at hr
  ·rename_i S hS
   split at hr
   ·rename_i e hk
    split at hr
    ·rename_i E hE
     split at hr
     ·rename_i hc
      split at hr
      ·rename_i cs hf
       split at hr
       ·rename_i hcl;cases hr;exact gBuildSlice hT hs h hid ho hS hk hE hc.1 hc.2.1 hc.2.2 hf hcl
       cases hr
      cases hr
     cases hr
    cases hr
   cases hr
  cases hr
 case makeSlice t l c=>
  split at hr
  ·rename_i S hS
   split at hr
   ·rename_i e hk
    split at hr
    ·rename_i E hE
     split at hr
     ·rename_i kl ln kc cn hl hc
      split at hr
      ·rename_i hcond
       cases hr
       exact gMakeSlice hT hs h hid ho hS hk hE hcond.1 hcond.2.1 hl hc hcond.2.2.1 hcond.2.2.2.1 hcond.2.2.2.2.1 hcond.2.2.2.2.2
      cases hr
     cases hr
    cases hr
   cases hr
  cases hr
 case makeMap t r=>
  cases r with
  |none=>cases hr;exact gMakeMap hs hid ho
  |some r=>cases hr
 all_goals cases hr
theorem RepEL.append {ok:Nat→Prop}:∀{xs ys:List EV} {vs us:List Value},RepEL ρ dom ok w xs vs→RepEL ρ dom ok w ys us→RepEL ρ dom ok w (xs++ys) (vs++us)
 |[],_,[],_,_,h=>h
 |_::_,_,_::_,_,h,k=>⟨h.1,RepEL.append h.2 k⟩
 |[],_,_::_,_,h,_=>h.elim
 |_::_,_,[],_,h,_=>h.elim
theorem gCall {call:CallT}(hcall:CallOk P call){st:Sto}{nx:Nat}{c:Call}{g:Operand}{f:FuncId}{caps:List C}{outs:List Oc}(hs:SimE forb dom ρ st.get w)(h:EnvOk ρ dom (okE forb ρ st.get w) w n env a)(hlt:∀b,dom b→b<nx)(ho:o.op= .call c)(hc:c.callee= .value g)
  (hg:evO env g= .v (.one (.fn f caps))) (hr:call f (c.args.toList.map (evO env)++caps.map ec) st nx=some outs):Goes P o a w forb dom ρ st.get nx outs:=by
 obtain⟨hcb,hc2⟩:=hcall _ _ _ _ _ hr;have hgv:=h.ev g;rw[hg]at hgv;obtain⟨cs,hgv,hcs,hcr⟩:=hgv;have hrun:(execOp a.eval o).run P w= .ok (.enter f (c.args.map a.eval++cs)) w:=by
  unfold execOp;rw[ho];simp only[resolve,hc,Sem.run_bind,hgv,Deferred.ofValue,Sem.run_pure,Q7,invoke]
  have:=callFunc_run (w:=w) hcb (c.args.map a.eval++cs)
  simpa using this
 have hargs:RepEL ρ dom (okE forb ρ st.get w) w (c.args.toList.map (evO env)++caps.map ec) (c.args.map a.eval++cs).toList:=by
  rw[Array.toList_append,Array.toList_map];refine RepEL.append ?_ ?_
  ·have key:∀l:List Operand,RepEL ρ dom (okE forb ρ st.get w) w (l.map (evO env)) (l.map a.eval):=by
    intro l
    induction l with
    |nil=>trivial
    |cons x l ih=>exact⟨h.ev x,ih⟩
   exact key _
  have key:∀(l:List C) (vs:List Value),vs.length=l.length→(∀i,i<l.length→RepB ρ dom (okE forb ρ st.get w) w (l.getD i .any) (vs.getD i undef))→RepEL ρ dom (okE forb ρ st.get w) w (l.map ec) vs:=by
   intro l
   induction l with
   |nil=>intro vs hl _;rw[List.eq_nil_of_length_eq_zero hl];trivial
   |cons x l ih=>
    intro vs hl hi
    cases vs with
    |nil=>simp at hl
    |cons v vs=>exact⟨RepC.of_repB (show RepB ρ dom (okE forb ρ st.get w) w x v from by simpa using hi 0 (by simp)),ih vs (by simpa using hl) (fun i h=>by simpa using hi (i+1) (by simpa using h))⟩
  exact key caps cs.toList (by simpa using hcs) (fun i hi=>by
   have:=hcr i (by simpa using hi)
   simpa[Array.getD_eq_getD_getElem?,X7]using this)
 intro next Q hk;unfold Oper.wp;rw[hrun,Oper.upon_enter];refine Calls.mono (hc2 forb dom ρ w _ hs hlt hargs) fun e w' he=>?_;obtain⟨v,rfl,q,hq,dom',ρ',hat,hrv⟩:=he;exact hk q hq v w' dom' ρ' hat hrv
include hT in
theorem actE_sound {call:CallT}(hcall:CallOk P call){st:Sto}{nx:Nat}{outs:List Oc}(hs:SimE forb dom ρ st.get w)(h:EnvOk ρ dom (okE forb ρ st.get w) w n env a)(hlt:∀b,dom b→b<nx)(hr:actE P T call (evO env) st nx o=some outs):
  Goes P o a w forb dom ρ st.get nx outs:=by
 unfold actE at hr
 split at hr
 ·rename_i t x y ho
  split at hr
  ·cases hr
  rename_i hd
  split at hr
  ·rename_i E b off tv hE hx hy
   split at hr
   ·rename_i wd cs hl
    split at hr
    ·rename_i hc
     cases hr
     exact gStore hT hs h hlt ho hd hE hx hl hy hc.1 hc.2.1 hc.2.2
    cases hr
   cases hr
  cases hr
 ·rename_i c ho
  split at hr
  ·rename_i hcal
   split at hr
   ·rename_i x y t t' hx ht
    obtain⟨q,hq,rfl⟩:=Option.map_eq_some_iff.1 hr;exact gAppend hT hs h hlt ho hcal (Array.ext' hx) (Array.ext' ht) hq
   cases hr
  ·rename_i hcal
   split at hr
   ·rename_i x t hx ht
    obtain⟨q,hq,rfl⟩:=Option.map_eq_some_iff.1 hr;exact gClear hT hs h hlt ho hcal (Array.ext' hx) (Array.ext' ht) hq
   cases hr
  ·rename_i g hcal
   split at hr
   ·rename_i f caps hg
    exact gCall hcall hs h hlt ho hcal hg hr
   cases hr
  cases hr
 ·rename_i t m k x ho
  obtain⟨q,hq,rfl⟩:=Option.map_eq_some_iff.1 hr;exact gUpdate hs h hlt (.inl ho) hq
 ·rename_i t m k x ho
  obtain⟨q,hq,rfl⟩:=Option.map_eq_some_iff.1 hr;exact gUpdate hs h hlt (.inr ho) hq
 ·rename_i t x ho
  obtain⟨q,hq,rfl⟩:=Option.map_eq_some_iff.1 hr;exact gRange hs h hlt ho hq
 ·rename_i x ho
  exact gNext hs h hlt ho hr
 cases hr
def opE (P:Program)(T:Tab)(call:CallT)(env:Nat→Option EV)(st:Sto)(nx:Nat)(o:Oper):Option (List Oc):=
 bif isLk o.op then(lookE P T (evO env) st.get o.op).map fun r=>[(r,st,nx)]
 else match makeE T (evO env) nx o.op with
  |some (v,B)=>some [(v,st.put nx (some B),nx+1)]
  |none=>actE P T call (evO env) st nx o
include hT in
theorem opE_sound {call:CallT}(hcall:CallOk P call){st:Sto}{nx:Nat}{outs:List Oc}(hs:SimE forb dom ρ st.get w)(h:EnvOk ρ dom (okE forb ρ st.get w) w n env a)(hlt:∀b,dom b→b<nx)(hd:dstLt o n)(hr:opE P T call env st nx o=some outs):
  Goes P o a w forb dom ρ st.get nx outs:=by
 unfold opE at hr
 cases hk:isLk o.op<;>rw [hk]at hr<;>simp only[cond_true,cond_false]at hr
 ·split at hr
  ·rename_i v B hm
   cases hr
   intro next Q hk;refine makeE_sound hT hs h (fun hd=>Nat.lt_irrefl _ (hlt _ hd)) hm next Q fun val w' l h1 h2 h3=>?_;rw[←get_put_upS]at h1 h2 h3;exact hk _ (List.mem_singleton.2 rfl) val w' _ _ ⟨h1,h2,fun b hb=>hb.elim (fun hb=>Nat.lt_succ_of_lt (hlt b hb)) (fun hb=>by rw[hb];exact Nat.lt_succ_self _),Nat.le_succ _,fun b hb hd=>hd.elim (fun hd=>hd) (fun hd=>absurd hb (by rw[hd];exact Nat.lt_irrefl _))⟩ h3
  exact actE_sound hT hcall hs h hlt hr
 obtain⟨r,hl,rfl⟩:=Option.map_eq_some_iff.1 hr;exact Yl.goes hs hlt (lookE_sound hT hs h hd hl)
def putE (env:Tr EV)(d:Option Tmp)(v:EV):Tr EV:=
 match d with
 |none=>env
 |some d=>env.put d (some v)
theorem EnvOk.ext {ok ok':Nat→Prop}(h:EnvOk ρ dom ok w n env a)(hx:Ext ok ok' w w')(hs:Same dom dom' ρ ρ'):EnvOk ρ' dom' ok' w' n env a:=
 ⟨h.hd,h.hn,fun t e he=>RepE.ext hx hs (h.env t e he)⟩
theorem EnvOk.put {ok:Nat→Prop}{env:Tr EV}(h:EnvOk ρ dom ok w n env.get a){d:Option Tmp}(hd:∀t,d=some t→t<n){e:EV}{v:Value}(hr:RepE ρ dom ok w e v):EnvOk ρ dom ok w n (putE env d e).get (a.put d v):=by
 cases d with
 |none=>exact h
 |some d=>
  have hd:=hd d rfl;refine⟨h.hd,by simp[Act.put,h.hn],fun t e' he=>?_⟩;simp only[putE,Tr.get_put]at he
  by_cases ht:t=d
  ·subst ht;rw[if_pos rfl]at he
   cases he
   have:(a.put (some t) v).tmps.getD t undef=v:=by
    simp[Act.put,Array.getD_eq_getD_getElem?,Array.getElem?_setIfInBounds,h.hn,hd]
   rw[this];exact hr
  rw[if_neg ht]at he
  have:(a.put (some d) v).tmps.getD t undef=a.tmps.getD t undef:=by
   simp only[Act.put,Array.getD_eq_getD_getElem?];rw[Array.getElem?_setIfInBounds_ne (fun e=>ht e.symm)]
  rw[this];exact h.env t e' he
def guardE (ops:Array Oper)(env:Nat→Option EV)(o:Oper):Option Bool:=
 match o.guard with
 |none=>some true
 |some (g,want)=>match dstOf ops g with
  |some t=>match env t with
   |some (.v (.one (.cl (.bool b))))=>some (b==want)
   |some (.tup [])=>some false
   |_=>none
  |none=>none
theorem guardE_wanted {ok:Nat→Prop}{ops:Array Oper}{b:Bool}(h:EnvOk ρ dom ok w n env a)(hg:guardE ops env o=some b):Region.wanted o (yielded ops a.tmps)=b:=by
 unfold guardE at hg
 split at hg
 ·rename_i hgd;cases hg;exact wanted_none hgd
 rename_i g want hgd
 split at hg
 ·rename_i t ht
  have hd:(ops[g]?).bind (·.dst)=some t:=ht
  split at hg
  ·rename_i b' he
   cases hg
   have hr:a.tmps.getD t undef= .bool b':=h.env t _ he;have hy:yielded ops a.tmps g=some b':=by
    unfold yielded;simp only[hd,Option.bind_some,getD_bool hr]
   unfold Region.wanted;simp only[hgd,hy]
   cases b'<;>cases want<;>rfl
  ·rename_i he
   cases hg
   obtain⟨vs,hv,hl⟩:RepE ρ dom ok w (.tup []) (a.tmps.getD t undef):=h.env t _ he;have hy:yielded ops a.tmps g=none:=by
    unfold yielded;simp only[hd,Option.bind_some]
    cases ha:a.tmps[t]? with
    |none=>rfl
    |some v=>
     rw[Array.getD_eq_getD_getElem?,ha]at hv;simp only[Option.getD_some]at hv;rw[hv]
   unfold Region.wanted;simp only[hgd,hy]
   cases want<;>rfl
  cases hg
 cases hg
end
end Go.Eng.Run
noncomputable section
namespace Go.Eng.Run
open Go
section
variable {forb dom dom':Nat→Prop}{ρ ρ':Nat→Loc}{w w':World}{S SR S' SL:Nat→Option EB}{H:Nat→Prop}
def forbH (forb:Nat→Prop)(ρ:Nat→Loc)(S:Nat→Option EB)(H:Nat→Prop)(g:Nat):Prop:=forb g∨∃b B o,H b∧S b=some B∧(ρ b).addr=some (g,o)
theorem okE_hide (h1:∀b,H b→SR b=none)(h2:∀b,¬H b→SR b=S b)(g:Nat):okE (forbH forb ρ S H) ρ SR w g↔okE forb ρ S w g:=by
 constructor
 ·rintro⟨h3,h4,h5⟩;refine⟨h3,fun hf=>h4 (.inl hf),fun b B hb o ha=>?_⟩
  by_cases hH:H b
  ·exact h4 (.inr ⟨b,B,o,hH,hb,ha⟩)
  exact h5 b B (by rw[h2 b hH];exact hb) o ha
 rintro⟨h3,h4,h5⟩;refine⟨h3,fun hf=>?_,fun b B hb o ha=>?_⟩
 ·rcases hf with hf|⟨b,B,o,_,hb,ha⟩
  ·exact h4 hf
  exact h5 b B hb o ha
 by_cases hH:H b
 ·rw[h1 b hH]at hb;cases hb
 exact h5 b B (by rw[←h2 b hH];exact hb) o ha
theorem SimE.hide (hs:SimE forb dom ρ S w)(h1:∀b,H b→SR b=none)(h2:∀b,¬H b→SR b=S b)(hh:∀b,H b→S b≠some .held):SimE (forbH forb ρ S H) dom ρ SR w:=by
 have old:∀b B,SR b=some B→¬H b∧S b=some B:=fun b B hb=>by
  by_cases hH:H b
  ·rw[h1 b hH]at hb;cases hb
  exact⟨hH,by rw[←h2 b hH];exact hb⟩
 refine⟨fun b B hb=>?_,fun b B b' B' hb hb'=>hs.inj b B b' B' (old b B hb).2 (old b' B' hb').2,fun g hf=>?_,hs.adr⟩
 ·obtain⟨hH,hb'⟩:=old b B hb;obtain⟨hd,g,o,ha,hg,hf,hk⟩:=hs.own b B hb';refine⟨hd,g,o,ha,hg,fun hf'=>?_,BlkOk.ext (Ext.of_imp fun g hg=>(okE_hide h1 h2 g).2 hg) ⟨fun _ h=>h,fun _ _=>rfl⟩ rfl (fun b' hb'=>⟨?_,(hs.own b' _ hb').1,fun _ _ _=>rfl⟩) hk⟩
  ·rcases hf' with hf'|⟨b1,B1,o1,hH1,hb1,ha1⟩
   ·exact hf hf'
   exact hs.inj b B b1 B1 hb' hb1 (fun e=>hH (e▸hH1)) g o o1 ha ha1
  have:¬H b':=fun hH'=>hh b' hH' hb'
  rw[h2 b' this];exact hb'
 rcases hf with hf|⟨b,B,o,_,hb,ha⟩
 ·exact hs.wf g hf
 exact hs.lt hb ha
theorem SimE.back (hs:SimE forb dom ρ S w)(h1:∀b,H b→SR b=none)(h2:∀b,¬H b→SR b=S b)(hd:∀b,H b→dom b)(hh:∀b,H b→S b≠some .held)
  (hi:∀b mb kk r c,H b→S b≠some (.iter mb kk r c))
  (hst:Stp dom ρ SR w dom' ρ' S' w') (hs':SimE (forbH forb ρ S H) dom' ρ' S' w') (hl1:∀b,H b→SL b=S b) (hl2:∀b,¬H b→SL b=S' b):
  Stp dom ρ S w dom' ρ' SL w'∧SimE forb dom' ρ' SL w'∧∀g,okE forb ρ' SL w' g↔okE (forbH forb ρ S H) ρ' S' w' g:=by
 have hn:∀b,H b→S' b=none:=fun b hH=>by
  cases hb:S' b with
  |none=>rfl
  |some B=>
   obtain⟨B0,h0⟩:=hst.back b B hb (hd b hH);rw[h1 b hH]at h0;cases h0
 have hρ:∀b,H b→ρ' b=ρ b:=fun b hH=>hst.same.loc b (hd b hH);have keepH:∀b B g o,H b→S b=some B→(ρ b).addr=some (g,o)→w'.heap[g]? =w.heap[g]? :=fun b B g o hH hb ha=>
  hst.keep g (hs.lt hb ha) fun b' B' hb' o' ha'=>by
   by_cases hH':H b'
   ·rw[h1 b' hH']at hb';cases hb'
   rw[h2 b' hH']at hb';exact hs.inj b B b' B' hb hb' (fun e=>hH' (e▸hH)) g o o' ha ha'
 have hok:∀g,okE forb ρ' SL w' g↔okE (forbH forb ρ S H) ρ' S' w' g:=fun g=>by
  constructor
  ·rintro⟨h3,h4,h5⟩;refine⟨h3,fun hf=>?_,fun b B hb o ha=>?_⟩
   ·rcases hf with hf|⟨b,B,o,hH,hb,ha⟩
    ·exact h4 hf
    exact h5 b B (by rw[hl1 b hH];exact hb) o (by rw[hρ b hH];exact ha)
   have hH:¬H b:=fun hH=>by rw[hn b hH]at hb;cases hb
   exact h5 b B (by rw[hl2 b hH];exact hb) o ha
  rintro⟨h3,h4,h5⟩;refine⟨h3,fun hf=>h4 (.inl hf),fun b B hb o ha=>?_⟩
  by_cases hH:H b
  ·rw[hl1 b hH]at hb;rw[hρ b hH]at ha;exact h4 (.inr ⟨b,B,o,hH,hb,ha⟩)
  exact h5 b B (by rw[←hl2 b hH];exact hb) o ha
 have hstp:Stp dom ρ S w dom' ρ' SL w':=by
  refine⟨hst.same,hst.os,hst.tape,hst.output,hst.size,fun g hg hns=>hst.keep g hg fun b B hb o ha=>?_,hst.room,fun b B hb hdb=>?_,fun b B hb g o ha=>?_⟩
  ·by_cases hH:H b
   ·rw[h1 b hH]at hb;cases hb
   exact hns b B (by rw[←h2 b hH];exact hb) o ha
  ·by_cases hH:H b
   ·exact⟨B,by rw[←hl1 b hH];exact hb⟩
   obtain⟨B0,h0⟩:=hst.back b B (by rw[←hl2 b hH];exact hb) hdb;exact⟨B0,by rw[←h2 b hH];exact h0⟩
  by_cases hH:H b
  ·rw[hρ b hH]at ha;exact .inr ⟨b,B,o,by rw[←hl1 b hH];exact hb,ha⟩
  rcases hst.from_ b B (by rw[←hl2 b hH];exact hb) g o ha with h|⟨b0,B0,o0,h0,ha0⟩
  ·exact .inl h
  have hH0:¬H b0:=fun hH0=>by rw[h1 b0 hH0]at h0;cases h0
  exact .inr ⟨b0,B0,o0,by rw[←h2 b0 hH0];exact h0,ha0⟩
 refine⟨hstp,⟨fun b B hb=>?_,fun b1 B1 b2 B2 hb1 hb2 hbb g o1 o2 ha1 ha2=>?_,fun g hf=>Nat.lt_of_lt_of_le (hs.wf g hf) hst.size,hs'.adr⟩,hok⟩
 ·by_cases hH:H b
  ·rw[hl1 b hH]at hb;obtain⟨hdb,g,o,ha,hg,hf,hk⟩:=hs.own b B hb;refine⟨hst.same.dom b hdb,g,o,by rw[hρ b hH];exact ha,Nat.lt_of_lt_of_le hg hst.size,hf,?_⟩;rw[hρ b hH];have hx:Ext (okE forb ρ S w) (okE forb ρ' SL w') w w':=hstp.ext
   cases B with
   |held=>trivial
   |iter mb kk r c=>exact absurd hb (hi b mb kk r c hH)
   |mem wd cs=>
    obtain⟨h3,cur,e,h4,h5⟩:=hk;refine⟨h3,cur,e,by rw[keepH b _ g o hH hb ha];exact h4,fun j x hj=>?_⟩;obtain⟨u,hu,hr⟩:=h5 j x hj;exact⟨u,hu,RepX.ext hx hst.same hr⟩
   |map kk es=>
    obtain⟨h3,ents,clock,h4,h5,h6,h7,h8,h9⟩:=hk;refine⟨h3,ents,clock,by rw[keepH b _ g o hH hb ha];exact h4,h5,h6,h7,fun k t hk=>?_,h9⟩;obtain⟨e,he,hk',hr⟩:=h8 k t hk;exact⟨e,he,hk',RepT.ext hx hst.same hr⟩
  rw[hl2 b hH]at hb;obtain⟨hdb,g,o,ha,hg,hf,hk⟩:=hs'.own b B hb;refine⟨hdb,g,o,ha,hg,fun hf'=>hf (.inl hf'),BlkOk.ext (Ext.of_imp fun g hg=>(hok g).2 hg) ⟨fun _ h=>h,fun _ _=>rfl⟩ rfl (fun b' hb'=>⟨?_,(hs'.own b' _ hb').1,fun _ _ _=>rfl⟩) hk⟩;have hH':¬H b':=fun hH'=>by rw[hn b' hH']at hb';cases hb'
  rw[hl2 b' hH'];exact hb'
 have apart:∀b1 B1 b2 B2 o1 o2,H b1→¬H b2→SL b1=some B1→SL b2=some B2→(ρ' b1).addr=some (g,o1)→(ρ' b2).addr≠some (g,o2):=by
  intro b1 B1 b2 B2 o1 o2 hH1 hH2 hb1 hb2 ha1 ha2;rw[hl1 b1 hH1]at hb1;rw[hρ b1 hH1]at ha1;rw[hl2 b2 hH2]at hb2
  rcases hst.from_ b2 B2 hb2 g o2 ha2 with h|⟨b0,B0,o0,h0,ha0⟩
  ·have:=hs.lt hb1 ha1;omega
  have hH0:¬H b0:=fun hH0=>by rw[h1 b0 hH0]at h0;cases h0
  rw[h2 b0 hH0]at h0;exact hs.inj b1 B1 b0 B0 hb1 h0 (fun e=>hH0 (e▸hH1)) g o1 o0 ha1 ha0
 by_cases hH1:H b1<;>by_cases hH2:H b2
 ·rw[hl1 b1 hH1]at hb1;rw[hρ b1 hH1]at ha1;rw[hl1 b2 hH2]at hb2;rw[hρ b2 hH2]at ha2;exact hs.inj b1 B1 b2 B2 hb1 hb2 hbb g o1 o2 ha1 ha2
 ·exact apart b1 B1 b2 B2 o1 o2 hH1 hH2 hb1 hb2 ha1 ha2
 ·exact apart b2 B2 b1 B1 o2 o1 hH2 hH1 hb2 hb1 ha2 ha1
 rw[hl2 b1 hH1]at hb1;rw[hl2 b2 hH2]at hb2;exact hs'.inj b1 B1 b2 B2 hb1 hb2 hbb g o1 o2 ha1 ha2
end
def eqC:C→C→Bool
 |.any,.any=>true
 |.bool a,.bool b=>a==b
 |.int k n,.int k' m=>decide (k=k')&&decide (n=m)
 |.nil,.nil=>true
 |.own a b c d,.own a' b' c' d'=>a==a'&&b==b'&&c==c'&&d==d'
 |.ptr a b,.ptr a' b'=>a==a'&&b==b'
 |.eptr a b c d,.eptr a' b' c' d'=>a==a'&&b==b'&&c==c'&&d==d'
 |_,_=>false
def eqCL:List C→List C→Bool
 |[],[]=>true
 |a::l,b::m=>eqC a b&&eqCL l m
 |_,_=>false
mutual
def eqX:X→X→Bool
 |.cl a,y=>match y with
  |.cl b=>eqC a b
  |_=>false
 |.op w l,y=>match y with
  |.op w' m=>w==w'&&eqXL l m
  |_=>false
 |.oe w l i o,y=>match y with
  |.oe w' m i' o'=>w==w'&&i==i'&&o==o'&&eqXL l m
  |_=>false
 |.emp,y=>match y with
  |.emp=>true
  |_=>false
 |.fn f l,y=>match y with
  |.fn g m=>f==g&&eqCL l m
  |_=>false
 |.mp a,y=>match y with
  |.mp b=>a==b
  |_=>false
 |.nilmp,y=>match y with
  |.nilmp=>true
  |_=>false
def eqXL:List X→List X→Bool
 |[],m=>match m with
  |[]=>true
  |_=>false
 |a::l,m=>match m with
  |b::m=>eqX a b&&eqXL l m
  |[]=>false
end
def eqT:TV→TV→Bool
 |.one a,.one b=>eqX a b
 |.agg a,.agg b=>eqXL a b
 |_,_=>false
def eqKL:List (Int×TV)→List (Int×TV)→Bool
 |[],[]=>true
 |a::l,b::m=>decide (a.1=b.1)&&eqT a.2 b.2&&eqKL l m
 |_,_=>false
def eqB:Option EB→Option EB→Bool
 |none,none=>true
 |some (.mem w l),some (.mem w' m)=>w==w'&&eqXL l m
 |some (.map k l),some (.map k' m)=>decide (k=k')&&eqKL l m
 |some .held,some .held=>true
 |_,_=>false
theorem eqC_eq {a b:C}(h:eqC a b=true):a=b:=by
 cases a<;>cases b<;>simp [eqC]at h<;>simp_all
theorem eqCL_eq:∀{a b:List C},eqCL a b=true→a=b
 |[],[],_=>rfl
 |x::a,y::b,h=>by simp only[eqCL,Bool.and_eq_true]at h;rw[eqC_eq h.1,eqCL_eq h.2]
 |[],_::_,h=>by simp[eqCL]at h
 |_::_,[],h=>by simp[eqCL]at h
mutual
theorem eqX_eq:∀(a b:X),eqX a b=true→a=b
 |.cl a,b,h=>by
  cases b<;>simp [eqX]at h
  rw[eqC_eq h]
 |.op w l,b,h=>by
  cases b<;>simp [eqX]at h
  rw[h.1,eqXL_eq _ _ h.2]
 |.oe w l i o,b,h=>by
  cases b<;>simp [eqX]at h
  rw[h.1.1.1,h.1.1.2,h.1.2,eqXL_eq _ _ h.2]
 |.emp,b,h=>by cases b<;>simp [eqX]at h;rfl
 |.fn f l,b,h=>by
  cases b<;>simp [eqX]at h
  rw[h.1,eqCL_eq h.2]
 |.mp c,b,h=>by
  cases b<;>simp [eqX]at h
  rw[h]
 |.nilmp,b,h=>by cases b<;>simp [eqX]at h;rfl
theorem eqXL_eq:∀(a b:List X),eqXL a b=true→a=b
 |[],b,h=>by cases b<;>simp [eqXL]at h;rfl
 |x::a,b,h=>by
  cases b<;>simp [eqXL]at h
  rw[eqX_eq _ _ h.1,eqXL_eq _ _ h.2]
end
theorem eqT_eq {a b:TV}(h:eqT a b=true):a=b:=by
 cases a<;>cases b<;>simp [eqT]at h
 ·rw[eqX_eq _ _ h]
 rw[eqXL_eq _ _ h]
theorem eqKL_eq:∀{a b:List (Int×TV)},eqKL a b=true→a=b
 |[],[],_=>rfl
 |x::a,y::b,h=>by
  simp only[eqKL,Bool.and_eq_true,decide_eq_true_eq]at h;rw[eqKL_eq h.2]
  congr 1
  exact Prod.ext h.1.1 (eqT_eq h.1.2)
 |[],_::_,h=>by simp[eqKL]at h
 |_::_,[],h=>by simp[eqKL]at h
theorem eqB_eq {a b:Option EB}(h:eqB a b=true):a=b:=by
 unfold eqB at h
 split at h
 ·rfl
 ·simp only[Bool.and_eq_true,beq_iff_eq]at h;rw[h.1,eqXL_eq _ _ h.2]
 ·simp only[Bool.and_eq_true,decide_eq_true_eq]at h;rw[h.1,eqKL_eq h.2]
 ·rfl
 cases h
end Go.Eng.Run
noncomputable section
namespace Go.Eng.Run
open Go
structure Em where
 i:Nat
 md:Option Nat
 rd:Option Nat
structure Dr where
 E:List Em
 env:Tr EV
 st:Sto
 nx:Nat
def inE (E:List Em)(i:Nat):Bool:=E.any fun m=>m.i==i
def gTmp (ops:Array Oper)(o:Oper):Option Tmp:=
 match o.guard with
 |some (g,_)=>dstOf ops g
 |none=>none
def vwE (ops:Array Oper)(o:Oper)(i:Nat)(env env0:Tr EV)(t:Tmp):Option EV:=
 if(tmpsOf o).contains t||gTmp ops o==some t then(if(preds ops i).any (fun j=>dstOf ops j==some t)then env.get t else env0.get t)else none
def isActO (op:Op):Bool:=
 match op with
 |.store _ _ _=>true
 |.call c=>(argc c).isNone
 |.insert _ _ _ _=>true
 |.mapUpdate _ _ _ _=>true
 |.mapEntry _ _ _=>true
 |.entryStore _ _ _ _=>true
 |.next _ _=>true
 |_=>false
def rdFine (ops:Array Oper)(i:Nat)(E:List Em)(rd:Option Nat):Bool:=
 match rd with
 |none=>true
 |some b=>E.all fun m=>m.md !=some b||closes ops ops.size i m.i
def emit (P:Program)(T:Tab)(ops:Array Oper)(env0:Tr EV)(i:Nat)(D:Dr):Option Dr:=
 match ops[i]? with
 |none=>none
 |some o=>match guardE ops (vwE ops o i D.env env0) o with
  |none=>none
  |some false=>some ⟨⟨i,none,none⟩::D.E,putE D.env o.dst (.tup []),D.st,D.nx⟩
  |some true=>match lookE P T (evO (vwE ops o i D.env env0)) D.st.get o.op with
   |some r=>if rdFine ops i D.E (rdOf (evO (vwE ops o i D.env env0)) o.op)then some ⟨⟨i,none,rdOf (evO (vwE ops o i D.env env0)) o.op⟩::D.E,putE D.env o.dst r,D.st,D.nx⟩else none
   |none=>match makeE T (evO (vwE ops o i D.env env0)) D.nx o.op with
    |some (v,B)=>some ⟨⟨i,some D.nx,none⟩::D.E,putE D.env o.dst v,D.st.put D.nx (some B),D.nx+1⟩
    |none=>none
def emitAll (P:Program)(T:Tab)(ops:Array Oper)(env0:Tr EV):List Nat→Dr→Option Dr
 |[],D=>some D
 |i::is,D=>if inE D.E i then emitAll P T ops env0 is D else match ops[i]? with
  |none=>none
  |some o=>if isActO o.op then emitAll P T ops env0 is D else if(preds ops i).all (inE D.E)then(emit P T ops env0 i D).bind (emitAll P T ops env0 is)else emitAll P T ops env0 is D
def hidL (ops:Array Oper)(x:Nat)(E:List Em):List Nat:=
 E.filterMap fun m=>match m.md with
  |some b=>if closes ops ops.size x m.i then none else some b
  |none=>none
def hideT (st:Sto)(l:List Nat):Sto:=l.foldl (fun s b=>s.put b none) st
def backT (st0 st:Sto)(l:List Nat):Sto:=l.foldl (fun s b=>s.put b (st0.get b)) st
def memB:Option EB→Bool
 |none=>true
 |some (.mem _ _)=>true
 |some (.map _ _)=>true
 |_=>false
def lookOk (ops:Array Oper)(x:Nat)(E:List Em)(st st':Sto):Bool:=
 E.all fun m=>match m.rd with
  |some b=>closes ops ops.size x m.i||eqB (st'.get b) (st.get b)
  |none=>true
def bindL {α β:Type}:List α→(α→Option (List β))→Option (List β)
 |[],_=>some []
 |x::xs,f=>match xs with
  |[]=>f x
  |_::_=>match f x,bindL xs f with
   |some l,some l'=>some (l++l')
   |_,_=>none
abbrev Os:=Tr EV×Sto×Nat
def drawGo (P:Program)(T:Tab)(call:CallT)(ops:Array Oper)(env0:Tr EV):Nat→Dr→Option (List Os)
 |0,_=>none
 |f+1,D=>(emitAll P T ops env0 (List.range ops.size) D).bind fun D=>match(List.range ops.size).find? (fun i=>!inE D.E i)with
  |none=>some [(D.env,D.st,D.nx)]
  |some _=>bindL ((List.range ops.size).filter fun x=>!inE D.E x&&(preds ops x).all (inE D.E)) fun x=>match ops[x]? with
   |none=>none
   |some o=>if(hidL ops x D.E).all (fun b=>memB (D.st.get b))then
     (match guardE ops (vwE ops o x D.env env0) o with
     |none=>none
     |some false=>drawGo P T call ops env0 f ⟨⟨x,none,none⟩::D.E,putE D.env o.dst (.tup []),D.st,D.nx⟩
     |some true=>(actE P T call (evO (vwE ops o x D.env env0)) (hideT D.st (hidL ops x D.E)) D.nx o).bind fun outs=>bindL outs fun q=>
       if lookOk ops x D.E D.st (backT D.st q.2.1 (hidL ops x D.E))then drawGo P T call ops env0 f ⟨⟨x,none,none⟩::D.E,putE D.env o.dst q.1,backT D.st q.2.1 (hidL ops x D.E),q.2.2⟩else none)else none
def drawSt (ops:Array Oper)(n:Nat):Bool:=
 (List.range ops.size).all fun i=>match ops[i]? with
  |none=>false
  |some o=>(dstB o n&&(preds ops i).all (fun p=>decide (p<i)))&&((List.range ops.size).all (fun j=>j==i||(dstOf ops j).isNone||dstOf ops j !=dstOf ops i)&&
   (
    (tmpsOf o++(gTmp ops o).toList).all (fun t=>(List.range ops.size).all fun j=>dstOf ops j !=some t||((preds ops i).contains j||closes ops ops.size j i))&&
    (
    match o.guard with
    |none=>true
    |some (g,_)=>(preds ops i).contains g)))
structure DrawSt (ops:Array Oper) (n:Nat):Prop where
 dst:∀(i:Nat) (o:Oper),ops[i]? =some o→dstLt o n
 uniq:∀i j t,dstOf ops i=some t→dstOf ops j=some t→i=j
 pred:∀(i:Nat) (o:Oper),ops[i]? =some o→∀p∈preds ops i,p<i
 data:∀(i:Nat) (o:Oper) (t j:Nat),ops[i]? =some o→t∈tmpsOf o∨gTmp ops o=some t→dstOf ops j=some t→j∈preds ops i∨closes ops ops.size j i=true
theorem dstOf_lt {ops:Array Oper}{j:Nat}{t:Tmp}(h:dstOf ops j=some t):j<ops.size:=by
 unfold dstOf at h
 cases ho:ops[j]? with
 |none=>rw[ho]at h;cases h
 |some o=>exact(Array.getElem?_eq_some_iff.1 ho).1
theorem drawSt_spec {ops:Array Oper}{n:Nat}(h:drawSt ops n=true):DrawSt ops n:=by
 unfold drawSt at h;simp only[List.all_eq_true,List.mem_range]at h
 have hi:∀(i:Nat) (o:Oper),ops[i]? =some o→(dstB o n=true∧∀p∈preds ops i,p<i)∧(List.range ops.size).all (fun j=>j==i||(dstOf ops j).isNone||dstOf ops j !=dstOf ops i)=true∧
   (tmpsOf o++(gTmp ops o).toList).all (fun t=>(List.range ops.size).all fun j=>dstOf ops j !=some t||((preds ops i).contains j||closes ops ops.size j i))=true:=fun i o ho=>by
  have:=h i (Array.getElem?_eq_some_iff.1 ho).1
  rw[ho]at this;simp only[Bool.and_eq_true]at this;exact⟨⟨this.1.1,fun p hp=>by simpa using List.all_eq_true.1 this.1.2 p hp⟩,this.2.1,this.2.2.1⟩
 refine⟨fun i o ho=>?_,fun i j t h1 h2=>?_,fun i o ho=>(hi i o ho).1.2,fun i o t j ho ht hj=>?_⟩
 ·exact dstB_lt (hi i o ho).1.1
 ·have hil:=dstOf_lt h1;have hjl:=dstOf_lt h2
  have:=(hi i _ (Array.getElem?_eq_getElem hil)).2.1
  simp only[List.all_eq_true,List.mem_range]at this
  have:=this j hjl
  rw[h1,h2]at this;simp at this;exact this.symm
 have:=(hi i o ho).2.2
 simp only[List.all_eq_true,List.mem_range]at this
 have:=this t (by
  rw[List.mem_append]
  rcases ht with ht|ht
  ·exact .inl ht
  exact .inr (by rw[ht];simp)) j (dstOf_lt hj)
 rw[hj]at this
 simpa using this
theorem hideT_get:∀(l:List Nat) (st:Sto) (b:Nat),(hideT st l).get b=if b∈l then none else st.get b
 |[],st,b=>by simp[hideT]
 |x::l,st,b=>by
  have:=hideT_get l (st.put x none) b
  simp only[hideT,List.foldl_cons]at this⊢;rw[this,Tr.get_put]
  by_cases h1:b∈l
  ·simp[h1]
  by_cases h2:b=x
  ·simp[h2]
  simp[h1,h2]
theorem backT_get:∀(l:List Nat) (st0 st:Sto) (b:Nat),(backT st0 st l).get b=if b∈l then st0.get b else st.get b
 |[],st0,st,b=>by simp[backT]
 |x::l,st0,st,b=>by
  have:=backT_get l st0 (st.put x (st0.get x)) b
  simp only[backT,List.foldl_cons]at this⊢;rw[this,Tr.get_put]
  by_cases h1:b∈l
  ·simp[h1]
  by_cases h2:b=x
  ·simp[h2]
  simp[h1,h2]
theorem bindL_mem {α β:Type}{f:α→Option (List β)}:∀{xs:List α} {L:List β},bindL xs f=some L→∀x∈xs,∃l,f x=some l∧∀y∈l,y∈L
 |[],L,_,x,hx=>by cases hx
 |x0::xs,L,h,x,hx=>by
  cases xs with
  |nil=>
   simp only[bindL]at h
   rcases List.mem_cons.1 hx with rfl|hx
   ·exact⟨L,h,fun y hy=>hy⟩
   cases hx
  |cons x1 xs=>
  have h:(match f x0,bindL (x1::xs) f with
   |some l,some l'=>some (l++l')
   |_,_=>none)=some L:=h
  split at h
  ·rename_i l l' h1 h2
   cases h
   rcases List.mem_cons.1 hx with rfl|hx
   ·exact⟨l,h1,fun y hy=>List.mem_append_left _ hy⟩
   obtain⟨l2,h3,h4⟩:=bindL_mem h2 x hx;exact⟨l2,h3,fun y hy=>List.mem_append_right _ (h4 y hy)⟩
  cases h
theorem bindL_cons {α β:Type}{f:α→Option (List β)}{x:α}{xs:List α}{L:List β}:bindL (x::xs) f=some L↔∃l l',f x=some l∧bindL xs f=some l'∧L=l++l':=by
 cases xs with
 |nil=>
  constructor
  ·intro h;exact⟨L,[],h,rfl,by simp⟩
  rintro⟨l,l',h1,h2,rfl⟩
  cases h2
  rw[List.append_nil];exact h1
 |cons y ys=>
  constructor
  ·intro h;have h:(match f x,bindL (y::ys) f with
    |some l,some l'=>some (l++l')
    |_,_=>none)=some L:=h
   split at h
   ·rename_i l l' e1 e2;cases h;exact⟨l,l',e1,e2,rfl⟩
   cases h
  rintro⟨l,l',h1,h2,rfl⟩
  show(match f x,bindL (y::ys) f with
   |some l,some l'=>some (l++l')
   |_,_=>none)=_
  rw[h1,h2]
theorem bindL_mono {α β:Type}{g g':α→Option (List β)}(hgg:∀q L,g q=some L→g' q=some L):∀{xs:List α} {L:List β},bindL xs g=some L→bindL xs g'=some L
 |[],_,h=>h
 |[x],_,h=>hgg _ _ h
 |x::y::ys,L,h=>by
  have h:(match g x,bindL (y::ys) g with
   |some l,some l'=>some (l++l')
   |_,_=>none)=some L:=h
  show(match g' x,bindL (y::ys) g' with
   |some l,some l'=>some (l++l')
   |_,_=>none)=some L
  split at h
  ·rename_i l l' e1 e2
   rw[hgg _ _ e1,bindL_mono hgg e2];exact h
  cases h
theorem inE_iff {E:List Em}{i:Nat}:inE E i=true↔∃m∈E,m.i=i:=by simp[inE]
section
theorem lookE_congr {P:Program}{T:Tab}{ev:Operand→EV}{S S':Nat→Option EB}{op:Op}{r:EV}(h:lookE P T ev S op=some r)(hb:∀b B,rdOf ev op=some b→S b=some B→S' b=S b):lookE P T ev S' op=some r∧∀b,rdOf ev op=some b→∃B,S b=some B:=by
 cases op<;>simp only[lookE,decL]at h⊢<;>first|exact ⟨h,fun b hb=>by simp[rdOf]at hb⟩|skip
 case binOp op t x y t'=>
  refine⟨?_,fun b hb=>by simp[rdOf]at hb⟩
  split at h<;>rename_i hc
  ·rw[if_pos hc];exact h
  rw[if_neg hc];exact h
 case call c=>
  refine⟨?_,fun b hb=>by simp[rdOf]at hb⟩
  split at h
  ·exact h
  exact h
 case slice t x lo hi mx=>
  cases mx with
  |none=>
   simp only[rdOf]at hb⊢;simp only at h
   split at h
   ·rename_i wd cs hx;rw[hx];exact⟨h,fun b hb=>by cases hb⟩
   ·rename_i b off hx
    rw[hx]at hb⊢;have hb:=hb b;simp only[plOf,true_implies]at hb⊢
    split at h
    ·rename_i hn
     simp only[hn,if_true];obtain⟨B,hB⟩:∃B,S b=some B:=by
      cases hSb:S b with
      |some B=>exact⟨B,rfl⟩
      |none=>
       unfold sliceA at h;simp only[hSb]at h
       split at h
       ·split at h
        ·split at h<;>cases h
        cases h
       cases h
     refine⟨?_,fun b' hb'=>by cases hb';exact⟨B,hB⟩⟩
     have:=hb B hB
     unfold sliceA at h⊢;simp only[this];exact h
    cases h
   ·rename_i c hx hx2
    rw[hx2];refine⟨h,fun b hb=>?_⟩
    exfalso
    unfold slice1 at h;simp only[hx2]at h
    cases c<;>simp only[plOf]at hb<;>first|cases hb|skip
    ·exact hx _ _ rfl
    split at h
    ·split at h
     ·split at h<;>cases h
     cases h
    cases h
   cases h
  |some m=>
   refine⟨?_,fun b hb=>by simp[rdOf]at hb⟩
   cases hi with
   |none=>exact h
   |some hi=>exact h
 case lookup t x i ok=>
  obtain⟨b,hb1,h⟩:=Option.bind_eq_some_iff.1 h;obtain⟨B,hl,h⟩:=Option.bind_eq_some_iff.1 h;refine⟨?_,fun b' hb'=>?_⟩
  ·rw[hb1];simp only[Option.bind_some];rw[hb b B hb1 hl,hl];exact h
  simp only[rdOf]at hb';rw[hb1]at hb'
  cases hb'
  exact⟨B,hl⟩
 case entry x=>
  split at h
  ·rename_i b hx
   obtain⟨B,hl,h⟩:=Option.bind_eq_some_iff.1 h;have hb1:rdOf ev (.entry x)=some b:=by simp only[rdOf,hx,plOf]
   refine⟨?_,fun b' hb'=>?_⟩
   ·rw[hb b B hb1 hl,hl];exact h
   rw[hb1]at hb'
   cases hb'
   exact⟨B,hl⟩
  cases h
 case load t x=>
  split at h
  ·rename_i wd cs i off hx
   refine⟨h,fun b hb=>?_⟩;simp only[rdOf,hx,plOf]at hb
   cases hb
  rename_i hx
  obtain⟨b,hb1,h⟩:=Option.bind_eq_some_iff.1 h;obtain⟨B,hl,h⟩:=Option.bind_eq_some_iff.1 h;refine⟨?_,fun b' hb'=>?_⟩
  ·rw[hb1];simp only[Option.bind_some];rw[hb b B hb1 hl,hl];exact h
  simp only[rdOf]at hb';rw[hb1]at hb'
  cases hb'
  exact⟨B,hl⟩
end
section
variable (P:Program)(T:Tab)(n:Nat)(ops:Array Oper)(env0:Tr EV)(forb dom0:Nat→Prop)(ρ0:Nat→Loc)(S0:Nat→Option EB)(w0:World)(nx0:Nat)
def Fact (D:Dr)(m:Em):Prop:=
 ∃o,ops[m.i]? =some o∧
  (
  (guardE ops (vwE ops o m.i D.env env0) o=some false∧m.md=none∧m.rd=none∧∀d,o.dst=some d→D.env.get d=some (.tup []))∨
  (guardE ops (vwE ops o m.i D.env env0) o=some true∧m.md=none∧m.rd=rdOf (evO (vwE ops o m.i D.env env0)) o.op∧(∃r,lookE P T (evO (vwE ops o m.i D.env env0)) D.st.get o.op=some r∧∀d,o.dst=some d→D.env.get d=some r)∧
   ∀b,m.rd=some b→∀m'∈D.E,m'.md=some b→closes ops ops.size m.i m'.i=true)∨
  (guardE ops (vwE ops o m.i D.env env0) o=some true∧m.rd=none∧∃id v B,m.md=some id∧makeE T (evO (vwE ops o m.i D.env env0)) id o.op=some (v,B)∧(∀d,o.dst=some d→D.env.get d=some v)∧D.st.get id=some B))
def hidB (listed:Array Bool)(E:List Em)(b:Nat):Bool:=E.any fun m=>!listed.getD m.i false&&m.md==some b
def SLof (listed:Array Bool)(D:Dr)(b:Nat):Option EB:=if hidB listed D.E b then none else D.st.get b
def envLof (listed:Array Bool)(D:Dr)(t:Tmp):Option EV:=if D.E.any (fun m=>listed.getD m.i false&&dstOf ops m.i==some t)then D.env.get t else env0.get t
theorem hidB_iff {listed:Array Bool}{E:List Em}{b:Nat}:hidB listed E b=true↔∃m∈E,listed.getD m.i false=false∧m.md=some b:=by
 simp[hidB]
structure DI (listed:Array Bool) (D:Dr) (a:Act) (w:World):Prop where
 sub:∀i,listed.getD i false=true→inE D.E i=true
 inj:∀m∈D.E,∀m'∈D.E,m.i=m'.i→m=m'
 pre:∀m∈D.E,∀p∈preds ops m.i,inE D.E p=true
 mlt:∀m∈D.E,∀b,m.md=some b→nx0≤b∧b<D.nx
 mkn:∀m∈D.E,∀m'∈D.E,∀b,m.md=some b→m'.md=some b→m=m'
 slt:∀b B,D.st.get b=some B→b<D.nx
 fact:∀m∈D.E,listed.getD m.i false=false→Fact P T ops env0 D m
 base:∀t,(∀m∈D.E,dstOf ops m.i≠some t)→D.env.get t=env0.get t
 sim:∃dom ρ,SimE forb dom ρ (SLof listed D) w∧(∀b,dom b→b<D.nx∧hidB listed D.E b=false)∧Stp dom0 ρ0 S0 w0 dom ρ (SLof listed D) w∧
  EnvOk ρ dom (okE forb ρ (SLof listed D) w) w n (envLof ops env0 listed D) a∧nx0≤D.nx∧∀b,b<nx0→dom b→dom0 b
end
end Go.Eng.Run
noncomputable section
namespace Go.Eng.Run
open Go
theorem vwE_congr {ops:Array Oper}{o:Oper}{i:Nat}{env env' env0:Tr EV}(h:∀j∈preds ops i,∀t,dstOf ops j=some t→env.get t=env'.get t):vwE ops o i env env0=vwE ops o i env' env0:=by
 funext t
 unfold vwE
 split
 ·split
  ·rename_i hp
   obtain⟨j,hj,ht⟩:=List.any_eq_true.1 hp;exact h j hj t (by simpa using ht)
  rfl
 rfl
theorem putE_get {env:Tr EV}{d:Option Tmp}{v:EV}{t:Tmp}:(putE env d v).get t=if d=some t then some v else env.get t:=by
 cases d with
 |none=>simp[putE]
 |some d=>
  simp only[putE,Tr.get_put,Q6]
  by_cases h:t=d
  ·subst h;simp
  rw[if_neg h,if_neg (fun e=>h e.symm)]
section
variable {P:Program}{T:Tab}(hT:TabOk P T){n:Nat}{ops:Array Oper}{env0:Tr EV}{forb dom0:Nat→Prop}{ρ0:Nat→Loc}{S0:Nat→Option EB}{w0:World}{nx0:Nat}
variable (hst:DrawSt ops n){listed:Array Bool}{D:Dr}{a:Act}{w:World}
theorem dstOf_op {i:Nat}{o:Oper}(ho:ops[i]? =some o):dstOf ops i=o.dst:=by unfold dstOf;rw[ho];rfl
include hst in
theorem Fact.more {x:Nat}{o:Oper}(ho:ops[x]? =some o)(hx:inE D.E x=false){v:EV}{D':Dr}{m:Em}(hm:m∈D.E)(hpre:∀p∈preds ops m.i,inE D.E p=true)(henv:D'.env=putE D.env o.dst v)
  (hrd:∀b,m.rd=some b→∀B,D.st.get b=some B→D'.st.get b=D.st.get b) (hmk:∀b B,m.md=some b→D.st.get b=some B→D'.st.get b=D.st.get b)
  (hE:∀m'∈D'.E,m'∈D.E∨∀b,m'.md=some b→∀B,D.st.get b≠some B) (h:Fact P T ops env0 D m):Fact P T ops env0 D' m:=by
 obtain⟨o',ho',h⟩:=h;have hxm:x≠m.i:=fun e=>by
  have:inE D.E x=true:=inE_iff.2 ⟨m,hm,e.symm⟩
  rw[hx]at this;cases this
 have hvw:vwE ops o' m.i D'.env env0=vwE ops o' m.i D.env env0:=by
  refine vwE_congr fun j hj t ht=>?_;rw[henv,putE_get,if_neg];intro e
  have:x=j:=hst.uniq x j t (by rw[dstOf_op ho];exact e) ht
  subst this;rw[hpre x hj]at hx;cases hx
 have hd:∀d,o'.dst=some d→D'.env.get d=D.env.get d:=fun d hd=>by
  rw[henv,putE_get,if_neg];intro e;exact hxm (hst.uniq x m.i d (by rw[dstOf_op ho];exact e) (by rw[dstOf_op ho'];exact hd))
 refine⟨o',ho',?_⟩;rw[hvw]
 rcases h with⟨h1,h2,h3,h4⟩|⟨h1,h2,h3,⟨r,h4,h5⟩,h6⟩|⟨h1,h2,id,v',B,h3,h4,h5,h6⟩
 ·exact .inl ⟨h1,h2,h3,fun d e=>by rw[hd d e];exact h4 d e⟩
 ·obtain⟨h7,h8⟩:=lookE_congr (S':=D'.st.get) h4 (fun b B hb hB=>hrd b (by rw[h3];exact hb) B hB);refine .inr (.inl ⟨h1,h2,h3,⟨r,h7,fun d e=>by rw[hd d e];exact h5 d e⟩,fun b hb m' hm' hmb=>?_⟩)
  rcases hE m' hm' with h9|h9
  ·exact h6 b hb m' h9 hmb
  obtain⟨B,hB⟩:=h8 b (by rw[←h3];exact hb);exact absurd hB (h9 b hmb B)
 exact .inr (.inr ⟨h1,h2,id,v',B,h3,h4,fun d e=>by rw[hd d e];exact h5 d e,by rw[hmk id B h3 h6];exact h6⟩)
include hst in
theorem emit_DI {x:Nat}{D':Dr}(h:DI P T n ops env0 forb dom0 ρ0 S0 w0 nx0 listed D a w)(hx:inE D.E x=false)(hp:∀p∈preds ops x,inE D.E p=true)(he:emit P T ops env0 x D=some D'):
  DI P T n ops env0 forb dom0 ρ0 S0 w0 nx0 listed D' a w:=by
 have hlx:listed.getD x false=false:=by
  cases hl:listed.getD x false with
  |false=>rfl
  |true=>rw[h.sub x hl]at hx;cases hx
 unfold emit at he
 cases ho:ops[x]? with
 |none=>rw[ho]at he;cases he
 |some o=>
  rw[ho]at he;simp only at he
  -- what all three cases share
  have key:∀(m0:Em) (v:EV) (D':Dr),m0.i=x→D'.E=m0::D.E→D'.env=putE D.env o.dst v→D.nx≤D'.nx→
    (∀b,m0.md=some b→b=D.nx∧D'.nx=D.nx+1∧∃B,D'.st=D.st.put D.nx (some B))→(m0.md=none→D'.st=D.st)→
    Fact P T ops env0 D' m0→DI P T n ops env0 forb dom0 ρ0 S0 w0 nx0 listed D' a w:=by
   intro m0 v D' hi hE henv hnx hmk hmk0 hf;have hstm:(∃b B,m0.md=some b∧b=D.nx∧D'.nx=D.nx+1∧D'.st=D.st.put D.nx (some B))∨(m0.md=none∧D'.st=D.st):=by
    cases hm:m0.md with
    |none=>exact .inr ⟨rfl,hmk0 hm⟩
    |some b=>
     obtain⟨h1,h2,B,h3⟩:=hmk b hm;exact .inl ⟨b,B,rfl,h1,h2,h3⟩
   have hget:∀b,b≠D.nx→D'.st.get b=D.st.get b:=fun b hb=>by
    rcases hstm with⟨_,B,_,_,_,h3⟩|⟨_,h3⟩
    ·rw[h3,Tr.get_put,if_neg hb]
    rw[h3]
   have hhid:∀b,hidB listed D'.E b=true↔(m0.md=some b∨hidB listed D.E b=true):=fun b=>by
    rw[hE];simp only[hidB,List.any_cons,hi,hlx,Bool.not_false,Bool.true_and,Bool.or_eq_true,beq_iff_eq]
   have hSL:SLof listed D'=SLof listed D:=by
    funext b
    unfold SLof
    by_cases hb:b=D.nx
    ·have h0:D.st.get b=none:=by
      cases hg:D.st.get b with
      |none=>rfl
      |some B=>have:=h.slt b B hg;omega
     by_cases hh:hidB listed D'.E b=true
     ·rw[if_pos hh,h0];split<;>rfl
     have hh2:¬hidB listed D.E b=true:=fun e=>hh ((hhid b).2 (.inr e));rw[if_neg hh,if_neg hh2]
     rcases hstm with⟨b',B,h1,h2,_,h3⟩|⟨_,h3⟩
     ·exact absurd ((hhid b).2 (.inl (by rw[h1,h2,hb]))) hh
     rw[h3]
    rw[hget b hb]
    have:hidB listed D'.E b=hidB listed D.E b:=by
     rw[Bool.eq_iff_iff,hhid]
     constructor
     ·rintro(e|e)
      ·rcases hstm with⟨b',B,h1,h2,_,_⟩|⟨h1,_⟩
       ·rw[h1]at e;cases e;exact absurd h2 hb
       rw[h1]at e;cases e
      exact e
     exact .inr
    rw[this]
   have henvL:envLof ops env0 listed D'=envLof ops env0 listed D:=by
    funext t
    unfold envLof
    have:(D'.E.any fun m=>listed.getD m.i false&&dstOf ops m.i==some t)=(D.E.any fun m=>listed.getD m.i false&&dstOf ops m.i==some t):=by
     rw[hE,List.any_cons,hi,hlx,Bool.false_and,Bool.false_or]
    rw[this]
    split
    ·rename_i ht
     obtain⟨m,hm,hmt⟩:=List.any_eq_true.1 ht;simp only[Bool.and_eq_true,beq_iff_eq]at hmt;rw[henv,putE_get,if_neg];intro e
     have:x=m.i:=hst.uniq x m.i t (by rw[dstOf_op ho];exact e) hmt.2
     rw[←this,hlx]at hmt
     cases hmt.1
    rfl
   refine⟨fun i hl=>?_,fun m hm m' hm' e=>?_,fun m hm p hp'=>?_,fun m hm b hb=>?_,fun m hm m' hm' b hb hb'=>?_,fun b B hb=>?_,fun m hm hl=>?_,fun t ht=>?_,?_⟩
   ·have:=h.sub i hl
    rw[hE];simp only[inE,List.any_cons]at this⊢;rw[this];simp
   ·have hne:∀m∈D.E,m.i≠x:=fun m hm e=>by
     have:inE D.E x=true:=inE_iff.2 ⟨m,hm,e⟩
     rw[hx]at this;cases this
    rw[hE]at hm hm'
    rcases List.mem_cons.1 hm with rfl|hm1<;>rcases List.mem_cons.1 hm' with rfl|hm2
    ·rfl
    ·exact absurd (e.symm.trans hi) (hne m' hm2)
    ·exact absurd (e.trans hi) (hne m hm1)
    exact h.inj m hm1 m' hm2 e
   ·have old:∀p,inE D.E p=true→inE D'.E p=true:=fun p hp=>by
     rw[hE];simp only[inE,List.any_cons]at hp⊢;rw[hp];simp
    rw[hE]at hm
    rcases List.mem_cons.1 hm with rfl|hm
    ·rw[hi]at hp';exact old p (hp p hp')
    exact old p (h.pre m hm p hp')
   ·rw[hE]at hm
    rcases List.mem_cons.1 hm with rfl|hm
    ·obtain⟨h1,h2,_⟩:=hmk b hb;obtain⟨_,_,_,_,_,_,h5,_⟩:=h.sim;omega
    have:=h.mlt m hm b hb;omega
   ·rw[hE]at hm hm'
    rcases List.mem_cons.1 hm with rfl|hm1<;>rcases List.mem_cons.1 hm' with rfl|hm2
    ·rfl
    ·have h1:=(hmk b hb).1
     have:=h.mlt m' hm2 b hb'
     omega
    ·have h1:=(hmk b hb').1
     have:=h.mlt m hm1 b hb
     omega
    exact h.mkn m hm1 m' hm2 b hb hb'
   ·by_cases hbn:b=D.nx
    ·rcases hstm with⟨_,_,_,_,h2,_⟩|⟨_,h3⟩
     ·omega
     rw[h3]at hb;have:=h.slt b B hb;omega
    rw[hget b hbn]at hb;have:=h.slt b B hb;omega
   ·rw[hE]at hm
    rcases List.mem_cons.1 hm with rfl|hm
    ·exact hf
    refine Fact.more hst ho hx hm (h.pre m hm) henv (fun b _ B hB=>hget b (by have:=h.slt b B hB;omega)) (fun b B _ hB=>hget b (by have:=h.slt b B hB;omega)) (fun m' hm'=>?_) (h.fact m hm hl);rw[hE]at hm'
    rcases List.mem_cons.1 hm' with rfl|hm'
    ·exact .inr fun b hb B hB=>by
      have h1:=(hmk b hb).1
      have:=h.slt b B hB
      omega
    exact .inl hm'
   ·rw[henv,putE_get,if_neg]
    ·exact h.base t fun m hm=>ht m (by rw[hE];exact List.mem_cons_of_mem _ hm)
    intro e;exact ht m0 (by rw[hE];exact List.mem_cons_self) (by rw[hi,dstOf_op ho];exact e)
   obtain⟨dom,ρ,h1,h2,h3,h4,h5,h6⟩:=h.sim;rw[hSL,henvL];refine⟨dom,ρ,h1,fun b hb=>⟨Nat.lt_of_lt_of_le (h2 b hb).1 hnx,?_⟩,h3,h4,O0 h5 hnx,h6⟩
   cases hh:hidB listed D'.E b with
   |false=>rfl
   |true=>
    rcases(hhid b).1 hh with e|e
    ·have:=(hmk b e).1
     have:=(h2 b hb).1
     omega
    rw[(h2 b hb).2]at e;cases e
  have hvw:∀v,vwE ops o x (putE D.env o.dst v) env0=vwE ops o x D.env env0:=fun v=>by
   refine vwE_congr fun j hj t ht=>?_;rw[putE_get,if_neg];intro e
   have:x=j:=hst.uniq x j t (by rw[dstOf_op ho];exact e) ht
   subst this;rw[hp x hj]at hx;cases hx
  have hpd:∀v d,o.dst=some d→(putE D.env o.dst v).get d=some v:=fun v d e=>by rw[putE_get,if_pos e]
  split at he
  ·cases he
  ·rename_i hg
   cases he
   exact key ⟨x,none,none⟩ _ _ rfl rfl rfl (O1 _) (fun b hb=>by cases hb) (fun _=>rfl) ⟨o,ho,.inl ⟨by rw[hvw];exact hg,rfl,rfl,hpd _⟩⟩
  rename_i hg
  split at he
  ·rename_i r hl
   split at he
   ·rename_i hrd
    cases he
    refine key ⟨x,none,_⟩ _ _ rfl rfl rfl (O1 _) (fun b hb=>by cases hb) (fun _=>rfl) ⟨o,ho,.inr (.inl ⟨by rw[hvw];exact hg,rfl,by rw[hvw],⟨r,by rw[hvw];exact hl,hpd _⟩,fun b hb m' hm' hmb=>?_⟩)⟩;have hb:rdOf (evO (vwE ops o x D.env env0)) o.op=some b:=hb
    rcases List.mem_cons.1 hm' with rfl|hm'
    ·cases hmb
    rw[hb]at hrd
    have:=List.all_eq_true.1 hrd m' hm'
    simpa[hmb]using this
   cases he
  split at he
  ·rename_i v B hm
   cases he
   exact key ⟨x,some D.nx,none⟩ _ _ rfl rfl rfl (Nat.le_succ _) (fun b hb=>by cases hb;exact⟨rfl,rfl,B,rfl⟩) (fun e=>by cases e)
    ⟨o,ho,.inr (.inr ⟨by rw[hvw];exact hg,rfl,D.nx,v,B,rfl,by rw[hvw];exact hm,hpd _,by rw[Tr.get_put,if_pos rfl]⟩)⟩
  cases he
include hst in
theorem emitAll_DI:∀(is:List Nat) (D D':Dr),DI P T n ops env0 forb dom0 ρ0 S0 w0 nx0 listed D a w→emitAll P T ops env0 is D=some D'→DI P T n ops env0 forb dom0 ρ0 S0 w0 nx0 listed D' a w
 |[],D,D',h,he=>by cases he;exact h
 |i::is,D,D',h,he=>by
  simp only[emitAll]at he
  split at he
  ·exact emitAll_DI is D D' h he
  rename_i hin
  split at he
  ·cases he
  split at he
  ·exact emitAll_DI is D D' h he
  split at he
  ·rename_i hp
   obtain⟨D1,h1,h2⟩:=Option.bind_eq_some_iff.1 he;exact emitAll_DI is D1 D' (emit_DI hst h (by simpa using hin) (fun p hp'=>by simpa using List.all_eq_true.1 hp p hp') h1) h2
  exact emitAll_DI is D D' h he
end
end Go.Eng.Run
noncomputable section
namespace Go.Eng.Run
open Go
section
variable {P:Program}{T:Tab}(hT:TabOk P T){n:Nat}{ops:Array Oper}{env0:Tr EV}{forb dom0:Nat→Prop}{ρ0:Nat→Loc}{S0:Nat→Option EB}{w0:World}{nx0:Nat}
variable (hst:DrawSt ops n){listed:Array Bool}{D:Dr}{a:Act}{w:World}
theorem EnvOk.put' {ρ:Nat→Loc}{dom ok:Nat→Prop}{env env':Nat→Option EV}(h:EnvOk ρ dom ok w n env a){d:Option Tmp}(hd:∀t,d=some t→t<n){r:EV}{v:Value}(hr:RepE ρ dom ok w r v)
  (he:∀t e,env' t=some e→(d=some t∧e=r)∨(d≠some t∧env t=some e)):EnvOk ρ dom ok w n env' (a.put d v):=by
 refine⟨by cases d<;>exact h.hd,by cases d<;>simp [Act.put,h.hn],fun t e hte=>?_⟩
 rcases he t e hte with⟨rfl,rfl⟩|⟨hne,h1⟩
 ·have:(a.put (some t) v).tmps.getD t undef=v:=by
   simp[Act.put,Array.getD_eq_getD_getElem?,Array.getElem?_setIfInBounds,h.hn,hd t rfl]
  rw[this];exact hr
 have:(a.put d v).tmps.getD t undef=a.tmps.getD t undef:=by
  cases d with
  |none=>rfl
  |some d=>
   simp only[Act.put,Array.getD_eq_getD_getElem?];rw[Array.getElem?_setIfInBounds_ne (fun e=>hne (by rw[e]))]
 rw[this];exact h.env t e h1
include hst in
theorem vw_env {ρ:Nat→Loc}{dom ok:Nat→Prop}{i:Nat}{o:Oper}(ho:ops[i]? =some o)(hdown:∀i,listed.getD i false=true→∀p∈preds ops i,listed.getD p false=true)(hp:∀p∈preds ops i,listed.getD p false=true)(hu:listed.getD i false=false)
  (hsub:∀i,listed.getD i false=true→inE D.E i=true) (h:EnvOk ρ dom ok w n (envLof ops env0 listed D) a):EnvOk ρ dom ok w n (vwE ops o i D.env env0) a:=by
 refine⟨h.hd,h.hn,fun t e hte=>?_⟩;unfold vwE at hte
 split at hte
 ·rename_i hin
  have hin:t∈tmpsOf o∨gTmp ops o=some t:=by simpa using hin
  split at hte
  ·rename_i hj
   obtain⟨j,hj,hjt⟩:=List.any_eq_true.1 hj;refine h.env t e ?_;unfold envLof;rw[if_pos]
   ·exact hte
   obtain⟨m,hm,hmi⟩:=inE_iff.1 (hsub j (hp j hj));refine List.any_eq_true.2 ⟨m,hm,?_⟩;rw[hmi,hp j hj]
   simpa using hjt
  rename_i hj
  refine h.env t e ?_;unfold envLof;rw[if_neg]
  ·exact hte
  intro hany;obtain⟨m,hm,hmt⟩:=List.any_eq_true.1 hany;simp only[Bool.and_eq_true,beq_iff_eq]at hmt
  rcases hst.data i o t m.i ho hin hmt.2 with h1|h1
  ·exact hj (List.any_eq_true.2 ⟨m.i,h1,by simpa using hmt.2⟩)
  have:=closes_listed hdown ops.size m.i i (fun p hp=>hdown m.i hmt.1 p hp) h1
  rw[hu]at this;cases this
 cases hte
include hT hst in
theorem step_known {Q:Exit→Act→World→Prop}{next:Act→World→Prop}{m:Em}(hm:m∈D.E)(h:DI P T n ops env0 forb dom0 ρ0 S0 w0 nx0 listed D a w)(hlt:m.i<listed.size)
  (hdown:∀i,listed.getD i false=true→∀p∈preds ops i,listed.getD p false=true) (hp:∀p∈preds ops m.i,listed.getD p false=true) (hu:listed.getD m.i false=false)
  (hk:∀a' w',DI P T n ops env0 forb dom0 ρ0 S0 w0 nx0 (listed.setIfInBounds m.i true) D a' w'→next a' w'):wpOp P ops Q m.i next a w:=by
 obtain⟨dom,ρ,h1,h2,h3,h4,h5,h6⟩:=h.sim;obtain⟨o,ho,hf⟩:=h.fact m hm hu
 have hset:∀j,(listed.setIfInBounds m.i true).getD j false=(listed.getD j false||j==m.i):=fun j=>listed_set hlt
 have hvw:=vw_env hst ho hdown hp hu h.sub h4;have hdst:=hst.dst m.i o ho
 -- what all cases share
 have fin:∀(v:Value) (w':World) (dom':Nat→Prop) (ρ':Nat→Loc) (r:EV),SimE forb dom' ρ' (SLof (listed.setIfInBounds m.i true) D) w'→(∀b,dom' b→b<D.nx∧hidB (listed.setIfInBounds m.i true) D.E b=false)→
   Stp dom ρ (SLof listed D) w dom' ρ' (SLof (listed.setIfInBounds m.i true) D) w'→(∀b,b<nx0→dom' b→dom0 b)→RepE ρ' dom' (okE forb ρ' (SLof (listed.setIfInBounds m.i true) D) w') w' r v→(∀d,o.dst=some d→D.env.get d=some r)→next (a.put o.dst v) w':=by
  intro v w' dom' ρ' r g1 g2 g3 g4 g5 g6;refine hk _ _ ⟨fun i hl=>?_,h.inj,h.pre,h.mlt,h.mkn,h.slt,fun m' hm' hl=>h.fact m' hm' ?_,h.base,dom',ρ',g1,g2,h3.trans g3,?_,h5,g4⟩
  ·rw[hset]at hl
   rcases Bool.or_eq_true_iff.1 hl with hl|hl
   ·exact h.sub i hl
   exact inE_iff.2 ⟨m,hm,by simpa using(beq_iff_eq.1 hl).symm⟩
  ·rw[hset]at hl;exact(Bool.or_eq_false_iff.1 hl).1
  refine EnvOk.put' (h4.ext g3.ext g3.same) hdst g5 fun t e hte=>?_;unfold envLof at hte
  by_cases hdt:o.dst=some t
  ·refine .inl ⟨hdt,?_⟩;rw[if_pos]at hte
   ·rw[g6 t hdt]at hte;cases hte;rfl
   refine List.any_eq_true.2 ⟨m,hm,?_⟩;rw[hset]
   simp[dstOf_op ho,hdt]
  refine .inr ⟨hdt,?_⟩;unfold envLof
  have:(D.E.any fun m'=>listed.getD m'.i false&&dstOf ops m'.i==some t)=(D.E.any fun m'=>(listed.setIfInBounds m.i true).getD m'.i false&&dstOf ops m'.i==some t):=by
   refine List.any_congr rfl fun m'=>?_;rw[hset]
   by_cases e:m'.i=m.i
   ·rw[e,dstOf_op ho]
    have:(o.dst==some t)=false:=by simpa using hdt
    rw[this];simp
   have:(m'.i==m.i)=false:=by simpa using e
   rw[this,Bool.or_false]
  rw[this];exact hte
 have plain:m.md=none→SLof (listed.setIfInBounds m.i true) D=SLof listed D∧∀b,hidB (listed.setIfInBounds m.i true) D.E b=hidB listed D.E b:=by
  intro hmd
  have:∀b,hidB (listed.setIfInBounds m.i true) D.E b=hidB listed D.E b:=fun b=>by
   rw[Bool.eq_iff_iff,hidB_iff,hidB_iff]
   constructor
   ·rintro⟨m',hm',hl,hmb⟩;rw[hset]at hl;exact⟨m',hm',(Bool.or_eq_false_iff.1 hl).1,hmb⟩
   rintro⟨m',hm',hl,hmb⟩;refine⟨m',hm',?_,hmb⟩;rw[hset,hl,Bool.false_or]
   cases hb:m'.i==m.i with
   |false=>rfl
   |true=>
    have:=h.inj m' hm' m hm (beq_iff_eq.1 hb)
    rw[this,hmd]at hmb;cases hmb
  exact⟨funext fun b=>by unfold SLof;rw[this],this⟩
 have hb0:∀b,b<nx0→dom b→dom0 b:=h6;unfold wpOp
 try simp only[ho]
 rcases hf with⟨hg,hmd,_,hd⟩|⟨hg,hmd,hrd,⟨r,hl,hd⟩,hcl⟩|⟨hg,_,id,v,B,hmd,hmk,hd,hB⟩
 ·rw[guardE_wanted hvw hg,if_neg (by simp)];obtain⟨e1,e2⟩:=plain hmd;exact fin undef w dom ρ (.tup []) (by rw[e1];exact h1) (fun b hb=>by rw[e2];exact h2 b hb) (by rw[e1];exact Stp.refl) hb0 ⟨#[],rfl,trivial⟩ hd
 ·rw[guardE_wanted hvw hg,if_pos rfl];obtain⟨e1,e2⟩:=plain hmd;have hl':=(lookE_congr (S':=SLof listed D) hl (fun b B hb hB=>by
   unfold SLof;rw[if_neg];intro hh;obtain⟨m',hm',hl',hmb⟩:=hidB_iff.1 hh
   have:=closes_listed hdown ops.size m.i m'.i hp (hcl b (by rw[hrd];exact hb) m' hm' hmb)
   rw[hl']at this;cases this)).1
  obtain⟨val,hrun,hr⟩:=lookE_sound hT h1 hvw hdst hl';exact .inl (Oper.wp_value hrun (fin val w dom ρ r (by rw[e1];exact h1) (fun b hb=>by rw[e2];exact h2 b hb) (by rw[e1];exact Stp.refl) hb0 (by rw[e1];exact hr) hd))
 rw[guardE_wanted hvw hg,if_pos rfl];have hhid:hidB listed D.E id=true:=hidB_iff.2 ⟨m,hm,hu,hmd⟩;have hid:¬dom id:=fun hd=>by have:=(h2 id hd).2;rw[hhid]at this;cases this
 have hh:∀b,hidB (listed.setIfInBounds m.i true) D.E b=true↔hidB listed D.E b=true∧b≠id:=fun b=>by
  rw[hidB_iff,hidB_iff]
  constructor
  ·rintro⟨m',hm',hl,hmb⟩;rw[hset]at hl;obtain⟨hl,hne⟩:=Bool.or_eq_false_iff.1 hl;exact⟨⟨m',hm',hl,hmb⟩,fun e=>by
    subst e
    have:=h.mkn m' hm' m hm b hmb hmd
    rw[this]at hne;simp at hne⟩
  rintro⟨⟨m',hm',hl,hmb⟩,hne⟩;refine⟨m',hm',?_,hmb⟩;rw[hset,hl,Bool.false_or]
  cases hb:m'.i==m.i with
  |false=>rfl
  |true=>
   have:=h.inj m' hm' m hm (beq_iff_eq.1 hb)
   rw[this,hmd]at hmb
   cases hmb
   exact absurd rfl hne
 have hSL:SLof (listed.setIfInBounds m.i true) D=upS (SLof listed D) id (some B):=by
  funext b
  unfold SLof
  by_cases hb:b=id
  ·rw[hb,upS_same,if_neg (fun e=>((hh id).1 e).2 rfl)];exact hB
  rw[upS_ne hb]
  by_cases hx:hidB listed D.E b=true
  ·rw[if_pos ((hh b).2 ⟨hx,hb⟩),if_pos hx]
  rw[if_neg (fun e=>hx ((hh b).1 e).1),if_neg hx]
 refine .inl (makeE_sound hT h1 hvw hid hmk _ Q fun val w' l g1 g2 g3=>?_);rw[←hSL]at g1 g2 g3;exact fin val w' _ _ v g2 (fun b hb=>⟨hb.elim (fun hb=>(h2 b hb).1) (fun e=>by rw[e];exact(h.mlt m hm id hmd).2),by
  cases hx:hidB (listed.setIfInBounds m.i true) D.E b with
  |false=>rfl
  |true=>
   obtain⟨hx1,hx2⟩:=(hh b).1 hx
   rcases hb with hb|hb
   ·rw[(h2 b hb).2]at hx1;cases hx1
   exact absurd hb hx2⟩) g1 (fun b hb hd=>hd.elim (h6 b hb) (fun e=>by have:=(h.mlt m hm id hmd).1;omega)) g3 hd
end
end Go.Eng.Run
noncomputable section
namespace Go.Eng.Run
open Go
theorem any_congr' {α:Type}{f g:α→Bool}:∀{l:List α},(∀x∈l,f x=g x)→l.any f=l.any g
 |[],_=>rfl
 |x::l,h=>by rw[List.any_cons,List.any_cons,h x List.mem_cons_self,any_congr' fun y hy=>h y (List.mem_cons_of_mem _ hy)]
section
variable {P:Program}{T:Tab}(hT:TabOk P T){n:Nat}{ops:Array Oper}{env0:Tr EV}{forb dom0:Nat→Prop}{ρ0:Nat→Loc}{S0:Nat→Option EB}{w0:World}{nx0:Nat}
variable (hst:DrawSt ops n){listed:Array Bool}{D:Dr}{a:Act}{w:World}
include hT hst in
theorem step_act {call:CallT}(hcall:CallOk P call){Q:Exit→Act→World→Prop}{next:Act→World→Prop}{x:Nat}{o:Oper}{outs:List Oc}(ho:ops[x]? =some o)(h:DI P T n ops env0 forb dom0 ρ0 S0 w0 nx0 listed D a w)(hlt:x<listed.size)(hx:inE D.E x=false)
  (hdown:∀i,listed.getD i false=true→∀p∈preds ops i,listed.getD p false=true) (hp:∀p∈preds ops x,listed.getD p false=true) (hmem:∀b∈hidL ops x D.E,memB (D.st.get b)=true)
  (hg:guardE ops (vwE ops o x D.env env0) o=some true) (hr:actE P T call (evO (vwE ops o x D.env env0)) (hideT D.st (hidL ops x D.E)) D.nx o=some outs)
  (hk:∀q∈outs,lookOk ops x D.E D.st (backT D.st q.2.1 (hidL ops x D.E))=true∧∀a' w',DI P T n ops env0 forb dom0 ρ0 S0 w0 nx0 (listed.setIfInBounds x true) ⟨⟨x,none,none⟩::D.E,putE D.env o.dst q.1,backT D.st q.2.1 (hidL ops x D.E),q.2.2⟩ a' w'→next a' w'):wpOp P ops Q x next a w:=by
 obtain⟨dom,ρ,h1,h2,h3,h4,h5,h6⟩:=h.sim;have hu:listed.getD x false=false:=by
  cases hl:listed.getD x false with
  |false=>rfl
  |true=>rw[h.sub x hl]at hx;cases hx
 have hset:∀j,(listed.setIfInBounds x true).getD j false=(listed.getD j false||j==x):=fun j=>listed_set hlt
 have hne:∀m∈D.E,m.i≠x:=fun m hm e=>by
  have:inE D.E x=true:=inE_iff.2 ⟨m,hm,e⟩
  rw[hx]at this;cases this
 have hvw:=vw_env hst ho hdown hp hu h.sub h4;have hdst:=hst.dst x o ho
 generalize hl:hidL ops x D.E=l at*
 have hidl:∀b,hidB listed D.E b=true→b∈l:=fun b hb=>by
  obtain⟨m,hm,hml,hmb⟩:=hidB_iff.1 hb;rw[←hl];refine List.mem_filterMap.2 ⟨m,hm,?_⟩;rw[hmb];simp only;rw[if_neg];intro hc
  have:=closes_listed hdown ops.size x m.i hp hc
  rw[hml]at this;cases this
 have hmkl:∀b∈l,∃m∈D.E,m.md=some b∧closes ops ops.size x m.i=false:=fun b hb=>by
  rw[←hl]at hb;obtain⟨m,hm,hmb⟩:=List.mem_filterMap.1 hb;refine⟨m,hm,?_⟩
  cases hmd:m.md with
  |none=>rw[hmd]at hmb;cases hmb
  |some b'=>
   rw[hmd]at hmb;simp only at hmb
   split at hmb
   ·cases hmb
   rename_i hc
   cases hmb
   exact⟨rfl,by simpa using hc⟩
 have hSLget:∀b,SLof listed D b≠none→SLof listed D b=D.st.get b∧hidB listed D.E b=false:=fun b hb=>by
  unfold SLof at hb⊢
  cases hh:hidB listed D.E b with
  |true=>rw[hh]at hb;exact absurd rfl hb
  |false=>exact⟨by simp,rfl⟩
 -- the part that is hidden
 let H:Nat→Prop:=fun b=>b∈l∧SLof listed D b≠none
 have hR1:∀b,H b→(hideT D.st l).get b=none:=fun b hb=>by rw[hideT_get,if_pos hb.1]
 have hR2:∀b,¬H b→(hideT D.st l).get b=SLof listed D b:=fun b hb=>by
  rw[hideT_get]
  by_cases hbl:b∈l
  ·rw[if_pos hbl];exact(Classical.byContradiction fun hn=>hb ⟨hbl,fun e=>hn e.symm⟩)
  rw[if_neg hbl];unfold SLof;rw[if_neg (fun e=>hbl (hidl b e))]
 have hHd:∀b,H b→dom b:=fun b hb=>by
  cases hs:SLof listed D b with
  |none=>exact absurd hs hb.2
  |some B=>exact(h1.own b B hs).1
 have hHm:∀b,H b→(∃wd cs,SLof listed D b=some (.mem wd cs))∨∃k es,SLof listed D b=some (.map k es):=fun b hb=>by
  have h7:=hmem b hb.1;have h8:=(hSLget b hb.2).1;rw[h8];have h9:=hb.2;rw[h8]at h9
  cases hs:D.st.get b with
  |none=>exact absurd hs h9
  |some B=>
   rw[hs]at h7
   cases B with
   |mem wd cs=>exact .inl ⟨wd,cs,rfl⟩
   |map k es=>exact .inr ⟨k,es,rfl⟩
   |_=>simp[memB]at h7
 have hHh:∀b,H b→SLof listed D b≠some .held:=fun b hb e=>by
  rcases hHm b hb with⟨wd,cs,h7⟩|⟨wd,cs,h7⟩<;>rw [h7]at e<;>cases e
 have hHi:∀b mb kk r c,H b→SLof listed D b≠some (.iter mb kk r c):=fun b mb kk r c hb e=>by
  rcases hHm b hb with⟨wd,cs,h7⟩|⟨wd,cs,h7⟩<;>rw [h7]at e<;>cases e
 have hs':=h1.hide hR1 hR2 hHh;have hok:=fun g=>okE_hide (forb:=forb) (ρ:=ρ) (w:=w) hR1 hR2 g;have hvw':EnvOk ρ dom (okE (forbH forb ρ (SLof listed D) H) ρ (hideT D.st l).get w) w n (vwE ops o x D.env env0) a:=hvw.ext (Ext.of_imp fun g hg=>(hok g).2 hg) ⟨fun _ h=>h,fun _ _=>rfl⟩;have hgo:=actE_sound hT hcall hs' hvw' (fun b hb=>(h2 b hb).1) hr;unfold wpOp
 try simp only[ho]
 rw[guardE_wanted hvw hg,if_pos rfl];refine .inl (hgo _ Q fun q hq v w' dom' ρ' hat hrv=>?_);obtain⟨hlook,hk⟩:=hk q hq;have hSLex:∃SL:Nat→Option EB,(∀b,H b→SL b=SLof listed D b)∧∀b,¬H b→SL b=q.2.1.get b:=by
  classical
  exact⟨fun b=>if H b then SLof listed D b else q.2.1.get b,fun b hb=>if_pos hb,fun b hb=>if_neg hb⟩
 obtain⟨SL,hl1,hl2⟩:=hSLex;obtain⟨g1,g2,g3⟩:=h1.back hR1 hR2 hHd hHh hHi hat.stp hat.sim hl1 hl2;have hhid:∀b,hidB (listed.setIfInBounds x true) (⟨x,none,none⟩::D.E) b=hidB listed D.E b:=fun b=>by
  simp only[hidB,List.any_cons]
  have:(none==some b)=false:=rfl
  rw[this,Bool.and_false,Bool.false_or];refine any_congr' fun m hm=>?_;rw[hset]
  have:(m.i==x)=false:=by simpa using hne m hm
  rw[this,Bool.or_false]
 have hnone:∀b,b∈l→SLof listed D b=none→q.2.1.get b=none:=fun b hb hn=>by
  cases hs:q.2.1.get b with
  |none=>rfl
  |some B=>
   have hd':=(hat.sim.own b B hs).1;obtain⟨m,hm,hmd,_⟩:=hmkl b hb;have hbl:=(h.mlt m hm b hmd).2;obtain⟨B0,hB0⟩:=hat.stp.back b B hs (hat.old b hbl hd');rw[hideT_get,if_pos hb]at hB0;cases hB0
 have hSL:SLof (listed.setIfInBounds x true) ⟨⟨x,none,none⟩::D.E,putE D.env o.dst q.1,backT D.st q.2.1 l,q.2.2⟩=SL:=by
  funext b
  unfold SLof;rw[hhid]
  cases hh:hidB listed D.E b with
  |true=>
   have hn:SLof listed D b=none:=by unfold SLof;rw[hh];rfl
   rw[if_pos rfl,hl2 b (fun hb=>hb.2 hn),hnone b (hidl b hh) hn]
  |false=>
   rw[if_neg (by simp)]
   show(backT D.st q.2.1 l).get b=SL b
   rw[backT_get];have hg':SLof listed D b=D.st.get b:=by unfold SLof;rw[hh];rfl
   by_cases hb:b∈l
   ·rw[if_pos hb]
    by_cases hn:SLof listed D b=none
    ·rw[hl2 b (fun hb=>hb.2 hn),hnone b hb hn,←hg',hn]
    rw[hl1 b ⟨hb,hn⟩,hg']
   rw[if_neg hb,hl2 b (fun hb'=>hb hb'.1)]
 have hdom:∀b,dom' b→b<q.2.2∧hidB listed D.E b=false:=fun b hb=>⟨hat.lt b hb,by
  cases hh:hidB listed D.E b with
  |false=>rfl
  |true=>
   obtain⟨m,hm,hml,hmb⟩:=hidB_iff.1 hh;have hd:=hat.old b (h.mlt m hm b hmb).2 hb;rw[(h2 b hd).2]at hh;cases hh⟩
 have hnx:D.nx≤q.2.2:=hat.le;refine hk _ _ ⟨fun i hl=>?_,fun m hm m' hm' e=>?_,fun m hm p hp'=>?_,fun m hm b hb=>?_,fun m hm m' hm' b hb hb'=>?_,fun b B hb=>?_,fun m hm hml=>?_,fun t ht=>?_,dom',ρ',by rw[hSL];exact g2,fun b hb=>⟨(hdom b hb).1,by show hidB _ (_::D.E) b=false;rw[hhid];exact(hdom b hb).2⟩,by rw[hSL];exact h3.trans g1,?_,O0 h5 hnx,fun b hb hd=>h6 b hb (hat.old b (Nat.lt_of_lt_of_le hb h5) hd)⟩
 ·rw[hset]at hl
  rcases Bool.or_eq_true_iff.1 hl with hl|hl
  ·have:=h.sub i hl
   simp only[inE,List.any_cons]at this⊢;rw[this];simp
  simp only[inE,List.any_cons];rw[beq_iff_eq.1 hl];simp
 ·rcases List.mem_cons.1 hm with rfl|hm1<;>rcases List.mem_cons.1 hm' with rfl|hm2
  ·rfl
  ·exact absurd e.symm (hne m' hm2)
  ·exact absurd e (hne m hm1)
  exact h.inj m hm1 m' hm2 e
 ·have old:∀p,inE D.E p=true→inE (⟨x,none,none⟩::D.E) p=true:=fun p hp=>by
   simp only[inE,List.any_cons]at hp⊢;rw[hp];simp
  rcases List.mem_cons.1 hm with rfl|hm
  ·exact old p (h.sub p (hp p hp'))
  exact old p (h.pre m hm p hp')
 ·rcases List.mem_cons.1 hm with rfl|hm
  ·cases hb
  have:=h.mlt m hm b hb
  exact⟨this.1,Nat.lt_of_lt_of_le this.2 hnx⟩
 ·rcases List.mem_cons.1 hm with rfl|hm1<;>rcases List.mem_cons.1 hm' with rfl|hm2
  ·rfl
  ·cases hb
  ·cases hb'
  exact h.mkn m hm1 m' hm2 b hb hb'
 ·have hb:(backT D.st q.2.1 l).get b=some B:=hb;rw[backT_get]at hb
  split at hb
  ·exact Nat.lt_of_lt_of_le (h.slt b B hb) hnx
  exact hat.lt b (hat.sim.own b B hb).1
 ·rcases List.mem_cons.1 hm with rfl|hm1
  ·rw[hset]at hml;simp at hml
  rw[hset]at hml;have hml:=(Bool.or_eq_false_iff.1 hml).1;have hcl:closes ops ops.size x m.i=false:=by
   cases hc:closes ops ops.size x m.i with
   |false=>rfl
   |true=>
    have:=closes_listed hdown ops.size x m.i hp hc
    rw[hml]at this;cases this
  refine Fact.more hst ho hx hm1 (h.pre m hm1) rfl (fun b hb B hB=>?_) (fun b B hb hB=>?_) (fun m' hm'=>?_) (h.fact m hm1 hml)
  ·have:=List.all_eq_true.1 hlook m hm1
   rw[hb]at this;simp only[hcl,Bool.false_or]at this;exact eqB_eq this
  ·show(backT D.st q.2.1 l).get b=D.st.get b
   rw[backT_get,if_pos (hidl b (hidB_iff.2 ⟨m,hm1,hml,hb⟩))]
  rcases List.mem_cons.1 hm' with rfl|hm'
  ·exact .inr fun b hb=>by cases hb
  exact .inl hm'
 ·show(putE D.env o.dst q.1).get t=env0.get t
  rw[putE_get,if_neg]
  ·exact h.base t fun m hm=>ht m (List.mem_cons_of_mem _ hm)
  intro e;exact ht ⟨x,none,none⟩ List.mem_cons_self (by rw[dstOf_op ho];exact e)
 rw[hSL];have hrv':=RepE.ext (Ext.of_imp fun g hg=>(g3 g).2 hg) ⟨fun _ h=>h,fun _ _=>rfl⟩ hrv;refine EnvOk.put' (h4.ext g1.ext g1.same) hdst hrv' fun t e hte=>?_;unfold envLof at hte
 by_cases hdt:o.dst=some t
 ·refine .inl ⟨hdt,?_⟩;rw[if_pos]at hte
  ·have hte:(putE D.env o.dst q.1).get t=some e:=hte;rw[putE_get,if_pos hdt]at hte;cases hte;rfl
  refine List.any_eq_true.2 ⟨⟨x,none,none⟩,List.mem_cons_self,?_⟩;rw[hset]
  simp[dstOf_op ho,hdt]
 refine .inr ⟨hdt,?_⟩;unfold envLof
 have:(D.E.any fun m'=>listed.getD m'.i false&&dstOf ops m'.i==some t)=((⟨x,none,none⟩::D.E:List Em).any fun m'=>(listed.setIfInBounds x true).getD m'.i false&&dstOf ops m'.i==some t):=by
  rw[List.any_cons]
  have:(dstOf ops x==some t)=false:=by rw[dstOf_op ho];simpa using hdt
  rw[this,Bool.and_false,Bool.false_or]
  refine(any_congr' fun m hm=>?_)
  rw[hset]
  have:(m.i==x)=false:=by simpa using hne m hm
  rw[this,Bool.or_false]
 rw[this];have hpe:(putE D.env o.dst q.1).get t=D.env.get t:=by rw[putE_get,if_neg hdt]
 rw[←hpe];exact hte
structure StandR (P:Program) (T:Tab) (call:CallT) (n:Nat) (ops:Array Oper) (env0:Tr EV) (forb dom0:Nat→Prop) (ρ0:Nat→Loc) (S0:Nat→Option EB) (w0:World) (nx0:Nat) (OUT:List Os) (listed:Array Bool) (a:Act) (w:World):Prop where
 size:listed.size=ops.size
 down:∀i,listed.getD i false=true→∀p∈preds ops i,listed.getD p false=true
 now:∃f D0 D L,emitAll P T ops env0 (List.range ops.size) D0=some D∧drawGo P T call ops env0 (f+1) D0=some L∧(∀y∈L,y∈OUT)∧DI P T n ops env0 forb dom0 ρ0 S0 w0 nx0 listed D a w
theorem find_none {E:List Em}{N:Nat}(h:(List.range N).find? (fun i=>!inE E i)=none)(i:Nat)(hi:i<N):inE E i=true:=by
 have:=List.find?_eq_none.1 h i (List.mem_range.2 hi)
 simpa using this
include hT hst in
theorem wpAny_draw {call:CallT}(hcall:CallOk P call){OUT:List Os}{Q:Exit→Act→World→Prop}
  (hQ:∀env st nx,(env,st,nx)∈OUT→∀dom ρ a w,At forb dom0 ρ0 S0 w0 nx0 dom ρ st.get w nx→EnvOk ρ dom (okE forb ρ st.get w) w n env.get a→Q .normal a w):
  ∀(fuel:Nat) (listed:Array Bool) (a:Act) (w:World),StandR P T call n ops env0 forb dom0 ρ0 S0 w0 nx0 OUT listed a w→toCome ops listed≤fuel→wpAny P .any ops Q fuel listed a w:=by
 have done:∀(listed:Array Bool) (a:Act) (w:World),StandR P T call n ops env0 forb dom0 ρ0 S0 w0 nx0 OUT listed a w→(∀i,i<ops.size→listed.getD i false=true)→Q .normal a w:=by
  intro listed a w h hall;obtain⟨f,D0,D,L,he,hgo,hL,hD⟩:=h.now;simp only[drawGo,he,Option.bind_some]at hgo;have hfind:(List.range ops.size).find? (fun i=>!inE D.E i)=none:=List.find?_eq_none.2 fun i hi=>by
   rw[hD.sub i (hall i (List.mem_range.1 hi))];simp
  rw[hfind]at hgo
  cases hgo
  obtain⟨dom,ρ,h1,h2,h3,h4,h5,h6⟩:=hD.sim;have hEl:∀m∈D.E,listed.getD m.i false=true∨dstOf ops m.i=none:=fun m hm=>by
   by_cases hm':m.i<ops.size
   ·exact .inl (hall m.i hm')
   right
   cases hd:dstOf ops m.i with
   |none=>rfl
   |some t=>exact absurd (dstOf_lt hd) hm'
  have hhid:∀b,hidB listed D.E b=false:=fun b=>by
   cases hh:hidB listed D.E b with
   |false=>rfl
   |true=>
    obtain⟨m,hm,hml,hmb⟩:=hidB_iff.1 hh;obtain⟨o,ho,_⟩:=hD.fact m hm hml;rw[hall m.i (Array.getElem?_eq_some_iff.1 ho).1]at hml;cases hml
  have hS:SLof listed D=D.st.get:=funext fun b=>by unfold SLof;rw[hhid];rfl
  have hE:envLof ops env0 listed D=D.env.get:=funext fun t=>by
   unfold envLof
   split
   ·rfl
   rename_i hany
   refine(hD.base t fun m hm e=>hany (List.any_eq_true.2 ⟨m,hm,?_⟩)).symm
   rcases hEl m hm with h|h
   ·rw[h,e];simp
   rw[h]at e;cases e
  rw[hS]at h1 h3 h4;rw[hE]at h4;exact hQ D.env D.st D.nx (hL _ (List.mem_singleton.2 rfl)) dom ρ a w ⟨h3,h1,fun b hb=>(h2 b hb).1,h5,h6⟩ h4
 intro fuel
 induction fuel with
 |zero=>
  intro listed a w h hf;have hall:=toCome_zero (Nat.le_zero.1 hf);refine⟨?_,done listed a w h hall⟩
  cases hr:Region.ready .any ops listed with
  |nil=>rfl
  |cons i l=>
   obtain⟨_,hi,hu⟩:=ready_preds (i:=i) (listed:=listed) (ops:=ops) (by rw[hr];simp);have h1:=hall i hi;have hlt:i<listed.size:=by rw[h.size];exact hi
   simp[Array.getD,hlt]at h1 hu
   rw[h1]at hu;cases hu
 |succ fuel ih=>
  intro listed a w h hf;have rdy:∀i,i∈Region.ready .any ops listed→(∀p∈preds ops i,listed.getD p false=true)∧i<ops.size∧listed.getD i false=false∧i<listed.size:=fun i hi=>by
   obtain⟨hp,his,hu⟩:=ready_preds hi;have hlt:i<listed.size:=by rw[h.size];exact his
   refine⟨hp,his,?_,hlt⟩
   simp[Array.getD,hlt]at hu⊢
   exact hu
  obtain⟨f,D0,D,L,he,hgo,hL,hD⟩:=h.now;have hgo0:=hgo;simp only[drawGo,he,Option.bind_some]at hgo;refine⟨fun hr=>?_,fun i hi=>?_⟩
  ·-- none is ready: all have been
   have hall:∀k i,i<k→i<ops.size→listed.getD i false=true:=by
    intro k
    induction k with
    |zero=>intro i hi;omega
    |succ k ihk=>
     intro i hik his
     by_cases hu:listed.getD i false=true
     ·exact hu
     have hlt:i<listed.size:=by rw[h.size];exact his
     have hu':listed.getD i true=false:=by
      simp[Array.getD,hlt]at hu⊢
      exact hu
     have hm:=ready_of_preds (ops:=ops) (Array.getElem?_eq_getElem his) hu' (fun p hp=>ihk p (by have:=hst.pred i _ (Array.getElem?_eq_getElem his) p hp;omega) (by have:=hst.pred i _ (Array.getElem?_eq_getElem his) p hp;omega));rw[hr]at hm;cases hm
   exact done listed a w h fun i hi=>hall _ i (Nat.lt_succ_self _) hi
  obtain⟨hp,his,hu,hlt⟩:=rdy i hi;have hcount:=toCome_set h.size his (by simp[Array.getD,hlt]at hu⊢;exact hu);have hdown':∀j,(listed.setIfInBounds i true).getD j false=true→∀p∈preds ops j,(listed.setIfInBounds i true).getD p false=true:=by
   intro j hj p hpj;rw[listed_set hlt]at hj⊢
   rcases Bool.or_eq_true_iff.1 hj with hj|hj
   ·rw[h.down j hj p hpj];rfl
   have:j=i:=by simpa using hj
   subst this;rw[hp p hpj];rfl
  have hsz':(listed.setIfInBounds i true).size=ops.size:=by simpa using h.size
  by_cases hin:inE D.E i=true
  ·obtain⟨m,hm,rfl⟩:=inE_iff.1 hin;exact step_known hT hst hm hD hlt h.down hp hu fun a' w' hD'=>ih _ _ _ ⟨hsz',hdown',f,D0,D,L,he,hgo0,hL,hD'⟩ (by omega)
  have hin:inE D.E i=false:=by simpa using hin
  cases hfind:(List.range ops.size).find? (fun i=>!inE D.E i)with
  |none=>
   rw[find_none hfind i his]at hin;cases hin
  |some x0=>
   rw[hfind]at hgo;simp only at hgo;have hpx:(preds ops i).all (inE D.E)=true:=List.all_eq_true.2 fun p hpp=>hD.sub p (hp p hpp);obtain⟨L1,hgo,hL1⟩:=bindL_mem hgo i (List.mem_filter.2 ⟨List.mem_range.2 his,by rw[hin,hpx];rfl⟩)
   cases hox:ops[i]? with
   |none=>rw[hox]at hgo;cases hgo
   |some o=>
    rw[hox]at hgo;simp only at hgo
    split at hgo
    ·rename_i hmem
     split at hgo
     ·cases hgo
     ·-- not taken
      rename_i hgd
      have hem:emit P T ops env0 i D=some ⟨⟨i,none,none⟩::D.E,putE D.env o.dst (.tup []),D.st,D.nx⟩:=by
       unfold emit;rw[hox]
       try simp only[hgd]
      have hD2:=emit_DI hst hD hin (List.all_eq_true.1 hpx) hem;refine step_known hT hst (m:=⟨i,none,none⟩) (D:=⟨⟨i,none,none⟩::D.E,putE D.env o.dst (.tup []),D.st,D.nx⟩) List.mem_cons_self hD2 hlt h.down hp hu fun a' w' hD'=>ih _ _ _ ⟨hsz',hdown',?_⟩ (by omega)
      cases f with
      |zero=>cases hgo
      |succ f=>
       have hl0:=hgo;simp only[drawGo]at hgo;obtain⟨D3,he2,_⟩:=Option.bind_eq_some_iff.1 hgo;exact⟨f,_,D3,L1,he2,hl0,fun y hy=>hL y (hL1 y hy),emitAll_DI hst _ _ _ hD' he2⟩
     rename_i hgd
     obtain⟨outs,ha,hgo⟩:=Option.bind_eq_some_iff.1 hgo;refine step_act hT hst hcall hox hD hlt hin h.down hp (List.all_eq_true.1 hmem) hgd ha fun q hq=>?_;obtain⟨l,hl,hll⟩:=bindL_mem hgo q hq
     split at hl
     ·rename_i hlook
      refine⟨hlook,fun a' w' hD'=>ih _ _ _ ⟨hsz',hdown',?_⟩ (by omega)⟩
      cases f with
      |zero=>cases hl
      |succ f=>
       have hl0:=hl;simp only[drawGo]at hl;obtain⟨D2,he2,_⟩:=Option.bind_eq_some_iff.1 hl;exact⟨f,_,D2,l,he2,hl0,fun y hy=>hL y (hL1 y (hll y hy)),emitAll_DI hst _ _ _ hD' he2⟩
     cases hl
    cases hgo
end
end Go.Eng.Run
noncomputable section
namespace Go.Eng.Run
open Go
def tb (m i:Nat):Bool:=Nat.beq (Nat.land (Nat.shiftRight m i) 1) 1
def tset (m i:Nat):Nat:=Nat.lor m (Nat.shiftLeft 1 i)
def tsub (a m:Nat):Bool:=Nat.beq (Nat.land a m) a
def maskL:List Nat→Nat
 |[]=>0
 |i::l=>tset (maskL l) i
theorem tb_eq (m i:Nat):tb m i=m.testBit i:=by
 rw[Bool.eq_iff_iff];unfold tb;rw[Nat.beq_eq,Nat.testBit]
 show(m>>>i)&&&1=1↔_
 simp[Nat.and_comm]
theorem tb_set (m i j:Nat):tb (tset m i) j=(tb m j||i==j):=by
 rw[tb_eq,tb_eq]
 show(m|||(1<<<i)).testBit j=_
 rw[Nat.testBit_or,Nat.one_shiftLeft,Nat.testBit_two_pow];rfl
theorem tb_sub {a m:Nat}(h:tsub a m=true){i:Nat}(hi:tb a i=true):tb m i=true:=by
 unfold tsub at h;have h:a&&&m=a:=Nat.eq_of_beq_eq_true h;rw[tb_eq]at hi⊢;rw[←h,Nat.testBit_and,Bool.and_eq_true]at hi;exact hi.2
theorem tb_mask:∀(l:List Nat) (i:Nat),tb (maskL l) i=true↔i∈l
 |[],i=>by simp[maskL,tb_eq]
 |x::l,i=>by
  rw[maskL,tb_set,Bool.or_eq_true,tb_mask l i,beq_iff_eq,List.mem_cons]
  constructor
  ·rintro(h|h)
   ·exact .inr h
   exact .inl h.symm
  rintro(h|h)
  ·exact .inr h.symm
  exact .inl h
structure Pi where
 i:Nat
 o:Oper
 act:Bool
 pm:Nat
 vw:List (Tmp×Bool)
def vwL (ops:Array Oper)(o:Oper)(i:Nat):List (Tmp×Bool):=(tmpsOf o++(gTmp ops o).toList).map fun t=>(t,(preds ops i).any fun j=>dstOf ops j==some t)
def piOf (ops:Array Oper)(i:Nat)(o:Oper):Pi:=
 ⟨i,o,isActO o.op,maskL (preds ops i),vwL ops o i⟩
def planL (ops:Array Oper):List Nat→List Pi
 |[]=>[]
 |i::is=>match ops[i]? with
  |some o=>piOf ops i o::planL ops is
  |none=>[]
def vwF (l:List (Tmp×Bool))(env env0:Tr EV)(t:Tmp):Option EV:=
 match l with
 |[]=>none
 |(t',b)::l=>bif Nat.beq t' t then(bif b then env.get t else env0.get t)else vwF l env env0 t
theorem vwF_eq {ops:Array Oper}{o:Oper}{i:Nat}{env env0:Tr EV}:vwF (vwL ops o i) env env0=vwE ops o i env env0:=by
 funext t
 unfold vwL vwE;have key:∀l:List Tmp,vwF (l.map fun t=>(t,(preds ops i).any fun j=>dstOf ops j==some t)) env env0 t=if l.contains t=true then(if(preds ops i).any (fun j=>dstOf ops j==some t)=true then env.get t else env0.get t)else none:=by
  intro l
  induction l with
  |nil=>simp[vwF]
  |cons x l ih=>
   simp only[List.map_cons,vwF,ih,List.contains_cons]
   by_cases hx:x=t
   ·subst hx;rw[show Nat.beq x x=true from Nat.beq_refl x];simp only[cond_true,beq_self_eq_true,Bool.true_or,if_true]
    cases(preds ops i).any fun j=>dstOf ops j==some x<;>simp
   rw[show Nat.beq x t=false from by rw[Bool.eq_false_iff];exact fun h=>hx (Nat.eq_of_beq_eq_true h)]
   have:(t==x)=false:=by simpa using fun e=>hx e.symm
   simp[this]
 rw[key,List.contains_eq_any_beq,List.any_append,←List.contains_eq_any_beq]
 congr 1
 simp only[eq_iff_iff,Bool.or_eq_true];refine or_congr Iff.rfl ?_
 cases gTmp ops o with
 |none=>simp
 |some g=>
  simp only[Option.toList_some,List.any_cons,List.any_nil,Bool.or_false,beq_iff_eq,Q6];exact eq_comm
def emitF (P:Program)(T:Tab)(ops:Array Oper)(env0:Tr EV)(p:Pi)(D:Dr):Option Dr:=
 match guardE ops (vwF p.vw D.env env0) p.o with
 |none=>none
 |some false=>some ⟨⟨p.i,none,none⟩::D.E,putE D.env p.o.dst (.tup []),D.st,D.nx⟩
 |some true=>bif isLk p.o.op then(match lookE P T (evO (vwF p.vw D.env env0)) D.st.get p.o.op with
   |some r=>match rdOf (evO (vwF p.vw D.env env0)) p.o.op with
    |none=>some ⟨⟨p.i,none,none⟩::D.E,putE D.env p.o.dst r,D.st,D.nx⟩
    |some b=>bif rdFine ops p.i D.E (some b)then some ⟨⟨p.i,none,some b⟩::D.E,putE D.env p.o.dst r,D.st,D.nx⟩else none
   |none=>none)
  else match lookE P T (evO (vwF p.vw D.env env0)) D.st.get p.o.op with
   |some _=>none
   |none=>match makeE T (evO (vwF p.vw D.env env0)) D.nx p.o.op with
    |some (v,B)=>some ⟨⟨p.i,some D.nx,none⟩::D.E,putE D.env p.o.dst v,D.st.put D.nx (some B),D.nx+1⟩
    |none=>none
def emitAllF (P:Program)(T:Tab)(ops:Array Oper)(env0:Tr EV):List Pi→Dr→Nat→Option (Dr×Nat)
 |[],D,m=>some (D,m)
 |p::ps,D,m=>bif tb m p.i then emitAllF P T ops env0 ps D m else bif p.act then emitAllF P T ops env0 ps D m else bif tsub p.pm m then(match emitF P T ops env0 p D with
  |some D=>emitAllF P T ops env0 ps D (tset m p.i)
  |none=>none)else emitAllF P T ops env0 ps D m
def firstF:List Pi→Nat→Option Pi
 |[],_=>none
 |p::ps,m=>bif tb m p.i then firstF ps m else some p
def candF:List Pi→Nat→List Pi
 |[],_=>[]
 |p::ps,m=>bif tb m p.i then candF ps m else bif tsub p.pm m then p::candF ps m else candF ps m
def drawGoF (P:Program)(T:Tab)(call:CallT)(ops:Array Oper)(env0:Tr EV)(plan:List Pi):Nat→Dr→Nat→Option (List Os)
 |0,_,_=>none
 |f+1,D,m=>match emitAllF P T ops env0 plan D m with
  |none=>none
  |some (D,m)=>match firstF plan m with
   |none=>some [(D.env,D.st,D.nx)]
   |some _=>bindL (candF plan m) fun p=>bif (hidL ops p.i D.E).all (fun b=>memB (D.st.get b))then
     (match guardE ops (vwF p.vw D.env env0) p.o with
     |none=>none
     |some false=>drawGoF P T call ops env0 plan f ⟨⟨p.i,none,none⟩::D.E,putE D.env p.o.dst (.tup []),D.st,D.nx⟩ (tset m p.i)
     |some true=>(actE P T call (evO (vwF p.vw D.env env0)) (hideT D.st (hidL ops p.i D.E)) D.nx p.o).bind fun outs=>bindL outs fun q=>
       bif lookOk ops p.i D.E D.st (backT D.st q.2.1 (hidL ops p.i D.E))then drawGoF P T call ops env0 plan f ⟨⟨p.i,none,none⟩::D.E,putE D.env p.o.dst q.1,backT D.st q.2.1 (hidL ops p.i D.E),q.2.2⟩ (tset m p.i)else none)else none
section
variable {P:Program}{T:Tab}{call:CallT}{ops:Array Oper}{env0:Tr EV}
def MI (E:List Em)(m:Nat):Prop:=∀i,inE E i=tb m i
theorem MI.cons {E:List Em}{m:Nat}(h:MI E m)(i:Nat)(md rd:Option Nat):MI (⟨i,md,rd⟩::E) (tset m i):=by
 intro j;rw[tb_set,←h j];simp only[inE,List.any_cons];rw[Bool.or_comm]
theorem tsub_preds {E:List Em}{m:Nat}(h:MI E m){l:List Nat}(hs:tsub (maskL l) m=true):l.all (inE E)=true:=by
 rw[List.all_eq_true];intro x hx;rw[h x];exact tb_sub hs ((tb_mask l x).2 hx)
theorem emitF_eq {i:Nat}{o:Oper}(ho:ops[i]? =some o){D D':Dr}{m:Nat}(hm:MI D.E m)(h:emitF P T ops env0 (piOf ops i o) D=some D'):emit P T ops env0 i D=some D'∧MI D'.E (tset m i):=by
 unfold emitF at h;simp only[piOf,vwF_eq]at h;unfold emit
 try simp only[ho]
 split at h
 ·cases h
 ·rename_i hg
  try simp only[hg]
  cases h
  exact⟨rfl,hm.cons _ _ _⟩
 rename_i hg
 try simp only[hg]
 cases hk:isLk o.op with
 |true=>
  rw[hk]at h;simp only[cond_true]at h
  split at h
  ·rename_i r hr
   try simp only[hr]
   split at h
   ·rename_i hrd
    try simp only[hrd,rdFine,if_true]
    cases h
    exact⟨rfl,hm.cons _ _ _⟩
   rename_i b hrd
   try simp only[hrd]
   cases hc:rdFine ops i D.E (some b)with
   |true=>
    rw[hc]at h
    cases h
    exact⟨rfl,hm.cons _ _ _⟩
   |false=>rw[hc]at h;cases h
  cases h
 |false=>
  rw[hk]at h;simp only[cond_false]at h
  split at h
  ·cases h
  rename_i hr
  try simp only[hr]
  split at h
  ·rename_i v B hmk
   try simp only[hmk]
   cases h
   exact⟨rfl,hm.cons _ _ _⟩
  cases h
theorem emitAllF_eq:∀(is:List Nat) {D D':Dr} {m m':Nat},(∀i∈is,i<ops.size)→MI D.E m→emitAllF P T ops env0 (planL ops is) D m=some (D',m')→emitAll P T ops env0 is D=some D'∧MI D'.E m'
 |[],D,D',m,m',_,hm,h=>by cases h;exact⟨rfl,hm⟩
 |i::is,D,D',m,m',hi,hm,h=>by
  obtain⟨o,ho⟩:∃o,ops[i]? =some o:=⟨_,Array.getElem?_eq_getElem (hi i List.mem_cons_self)⟩;have hi':∀j∈is,j<ops.size:=fun j hj=>hi j (List.mem_cons_of_mem _ hj);simp only[planL,ho,emitAllF]at h;have e1:(piOf ops i o).i=i:=rfl;have e2:(piOf ops i o).act=isActO o.op:=rfl;have e3:(piOf ops i o).pm=maskL (preds ops i):=rfl;rw[e1,e2,e3]at h;simp only[emitAll,ho,hm i]
  cases h1:tb m i with
  |true=>rw[h1]at h;exact emitAllF_eq is hi' hm h
  |false=>
   rw[h1]at h;simp only[cond_false,Bool.false_eq_true,if_false]at h⊢
   cases h2:isActO o.op with
   |true=>rw[h2]at h;exact emitAllF_eq is hi' hm h
   |false=>
    rw[h2]at h;simp only[cond_false,Bool.false_eq_true,if_false]at h⊢
    cases h3:tsub (maskL (preds ops i)) m with
    |true=>
     rw[h3]at h;simp only[cond_true]at h;rw[if_pos (tsub_preds hm h3)]
     split at h
     ·rename_i D1 hD
      obtain⟨h4,h5⟩:=emitF_eq ho hm hD;rw[h4];exact emitAllF_eq is hi' h5 h
     cases h
    |false=>
     rw[h3]at h
     have:¬(preds ops i).all (inE D.E)=true:=fun hc=>by
      have:tsub (maskL (preds ops i)) m=true:=by
       unfold tsub;rw[Nat.beq_eq];show maskL (preds ops i)&&&m=maskL (preds ops i)
       apply Nat.eq_of_testBit_eq
       intro j;rw[Nat.testBit_and]
       by_cases hj:j∈preds ops i
       ·have h6:=List.all_eq_true.1 hc j hj;rw[hm j,tb_eq]at h6;rw[h6,Bool.and_true]
       have h6:(maskL (preds ops i)).testBit j=false:=by rw[←tb_eq,Bool.eq_false_iff];exact fun e=>hj ((tb_mask _ _).1 e)
       rw[h6,Bool.false_and]
      rw[h3]at this;cases this
     rw[if_neg this];exact emitAllF_eq is hi' hm h
theorem firstF_eq {E:List Em}{m:Nat}(hm:MI E m):∀(is:List Nat),(∀i∈is,i<ops.size)→(firstF (planL ops is) m=none→is.find? (fun i=>!inE E i)=none)∧∀p,firstF (planL ops is) m=some p→∃i o,is.find? (fun i=>!inE E i)=some i∧ops[i]? =some o∧p=piOf ops i o
 |[],_=>⟨fun _=>rfl,fun p h=>by cases h⟩
 |i::is,hi=>by
  obtain⟨o,ho⟩:∃o,ops[i]? =some o:=⟨_,Array.getElem?_eq_getElem (hi i List.mem_cons_self)⟩;have ih:=firstF_eq hm is fun j hj=>hi j (List.mem_cons_of_mem _ hj);simp only[planL,ho,firstF,show (piOf ops i o).i=i from rfl,List.find?_cons,hm i]
  cases h1:tb m i with
  |true=>simpa using ih
  |false=>
   simp only[cond_false,Bool.not_false];exact⟨fun h=>(by cases h),fun p h=>(by cases h;exact⟨i,_,rfl,ho,rfl⟩)⟩
theorem tsub_iff {E:List Em}{m:Nat}(hm:MI E m)(l:List Nat):tsub (maskL l) m=l.all (inE E):=by
 cases h3:tsub (maskL l) m with
 |true=>exact(tsub_preds hm h3).symm
 |false=>
  symm
  rw[Bool.eq_false_iff];intro hc
  have:tsub (maskL l) m=true:=by
   unfold tsub;rw[Nat.beq_eq];show maskL l&&&m=maskL l
   apply Nat.eq_of_testBit_eq
   intro j;rw[Nat.testBit_and]
   by_cases hj:j∈l
   ·have h6:=List.all_eq_true.1 hc j hj;rw[hm j,tb_eq]at h6;rw[h6,Bool.and_true]
   have h6:(maskL l).testBit j=false:=by rw[←tb_eq,Bool.eq_false_iff];exact fun e=>hj ((tb_mask _ _).1 e)
   rw[h6,Bool.false_and]
  rw[h3]at this;cases this
theorem candF_eq {E:List Em}{m:Nat}(hm:MI E m){F:Pi→Option (List Os)}{G:Nat→Option (List Os)}(hFG:∀i o l,ops[i]? =some o→F (piOf ops i o)=some l→G i=some l):∀(is:List Nat) {L:List Os},(∀i∈is,i<ops.size)→
  bindL (candF (planL ops is) m) F=some L→bindL (is.filter fun x=>!inE E x&&(preds ops x).all (inE E)) G=some L
 |[],L,_,h=>h
 |i::is,L,hi,h=>by
  obtain⟨o,ho⟩:∃o,ops[i]? =some o:=⟨_,Array.getElem?_eq_getElem (hi i List.mem_cons_self)⟩;have hi':∀j∈is,j<ops.size:=fun j hj=>hi j (List.mem_cons_of_mem _ hj);simp only[planL,ho,candF,show (piOf ops i o).i=i from rfl,show (piOf ops i o).pm=maskL (preds ops i)from rfl,tsub_iff hm]at h;rw[List.filter_cons,hm i]
  cases h1:tb m i with
  |true=>
   rw[h1]at h;simp only[cond_true]at h
   simpa using candF_eq hm hFG is hi' h
  |false=>
   rw[h1]at h;simp only[cond_false]at h
   cases h2:(preds ops i).all (inE E)with
   |true=>
    rw[h2]at h;simp only[cond_true]at h;obtain⟨l,l',e1,e2,rfl⟩:=bindL_cons.1 h
    have:(!false&&true)=true:=rfl
    rw[if_pos this];exact bindL_cons.2 ⟨l,l',hFG i o l ho e1,candF_eq hm hFG is hi' e2,rfl⟩
   |false=>
    rw[h2]at h;simp only[cond_false]at h
    have:¬(!false&&false)=true:=by simp
    rw[if_neg this];exact candF_eq hm hFG is hi' h
theorem drawGoF_eq:∀(f:Nat) {D:Dr} {m:Nat} {L:List Os},MI D.E m→drawGoF P T call ops env0 (planL ops (List.range ops.size)) f D m=some L→drawGo P T call ops env0 f D=some L
 |0,D,m,L,_,h=>by cases h
 |f+1,D,m,L,hm,h=>by
  have hr:∀i∈List.range ops.size,i<ops.size:=fun i hi=>List.mem_range.1 hi;simp only[drawGoF]at h
  split at h
  ·cases h
  rename_i D1 m1 hD
  obtain⟨h1,hm1⟩:=emitAllF_eq _ hr hm hD;simp only[drawGo,h1,Option.bind_some];obtain⟨hn,hs⟩:=firstF_eq (ops:=ops) hm1 _ hr
  split at h
  ·rename_i hf
   rw[hn hf];exact h
  rename_i p hf
  obtain⟨x,o,hx,ho,rfl⟩:=hs p hf
  try simp only[hx]
  refine candF_eq hm1 (fun x o l ho h=>?_) _ hr h
  try simp only[ho]
  simp only[piOf,vwF_eq]at h
  cases hc:(hidL ops x D1.E).all (fun b=>memB (D1.st.get b))with
  |false=>rw[hc]at h;cases h
  |true=>
   rw[hc]at h;simp only[cond_true]at h;rw[if_pos rfl]
   split at h
   ·cases h
   ·rename_i hg
    try simp only[hg]
    exact drawGoF_eq f (hm1.cons _ _ _) h
   rename_i hg
   try simp only[hg]
   obtain⟨outs,ho1,h⟩:=Option.bind_eq_some_iff.1 h;rw[ho1,Option.bind_some];refine bindL_mono (fun q L hq=>?_) h
   cases hl:lookOk ops x D1.E D1.st (backT D1.st q.2.1 (hidL ops x D1.E))with
   |true=>
    rw[hl]at hq;rw[if_pos rfl];exact drawGoF_eq f (hm1.cons _ _ _) hq
   |false=>rw[hl]at hq;cases hq
end
end Go.Eng.Run
noncomputable section
namespace Go.Eng.Run
open Go
def eqTL:List TV→List TV→Bool
 |[],[]=>true
 |a::l,b::m=>eqT a b&&eqTL l m
 |_,_=>false
def eqE:EV→EV→Bool
 |.un,.un=>true
 |.v a,.v b=>eqT a b
 |.tup a,.tup b=>eqTL a b
 |_,_=>false
def eqEL:List EV→List EV→Bool
 |[],[]=>true
 |a::l,b::m=>eqE a b&&eqEL l m
 |_,_=>false
theorem eqTL_eq:∀{a b:List TV},eqTL a b=true→a=b
 |[],[],_=>rfl
 |x::a,y::b,h=>by simp only[eqTL,Bool.and_eq_true]at h;rw[eqT_eq h.1,eqTL_eq h.2]
 |[],_::_,h=>by simp[eqTL]at h
 |_::_,[],h=>by simp[eqTL]at h
theorem eqE_eq {a b:EV}(h:eqE a b=true):a=b:=by
 cases a<;>cases b<;>simp [eqE]at h
 ·rfl
 ·rw[eqT_eq h]
 rw[eqTL_eq h]
theorem eqEL_eq:∀{a b:List EV},eqEL a b=true→a=b
 |[],[],_=>rfl
 |x::a,y::b,h=>by simp only[eqEL,Bool.and_eq_true]at h;rw[eqE_eq h.1,eqEL_eq h.2]
 |[],_::_,h=>by simp[eqEL]at h
 |_::_,[],h=>by simp[eqEL]at h
def meetT:Sto→Sto→Sto
 |.nd v l r,.nd v' l' r'=>.nd (bif eqB v v' then v else none) (meetT l l') (meetT r r')
 |_,_=>.lf
def mergeO (q:Oc):List Oc→List Oc
 |[]=>[q]
 |p::ps=>bif eqE p.1 q.1&&Nat.beq p.2.2 q.2.2 then(p.1,meetT p.2.1 q.2.1,p.2.2)::ps else p::mergeO q ps
def mergeL:List Oc→List Oc
 |[]=>[]
 |q::qs=>match qs with
  |[]=>[q]
  |_::_=>mergeO q (mergeL qs)
def Sub (a b:Sto):Prop:=a=b∨∀n B,a.get n=some B→b.get n=some B∧∀mb kk r c,B≠ .iter mb kk r c
theorem Sub.trans {a b c:Sto}(h:Sub a b)(k:Sub b c):Sub a c:=by
 rcases h with rfl|h
 ·exact k
 rcases k with rfl|k
 ·exact .inr h
 exact .inr fun n B hB=>⟨(k n B (h n B hB).1).1,(h n B hB).2⟩
theorem meetT_get:∀(a b:Sto) (n:Nat) (B:EB),(meetT a b).get n=some B→a.get n=some B∧b.get n=some B∧∀mb kk r c,B≠ .iter mb kk r c
 |.lf,_,n,B,h=>by simp[meetT,Tr.get_lf]at h
 |.nd _ _ _,.lf,n,B,h=>by simp[meetT,Tr.get_lf]at h
 |.nd v l r,.nd v' l' r',n,B,h=>by
  cases n with
  |zero=>
   simp only[meetT,Tr.get_nd0]at h⊢
   cases he:eqB v v' with
   |true=>
    rw[he]at h;have h:v=some B:=h;subst h
    have:=eqB_eq he
    refine⟨rfl,this.symm,fun mb kk r c e=>?_⟩;subst e;subst this
    simp[eqB]at he
   |false=>rw[he]at h;cases h
  |succ n=>
   simp only[meetT,Tr.get_nd]at h⊢
   split at h
   ·rename_i hn;rw[if_pos hn,if_pos hn];exact meetT_get l l' _ B h
   rename_i hn;rw[if_neg hn,if_neg hn];exact meetT_get r r' _ B h
theorem mergeO_mem (q:Oc):∀(ps:List Oc) (x:Oc),x=q∨x∈ps→∃y∈mergeO q ps,y.1=x.1∧y.2.2=x.2.2∧Sub y.2.1 x.2.1
 |[],x,h=>by
  rcases h with rfl|h
  ·exact⟨x,List.mem_singleton.2 rfl,rfl,rfl,.inl rfl⟩
  cases h
 |p::ps,x,h=>by
  simp only[mergeO]
  cases he:eqE p.1 q.1&&Nat.beq p.2.2 q.2.2 with
  |true=>
   simp only[cond_true];rw[Bool.and_eq_true]at he;have e1:=eqE_eq he.1;have e2:p.2.2=q.2.2:=Nat.eq_of_beq_eq_true he.2
   rcases h with rfl|h
   ·exact⟨_,List.mem_cons_self,e1,e2,.inr fun n B hB=>⟨(meetT_get _ _ n B hB).2.1,(meetT_get _ _ n B hB).2.2⟩⟩
   rcases List.mem_cons.1 h with rfl|h
   ·exact⟨_,List.mem_cons_self,rfl,rfl,.inr fun n B hB=>⟨(meetT_get _ _ n B hB).1,(meetT_get _ _ n B hB).2.2⟩⟩
   exact⟨x,List.mem_cons_of_mem _ h,rfl,rfl,.inl rfl⟩
  |false=>
   simp only[cond_false]
   rcases h with rfl|h
   ·obtain⟨y,hy,hh⟩:=mergeO_mem x ps x (.inl rfl);exact⟨y,List.mem_cons_of_mem _ hy,hh⟩
   rcases List.mem_cons.1 h with rfl|h
   ·exact⟨x,List.mem_cons_self,rfl,rfl,.inl rfl⟩
   obtain⟨y,hy,hh⟩:=mergeO_mem q ps x (.inr h);exact⟨y,List.mem_cons_of_mem _ hy,hh⟩
theorem mergeL_mem:∀{qs:List Oc} (x:Oc),x∈qs→∃y∈mergeL qs,y.1=x.1∧y.2.2=x.2.2∧Sub y.2.1 x.2.1
 |[],x,h=>by cases h
 |[q],x,h=>⟨x,h,rfl,rfl,.inl rfl⟩
 |q::q'::qs,x,h=>by
  rcases List.mem_cons.1 h with rfl|h
  ·exact mergeO_mem x _ x (.inl rfl)
  obtain⟨y,hy,e1,e2,hs⟩:=mergeL_mem (qs:=q'::qs) x h;obtain⟨z,hz,e3,e4,hs2⟩:=mergeO_mem q _ y (.inr hy);exact⟨z,hz,e3.trans e1,e4.trans e2,hs2.trans hs⟩
section
variable {forb dom dom':Nat→Prop}{ρ ρ':Nat→Loc}{w w':World}
theorem Sub.ext {a b:Sto}(h:Sub a b)(hwf:∀g,forb g→g<w.heap.size):Ext (okE forb ρ b.get w) (okE forb ρ a.get w) w w:=by
 rcases h with rfl|h
 ·exact Ext.refl _ _
 exact Ext.of_imp fun g hg=>⟨hg.1,hg.2.1,fun n B hB=>hg.2.2 n B (h n B hB).1⟩
theorem SimE.sub {a b:Sto}(h:Sub a b)(hs:SimE forb dom ρ b.get w):SimE forb dom ρ a.get w:=by
 have hx:=h.ext (forb:=forb) (ρ:=ρ) hs.wf
 rcases h with rfl|h
 ·exact hs
 refine⟨fun n B hB=>?_,fun n B n' B' hB hB'=>hs.inj n B n' B' (h n B hB).1 (h n' B' hB').1,hs.wf,hs.adr⟩;obtain⟨hd,g,o,ha,hg,hf,hk⟩:=hs.own n B (h n B hB).1;refine⟨hd,g,o,ha,hg,hf,?_⟩
 cases B with
 |iter mb kk r c=>exact absurd rfl ((h n _ hB).2 mb kk r c)
 |held=>trivial
 |mem wd cs=>
  obtain⟨h1,cur,e,h2,h3⟩:=hk;exact⟨h1,cur,e,h2,fun j x hj=>by
   obtain⟨u,hu,hr⟩:=h3 j x hj;exact⟨u,hu,RepX.ext hx ⟨fun _ h=>h,fun _ _=>rfl⟩ hr⟩⟩
 |map kk es=>
  obtain⟨h1,ents,clock,h2,h3,h4,h5,h6,h7⟩:=hk;exact⟨h1,ents,clock,h2,h3,h4,h5,fun k t hk=>by
   obtain⟨e,he,hk',hr⟩:=h6 k t hk;exact⟨e,he,hk',RepT.ext hx ⟨fun _ h=>h,fun _ _=>rfl⟩ hr⟩,h7⟩
theorem At.sub {S:Nat→Option EB}{nx nx':Nat}{a b:Sto}(hat:At forb dom ρ S w nx dom' ρ' b.get w' nx')(h:Sub a b):At forb dom ρ S w nx dom' ρ' a.get w' nx':=by
 refine⟨?_,hat.sim.sub h,hat.lt,hat.le,hat.old⟩
 rcases h with rfl|h
 ·exact hat.stp
 exact⟨hat.stp.same,hat.stp.os,hat.stp.tape,hat.stp.output,hat.stp.size,hat.stp.keep,hat.stp.room,fun n B hB hd=>hat.stp.back n B (h n B hB).1 hd,fun n B hB g o ha=>hat.stp.from_ n B (h n B hB).1 g o ha⟩
end
end Go.Eng.Run
noncomputable section
namespace Go.Eng.Run
open Go
inductive Ex where
 |nm
 |ex (id:Nat)
 |rt
abbrev Ou:=Ex×Os
def seqOps (P:Program)(T:Tab)(call:CallT)(n:Nat)(ops:Array Oper):List Oper→Os→Option (List Os)
 |[],s=>some [s]
 |o::os,s=>if dstB o n then(match guardE ops s.1.get o with
  |none=>none
  |some false=>seqOps P T call n ops os (putE s.1 o.dst (.tup []),s.2.1,s.2.2)
  |some true=>(opE P T call s.1.get s.2.1 s.2.2 o).bind fun outs=>bindL outs fun q=>seqOps P T call n ops os (putE s.1 o.dst q.1,q.2.1,q.2.2))else none
def regE (P:Program)(T:Tab)(call:CallT)(n:Nat)(ops:Array Oper)(draw:Bool)(s:Os):Option (List Os):=
 if draw then(if drawSt ops n then drawGoF P T call ops s.1 (planL ops (List.range ops.size)) (ops.size+1) ⟨[],s.1,s.2.1,s.2.2⟩ 0 else none)else seqOps P T call n ops ops.toList s
def runC (P:Program)(T:Tab)(call:CallT)(n:Nat):Nat→Code→Os→Option (List Ou)
 |0,_,_=>none
 |f+1,c,s=>match c with
  |.skip=>some [(.nm,s)]
  |.region _ ops d=>(regE P T call n ops d s).map fun l=>l.map fun y=>(.nm,y)
  |.seq x y=>(runC P T call n f x s).bind fun l=>bindL l fun q=>match q.1 with
   |.nm=>runC P T call n f y q.2
   |e=>some [(e,q.2)]
  |.cond c x y=>match evO s.1.get c with
   |.v (.one (.cl (.bool t)))=>runC P T call n f (if t then x else y) s
   |_=>none
  |.block id c=>(runC P T call n f c s).map fun l=>l.map fun q=>match q.1 with
   |.ex j=>if j=id then(.nm,q.2)else(.ex j,q.2)
   |e=>(e,q.2)
  |.loop c=>(runC P T call n f c s).bind fun l=>bindL l fun q=>match q.1 with
   |.nm=>runC P T call n f (.loop c) q.2
   |e=>some [(e,q.2)]
  |.exit id=>some [(.ex id,s)]
  |.ret=>some [(.rt,s)]
  |_=>none
def exOf:Ex→Exit
 |.nm=>.normal
 |.ex id=>.exit id
 |.rt=>.ret
def envT:List EV→Nat→Tr EV→Tr EV
 |[],_,env=>env
 |x::xs,i,env=>envT xs (i+1) (env.put i (some x))
def resE1 (T:Tab)(env:Nat→Option EV)(S:Nat→Option EB)(r:ResultVar):Option TV:=
 match r with
 |.tmp t=>match env t with
  |some (.v x)=>some x
  |_=>none
 |.cell a t=>match env a with
  |some x=>(plOf x).bind fun b=>(S b).bind fun B=>match load1 T t x B with
   |some (.v y)=>some y
   |_=>none
  |none=>none
def resEL (T:Tab)(env:Nat→Option EV)(S:Nat→Option EB):List ResultVar→Option (List TV)
 |[]=>some []
 |r::rs=>match resE1 T env S r,resEL T env S rs with
  |some x,some xs=>some (x::xs)
  |_,_=>none
def resV1:List TV→EV
 |[x]=>.v x
 |xs=>.tup xs
def callB (P:Program)(T:Tab)(call:CallT)(fuel:Nat)(f:FuncId)(args:List EV)(st:Sto)(nx:Nat):Option (List Oc):=
 match P.funcs[f]? with
 |none=>none
 |some fn=>match fn.body with
  |none=>none
  |some c=>if fn.name== "runtime.NumGoroutine" then none else if args.length≤fn.ntmps then
    (runC P T call fn.ntmps fuel c (envT args 0 .lf,st,nx)).bind fun l=>(bindL l fun q=>match q.1 with
     |.ex _=>none
     |_=>(resEL T q.2.1.get q.2.2.1.get fn.results.toList).map fun xs=>[(resV1 xs,q.2.2.1,q.2.2.2)]).map mergeL else none
section
variable {P:Program}{T:Tab}(hT:TabOk P T)(hmo:P.follows .mixedOrders=true){n:Nat}{forb dom:Nat→Prop}{ρ:Nat→Loc}{w:World}{a:Act}
def RQ (forb dom:Nat→Prop)(ρ:Nat→Loc)(S:Nat→Option EB)(w:World)(nx n:Nat)(L:List Ou)(e:Exit)(a':Act)(w':World):Prop:=
 ∃y∈L,exOf y.1=e∧∃dom' ρ',At forb dom ρ S w nx dom' ρ' y.2.2.1.get w' y.2.2.2∧EnvOk ρ' dom' (okE forb ρ' y.2.2.1.get w') w' n y.2.1.get a'
include hT in
theorem seqOps_sound {call:CallT}(hcall:CallOk P call){ops:Array Oper}{Q:Exit→Act→World→Prop}:∀(os:List Oper) (i:Nat) (s:Os) (L:List Os) (a:Act) (w:World) (dom:Nat→Prop) (ρ:Nat→Loc),ops.toList.drop i=os→seqOps P T call n ops os s=some L→
  SimE forb dom ρ s.2.1.get w→(∀b,dom b→b<s.2.2)→EnvOk ρ dom (okE forb ρ s.2.1.get w) w n s.1.get a→
  (∀y∈L,∀a' w' dom' ρ',At forb dom ρ s.2.1.get w s.2.2 dom' ρ' y.2.1.get w' y.2.2→EnvOk ρ' dom' (okE forb ρ' y.2.1.get w') w' n y.1.get a'→Q .normal a' w')→wpOps P ops Q (List.range' i os.length) a w
 |[],i,s,L,a,w,dom,ρ,_,h,hs,hlt,he,hk=>by
  cases h
  exact hk s (List.mem_singleton.2 rfl) a w dom ρ (At.refl hs hlt) he
 |o::os,i,s,L,a,w,dom,ρ,hdrop,h,hs,hlt,he,hk=>by
  have ho:ops[i]? =some o:=by
   have:(ops.toList.drop i)[0]? =some o:=by rw[hdrop];rfl
   rw[List.getElem?_drop]at this
   simpa using this
  have hdrop':ops.toList.drop (i+1)=os:=by
   rw[←List.drop_drop,hdrop];rfl
  rw[List.length_cons,List.range'_succ,wpOps_cons];simp only[seqOps]at h
  split at h
  ·rename_i hd
   have hd:=dstB_lt hd;unfold wpOp
   try simp only[ho]
   split at h
   ·cases h
   ·rename_i hg
    rw[guardE_wanted he hg,if_neg (by simp)];exact seqOps_sound hcall os (i+1) _ L _ w dom ρ hdrop' h hs hlt (he.put hd ⟨#[],rfl,trivial⟩) hk
   rename_i hg
   rw[guardE_wanted he hg,if_pos rfl];obtain⟨outs,ho',h⟩:=Option.bind_eq_some_iff.1 h;refine .inl (opE_sound hT hcall hs he hlt hd ho' _ Q fun q hq v w' dom' ρ' hat hr=>?_);obtain⟨l,hl,hll⟩:=bindL_mem h q hq;exact seqOps_sound hcall os (i+1) _ l _ w' dom' ρ' hdrop' hl hat.sim hat.lt ((he.ext hat.stp.ext hat.stp.same).put hd hr)
    fun y hy a' w'' dom'' ρ'' hat' he'=>hk y (hll y hy) a' w'' dom'' ρ'' (hat.trans hat') he'
  cases h
theorem below_drew (w:World):Go.RowKit.Below w.heap.size w w.drew:=(below_self w).drew
include hT hmo in
theorem regE_sound {call:CallT}(hcall:CallOk P call){id:Nat}{ops:Array Oper}{draw:Bool}{s:Os}{L:List Os}(h:regE P T call n ops draw s=some L)(hs:SimE forb dom ρ s.2.1.get w)(hlt:∀b,dom b→b<s.2.2)(he:EnvOk ρ dom (okE forb ρ s.2.1.get w) w n s.1.get a):
  (Code.region id ops draw).wp P (RQ forb dom ρ s.2.1.get w s.2.2 n (L.map fun y=>(.nm,y))) a w:=by
 unfold regE at h;have mem:∀y∈L,((Ex.nm,y):Ou)∈L.map fun y=>(Ex.nm,y):=fun y hy=>List.mem_map.2 ⟨y,hy,rfl⟩
 split at h
 ·rename_i hd
  subst hd
  split at h
  ·rename_i hst
   have hst:=drawSt_spec hst;have h:=drawGoF_eq _ (D:=⟨[],s.1,s.2.1,s.2.2⟩) (m:=0) (fun i=>by simp[inE,tb_eq]) h;refine wp_region_any hmo ?_;have hs':=hs.grown (below_drew w);have hstp:Stp dom ρ s.2.1.get w dom ρ s.2.1.get w.drew:=Stp.grown (below_drew w);have he':=he.ext hstp.ext hstp.same;refine wpAny_draw hT hst hcall (env0:=s.1) (forb:=forb) (dom0:=dom) (ρ0:=ρ) (S0:=s.2.1.get) (w0:=w) (nx0:=s.2.2) (OUT:=L) (fun env st nx hy dom' ρ' a' w' hat he=>⟨(.nm,env,st,nx),mem _ hy,rfl,dom',ρ',hat,he⟩) ops.size _ a _ ⟨by simp,fun i hi=>by simp[Array.getD]at hi,?_⟩ ?_
   ·have h0:=h;simp only[drawGo]at h;obtain⟨D,hD,_⟩:=Option.bind_eq_some_iff.1 h;refine⟨ops.size,_,D,L,hD,h0,fun y hy=>hy,emitAll_DI hst _ _ _ ?_ hD⟩;have hS:SLof (Array.replicate ops.size false) ⟨[],s.1,s.2.1,s.2.2⟩=s.2.1.get:=funext fun b=>rfl
    have hE:envLof ops s.1 (Array.replicate ops.size false) ⟨[],s.1,s.2.1,s.2.2⟩=s.1.get:=funext fun t=>by unfold envLof;split<;>rfl
    refine⟨fun i hi=>by simp[Array.getD]at hi,fun m hm=>(by cases hm),fun m hm=>(by cases hm),fun m hm=>(by cases hm),fun m hm=>(by cases hm),fun b B hb=>hlt b (hs.own b B hb).1,fun m hm=>(by cases hm),fun t _=>rfl,dom,ρ,?_⟩;rw[hS,hE];exact⟨hs',fun b hb=>⟨hlt b hb,rfl⟩,hstp,he',O1 _,fun b _ hb=>hb⟩
   unfold toCome
   have:=List.countP_le_length (p:=fun i=>!(Array.replicate ops.size false).getD i false) (l:=List.range ops.size)
   simpa using this
  cases h
 rename_i hd
 have hd:draw=false:=by simpa using hd
 subst hd;refine wp_region ?_;rw[List.range_eq_range']
 have:=seqOps_sound hT hcall (Q:=RQ forb dom ρ s.2.1.get w s.2.2 n (L.map fun y=>(.nm,y))) ops.toList 0 s L a w dom ρ (by simp) h hs hlt he fun y hy a' w' dom' ρ' hat he'=>⟨(.nm,y),mem y hy,rfl,dom',ρ',hat,he'⟩
 simpa using this
include hT hmo in
theorem runC_sound {call:CallT}(hcall:CallOk P call):∀(f:Nat) (c:Code) (s:Os) (L:List Ou),runC P T call n f c s=some L→∀(forb dom:Nat→Prop) (ρ:Nat→Loc) (a:Act) (w:World),SimE forb dom ρ s.2.1.get w→(∀b,dom b→b<s.2.2)→EnvOk ρ dom (okE forb ρ s.2.1.get w) w n s.1.get a→
  c.wp P (RQ forb dom ρ s.2.1.get w s.2.2 n L) a w∧∀c',c= .loop c'→∀Q,(∀e a' w',RQ forb dom ρ s.2.1.get w s.2.2 n L e a' w'→Q e a' w')→Code.rounds P c' Q f a w:=by
 intro f
 induction f with
 |zero=>intro c s L h;cases h
 |succ f ih=>
  intro c s L h forb dom ρ a w hs hlt he;have self:∀(e:Ex),RQ forb dom ρ s.2.1.get w s.2.2 n [(e,s)] (exOf e) a w:=fun e=>⟨(e,s),List.mem_singleton.2 rfl,rfl,dom,ρ,At.refl hs hlt,he⟩
  -- one after the other
  have comp:∀{l:List Ou} {g:Ou→Option (List Ou)} {L:List Ou} {e:Exit} {a':Act} {w':World},bindL l g=some L→RQ forb dom ρ s.2.1.get w s.2.2 n l e a' w'→
    ∃y∈l,exOf y.1=e∧∃L',g y=some L'∧(∀z∈L',z∈L)∧∃dom' ρ',At forb dom ρ s.2.1.get w s.2.2 dom' ρ' y.2.2.1.get w' y.2.2.2∧EnvOk ρ' dom' (okE forb ρ' y.2.2.1.get w') w' n y.2.1.get a':=by
   rintro l g L e a' w' hb ⟨y,hy,hye,dom',ρ',hat,he'⟩;obtain⟨L',h1,h2⟩:=bindL_mem hb y hy;exact⟨y,hy,hye,L',h1,h2,dom',ρ',hat,he'⟩
  have join:∀{L L':List Ou} {y:Ou} {w':World} {dom':Nat→Prop} {ρ':Nat→Loc} {e:Exit} {a'':Act} {w'':World},(∀z∈L',z∈L)→At forb dom ρ s.2.1.get w s.2.2 dom' ρ' y.2.2.1.get w' y.2.2.2→
    RQ forb dom' ρ' y.2.2.1.get w' y.2.2.2 n L' e a'' w''→RQ forb dom ρ s.2.1.get w s.2.2 n L e a'' w'':=by
   rintro L L' y w' dom' ρ' e a'' w'' h1 hat ⟨z,hz,hze,dom'',ρ'',hat',he'⟩;exact⟨z,h1 z hz,hze,dom'',ρ'',hat.trans hat',he'⟩
  cases c with
  |skip=>
   simp only[runC]at h
   cases h
   exact⟨wp_skip (self .nm),fun c' e=>by cases e⟩
  |region id ops d=>
   simp only[runC]at h;obtain⟨L',hL,rfl⟩:=Option.map_eq_some_iff.1 h;exact⟨regE_sound hT hmo hcall hL hs hlt he,fun c' e=>by cases e⟩
  |seq x y=>
   simp only[runC]at h;obtain⟨l,hl,h⟩:=Option.bind_eq_some_iff.1 h;refine⟨wp_seq (wp_mono (ih x s l hl forb dom ρ a w hs hlt he).1 fun e a' w' hq=>?_),fun c' e=>by cases e⟩;obtain⟨q,hq,hqe,L',h1,h2,dom',ρ',hat,he'⟩:=comp h hq
   cases hq1:q.1 with
   |nm=>
    rw[hq1]at hqe h1;subst hqe;exact wp_mono (ih y q.2 L' h1 forb dom' ρ' a' w' hat.sim hat.lt he').1 fun e a'' w'' hr=>join h2 hat hr
   |ex id=>
    rw[hq1]at hqe h1;subst hqe
    cases h1
    exact⟨_,h2 _ (List.mem_singleton.2 rfl),rfl,dom',ρ',hat,he'⟩
   |rt=>
    rw[hq1]at hqe h1;subst hqe
    cases h1
    exact⟨_,h2 _ (List.mem_singleton.2 rfl),rfl,dom',ρ',hat,he'⟩
  |cond c x y=>
   simp only[runC]at h
   split at h
   ·rename_i t hc
    have hev:=he.ev c;rw[hc]at hev;have hev:a.eval c= .bool t:=hev;refine⟨wp_cond hev ?_,fun c' e=>by cases e⟩;exact(ih _ s L h forb dom ρ a w hs hlt he).1
   cases h
  |block id c=>
   simp only[runC]at h;obtain⟨l,hl,rfl⟩:=Option.map_eq_some_iff.1 h;refine⟨wp_block (wp_mono (ih c s l hl forb dom ρ a w hs hlt he).1 fun e a' w' hq=>?_),fun c' e=>by cases e⟩;obtain⟨y,hy,hye,dom',ρ',hat,he'⟩:=hq;have hm:=List.mem_map_of_mem (f:=fun q:Ou=>(match q.1 with
    |.ex j=>if j=id then(.nm,q.2)else(.ex j,q.2)
    |e=>(e,q.2):Ou)) hy
   cases hy1:y.1 with
   |nm=>
    rw[hy1]at hye hm;subst hye;exact⟨_,hm,rfl,dom',ρ',hat,he'⟩
   |rt=>
    rw[hy1]at hye hm;subst hye;exact⟨_,hm,rfl,dom',ρ',hat,he'⟩
   |ex j=>
    rw[hy1]at hye hm;subst hye;simp only[exOf,Exit.inBlock];simp only at hm
    by_cases hj:j=id
    ·rw[if_pos hj]at hm⊢;exact⟨_,hm,rfl,dom',ρ',hat,he'⟩
    rw[if_neg hj]at hm⊢;exact⟨_,hm,rfl,dom',ρ',hat,he'⟩
  |loop c=>
   have rounds:∀Q,(∀e a' w',RQ forb dom ρ s.2.1.get w s.2.2 n L e a' w'→Q e a' w')→Code.rounds P c Q (f+1) a w:=by
    intro Q hQ;simp only[runC]at h;obtain⟨l,hl,h⟩:=Option.bind_eq_some_iff.1 h;rw[rounds_succ];refine wp_mono (ih c s l hl forb dom ρ a w hs hlt he).1 fun e a' w' hq=>?_;obtain⟨q,hq,hqe,L',h1,h2,dom',ρ',hat,he'⟩:=comp h hq
    cases hq1:q.1 with
    |nm=>
     rw[hq1]at hqe h1;subst hqe;exact(ih (.loop c) q.2 L' h1 forb dom' ρ' a' w' hat.sim hat.lt he').2 c rfl Q fun e a'' w'' hr=>hQ e a'' w'' (join h2 hat hr)
    |ex id=>
     rw[hq1]at hqe h1;subst hqe
     cases h1
     exact hQ _ _ _ ⟨_,h2 _ (List.mem_singleton.2 rfl),rfl,dom',ρ',hat,he'⟩
    |rt=>
     rw[hq1]at hqe h1;subst hqe
     cases h1
     exact hQ _ _ _ ⟨_,h2 _ (List.mem_singleton.2 rfl),rfl,dom',ρ',hat,he'⟩
   exact⟨wp_loop_rounds (f+1) (rounds _ fun e a' w' h=>h),fun c' e=>by cases e;exact rounds⟩
  |exit id=>
   simp only[runC]at h
   cases h
   exact⟨wp_exit (self (.ex id)),fun c' e=>by cases e⟩
  |ret=>
   simp only[runC]at h
   cases h
   exact⟨wp_ret (self .rt),fun c' e=>by cases e⟩
  |_=>simp only[runC]at h;cases h
end
end Go.Eng.Run
noncomputable section
namespace Go.Eng.Run
open Go
section
variable {P:Program}{T:Tab}(hT:TabOk P T)(hmo:P.follows .mixedOrders=true){n:Nat}{forb dom:Nat→Prop}{ρ:Nat→Loc}{w:World}{a:Act}
theorem envT_get:∀(args:List EV) (i:Nat) (env:Tr EV) (t:Nat),(envT args i env).get t=if i≤t∧t<i+args.length then args[t-i]? else env.get t
 |[],i,env,t=>by simp[envT];omega
 |x::xs,i,env,t=>by
  simp only[envT,envT_get xs,Tr.get_put,List.length_cons]
  by_cases h:t=i
  ·subst h;rw[if_neg (by omega),if_pos rfl,if_pos (by omega)]
   simp
  by_cases h2:i+1≤t∧t<i+1+xs.length
  ·rw[if_pos h2,if_pos (by omega)];obtain⟨q,rfl⟩:∃q,t=i+1+q:=⟨t-(i+1),by omega⟩;rw[show i+1+q-(i+1)=q by omega,show i+1+q-i=q+1 by omega,List.getElem?_cons_succ]
  rw[if_neg h2,if_neg h,if_neg (by omega)]
theorem RepEL.get {ok:Nat→Prop}:∀{xs:List EV} {vs:List Value},RepEL ρ dom ok w xs vs→∀(j:Nat) x,xs[j]? =some x→∃v,vs[j]? =some v∧RepE ρ dom ok w x v
 |[],[],_,j,c,hj=>by simp at hj
 |c0::cs,v0::vs,h,0,c,hj=>by simp at hj;subst hj;exact⟨v0,rfl,h.1⟩
 |c0::cs,v0::vs,h,j+1,c,hj=>by simpa using RepEL.get h.2 j c (by simpa using hj)
 |[],_::_,h,_,_,_=>h.elim
 |_::_,[],h,_,_,_=>h.elim
theorem RepEL.length {ok:Nat→Prop}:∀{xs:List EV} {vs:List Value},RepEL ρ dom ok w xs vs→xs.length=vs.length
 |[],[],_=>rfl
 |_::xs,_::vs,h=>by simp[RepEL.length h.2]
 |[],_::_,h=>h.elim
 |_::_,[],h=>h.elim
include hT in
theorem resE1_run {S:Nat→Option EB}{env:Nat→Option EV}{r:ResultVar}{x:TV}(hs:SimE forb dom ρ S w)(h:EnvOk ρ dom (okE forb ρ S w) w n env a)(hr:resE1 T env S r=some x):∃v,(evRes a.tmps r).run P w= .ok v w∧RepT ρ dom (okE forb ρ S w) w x v:=by
 cases r with
 |tmp t=>
  simp only[resE1]at hr
  split at hr
  ·rename_i y he
   cases hr
   exact⟨_,rfl,h.env t _ he⟩
  cases hr
 |cell ad t=>
  simp only[resE1]at hr
  split at hr
  ·rename_i y he
   obtain⟨b,hb,hr⟩:=Option.bind_eq_some_iff.1 hr;obtain⟨B,hB,hr⟩:=Option.bind_eq_some_iff.1 hr
   split at hr
   ·rename_i z hl
    cases hr
    obtain⟨g,o',hv,v,h1,h2⟩:=loadAt hT hs (h.env ad _ he) hb hB hl;refine⟨v,?_,h2⟩;simp only[evRes,Sem.run_bind,hv];exact h1
   cases hr
  cases hr
include hT in
theorem resEL_run {S:Nat→Option EB}{env:Nat→Option EV}(hs:SimE forb dom ρ S w)(h:EnvOk ρ dom (okE forb ρ S w) w n env a):∀(rs:List ResultVar) (xs:List TV),resEL T env S rs=some xs→∃vs,(rs.mapM (evRes a.tmps)).run P w= .ok vs w∧RepTL ρ dom (okE forb ρ S w) w xs vs
 |[],xs,hr=>by cases hr;exact⟨[],rfl,trivial⟩
 |r::rs,xs,hr=>by
  simp only[resEL]at hr
  split at hr
  ·rename_i x xs' hx hxs
   cases hr
   obtain⟨v,hv,h1⟩:=resE1_run hT hs h hx;obtain⟨vs,hvs,h2⟩:=resEL_run hs h rs xs' hxs;refine⟨v::vs,?_,h1,h2⟩;rw[List.mapM_cons];simp only[Sem.run_bind,hv,Q7,hvs,Sem.run_pure]
  cases hr
theorem RepTL.length {ok:Nat→Prop}:∀{xs:List TV} {vs:List Value},RepTL ρ dom ok w xs vs→xs.length=vs.length
 |[],[],_=>rfl
 |_::xs,_::vs,h=>by simp[RepTL.length h.2]
 |[],_::_,h=>h.elim
 |_::_,[],h=>h.elim
include hT in
theorem results_run {S:Nat→Option EB}{env:Nat→Option EV}{fn:Func}{xs:List TV}(hs:SimE forb dom ρ S w)(h:EnvOk ρ dom (okE forb ρ S w) w n env a)(hr:resEL T env S fn.results.toList=some xs):
  ∃v,(results fn a.tmps).run P w= .ok v w∧RepE ρ dom (okE forb ρ S w) w (resV1 xs) v:=by
 obtain⟨us,hus,hrep⟩:=resEL_run hT hs h _ _ hr;have hmap:(fn.results.mapM fun
   |.tmp t=>pure (a.tmps.getD t undef)
   |.cell ad t=>do loadVar t (←asAddr (a.tmps.getD ad undef)):Sem (Array Value)).run P w= .ok us.toArray w:=by
  have e:(fun r:ResultVar=>(match r with
   |.tmp t=>pure (a.tmps.getD t undef)
   |.cell ad t=>do loadVar t (←asAddr (a.tmps.getD ad undef)):Sem Value))=evRes a.tmps:=by
   funext r;cases r<;>rfl
  have e2:=congrArg (fun g=>(fn.results.mapM g).run P w) e;refine e2.trans ?_;rw[Array.mapM_eq_mapM_toList,Sem.run_map,hus];rfl
 have hres:(results fn a.tmps).run P w= .ok (if h:us.toArray.size=1 then us.toArray[0]else .tuple us.toArray) w:=by
  unfold results;rw[Sem.run_bind];refine Eq.trans (congrArg (fun x=>Result.andThen x _) hmap) ?_;rfl
 refine⟨_,hres,?_⟩;have hl2:=RepTL.length hrep
 match xs,us,hrep,hl2 with
 |[x],[u],hrep,_=>
  rw[dif_pos (by simp)];exact hrep.1
 |[],[],_,_=>
  rw[dif_neg (by simp)];exact⟨#[],rfl,trivial⟩
 |x::y::xs,u::v::us,hrep,_=>
  rw[dif_neg (by simp)];exact⟨_,rfl,hrep⟩
include hT hmo in
theorem callB_ok {call:CallT}(hcall:CallOk P call)(fuel:Nat):CallOk P (callB P T call fuel):=by
 intro f args st nx outs h;unfold callB at h
 split at h
 ·cases h
 rename_i fn hf
 split at h
 ·cases h
 rename_i c hb
 split at h
 ·cases h
 rename_i hn
 have hn:(fn.name== "runtime.NumGoroutine")=false:=by simpa using hn
 split at h
 ·rename_i hlen
  obtain⟨l,hl,h⟩:=Option.bind_eq_some_iff.1 h;obtain⟨outs0,h0,rfl⟩:=Option.map_eq_some_iff.1 h;refine⟨⟨fn,hf,by rw[hb];rfl,hn⟩,fun forb dom ρ w vs hs hlt hvs=>?_⟩;have hvl:=RepEL.length hvs;simp only[Array.length_toList]at hvl;have he:EnvOk ρ dom (okE forb ρ st.get w) w fn.ntmps (envT args 0 .lf).get {tmps:=vs++Array.replicate (fn.ntmps-vs.size) undef,defers:=[]}:=by
   refine⟨rfl,by simp;omega,fun t e he=>?_⟩;rw[envT_get]at he
   split at he
   ·rename_i ht
    rw[Nat.sub_zero]at he;obtain⟨v,hv,hr⟩:=RepEL.get hvs t e he
    have:(vs++Array.replicate (fn.ntmps-vs.size) undef).getD t undef=v:=by
     rw[Array.getElem?_toList]at hv;have hlt:=(Array.getElem?_eq_some_iff.1 hv).1;simp only[Array.getD_eq_getD_getElem?];rw[Array.getElem?_append_left hlt,hv];rfl
    rw[this];exact hr
   cases he
  refine calls_of_wp hf hb (wp_mono (runC_sound hT hmo hcall fuel c _ l hl forb dom ρ _ w hs hlt he).1 ?_);rintro e a' w' ⟨q,hq,hqe,dom',ρ',hat,he'⟩;obtain⟨L',h1,h2⟩:=bindL_mem h0 q hq;have fin:∀xs,resEL T q.2.1.get q.2.2.1.get fn.results.toList=some xs→L'=[(resV1 xs,q.2.2.1,q.2.2.2)]→a'.defers=[]∧∃v,(results fn a'.tmps).run P w'= .ok v w'∧∃u,Ending.returned v= .returned u∧
    ∃q∈mergeL outs0,∃dom' ρ',At forb dom ρ st.get w nx dom' ρ' q.2.1.get w' q.2.2∧RepE ρ' dom' (okE forb ρ' q.2.1.get w') w' q.1 u:=by
   intro xs hx hL;obtain⟨v,hv,hr⟩:=results_run hT hat.sim he' hx;obtain⟨q',hq',e1,e2,hsub⟩:=mergeL_mem _ (h2 _ (by rw[hL];exact List.mem_singleton.2 rfl));have hat2:=hat.sub hsub;refine⟨he'.hd,v,hv,v,rfl,q',hq',dom',ρ',by rw[e2];exact hat2,?_⟩;rw[e1];exact RepE.ext (hsub.ext hat.sim.wf) ⟨fun _ h=>h,fun _ _=>rfl⟩ hr
  cases hq1:q.1 with
  |ex id=>rw[hq1]at h1;cases h1
  |nm=>
   rw[hq1]at h1 hqe;subst hqe;obtain⟨xs,hx,hL⟩:=Option.map_eq_some_iff.1 h1;exact fin xs hx hL.symm
  |rt=>
   rw[hq1]at h1 hqe;subst hqe;obtain⟨xs,hx,hL⟩:=Option.map_eq_some_iff.1 h1;exact fin xs hx hL.symm
 cases h
def frzD:C→Bool
 |.own .. =>false
 |.win .. =>false
 |.ptr .. =>false
 |.eptr .. =>false
 |.fn .. =>false
 |_=>true
def frzX:X→Bool
 |.cl c=>frzD c
 |.op _ _=>true
 |.oe _ _ _ _=>true
 |_=>false
def frzT:TV→Bool
 |.one x=>frzX x
 |.agg xs=>xs.all frzX
def frzE:EV→Bool
 |.un=>true
 |.v t=>frzT t
 |.tup ts=>ts.all frzT
theorem frzD_rep {ok:Nat→Prop}{c:C}{v:Value}(hc:frzD c=true)(h:RepC ρ dom ok w c v):RepI ok w c v:=by
 cases c<;>simp [frzD]at hc<;>exact h
theorem frzX_rep {ok:Nat→Prop}{x:X}{v:Value}(hx:frzX x=true)(h:RepX ρ dom ok w x v):RepI ok w x.den v:=by
 cases x with
 |cl c=>exact frzD_rep hx h
 |op k d=>exact h
 |oe k d i o=>exact h
 |_=>simp[frzX]at hx
theorem frzXL_rep {ok:Nat→Prop}:∀(xs:List X) (vs:List Value),xs.all frzX=true→RepXL ρ dom ok w xs vs→RepL loc0 dom0 ok w (xs.map X.den) vs
 |[],[],_,_=>trivial
 |x::xs,v::vs,hx,h=>by
  simp only[List.all_cons,Bool.and_eq_true]at hx;exact⟨RepC.of_repI (frzX_rep hx.1 h.1),frzXL_rep xs vs hx.2 h.2⟩
 |[],_::_,_,h=>h.elim
 |_::_,[],_,h=>h.elim
theorem frzT_rep {ok:Nat→Prop}{x:TV}{v:Value}(hx:frzT x=true)(h:RepT ρ dom ok w x v):RepV1 loc0 dom0 ok w x.den v:=by
 cases x with
 |one x=>exact RepC.of_repI (frzX_rep hx h)
 |agg xs=>
  obtain⟨vs,hv,hl⟩:=h;exact⟨vs,hv,frzXL_rep xs vs.toList hx hl⟩
def argOk:EV→Bool
 |.un=>true
 |.v t=>frzT t
 |.tup _=>false
def argV:EV→V
 |.un=>.unk
 |.v t=>t.den
 |.tup _=>.unk
theorem frzA_rep {ok:Nat→Prop}:∀{xs:List EV} {vs:List Value},xs.all argOk=true→RepEL ρ dom ok w xs vs→RepVL loc0 dom0 ok w (xs.map argV) vs
 |[],[],_,_=>trivial
 |x::xs,v::vs,hx,h=>by
  simp only[List.all_cons,Bool.and_eq_true]at hx;refine⟨?_,frzA_rep hx.2 h.2⟩
  cases x with
  |un=>trivial
  |v t=>exact frzT_rep hx.1 h.1
  |tup ts=>cases hx.1
 |[],_::_,_,h=>h.elim
 |_::_,[],_,h=>h.elim
theorem frzX_of {ok:Nat→Prop}{x:X}{v:Value}(hx:frzX x=true)(h:RepC loc0 dom0 ok w x.den v):RepX ρ dom ok w x v:=by
 cases x with
 |cl c=>exact RepC.of_repI (frzD_rep hx h)
 |op k d=>exact h
 |oe k d i o=>exact h
 |_=>simp[frzX]at hx
theorem frzXL_of {ok:Nat→Prop}:∀{xs:List X} {vs:List Value},xs.all frzX=true→RepL loc0 dom0 ok w (xs.map X.den) vs→RepXL ρ dom ok w xs vs
 |[],[],_,_=>trivial
 |x::xs,v::vs,hx,h=>by
  simp only[List.all_cons,Bool.and_eq_true]at hx;exact⟨frzX_of hx.1 h.1,frzXL_of hx.2 h.2⟩
 |[],_::_,_,h=>h.elim
 |_::_,[],_,h=>h.elim
theorem frzT_of {ok:Nat→Prop}{x:TV}{v:Value}(hx:frzT x=true)(h:RepV1 loc0 dom0 ok w x.den v):RepT ρ dom ok w x v:=by
 cases x with
 |one x=>exact frzX_of hx h
 |agg xs=>obtain⟨vs,hv,hl⟩:=h;exact⟨vs,hv,frzXL_of hx hl⟩
theorem frzTL_of {ok:Nat→Prop}:∀{xs:List TV} {vs:List Value},xs.all frzT=true→RepVL loc0 dom0 ok w (xs.map TV.den) vs→RepTL ρ dom ok w xs vs
 |[],[],_,_=>trivial
 |x::xs,v::vs,hx,h=>by
  simp only[List.all_cons,Bool.and_eq_true]at hx;exact⟨frzT_of hx.1 h.1,frzTL_of hx.2 h.2⟩
 |[],_::_,_,h=>h.elim
 |_::_,[],_,h=>h.elim
theorem TV.den_one {t:TV}{ok:Nat→Prop}{v:Value}(h:RepV ρ dom ok w t.den v):RepV1 ρ dom ok w t.den v:=by
 cases t<;>exact h
theorem frzE_of {ok:Nat→Prop}{x:EV}{v:Value}(hx:frzE x=true)(h:RepV loc0 dom0 ok w x.den v):RepE ρ dom ok w x v:=by
 cases x with
 |un=>trivial
 |v t=>exact frzT_of hx (TV.den_one h)
 |tup ts=>obtain⟨vs,hv,hl⟩:=h;exact⟨vs,hv,frzTL_of hx hl⟩
theorem frzA_of {ok:Nat→Prop}:∀{xs:List EV} {vs:List Value},xs.all argOk=true→RepVL loc0 dom0 ok w (xs.map argV) vs→RepEL ρ dom ok w xs vs
 |[],[],_,_=>trivial
 |x::xs,v::vs,hx,h=>by
  simp only[List.all_cons,Bool.and_eq_true]at hx;refine⟨?_,frzA_of hx.2 h.2⟩
  cases x with
  |un=>trivial
  |v t=>exact frzT_of hx.1 h.1
  |tup ts=>cases hx.1
 |[],_::_,_,h=>h.elim
 |_::_,[],_,h=>h.elim
def frzLB (g:X→Option X):List X→Option (List X)
 |[]=>some []
 |x::xs=>match g x with
  |some y=>(frzLB g xs).map fun l=>y::l
  |none=>none
def frzB (
     D:Nat→Bool) (S:Nat→Option EB):Nat→X→Option X
 |0,_=>none
 |f+1,x=>match x with
  |.cl c=>match c with
   |.own b wd off len=>match S b with
    |some (.mem wd' cs)=>match D b with
     |true=>if wd=wd'∧0<wd then(frzLB (frzB D S f) ((cs.drop (off*wd)).take (len*wd))).map fun l=>.op wd l else none
     |false=>none
    |_=>none
   |c=>if frzD c=true then some (.cl c)else none
  |.op w cs=>some (.op w cs)
  |.oe w cs i off=>some (.oe w cs i off)
  |.emp=>some (.op 1 [])
  |_=>none
def frzTB (D:Nat→Bool)(S:Nat→Option EB)(f:Nat):TV→Option TV
 |.one x=>(frzB D S f x).map .one
 |.agg xs=>(frzLB (frzB D S f) xs).map .agg
def frzTL (g:TV→Option TV):List TV→Option (List TV)
 |[]=>some []
 |x::xs=>match g x with
  |some y=>(frzTL g xs).map fun l=>y::l
  |none=>none
def frzEB (D:Nat→Bool)(S:Nat→Option EB)(f:Nat):EV→Option EV
 |.un=>none
 |.v t=>(frzTB D S f t).map .v
 |.tup ts=>(frzTL (frzTB D S f) ts).map .tup
def allD:Nat→Bool:=fun _=>true
theorem frzLB_get {g:X→Option X}:∀{xs ys:List X},frzLB g xs=some ys→ys.length=xs.length∧∀(j:Nat) x,xs[j]? =some x→∃y,ys[j]? =some y∧g x=some y
 |[],ys,h=>by cases h;exact⟨rfl,fun j x hj=>by simp at hj⟩
 |x::xs,ys,h=>by
  simp only[frzLB]at h
  split at h
  ·rename_i y hy
   obtain⟨l,hl,rfl⟩:=Option.map_eq_some_iff.1 h;obtain⟨h1,h2⟩:=frzLB_get hl;refine⟨by simp[h1],fun j x' hj=>?_⟩
   cases j with
   |zero=>simp at hj;subst hj;exact⟨y,rfl,hy⟩
   |succ j=>exact h2 j x' (by simpa using hj)
  cases h
def okW (forb:Nat→Prop)(w:World)(g:Nat):Prop:=g<w.heap.size∧¬forb g
theorem frzB_rep {S:Nat→Option EB}{D:Nat→Bool}{ok':Nat→Prop}(hs:SimE forb dom ρ S w)(k1:∀g,okE forb ρ S w g→ok' g)(k2:∀b B,S b=some B→D b=true→∀g o,(ρ b).addr=some (g,o)→ok' g):∀(f:Nat) (x y:X) (v:Value),frzB D S f x=some y→RepX ρ dom (okE forb ρ S w) w x v→frzX y=true∧RepI ok' w y.den v
 |0,_,_,_,h,_=>by cases h
 |f+1,x,y,v,h,hr=>by
  have hx:Ext (okE forb ρ S w) ok' w w:=Ext.of_imp k1;simp only[frzB]at h
  split at h
  ·rename_i c
   split at h
   ·rename_i b wd off len
    split at h
    ·rename_i wd' cs hl
     split at h
     rotate_left
     ·cases h
     rename_i hDb
     split at h
     ·rename_i hc
      obtain⟨rfl,hw⟩:=hc;obtain⟨l,hfl,rfl⟩:=Option.map_eq_some_iff.1 h;refine⟨rfl,?_⟩;obtain⟨_,g,og,ha,hg1,hg2,hlen,cur,e,hg,hcell⟩:=hs.own b _ hl;obtain⟨_,hle,cap,hcap,hv⟩:=hr;have hle2:(off+len)*wd≤cs.length:=by rw[←hlen];exact O8 _ hle
      rw[Nat.add_mul]at hle2;obtain⟨h1,h2⟩:=frzLB_get hfl;have hll:l.length=len*wd:=by rw[h1];simp;omega
      rcases hv with⟨g',o',o'',ha',hv,ho,_⟩|⟨hn,_⟩
      ·rw[ha]at ha'
       cases ha'
       refine⟨some ⟨g,o'',none⟩,cap,?_,?_,?_⟩
       ·rw[hll,Nat.mul_div_cancel _ hw];exact hv
       ·rw[hll,Nat.mul_div_cancel _ hw];exact hcap
       rw[hll,Nat.mul_div_cancel _ hw]
       by_cases h0:len=0
       ·exact .inl h0
       refine .inr ⟨g,o'',rfl,k2 b _ hl hDb g og ha,fun i j hi hj=>?_⟩
       have ho:o''=og+off*wd:=by rcases ho with ho|ho;omega;exact ho
       have hij:i*wd+j<len*wd:=by
        have:=O8 wd (show i+1≤len by omega)
        rw[Nat.add_mul]at this;omega
       have hjl:i*wd+j<((cs.drop (off*wd)).take (len*wd)).length:=by simp;omega
       obtain⟨y,hy,hgy⟩:=h2 _ _ (X8 hjl);have hcx:cs[off*wd+(i*wd+j)]? =some ((cs.drop (off*wd)).take (len*wd))[i*wd+j]:=by
        rw[←X8 hjl,List.getElem?_take,if_pos hij,List.getElem?_drop]
       obtain⟨u,hu,hru⟩:=hcell _ _ hcx;refine⟨u,?_,?_⟩
       ·rw[cell_of_row w g _ cur e (0,0) hg,ho,Nat.add_assoc];exact hu
       simp only[denL_getD,hy];exact(frzB_rep hs k1 k2 f _ _ _ hgy hru).2
      rw[ha]at hn;cases hn
     cases h
    cases h
   split at h
   ·rename_i hc
    cases h
    exact⟨hc,RepI.ext hx _ _ (frzD_rep hc hr)⟩
   cases h
  ·rename_i w' cs
   cases h
   exact⟨rfl,RepI.ext hx _ _ (frzX_rep (x:=.op w' cs) rfl hr)⟩
  ·rename_i w' cs i off
   cases h
   exact⟨rfl,RepI.ext hx _ _ (frzX_rep (x:=.oe w' cs i off) rfl hr)⟩
  ·cases h
   obtain⟨ad,rfl⟩:=hr;exact⟨rfl,ad,0,rfl,O1 _,.inl rfl⟩
  cases h
theorem frzLB_rep {S:Nat→Option EB}{D:Nat→Bool}{ok':Nat→Prop}(hs:SimE forb dom ρ S w)(k1:∀g,okE forb ρ S w g→ok' g)(k2:∀b B,S b=some B→D b=true→∀g o,(ρ b).addr=some (g,o)→ok' g)(f:Nat):∀(xs ys:List X) (vs:List Value),frzLB (frzB D S f) xs=some ys→RepXL ρ dom (okE forb ρ S w) w xs vs→ys.all frzX=true∧RepL loc0 dom0 ok' w (ys.map X.den) vs
 |[],ys,[],h,_=>by cases h;exact⟨rfl,trivial⟩
 |x::xs,ys,v::vs,h,hr=>by
  simp only[frzLB]at h
  split at h
  ·rename_i y hy
   obtain⟨l,hl,rfl⟩:=Option.map_eq_some_iff.1 h;obtain⟨h1,h2⟩:=frzB_rep hs k1 k2 f _ _ _ hy hr.1;obtain⟨h3,h4⟩:=frzLB_rep hs k1 k2 f xs l vs hl hr.2;exact⟨by simp[h1,h3],RepC.of_repI h2,h4⟩
  cases h
 |[],_,_::_,_,hr=>hr.elim
 |_::_,_,[],_,hr=>hr.elim
theorem frzTB_rep {S:Nat→Option EB}{D:Nat→Bool}{ok':Nat→Prop}(hs:SimE forb dom ρ S w)(k1:∀g,okE forb ρ S w g→ok' g)(k2:∀b B,S b=some B→D b=true→∀g o,(ρ b).addr=some (g,o)→ok' g){f:Nat}{x y:TV}{v:Value}(h:frzTB D S f x=some y)(hr:RepT ρ dom (okE forb ρ S w) w x v):frzT y=true∧RepV1 loc0 dom0 ok' w y.den v:=by
 cases x with
 |one x=>
  obtain⟨z,hz,rfl⟩:=Option.map_eq_some_iff.1 h;obtain⟨h1,h2⟩:=frzB_rep hs k1 k2 f _ _ _ hz hr;exact⟨h1,RepC.of_repI h2⟩
 |agg xs=>
  obtain⟨z,hz,rfl⟩:=Option.map_eq_some_iff.1 h;obtain⟨vs,hv,hl⟩:=hr;obtain⟨h1,h2⟩:=frzLB_rep hs k1 k2 f _ _ _ hz hl;exact⟨h1,vs,hv,h2⟩
theorem frzTL_rep {S:Nat→Option EB}{D:Nat→Bool}{ok':Nat→Prop}(hs:SimE forb dom ρ S w)(k1:∀g,okE forb ρ S w g→ok' g)(k2:∀b B,S b=some B→D b=true→∀g o,(ρ b).addr=some (g,o)→ok' g)(f:Nat):∀(xs ys:List TV) (vs:List Value),frzTL (frzTB D S f) xs=some ys→RepTL ρ dom (okE forb ρ S w) w xs vs→ys.all frzT=true∧RepVL loc0 dom0 ok' w (ys.map TV.den) vs
 |[],ys,[],h,_=>by cases h;exact⟨rfl,trivial⟩
 |x::xs,ys,v::vs,h,hr=>by
  simp only[frzTL]at h
  split at h
  ·rename_i y hy
   obtain⟨l,hl,rfl⟩:=Option.map_eq_some_iff.1 h;obtain⟨h1,h2⟩:=frzTB_rep hs k1 k2 hy hr.1;obtain⟨h3,h4⟩:=frzTL_rep hs k1 k2 f xs l vs hl hr.2;exact⟨by simp[h1,h3],h2,h4⟩
  cases h
 |[],_,_::_,_,hr=>hr.elim
 |_::_,_,[],_,hr=>hr.elim
theorem frzEB_rep {S:Nat→Option EB}{D:Nat→Bool}{ok':Nat→Prop}(hs:SimE forb dom ρ S w)(k1:∀g,okE forb ρ S w g→ok' g)(k2:∀b B,S b=some B→D b=true→∀g o,(ρ b).addr=some (g,o)→ok' g){f:Nat}{x y:EV}{v:Value}(h:frzEB D S f x=some y)(hr:RepE ρ dom (okE forb ρ S w) w x v):frzE y=true∧RepV loc0 dom0 ok' w y.den v:=by
 cases x with
 |un=>cases h
 |v t=>
  obtain⟨z,hz,rfl⟩:=Option.map_eq_some_iff.1 h;obtain⟨h1,h2⟩:=frzTB_rep hs k1 k2 hz hr;exact⟨h1,RepV.of_V1 h2⟩
 |tup ts=>
  obtain⟨z,hz,rfl⟩:=Option.map_eq_some_iff.1 h;obtain⟨vs,hv,hl⟩:=hr;obtain⟨h1,h2⟩:=frzTL_rep hs k1 k2 f _ _ _ hz hl;exact⟨h1,vs,hv,h2⟩
abbrev Orc:=FuncId→Option (List EV→Option EV)
def frzAL (D:Nat→Bool)(S:Nat→Option EB)(f:Nat):List EV→Option (List EV)
 |[]=>some []
 |x::xs=>match frzEB D S f x with
  |some y=>(frzAL D S f xs).map fun l=>y::l
  |none=>none
def visB (S:Nat→Option EB):Nat→X→List Nat
 |0,_=>[]
 |f+1,x=>match x with
  |.cl (.own b _ _ _)=>match S b with
   |some (.mem _ cs)=>b::(cs.map (visB S f)).flatten
   |_=>[b]
  |_=>[]
def visT (S:Nat→Option EB)(f:Nat):TV→List Nat
 |.one x=>visB S f x
 |.agg xs=>(xs.map (visB S f)).flatten
def visE (S:Nat→Option EB)(f:Nat):EV→List Nat
 |.un=>[]
 |.v t=>visT S f t
 |.tup ts=>(ts.map (visT S f)).flatten
def isMem:Option EB→Bool
 |some (.mem _ _)=>true
 |_=>false
def sclX:X→Bool
 |.cl (.bool _)=>true
 |.cl (.int _ _)=>true
 |.cl (.str _)=>true
 |.cl .nil=>true
 |_=>false
def sclT:TV→Bool
 |.one x=>sclX x
 |.agg xs=>xs.all sclX
def sclE:EV→Bool
 |.un=>false
 |.v t=>sclT t
 |.tup ts=>ts.all sclT
def knownC (g:List EV→Option EV)(args:List EV)(st:Sto):Option EV:=
 match g args with
 |some r=>some r
 |none=>bif args.all argOk then none else match frzAL allD st.get 8 args with
  |some az=>match g az with
   |some r=>bif sclE r then some r else none
   |none=>none
  |none=>none
def dropC (g:List EV→Option EV)(args:List EV)(st:Sto):Option (EV×Sto):=
 let ids:=(args.map (visE st.get 8)).flatten
 match ids.all fun b=>isMem (st.get b)with
 |true=>match frzAL (fun b=>ids.contains b) st.get 8 args with
  |some az=>match g az with
   |some r=>some (r,hideT st ids)
   |none=>none
  |none=>none
 |false=>none
structure Dx (P:Program) where
 d:FuncId→Bool
 x:CallT
 ok:CallOk P x
def noX:CallT:=fun _ _ _ _=>none
theorem noX_ok:CallOk P noX:=fun _ _ _ _ _ h=>by cases h
def callN (P:Program)(T:Tab)(orc:Orc)(dr:Dx P)(fuel:Nat):Nat→CallT
 |0=>fun _ _ _ _=>none
 |k+1=>fun f args st nx=>match dr.x f args st nx with
  |some outs=>some outs
  |none=>match orc f with
   |some g=>match knownC g args st with
    |some r=>some [(r,st,nx)]
    |none=>match dr.d f with
     |true=>match dropC g args st with
      |some q=>some [(q.1,q.2,nx)]
      |none=>callB P T (callN P T orc dr fuel k) fuel f args st nx
     |false=>callB P T (callN P T orc dr fuel k) fuel f args st nx
   |none=>callB P T (callN P T orc dr fuel k) fuel f args st nx
theorem frzAL_rep {S:Nat→Option EB}{D:Nat→Bool}{ok':Nat→Prop}(hs:SimE forb dom ρ S w)(k1:∀g,okE forb ρ S w g→ok' g)(k2:∀b B,S b=some B→D b=true→∀g o,(ρ b).addr=some (g,o)→ok' g){f:Nat}:∀{xs ys:List EV} {vs:List Value},frzAL D S f xs=some ys→ys.all argOk=true→RepEL ρ dom (okE forb ρ S w) w xs vs→RepVL loc0 dom0 ok' w (ys.map argV) vs
 |[],_,[],h,_,_=>by cases h;trivial
 |x::xs,ys,v::vs,h,ha,hr=>by
  simp only[frzAL]at h
  split at h
  ·rename_i y hy
   obtain⟨l,hl,rfl⟩:=Option.map_eq_some_iff.1 h;simp only[List.all_cons,Bool.and_eq_true]at ha;refine⟨?_,frzAL_rep hs k1 k2 hl ha.2 hr.2⟩;have h1:=(frzEB_rep hs k1 k2 hy hr.1).2
   cases y with
   |un=>trivial
   |v t=>exact TV.den_one h1
   |tup ts=>cases ha.1
  cases h
 |[],_,_::_,_,_,h=>h.elim
 |_::_,_,[],_,_,h=>h.elim
theorem okW_1 {S:Nat→Option EB}:∀g,okE forb ρ S w g→okW forb w g:=fun _ hg=>⟨hg.1,hg.2.1⟩
theorem okW_2 {S:Nat→Option EB}{D:Nat→Bool}(hs:SimE forb dom ρ S w):∀b B,S b=some B→D b=true→∀g o,(ρ b).addr=some (g,o)→okW forb w g:=fun b B hb _ g o ha=>by
 obtain⟨_,g',o',ha',h1,h2,_⟩:=hs.own b B hb;rw[ha]at ha'
 cases ha'
 exact⟨h1,h2⟩
section
variable {st:Sto}{ids:List Nat}
theorem isMem_of {x:Option EB}(h:isMem x=true){B:EB}(hx:x=some B):∃wd cs,B= .mem wd cs:=by
 subst hx
 cases B<;>first|exact ⟨_,_,rfl⟩|cases h
theorem drop_get {b:Nat}{B:EB}(h:(hideT st ids).get b=some B):b∉ids∧st.get b=some B:=by
 rw[hideT_get]at h
 split at h
 ·cases h
 rename_i hb;exact⟨hb,h⟩
theorem drop_1:∀g,okE forb ρ st.get w g→okE forb ρ (hideT st ids).get w g:=fun _ hg=>⟨hg.1,hg.2.1,fun b B hb=>hg.2.2 b B (drop_get hb).2⟩
theorem drop_2 (hs:SimE forb dom ρ st.get w):∀b B,st.get b=some B→ids.contains b=true→∀g o,(ρ b).addr=some (g,o)→okE forb ρ (hideT st ids).get w g:=fun b B hb hD g o ha=>by
 obtain⟨_,g',o',ha',h1,h2,_⟩:=hs.own b B hb;rw[ha]at ha'
 cases ha'
 refine⟨h1,h2,fun b2 B2 hb2 o2 ha2=>?_⟩;obtain⟨hn,hb3⟩:=drop_get hb2;exact hs.inj b B b2 B2 hb hb3 (fun e=>hn (e▸(by simpa using hD))) g o o2 ha ha2
theorem SimE.drop (hs:SimE forb dom ρ st.get w)(hm:(ids.all fun b=>isMem (st.get b))=true):SimE forb dom ρ (hideT st ids).get w:=by
 refine⟨fun b B hB=>?_,fun n B n' B' hB hB'=>hs.inj n B n' B' (drop_get hB).2 (drop_get hB').2,hs.wf,hs.adr⟩;obtain⟨hn,hb⟩:=drop_get hB;obtain⟨hd,g,o,ha,hg,hf,hk⟩:=hs.own b B hb;refine⟨hd,g,o,ha,hg,hf,BlkOk.ext (Ext.of_imp drop_1) ⟨fun _ h=>h,fun _ _=>rfl⟩ rfl (fun b' hb'=>⟨?_,(hs.own b' _ hb').1,fun _ _ _=>rfl⟩) hk⟩;rw[hideT_get]
 split
 ·rename_i hi
  obtain⟨_,_,h⟩:=isMem_of (List.all_eq_true.1 hm b' hi) hb'
  cases h
 exact hb'
end
theorem sclX_of {ok ok':Nat→Prop}{w':World}{x:X}{v:Value}(hx:sclX x=true)(h:RepC loc0 dom0 ok w x.den v):RepX ρ dom ok' w' x v:=by
 unfold sclX at hx
 split at hx<;>first|exact h|cases hx
theorem sclXL_of {ok ok':Nat→Prop}{w':World}:∀{xs:List X} {vs:List Value},xs.all sclX=true→RepL loc0 dom0 ok w (xs.map X.den) vs→RepXL ρ dom ok' w' xs vs
 |[],[],_,_=>trivial
 |x::xs,v::vs,hx,h=>by
  simp only[List.all_cons,Bool.and_eq_true]at hx;exact⟨sclX_of hx.1 h.1,sclXL_of hx.2 h.2⟩
 |[],_::_,_,h=>h.elim
 |_::_,[],_,h=>h.elim
theorem sclT_of {ok ok':Nat→Prop}{w':World}{x:TV}{v:Value}(hx:sclT x=true)(h:RepV1 loc0 dom0 ok w x.den v):RepT ρ dom ok' w' x v:=by
 cases x with
 |one x=>exact sclX_of hx h
 |agg xs=>obtain⟨vs,hv,hl⟩:=h;exact⟨vs,hv,sclXL_of hx hl⟩
theorem sclTL_of {ok ok':Nat→Prop}{w':World}:∀{xs:List TV} {vs:List Value},xs.all sclT=true→RepVL loc0 dom0 ok w (xs.map TV.den) vs→RepTL ρ dom ok' w' xs vs
 |[],[],_,_=>trivial
 |x::xs,v::vs,hx,h=>by
  simp only[List.all_cons,Bool.and_eq_true]at hx;exact⟨sclT_of hx.1 h.1,sclTL_of hx.2 h.2⟩
 |[],_::_,_,h=>h.elim
 |_::_,[],_,h=>h.elim
theorem sclE_of {ok ok':Nat→Prop}{w':World}{x:EV}{v:Value}(hx:sclE x=true)(h:RepV loc0 dom0 ok w x.den v):RepE ρ dom ok' w' x v:=by
 cases x with
 |un=>cases hx
 |v t=>exact sclT_of hx (TV.den_one h)
 |tup ts=>obtain⟨vs,hv,hl⟩:=h;exact⟨vs,hv,sclTL_of hx hl⟩
def OrcOk (P:Program)(orc:Orc):Prop:=∀f g,orc f=some g→∀args r,g args=some r→args.all argOk=true∧frzE r=true∧Pr P f (args.map argV) r.den
include hT hmo in
theorem callN_ok {orc:Orc}(horc:OrcOk P orc)(dr:Dx P)(fuel:Nat):∀k,CallOk P (callN P T orc dr fuel k)
 |0=>fun f args st nx outs h=>by cases h
 |k+1=>fun f args st nx outs h=>by
  simp only[callN]at h
  split at h
  ·rename_i outs' ho
   cases h
   exact dr.ok f args st nx _ ho
  split at h
  ·rename_i g hg
   split at h
   ·rename_i r hr
    cases h
    have fin:∀forb dom (ρ:Nat→Loc) (w w':World) (hs:SimE forb dom ρ st.get w) (_:∀b,dom b→b<nx) (v:Value),Go.RowKit.Below w.heap.size w w'→(∀ρ' dom' ok',ρ'=ρ→dom'=dom→ok'=okE forb ρ st.get w'→RepE ρ' dom' ok' w' r v)→
      ∃v',Ending.returned v= .returned v'∧∃q∈[((r,st,nx):Oc)],∃dom' ρ',At forb dom ρ st.get w nx dom' ρ' q.2.1.get w' q.2.2∧RepE ρ' dom' (okE forb ρ' q.2.1.get w') w' q.1 v':=fun forb dom ρ w w' hs hlt v hb hrv=>
     ⟨v,rfl,(r,st,nx),List.mem_singleton.2 rfl,dom,ρ,⟨Stp.grown hb,hs.grown hb,hlt,O1 _,fun _ _ h=>h⟩,hrv _ _ _ rfl rfl rfl⟩
    unfold knownC at hr
    split at hr
    ·rename_i r' hr'
     cases hr
     obtain⟨h1,h2,h3,h4⟩:=horc f g hg args r hr';refine⟨h3,fun forb dom ρ w vs hs hlt hvs=>?_⟩;refine Calls.mono (h4 (okE forb ρ st.get w) w vs (fun g hg=>hg.1) (frzA_rep h1 hvs)) fun e w' he=>?_;obtain⟨v,rfl,hb,hrv⟩:=he;refine fin forb dom ρ w w' hs hlt v hb fun ρ' dom' ok' e1 e2 e3=>?_;subst e1;subst e2;subst e3;have hat:Stp dom' ρ' st.get w dom' ρ' st.get w':=Stp.grown hb;refine frzE_of h2 (RepV.ext (Ext.of_imp fun g hg=>?_) ⟨fun _ h=>h,fun _ _=>rfl⟩ _ _ hrv)
     rcases hg with hg|⟨hg1,hg2⟩
     ·exact(hat.ext.block g hg).1
     exact⟨hg2,fun hf=>by have:=hs.wf g hf;omega,fun b B hb' o ha=>by have:=hs.lt hb' ha;omega⟩
    cases hall:args.all argOk with
    |true=>rw[hall]at hr;cases hr
    |false=>
     rw[hall]at hr;simp only[cond_false]at hr
     split at hr
     ·rename_i az has
      split at hr
      ·rename_i r' hr'
       cases hsc:sclE r' with
       |false=>rw[hsc]at hr;cases hr
       |true=>
        rw[hsc]at hr;simp only[cond_true,Q6]at hr;subst hr;obtain⟨h1,h2,h3,h4⟩:=horc f g hg az r' hr';refine⟨h3,fun forb dom ρ w vs hs hlt hvs=>?_⟩;refine Calls.mono (h4 (okW forb w) w vs (fun g hg=>hg.1) (frzAL_rep hs okW_1 (okW_2 hs) has h1 hvs)) fun e w' he=>?_;obtain⟨v,rfl,hb,hrv⟩:=he;exact fin forb dom ρ w w' hs hlt v hb fun ρ' dom' ok' _ _ _=>sclE_of hsc hrv
      cases hr
     cases hr
   split at h
   ·split at h
    ·rename_i q hq
     cases h
     unfold dropC at hq;simp only at hq
     split at hq
     ·rename_i hm
      split at hq
      ·rename_i az has
       split at hq
       ·rename_i r hr
        obtain rfl:=Option.some.inj hq
        generalize hids:(args.map (visE st.get 8)).flatten=ids at hm has⊢
        obtain⟨h1,h2,h3,h4⟩:=horc f g hg az r hr;refine⟨h3,fun forb dom ρ w vs hs hlt hvs=>?_⟩;refine Calls.mono (h4 (okE forb ρ (hideT st ids).get w) w vs (fun g hg=>hg.1) (frzAL_rep hs drop_1 (drop_2 hs) has h1 hvs)) fun e w' he=>?_;obtain⟨v,rfl,hb,hrv⟩:=he;have hs':=hs.drop hm;have hat0:Stp dom ρ (hideT st ids).get w dom ρ (hideT st ids).get w':=Stp.grown hb;have hat:Stp dom ρ st.get w dom ρ st.get w':=Stp.grown hb;refine⟨v,rfl,(r,hideT st ids,nx),List.mem_singleton.2 rfl,dom,ρ,⟨⟨hat.same,hat.os,hat.tape,hat.output,hat.size,hat.keep,hat.room,fun n B hB hd=>hat.back n B (drop_get hB).2 hd,fun n B hB g o ha=>hat.from_ n B (drop_get hB).2 g o ha⟩,hs'.grown hb,hlt,O1 _,fun _ _ h=>h⟩,?_⟩;refine frzE_of h2 (RepV.ext (Ext.of_imp fun g hg=>?_) ⟨fun _ h=>h,fun _ _=>rfl⟩ _ _ hrv)
        rcases hg with hg|⟨hg1,hg2⟩
        ·exact(hat0.ext.block g hg).1
        exact⟨hg2,fun hf=>by have:=hs.wf g hf;omega,fun b B hb' o ha=>by have:=hs'.lt hb' ha;omega⟩
       cases hq
      cases hq
     cases hq
    exact callB_ok hT hmo (callN_ok horc dr fuel k) fuel f args st nx outs h
   exact callB_ok hT hmo (callN_ok horc dr fuel k) fuel f args st nx outs h
  exact callB_ok hT hmo (callN_ok horc dr fuel k) fuel f args st nx outs h
def allR (l:Option (List Oc))(fz:Nat)(r:EV):Bool:=
 match l with
 |some l=>l.all fun q=>match frzEB allD q.2.1.get fz q.1 with
  |some e=>eqE e r
  |none=>false
 |none=>false
include hT hmo in
theorem pure_of_runs {orc:Orc}(horc:OrcOk P orc)(dr:Dx P){fuel k fz:Nat}{f:FuncId}{args:List EV}{r:EV}(ha:args.all argOk=true)(h:allR (callN P T orc dr fuel k f args .lf 1) fz r=true):Pr P f (args.map argV) r.den:=by
 unfold allR at h
 split at h
 ·rename_i l hl
  obtain⟨h1,h2⟩:=callN_ok hT hmo horc dr fuel k f args .lf 1 l hl;refine⟨h1,fun ok w vs hok hvs=>?_⟩;have hs:SimE (fun g=>g<w.heap.size∧¬ok g) (fun _=>False) loc0 (Tr.lf:Sto).get w:=⟨fun b B hb=>(by cases hb),fun b B b' B' hb=>(by cases hb),fun g hg=>hg.1,fun b hb=>hb.elim⟩;have hx:Ext ok (okE (fun g=>g<w.heap.size∧¬ok g) loc0 (Tr.lf:Sto).get w) w w:=Ext.of_imp fun g hg=>⟨hok g hg,fun hf=>hf.2 hg,fun b B hb=>by cases hb⟩;have hargs:=frzA_of (ρ:=loc0) (dom:=fun _=>False) ha (RepVL.ext hx ⟨fun _ h=>h,fun _ _=>rfl⟩ _ _ hvs);refine Calls.mono (h2 _ _ _ w vs hs (fun b hb=>hb.elim) hargs) fun e w' he=>?_;obtain⟨v,rfl,q,hq,dom',ρ',hat,hr⟩:=he;have hq':=List.all_eq_true.1 h q hq;refine⟨v,rfl,⟨hat.stp.os,hat.stp.tape,hat.stp.output,hat.stp.size,fun g hg=>hat.stp.keep g hg fun b B hb=>by cases hb⟩,?_⟩
  split at hq'
  ·rename_i e he
   rw[←eqE_eq hq'];refine RepV.ext (Ext.of_imp fun g hg=>?_) ⟨fun _ h=>h,fun _ _=>rfl⟩ _ _ (frzEB_rep hat.sim okW_1 (okW_2 hat.sim) he hr).2;obtain⟨h3,h4⟩:=hg
   by_cases h5:g<w.heap.size
   ·exact .inl (Classical.byContradiction fun h6=>h4 ⟨h5,h6⟩)
   exact .inr ⟨by omega,h3⟩
  cases hq'
 cases h
abbrev Tbl:=Tr (List (List EV×EV))
structure Ent where
 f:FuncId
 args:List EV
 r:EV
def findT:List (List EV×EV)→List EV→Option EV
 |[],_=>none
 |e::l,args=>if eqEL e.1 args then some e.2 else findT l args
def orcT (tb:Tbl):Orc:=fun f=>(tb.get f).map findT
def TblOk (P:Program)(tb:Tbl):Prop:=∀f l,tb.get f=some l→∀e∈l,e.1.all argOk=true∧frzE e.2=true∧Pr P f (e.1.map argV) e.2.den
theorem findT_mem:∀{l:List (List EV×EV)} {args:List EV} {r:EV},findT l args=some r→(args,r)∈l
 |[],_,_,h=>by cases h
 |e::l,args,r,h=>by
  simp only[findT]at h
  split at h
  ·rename_i he
   cases h
   rw[←eqEL_eq he];exact List.mem_cons_self
  exact List.mem_cons_of_mem _ (findT_mem h)
theorem orcT_ok {tb:Tbl}(h:TblOk P tb):OrcOk P (orcT tb):=by
 intro f g hg args r hr;obtain⟨l,hl,rfl⟩:=Option.map_eq_some_iff.1 hg;exact h f l hl _ (findT_mem hr)
def addT (tb:Tbl)(e:Ent):Tbl:=tb.put e.f (some ((e.args,e.r)::(tb.get e.f).getD []))
def addTs (tb:Tbl)(es:List Ent):Tbl:=es.foldl addT tb
theorem TblOk.nil:TblOk P .lf:=fun f l h=>by cases h
theorem TblOk.add {tb:Tbl}(h:TblOk P tb){e:Ent}(h1:e.args.all argOk=true)(h2:frzE e.r=true)(h3:Pr P e.f (e.args.map argV) e.r.den):TblOk P (addT tb e):=by
 intro f l hl e' he;rw[addT,Tr.get_put]at hl
 split at hl
 ·rename_i hf
  subst hf
  cases hl
  rcases List.mem_cons.1 he with rfl|he
  ·exact⟨h1,h2,h3⟩
  cases ht:tb.get e.f with
  |none=>rw[ht]at he;cases he
  |some l=>rw[ht]at he;exact h _ l ht e' he
 exact h f l hl e' he
def chkT (P:Program)(T:Tab)(dr:Dx P)(fuel k fz:Nat):Tbl→List Ent→Bool
 |_,[]=>true
 |tb,e::es=>e.args.all argOk&&frzE e.r&&allR (callN P T (orcT tb) dr fuel k e.f e.args .lf 1) fz e.r&&chkT P T dr fuel k fz (addT tb e) es
include hT hmo in
theorem chkT_ok (dr:Dx P){fuel k fz:Nat}:∀{es:List Ent} {tb:Tbl},TblOk P tb→chkT P T dr fuel k fz tb es=true→TblOk P (addTs tb es)
 |[],tb,h,_=>h
 |e::es,tb,h,hc=>by
  simp only[chkT,Bool.and_eq_true]at hc;show TblOk P (addTs (addT tb e) es);exact chkT_ok dr (h.add hc.1.1.1 hc.1.1.2 (pure_of_runs hT hmo (orcT_ok h) dr hc.1.1.1 hc.1.2)) hc.2
end
end Go.Eng.Run
noncomputable section
namespace Go.Eng.Run
open Go
variable {P:Program}
theorem ints_of_op {ok:Nat→Prop}{w:World}{k:IntKind}{zs:List Int}{v:Value}(h:RepI ok w (X.op 1 (zs.map fun n=>X.cl (.int k n))).den v):RepI ok w (.ints k zs) v:=by
 obtain⟨ad,cap,h1,h2,h3⟩:=h;simp only[List.length_map,Nat.div_one]at h1 h2 h3;refine⟨ad,cap,h1,h2,h3.imp id ?_⟩;rintro⟨g,o,h4,h5,h6⟩;refine⟨g,o,h4,h5,fun i hi=>?_⟩;obtain⟨u,hu,hr⟩:=h6 i 0 hi (by omega);simp only[Nat.mul_one,Nat.add_zero,denL_getD,List.getElem?_map,X8 hi,Option.map_some,Option.getD_some,X.den]at hu hr;have hr:u= .int k zs[i]:=hr;rw[hu,hr,X7,X8 hi];rfl
theorem pure_ints {f:FuncId}{k:IntKind}{zs:List Int}{r:V}(h:Pr P f [.one (.ints k zs)] r):Pr P f ([.v (.one (X.op 1 (zs.map fun n=>X.cl (.int k n))))].map argV) r:=by
 obtain⟨h1,h2⟩:=h;refine⟨h1,fun ok w vs hok hr=>h2 ok w vs hok ?_⟩
 cases hv:vs.toList with
 |nil=>rw[hv]at hr;exact hr.elim
 |cons v l=>
  rw[hv]at hr;exact⟨ints_of_op hr.1,hr.2⟩
theorem pure_nil {f:FuncId}{k:IntKind}{r:V}(h:Pr P f [.one (.ints k [])] r):Pr P f ([.v (.one (X.cl .nil))].map argV) r:=by
 obtain⟨h1,h2⟩:=h;refine⟨h1,fun ok w vs hok hr=>h2 ok w vs hok ?_⟩
 cases hv:vs.toList with
 |nil=>rw[hv]at hr;exact hr.elim
 |cons v l=>
  rw[hv]at hr;refine⟨?_,hr.2⟩
  have:v= .slice none 0 0:=hr.1
  rw[this];exact⟨none,0,rfl,O1 _,.inl rfl⟩
theorem ints0_rows {k:IntKind}{f:Nat→Nat→C}:CLe (.ints k []) (.rows 1 0 f):=fun _ _ _ ⟨ad,cap,h1,h2,_⟩=>⟨ad,cap,h1,h2,.inl rfl⟩
theorem pure_zero {f:FuncId}{k:IntKind}(h:Pr P f [.one (.ints k [])] (.one (.ints k []))):Pr P f ([EV.v (.one (X.op 1 []))].map argV) (EV.v (.one (X.op 1 []))).den:=
 pure_ints (k:=k) (zs:=[]) (h.res fun ok w v hr=>ints0_rows ok w v hr)
abbrev yo (w:Nat)(cs:List X):X:=.op w cs
abbrev yi (n:Int):X:=.cl (.int .i64 n)
abbrev yu (n:Int):X:=.cl (.int .u32 n)
abbrev yk (k:IntKind)(n:Int):X:=.cl (.int k n)
abbrev yt:X:=.cl (.bool true)
abbrev yf:X:=.cl (.bool false)
abbrev yz:X:=.cl .nil
end Go.Eng.Run
namespace Go.Proofs.YtaihcpdpmijifaaGreat
open Go Go.Eng Go.Eng.Run
theorem tou (n:Nat)(hn:n<2^64)(zs:List Int)(h:limbs n=zs):Pr Tryz.prog 238 ([EV.v (.one (X.op 1 (zs.map fun n=>X.cl (.int .u32 n))))].map argV) (EV.v (.one (.cl (.int .u64 n)))).den:=by
 have:=itoUint_spec n hn
 rw[h]at this;exact pure_ints this
theorem tou0:Pr Tryz.prog 238 ([EV.v (.one (X.cl .nil))].map argV) (EV.v (.one (.cl (.int .u64 0)))).den:=by
 have:=itoUint_spec 0 (by decide)
 rw[limbs_zero]at this;exact pure_nil this
theorem lim1 {n:Nat}(h0:0<n)(h:n<4294967296):limbs n=[(n:Int)]:=by
 rw[limbs_pos h0,show n%BB=n from O7 h,show n/BB=0 from Nat.div_eq_of_lt h,limbs_zero]
section
noncomputable def tbA:Tbl:=addTs .lf [⟨238,[(.v (.one (yo 1 [(yu 1)])))],(.v (.one (yk .u64 1)))⟩,
 ⟨238,[(.v (.one (yo 1 [])))],(.v (.one (yk .u64 0)))⟩,
 ⟨238,[(.v (.one yz))],(.v (.one (yk .u64 0)))⟩,
 ⟨238,[(.v (.one (yo 1 [(yu 2)])))],(.v (.one (yk .u64 2)))⟩,
 ⟨238,[(.v (.one (yo 1 [(yu 4)])))],(.v (.one (yk .u64 4)))⟩,
 ⟨238,[(.v (.one (yo 1 [(yu 8)])))],(.v (.one (yk .u64 8)))⟩,
 ⟨238,[(.v (.one (yo 1 [(yu 3)])))],(.v (.one (yk .u64 3)))⟩,
 ⟨238,[(.v (.one (yo 1 [(yu 64)])))],(.v (.one (yk .u64 64)))⟩,
 ⟨238,[(.v (.one (yo 1 [(yu 5)])))],(.v (.one (yk .u64 5)))⟩,
 ⟨238,[(.v (.one (yo 1 [(yu 9)])))],(.v (.one (yk .u64 9)))⟩,
 ⟨238,[(.v (.one (yo 1 [(yu 25)])))],(.v (.one (yk .u64 25)))⟩,
 ⟨238,[(.v (.one (yo 1 [(yu 16)])))],(.v (.one (yk .u64 16)))⟩,
 ⟨238,[(.v (.one (yo 1 [(yu 625)])))],(.v (.one (yk .u64 625)))⟩,
 ⟨167,[(.v (.one (yo 1 [])))],(.v (.one (yo 1 [])))⟩]
theorem tbA_ok:TblOk Tryz.prog tbA:=((((((((((((((TblOk.nil).add (e:=⟨238,[(.v (.one (yo 1 [(yu 1)])))],(.v (.one (yk .u64 1)))⟩) rfl rfl (tou 1 (by decide) [1] (lim1 (by decide) (by decide)))).add (e:=⟨238,[(.v (.one (yo 1 [])))],(.v (.one (yk .u64 0)))⟩) rfl rfl (tou 0 (by decide) [] limbs_zero)).add (e:=⟨238,[(.v (.one yz))],(.v (.one (yk .u64 0)))⟩) rfl rfl (tou0)).add (e:=⟨238,[(.v (.one (yo 1 [(yu 2)])))],(.v (.one (yk .u64 2)))⟩) rfl rfl (tou 2 (by decide) [2] (lim1 (by decide) (by decide)))).add (e:=⟨238,[(.v (.one (yo 1 [(yu 4)])))],(.v (.one (yk .u64 4)))⟩) rfl rfl (tou 4 (by decide) [4] (lim1 (by decide) (by decide)))).add (e:=⟨238,[(.v (.one (yo 1 [(yu 8)])))],(.v (.one (yk .u64 8)))⟩) rfl rfl (tou 8 (by decide) [8] (lim1 (by decide) (by decide)))).add (e:=⟨238,[(.v (.one (yo 1 [(yu 3)])))],(.v (.one (yk .u64 3)))⟩) rfl rfl (tou 3 (by decide) [3] (lim1 (by decide) (by decide)))).add (e:=⟨238,[(.v (.one (yo 1 [(yu 64)])))],(.v (.one (yk .u64 64)))⟩) rfl rfl (tou 64 (by decide) [64] (lim1 (by decide) (by decide)))).add (e:=⟨238,[(.v (.one (yo 1 [(yu 5)])))],(.v (.one (yk .u64 5)))⟩) rfl rfl (tou 5 (by decide) [5] (lim1 (by decide) (by decide)))).add (e:=⟨238,[(.v (.one (yo 1 [(yu 9)])))],(.v (.one (yk .u64 9)))⟩) rfl rfl (tou 9 (by decide) [9] (lim1 (by decide) (by decide)))).add (e:=⟨238,[(.v (.one (yo 1 [(yu 25)])))],(.v (.one (yk .u64 25)))⟩) rfl rfl (tou 25 (by decide) [25] (lim1 (by decide) (by decide)))).add (e:=⟨238,[(.v (.one (yo 1 [(yu 16)])))],(.v (.one (yk .u64 16)))⟩) rfl rfl (tou 16 (by decide) [16] (lim1 (by decide) (by decide)))).add (e:=⟨238,[(.v (.one (yo 1 [(yu 625)])))],(.v (.one (yk .u64 625)))⟩) rfl rfl (tou 625 (by decide) [625] (lim1 (by decide) (by decide)))).add (e:=⟨167,[(.v (.one (yo 1 [])))],(.v (.one (yo 1 [])))⟩) rfl rfl (pure_zero (cloneU_spec [] (by decide)))
end
noncomputable def drX:Dx Tryz.prog:=⟨fun f=>Nat.beq f 16,noX,noX_ok⟩
end Go.Proofs.YtaihcpdpmijifaaGreat
