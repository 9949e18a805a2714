/-
  EquationEval: for every input the law returns true, and each argument reads afterwards as it read before. No condition beyond the given row's own cells.
  (Text 4 of 10; made by a program out of smaller texts.)
-/
import Derived.RangeFuncBox
import Derived.RangeFuncLeaves
import Derived.Shelf.Abstract
import Derived.WalkKit
import Derived.OwnWalkIn
import Derived.TacticsInMore
import Derived.LoopNIn
import Derived.LoopIn
import Derived.Lib.Hide
import Derived.Test.YtgalhjhdgkoemaaGreatChecked
import Derived.Test.YtgalhjhdgkoemaaGreatPa
import Derived.Test.YtgalhjhdgkoemaaGreatP3
set_option linter.unusedSimpArgs false
set_option linter.unusedVariables false
set_option maxHeartbeats 16000000
set_option maxRecDepth 10000
open Nat renaming reduceAdd→J1,reduceMul→J2,reduceSub→J3,reduceEqDiff→J4,reduceLT→J5,reduceLeDiff→J6,reduceBEq→J7,reduceDiv→J8,reduceMod→J9,reducePow→J0
open Int renaming reduceToNat→K1,reduceLE→K2,reduceLT→K3,reduceEq→K4,reducePow→K5,reduceSub→K6,reduceNeg→K7,natCast_add→X2,natCast_one→X3,natCast_zero→X4
open List renaming getD_cons_zero→X0,getD_cons_succ→X1,length_take→X5,length_append→X6,getD_eq_getElem?_getD→X7,getElem?_eq_getElem→X8
/-
  The long division, round by round.
-/
namespace Go.Eng
structure jz (A V m j:Nat) (us qs:List Int):Prop where
 dj:GX V (nl V)
 le:nl V+j≤m
 ulen:us.length=m
 uin:bF us
 qlen:m≤qs.length+nl V
 qin:bF qs
 eq:val qs*V+val us=A
 lt:val us<V*BB^j
 dvd:∃Q,val qs=BB^j*Q
theorem jz.at {A V m i:Nat}{us qs:List Int}(h:jz A V m (i+1) us qs):At V (nl V) i (val us):=⟨h.dj,h.lt⟩
theorem jz.init {A V m l:Nat}(hn:GX V (nl V))(hm:nl V≤m)(hA:2*A<BB^m)(hl:m≤l+nl V):jz A V m (m-nl V) (iq m A) (List.replicate l 0):=by
 have e:BB^m=BB^nl V*BB^(m-nl V):=by rw[←Nat.pow_add];congr 1;omega
 have h1:BB^nl V*BB^(m-nl V)≤2*V*BB^(m-nl V):=Nat.mul_le_mul_right _ hn.big;have hv:val (iq m A)=A:=jn (by omega);refine⟨hn,by omega,aK _ _,gj _ _,by simpa using hl,bF.replicate _,by rw[cA,hv];omega,?_,0,by rw[cA];simp⟩;rw[hv];rw[Nat.mul_assoc]at h1;omega
theorem jz.q {A V m i:Nat}{us qs:List Int}(h:jz A V m (i+1) us qs):val us/BB^i/V<BB:=by
 rw[Nat.div_lt_iff_lt_mul h.dj.pos,Nat.mul_comm];exact h.at.U.1
theorem jz.step {A V m i:Nat}{us qs us':List Int}(h:jz A V m (i+1) us qs)(hl:us'.length=us.length)(hi:bF us')(hv:val us'=val us-BB^i*(val us/BB^i/V*V)):
  jz A V m i us' (qs.set i ((val us/BB^i/V:Nat):Int)):=by
 obtain⟨s1,s2⟩:=h.at.step;have hq:=h.q;obtain⟨Q,hQ⟩:=h.dvd;have hle:=h.le;have hiq:i<qs.length:=by have:=h.qlen;omega
 have h0:qs.getD i 0=0:=by
  rw[da h.qin,hQ,Nat.pow_succ,Nat.mul_assoc,Nat.mul_div_cancel_left _ (Nat.pow_pos (by decide)),Nat.mul_mod_right];rfl
 have e:=dK (xs:=qs) (i:=i) (x:=((val us/BB^i/V:Nat):Int)) hiq;rw[h0]at e;simp only[Int.toNat_zero,Nat.mul_zero,Nat.add_zero,Int.toNat_natCast]at e;have heq:=h.eq
 generalize val us/BB^i/V=q at*
 refine⟨h.dj,by omega,by rw[hl];exact h.ulen,hi,by rw[List.length_set];exact h.qlen,h.qin.set _ ⟨by omega,by unfold BB at hq;omega⟩,?_,by rw[hv];exact s1,BB*Q+q,?_⟩
 ·rw[e,Nat.add_mul,hv,Nat.mul_assoc];omega
 rw[e,hQ,Nat.pow_succ,Nat.mul_add,Nat.mul_assoc]
theorem jz.done {a b k m:Nat}{us qs:List Int}(hb:0<b)(h:jz (a*2^k) (b*2^k) m 0 us qs):val qs=a/b∧val us=(a%b)*2^k∧val us<BB^nl (b*2^k):=by
 have h1:=h.eq;have h2:=h.lt;rw[Nat.pow_zero,Nat.mul_one]at h2;have hk:0<2^k:=Nat.pow_pos (by decide);have e1:val qs=a*2^k/(b*2^k):=by
  rw[←h1,Nat.mul_comm,Nat.mul_add_div h.dj.pos,Nat.div_eq_of_lt h2,Nat.add_zero]
 have e2:val us=a*2^k% (b*2^k):=by
  rw[←h1,Nat.mul_comm,Nat.mul_add_mod,Nat.mod_eq_of_lt h2]
 rw[Nat.mul_div_mul_right _ _ hk]at e1;rw[Nat.mul_mod_mul_right]at e2;exact⟨e1,e2,Nat.lt_trans h2 h.dj.lt⟩
structure pz (xs:List Int) (off U D m k:Nat) (zs:List Int):Prop where
 le:k≤m
 len:zs.length=xs.length
 inr:bF zs
 up:zs.drop (off+k)=xs.drop (off+k)
 eq:val zs+BB^off*(U%BB^k)=val xs+BB^off*(D%BB^k)
theorem pz.init {xs:List Int}(off U D m:Nat)(h:bF xs):pz xs off U D m 0 xs:=⟨Nat.zero_le _,rfl,h,rfl,by simp[Nat.mod_one]⟩
theorem pz.put {xs:List Int}{off U D m k:Nat}{zs:List Int}(h:pz xs off U D m k zs)(hk:k<m)(hl:off+m≤xs.length)(hU:xs.getD (off+k) 0=((U/BB^k%BB:Nat):Int)){d:Nat}(hd:D/BB^k%BB=d):
  pz xs off U D m (k+1) (zs.set (off+k) (d:Int)):=by
 have hlz:off+k<zs.length:=by rw[h.len];omega
 have hd2:d<BB:=by rw[←hd];exact Nat.mod_lt _ (by decide)
 have hold:zs.getD (off+k) 0=((U/BB^k%BB:Nat):Int):=by
  rw[←hU];have e:(zs.drop (off+k)).getD 0 0=(xs.drop (off+k)).getD 0 0:=by rw[h.up]
  simpa[X7,List.getElem?_drop]using e
 refine⟨hk,by rw[List.length_set];exact h.len,h.inr.set _ ⟨by omega,by unfold BB at hd2;omega⟩,?_,?_⟩
 ·rw[←Nat.add_assoc,List.drop_set_of_lt (by omega),←List.drop_drop,h.up,List.drop_drop]
 have e:=dK (xs:=zs) (x:=(d:Int)) hlz;rw[hold]at e;simp only[Int.toNat_natCast]at e;have h1:=h.eq;rw[kN,kN,Nat.mul_add,Nat.mul_add,←Nat.mul_assoc,←Nat.mul_assoc,←Nat.pow_add,hd];omega
theorem pz.done {xs:List Int}{off U D m:Nat}{zs:List Int}(h:pz xs off U D m m zs)(hU:U<BB^m)(hD:D<BB^m):val zs+BB^off*U=val xs+BB^off*D:=by
 have:=h.eq
 rw[Nat.mod_eq_of_lt hU,Nat.mod_eq_of_lt hD]at this;exact this
theorem ky {zs:List Int}(hi:bF zs){k:Nat}(h:val (zs.drop k)=0):val zs<BB^k:=by
 rw[ie hi]at h
 rcases Nat.lt_or_ge (val zs) (BB^k)with h1|h1
 ·exact h1
 have:=(Nat.div_pos_iff (a:=val zs) (b:=BB^k)).2 ⟨Nat.pow_pos (by decide),h1⟩
 omega
end Go.Eng
/-
  THE ENGINE, PART Z: a function that returns a new slice, as one whose result is only looked at.
-/
namespace Go.Eng
open Go
theorem Fr.view {P:Program}{f:FuncId}{args:List V}{B:Bk}(h:Fr P f args B):Pr P f args (.one (jL B B.wd 0 B.len)):=by
 obtain⟨hc,hf,h⟩:=h;refine⟨hc,fun ok w vs hok hvs=>Calls.mono (h ok w vs hok hvs) fun e w' he=>?_⟩;obtain⟨v,l,rfl,hb,hl,hnew,hrep,hval⟩:=he;refine⟨v,rfl,hb,?_⟩;obtain⟨_,hle,cap,hcap,hv⟩:=hval;have hrep':aT bz bH (fun g=>ok g∨(w.heap.size≤g∧g<w'.heap.size)) w' l B:=hrep.gE (Bk.oS hf) fun g hg=>by
  rcases hg with hg|⟨h1,h2,_⟩
  ·exact .inl hg
  exact .inr ⟨h1,h2⟩
 refine aW.bw ?_
 rcases hv with⟨g,o,o',ha,rfl,ho,_⟩|⟨_,rfl,h0,_⟩
 ·exact ou ha hrep' (.inr (hnew g o ha)) hl hle hcap ho
 cases B with
 |var cs=>exact hf.elim
 |ints e k xs=>
  simp only[Bk.len]at h0;simp only[jL,Bk.wd,if_true,Bk.len];exact⟨none,0,by simp[h0],by simp[h0],.inl (by simp[h0])⟩
 |rows e w n f=>
  simp only[Bk.len]at h0;subst h0;simp only[jL,Bk.wd,if_true,Bk.len];exact⟨none,0,rfl,Nat.le_refl _,.inl rfl⟩
theorem Fr.ints {P:Program}{f:FuncId}{args:List V}{e:TypeId}{k:IntKind}{xs:List Int}(h:Fr P f args (.ints e k xs)):Pr P f args (.one (.ints k xs)):=by
 have h1:=h.view;simp only[jL,Bk.wd,Bk.len,if_true,List.drop_zero,List.take_length]at h1;exact h1
theorem Fr.rows {P:Program}{f:FuncId}{args:List V}{e:TypeId}{w n:Nat}{g:Nat→Nat→C}(h:Fr P f args (.rows e w n g)):Pr P f args (.one (.rows w n g)):=by
 have h1:=h.view;simp only[jL,Bk.wd,Bk.len,if_true,Nat.zero_add]at h1;exact h1
end Go.Eng
/-
  integer.toUint: the number of a list of words, by a range over slices.Backward.
-/
namespace Go.Proofs.YtgalhjhdgkoemaaGreat
open Go Go.Proofs Go.RowKit Go.Shelf Go.Eng
attribute [local go_sem] Oper.semAt_some
def yi (zs:List Int)(m k:Nat):List (Nat×Int):=(List.range k).map fun j=>(m-1-j,zs[m-1-j]?.getD 0)
theorem Hz (zs:List Int)(m k:Nat):yi zs m (k+1)=yi zs m k++[(m-1-k,zs[m-1-k]?.getD 0)]:=by simp[yi,List.range_succ]
theorem Br (zs:List Int)(m k:Nat):(yi zs m k).length=k:=by simp[yi]
def Nb (n₀ Bs:Nat)(sv:Value)(W W':World):Prop:=Below n₀ W W'∧(W.cell? ⟨Bs,0,none⟩=some sv→W'.cell? ⟨Bs,0,none⟩=some sv)
theorem LY {n₀ Bs:Nat}{sv:Value}{A B C:World}(h:Nb n₀ Bs sv A B)(k:Nb n₀ Bs sv B C):Nb n₀ Bs sv A C:=⟨h.1.trans k.1,fun e=>k.2 (h.2 e)⟩
theorem Ol {n₀ Bs:Nat}{sv:Value}{w:World}(hn:n₀≤w.heap.size)(hb:Bs<w.heap.size)(W:World)(l:Nat)(o o':Obj)(hl:w.heap.size≤l)(h:W.heap[l]? =some o)(hc:o.isCells=false)(hw:o.isWalk=false):Nb n₀ Bs sv W (W.putObj l o'):=
 ⟨belowK_b hn W l o o' hl h hc hw,fun e=>((belowK_b (n₀:=w.heap.size) (Nat.le_refl _) W l o o' hl h hc hw).cell (p:=⟨Bs,0,none⟩) hb).trans e⟩
set_option maxRecDepth 100000 in
theorem Hw (F:Fence)(n:Nat)(h8:F.fn 238)(hro:F.round=none)(hn:1≤n)(l Bs n₀ b off len cap:Nat)(zs:List Int)(hreach:len*8≤140737488351232)(hb:b<n₀)(J Jx:List (Nat×Int)→World→Prop)
  (hY:∀pre x W,J pre W→pre.length<len→YieldAt F (n-1) Tryz.prog l #[.int .i64 (x.1:Int),.int .u32 x.2] W fun e W'=>
   (e= .returned (.bool true)∧J (pre++[x]) W'∧Nb n₀ Bs (.slice (some ⟨b,off,none⟩) len cap) W W')∨(e= .returned (.bool false)∧Jx (pre++[x]) W'))
  (W:World) (hBs:W.cell? ⟨Bs,0,none⟩=some (.slice (some ⟨b,off,none⟩) len cap)) (hc:∀j,j<len→W.cell? ⟨b,off+j,none⟩=some (.int .u32 (zs[j]?.getD 0))) (h0:J [] W):
  CallsIn F n Tryz.prog 238 #[.func (.yield l) #[] #[],.pointer (some ⟨Bs,0,none⟩)] W fun e W'=>(∃v,e= .returned v)∧
   ((∃ys,ys=yi zs len len∧J ys W')∨(∃pre,(∃k,k≤len∧pre=yi zs len k)∧Jx pre W')):=by
 refine callsIn_of_wp Tryz.func238 rfl h8 ?_ hro;simp only[Tryz.ntmps238,List.size_toArray,List.length_cons,List.length_nil,J1,J3,Array.replicate_succ,Array.replicate_zero,List.push_toArray,List.append_toArray,List.nil_append,List.cons_append]
 gi_wp2
 gi_loopw [3] (fun i wr=>∃m k:Nat,m+k=len∧i= .int .i64 ((m:Int)-1)∧J (yi zs len k) wr∧Nb n₀ Bs (.slice (some ⟨b,off,none⟩) len cap) W wr)
  (fun i _=>(intOf i+1).toNat)
 case atStart=>exact⟨len,0,rfl,rfl,h0,Below.refl _ _,id⟩
 case round=>
  obtain⟨m,k,hk,rfl,hJs,hnx⟩:=hrel
  rcases m with _|m
  ·obtain rfl:k=len:=by omega
   gi_wp2
   go_end0
   exact⟨⟨_,rfl⟩,.inl ⟨_,rfl,hJs⟩⟩
  have hcx':wr.cell? ⟨b,off+m,none⟩=some (.int .u32 (zs[m]?.getD 0)):=(hnx.1.cell (p:=⟨b,off+m,none⟩) hb).trans (hc m (by omega));have hbx:=hnx.2 hBs;obtain⟨fn,tmps,assign,body,hy,hR⟩:=hY _ (m,zs[m]?.getD 0) wr hJs (by rw[Br];omega)
  dsimp only at hy
  have e0:yi zs len (k+1)=yi zs len k++[(m,zs[m]?.getD 0)]:=by rw[Hz,show len-1-k=m by omega]
  have hE:=Lib.hid e0;clear e0;obtain⟨i0,hi0⟩:∃i0:Int,i0=m:=⟨_,rfl⟩;have em:((m+1:Nat):Int)-1=m:=by omega
  rw[em];clear em;have hml:m<len:=by omega
  gi_wp2
  refine hR.mono ?_
  rintro e W3 (⟨rfl,hJ3,hk3⟩|⟨rfl,hJx3⟩)
  ·gi_wp2
   go_roundw
   case rel=>exact⟨m,k+1,by omega,by simp,by rw[hE.out];exact hJ3,LY hnx hk3⟩
   case measure=>simp[intOf]
  gi_wp2
  refine bodyPost_ret (results_none rfl _ _ _) rfl ?_;exact⟨⟨_,rfl⟩,.inr ⟨_,⟨k+1,by omega,hE.out.symm⟩,hJx3⟩⟩
def nL (n₀:Nat)(W:World)(sv:Value)(zs:List Int):Prop:=
 ∃a cap,sv= .slice a zs.length cap∧(zs.length=0∨∃b off,a=some ⟨b,off,none⟩∧b<n₀∧∀j,j<zs.length→W.cell? ⟨b,off+j,none⟩=some (.int .u32 (zs[j]?.getD 0)))
theorem nL.below {n₀:Nat}{A B:World}(h:Below n₀ A B){sv:Value}{zs:List Int}:nL n₀ A sv zs→nL n₀ B sv zs
 |⟨a,cap,e,.inl h0⟩=>⟨a,cap,e,.inl h0⟩
 |⟨a,cap,e,.inr ⟨b,off,ha,hb,hc⟩⟩=>⟨a,cap,e,.inr ⟨b,off,ha,hb,fun j hj=>(h.cell (p:=⟨b,off+j,none⟩) hb).trans (hc j hj)⟩⟩
set_option maxRecDepth 100000 in
theorem xx (F:Fence)(n:Nat)(h8:F.fn 238)(hro:F.round=none)(l Bs cap:Nat)(a:Option Addr)(J:List (Nat×Int)→World→Prop)(W:World)(hBs:W.cell? ⟨Bs,0,none⟩=some (.slice a 0 cap))(h0:J [] W):
  CallsIn F n Tryz.prog 238 #[.func (.yield l) #[] #[],.pointer (some ⟨Bs,0,none⟩)] W fun e W'=>(∃v,e= .returned v)∧J [] W':=by
 refine callsIn_of_wp Tryz.func238 rfl h8 ?_ hro;simp only[Tryz.ntmps238,List.size_toArray,List.length_cons,List.length_nil,J1,J3,Array.replicate_succ,Array.replicate_zero,List.push_toArray,List.append_toArray,List.nil_append,List.cons_append]
 gi_wp2
 gi_loopw [3] (fun i wr=>i= .int .i64 (-1)∧J [] wr) (fun _ _=>0)
 case atStart=>exact⟨rfl,h0⟩
 case round=>
  obtain⟨rfl,hJs⟩:=hrel
  gi_wp2
  go_end0
  exact⟨⟨_,rfl⟩,hJs⟩
theorem Lc (F:Fence)(n:Nat)(h6:F.fn 222)(hro:F.round=none)(a:Option Addr)(len cap:Nat)(w:World):
  CallsIn F n Tryz.prog 222 #[.slice a len cap] w fun e w'=>e= .returned (.func (.func 238) #[] #[.pointer (some ⟨w.heap.size,0,none⟩)])∧w'=w.alloc (.cells #[.slice a len cap] 53):=by
 refine callsIn_of_wp Tryz.func222 rfl h6 ?_ hro;simp only[Tryz.ntmps222,List.size_toArray,List.length_cons,List.length_nil,J1,J3,Array.replicate_succ,Array.replicate_zero,List.push_toArray,List.append_toArray,List.nil_append,List.cons_append]
 gi_wp2
 go_ret
 exact⟨rfl,rfl⟩
theorem A9 (F:Fence)(n:Nat)(h8:F.fn 238)(hro:F.round=none)(hn:1≤n)(Bs n₀:Nat)(sv:Value)(zs:List Int)(hreach:zs.length*8≤140737488351232)(w:World)(hBs:Bs<w.heap.size)(hn₀:n₀≤w.heap.size)
  (hc:w.cell? ⟨Bs,0,none⟩=some sv) (hI:nL n₀ w sv zs):
  SeqStopsK F n Tryz.prog 238 #[.pointer (some ⟨Bs,0,none⟩)] (fun x:Nat×Int=> #[Value.int .i64 (x.1:Int),Value.int .u32 x.2]) (Nb n₀ Bs sv) (fun ys=>ys=yi zs zs.length zs.length)
   (fun pre=>∃k,k≤zs.length∧pre=yi zs zs.length k) zs.length w:=fun l J Jx W hW _ _ hY h0=>by
 have hc':=(hW.cell (p:=⟨Bs,0,none⟩) hBs).trans hc
 obtain⟨a,cap,rfl,h1|⟨b,off,rfl,hb,hcs⟩⟩:=hI.below (hW.mono hn₀)
 ·rw[h1]at hc'⊢;exact(xx F n h8 hro l Bs cap a J W hc' h0).mono fun e W' ⟨he,hj⟩=>⟨he,.inl ⟨_,by rfl,hj⟩⟩
 exact Hw F n h8 hro hn l Bs n₀ b off zs.length cap zs hreach hb J Jx hY W hc' hcs h0
def kQ (s x:Int):Int:=bits .or .u64 (IntKind.u64.wrap (s*4294967296)) (IntKind.u64.wrap x)
def tu:List (Nat×Int)→Int:=List.foldl (fun s p=>kQ s p.2) 0
theorem E8 (pre:List (Nat×Int))(x:Nat×Int):tu (pre++[x])=kQ (tu pre) x.2:=by simp[tu]
set_option maxRecDepth 100000 in
theorem Ea (F:Fence)(n:Nat)(h3:F.fn 185)(h5:F.fn 222)(h7:F.fn 238)(hro:F.round=none)(hn:3≤n)(a:Option Addr)(len cap:Nat)(zs:List Int)(hreach:zs.length*8≤140737488351232)(w:World)(hI:nL w.heap.size w (.slice a len cap) zs):
  CallsIn F n Tryz.prog 185 #[.slice a len cap] w fun e W'=>e= .returned (.int .u64 (tu (yi zs zs.length zs.length)))∧Below w.heap.size w W':=by
 have h1:1≤n:=by omega
 refine callsIn_of_wp_marks Tryz.func185 rfl h3 ?_ hro;simp only[Tryz.ntmps185,List.size_toArray,List.length_cons,List.length_nil,J1,J3,Array.replicate_succ,Array.replicate_zero,List.push_toArray,List.append_toArray,List.nil_append,List.cons_append]
 gi_wp2_with (gi_at_call 222;refine(Lc F (n-1) h5 hro _ _ _ _).mono ?_;rintro e w' ⟨rfl,rfl⟩)
 have bS:=Boxed.new w 133 (.int .u64 0);have bN:=Boxed.new (w.alloc (.cells #[.int .u64 0] 133)) 53 (.slice a len cap);rw[World.size_alloc]at bN;have hB0:Below w.heap.size w ((w.alloc (.cells #[.int .u64 0] 133)).alloc (.cells #[.slice a len cap] 53)):=((Below.refl _ w).alloc (Nat.le_refl _) _).alloc (by simp) _;refine wpIn_rangeFunc_ownG hro h1 (gf:=238) (lb:= #[.pointer (some ⟨w.heap.size+1,0,none⟩)]) rfl h7 (enters_of Tryz.func238 (by kernel_rfl) rfl)
  (A9 F (n-1) h7 hro (by omega) (w.heap.size+1) w.heap.size _ zs hreach _ (by simp) (by simp;omega) bN.cell (hI.below hB0)) LY (Ol (by simp;omega) (by simp)) (Below.refl _ _) (fun _=>rfl)
  (fun pre W=>(W.cell? ⟨w.heap.size,0,none⟩=some (.int .u64 (tu pre))∧W.frozen? ⟨w.heap.size,0,none⟩=false)∧Below w.heap.size w W)
  (fun _ _ _=>False)
  (OwnFrom.and (Own.from (fun s A B row hs hg hr=>⟨cell_kept hs.1 hg hr,(frozen_kept hs.1 hg hr).trans hs.2⟩) _) (ownFrom_below (Nat.le_refl _) (by simp;omega)))
  (fun _ _ _ _ _ hs _ _=>hs)
  ⟨⟨(bS.alloc _).cell,(bS.alloc _).frozen⟩,hB0⟩
  (fun x=>{tmps:= #[.slice a len cap,undef,.int .u64 0,.pointer (some ⟨w.heap.size,0,none⟩),undef,.int .u32 x.2,.slice a len cap,.func (.func 238) #[] #[.pointer (some ⟨w.heap.size+1,0,none⟩)],.int .i64 (x.1:Int),.int .u32 x.2,undef,undef,undef,undef,undef,undef],defers:=[]}) ?assign ?body ?done ?stop
 case assign=>
  intro l x W K hK
  gi_wp2
  exact hK
 case body=>
  rintro l pre x W ⟨⟨hc,hf⟩,hB⟩ _
  gi_wp2
  exact⟨(KeepsOthers.setCell _ _ _).from _,⟨(Below.refl w.heap.size W).setCell (p:=⟨w.heap.size,0,none⟩) (Nat.le_refl _) _,fun e=>(World.cell?_setCell_other _ _ _ _ (by intro h;simp only[Addr.mk.injEq]at h;omega)).trans e⟩,
   ⟨by rw[E8];exact World.cell?_setCell_same' _ _ _ (by rw[hc];rfl),by rw[World.frozen?_setCell];exact hf⟩,hB.setCell (p:=⟨w.heap.size,0,none⟩) (Nat.le_refl _) _⟩
 case done=>
  rintro D ys W hD rfl ⟨⟨hc,_⟩,hB⟩ hK
  gi_wp2
  refine⟨by simp,.inl ⟨_,_,rfl,run_takeDeferred hK,?_⟩⟩;exact⟨_,results_tmp rfl _ _ _,rfl,hB.trans (belowK_b (w:=w) (Nat.le_refl _) W D _ _ (by simp at hD;omega) hK rfl rfl)⟩
 case stop=>
  rintro D c pre W _ _ h _;exact h.elim
theorem ur {s x:Nat}(hs:s<BB)(hx:x<BB):kQ (s:Int) (x:Int)=((s*BB+x:Nat):Int):=by
 have h:fX .or .u64 ((s:Int)*4294967296) (x:Int)=((s*BB+x:Nat):Int):=by
  rw[show ((s:Int)*4294967296)=((s*4294967296:Nat):Int) by omega];unfold BB at*
  have e:=Nat.two_pow_add_eq_or_of_lt (i:=32) (b:=x) (by omega) s;rw[qB (by omega) (by omega)];have e2:s*4294967296=2^32*s:=Nat.mul_comm _ _;rw[e2,←e]
 unfold kQ;rw[IntWalk.u64_in _ (by unfold BB at*;omega),IntWalk.u64_in _ (by unfold BB at*;omega)];exact h
theorem By {n:Nat}(hn:n<2^64):tu (yi (ak n) (nl n) (nl n))=n:=by
 have h2:nl n≤2:=aB (by unfold BB;omega);have hr:=bF.ak n;have hv:=gp n;unfold nl at*
 generalize ak n=l at*
 match l,h2 with
 |[],_=>simp[val]at hv;subst hv;rfl
 |[x],_=>
  obtain⟨x0,x1⟩:=hr.head;obtain⟨a,rfl⟩:=Int.eq_ofNat_of_zero_le x0
  simp[val]at hv
  have e:tu (yi [(a:Int)] 1 1)=kQ ((0:Nat):Int) a:=rfl;show tu (yi [(a:Int)] 1 1)=_;rw[e,ur (by decide) (by unfold BB;omega)];omega
 |[x,y],_=>
  obtain⟨x0,x1⟩:=hr.head;obtain⟨a,rfl⟩:=Int.eq_ofNat_of_zero_le x0;obtain⟨y0,y1⟩:=hr.tail.head;obtain⟨b,rfl⟩:=Int.eq_ofNat_of_zero_le y0
  simp[val]at hv
  have e:tu (yi [(a:Int),(b:Int)] 2 2)=kQ (kQ ((0:Nat):Int) b) a:=rfl;show tu (yi [(a:Int),(b:Int)] 2 2)=_;rw[e,ur (by decide) (by unfold BB;omega),Nat.zero_mul,Nat.zero_add,ur (by unfold BB;omega) (by unfold BB;omega)];unfold BB at*
  omega
theorem fa (n:Nat)(hn:n<2^64):Pr Tryz.prog 185 [.one (.ints .u32 (ak n))] (.one (.int .u64 n)):=by
 refine⟨⟨_,Tryz.func185,by rfl,by rfl⟩,fun ok w vs hok hr=>?_⟩;obtain⟨vs⟩:=vs
 match vs,hr with
 |[v],hr=>
  obtain⟨⟨a,cap,rfl,hle,hc⟩,_⟩:=hr;have h2:(ak n).length≤2:=aB (by unfold BB;omega);have hI:nL w.heap.size w (.slice a (ak n).length cap) (ak n):=by
   refine⟨a,cap,rfl,?_⟩
   rcases hc with hc|⟨g,o,ha,hg,hc⟩
   ·exact .inl hc
   exact .inr ⟨g,o,ha,hok g hg,fun j hj=>by rw[hc j hj,X7]⟩
  refine(callsIn_wide.1 (Ea Fence.wide 3 trivial trivial trivial rfl (by omega) a (ak n).length cap (ak n) (by omega) w hI)).mono ?_
  rintro e W' ⟨rfl,hB⟩;refine⟨_,rfl,hB,?_⟩;show Value.int .u64 (tu (yi (ak n) (nl n) (nl n)))= .int .u64 n;rw[By hn]
open Go Go.Proofs Go.Eng
theorem vF (x:Nat)(h:x<2^64):Lib.bitLen x=bl x:=by
 induction x using Nat.strongRecOn with
 |_ x ih=>
  by_cases h0:x=0
  ·subst h0;rw[sA];rfl
  rw[Lib.bitLen_half x h0 h,A1 (by omega),ih (x/2) (by omega) (by omega)]
theorem Ks (x:Nat)(hx:x<BB):Pr Tryz.prog 217 [.one (.int .u32 x)] (.one (.int .i64 (32-bl x:Nat))):=by
 refine⟨⟨_,Tryz.func217,by rfl,by rfl⟩,fun ok w vs hok hr=>?_⟩;obtain⟨vs⟩:=vs
 match vs,hr with
 |[v],hr=>
  obtain⟨hv,_⟩:=hr;have hv:v= .int .u32 x:=hv;subst hv;have h2:bl x≤32:=AN (by unfold BB at hx;omega)
  refine(Tryz.nW x w (by omega) (by unfold BB at hx;omega)).mono ?_
  rintro e W' ⟨rfl,rfl⟩;refine⟨_,rfl,Go.RowKit.Below.refl _ _,?_⟩;show Value.int .i64 (32-(Lib.bitLen (x:Int).toNat:Int))= .int .i64 ((32-bl x:Nat):Int);rw[Int.toNat_natCast,vF x (by unfold BB at hx;omega)]
  congr 1
  omega
open Go Go.Eng
theorem kA {m n:Nat}(h:ef m n<0):m<n:=by
 unfold ef at h
 split at h
 ·omega
 split at h<;>omega
theorem iZ {m n:Nat}(h:¬ef m n<0):n≤m:=by
 rcases Nat.lt_or_ge m n with h1|h1
 ·rw[gO (by omega)]at h;omega
 exact h1
theorem iK (a b:Nat)(h0:0<b)(ha:nl a<2^39)(hb:nl b<2^39):Pr Tryz.prog 184 [.one (.ints .u32 (ak a)),.one (.ints .u32 (ak b))] (.aJ [.one (.ints .u32 (ak (a/b))),.one (.ints .u32 (ak (a%b)))]):=by
 have hnb:=dZ.2 h0;refine pw Tryz.func184 ⟨[0,1,4,5,6,7,8,9,10,11,12,13,14,15,16,17,18,19,26,42,90,134,141,151],[(12,.nil),(17,.nil)]⟩ ?_;simp only[Tryz.f184,Tryz.ntmps184,iz,seval];simp only[vx,T,seval];refine Cg (gR a b (by omega) (by omega)) ?_;simp only[vx,T,seval];refine⟨fun h1=>Lg ?_,fun h1=>Lg ?_⟩
 ·simp only[vx,T,seval];refine Cg (jP _ (by rw[dR];omega)) ?_;simp only[vx,T,seval];have hlt:a<b:=kA h1;refine Va ?_;simp only[cO,aV,ry,seval,Nat.div_eq_of_lt hlt,Nat.mod_eq_of_lt hlt,bq]
 have hle:b≤a:=iZ h1;simp only[vx,T,seval];refine⟨fun h2=>Lg ?_,fun h2=>Lg ?_⟩
 ·simp only[vx,T,seval];have ha2:a<2^64:=by have:=cj.1 (show nl a≤2 by omega);unfold BB at this;omega
  refine Cg (fa a ha2) ?_;simp only[vx,T,seval];refine Cg (fa b (by omega)) ?_;simp only[vx,T,seval];refine⟨by omega,?_⟩;have e1:IntKind.u64.wrap ((a:Int).tdiv b)=((a/b:Nat):Int):=by
   have e3:(a:Int).tdiv b=((a/b:Nat):Int):=rfl
   have:=Nat.div_le_self a b
   generalize a/b=q at*
   rw[e3,IntWalk.u64_in _ (by omega)]
  have e2:(a:Int).tmod b=((a%b:Nat):Int):=rfl;simp only[e1,e2];refine Cg (cZ (a/b) (Nat.lt_of_le_of_lt (Nat.div_le_self a b) ha2)) ?_;simp only[vx,T,seval];refine⟨by omega,?_⟩;simp only[e2];refine Cg (cZ (a%b) (Nat.lt_of_le_of_lt (Nat.mod_le a b) ha2)) ?_;simp only[vx,T,seval];refine Va ?_;simp only[cO,aV,ry,seval]
 simp only[vx,T,seval];refine⟨fun h3=>Lg ?_,fun h3=>Lg ?_⟩
 ·have h3':nl b=1:=by omega
  have hb1:b<BB:=by have:=cj.1 (show nl b≤1 by omega);simpa using this
  simp only[vx,T,seval]
  simp(disch:=omega) only[lG,←X2,←Int.natCast_mul,Int.toNat_natCast,IntWalk.i64_in,IntWalk.u64_in,aA,aE,true_and,and_true,Nat.pow_zero,Nat.div_one,Nat.mod_eq_of_lt hb1]
  refine⟨by omega,Cg (rm a b (by omega) h0 hb1) ?_⟩;simp only[vx,T,seval];refine Va ?_;simp only[cO,aV,ry,seval]
 simp only[vx,T,seval];have e1:IntKind.i64.wrap ((nl b:Int)-1)=((nl b-1:Nat):Int):=by rw[IntWalk.i64_in _ (by omega)];omega
 have ht:=ko h0;obtain⟨t1,t2⟩:=gM h0;obtain⟨s1,s2,s3⟩:=uu h0;have s4:=IY h0
 simp(disch:=omega) only[lG,←X2,←Int.natCast_mul,Int.toNat_natCast,IntWalk.i64_in,IntWalk.u64_in,aA,aE,true_and,and_true,e1,ht]
 refine⟨by omega,Cg (Ks (eX b) t2) ?_⟩;have eS:32-bl (eX b)=j3 b:=rfl;rw[eS];simp only[vx,T,seval];refine cY.fresh (lQ a (j3 b) (by omega) s1) ?_;simp only[vx,T,seval];refine cY.fresh (lQ b (j3 b) (by omega) s1) ?_;simp only[vx,T,seval,aK];have hA2:2*(a*2^j3 b)<BB^(nl a+1):=by
  have h5:=b7 a;have h6:2^j3 b≤2^31:=Nat.pow_le_pow_right (by decide) (by omega);have h7:a*2^j3 b≤a*2^31:=Nat.mul_le_mul_left _ h6;have h8:BB^(nl a+1)=BB^nl a*BB:=Nat.pow_succ _ _;have h9:a*(2*2^31)<BB^nl a*BB:=Nat.mul_lt_mul_of_lt_of_le h5 (by decide) (by decide);omega
 have hV2:val (iq (nl b+1) (b*2^j3 b))=b*2^j3 b:=jn (Nat.lt_of_lt_of_le s2 (Nat.pow_le_pow_right (by decide) (by omega)));rw[List.take_of_length_le (by rw[aK];exact Nat.le_refl _)];refine Cg (df _ (gj _ _) (by rw[aK];omega)) ?_;rw[hV2];have hN:GX (b*2^j3 b) (nl (b*2^j3 b)):=⟨rfl,by omega,by rw[s4];exact s3⟩;obtain⟨A,hA⟩:∃A,A=a*2^j3 b:=⟨_,rfl⟩;obtain⟨V,hV⟩:∃V,V=b*2^j3 b:=⟨_,rfl⟩;have hmono:nl b≤nl a:=bg hle;rw[←hA]at hA2⊢;rw[←hV]at s4 hN⊢;clear hV2 s2 s3;simp only[vx,T,seval,aK];have e4:IntKind.i64.wrap (((nl a+1:Nat):Int)-(nl V:Nat))=((nl a+1-nl V:Nat):Int):=by rw[IntWalk.i64_in _ (by omega)];omega
 have e5:IntKind.i64.wrap ((nl V:Int)-1)=((nl V-1:Nat):Int):=by rw[IntWalk.i64_in _ (by omega)];omega
 have e6:IntKind.i64.wrap ((nl V:Int)-2)=((nl V-2:Nat):Int):=by rw[IntWalk.i64_in _ (by omega)];omega
 have w1:=hN.high;have w2:V/BB^(nl V-1)%BB=V/BB^(nl V-1):=Nat.mod_eq_of_lt w1.2.1;have wN:V/BB^(nl V-2)%BB<BB:=bd _;obtain⟨hi,hhi⟩:∃hi,hi=V/BB^(nl V-1):=⟨_,rfl⟩;obtain⟨nx,hnx⟩:∃nx,nx=V/BB^(nl V-2)%BB:=⟨_,rfl⟩;rw[←hhi]at w1 w2;rw[←hnx]at w1 wN;obtain⟨w3,w4,_⟩:=w1;have w5:IntKind.u64.wrap (hi:Int)=hi:=IntWalk.u64_in _ (by unfold BB at w4;omega);have w6:IntKind.u64.wrap (nx:Int)=nx:=IntWalk.u64_in _ (by unfold BB at wN;omega)
 simp(disch:=omega) only[lG,←X2,←Int.natCast_mul,Int.toNat_natCast,IntWalk.i64_in,IntWalk.u64_in,aA,aE,true_and,and_true,e4,e5,e6,←hhi,←hnx,w2,w5,w6]
 refine⟨⟨by omega,by omega,by omega,by omega⟩,⟨by omega,by omega⟩,⟨by omega,by omega⟩,Lk (fun y:{y:Nat×List Int×List Int//jz A V (nl a+1) y.1 y.2.1 y.2.2∧y.2.2.length=nl a+1-nl V}=>⟨[(8,.one (.int .i64 (j3 b))),(9,.one (.own 1 1 0 (nl a+1))),(10,.one (.ints .u32 (ak V))),(11,.one (.int .i64 (nl V))),(12,.one (.own 2 1 0 (nl a+1-nl V))),(13,.one (.int .u64 hi)),(14,.one (.int .u64 nx)),(15,.one (.int .i64 ((y.1.1:Int)-1)))],[(1,⟨.ints 137 .u32 y.1.2.1,true⟩),(2,⟨.ints 137 .u32 y.1.2.2,true⟩)],3,177⟩) (fun y=>y.1.1) ⟨(nl a+1-nl V,_,List.replicate (nl a+1-nl V) 0),jz.init hN (by omega) hA2 (by omega),by simp⟩ ?_ (fun⟨⟨j,us,qs⟩,hy,hql⟩=>?_)⟩
 ·refine Sa ?_;simp only[ry,seval,rz];rfl
 simp only at hy hql;simp only[vx,T,seval];refine⟨fun h6=>Lg ?_,fun h6=>Lg ?_⟩
 ·obtain⟨i,rfl⟩:∃i,j=i+1:=⟨j-1,by omega⟩;have hAt:=hy.at;obtain⟨d0,d1,d2,d3⟩:=hAt.words;have hul:=hy.ulen;have hus0:val us<BB^(i+nl V+1):=by
   refine Nat.lt_of_lt_of_le hAt.lt ?_
   have:=Nat.mul_le_mul_right (BB^(i+1)) (Nat.le_of_lt hAt.dj.lt)
   rw[←Nat.pow_add,show nl V+(i+1)=i+nl V+1 by omega]at this;exact this
  have hjl:=hy.le;have g0:us.getD (i+nl V-2) 0=((q3 (nl V) i (val us)%BB:Nat):Int):=by rw[da hy.uin,d0]
  have g1:us.getD (i+nl V-1) 0=((q3 (nl V) i (val us)/BB%BB:Nat):Int):=by rw[da hy.uin,d1]
  have g2:us.getD (i+nl V) 0=((q3 (nl V) i (val us)/BB/BB:Nat):Int):=by rw[da hy.uin,d2]
  have dg0:=Dg.init hAt;obtain⟨tp,htp⟩:∃tp,tp=q3 (nl V) i (val us)/BB:=⟨_,rfl⟩;rw[←htp]at g1 g2 d1 d2 d3 dg0;have d4:tp/BB<BB:=by rw[Nat.div_lt_iff_lt_mul (by decide)];exact d3
  have d5:=ph d4 (bd tp);rw[show tp/BB*BB+tp%BB=tp by rw[Nat.mul_comm];exact Nat.div_add_mod tp BB]at d5;have d6:IntKind.u64.wrap (((tp/BB:Nat):Int)*4294967296)=((tp/BB:Nat):Int)*4294967296:=by
   generalize tp/BB=q at d4⊢
   exact IntWalk.u64_in _ (by unfold BB at d4;omega)
  have d7:IntKind.u64.wrap ((tp:Int).tdiv hi)=((tp/hi:Nat):Int):=by
   have e3:(tp:Int).tdiv hi=((tp/hi:Nat):Int):=rfl
   have:=Nat.div_le_self tp hi
   generalize tp/hi=q at*
   rw[e3,IntWalk.u64_in _ (by unfold BB at d3;omega)]
  have d8:(tp:Int).tmod hi=((tp%hi:Nat):Int):=rfl;have d9:IntKind.u64.wrap ((tp/BB:Nat):Int)=((tp/BB:Nat):Int):=by
   generalize tp/BB=q at d4⊢
   exact IntWalk.u64_in _ (by unfold BB at d4;omega)
  have d10:IntKind.u64.wrap ((tp%BB:Nat):Int)=((tp%BB:Nat):Int):=by
   have:=bd tp
   generalize tp%BB=q at this⊢
   exact IntWalk.u64_in _ (by omega)
  have x0:((i+1:Nat):Int)-1=(i:Int):=by omega
  have x1:IntKind.i64.wrap (((i+nl V:Nat):Int)-1)=((i+nl V-1:Nat):Int):=by rw[IntWalk.i64_in _ (by omega)];omega
  have x2:IntKind.i64.wrap (((i+nl V:Nat):Int)-2)=((i+nl V-2:Nat):Int):=by rw[IntWalk.i64_in _ (by omega)];omega
  have x3:IntKind.i64.wrap ((i:Int)+(nl V:Nat))=((i+nl V:Nat):Int):=by rw[←X2,IntWalk.i64_in _ (by omega)]
  have x4:¬(hi:Int)=0:=by unfold BB at w3;omega
  rw[x0];simp only[vx,T,seval]
  simp(disch:=omega) only[lG,←X2,←Int.natCast_mul,Int.toNat_natCast,IntWalk.i64_in,IntWalk.u64_in,aA,aE,true_and,and_true,x1,x2,x3,g0,g1,g2,d9,d10,d5,d6,d7,d8]
  refine⟨⟨by omega,by omega⟩,⟨by omega,by omega⟩,x4,x4,Lk (fun y:{y:Nat×Nat//Dg V (nl V) i (val us) y.1 y.2}=>⟨[(8,.one (.int .i64 (j3 b))),(9,.one (.own 1 1 0 (nl a+1))),(10,.one (.ints .u32 (ak V))),(11,.one (.int .i64 (nl V))),(12,.one (.own 2 1 0 (nl a+1-nl V))),(13,.one (.int .u64 hi)),(14,.one (.int .u64 nx)),(15,.one (.int .i64 i)),(17,.one (.int .u64 y.1.1)),(18,.one (.int .u64 y.1.2))],[(1,⟨.ints 137 .u32 us,true⟩),(2,⟨.ints 137 .u32 qs,true⟩)],3,177⟩) (fun y=>y.1.1) ⟨(tp/hi,tp%hi),by rw[hhi];exact dg0⟩ ?_ (fun⟨⟨D,rest⟩,hD⟩=>?_)⟩
  ·refine Sa ?_;simp only[ry,seval,rz]
  simp only at hD;have hDl:=hD.lt;have hDr:=hD.rest;have hDt:=hD.top;rw[←htp,←hhi]at hDt;have hqb:=bd (q3 (nl V) i (val us));simp only[vx,T,seval];refine⟨fun c1=>Lg ?_,fun c1=>Lg ?_⟩
  ·have c2:BB≤D:=by unfold BB;omega
   obtain⟨n1,n2,n3⟩:=hD.next hAt (.inl c2);rw[←htp,←hhi]at n2;simp only[vx,T,seval];have m1:IntKind.u64.wrap ((D:Int)-1)=((D-1:Nat):Int):=by rw[IntWalk.u64_in _ (by unfold BB at hDl;omega)];omega
   have m2:IntKind.u64.wrap ((rest+hi:Nat):Int)=((rest+hi:Nat):Int):=IntWalk.u64_in _ (by unfold BB at hDr w4;omega)
   simp(disch:=omega) only[lG,←X2,←Int.natCast_mul,Int.toNat_natCast,IntWalk.i64_in,IntWalk.u64_in,aA,aE,true_and,and_true,m1,m2]
   refine⟨fun c4=>Lg ?_,fun c4=>Lg ?_⟩
   ·obtain⟨f1,f2,f3⟩:=Dg.fin (D:=D-1) (rest:=rest+hi) hAt (by rw[←htp,←hhi];exact n2) n3 (.inr (by unfold BB;omega))
    generalize D-1=E at f1 f2 f3⊢
    simp only[vx,T,seval];have p1:IntKind.i64.wrap (((i+nl V:Nat):Int)+1)=((i+nl V+1:Nat):Int):=by rw[IntWalk.i64_in _ (by omega)];omega
    have p2:(((i+nl V+1:Nat):Int)-(i:Int)).toNat=nl V+1:=by omega
    simp(disch:=omega) only[lG,←X2,←Int.natCast_mul,Int.toNat_natCast,IntWalk.i64_in,IntWalk.u64_in,aA,aE,true_and,and_true,x3,p1,p2]
    refine⟨⟨by omega,by omega,by omega⟩,Cm 1 rfl trivial (jt us i V E hy.uin (by omega) (by omega) f1) ?_⟩;rintro r B' ⟨t,zs,rfl,rfl,hzl,hzi,hzu,hzv⟩ _;have hzd:val zs<BB^(i+nl V+1):=ky hzi (by rw[hzu,ie hy.uin,Nat.div_eq_of_lt hus0]);simp only[vx,T,seval];refine⟨fun ht=>Lg ?_,fun ht=>Lg ?_⟩
    ·subst ht;have m1:IntKind.u64.wrap ((E:Int)-1)=((E-1:Nat):Int):=by
      have:0<E:=by
       rcases Nat.eq_zero_or_pos E with hE0|hE0
       ·subst hE0;simp only[Nat.zero_mul,Nat.mul_zero,Nat.add_zero,if_true,Nat.mul_one]at hzv;omega
       exact hE0
      rw[IntWalk.u64_in _ (by unfold BB at f1;omega)];omega
     simp only[vx,T,seval]
     simp(disch:=omega) only[lG,←X2,←Int.natCast_mul,Int.toNat_natCast,IntWalk.i64_in,IntWalk.u64_in,aA,aE,true_and,and_true,x3,p1,p2,m1]
     refine⟨⟨by omega,by omega,by omega⟩,Cm 1 rfl trivial (kg zs i V hzi (by omega) (by omega)) ?_⟩;rintro r B' ⟨rfl,zs2,k,rfl,hl2,hi2,hu2,hv2⟩ _;simp only[if_true,Nat.mul_one]at hzv;obtain⟨k1,k2⟩:=hAt.xe f3 f2 hzd (ky hi2 (by rw[hu2,hzu,ie hy.uin,Nat.div_eq_of_lt hus0])) hzv hv2;have k3:E-1=val us/BB^i/V:=by rw[k1];rfl
     have k4:IntKind.u32.wrap ((E-1:Nat):Int)=((val us/BB^i/V:Nat):Int):=by
      rw[k3]
      have:=hy.q
      generalize val us/BB^i/V=q at this⊢
      exact IntWalk.u32_in _ (by unfold BB at this;omega)
     simp only[vx,T,seval]
     simp(disch:=omega) only[lG,←X2,←Int.natCast_mul,Int.toNat_natCast,IntWalk.i64_in,IntWalk.u64_in,aA,aE,true_and,and_true,k4]
     refine⟨by omega,Lq ⟨(i,zs2,_),hy.step (by rw[hl2,hzl]) hi2 k2,by simp only[List.length_set];exact hql⟩ ?_ ?_⟩
     ·refine Sa ?_;simp only[ry,seval,rz]
     simp only;omega
    subst ht;simp only[Bool.false_eq_true,if_false,Nat.mul_zero,Nat.add_zero]at hzv;obtain⟨k1,k2⟩:=hAt.Cy f2 hzv;have k4:IntKind.u32.wrap (E:Int)=((val us/BB^i/V:Nat):Int):=by
     rw[←k1];exact IntWalk.u32_in _ (by unfold BB at f1;omega)
    simp only[vx,T,seval]
    simp(disch:=omega) only[lG,←X2,←Int.natCast_mul,Int.toNat_natCast,IntWalk.i64_in,IntWalk.u64_in,aA,aE,true_and,and_true,k4]
    refine⟨by omega,Lq ⟨(i,zs,_),hy.step hzl hzi k2,by simp only[List.length_set];exact hql⟩ ?_ ?_⟩
    ·refine Sa ?_;simp only[ry,seval,rz]
    simp only;omega
   simp only[vx,T,seval];refine Lq ⟨(D-1,rest+hi),⟨by rw[←htp,←hhi];exact n2,n3,by simp only;unfold BB;omega,by simp only;omega⟩⟩ ?_ ?_
   ·refine Sa ?_;simp only[ry,seval,rz]
   simp only;omega
  have c2:D<BB:=by unfold BB;omega
  simp only[vx,T,seval];have z1:IntKind.u64.wrap ((D*nx:Nat):Int)=((D*nx:Nat):Int):=by
   have:D*nx≤4294967295*4294967295:=Nat.mul_le_mul (by unfold BB at c2;omega) (by unfold BB at wN;omega)
   exact IntWalk.u64_in _ (by omega)
  have z2:IntKind.u64.wrap ((rest:Int)*4294967296)=(rest:Int)*4294967296:=IntWalk.u64_in _ (by unfold BB at hDr;omega);have z3:=ph hDr hqb;have z4:IntKind.u64.wrap ((q3 (nl V) i (val us)%BB:Nat):Int)=((q3 (nl V) i (val us)%BB:Nat):Int):=by
   generalize q3 (nl V) i (val us)%BB=q at hqb⊢
   exact IntWalk.u64_in _ (by omega)
  simp(disch:=omega) only[lG,←X2,←Int.natCast_mul,Int.toNat_natCast,IntWalk.i64_in,IntWalk.u64_in,aA,aE,true_and,and_true,x1,x2,x3,g0,z1,z2,z4,z3]
  refine⟨⟨by omega,by omega⟩,?_⟩;refine⟨fun c3=>Lg ?_,fun c3=>Lg ?_⟩
  ·obtain⟨n1,n2,n3⟩:=hD.next hAt (.inr (by rw[←hnx];omega));rw[←htp,←hhi]at n2;simp only[vx,T,seval];have m1:IntKind.u64.wrap ((D:Int)-1)=((D-1:Nat):Int):=by rw[IntWalk.u64_in _ (by unfold BB at hDl;omega)];omega
   have m2:IntKind.u64.wrap ((rest+hi:Nat):Int)=((rest+hi:Nat):Int):=IntWalk.u64_in _ (by unfold BB at hDr w4;omega)
   simp(disch:=omega) only[lG,←X2,←Int.natCast_mul,Int.toNat_natCast,IntWalk.i64_in,IntWalk.u64_in,aA,aE,true_and,and_true,m1,m2]
   refine⟨fun c4=>Lg ?_,fun c4=>Lg ?_⟩
   ·obtain⟨f1,f2,f3⟩:=Dg.fin (D:=D-1) (rest:=rest+hi) hAt (by rw[←htp,←hhi];exact n2) n3 (.inr (by unfold BB;omega))
    generalize D-1=E at f1 f2 f3⊢
    simp only[vx,T,seval];have p1:IntKind.i64.wrap (((i+nl V:Nat):Int)+1)=((i+nl V+1:Nat):Int):=by rw[IntWalk.i64_in _ (by omega)];omega
    have p2:(((i+nl V+1:Nat):Int)-(i:Int)).toNat=nl V+1:=by omega
    simp(disch:=omega) only[lG,←X2,←Int.natCast_mul,Int.toNat_natCast,IntWalk.i64_in,IntWalk.u64_in,aA,aE,true_and,and_true,x3,p1,p2]
    refine⟨⟨by omega,by omega,by omega⟩,Cm 1 rfl trivial (jt us i V E hy.uin (by omega) (by omega) f1) ?_⟩;rintro r B' ⟨t,zs,rfl,rfl,hzl,hzi,hzu,hzv⟩ _;have hzd:val zs<BB^(i+nl V+1):=ky hzi (by rw[hzu,ie hy.uin,Nat.div_eq_of_lt hus0]);simp only[vx,T,seval];refine⟨fun ht=>Lg ?_,fun ht=>Lg ?_⟩
    ·subst ht;have m1:IntKind.u64.wrap ((E:Int)-1)=((E-1:Nat):Int):=by
      have:0<E:=by
       rcases Nat.eq_zero_or_pos E with hE0|hE0
       ·subst hE0;simp only[Nat.zero_mul,Nat.mul_zero,Nat.add_zero,if_true,Nat.mul_one]at hzv;omega
       exact hE0
      rw[IntWalk.u64_in _ (by unfold BB at f1;omega)];omega
     simp only[vx,T,seval]
     simp(disch:=omega) only[lG,←X2,←Int.natCast_mul,Int.toNat_natCast,IntWalk.i64_in,IntWalk.u64_in,aA,aE,true_and,and_true,x3,p1,p2,m1]
     refine⟨⟨by omega,by omega,by omega⟩,Cm 1 rfl trivial (kg zs i V hzi (by omega) (by omega)) ?_⟩;rintro r B' ⟨rfl,zs2,k,rfl,hl2,hi2,hu2,hv2⟩ _;simp only[if_true,Nat.mul_one]at hzv;obtain⟨k1,k2⟩:=hAt.xe f3 f2 hzd (ky hi2 (by rw[hu2,hzu,ie hy.uin,Nat.div_eq_of_lt hus0])) hzv hv2;have k3:E-1=val us/BB^i/V:=by rw[k1];rfl
     have k4:IntKind.u32.wrap ((E-1:Nat):Int)=((val us/BB^i/V:Nat):Int):=by
      rw[k3]
      have:=hy.q
      generalize val us/BB^i/V=q at this⊢
      exact IntWalk.u32_in _ (by unfold BB at this;omega)
     simp only[vx,T,seval]
     simp(disch:=omega) only[lG,←X2,←Int.natCast_mul,Int.toNat_natCast,IntWalk.i64_in,IntWalk.u64_in,aA,aE,true_and,and_true,k4]
     refine⟨by omega,Lq ⟨(i,zs2,_),hy.step (by rw[hl2,hzl]) hi2 k2,by simp only[List.length_set];exact hql⟩ ?_ ?_⟩
     ·refine Sa ?_;simp only[ry,seval,rz]
     simp only;omega
    subst ht;simp only[Bool.false_eq_true,if_false,Nat.mul_zero,Nat.add_zero]at hzv;obtain⟨k1,k2⟩:=hAt.Cy f2 hzv;have k4:IntKind.u32.wrap (E:Int)=((val us/BB^i/V:Nat):Int):=by
     rw[←k1];exact IntWalk.u32_in _ (by unfold BB at f1;omega)
    simp only[vx,T,seval]
    simp(disch:=omega) only[lG,←X2,←Int.natCast_mul,Int.toNat_natCast,IntWalk.i64_in,IntWalk.u64_in,aA,aE,true_and,and_true,k4]
    refine⟨by omega,Lq ⟨(i,zs,_),hy.step hzl hzi k2,by simp only[List.length_set];exact hql⟩ ?_ ?_⟩
    ·refine Sa ?_;simp only[ry,seval,rz]
    simp only;omega
   simp only[vx,T,seval];refine Lq ⟨(D-1,rest+hi),⟨by rw[←htp,←hhi];exact n2,n3,by simp only;unfold BB;omega,by simp only;omega⟩⟩ ?_ ?_
   ·refine Sa ?_;simp only[ry,seval,rz]
   simp only;omega
  obtain⟨f1,f2,f3⟩:=Dg.fin hAt hD.top hD.ge (.inl ⟨c2,by rw[←hnx];omega⟩);obtain⟨E,hE⟩:∃E,E=D:=⟨D,rfl⟩;rw[←hE]at f1 f2 f3⊢;simp only[vx,T,seval];have p1:IntKind.i64.wrap (((i+nl V:Nat):Int)+1)=((i+nl V+1:Nat):Int):=by rw[IntWalk.i64_in _ (by omega)];omega
  have p2:(((i+nl V+1:Nat):Int)-(i:Int)).toNat=nl V+1:=by omega
  simp(disch:=omega) only[lG,←X2,←Int.natCast_mul,Int.toNat_natCast,IntWalk.i64_in,IntWalk.u64_in,aA,aE,true_and,and_true,x3,p1,p2]
  refine⟨⟨by omega,by omega,by omega⟩,Cm 1 rfl trivial (jt us i V E hy.uin (by omega) (by omega) f1) ?_⟩;rintro r B' ⟨t,zs,rfl,rfl,hzl,hzi,hzu,hzv⟩ _;have hzd:val zs<BB^(i+nl V+1):=ky hzi (by rw[hzu,ie hy.uin,Nat.div_eq_of_lt hus0]);simp only[vx,T,seval];refine⟨fun ht=>Lg ?_,fun ht=>Lg ?_⟩
  ·subst ht;have m1:IntKind.u64.wrap ((E:Int)-1)=((E-1:Nat):Int):=by
    have:0<E:=by
     rcases Nat.eq_zero_or_pos E with hE0|hE0
     ·subst hE0;simp only[Nat.zero_mul,Nat.mul_zero,Nat.add_zero,if_true,Nat.mul_one]at hzv;omega
     exact hE0
    rw[IntWalk.u64_in _ (by unfold BB at f1;omega)];omega
   simp only[vx,T,seval]
   simp(disch:=omega) only[lG,←X2,←Int.natCast_mul,Int.toNat_natCast,IntWalk.i64_in,IntWalk.u64_in,aA,aE,true_and,and_true,x3,p1,p2,m1]
   refine⟨⟨by omega,by omega,by omega⟩,Cm 1 rfl trivial (kg zs i V hzi (by omega) (by omega)) ?_⟩;rintro r B' ⟨rfl,zs2,k,rfl,hl2,hi2,hu2,hv2⟩ _;simp only[if_true,Nat.mul_one]at hzv;obtain⟨k1,k2⟩:=hAt.xe f3 f2 hzd (ky hi2 (by rw[hu2,hzu,ie hy.uin,Nat.div_eq_of_lt hus0])) hzv hv2;have k3:E-1=val us/BB^i/V:=by rw[k1];rfl
   have k4:IntKind.u32.wrap ((E-1:Nat):Int)=((val us/BB^i/V:Nat):Int):=by
    rw[k3]
    have:=hy.q
    generalize val us/BB^i/V=q at this⊢
    exact IntWalk.u32_in _ (by unfold BB at this;omega)
   simp only[vx,T,seval]
   simp(disch:=omega) only[lG,←X2,←Int.natCast_mul,Int.toNat_natCast,IntWalk.i64_in,IntWalk.u64_in,aA,aE,true_and,and_true,k4]
   refine⟨by omega,Lq ⟨(i,zs2,_),hy.step (by rw[hl2,hzl]) hi2 k2,by simp only[List.length_set];exact hql⟩ ?_ ?_⟩
   ·refine Sa ?_;simp only[ry,seval,rz]
   simp only;omega
  subst ht;simp only[Bool.false_eq_true,if_false,Nat.mul_zero,Nat.add_zero]at hzv;obtain⟨k1,k2⟩:=hAt.Cy f2 hzv;have k4:IntKind.u32.wrap (E:Int)=((val us/BB^i/V:Nat):Int):=by
   rw[←k1];exact IntWalk.u32_in _ (by unfold BB at f1;omega)
  simp only[vx,T,seval]
  simp(disch:=omega) only[lG,←X2,←Int.natCast_mul,Int.toNat_natCast,IntWalk.i64_in,IntWalk.u64_in,aA,aE,true_and,and_true,k4]
  refine⟨by omega,Lq ⟨(i,zs,_),hy.step hzl hzi k2,by simp only[List.length_set];exact hql⟩ ?_ ?_⟩
  ·refine Sa ?_;simp only[ry,seval,rz]
  simp only;omega
 have hj0:j=0:=by omega
 subst hj0;rw[hA,hV]at hy;obtain⟨r1,r2,r3⟩:=hy.done h0;rw[←hV]at r3;have hul:=hy.ulen;have hqi:=hy.qin;have hui:=hy.uin;have hjl:=hy.le;simp only[←hV]at hjl;clear hy;simp only[vx,T,seval];rw[List.take_of_length_le (by omega)];refine Cg (df qs hqi (by omega)) ?_;rw[r1];simp only[vx,T,seval];have r4:val (us.take (nl V))=val us:=by rw[uC hui,Nat.mod_eq_of_lt r3]
 have r5:nl (val us)<2^40:=Nat.lt_of_le_of_lt (aB r3) (by omega);refine⟨by omega,Cg (df _ (hui.take _) (by rw[X5];omega)) ?_⟩;rw[r4];simp only[vx,T,seval];refine Cg (kE (val us) (j3 b) r5 s1).ints ?_;simp only[vx,T,seval];have r6:val (iq (nl (val us)) (val us/2^j3 b))=a%b:=by
  rw[jn (Nat.lt_of_le_of_lt (Nat.div_le_self _ _) (b7 _)),r2,Nat.mul_div_cancel _ (Nat.pow_pos (by decide))]
 refine Cg (df _ (gj _ _) (by rw[aK];omega)) ?_;rw[r6];simp only[vx,T,seval];refine Va ?_;simp only[cO,aV,ry,seval]
open Go Go.Eng
theorem xE {b lb:Nat}(h:b<BB^lb)(i:Nat):(iq lb b).getD i 0=((b/BB^i%BB:Nat):Int):=by
 rw[da (gj _ _),jX,Nat.mod_eq_of_lt h]
theorem dy (lb b:Nat):(iq lb b).take lb=iq lb b:=List.take_of_length_le (by rw[aK];exact Nat.le_refl _)
structure iN (a b lb i:Nat) (os:List Int):Prop where
 le:i≤nl a
 len:os.length=nl a+lb
 inr:bF os
 zero:∀j,i+lb≤j→os.getD j 0=0
 eq:val os=(a%BB^i)*b
structure mT (a b lb i k:Nat) (os:List Int) (c:Nat):Prop where
 le:k≤lb
 len:os.length=nl a+lb
 inr:bF os
 zero:∀j,i+lb≤j→os.getD j 0=0
 eq:val os+BB^(i+k)*c=(a%BB^i)*b+BB^i*((a/BB^i%BB)*(b%BB^k))
 c:c<BB
theorem iN.init (a b lb:Nat):iN a b lb 0 (List.replicate (nl a+lb) 0):=
 ⟨Nat.zero_le _,by simp,bF.replicate _,fun j _=>by simp[X7,List.getElem?_replicate];split<;>rfl,by rw[cA];simp[Nat.mod_one]⟩
theorem iN.start {a b lb i:Nat}{os:List Int}(h:iN a b lb i os):mT a b lb i 0 os 0:=
 ⟨Nat.zero_le _,h.len,h.inr,h.zero,by rw[h.eq];simp[Nat.mod_one],by decide⟩
theorem mT.put {a b lb i k:Nat}{os:List Int}{c o s:Nat}(h:mT a b lb i k os c)(hi:i<nl a)(hk:k<lb)(ho:os.getD (i+k) 0=(o:Int))(hs:s=(a/BB^i%BB)*(b/BB^k%BB)+o+c):
  mT a b lb i (k+1) (os.set (i+k) ((s%BB:Nat):Int)) (s/BB):=by
 have hl:i+k<os.length:=by rw[h.len];omega
 have hx:=bd (a/BB^i);have hy:=bd (b/BB^k);have ho2:o<BB:=by have:=h.inr.getD (i+k);rw[ho]at this;unfold BB;omega
 refine⟨hk,by rw[List.length_set];exact h.len,h.inr.set _ ⟨by omega,by have:=bd s;omega⟩,fun j hj=>?_,?_,?_⟩
 ·rw[getD_set_ne (by omega)];exact h.zero j hj
 ·have e:=dK (xs:=os) (x:=((s%BB:Nat):Int)) hl;rw[ho]at e;simp only[Int.toNat_natCast]at e;have h1:=h.eq;have e2:BB^(i+(k+1))*(s/BB)+BB^(i+k)*(s%BB)=BB^(i+k)*s:=by
   rw[←Nat.add_assoc,Nat.pow_succ,Nat.mul_assoc,←Nat.mul_add,Nat.div_add_mod]
  have e3:BB^(i+k)*s=BB^i*((a/BB^i%BB)*(BB^k*(b/BB^k%BB)))+BB^(i+k)*o+BB^(i+k)*c:=by
   rw[hs,Nat.mul_add,Nat.mul_add,Nat.pow_add]
   congr 2
   simp only[Nat.mul_comm,Nat.mul_left_comm]
  rw[eJ b k,Nat.mul_add,Nat.mul_add];omega
 have hp:(a/BB^i%BB)*(b/BB^k%BB)≤4294967295*4294967295:=Nat.mul_le_mul (by omega) (by omega);have h3:=h.c;rw[Nat.div_lt_iff_lt_mul (by decide)];unfold BB at*
 omega
theorem mT.next {a b lb i:Nat}{os:List Int}{c:Nat}(hb':b<BB^lb)(h:mT a b lb i (lb) os c)(hi:i<nl a):iN a b lb (i+1) (os.set (i+lb) ((c%BB:Nat):Int)):=by
 have hl:i+lb<os.length:=by rw[h.len];omega
 have hc:c%BB=c:=Nat.mod_eq_of_lt h.c;refine⟨hi,by rw[List.length_set];exact h.len,h.inr.set _ ⟨by omega,by have:=bd c;omega⟩,fun j hj=>?_,?_⟩
 ·rw[getD_set_ne (by omega)];exact h.zero j (by omega)
 have e:=dK (xs:=os) (x:=((c%BB:Nat):Int)) hl;rw[h.zero _ (Nat.le_refl _),hc]at e;simp only[Int.toNat_natCast,Int.toNat_zero,Nat.mul_zero,Nat.add_zero]at e;rw[hc,e,h.eq,Nat.mod_eq_of_lt hb',eJ a,Nat.add_mul,Nat.mul_assoc]
theorem iN.done {a b lb:Nat}{os:List Int}(h:iN a b lb (nl a) os):val os=a*b:=by
 rw[h.eq,gT (Nat.le_refl _)]
theorem px (a b lb:Nat)(ha:nl a<2^40)(hb:lb<2^40)(hb':b<BB^lb):Pr Tryz.prog 191 [.one (.ints .u32 (ak a)),.one (.ints .u32 (iq lb b))] (.one (.ints .u32 (ak (a*b)))):=by
 refine pw Tryz.func191 ⟨[0,1,4,5,6,7,8,18,24],[]⟩ ?_;simp only[Tryz.f191,Tryz.ntmps191,iz,seval];simp only[vx,T,seval,aK,dy]
 simp(disch:=omega) only[lG,←X2,←Int.natCast_mul,Int.toNat_natCast,IntWalk.i64_in,IntWalk.u64_in,aA,aE,true_and,and_true,xE hb']
 refine⟨⟨by omega,by omega,by omega,by omega⟩,Lk (fun i:{i:Nat×List Int//iN a b lb i.1 i.2}=>⟨[(0,.one (.ints .u32 (ak a))),(1,.one (.ints .u32 (iq lb b))),(5,.one (.own 1 1 0 (nl a+lb))),(6,.one (.int .i64 i.1.1))],[(1,⟨.ints 137 .u32 i.1.2,true⟩)],3,67⟩) (fun i=>nl a-i.1.1) ⟨(0,List.replicate (nl a+lb) 0),iN.init a b lb⟩ ?_ (fun⟨⟨i,os⟩,hi⟩=>?_)⟩
 ·refine Sa ?_;simp only[ry,seval,rz,dy]
 have h1:=hi.le;have h2:=hi.len;simp only at h1 h2;simp only[vx,T,seval,aK,dy];refine⟨fun h=>Lg ?_,fun h=>Lg ?_⟩
 ·simp only[vx,T,seval,aK,dy];have hx:=bd (a/BB^i);refine Lk (fun k:{k:Nat×List Int×Nat//mT a b lb i k.1 k.2.1 k.2.2}=>⟨[(0,.one (.ints .u32 (ak a))),(1,.one (.ints .u32 (iq lb b))),(5,.one (.own 1 1 0 (nl a+lb))),(6,.one (.int .i64 i)),(7,.one (.int .u64 k.1.2.2)),(8,.one (.int .i64 k.1.1))],[(1,⟨.ints 137 .u32 k.1.2.1,true⟩)],3,67⟩) (fun k=>lb-k.1.1) ⟨(0,os,0),hi.start⟩ ?_ (fun⟨⟨k,os',c⟩,hk⟩=>?_)
  ·refine Sa ?_;simp only[ry,seval,rz,lG,dy]
  have h3:=hk.le;have h4:=hk.len;have h5:=hk.c;have h5:c<4294967296:=h5;have hz:=hk.inr.getD (i+k);simp only at h3 h4 hz;obtain⟨o,ho⟩:=Int.eq_ofNat_of_zero_le hz.1;rw[ho]at hz;simp only[vx,T,seval,aK,dy];refine⟨fun h'=>Lg ?_,fun h'=>Lg ?_⟩
  ·simp only[vx,T,seval,aK,dy];have hy:=bd (b/BB^k);have hp:(a/BB^i%BB)*(b/BB^k%BB)≤4294967295*4294967295:=Nat.mul_le_mul (by omega) (by omega)
   simp(disch:=omega) only[lG,←X2,←Int.natCast_mul,Int.toNat_natCast,IntWalk.i64_in,IntWalk.u64_in,aA,aE,true_and,and_true,ho,xE hb']
   refine⟨by omega,by omega,by omega,by omega,Lq ⟨(k+1,_,_),hk.put (s:=c+o+(a/BB^i%BB)*(b/BB^k%BB)) (by omega) (by omega) ho (by simp only;omega)⟩ ?_ ?_⟩
   ·refine Sa ?_;simp only[ry,seval,rz,dy]
   simp only;omega
  simp only[vx,T,seval,aK,dy];have hkb:k=lb:=by omega
  subst hkb
  simp(disch:=omega) only[lG,←X2,←Int.natCast_mul,Int.toNat_natCast,IntWalk.i64_in,IntWalk.u64_in,aA,aE,true_and,and_true,xE hb']
  refine⟨by omega,Lq ⟨(i+1,_),mT.next hb' hk (by omega)⟩ ?_ ?_⟩
  ·refine Sa ?_;simp only[ry,seval,rz,dy]
  simp only;omega
 simp only[vx,T,seval,aK,dy];have hia:i=nl a:=by omega
 subst hia;have hr:=hi.inr;have hv:=hi.done;simp only at hr hv;rw[List.take_of_length_le (by omega)];refine Cg (bO _ hr (by omega)) ?_;rw[hv];simp only[vx,T,seval,aK,dy];refine Va ?_;simp only[cO,aV,ry,seval]
open Go Go.Eng
theorem kv {xs:List Int}(h:bF xs)(off l:Nat):bF ((xs.drop off).take l):=(h.drop off).take l
theorem kq {xs:List Int}{off l i:Nat}(h:i<l):((xs.drop off).take l).getD i 0=xs.getD (off+i) 0:=by
 rw[X7,X7,List.getElem?_take,if_pos h,List.getElem?_drop]
theorem hO {xs:List Int}{off l:Nat}(h:off+l≤xs.length):((xs.drop off).take l).length=l:=by
 rw[X5,List.length_drop];omega
theorem xc {xs:List Int}{off l k:Nat}(h:k≤l):((xs.drop off).take l).take k=(xs.drop off).take k:=by
 rw[List.take_take,Nat.min_eq_left h]
theorem oQ {xs:List Int}{off l:Nat}(hx:bF xs)(h:off+l≤xs.length):nl (val ((xs.drop off).take l))≤l∧(xs.drop off).take (nl (val ((xs.drop off).take l)))=ak (val ((xs.drop off).take l)):=by
 have hr:=kv hx off l;have hl:=hO h;have h1:nl (val ((xs.drop off).take l))≤l:=by
  refine aB ?_
  have:=kf hr
  rw[hl]at this;exact this
 refine⟨h1,?_⟩;have h2:=uC hr (nl (val ((xs.drop off).take l)));rw[xc h1,Nat.mod_eq_of_lt (b7 _)]at h2;have h3:=rF (kv hx off (nl (val ((xs.drop off).take l)))) (hO (by omega)) h2;rw[Av]at h3;exact h3
theorem mF (xs:List Int)(off len:Nat)(hx:bF xs)(hl:off+len≤xs.length)(hlen:xs.length<2^41):Mc Tryz.prog 157 [.one (.own 0 1 off len)] (.ints 137 .u32 xs) (fun r B'=>r= .one (.own 0 1 off (nl (val ((xs.drop off).take len))))∧B'= .ints 137 .u32 xs):=by
 refine mw Tryz.func157 ⟨[0,2,14],[]⟩ ?_;simp only[Tryz.f157,Tryz.ntmps157,iz,seval];simp only[vx,T,seval];refine Lk (fun l:{l:Nat//l≤len∧val ((xs.drop off).take l)=val ((xs.drop off).take len)}=>⟨[(0,.one (.own 0 1 off l.1))],[(0,⟨.ints 137 .u32 xs,true⟩)],3,21⟩) (fun l=>l.1) ⟨len,Nat.le_refl _,rfl⟩ ?_ (fun⟨l,hl1,hl2⟩=>?_)
 ·refine Sa ?_;simp only[ry,seval,rz]
 have hv:=oQ (l:=len) hx hl;have hfin:(l=0∨xs.getD (off+(l-1)) 0≠0)→nl (val ((xs.drop off).take len))=l:=by
  intro hc;rw[←hl2];have h1:ak (val ((xs.drop off).take l))=(xs.drop off).take l:=by
   refine bX (kv hx off l) ?_
   rcases hc with hc|hc
   ·subst hc;exact .inl (List.take_zero)
   rcases Nat.eq_zero_or_pos l with h0|h0
   ·subst h0;exact .inl (List.take_zero)
   refine .inr ?_;rw[hO (by omega),kq (by omega)];exact hc
  unfold nl;rw[h1,hO (by omega)]
 simp only[vx,T,seval];refine⟨fun h=>Lg ?_,fun h=>Lg ?_⟩
 ·simp only[vx,T,seval];have e1:IntKind.i64.wrap ((l:Int)-1)=((l-1:Nat):Int):=by rw[IntWalk.i64_in _ (by omega)];omega
  simp(disch:=omega) only[lG,←X2,←Int.natCast_mul,Int.toNat_natCast,IntWalk.i64_in,IntWalk.u64_in,aA,aE,true_and,and_true,e1]
  refine⟨by omega,?_⟩;refine⟨fun h0=>Lg ?_,fun h0=>Lg ?_⟩
  ·simp only[vx,T,seval]
   simp(disch:=omega) only[lG,←X2,←Int.natCast_mul,Int.toNat_natCast,IntWalk.i64_in,IntWalk.u64_in,aA,aE,true_and,and_true,e1]
   refine⟨by omega,Lq ⟨l-1,by omega,?_⟩ ?_ ?_⟩
   ·have e2:=uh (ys:=(xs.drop off).take l) (kv hx off l) (by rw[hO (by omega)];omega) (by rw[hO (by omega),kq (by omega)];exact h0);rw[hO (by omega),xc (by omega)]at e2;rw[e2,hl2]
   ·refine Sa ?_;simp only[ry,seval,rz]
   simp only;omega
  simp only[vx,T,seval];rw[hfin (.inr h0)]
 simp only[vx,T,seval];rw[hfin (.inl (by omega))]
open Go Go.Eng
theorem xY (xs:List Int)(off a b:Nat)(hx:bF xs)(hl:off+nl a≤xs.length)(hlen:xs.length<2^41)(hv:(xs.drop off).take (nl a)=ak a)(hab:b≤a)(ha:nl a<2^40):
  Mc Tryz.prog 190 [.one (.own 0 1 off (nl a)),.one (.ints .u32 (ak b))] (.ints 137 .u32 xs) (fun r B'=>r= .one (.ints .u32 (ak (a-b)))∧B'= .ints 137 .u32 xs):=by
 have hba:=bg hab;have hg:∀i,i<nl a→xs.getD (off+i) 0=((a/BB^i%BB:Nat):Int):=fun i hi=>by rw[←lG,←hv,kq hi]
 refine mw Tryz.func190 ⟨[0,1,4,5,6,7,8,9,16,22],[]⟩ ?_;simp only[Tryz.f190,Tryz.ntmps190,iz,seval];simp only[vx,T,seval];refine⟨⟨by omega,by omega,by omega,by omega⟩,Lk (fun i:{i:Nat×List Int×Nat//hJ a b i.1 i.2.1 i.2.2}=>⟨[(0,.one (.own 0 1 off (nl a))),(1,.one (.ints .u32 (ak b))),(5,.one (.own 1 1 0 (nl a))),(6,.one (.int .u64 i.1.2.2)),(7,.one (.int .i64 i.1.1))],[(0,⟨.ints 137 .u32 xs,true⟩),(1,⟨.ints 137 .u32 i.1.2.1,true⟩)],3,48⟩) (fun i=>nl a-i.1.1) ⟨(0,List.replicate (nl a) 0,0),Nat.zero_le _,bF.nil,by simp,by simp[val,Nat.mod_one],Nat.zero_le _⟩ ?_ (fun⟨⟨i,os,c⟩,hi⟩=>?_)⟩
 ·refine Sa ?_;simp only[ry,seval,rz]
 have h1:=hi.le;have h2:=hi.len;have h3:=hi.c;simp only at h1 h2 h3;simp only[vx,T,seval];refine⟨fun h=>Lg ?_,fun h=>Lg ?_⟩
 ·simp only[vx,T,seval];have hx1:=bd (a/BB^i);have hy:=bd (b/BB^i);have e1:=IntWalk.u64_in (a/BB^i%BB:Nat) (by omega);have e2:=IntWalk.u64_in (b/BB^i%BB:Nat) (by omega);have hgi:=hg i (by omega);refine⟨fun h'=>Lg ?_,fun h'=>Lg ?_⟩
  ·simp only[vx,T,seval];have hp:=hi.put (by omega);simp only[lG,hgi,e1,e2,zQ hx1 hy h3,Ab hx1 hy h3,IntWalk.i64_in _ (show-9223372036854775808≤(i:Int)+1∧(i:Int)+1≤9223372036854775807 by omega)];refine⟨⟨by omega,by omega⟩,⟨by omega,by omega⟩,⟨by omega,by omega⟩,Lq ⟨(i+1,_,_),hp⟩ ?_ ?_⟩
   ·refine Sa ?_;simp only[ry,seval,rz]
   simp only;omega
  simp only[vx,T,seval];have hy0:=iY (x:=b) (k:=i) (by omega);have hp:=hi.put (by omega);rw[hy0]at hp;simp only[lG,hgi,e1,e2,vQ hx1 h3,wC hx1 h3,IntWalk.i64_in _ (show-9223372036854775808≤(i:Int)+1∧(i:Int)+1≤9223372036854775807 by omega)];refine⟨⟨by omega,by omega⟩,⟨by omega,by omega⟩,Lq ⟨(i+1,_,_),hp⟩ ?_ ?_⟩
  ·refine Sa ?_;simp only[ry,seval,rz]
  simp only;omega
 simp only[vx,T,seval];have hia:i=nl a:=by omega
 subst hia;obtain⟨hv2,hr⟩:=hi.last hab;simp only at hv2 hr;rw[List.take_of_length_le (by omega)];refine Cg (bO _ hr (by omega)) ?_;rw[hv2];simp only[vx,T,seval]
theorem Ku {U V n:Nat}(hn:nl V=n)(h0:0<V):U/V≤U/BB^(n-1)/(V/BB^(n-1)):=by
 have hp:0<BB^(n-1):=Nat.pow_pos (by decide);have hv:0<V/BB^(n-1):=Nat.div_pos (by rw[←hn];exact uV h0) hp;rw[Nat.le_div_iff_mul_le hv,Nat.le_div_iff_mul_le hp,Nat.mul_assoc];refine Nat.le_trans (Nat.mul_le_mul_left _ ?_) (Nat.div_mul_le_self U V);rw[Nat.mul_comm];exact Nat.mul_div_le _ _
theorem zT (xs:List Int)(off V:Nat)(hx:bF xs)(hV:0<V)(hl:off+(nl V+1)≤xs.length)(hlen:xs.length<2^39)(hU:val ((xs.drop off).take (nl V+1))<V*BB):
  Mc Tryz.prog 200 [.one (.own 0 1 off (nl V+1)),.one (.ints .u32 (ak V))] (.ints 137 .u32 xs)
   (fun r B'=>r= .aJ [.one (.int .u32 (val ((xs.drop off).take (nl V+1))/V:Nat)),.one (.ints .u32 (ak (V*(val ((xs.drop off).take (nl V+1))/V))))]∧B'= .ints 137 .u32 xs):=by
 obtain⟨U,hUd⟩:∃U,U=val ((xs.drop off).take (nl V+1)):=⟨_,rfl⟩;have hnV:=dZ.2 hV;have htm:=mF xs off (nl V+1) hx hl (by omega);have hvl:=oQ (l:=nl V+1) hx hl;have hr:=kv hx off (nl V+1);have g1:xs.getD (off+nl V) 0=((U/BB^nl V%BB:Nat):Int):=by rw[hUd,←da hr,kq (by omega)]
 have g2:xs.getD (off+(nl V-1)) 0=((U/BB^(nl V-1)%BB:Nat):Int):=by rw[hUd,←da hr,kq (by omega)]
 have hUl:=kf hr;rw[hO hl]at hUl;rw[←hUd]at htm hvl hU hUl⊢;have htop:=ko hV;obtain⟨t1,t2⟩:=gM hV;have ed:U/BB^nl V*BB+U/BB^(nl V-1)%BB=U/BB^(nl V-1):=by
  have:=wP U (nl V-1)
  rw[show nl V-1+1=nl V by omega]at this;exact this
 have d1:U/BB^nl V<BB:=by
  rw[Nat.div_lt_iff_lt_mul (Nat.pow_pos (by decide)),Nat.mul_comm,←Nat.pow_succ];exact hUl
 have d2:U/BB^nl V%BB=U/BB^nl V:=Nat.mod_eq_of_lt d1;have d3:=ph d1 (bd (U/BB^(nl V-1)));rw[ed]at d3;have hq0:=Ku (U:=U) rfl hV;have hq1:U/V<BB:=by rw[Nat.div_lt_iff_lt_mul hV,Nat.mul_comm];exact hU
 have htp:U/BB^(nl V-1)<BB*BB:=by
  rw[←ed]
  have:=bd (U/BB^(nl V-1))
  generalize U/BB^nl V=p at*
  generalize U/BB^(nl V-1)%BB=q at*
  unfold BB at*
  omega
 obtain⟨tp,htpd⟩:∃tp,tp=U/BB^(nl V-1):=⟨_,rfl⟩;obtain⟨hi,hhi⟩:∃hi,hi=eX V:=⟨_,rfl⟩;have hq0':U/V≤tp/hi:=by rw[htpd,hhi];exact hq0
 rw[←htpd]at d3 htp g2;rw[←hhi]at htop t1 t2;obtain⟨u1,hu1⟩:∃u1,u1=U/BB^nl V:=⟨_,rfl⟩;rw[d2]at g1;rw[←hu1]at g1 d1 d3;obtain⟨u0,hu0⟩:∃u0,u0=tp%BB:=⟨_,rfl⟩;have hu0l:u0<BB:=by rw[hu0];exact bd tp
 rw[←hu0]at g2 d3;have d4:IntKind.u64.wrap (u1:Int)=u1:=IntWalk.u64_in _ (by unfold BB at d1;omega);have d5:IntKind.u64.wrap (u0:Int)=u0:=IntWalk.u64_in _ (by unfold BB at hu0l;omega);have d6:IntKind.u64.wrap ((u1:Int)*4294967296)=(u1:Int)*4294967296:=IntWalk.u64_in _ (by unfold BB at d1;omega);have d7:IntKind.u64.wrap (hi:Int)=hi:=IntWalk.u64_in _ (by unfold BB at t2;omega);have d8:IntKind.u64.wrap ((tp:Int).tdiv hi)=((tp/hi:Nat):Int):=by
  have e3:(tp:Int).tdiv hi=((tp/hi:Nat):Int):=rfl
  have:=Nat.div_le_self tp hi
  generalize tp/hi=q at*
  rw[e3,IntWalk.u64_in _ (by unfold BB at htp;omega)]
 have x1:IntKind.i64.wrap ((nl V:Int)-1)=((nl V-1:Nat):Int):=by rw[IntWalk.i64_in _ (by omega)];omega
 refine mw Tryz.func200 ⟨[0,1,4,5,6,7,8,32,42],[]⟩ ?_;simp only[Tryz.f200,Tryz.ntmps200,iz,seval];simp only[vx,T,seval]
 simp(disch:=omega) only[lG,←X2,←Int.natCast_mul,Int.toNat_natCast,IntWalk.i64_in,IntWalk.u64_in,aA,aE,true_and,and_true,x1,g1,g2,htop,d4,d5,d6,d3,d7,d8]
 refine⟨⟨by omega,by omega⟩,⟨by omega,by omega⟩,⟨by omega,by omega⟩,by omega,?_⟩;refine⟨fun hq=>Lg ?_,fun hq=>Lg ?_⟩
 ·obtain⟨Q,hQ⟩:∃Q:Nat,(4294967295:Int)=Q:=⟨4294967295,rfl⟩;have hQ1:U/V≤Q:=by unfold BB at hq1;generalize U/V=q at*;omega
  have hQ2:Q<BB:=by unfold BB;omega
  simp only[vx,T,seval];simp only[hQ];simp only[aA];refine Cg (px V Q 1 (by omega) (by decide) (by rw[Nat.pow_one];exact hQ2)) ?_;simp only[vx,T,seval];refine Lk (fun q:{q:Nat//U/V≤q∧q<BB}=>⟨[(0,.one (.own 0 1 off (nl V+1))),(1,.one (.ints .u32 (ak V))),(7,.one (.int .u64 q.1)),(8,.one (.ints .u32 (ak (V*q.1))))],[(0,⟨.ints 137 .u32 xs,true⟩)],3,51⟩) (fun q=>q.1) ⟨Q,hQ1,hQ2⟩ ?_ (fun⟨q,hqa,hqb⟩=>?_)
  ·refine Sa ?_;simp only[ry,seval,rz]
  have hq3:nl (V*q)≤nl V+1:=by
   have h1:=iE V q;have h2:nl q≤1:=aB (by rw[Nat.pow_one];exact hqb);omega
  simp only[vx,T,seval];refine Cm 0 rfl trivial htm ?_;rintro r B' ⟨rfl,rfl⟩ _;simp only[vx,T,seval];rw[hvl.2];refine Cg (fu U (V*q) (by omega) (by omega)) ?_;simp only[vx,T,seval];refine⟨fun hc=>Lg ?_,fun hc=>Lg ?_⟩
  ·have hc2:=kA hc;have hc3:U/V<q:=by rw[Nat.div_lt_iff_lt_mul hV,Nat.mul_comm];exact hc2
   have hc4:V*(q-1)=V*q-V:=by rw[Nat.mul_sub,Nat.mul_one]
   have hc5:0<q:=Nat.lt_of_le_of_lt (Nat.zero_le _) hc3;have hc6:V≤V*q:=Nat.le_mul_of_pos_right _ hc5;have hc7:=Nat.le_sub_one_of_lt hc3;have m1:IntKind.u64.wrap ((q:Int)-1)=((q-1:Nat):Int):=by rw[IntWalk.u64_in _ (by unfold BB at hqb;omega)];omega
   simp only[vx,T,seval];simp only[m1];refine Cg (jN (V*q) V hc6 (by omega)) ?_;rw[←hc4];simp only[vx,T,seval];refine Lq ⟨q-1,hc7,by omega⟩ ?_ ?_
   ·refine Sa ?_;simp only[ry,seval,rz]
   simp only;omega
  have hc2:=iZ hc;have hc3:q=U/V:=Nat.le_antisymm ((Nat.le_div_iff_mul_le hV).2 (by rw[Nat.mul_comm];exact hc2)) hqa;simp only[vx,T,seval];have m2:IntKind.u32.wrap (q:Int)=q:=IntWalk.u32_in _ (by unfold BB at hqb;omega);rw[m2,hc3]
 obtain⟨Q,hQ⟩:∃Q:Nat,Q=tp/hi:=⟨_,rfl⟩;rw[←hQ]at hq hq0'⊢;have hQ1:U/V≤Q:=hq0';have hQ2:Q<BB:=by unfold BB;omega
 simp only[vx,T,seval];simp only[aA];refine Cg (px V Q 1 (by omega) (by decide) (by rw[Nat.pow_one];exact hQ2)) ?_;simp only[vx,T,seval];refine Lk (fun q:{q:Nat//U/V≤q∧q<BB}=>⟨[(0,.one (.own 0 1 off (nl V+1))),(1,.one (.ints .u32 (ak V))),(7,.one (.int .u64 q.1)),(8,.one (.ints .u32 (ak (V*q.1))))],[(0,⟨.ints 137 .u32 xs,true⟩)],3,51⟩) (fun q=>q.1) ⟨Q,hQ1,hQ2⟩ ?_ (fun⟨q,hqa,hqb⟩=>?_)
 ·refine Sa ?_;simp only[ry,seval,rz]
 have hq3:nl (V*q)≤nl V+1:=by
  have h1:=iE V q;have h2:nl q≤1:=aB (by rw[Nat.pow_one];exact hqb);omega
 simp only[vx,T,seval];refine Cm 0 rfl trivial htm ?_;rintro r B' ⟨rfl,rfl⟩ _;simp only[vx,T,seval];rw[hvl.2];refine Cg (fu U (V*q) (by omega) (by omega)) ?_;simp only[vx,T,seval];refine⟨fun hc=>Lg ?_,fun hc=>Lg ?_⟩
 ·have hc2:=kA hc;have hc3:U/V<q:=by rw[Nat.div_lt_iff_lt_mul hV,Nat.mul_comm];exact hc2
  have hc4:V*(q-1)=V*q-V:=by rw[Nat.mul_sub,Nat.mul_one]
  have hc5:0<q:=Nat.lt_of_le_of_lt (Nat.zero_le _) hc3;have hc6:V≤V*q:=Nat.le_mul_of_pos_right _ hc5;have hc7:=Nat.le_sub_one_of_lt hc3;have m1:IntKind.u64.wrap ((q:Int)-1)=((q-1:Nat):Int):=by rw[IntWalk.u64_in _ (by unfold BB at hqb;omega)];omega
  simp only[vx,T,seval];simp only[m1];refine Cg (jN (V*q) V hc6 (by omega)) ?_;rw[←hc4];simp only[vx,T,seval];refine Lq ⟨q-1,hc7,by omega⟩ ?_ ?_
  ·refine Sa ?_;simp only[ry,seval,rz]
  simp only;omega
 have hc2:=iZ hc;have hc3:q=U/V:=Nat.le_antisymm ((Nat.le_div_iff_mul_le hV).2 (by rw[Nat.mul_comm];exact hc2)) hqa;simp only[vx,T,seval];have m2:IntKind.u32.wrap (q:Int)=q:=IntWalk.u32_in _ (by unfold BB at hqb;omega);rw[m2,hc3]
open Go Go.Eng
theorem pO (a b:Nat)(h0:0<b)(ha:nl a<2^38)(hb:nl b<2^38):Pr Tryz.prog 160 [.one (.ints .u32 (ak a)),.one (.ints .u32 (ak b))] (.aJ [.one (.ints .u32 (ak (a/b))),.one (.ints .u32 (ak (a%b)))]):=by
 have hnb:=dZ.2 h0;refine pw Tryz.func160 ⟨[0,1,4,5,6,7,8,9,10,11,12,13,14,15,16,17,18,19,23,27,42,77,105,114],[]⟩ ?_;simp only[Tryz.f160,Tryz.ntmps160,iz,seval];simp only[vx,T,seval];refine Cg (fu a b (by omega) (by omega)) ?_;simp only[vx,T,seval];refine⟨fun h1=>Lg ?_,fun h1=>Lg ?_⟩
 ·simp only[vx,T,seval];have hlt:a<b:=kA h1;refine Va ?_;simp only[cO,aV,ry,seval,Nat.div_eq_of_lt hlt,Nat.mod_eq_of_lt hlt,bq]
 have hle:b≤a:=iZ h1;simp only[vx,T,seval];refine⟨fun h2=>Lg ?_,fun h2=>Lg ?_⟩
 ·simp only[vx,T,seval];have ha2:a<2^64:=by have:=cj.1 (show nl a≤2 by omega);unfold BB at this;omega
  refine Cg (rQ a ha2) ?_;simp only[vx,T,seval];refine Cg (rQ b (by omega)) ?_;simp only[vx,T,seval];refine⟨by omega,?_⟩;have e1:IntKind.u64.wrap ((a:Int).tdiv b)=((a/b:Nat):Int):=by
   have e3:(a:Int).tdiv b=((a/b:Nat):Int):=rfl
   have:=Nat.div_le_self a b
   generalize a/b=q at*
   rw[e3,IntWalk.u64_in _ (by omega)]
  have e2:(a:Int).tmod b=((a%b:Nat):Int):=rfl;simp only[e1,e2];refine Cg (ig (a/b) (Nat.lt_of_le_of_lt (Nat.div_le_self a b) ha2)) ?_;simp only[vx,T,seval];refine⟨by omega,?_⟩;simp only[e2];refine Cg (ig (a%b) (Nat.lt_of_le_of_lt (Nat.mod_le a b) ha2)) ?_;simp only[vx,T,seval];refine Va ?_;simp only[cO,aV,ry,seval]
 simp only[vx,T,seval];refine⟨fun h3=>Lg ?_,fun h3=>Lg ?_⟩
 ·have h3':nl b=1:=by omega
  have hb1:b<BB:=by have:=cj.1 (show nl b≤1 by omega);simpa using this
  have hm1:=Nat.mod_lt a h0;have hm2:IntKind.u64.wrap ((a%b:Nat):Int)=((a%b:Nat):Int):=by
   generalize a%b=m at*
   exact IntWalk.u64_in _ (by unfold BB at hb1;omega)
  simp only[vx,T,seval]
  simp(disch:=omega) only[lG,←X2,←Int.natCast_mul,Int.toNat_natCast,IntWalk.i64_in,IntWalk.u64_in,aA,aE,true_and,and_true,Nat.pow_zero,Nat.div_one,Nat.mod_eq_of_lt hb1]
  refine⟨by omega,Cg (HL a b (by omega) h0 hb1) ?_⟩;simp only[vx,T,seval];simp only[hm2];refine Cg (ig (a%b) (by unfold BB at hb1;omega)) ?_;simp only[vx,T,seval];refine Va ?_;simp only[cO,aV,ry,seval]
 simp only[vx,T,seval];have ht:=ko h0;obtain⟨t1,t2⟩:=gM h0;obtain⟨s1,s2,s3⟩:=uu h0;have s4:=IY h0;refine Cg (o7 b h0 (by omega)) ?_;simp only[vx,T,seval];have hbl:bl (eX b)≤32:=AN (by unfold BB at t2;omega);have e0:IntKind.i64.wrap (IntKind.i64.wrap (32*(nl b:Nat))-((32*(nl b-1)+bl (eX b):Nat):Int))=((j3 b:Nat):Int):=by
  have e1:IntKind.i64.wrap (32*(nl b:Nat))=32*(nl b:Nat):=IntWalk.i64_in _ (by omega);rw[e1,IntWalk.i64_in _ (by omega)];unfold j3;omega
 simp only[e0];refine cY.fresh (ob a (j3 b) (by omega) s1) ?_;simp only[vx,T,seval];refine cY.fresh (ob b (j3 b) (by omega) s1) ?_;simp only[vx,T,seval,aK];have hA2:2*(a*2^j3 b)<BB^(nl a+1):=by
  have h5:=b7 a;have h6:2^j3 b≤2^31:=Nat.pow_le_pow_right (by decide) (by omega);have h7:a*2^j3 b≤a*2^31:=Nat.mul_le_mul_left _ h6;have h8:BB^(nl a+1)=BB^nl a*BB:=Nat.pow_succ _ _;have h9:a*(2*2^31)<BB^nl a*BB:=Nat.mul_lt_mul_of_lt_of_le h5 (by decide) (by decide);omega
 have hV2:val (iq (nl b+1) (b*2^j3 b))=b*2^j3 b:=jn (Nat.lt_of_lt_of_le s2 (Nat.pow_le_pow_right (by decide) (by omega)));rw[List.take_of_length_le (by rw[aK];exact Nat.le_refl _)];refine Cg (bO _ (gj _ _) (by rw[aK];omega)) ?_;rw[hV2];have hN:GX (b*2^j3 b) (nl (b*2^j3 b)):=⟨rfl,by omega,by rw[s4];exact s3⟩;obtain⟨A,hA⟩:∃A,A=a*2^j3 b:=⟨_,rfl⟩;obtain⟨V,hV⟩:∃V,V=b*2^j3 b:=⟨_,rfl⟩;have hmono:nl b≤nl a:=bg hle;rw[←hA]at hA2⊢;rw[←hV]at s4 hN⊢;have hVp:=hN.pos;clear hV2 s2 s3;simp only[vx,T,seval,aK];have e4:IntKind.i64.wrap ((nl a:Int)-(nl V:Nat))=((nl a+1-nl V:Nat):Int)-1:=by rw[IntWalk.i64_in _ (by omega)];omega
 simp(disch:=omega) only[lG,←X2,←Int.natCast_mul,Int.toNat_natCast,IntWalk.i64_in,IntWalk.u64_in,aA,aE,true_and,and_true,e4]
 refine⟨⟨by omega,by omega,by omega,by omega⟩,Lk (fun y:{y:Nat×List Int×List Int//jz A V (nl a+1) y.1 y.2.1 y.2.2∧y.2.2.length=nl a}=>⟨[(10,.one (.int .i64 (j3 b))),(11,.one (.own 1 1 0 (nl a+1))),(12,.one (.ints .u32 (ak V))),(13,.one (.own 2 1 0 (nl a))),(14,.one (.int .i64 ((y.1.1:Int)-1)))],[(1,⟨.ints 137 .u32 y.1.2.1,true⟩),(2,⟨.ints 137 .u32 y.1.2.2,true⟩)],3,128⟩) (fun y=>y.1.1) ⟨(nl a+1-nl V,_,List.replicate (nl a) 0),jz.init hN (by omega) hA2 (by omega),by simp⟩ ?_ (fun⟨⟨j,us,qs⟩,hy,hql⟩=>?_)⟩
 ·refine Sa ?_;simp only[ry,seval,rz];rfl
 simp only at hy hql;have hul:=hy.ulen;have hjl:=hy.le;have hui:=hy.uin;simp only[vx,T,seval];refine⟨fun h6=>Lg ?_,fun h6=>Lg ?_⟩
 ·obtain⟨i,rfl⟩:∃i,j=i+1:=⟨j-1,by omega⟩;have hAt:=hy.at;have hus0:val us<BB^(i+nl V+1):=by
   refine Nat.lt_of_lt_of_le hAt.lt ?_
   have:=Nat.mul_le_mul_right (BB^(i+1)) (Nat.le_of_lt hAt.dj.lt)
   rw[←Nat.pow_add,show nl V+(i+1)=i+nl V+1 by omega]at this;exact this
  have hUv:val ((us.drop i).take (nl V+1))=val us/BB^i:=by
   rw[uC (hui.drop i),ie hui,Nat.mod_eq_of_lt];rw[Nat.div_lt_iff_lt_mul (Nat.pow_pos (by decide)),Nat.mul_comm,←Nat.pow_add,←Nat.add_assoc];exact hus0
  have hUl:val us/BB^i<BB^(nl V+1):=by
   rw[Nat.div_lt_iff_lt_mul (Nat.pow_pos (by decide)),Nat.mul_comm,←Nat.pow_add,←Nat.add_assoc];exact hus0
  have hdg:=zT us i V hui hVp (by omega) (by omega) (by rw[hUv];exact hAt.U.1);have htm:=mF us i (nl V+1) hui (by omega) (by omega);have hvl:=oQ (off:=i) (l:=nl V+1) hui (by omega);rw[hUv]at hdg htm hvl;have hq:=hy.q;have x0:((i+1:Nat):Int)-1=(i:Int):=by omega
  have x3:IntKind.i64.wrap ((i:Int)+(nl V:Nat))=((i+nl V:Nat):Int):=by rw[←X2,IntWalk.i64_in _ (by omega)]
  have p1:IntKind.i64.wrap (((i+nl V:Nat):Int)+1)=((i+nl V+1:Nat):Int):=by rw[IntWalk.i64_in _ (by omega)];omega
  have p2:(((i+nl V+1:Nat):Int)-(i:Int)).toNat=nl V+1:=by omega
  obtain⟨U,hUd⟩:∃U,U=val us/BB^i:=⟨_,rfl⟩;rw[←hUd]at hdg htm hvl hUl hq;obtain⟨q,hqd⟩:∃q,q=U/V:=⟨_,rfl⟩;rw[←hqd]at hdg hq;rw[x0];simp only[vx,T,seval]
  simp(disch:=omega) only[lG,←X2,←Int.natCast_mul,Int.toNat_natCast,IntWalk.i64_in,IntWalk.u64_in,aA,aE,true_and,and_true,x3,p1,p2]
  refine⟨⟨by omega,by omega,by omega⟩,Cm 1 rfl trivial hdg ?_⟩;rintro r B' ⟨rfl,rfl⟩ _;simp only[vx,T,seval];refine⟨by omega,Cm 1 rfl trivial htm ?_⟩;rintro r B' ⟨rfl,rfl⟩ _;simp only[vx,T,seval];have hqV:V*q≤U:=by rw[hqd,Nat.mul_comm];exact Nat.div_mul_le_self U V
  refine Cm 1 rfl trivial (xY us i U (V*q) hui (by omega) (by omega) hvl.2 hqV (by omega)) ?_;rintro r B' ⟨rfl,rfl⟩ _;simp only[vx,T,seval];obtain⟨D,hD⟩:∃D,D=U-V*q:=⟨_,rfl⟩;rw[←hD];have hDl:D<BB^(nl V+1):=by omega
  have hDn:nl D≤nl V+1:=aB hDl;have hUg:∀k,k<nl V+1→us.getD (i+k) 0=((U/BB^k%BB:Nat):Int):=fun k hk=>by
   rw[hUd,←hUv,←da (kv hui i (nl V+1)),kq hk]
  refine Lk (fun z:{z:Nat×List Int//pz us i U D (nl V+1) z.1 z.2}=>⟨[(10,.one (.int .i64 (j3 b))),(11,.one (.own 1 1 0 (nl a+1))),(12,.one (.ints .u32 (ak V))),(13,.one (.own 2 1 0 (nl a))),(14,.one (.int .i64 i)),(15,.one (.own 1 1 i (nl V+1))),(18,.one (.ints .u32 (ak D))),(19,.one (.int .i64 z.1.1))],[(1,⟨.ints 137 .u32 z.1.2,true⟩),(2,⟨.ints 137 .u32 (qs.set i (q:Int)),true⟩)],3,128⟩) (fun z=>nl V+1-z.1.1) ⟨(0,us),pz.init i U D (nl V+1) hui⟩ ?_ (fun⟨⟨k,zs⟩,hz⟩=>?_)
  ·refine Sa ?_;simp only[ry,seval,rz]
  simp only at hz;have hzl:=hz.len;have hzk:=hz.le;simp only[vx,T,seval];refine⟨fun hk=>Lg ?_,fun hk=>Lg ?_⟩
  ·simp only[vx,T,seval];have hkm:k<nl V+1:=by omega
   have hdk:=bd (D/BB^k);have k1:IntKind.i64.wrap ((k:Int)+1)=((k+1:Nat):Int):=by rw[IntWalk.i64_in _ (by omega)];omega
   refine⟨⟨by omega,by omega⟩,fun h'=>Lg ?_,fun h'=>Lg ?_⟩
   ·simp only[vx,T,seval];simp only[List.set_set,k1,lG];refine⟨⟨by omega,by omega⟩,by omega,Lq ⟨(k+1,zs.set (i+k) ((D/BB^k%BB:Nat):Int)),hz.put hkm (by omega) (hUg k hkm) rfl⟩ ?_ ?_⟩
    ·refine Sa ?_;simp only[ry,seval,rz]
    simp only;omega
   simp only[vx,T,seval];simp only[k1];refine Lq ⟨(k+1,zs.set (i+k) 0),hz.put hkm (by omega) (hUg k hkm) (iY (x:=D) (k:=k) (by omega))⟩ ?_ ?_
   ·refine Sa ?_;simp only[ry,seval,rz]
   simp only;omega
  have hkm:k=nl V+1:=by omega
  subst hkm;have hzv:=hz.done hUl hDl;have i1:IntKind.i64.wrap ((i:Int)-1)=(i:Int)-1:=by rw[IntWalk.i64_in _ (by omega)]
  have hUle:BB^i*U≤val us:=by rw[hUd];exact Nat.mul_div_le _ _
  have hst:val zs=val us-BB^i*(val us/BB^i/V*V):=by
   rw[←hUd,←hqd,Nat.mul_comm q V];have h1:BB^i*U=BB^i*D+BB^i*(V*q):=by rw[←Nat.mul_add];congr 1;omega
   omega
  have hst2:=hy.step hzl hz.inr hst;rw[←hUd,←hqd]at hst2;simp only[vx,T,seval];simp only[i1];refine Lq ⟨(i,zs,_),hst2,by simp only[List.length_set];exact hql⟩ ?_ ?_
  ·refine Sa ?_;simp only[ry,seval,rz]
  simp only;omega
 have hj0:j=0:=by omega
 subst hj0;subst hA hV;obtain⟨q1,q2,q3⟩:=hy.done h0;have hqi:=hy.qin;clear hy;simp only[vx,T,seval];rw[List.take_of_length_le (by omega)];refine Cg (bO qs hqi (by omega)) ?_;rw[q1];simp only[vx,T,seval];rw[List.take_of_length_le (by omega)];refine Cg (bO us hui (by omega)) ?_;rw[q2];have q4:nl (a%b*2^j3 b)≤nl b:=by rw[←q2,←s4];exact aB q3
 simp only[vx,T,seval];refine Cg (Bt (a%b*2^j3 b) (j3 b) (by omega) s1) ?_;rw[Nat.mul_div_cancel _ (Nat.pow_pos (by decide))];simp only[vx,T,seval];refine Va ?_;simp only[cO,aV,ry,seval]
end Go.Proofs.YtgalhjhdgkoemaaGreat
/-
  Integers and rational numbers by their words.
-/
namespace Go.Eng
def zs (z:Int):Bool:=decide (z<0)
def zm (z:Int):List Int:=ak z.natAbs
def zn (z:Int):Nat:=nl z.natAbs
def fv (s:Bool)(n:Nat):Int:=if s then-(n:Int)else n
theorem Bx (s:Bool)(n:Nat):zs (fv s n)=(s&&decide (0<n)):=by
 unfold zs fv
 cases s
 ·simp
 simp only[if_true,Bool.true_and];congr 1;simp only[eq_iff_iff];omega
theorem jm (s:Bool)(n:Nat):(fv s n).natAbs=n:=by unfold fv;split<;>omega
theorem Bg (s:Bool)(n:Nat):zm (fv s n)=ak n:=by unfold zm;rw[jm]
theorem bM (z:Int):fv (zs z) z.natAbs=z:=by unfold fv zs;simp only[decide_eq_true_eq];split<;>omega
theorem iu (z:Int):val (zm z)=z.natAbs:=gp _
theorem qy (z:Int):bF (zm z):=bF.ak _
theorem aN (z:Int):(zm z).length=zn z:=rfl
theorem dS {z:Int}:zn z=0↔z=0:=by unfold zn;rw[fI];omega
theorem KY:zm 0=[]:=bq
theorem lv {z:Int}:zs z=true↔z<0:=by unfold zs;simp
theorem dD {z:Int}:zs z=false↔0≤z:=by unfold zs;simp
theorem add_same {a b:Int}(h:zs a=zs b):fv (zs a) (a.natAbs+b.natAbs)=a+b:=by
 unfold fv zs at*
 have h:a<0↔b<0:=by simpa using h
 simp only[decide_eq_true_eq]
 split<;>omega
theorem zV {a b:Int}(h:zs a≠zs b)(hl:a.natAbs≤b.natAbs):fv (zs b) (b.natAbs-a.natAbs)=a+b:=by
 unfold fv zs at*
 have h:¬(a<0↔b<0):=by simpa using h
 simp only[decide_eq_true_eq]
 split<;>omega
theorem zi {a b:Int}(h:zs a≠zs b)(hl:b.natAbs≤a.natAbs):fv (zs a) (a.natAbs-b.natAbs)=a+b:=by
 unfold fv zs at*
 have h:¬(a<0↔b<0):=by simpa using h
 simp only[decide_eq_true_eq]
 split<;>omega
theorem DJ (s t:Bool)(m n:Nat):fv (s !=t) (m*n)=fv s m*fv t n:=by
 cases s<;>cases t<;>simp [fv,Int.neg_mul,Int.mul_neg]
theorem Au (a b:Int):fv (zs a !=zs b) (a.natAbs*b.natAbs)=a*b:=by
 rw[DJ,bM,bM]
theorem AH (a:Int):fv (!zs a) a.natAbs= -a:=by
 unfold fv zs;simp only[Bool.not_eq_true',decide_eq_false_iff_not]
 split<;>omega
theorem jZ {a b q r:Int}(h:a=b*q+r)(hr:(0≤r∧r<b)∨(b<r∧r≤0)):a.fdiv b=q∧a.fmod b=r:=by
 have hb:b≠0:=by omega
 have e:b*(a.fdiv b)+a.fmod b=a:=Int.mul_fdiv_add_fmod a b;have hm:(0<b→0≤a.fmod b∧a.fmod b<b)∧(b<0→b<a.fmod b∧a.fmod b≤0):=by
  refine⟨fun hp=>⟨Int.fmod_nonneg_of_pos a hp,Int.fmod_lt_of_pos a hp⟩,fun hn=>?_⟩;have h1:a.fmod b= -((-a).fmod (-b)):=by rw[Int.neg_fmod_neg];omega
  have h2:=Int.fmod_nonneg_of_pos (-a) (show 0< -b by omega);have h3:=Int.fmod_lt_of_pos (-a) (show 0< -b by omega);omega
 have hq:a.fdiv b=q:=by
  generalize a.fdiv b=q' at*
  generalize a.fmod b=r' at*
  have e2:b*(q-q')=r'-r:=by rw[Int.mul_sub];omega
  rcases Int.lt_or_lt_of_ne hb with hb1|hb1
  ·have:=hm.2 hb1
   rcases Int.lt_trichotomy (q-q') 0 with h3|h3|h3
   ·have:b*(q-q')≥b*(-1):=Int.mul_le_mul_of_nonpos_left (by omega) (by omega)
    omega
   ·omega
   have:b*(q-q')≤b*1:=Int.mul_le_mul_of_nonpos_left (by omega) (by omega)
   omega
  have:=hm.1 hb1
  rcases Int.lt_trichotomy (q-q') 0 with h3|h3|h3
  ·have:b*(q-q')≤b*(-1):=Int.mul_le_mul_of_nonneg_left (by omega) (by omega)
   omega
  ·omega
  have:b*1≤b*(q-q'):=Int.mul_le_mul_of_nonneg_left (by omega) (by omega)
  omega
 exact⟨hq,by rw[hq]at e;omega⟩
theorem pT {a b:Int}(hb:b≠0)(h:zs a=zs b∨a.natAbs%b.natAbs=0):fv (zs a !=zs b) (a.natAbs/b.natAbs)=a.fdiv b∧fv (zs b) (a.natAbs%b.natAbs)=a.fmod b:=by
 have e:=Nat.div_add_mod a.natAbs b.natAbs;have l:=Nat.mod_lt a.natAbs (show 0<b.natAbs by omega);have ha:=bM a;have hb':=bM b;have key:=jZ (a:=a) (b:=b) (q:=fv (zs a !=zs b) (a.natAbs/b.natAbs)) (r:=fv (zs b) (a.natAbs%b.natAbs)) ?_ ?_
 ·exact⟨key.1.symm,key.2.symm⟩
 ·have e':(a.natAbs:Int)=b.natAbs*(a.natAbs/b.natAbs:Nat)+(a.natAbs%b.natAbs:Nat):=by rw[←Int.natCast_mul,←X2,e]
  have hr0:zs a≠zs b→((a.natAbs%b.natAbs:Nat):Int)=0:=fun hne=>by rcases h with h|h;exact absurd h hne;simp[h]
  have e2:b*fv (zs a !=zs b) (a.natAbs/b.natAbs)=fv (zs b) b.natAbs*fv (zs a !=zs b) (a.natAbs/b.natAbs):=by rw[hb']
  rw[e2];refine ha.symm.trans ?_
  generalize a.natAbs/b.natAbs=q at*
  generalize a.natAbs%b.natAbs=r at*
  generalize a.natAbs=m at*
  generalize b.natAbs=n at*
  generalize zs a=sa at*
  generalize zs b=sb at*
  cases sa<;>cases sb<;>simp [fv]at hr0⊢
  ·omega
  ·subst hr0;rw[Int.neg_mul_neg];simp at e'⊢;omega
  ·subst hr0;simp at e'⊢;rw[Int.mul_neg];omega
  rw[Int.neg_mul];omega
 cases hsb:zs b
 ·left
  have:=dD.1 hsb
  simp only[fv,Bool.false_eq_true,if_false];omega
 right
 have:=lv.1 hsb
 simp only[fv,if_true];omega
theorem Eg {a b:Int}(hb:b≠0)(h:zs a≠zs b)(hr:0<a.natAbs%b.natAbs):fv (zs a !=zs b) (a.natAbs/b.natAbs+1)=a.fdiv b∧fv (zs b) (b.natAbs-a.natAbs%b.natAbs)=a.fmod b:=by
 have e:=Nat.div_add_mod a.natAbs b.natAbs;have l:=Nat.mod_lt a.natAbs (show 0<b.natAbs by omega);have ha:=bM a;have hb':=bM b;have key:=jZ (a:=a) (b:=b) (q:=fv (zs a !=zs b) (a.natAbs/b.natAbs+1)) (r:=fv (zs b) (b.natAbs-a.natAbs%b.natAbs)) ?_ ?_
 ·exact⟨key.1.symm,key.2.symm⟩
 ·have e':(a.natAbs:Int)=b.natAbs*(a.natAbs/b.natAbs:Nat)+(a.natAbs%b.natAbs:Nat):=by rw[←Int.natCast_mul,←X2,e]
  have e3:b*fv (zs a !=zs b) (a.natAbs/b.natAbs+1)=fv (zs b) b.natAbs*fv (zs a !=zs b) (a.natAbs/b.natAbs+1):=by rw[hb']
  have e2:((b.natAbs-a.natAbs%b.natAbs:Nat):Int)=b.natAbs-(a.natAbs%b.natAbs:Nat):=by omega
  rw[e3];refine ha.symm.trans ?_
  generalize a.natAbs/b.natAbs=q at*
  generalize a.natAbs%b.natAbs=r at*
  generalize a.natAbs=m at*
  generalize b.natAbs=n at*
  generalize zs a=sa at*
  generalize zs b=sb at*
  cases sa<;>cases sb<;>simp [fv]at h⊢
  ·rw[e2,Int.neg_add,Int.mul_add,Int.neg_mul_neg];omega
  rw[e2,Int.neg_add,Int.mul_add,Int.mul_neg];omega
 cases hsb:zs b
 ·left
  have:=dD.1 hsb
  simp only[fv,Bool.false_eq_true,if_false];omega
 right
 have:=lv.1 hsb
 simp only[fv,if_true];omega
end Go.Eng
/-
  The reference's quotient; sizes; signs.
-/
namespace Go.Eng
def cJ (z:Int):Int:=if z=0 then 0 else if z<0 then-1 else 1
theorem cN (a b:Int):zn (a*b)≤zn a+zn b:=by unfold zn;rw[Int.natAbs_mul];exact iE _ _
theorem FM (a:Int):zn (-a)=zn a:=by unfold zn;rw[Int.natAbs_neg]
theorem oY (a b:Int):zn (a+b)≤max (zn a) (zn b)+1:=
 Nat.le_trans (bg (Int.natAbs_add_le a b)) (uY _ _)
theorem BI (s:Bool)(n:Nat):zn (fv s n)=nl n:=by unfold zn;rw[jm]
theorem rI {a b:Int}(h:a.natAbs≤b.natAbs):zn a≤zn b:=bg h
theorem u9 (x y:Int): -1≤cJ x*cJ y∧cJ x*cJ y≤1:=by
 unfold cJ
 (repeat' split)<;>simp
theorem zN {x y:Int}:cJ x*cJ y<0↔(x<0∧0<y)∨(0<x∧y<0):=by
 unfold cJ
 (repeat' split)<;>simp<;>omega
theorem DD (a b:Int):a-fv (zs a !=zs b) (a.natAbs/b.natAbs)*b=fv (zs a) (a.natAbs%b.natAbs):=by
 have e1:fv (zs a !=zs b) (a.natAbs/b.natAbs)*b=fv (zs a) (a.natAbs/b.natAbs*b.natAbs):=by
  have:=DJ (zs a !=zs b) (zs b) (a.natAbs/b.natAbs) b.natAbs
  rw[bM b]at this;rw[←this]
  congr 1
  cases zs a<;>cases zs b<;>rfl
 rw[e1];have h:=Nat.div_add_mod a.natAbs b.natAbs;rw[Nat.mul_comm]at h
 generalize a.natAbs/b.natAbs*b.natAbs=p at h⊢
 generalize a.natAbs%b.natAbs=r at h⊢
 unfold fv zs;simp only[decide_eq_true_eq]
 split<;>omega
theorem Ch {a b q r:Int}(h0:b≠0)(hq:q=fv (zs a !=zs b) (a.natAbs/b.natAbs))(hr:r=a-q*b):
  (cJ r*cJ b<0→q-1=a.fdiv b∧r+b=a.fmod b)∧(¬cJ r*cJ b<0→q=a.fdiv b∧r=a.fmod b):=by
 have hl:r.natAbs<b.natAbs:=by
  rw[hr,hq,DD,jm];exact Nat.mod_lt _ (by omega)
 rw[zN];refine⟨fun h=>?_,fun h=>?_⟩
 ·have:=jZ (a:=a) (b:=b) (q:=q-1) (r:=r+b) (by rw[Int.mul_sub,hr,Int.mul_comm b q];omega) (by omega)
  exact⟨this.1.symm,this.2.symm⟩
 have:=jZ (a:=a) (b:=b) (q:=q) (r:=r) (by rw[hr,Int.mul_comm b q];omega) (by omega)
 exact⟨this.1.symm,this.2.symm⟩
end Go.Eng
namespace Go.Proofs.YtgalhjhdgkoemaaGreat
open Go Go.Eng
def ZV (z:Int):V:=.agg [.bool (zs z),.ints .u32 (zm z)]
theorem bV (b:Bool)(n:Nat)(hn:nl n<2^60):Pr Tryz.prog 136 [.one (.bool b),.one (.ints .u32 (ak n))] (ZV (fv b n)):=by
 have h:=xg b (ak n) (bF.ak n) (by rw[dR];omega);rw[gp]at h;unfold ZV;rw[Bx,Bg];exact h
theorem fK (z:Int)(hz:zn z<2^60):Pr Tryz.prog 138 [.one (.ints .u32 (zm z))] (.one (.ints .u32 (ak z.natAbs))):=by
 have h:=df (zm z) (qy z) (by rw[aN];omega);rw[iu]at h;exact h
theorem xV (n:Nat)(hn:nl n<2^40):Pr Tryz.prog 114 [.one (.ints .u32 (ak n))] (.one (.ints .u32 (ak n))):=jP _ (by rw[dR];exact hn)
theorem gU (z:Int)(h1: -9223372036854775808≤z)(h2:z≤9223372036854775807):Pr Tryz.prog 109 [.one (.int .i64 z)] (ZV z):=by
 have hu:z.natAbs<2^64:=by omega
 have e0:fv (decide (z<0)) z.natAbs=z:=bM z;have hn:=aB (n:=z.natAbs) (k:=2) (by unfold BB;omega);refine pw Tryz.func109 ⟨[0,2,3,7],[]⟩ ?_;simp only[Tryz.f109,Tryz.ntmps109,iz,seval];simp only[vx,T,seval,ZV];refine⟨fun h=>Lg ?_,fun h=>Lg ?_⟩
 ·have e1:IntKind.u64.wrap (0-IntKind.u64.wrap z)=(z.natAbs:Int):=by rw[aR,aR];omega
  simp only[vx,T,seval,ZV];simp only[e1];refine Cg (cZ z.natAbs hu) ?_;simp only[vx,T,seval,ZV];refine Cg (bV _ z.natAbs (by omega)) ?_;rw[e0];simp only[vx,T,seval,ZV];refine Va ?_;simp only[cO,aV,ry,seval,ZV]
 have e1:IntKind.u64.wrap z=(z.natAbs:Int):=by rw[aR];omega
 simp only[vx,T,seval,ZV];simp only[e1];refine Cg (cZ z.natAbs hu) ?_;simp only[vx,T,seval,ZV];refine Cg (bV _ z.natAbs (by omega)) ?_;rw[e0];simp only[vx,T,seval,ZV];refine Va ?_;simp only[cO,aV,ry,seval,ZV]
theorem wc (a:Int)(ha:zn a<2^38):Pr Tryz.prog 140 [ZV a] (ZV (-a)):=by
 refine pw Tryz.func140 ⟨[0,1,2],[]⟩ ?_;simp only[Tryz.f140,Tryz.ntmps140,iz,seval];simp only[vx,T,seval,ZV];refine Cg (fK a (by omega)) ?_;simp only[vx,T,seval,ZV];refine Cg (xV a.natAbs (by unfold zn at ha;omega)) ?_;simp only[vx,T,seval,ZV];refine Cg (bV _ a.natAbs (by unfold zn at ha;omega)) ?_;rw[AH];simp only[vx,T,seval,ZV];refine Va ?_;simp only[cO,aV,ry,seval,ZV]
theorem bR (a b:Int)(ha:zn a<2^38)(hb:zn b<2^38):Pr Tryz.prog 90 [ZV a,ZV b] (ZV (a*b)):=by
 have hm:=iE a.natAbs b.natAbs;unfold zn at ha hb;refine pw Tryz.func90 ⟨[0,1,2,3,4],[]⟩ ?_;simp only[Tryz.f90,Tryz.ntmps90,iz,seval];simp only[vx,T,seval,ZV];refine Cg (fK a (by unfold zn;omega)) ?_;simp only[vx,T,seval,ZV];refine Cg (fK b (by unfold zn;omega)) ?_;simp only[vx,T,seval,ZV];refine Cg (zj a.natAbs b.natAbs (by omega) (by omega)) ?_;simp only[vx,T,seval,ZV];refine Cg (bV _ (a.natAbs*b.natAbs) (by omega)) ?_;rw[Au];simp only[vx,T,seval,ZV];refine Va ?_;simp only[cO,aV,ry,seval,ZV]
theorem q7 (a b:Int)(ha:zn a<2^38)(hb:zn b<2^38):Pr Tryz.prog 122 [ZV a,ZV b] (ZV (a+b)):=by
 have hm:=uY a.natAbs b.natAbs;unfold zn at ha hb;refine pw Tryz.func122 ⟨[0,1,2,3,4,5,6,17,27],[]⟩ ?_;simp only[Tryz.f122,Tryz.ntmps122,iz,seval];simp only[vx,T,seval,ZV];refine Cg (fK a (by unfold zn;omega)) ?_;simp only[vx,T,seval,ZV];refine Cg (fK b (by unfold zn;omega)) ?_;simp only[vx,T,seval,ZV,beq_iff_eq];refine⟨fun h=>Lg ?_,fun h=>Lg ?_⟩
 ·simp only[vx,T,seval,ZV];refine Cg (oK a.natAbs b.natAbs (by omega) (by omega)) ?_;simp only[vx,T,seval,ZV];refine Cg (bV _ (a.natAbs+b.natAbs) (by omega)) ?_;rw[add_same h];simp only[vx,T,seval,ZV];refine Va ?_;simp only[cO,aV,ry,seval,ZV]
 have h:=beq_eq_false_iff_ne.1 h;simp only[vx,T,seval,ZV];refine Cg (gR a.natAbs b.natAbs (by omega) (by omega)) ?_;simp only[vx,T,seval,ZV];refine⟨fun h2=>Lg ?_,fun h2=>Lg ?_⟩
 ·have h3:=kA h2;simp only[vx,T,seval,ZV];refine Cg (l7 b.natAbs a.natAbs (by omega) (by omega)) ?_;simp only[vx,T,seval,ZV];refine Cg (bV _ (b.natAbs-a.natAbs) (Nat.lt_of_le_of_lt (bg (Nat.sub_le _ _)) (by omega))) ?_;rw[zV h (by omega)];simp only[vx,T,seval,ZV];refine Va ?_;simp only[cO,aV,ry,seval,ZV]
 have h3:=iZ h2;simp only[vx,T,seval,ZV];refine Cg (l7 a.natAbs b.natAbs (by omega) (by omega)) ?_;simp only[vx,T,seval,ZV];refine Cg (bV _ (a.natAbs-b.natAbs) (Nat.lt_of_le_of_lt (bg (Nat.sub_le _ _)) (by omega))) ?_;rw[zi h h3];simp only[vx,T,seval,ZV];refine Va ?_;simp only[cO,aV,ry,seval,ZV]
theorem fL (a:Int)(ha:zn a<2^38):Pr Tryz.prog 124 [ZV a] (.one (.int .i64 (cJ a))):=by
 refine pw Tryz.func124 ⟨[0,1,2,3,9],[]⟩ ?_;simp only[Tryz.f124,Tryz.ntmps124,iz,seval];simp only[vx,T,seval,ZV];refine Cg (fK a (by omega)) ?_;simp only[vx,T,seval,ZV];refine⟨fun h=>Lg ?_,fun h=>Lg ?_⟩
 ·have h0:a=0:=by have:=fI (n:=a.natAbs);omega
  simp only[vx,T,seval,ZV];subst h0;exact Ve rfl
 have h0:a≠0:=by rintro rfl;exact h (by simp[iO])
 simp only[vx,T,seval,ZV];refine⟨fun h2=>Lg ?_,fun h2=>Lg ?_⟩
 ·simp only[vx,T,seval,ZV];refine Ve ?_;unfold cJ;rw[if_neg h0,if_pos (lv.1 h2)]
 simp only[vx,T,seval,ZV];refine Ve ?_
 have:=dD.1 h2
 unfold cJ;rw[if_neg h0,if_neg (by omega)]
open Go Go.Eng
theorem nc {a b:Nat}(hb:0<b):nl (a%b)≤nl b:=bg (Nat.le_of_lt (Nat.mod_lt a hb))
theorem qD (a b:Int)(ha:zn a<2^38)(hb:zn b<2^38):Pr Tryz.prog 139 [ZV a,ZV b] (ZV (Int.gcd a b)):=by
 have hg:Int.gcd a b=Nat.gcd a.natAbs b.natAbs:=rfl;unfold zn at ha hb;refine pw Tryz.func139 ⟨[0,1,2,3,4,5,6,8,9,10,29,40,49],[(9,(.cons 4 [2,3] (.cons 5 [] .nil .nil) .nil))]⟩ ?_;simp only[Tryz.f139,Tryz.ntmps139,iz,seval];simp only[vx,T,seval,ZV];refine Cg (fK a (by unfold zn;omega)) ?_;simp only[vx,T,seval,ZV];refine Cg (fK b (by unfold zn;omega)) ?_;simp only[vx,T,seval,ZV];refine Lk (fun y:{y:Nat×Nat//Nat.gcd y.1 y.2=Nat.gcd a.natAbs b.natAbs∧nl y.1<2^38∧nl y.2<2^38}=>⟨[(4,.one (.ptr 3 0)),(5,.one (.ints .u32 (ak y.1.1))),(6,.one (.ints .u32 (ak y.1.2)))],[(3,⟨.var [.bool false,.nil],true⟩)],4,57⟩) (fun y=>y.1.2) ⟨(a.natAbs,b.natAbs),rfl,ha,hb⟩ ?_ (fun⟨⟨u,v⟩,e,hu,hv⟩=>?_)
 ·refine Sa ?_;simp only[ry,seval,rz]
 simp only at e hu hv;simp only[vx,T,seval,ZV];refine⟨fun h1=>Lg ?_,fun h1=>Lg ?_⟩
 ·simp only[vx,T,seval,ZV];have hv0:0<v:=by
   rcases Nat.eq_zero_or_pos v with h|h
   ·subst h;rw[iO]at*
    omega
   exact h
  refine Cg (iK u v hv0 (by omega) (by omega)) ?_;simp only[vx,T,seval,ZV];refine Lq ⟨(v,u%v),by rw[←e,Nat.gcd_comm u v,Nat.gcd_rec v u,Nat.gcd_comm],hv,Nat.lt_of_le_of_lt (nc hv0) hv⟩ ?_ ?_
  ·refine Sa ?_;simp only[ry,seval,rz,ZV]
  exact Nat.mod_lt _ hv0
 simp only[vx,T,seval,ZV];refine⟨fun h2=>Lg ?_,fun h2=>Lg ?_⟩
 ·simp only[vx,T,seval,ZV];refine⟨fun h3=>Lg ?_,fun h3=>Lg ?_⟩
  ·simp only[vx,T,seval,ZV];have hv0:0<v:=by
    rcases Nat.eq_zero_or_pos v with h|h
    ·subst h;rw[iO]at*
     omega
    exact h
   refine Cg (iK u v hv0 (by omega) (by omega)) ?_;simp only[vx,T,seval,ZV];refine Lq ⟨(v,u%v),by rw[←e,Nat.gcd_comm u v,Nat.gcd_rec v u,Nat.gcd_comm],hv,Nat.lt_of_le_of_lt (nc hv0) hv⟩ ?_ ?_
   ·refine Sa ?_;simp only[ry,seval,rz,ZV]
   exact Nat.mod_lt _ hv0
  simp only[vx,T,seval,ZV];refine⟨fun h0=>Lg ?_,fun h0=>Lg ?_⟩
  ·have hv0:v=0:=fI.1 (by omega);subst hv0;rw[Nat.gcd_zero_right]at e;simp only[vx,T,seval,ZV];refine Cg (xV u (by omega)) ?_;simp only[vx,T,seval,ZV];refine Cg (bV false u (by omega)) ?_;have e2:fv false u=((Int.gcd a b:Nat):Int):=by rw[hg,←e];rfl
   rw[e2];simp only[vx,T,seval,ZV];refine Va ?_;simp only[cO,aV,ry,seval,ZV]
  have hu2:u<2^64:=by have:=cj.1 (show nl u≤2 by omega);unfold BB at this;omega
  have hv2:v<2^64:=by have:=cj.1 (show nl v≤2 by omega);unfold BB at this;omega
  simp only[vx,T,seval,ZV];refine Cg (fa u hu2) ?_;simp only[vx,T,seval,ZV];refine Cg (fa v hv2) ?_;simp only[vx,T,seval,ZV];refine Lk (fun y:{y:Nat×Nat//Nat.gcd y.1 y.2=Nat.gcd a.natAbs b.natAbs∧y.1<2^64∧y.2<2^64}=>⟨[(4,.one (.ptr 3 0)),(9,.one (.int .u64 y.1.1)),(10,.one (.int .u64 y.1.2))],[(3,⟨.var [.bool false,.nil],true⟩)],4,57⟩) (fun y=>y.1.2) ⟨(u,v),e,hu2,hv2⟩ ?_ (fun⟨⟨u,v⟩,e,hu,hv⟩=>?_)
  ·refine Sa ?_;simp only[ry,seval,rz]
  simp only at e hu hv;simp only[vx,T,seval,ZV];refine⟨fun h5=>Lg ?_,fun h5=>Lg ?_⟩
  ·simp only[vx,T,seval,ZV];have e2:(u:Int).tmod v=((u%v:Nat):Int):=rfl;simp only[e2];refine⟨by omega,by omega,Lq ⟨(v,u%v),by rw[←e,Nat.gcd_comm u v,Nat.gcd_rec v u,Nat.gcd_comm],hv,Nat.lt_trans (Nat.mod_lt u (by omega)) hv⟩ ?_ ?_⟩
   ·refine Sa ?_;simp only[ry,seval,rz,ZV]
   exact Nat.mod_lt _ (by omega)
  have hv0:v=0:=by omega
  subst hv0;rw[Nat.gcd_zero_right]at e;have hn:=aB (n:=u) (k:=2) (by unfold BB;omega);simp only[vx,T,seval,ZV];refine Cg (cZ u (by omega)) ?_;simp only[vx,T,seval,ZV];refine Cg (bV false u (by omega)) ?_;have e2:fv false u=((Int.gcd a b:Nat):Int):=by rw[hg,←e];rfl
  rw[e2];simp only[vx,T,seval,ZV];refine Va ?_;simp only[cO,aV,ry,seval,ZV]
 simp only[vx,T,seval,ZV];refine⟨fun h0=>Lg ?_,fun h0=>Lg ?_⟩
 ·have hv0:v=0:=fI.1 (by omega);subst hv0;rw[Nat.gcd_zero_right]at e;simp only[vx,T,seval,ZV];refine Cg (xV u (by omega)) ?_;simp only[vx,T,seval,ZV];refine Cg (bV false u (by omega)) ?_;have e2:fv false u=((Int.gcd a b:Nat):Int):=by rw[hg,←e];rfl
  rw[e2];simp only[vx,T,seval,ZV];refine Va ?_;simp only[cO,aV,ry,seval,ZV]
 have hu2:u<2^64:=by have:=cj.1 (show nl u≤2 by omega);unfold BB at this;omega
 have hv2:v<2^64:=by have:=cj.1 (show nl v≤2 by omega);unfold BB at this;omega
 simp only[vx,T,seval,ZV];refine Cg (fa u hu2) ?_;simp only[vx,T,seval,ZV];refine Cg (fa v hv2) ?_;simp only[vx,T,seval,ZV];refine Lk (fun y:{y:Nat×Nat//Nat.gcd y.1 y.2=Nat.gcd a.natAbs b.natAbs∧y.1<2^64∧y.2<2^64}=>⟨[(4,.one (.ptr 3 0)),(9,.one (.int .u64 y.1.1)),(10,.one (.int .u64 y.1.2))],[(3,⟨.var [.bool false,.nil],true⟩)],4,57⟩) (fun y=>y.1.2) ⟨(u,v),e,hu2,hv2⟩ ?_ (fun⟨⟨u,v⟩,e,hu,hv⟩=>?_)
 ·refine Sa ?_;simp only[ry,seval,rz]
 simp only at e hu hv;simp only[vx,T,seval,ZV];refine⟨fun h5=>Lg ?_,fun h5=>Lg ?_⟩
 ·simp only[vx,T,seval,ZV];have e2:(u:Int).tmod v=((u%v:Nat):Int):=rfl;simp only[e2];refine⟨by omega,by omega,Lq ⟨(v,u%v),by rw[←e,Nat.gcd_comm u v,Nat.gcd_rec v u,Nat.gcd_comm],hv,Nat.lt_trans (Nat.mod_lt u (by omega)) hv⟩ ?_ ?_⟩
  ·refine Sa ?_;simp only[ry,seval,rz,ZV]
  exact Nat.mod_lt _ (by omega)
 have hv0:v=0:=by omega
 subst hv0;rw[Nat.gcd_zero_right]at e;have hn:=aB (n:=u) (k:=2) (by unfold BB;omega);simp only[vx,T,seval,ZV];refine Cg (cZ u (by omega)) ?_;simp only[vx,T,seval,ZV];refine Cg (bV false u (by omega)) ?_;have e2:fv false u=((Int.gcd a b:Nat):Int):=by rw[hg,←e];rfl
 rw[e2];simp only[vx,T,seval,ZV];refine Va ?_;simp only[cO,aV,ry,seval,ZV]
open Go Go.Eng
def AQ (b:Bool)(xs:List Int):Bool:=decide (ak (val xs)=xs∧(b=true→xs≠[]))
theorem qE {b:Bool}{xs:List Int}(h:AQ b xs=true):∃z:Int,b=zs z∧xs=zm z:=by
 unfold AQ at h;simp only[decide_eq_true_eq]at h;refine⟨fv b (val xs),?_,by rw[Bg,h.1]⟩;rw[Bx]
 cases b
 ·rfl
 have:=h.2 rfl
 have h0:val xs≠0:=fun e=>this (by rw[←h.1,e,bq])
 simp;omega
theorem LS (z:Int):AQ (zs z) (zm z)=true:=by
 unfold AQ;simp only[decide_eq_true_eq];refine⟨by rw[iu];rfl,fun h e=>?_⟩
 have:zn z=0:=by rw[←aN,e];rfl
 have:=dS.1 this
 subst this
 cases h
theorem A7 {n:Nat}(h:0<n):(ak n).getD (nl n-1) 0≠0:=by
 rw[lG,ko h]
 have:=(gM h).1
 omega
theorem DG (b:Bool):AQ b []=!b:=by
 have:ak (val [])=[]:=bq
 unfold AQ
 cases b<;>simp [this]
theorem HZ {b:Bool}{xs:List Int}(hx:bF xs)(h0:xs≠[]):AQ b xs=decide (xs.getD (xs.length-1) 0≠0):=by
 unfold AQ;simp only[h0,ne_eq,not_false_eq_true,implies_true,and_true]
 congr 1
 simp only[eq_iff_iff]
 constructor
 ·intro h e;rw[←h,dR]at e;have hp:0<val xs:=by
   rcases Nat.eq_zero_or_pos (val xs)with h1|h1
   ·rw[h1,bq]at h;exact absurd h.symm h0
   exact h1
  exact A7 hp e
 intro h;exact bX hx (.inr h)
theorem rM (b:Bool)(xs:List Int)(hx:bF xs)(hl:xs.length<2^40):Pr Tryz.prog 235 [.agg [.bool b,.ints .u32 xs]] (.one (.bool (AQ b xs))):=by
 refine pw Tryz.func235 ⟨[0,1,2,3],[]⟩ ?_;simp only[Tryz.f235,Tryz.ntmps235,iz,seval];simp only[vx,T,seval];refine⟨fun h1=>Lg ?_,fun h1=>Lg ?_⟩
 ·have hx0:xs=[]:=List.length_eq_zero_iff.1 (by omega);subst hx0;simp only[vx,T,seval]
  cases b
  ·refine⟨fun h2=>Lg ?_,fun h2=>Lg ?_⟩
   ·simp only[vx,T,seval];refine Ve ?_;rw[DG];rfl
   cases h2
  refine⟨fun h2=>absurd h2 (by decide),fun h2=>Lg ?_⟩;simp only[vx,T,seval];refine Ve ?_;rw[DG];rfl
 have hx0:xs≠[]:=by rintro rfl;exact h1 rfl
 simp only[vx,T,seval];have i1:IntKind.i64.wrap ((xs.length:Int)-1)=((xs.length-1:Nat):Int):=by rw[IntWalk.i64_in _ (by omega)];omega
 refine⟨fun h2=>Lg ?_,fun h2=>absurd h2 (by omega)⟩;simp only[vx,T,seval]
 simp(disch:=omega) only[lG,←X2,←Int.natCast_mul,Int.toNat_natCast,IntWalk.i64_in,IntWalk.u64_in,aA,aE,true_and,and_true,i1]
 refine⟨by omega,?_⟩;refine Ve ?_;rw[HZ hx hx0]
theorem xK (a b:Int)(ha:zn a<2^38)(hb:zn b<2^38)(h0:b≠0):Pr Tryz.prog 186 [ZV a,ZV b] (.aJ [ZV (a.fdiv b),ZV (a.fmod b),.one (.int .i64 0)]):=by
 unfold zn at ha hb;have hbp:0<b.natAbs:=by omega
 have hbn:=dZ.2 hbp;refine pw Tryz.func186 ⟨[0,1,2,3,4,5,6,7,8,9,15,35],[]⟩ ?_;simp only[Tryz.f186,Tryz.ntmps186,iz,seval];simp only[vx,T,seval,ZV];refine Cg (fK b (by unfold zn;omega)) ?_;simp only[vx,T,seval,ZV];refine⟨fun h=>Lg ?_,fun h=>Lg ?_⟩
 ·omega
 simp only[vx,T,seval,ZV];refine Cg (fK a (by unfold zn;omega)) ?_;simp only[vx,T,seval,ZV];refine Cg (iK a.natAbs b.natAbs hbp (by omega) (by omega)) ?_;have hr:=nc (a:=a.natAbs) hbp;have hq:nl (a.natAbs/b.natAbs)≤nl a.natAbs:=bg (Nat.div_le_self _ _);simp only[vx,T,seval,ZV];refine⟨fun h1=>Lg ?_,fun h1=>Lg ?_⟩
 ·simp only[vx,T,seval,ZV];refine⟨fun h2=>Lg ?_,fun h2=>Lg ?_⟩
  ·simp only[vx,T,seval,ZV];have l1:ak 1=[1]:=by rw[je (by decide),show (1:Nat)/BB=0 by decide,bq];rfl
   rw[←l1];have hp:=uY (a.natAbs/b.natAbs) 1;have n1:nl 1=1:=by unfold nl;rw[l1];rfl
   refine Cg (oK (a.natAbs/b.natAbs) 1 (by omega) (by omega)) ?_;simp only[vx,T,seval,ZV];refine Cg (l7 b.natAbs (a.natAbs%b.natAbs) (Nat.le_of_lt (Nat.mod_lt _ hbp)) (by omega)) ?_;have key:=Eg (a:=a) (b:=b) h0 h1 (dZ.1 (by omega));simp only[vx,T,seval,ZV];refine Cg (bV _ (a.natAbs/b.natAbs+1) (by omega)) ?_;rw[key.1];simp only[vx,T,seval,ZV];refine Cg (bV _ (b.natAbs-a.natAbs%b.natAbs) (Nat.lt_of_le_of_lt (bg (Nat.sub_le _ _)) (by omega))) ?_;rw[key.2];simp only[vx,T,seval,ZV];refine Va ?_;simp only[cO,aV,ry,seval,ZV]
  simp only[vx,T,seval,ZV];have key:=pT (a:=a) (b:=b) h0 (.inr (fI.1 (by omega)));refine Cg (bV _ (a.natAbs/b.natAbs) (by omega)) ?_;rw[key.1];simp only[vx,T,seval,ZV];refine Cg (bV _ (a.natAbs%b.natAbs) (by omega)) ?_;rw[key.2];simp only[vx,T,seval,ZV];refine Va ?_;simp only[cO,aV,ry,seval,ZV]
 simp only[vx,T,seval,ZV];have key:=pT (a:=a) (b:=b) h0 (.inl (by simpa using h1));refine Cg (bV _ (a.natAbs/b.natAbs) (by omega)) ?_;rw[key.1];simp only[vx,T,seval,ZV];refine Cg (bV _ (a.natAbs%b.natAbs) (by omega)) ?_;rw[key.2];simp only[vx,T,seval,ZV];refine Va ?_;simp only[cO,aV,ry,seval,ZV]
open Go Go.Eng
theorem fq (b:Bool)(n:Nat)(hn:nl n<2^60):Pr Tryz.prog 106 [.one (.bool b),.one (.ints .u32 (ak n))] (ZV (fv b n)):=by
 have h:=pk b (ak n) (bF.ak n) (by rw[dR];omega);rw[gp]at h;unfold ZV;rw[Bx,Bg];exact h
theorem CP (z:Int)(hz:zn z<2^60):Pr Tryz.prog 157 [.one (.ints .u32 (zm z))] (.one (.ints .u32 (ak z.natAbs))):=by
 have h:=bO (zm z) (qy z) (by rw[aN];omega);rw[iu]at h;exact h
theorem kr (z:Int):zm z=ak z.natAbs:=rfl
theorem fx (z:Int)(h1: -9223372036854775808≤z)(h2:z≤9223372036854775807):Pr Tryz.prog 55 [.one (.int .i64 z)] (ZV z):=by
 have hu:z.natAbs<2^64:=by omega
 have e0:fv (decide (z<0)) z.natAbs=z:=bM z;have hn:=aB (n:=z.natAbs) (k:=2) (by unfold BB;omega);refine pw Tryz.func55 ⟨[0,2,4],[]⟩ ?_;simp only[Tryz.f55,Tryz.ntmps55,iz,seval];simp only[vx,T,seval,ZV];refine⟨fun h=>Lg ?_,fun h=>Lg ?_⟩
 ·have e1:IntKind.u64.wrap (0-IntKind.u64.wrap z)=(z.natAbs:Int):=by rw[aR,aR];omega
  simp only[vx,T,seval,ZV];simp only[e1];refine Cg (ig z.natAbs hu) ?_;simp only[vx,T,seval,ZV];have e2:fv true z.natAbs=z:=by rw[←e0,jm];simp[h]
  refine Cg (fq _ z.natAbs (by omega)) ?_;rw[e2];simp only[vx,T,seval,ZV];refine Va ?_;simp only[cO,aV,ry,seval,ZV]
 have e1:IntKind.u64.wrap z=(z.natAbs:Int):=by rw[aR];omega
 simp only[vx,T,seval,ZV];simp only[e1];refine Cg (ig z.natAbs hu) ?_;simp only[vx,T,seval,ZV];have e2:fv false z.natAbs=z:=by rw[←e0,jm];simp[h]
 refine Cg (fq _ z.natAbs (by omega)) ?_;rw[e2];simp only[vx,T,seval,ZV];refine Va ?_;simp only[cO,aV,ry,seval,ZV]
theorem eQ (a:Int)(ha:zn a<2^59):Pr Tryz.prog 159 [ZV a] (ZV a):=by
 refine pw Tryz.func159 ⟨[0,1,2],[]⟩ ?_;simp only[Tryz.f159,Tryz.ntmps159,iz,seval];simp only[vx,T,seval,ZV];simp only[kr];refine Cg (fq (zs a) a.natAbs (by unfold zn at ha;omega)) ?_;rw[bM];simp only[vx,T,seval,ZV];refine Va ?_;simp only[cO,aV,ry,seval,ZV,kr]
theorem gC (a:Int)(ha:zn a<2^59):Pr Tryz.prog 111 [ZV a] (.one (.int .i64 (cJ a))):=by
 refine pw Tryz.func111 ⟨[0,1,2,8,10],[]⟩ ?_;simp only[Tryz.f111,Tryz.ntmps111,iz,seval];simp only[vx,T,seval,ZV];refine Cg (eQ a ha) ?_;simp only[vx,T,seval,ZV];refine⟨fun h=>Lg ?_,fun h=>Lg ?_⟩
 ·have h0:a=0:=dS.1 (by rw[aN]at h;omega);simp only[vx,T,seval,ZV];subst h0;exact Ve rfl
 have h0:a≠0:=by rintro rfl;exact h (by rw[KY];rfl)
 simp only[vx,T,seval,ZV];refine⟨fun h2=>Lg ?_,fun h2=>Lg ?_⟩
 ·simp only[vx,T,seval,ZV];refine Ve ?_;unfold cJ;rw[if_neg h0,if_pos (lv.1 h2)]
 simp only[vx,T,seval,ZV];refine Ve ?_
 have:=dD.1 h2
 unfold cJ;rw[if_neg h0,if_neg (by omega)]
theorem np (a:Int)(ha:zn a<2^59):Pr Tryz.prog 149 [ZV a] (ZV (-a)):=by
 refine pw Tryz.func149 ⟨[0,1,2],[]⟩ ?_;simp only[Tryz.f149,Tryz.ntmps149,iz,seval];simp only[vx,T,seval,ZV];simp only[kr];refine Cg (fq _ a.natAbs (by unfold zn at ha;omega)) ?_;rw[AH];simp only[vx,T,seval,ZV];refine Va ?_;simp only[cO,aV,ry,seval,ZV,kr]
theorem bp (a b:Int)(ha:zn a<2^38)(hb:zn b<2^38):Pr Tryz.prog 147 [ZV a,ZV b] (ZV (a*b)):=by
 have hm:=iE a.natAbs b.natAbs;unfold zn at ha hb;refine pw Tryz.func147 ⟨[0,1,2,3,4],[]⟩ ?_;simp only[Tryz.f147,Tryz.ntmps147,iz,seval];simp only[vx,T,seval,ZV];refine Cg (eQ a (by unfold zn;omega)) ?_;simp only[vx,T,seval,ZV];refine Cg (eQ b (by unfold zn;omega)) ?_;simp only[vx,T,seval,ZV];simp only[kr];refine Cg (yw a.natAbs b.natAbs (by omega) (by omega)) ?_;simp only[vx,T,seval,ZV];refine Cg (fq _ (a.natAbs*b.natAbs) (by omega)) ?_;rw[Au];simp only[vx,T,seval,ZV];refine Va ?_;simp only[cO,aV,ry,seval,ZV,kr]
theorem gA (a b:Int)(ha:zn a<2^39)(hb:zn b<2^39):Pr Tryz.prog 146 [ZV a,ZV b] (ZV (a+b)):=by
 have hm:=uY a.natAbs b.natAbs;unfold zn at ha hb;refine pw Tryz.func146 ⟨[0,1,2,3,4,13,27],[]⟩ ?_;simp only[Tryz.f146,Tryz.ntmps146,iz,seval];simp only[vx,T,seval,ZV];refine Cg (eQ a (by unfold zn;omega)) ?_;simp only[vx,T,seval,ZV];refine Cg (eQ b (by unfold zn;omega)) ?_;simp only[vx,T,seval,ZV,beq_iff_eq];refine⟨fun h=>Lg ?_,fun h=>Lg ?_⟩
 ·simp only[vx,T,seval,ZV];simp only[kr];refine Cg (Ci a.natAbs b.natAbs (by omega) (by omega)) ?_;simp only[vx,T,seval,ZV];refine Cg (fq _ (a.natAbs+b.natAbs) (by omega)) ?_;rw[add_same h];simp only[vx,T,seval,ZV];refine Va ?_;simp only[cO,aV,ry,seval,ZV,kr]
 have h:=beq_eq_false_iff_ne.1 h;simp only[vx,T,seval,ZV];simp only[kr];refine Cg (fu a.natAbs b.natAbs (by omega) (by omega)) ?_;simp only[vx,T,seval,ZV];refine⟨fun h2=>Lg ?_,fun h2=>Lg ?_⟩
 ·have h3:b.natAbs≤a.natAbs:=iZ (by omega);simp only[vx,T,seval,ZV];refine Cg (jN a.natAbs b.natAbs (by omega) (by omega)) ?_;simp only[vx,T,seval,ZV];refine Cg (fq _ (a.natAbs-b.natAbs) (Nat.lt_of_le_of_lt (bg (Nat.sub_le _ _)) (by omega))) ?_;rw[zi h h3];simp only[vx,T,seval,ZV];refine Va ?_;simp only[cO,aV,ry,seval,ZV,kr]
 have h3:a.natAbs<b.natAbs:=kA (by omega);simp only[vx,T,seval,ZV];refine Cg (jN b.natAbs a.natAbs (by omega) (by omega)) ?_;simp only[vx,T,seval,ZV];refine Cg (fq _ (b.natAbs-a.natAbs) (Nat.lt_of_le_of_lt (bg (Nat.sub_le _ _)) (by omega))) ?_;rw[zV h (by omega)];simp only[vx,T,seval,ZV];refine Va ?_;simp only[cO,aV,ry,seval,ZV,kr]
theorem rj (a b:Int)(ha:zn a<2^39)(hb:zn b<2^39):Pr Tryz.prog 224 [ZV a,ZV b] (ZV (a-b)):=by
 refine pw Tryz.func224 ⟨[0,1,2,3,4],[]⟩ ?_;simp only[Tryz.f224,Tryz.ntmps224,iz,seval];simp only[vx,T,seval,ZV];refine Cg (np b (by omega)) ?_;simp only[vx,T,seval,ZV];refine Cg (gA a (-b) (by omega) (by rw[FM];omega)) ?_;rw[←Int.sub_eq_add_neg];simp only[vx,T,seval,ZV];refine Va ?_;simp only[cO,aV,ry,seval,ZV]
theorem dX (a b:Int)(ha:zn a<2^38)(hb:zn b<2^38):Pr Tryz.prog 113 [ZV a,ZV b] (ZV (Int.gcd a b)):=by
 have hg:Int.gcd a b=Nat.gcd a.natAbs b.natAbs:=rfl;unfold zn at ha hb;refine pw Tryz.func113 ⟨[0,1,2,3,4,5,6,8,17],[]⟩ ?_;simp only[Tryz.f113,Tryz.ntmps113,iz,seval];simp only[vx,T,seval,ZV];refine Cg (CP a (by unfold zn;omega)) ?_;simp only[vx,T,seval,ZV];refine Cg (CP b (by unfold zn;omega)) ?_;simp only[vx,T,seval,ZV];refine Lk (fun y:{y:Nat×Nat//Nat.gcd y.1 y.2=Nat.gcd a.natAbs b.natAbs∧nl y.1<2^38∧nl y.2<2^38}=>⟨[(4,.one (.ptr 3 0)),(5,.one (.ints .u32 (ak y.1.1))),(6,.one (.ints .u32 (ak y.1.2)))],[(3,⟨.var [.bool false,.nil],true⟩)],4,28⟩) (fun y=>y.1.2) ⟨(a.natAbs,b.natAbs),rfl,ha,hb⟩ ?_ (fun⟨⟨u,v⟩,e,hu,hv⟩=>?_)
 ·refine Sa ?_;simp only[ry,seval,rz]
 simp only at e hu hv;simp only[vx,T,seval,ZV];refine⟨fun h1=>Lg ?_,fun h1=>Lg ?_⟩
 ·have hv0:0<v:=dZ.1 (by omega);simp only[vx,T,seval,ZV];refine Cg (pO u v hv0 (by omega) (by omega)) ?_;simp only[vx,T,seval,ZV];refine Lq ⟨(v,u%v),by rw[←e,Nat.gcd_comm u v,Nat.gcd_rec v u,Nat.gcd_comm],hv,Nat.lt_of_le_of_lt (nc hv0) hv⟩ ?_ ?_
  ·refine Sa ?_;simp only[ry,seval,rz,ZV]
  exact Nat.mod_lt _ hv0
 have hv0:v=0:=fI.1 (by omega);subst hv0;rw[Nat.gcd_zero_right]at e;simp only[vx,T,seval,ZV];refine Cg (fq false u (by omega)) ?_;have e2:fv false u=((Int.gcd a b:Nat):Int):=by rw[hg,←e];rfl
 rw[e2];simp only[vx,T,seval,ZV];refine Va ?_;simp only[cO,aV,ry,seval,ZV]
theorem vT {xs:List Int}(hx:bF xs):ak (val xs)=xs↔nl (val xs)=xs.length:=by
 refine⟨fun h=>by unfold nl;rw[h],fun h=>?_⟩;have h3:=rF hx h.symm rfl;rw[Av]at h3;exact h3.symm
theorem Kb {b:Bool}{xs:List Int}(hx:bF xs)(h:nl (val xs)≠xs.length):AQ b xs=false:=by
 unfold AQ
 simp[vT hx,h]
theorem G6 {b:Bool}{xs:List Int}(hx:bF xs)(h:nl (val xs)=xs.length):AQ b xs=(!b||decide (0<xs.length)):=by
 unfold AQ
 cases b<;>simp [vT hx,h]
 cases xs<;>simp
theorem Hp {z:Int}(h:z.natAbs<18446744073709551616):zn z≤2:=aB (by unfold BB;omega)
theorem rZ (b:Bool)(xs:List Int)(hx:bF xs)(hl:xs.length<2^40):Pr Tryz.prog 110 [.agg [.bool b,.ints .u32 xs]] (.one (.bool (AQ b xs))):=by
 refine pw Tryz.func110 ⟨[0,1,2],[]⟩ ?_;simp only[Tryz.f110,Tryz.ntmps110,iz,seval];simp only[vx,T,seval];refine Cg (bO xs hx (by omega)) ?_;simp only[vx,T,seval];refine⟨fun h1=>Lg ?_,fun h1=>Lg ?_⟩
 ·simp only[vx,T,seval];have hg:=G6 (b:=b) hx (by omega);refine⟨fun h2=>Lg ?_,fun h2=>Lg ?_⟩
  ·simp only[vx,T,seval];refine Ve ?_;rw[hg,h2];rfl
  simp only[vx,T,seval];refine Ve ?_;rw[hg,h2]
  congr 2
  simp
 simp only[vx,T,seval];refine Ve ?_;rw[Kb hx (by omega)]
theorem x5 (a b:Int)(ha:zn a<2^36)(hb:zn b<2^36)(h0:b≠0):Pr Tryz.prog 192 [ZV a,ZV b] (.aJ [ZV (a.fdiv b),ZV (a.fmod b),.one (.int .i64 0)]):=by
 have hbp:0<b.natAbs:=by omega
 have hbn:=dZ.2 hbp;obtain⟨q,hqd⟩:∃q,q=fv (zs a !=zs b) (a.natAbs/b.natAbs):=⟨_,rfl⟩;have hqn:zn q≤zn a:=by rw[hqd,BI];exact bg (Nat.div_le_self _ _)
 have hqb:=cN q b;obtain⟨r,hrd⟩:∃r,r=a-q*b:=⟨_,rfl⟩;have hrn:zn r≤zn b:=by
  rw[hrd,hqd,DD,BI];exact bg (Nat.le_of_lt (Nat.mod_lt _ hbp))
 obtain⟨key1,key2⟩:=Ch h0 hqd hrd;refine pw Tryz.func192 ⟨[0,1,2,3,4,5,6,7,9,10,18,46],[(10,(.cons 2 [1] (.cons 3 [] (.cons 4 [] .nil .nil) .nil) .nil))]⟩ ?_;simp only[Tryz.f192,Tryz.ntmps192,iz,seval];simp only[vx,T,seval,ZV];refine Cg (eQ a (by omega)) ?_;simp only[vx,T,seval,ZV];refine Cg (eQ b (by omega)) ?_;simp only[vx,T,seval,ZV];refine⟨fun h=>Lg ?_,fun h=>Lg ?_⟩
 ·rw[aN]at h;exact absurd (dS.1 (by omega)) h0
 simp only[vx,T,seval,ZV];simp only[kr];refine Cg (pO a.natAbs b.natAbs hbp (by unfold zn at ha;omega) (by unfold zn at hb;omega)) ?_;simp only[vx,T,seval,ZV];refine Cg (fq (zs a !=zs b) (a.natAbs/b.natAbs) (by rw[←BI (zs a !=zs b),←hqd];omega)) ?_;rw[←hqd];simp only[vx,T,seval,ZV,←kr];refine Cg (bp q b (by omega) (by omega)) ?_;simp only[vx,T,seval,ZV];refine Cg (rj a (q*b) (by omega) (by omega)) ?_;rw[←hrd];simp only[vx,T,seval,ZV];refine Cg (gC r (by omega)) ?_;simp only[vx,T,seval,ZV];refine Cg (gC b (by omega)) ?_;have hw:IntKind.i64.wrap (cJ r*cJ b)=cJ r*cJ b:=by
  have:=u9 r b
  exact IntWalk.i64_in _ (by omega)
 simp only[vx,T,seval,ZV,hw];refine⟨fun h3=>Lg ?_,fun h3=>Lg ?_⟩
 ·obtain⟨k1,k2⟩:=key1 h3;simp only[vx,T,seval,ZV];refine Cg (fx 1 (by omega) (by omega)) ?_;simp only[vx,T,seval,ZV];have z1:zn 1≤2:=Hp (by decide);refine Cg (rj q 1 (by omega) (by omega)) ?_;rw[k1];simp only[vx,T,seval,ZV];refine Cg (gA r b (by omega) (by omega)) ?_;rw[k2];simp only[vx,T,seval,ZV];refine Va ?_;simp only[cO,aV,ry,seval,ZV]
 obtain⟨k1,k2⟩:=key2 h3;simp only[vx,T,seval,ZV];rw[←k1,←k2];refine Va ?_;simp only[cO,aV,ry,seval,ZV]
end Go.Proofs.YtgalhjhdgkoemaaGreat
/-
  Rational numbers: what the code's quotients come to.
-/
namespace Go.Eng
def qm (q:Rat):Nat:=max (zn q.num) (nl q.den)
theorem xO {n:Int}{d:Nat}(hd:0<d):0<Int.gcd n d:=by
 unfold Int.gcd;exact Nat.gcd_pos_of_pos_right _ (by simpa using hd)
theorem xo {n:Int}{d:Nat}(hd:0<d):n.fdiv (Int.gcd n d)=(mkRat n d).num:=by
 rw[Rat.num_mkRat,if_neg (by omega),Int.fdiv_eq_ediv_of_nonneg _ (by omega)];unfold Int.gcd;rw[Nat.gcd_comm];rfl
theorem xM {n:Int}{d:Nat}(hd:0<d):(d:Int).fdiv (Int.gcd n d)=((mkRat n d).den:Int):=by
 rw[Rat.den_mkRat,if_neg (by omega),Int.fdiv_eq_ediv_of_nonneg _ (by omega)];unfold Int.gcd;rw[Nat.gcd_comm];rfl
theorem fdiv_one (n:Int):n.fdiv 1=n:=by rw[Int.fdiv_eq_ediv_of_nonneg _ (by omega)];exact Int.ediv_one n
theorem D9 (n:Int)(d:Nat):zn (mkRat n d).num≤zn n:=by
 rw[Rat.num_mkRat]
 split
 ·unfold zn;rw[Int.natAbs_zero,iO];omega
 refine rI ?_;exact Int.natAbs_ediv_le_natAbs _ _
theorem Fq {n:Int}{d:Nat}(h:0<d):nl (mkRat n d).den≤nl d:=by
 rw[Rat.den_mkRat,if_neg (by omega)];exact bg (Nat.div_le_self _ _)
theorem IB {n:Int}{d:Nat}(h:0<d):qm (mkRat n d)≤max (zn n) (nl d):=by
 have h1:=D9 n d;have h2:=Fq (n:=n) h;unfold qm;omega
theorem Bp (a b:Rat):qm (a*b)≤qm a+qm b:=by
 rw[Rat.mul_def'];have h:=IB (n:=a.num*b.num) (Nat.mul_pos a.den_pos b.den_pos);have h1:=cN a.num b.num;have h2:=iE a.den b.den;unfold qm at*;omega
theorem ay (n:Nat):zn (n:Int)=nl n:=rfl
theorem IW (a b:Rat):qm (a+b)≤qm a+qm b+1:=by
 rw[Rat.add_def'];have h:=IB (n:=a.num*b.den+b.num*a.den) (Nat.mul_pos a.den_pos b.den_pos);have h1:=cN a.num b.den;have h2:=cN b.num a.den;have h3:=oY (a.num*b.den) (b.num*a.den);have h4:=iE a.den b.den;rw[ay]at h1 h2;unfold qm at*;omega
theorem add_one {a b:Rat}(ha:a.den=1)(hb:b.den=1):(a+b).num=a.num+b.num∧(a+b).den=1:=by
 rw[Rat.add_def',ha,hb]
 constructor
 ·rw[Rat.num_mkRat];simp
 rw[Rat.den_mkRat];simp
theorem yC {a b:Rat}(ha:a.den=1)(hb:b.den=1):(a*b).num=a.num*b.num∧(a*b).den=1:=by
 rw[Rat.mul_def',ha,hb]
 constructor
 ·rw[Rat.num_mkRat];simp
 rw[Rat.den_mkRat];simp
theorem Dh {a b:Rat}(h:a.den.gcd b.den=1):(a+b).num=a.num*b.den+b.num*a.den∧(a+b).den=a.den*b.den:=by
 show(Rat.add a b).num=_∧(Rat.add a b).den=_
 delta Rat.add
 dsimp only
 rw[dif_pos h];exact⟨rfl,rfl⟩
theorem Kq {a b:Rat}{g:Nat}(hg:g=a.den.gcd b.den){num:Int}(hn:num=a.num*((b.den/g:Nat):Int)+b.num*((a.den/g:Nat):Int)){h:Nat}(hh:h=num.natAbs.gcd g):
  num.fdiv h=(a+b).num∧(((a.den/g)*(b.den/h):Nat):Int)=((a+b).den:Int):=by
 have hgp:0<g:=by rw[hg];exact Nat.gcd_pos_of_pos_left _ a.den_pos
 have hga:g∣a.den:=by rw[hg];exact Nat.gcd_dvd_left _ _
 have hgb:g∣b.den:=by rw[hg];exact Nat.gcd_dvd_right _ _
 have hdp:0<a.den/g:=Nat.div_pos (Nat.le_of_dvd a.den_pos hga) hgp;have e1:a+b=mkRat num (a.den/g*b.den):=by
  rw[Rat.add_def',←Rat.mkRat_mul_right (a:=g) (n:=num) (by omega)]
  congr 1
  ·rw[hn,Int.add_mul,Int.mul_assoc,Int.mul_assoc,←Int.natCast_mul,←Int.natCast_mul,Nat.div_mul_cancel hgb,Nat.div_mul_cancel hga]
  rw[Nat.mul_right_comm,Nat.div_mul_cancel hga]
 have e2:num.natAbs.gcd g=num.natAbs.gcd (a.den/g*b.den):=by
  have:=Rat.add.aux a b (g:=g) hg rfl rfl
  simp only[←hn]at this;exact this
 have hp:0<a.den/g*b.den:=Nat.mul_pos hdp b.den_pos;have e3:h=Int.gcd num ((a.den/g*b.den:Nat):Int):=by rw[hh,e2];rfl
 have hhb:h∣b.den:=Nat.dvd_trans (by rw[hh];exact Nat.gcd_dvd_right _ _) hgb;rw[e1]
 constructor
 ·rw[←xo hp,←e3]
 rw[←xM hp,←e3,Int.fdiv_eq_ediv_of_nonneg _ (by omega),←Nat.mul_div_assoc _ hhb,Int.natCast_ediv]
theorem Lt (a b:Rat){g h:Nat}(hg:g=a.num.natAbs.gcd b.den)(hh:h=b.num.natAbs.gcd a.den):
  a.num.fdiv g*b.num.fdiv h=(a*b).num∧(((a.den/h)*(b.den/g):Nat):Int)=((a*b).den:Int):=by
 have hga:(g:Int)∣a.num:=Int.ofNat_dvd_left.2 (by rw[hg];exact Nat.gcd_dvd_left _ _);have hhb:(h:Int)∣b.num:=Int.ofNat_dvd_left.2 (by rw[hh];exact Nat.gcd_dvd_left _ _);rw[Int.fdiv_eq_ediv_of_nonneg _ (by omega),Int.fdiv_eq_ediv_of_nonneg _ (by omega)];have e:a*b=Rat.mul a b:=rfl;rw[e]
 delta Rat.mul
 dsimp only
 simp only[Int.divExact_eq_tdiv,Nat.divExact_eq_div];subst hg hh;refine⟨?_,rfl⟩;rw[Int.tdiv_eq_ediv_of_dvd hga,Int.tdiv_eq_ediv_of_dvd hhb]
end Go.Eng
namespace Go.Proofs.YtgalhjhdgkoemaaGreat
open Go Go.Eng
def QC (q:Rat):List C:=[.bool (zs q.num),.ints .u32 (zm q.num),.bool (zs (q.den:Int)),.ints .u32 (zm (q.den:Int))]
def QV (q:Rat):V:=.agg (QC q)
theorem Ds {z:Int}:z=1↔zs z=false∧zn z=1∧z.natAbs%BB=1:=by
 constructor
 ·rintro rfl;refine⟨rfl,?_,by decide⟩;have h1:zn 1≤1:=aB (by decide);have h2:zn 1≠0:=fun e=>by have:=dS.1 e;omega
  omega
 rintro⟨h1,h2,h3⟩;have h4:=dD.1 h1;have h5:z.natAbs<BB:=by have:=cj.1 (show nl z.natAbs≤1 by unfold zn at h2;omega);simpa using this
 rw[Nat.mod_eq_of_lt h5]at h3;omega
theorem vb {p q:Bool}(h:p=q):jJ (.one (.bool p)) (.one (.bool q)):=Ve (by rw[h])
theorem DI (z:Int):(zm z).getD 0 0=((z.natAbs%BB:Nat):Int):=by
 unfold zm;rw[lG,Nat.pow_zero,Nat.div_one]
def yt (s:Bool)(xs:List Int)(t:Bool)(ys:List Int):Bool:=
 AQ s xs&&(AQ t ys&&(decide (0<fv t (val ys))&&decide (((Int.gcd (fv s (val xs)) (fv t (val ys)):Nat):Int)=1)))
theorem No {s t:Bool}{xs ys:List Int}(h:yt s xs t ys=true):∃q:Rat,[.bool s,.ints .u32 xs,.bool t,.ints .u32 ys]=QC q:=by
 unfold yt at h;simp only[Bool.and_eq_true,decide_eq_true_eq]at h;obtain⟨h1,h2,h3,h4⟩:=h;obtain⟨z,rfl,rfl⟩:=qE h1;obtain⟨d,rfl,rfl⟩:=qE h2;rw[iu,bM]at h3 h4;rw[iu,bM]at h4;refine⟨⟨z,d.natAbs,by omega,?_⟩,?_⟩
 ·have h5:Int.gcd z d=1:=by omega
  exact h5
 unfold QC;simp only[show ((d.natAbs:Nat):Int)=d by omega]
theorem L7 (q:Rat):yt (zs q.num) (zm q.num) (zs (q.den:Int)) (zm (q.den:Int))=true:=by
 unfold yt;rw[iu,bM,iu,bM,LS,LS];have h1:=q.den_pos;have h2:Int.gcd q.num (q.den:Int)=1:=q.reduced;rw[h2]
 simp;omega
theorem ji (z:Int)(hz:zn z<2^60):Pr Tryz.prog 89 [ZV z] (.one (.bool (decide (z=1)))):=by
 have hiff:=Ds (z:=z);refine pw Tryz.func89 ⟨[0,1,2],[]⟩ ?_;simp only[Tryz.f89,Tryz.ntmps89,iz,seval];simp only[vx,T,seval,ZV];refine⟨fun h1=>Lg ?_,fun h1=>Lg ?_⟩
 ·have h1:zs z=false:=by simpa using h1
  simp only[vx,T,seval];refine⟨fun h2=>Lg ?_,fun h2=>Lg ?_⟩
  ·rw[aN]at h2;simp only[vx,T,seval,aN,DI];refine⟨by omega,vb (decide_eq_decide.2 ?_)⟩;rw[hiff];refine⟨fun h=>⟨h1,by omega,by omega⟩,fun h=>by omega⟩
  rw[aN]at h2;simp only[vx,T,seval];refine vb (decide_eq_false ?_).symm;rw[hiff];omega
 simp only[vx,T,seval];refine vb (decide_eq_false ?_).symm;rw[hiff];rintro⟨h2,_⟩;rw[h2]at h1;cases h1
theorem gq (z:Int)(hz:zn z<2^60):Pr Tryz.prog 112 [ZV z] (.one (.bool (decide (z=1)))):=by
 have hiff:=Ds (z:=z);refine pw Tryz.func112 ⟨[0,1,2],[]⟩ ?_;simp only[Tryz.f112,Tryz.ntmps112,iz,seval];simp only[vx,T,seval,ZV];refine⟨fun h1=>Lg ?_,fun h1=>Lg ?_⟩
 ·rw[aN]at h1;simp only[vx,T,seval,aN,DI];refine⟨by omega,?_⟩;refine⟨fun h2=>Lg ?_,fun h2=>Lg ?_⟩
  ·simp only[vx,T,seval];refine vb ?_
   cases hzs:zs z
   ·refine(decide_eq_true ?_).symm
    rw[hiff];exact⟨hzs,by omega,by omega⟩
   refine(decide_eq_false ?_).symm
   rw[hiff,hzs];rintro⟨h,_⟩
   cases h
  simp only[vx,T,seval];refine vb (decide_eq_false ?_).symm;rw[hiff];omega
 rw[aN]at h1;simp only[vx,T,seval];refine vb (decide_eq_false ?_).symm;rw[hiff];omega
theorem xL (s t:Bool)(xs ys:List Int)(hx:bF xs)(hy:bF ys)(hxl:xs.length<2^36)(hyl:ys.length<2^36):Pr Tryz.prog 211 [.agg [.bool s,.ints .u32 xs,.bool t,.ints .u32 ys]] (.one (.bool (yt s xs t ys))):=by
 refine pw Tryz.func211 ⟨[0,1,2],[]⟩ ?_;simp only[Tryz.f211,Tryz.ntmps211,iz,seval];simp only[vx,T,seval];refine Cg (rM s xs hx (by omega)) ?_;simp only[vx,T,seval];refine⟨fun h1=>Lg ?_,fun h1=>Lg ?_⟩
 ·simp only[vx,T,seval];refine Cg (rM t ys hy (by omega)) ?_;simp only[vx,T,seval];refine⟨fun h2=>Lg ?_,fun h2=>Lg ?_⟩
  ·obtain⟨z,rfl,rfl⟩:=qE h1;obtain⟨d,rfl,rfl⟩:=qE h2;rw[aN]at hxl hyl;have hok:yt (zs z) (zm z) (zs d) (zm d)=(decide (0<d)&&decide (((Int.gcd z d:Nat):Int)=1)):=by
    unfold yt;rw[h1,h2,iu,bM,iu,bM];rfl
   rw[hok];simp only[vx,T,seval];refine Cg (fL d (by omega)) ?_;simp only[vx,T,seval]
   have hs:(0<cJ d)↔0<d:=by unfold cJ;(repeat' split)<;>omega
   refine⟨fun h3=>Lg ?_,fun h3=>Lg ?_⟩
   ·rw[hs]at h3;simp only[vx,T,seval];refine Cg (qD z d (by omega) (by omega)) ?_;have hgn:zn (Int.gcd z d)≤zn d:=rI (by
     have:=Nat.gcd_le_right z.natAbs (show 0<d.natAbs by omega)
     exact this)
    simp only[vx,T,seval,ZV];refine Cg (ji (Int.gcd z d) (by omega)) ?_;simp only[vx,T,seval];refine vb ?_;rw[decide_eq_true h3];rfl
   rw[hs]at h3;simp only[vx,T,seval];refine vb ?_;rw[decide_eq_false h3];rfl
  simp only[vx,T,seval];refine vb ?_;unfold yt;rw[h1,h2];rfl
 simp only[vx,T,seval];refine vb ?_;unfold yt;rw[h1];rfl
theorem pg (s t:Bool)(xs ys:List Int)(hx:bF xs)(hy:bF ys)(hxl:xs.length<2^36)(hyl:ys.length<2^36):Pr Tryz.prog 71 [.agg [.bool s,.ints .u32 xs,.bool t,.ints .u32 ys]] (.one (.bool (yt s xs t ys))):=by
 refine pw Tryz.func71 ⟨[0,1,2],[]⟩ ?_;simp only[Tryz.f71,Tryz.ntmps71,iz,seval];simp only[vx,T,seval];refine Cg (rZ s xs hx (by omega)) ?_;simp only[vx,T,seval];refine⟨fun h1=>Lg ?_,fun h1=>Lg ?_⟩
 ·simp only[vx,T,seval];refine Cg (rZ t ys hy (by omega)) ?_;simp only[vx,T,seval];refine⟨fun h2=>Lg ?_,fun h2=>Lg ?_⟩
  ·obtain⟨z,rfl,rfl⟩:=qE h1;obtain⟨d,rfl,rfl⟩:=qE h2;rw[aN]at hxl hyl;have hok:yt (zs z) (zm z) (zs d) (zm d)=(decide (0<d)&&decide (((Int.gcd z d:Nat):Int)=1)):=by
    unfold yt;rw[h1,h2,iu,bM,iu,bM];rfl
   rw[hok];simp only[vx,T,seval];refine Cg (gC d (by omega)) ?_;simp only[vx,T,seval]
   have hs:(0<cJ d)↔0<d:=by unfold cJ;(repeat' split)<;>omega
   refine⟨fun h3=>Lg ?_,fun h3=>Lg ?_⟩
   ·rw[hs]at h3;simp only[vx,T,seval];refine Cg (dX z d (by omega) (by omega)) ?_;have hgn:zn (Int.gcd z d)≤zn d:=rI (by
     have:=Nat.gcd_le_right z.natAbs (show 0<d.natAbs by omega)
     exact this)
    simp only[vx,T,seval,ZV];refine Cg (gq (Int.gcd z d) (by omega)) ?_;simp only[vx,T,seval];refine vb ?_;rw[decide_eq_true h3];rfl
   rw[hs]at h3;simp only[vx,T,seval];refine vb ?_;rw[decide_eq_false h3];rfl
  simp only[vx,T,seval];refine vb ?_;unfold yt;rw[h1,h2];rfl
 simp only[vx,T,seval];refine vb ?_;unfold yt;rw[h1];rfl
theorem oD:Pr Tryz.prog 91 [] (ZV 1):=by
 refine pw Tryz.func91 ⟨[0],[]⟩ ?_;simp only[Tryz.f91,Tryz.ntmps91,iz,seval];simp only[vx,T,seval,ZV];refine Cg (gU 1 (by omega) (by omega)) ?_;simp only[vx,T,seval,ZV];refine Va ?_;simp only[cO,aV,ry,seval,ZV]
theorem nF (a b:Int)(ha:zn a<2^36)(hb:zn b<2^36)(h0:b≠0):Pr Tryz.prog 141 [ZV a,ZV b] (ZV (a.fdiv b)):=by
 refine pw Tryz.func141 ⟨[0,1,2,3,4,5,9],[]⟩ ?_;simp only[Tryz.f141,Tryz.ntmps141,iz,seval];simp only[vx,T,seval,ZV];refine Cg (ji b (by omega)) ?_;simp only[vx,T,seval,ZV];refine⟨fun h1=>Lg ?_,fun h1=>Lg ?_⟩
 ·subst h1;simp only[vx,T,seval,ZV];rw[fdiv_one];refine Va ?_;simp only[cO,aV,ry,seval,ZV]
 simp only[vx,T,seval,ZV];refine Cg (xK a b (by omega) (by omega) h0) ?_;simp only[vx,T,seval,ZV];refine Va ?_;simp only[cO,aV,ry,seval,ZV]
theorem bJ (a b:Int)(ha:zn a<2^36)(hb:zn b<2^36)(h0:b≠0):Pr Tryz.prog 148 [ZV a,ZV b] (ZV (a.fdiv b)):=by
 refine pw Tryz.func148 ⟨[0,1,2,3,4,5],[]⟩ ?_;simp only[Tryz.f148,Tryz.ntmps148,iz,seval];simp only[vx,T,seval,ZV];refine Cg (x5 a b (by omega) (by omega) h0) ?_;simp only[vx,T,seval,ZV];refine Va ?_;simp only[cO,aV,ry,seval,ZV]
theorem fb (n:Int)(d:Nat)(hn:zn n<2^36)(hd:nl d<2^36)(h0:0<d):Pr Tryz.prog 92 [ZV n,ZV (d:Int)] (QV (mkRat n d)):=by
 have hg:(0:Int)<(Int.gcd n d:Nat):=by have:=xO (n:=n) h0;omega
 have hgn:zn (Int.gcd n d)≤nl d:=rI (b:=(d:Int)) (by
  have:=Nat.gcd_le_right n.natAbs (show 0<(d:Int).natAbs by omega)
  exact this)
 have hzd:zs (d:Int)=false:=dD.2 (by omega);refine pw Tryz.func92 ⟨[0,1,2,3,4,5,10],[]⟩ ?_;simp only[Tryz.f92,Tryz.ntmps92,iz,seval];simp only[vx,T,seval,ZV];refine Cg (qD n d (by omega) (by rw[ay];omega)) ?_;simp only[vx,T,seval,ZV];refine⟨fun h=>(by rw[hzd]at h;cases h),fun _=>Lg ?_⟩;simp only[vx,T,seval,ZV];refine Cg (nF n (Int.gcd n d) (by omega) (by omega) (by omega)) ?_;rw[xo h0];simp only[vx,T,seval,ZV];refine Cg (nF d (Int.gcd n d) (by rw[ay];omega) (by omega) (by omega)) ?_;rw[xM h0];simp only[vx,T,seval,ZV];refine Va ?_;simp only[cO,aV,ry,seval,QV,QC]
theorem bA (z:Int)(h1: -9223372036854775808≤z)(h2:z≤9223372036854775807):Pr Tryz.prog 70 [.one (.int .i64 z)] (QV (Rat.ofInt z)):=by
 refine pw Tryz.func70 ⟨[0,2],[]⟩ ?_;simp only[Tryz.f70,Tryz.ntmps70,iz,seval];simp only[vx,T,seval,QV,QC];refine Cg (gU z h1 h2) ?_;simp only[vx,T,seval,ZV];refine Cg oD ?_;simp only[vx,T,seval,ZV];refine Va ?_;simp only[cO,aV,ry,seval,Rat.ofInt_num,Rat.ofInt_den,X3]
theorem aS (z:Int)(h1: -9223372036854775808≤z)(h2:z≤9223372036854775807):Pr Tryz.prog 25 [.one (.int .i64 z)] (QV (Rat.ofInt z)):=by
 refine pw Tryz.func25 ⟨[0,2],[]⟩ ?_;simp only[Tryz.f25,Tryz.ntmps25,iz,seval];simp only[vx,T,seval,QV,QC];refine Cg (fx z h1 h2) ?_;simp only[vx,T,seval,ZV];refine Cg (fx 1 (by omega) (by omega)) ?_;simp only[vx,T,seval,ZV];refine Va ?_;simp only[cO,aV,ry,seval,Rat.ofInt_num,Rat.ofInt_den,X3]
theorem gY (q:Rat)(hq:qm q<2^36):Pr Tryz.prog 84 [QV q] (.one (.int .i64 (cJ q.num))):=by
 unfold qm at hq;refine pw Tryz.func84 ⟨[0,1,2],[]⟩ ?_;simp only[Tryz.f84,Tryz.ntmps84,iz,seval];simp only[vx,T,seval,QV,QC];refine Cg (fL q.num (by omega)) ?_;simp only[vx,T,seval,ZV];exact Ve rfl
theorem me (q:Rat)(hq:qm q<2^36):Pr Tryz.prog 72 [QV q] (.one (.int .i64 (cJ q.num))):=by
 unfold qm at hq;refine pw Tryz.func72 ⟨[0,1,2],[]⟩ ?_;simp only[Tryz.f72,Tryz.ntmps72,iz,seval];simp only[vx,T,seval,QV,QC];refine Cg (gC q.num (by omega)) ?_;simp only[vx,T,seval,ZV];exact Ve rfl
open Go Go.Eng
theorem F6 {n:Int}{d:Int}{q:Rat}(h1:q.num=n)(h2:(q.den:Int)=d):QC q=[.bool (zs n),.ints .u32 (zm n),.bool (zs d),.ints .u32 (zm d)]:=by
 unfold QC;rw[h1,h2]
theorem fA (a g:Nat):(a:Int).fdiv (g:Int)=((a/g:Nat):Int):=by
 rw[Int.fdiv_eq_ediv_of_nonneg _ (by omega)];rfl
theorem pI (n:Int)(g:Nat):zn (n.fdiv g)≤zn n:=by
 rw[Int.fdiv_eq_ediv_of_nonneg _ (by omega)];exact rI (Int.natAbs_ediv_le_natAbs _ _)
theorem sJ {z:Int}(h:((zm z).length:Int)=0):z=0:=dS.1 (by rw[aN]at h;omega)
theorem HN:Rat.ofInt 0=0:=rfl
theorem ov (a b:Rat)(ha:qm a<2^34)(hb:qm b<2^34):Pr Tryz.prog 44 [QV a,QV b] (QV (a*b)):=by
 have m1:=cN a.num b.num;have m2:=iE a.den b.den;have m3:=cN a.num b.den;have m4:=cN b.num a.den;have m5:=oY (a.num*b.den) (b.num*a.den);have n1:=ay a.den;have n2:=ay b.den;have p1:=a.den_pos;have p2:=b.den_pos;have p3:=Nat.mul_pos p1 p2;unfold qm at ha hb;refine pw Tryz.func44 ⟨[0,1,2,3,4,12],[]⟩ ?_;simp only[Tryz.f44,Tryz.ntmps44,iz,seval];simp only[vx,T,seval,QV,QC];refine Cg (ji a.den (by omega)) ?_;simp only[vx,T,seval,ZV];refine⟨fun h1=>Lg ?_,fun h1=>Lg ?_⟩
 ·simp only[vx,T,seval,ZV];refine Cg (ji b.den (by omega)) ?_;simp only[vx,T,seval,ZV];refine⟨fun h2=>Lg ?_,fun h2=>Lg ?_⟩
  ·obtain⟨k1,k2⟩:=yC (a:=a) (b:=b) (by omega) (by omega);simp only[vx,T,seval,ZV];refine Cg (bR a.num b.num (by omega) (by omega)) ?_;simp only[vx,T,seval,ZV];refine Cg oD ?_;simp only[vx,T,seval,ZV];rw[k1,k2];refine Va ?_;simp only[cO,aV,ry,seval,X3]
  simp only[vx,T,seval,ZV];refine Cg (bR a.num b.num (by omega) (by omega)) ?_;simp only[vx,T,seval,ZV];refine Cg (bR a.den b.den (by omega) (by omega)) ?_;rw[←Int.natCast_mul];simp only[vx,T,seval,ZV];refine Cg (fb (a.num*b.num) (a.den*b.den) (by omega) (by omega) p3) ?_;rw[←Rat.mul_def'];simp only[vx,T,seval,QV,QC];refine Va ?_;simp only[cO,aV,ry,seval]
 simp only[vx,T,seval,ZV];refine Cg (bR a.num b.num (by omega) (by omega)) ?_;simp only[vx,T,seval,ZV];refine Cg (bR a.den b.den (by omega) (by omega)) ?_;rw[←Int.natCast_mul];simp only[vx,T,seval,ZV];refine Cg (fb (a.num*b.num) (a.den*b.den) (by omega) (by omega) p3) ?_;rw[←Rat.mul_def'];simp only[vx,T,seval,QV,QC];refine Va ?_;simp only[cO,aV,ry,seval]
theorem tX (a b:Rat)(ha:qm a<2^34)(hb:qm b<2^34):Pr Tryz.prog 80 [QV a,QV b] (QV (a+b)):=by
 have m1:=cN a.num b.num;have m2:=iE a.den b.den;have m3:=cN a.num b.den;have m4:=cN b.num a.den;have m5:=oY (a.num*b.den) (b.num*a.den);have n1:=ay a.den;have n2:=ay b.den;have p1:=a.den_pos;have p2:=b.den_pos;have p3:=Nat.mul_pos p1 p2;unfold qm at ha hb;refine pw Tryz.func80 ⟨[0,1,2,3,4,5,13],[]⟩ ?_;simp only[Tryz.f80,Tryz.ntmps80,iz,seval];simp only[vx,T,seval,QV,QC];refine Cg (ji a.den (by omega)) ?_;simp only[vx,T,seval,ZV];refine⟨fun h1=>Lg ?_,fun h1=>Lg ?_⟩
 ·simp only[vx,T,seval,ZV];refine Cg (ji b.den (by omega)) ?_;simp only[vx,T,seval,ZV];refine⟨fun h2=>Lg ?_,fun h2=>Lg ?_⟩
  ·obtain⟨k1,k2⟩:=add_one (a:=a) (b:=b) (by omega) (by omega);simp only[vx,T,seval,ZV];refine Cg (q7 a.num b.num (by omega) (by omega)) ?_;simp only[vx,T,seval,ZV];refine Cg oD ?_;simp only[vx,T,seval,ZV];rw[k1,k2];refine Va ?_;simp only[cO,aV,ry,seval,X3]
  simp only[vx,T,seval,ZV];refine Cg (bR a.num b.den (by omega) (by omega)) ?_;simp only[vx,T,seval,ZV];refine Cg (bR b.num a.den (by omega) (by omega)) ?_;simp only[vx,T,seval,ZV];refine Cg (q7 (a.num*b.den) (b.num*a.den) (by omega) (by omega)) ?_;simp only[vx,T,seval,ZV];refine Cg (bR a.den b.den (by omega) (by omega)) ?_;rw[←Int.natCast_mul];simp only[vx,T,seval,ZV];refine Cg (fb (a.num*b.den+b.num*a.den) (a.den*b.den) (by omega) (by omega) p3) ?_;rw[←Rat.add_def'];simp only[vx,T,seval,QV,QC];refine Va ?_;simp only[cO,aV,ry,seval]
 simp only[vx,T,seval,ZV];refine Cg (bR a.num b.den (by omega) (by omega)) ?_;simp only[vx,T,seval,ZV];refine Cg (bR b.num a.den (by omega) (by omega)) ?_;simp only[vx,T,seval,ZV];refine Cg (q7 (a.num*b.den) (b.num*a.den) (by omega) (by omega)) ?_;simp only[vx,T,seval,ZV];refine Cg (bR a.den b.den (by omega) (by omega)) ?_;rw[←Int.natCast_mul];simp only[vx,T,seval,ZV];refine Cg (fb (a.num*b.den+b.num*a.den) (a.den*b.den) (by omega) (by omega) p3) ?_;rw[←Rat.add_def'];simp only[vx,T,seval,QV,QC];refine Va ?_;simp only[cO,aV,ry,seval]
theorem Cf (a b:Rat)(ha:qm a<2^34)(hb:qm b<2^34):Pr Tryz.prog 95 [QV a,QV b] (QV (a*b)):=by
 have m1:=cN a.num b.num;have m2:=iE a.den b.den;have m3:=cN a.num b.den;have m4:=cN b.num a.den;have m5:=oY (a.num*b.den) (b.num*a.den);have n1:=ay a.den;have n2:=ay b.den;have p1:=a.den_pos;have p2:=b.den_pos;have p3:=Nat.mul_pos p1 p2;unfold qm at ha hb;obtain⟨g,hg⟩:∃g,g=a.num.natAbs.gcd b.den:=⟨_,rfl⟩;obtain⟨h,hh⟩:∃h,h=b.num.natAbs.gcd a.den:=⟨_,rfl⟩;have eg:Int.gcd a.num b.den=g:=by rw[hg];rfl
 have eh:Int.gcd b.num a.den=h:=by rw[hh];rfl
 have g0:0<g:=by rw[hg];exact Nat.gcd_pos_of_pos_right _ p2
 have h0:0<h:=by rw[hh];exact Nat.gcd_pos_of_pos_right _ p1
 have gl:nl g≤nl b.den:=by rw[hg];exact bg (Nat.gcd_le_right _ p2)
 have hl:nl h≤nl a.den:=by rw[hh];exact bg (Nat.gcd_le_right _ p1)
 have dl:nl (a.den/h)≤nl a.den:=bg (Nat.div_le_self _ _);have dl2:nl (b.den/g)≤nl b.den:=bg (Nat.div_le_self _ _);obtain⟨k1,k2⟩:=Lt a b hg hh;refine pw Tryz.func95 ⟨[0,1,2,3,4,5,6,18,27],[]⟩ ?_;simp only[Tryz.f95,Tryz.ntmps95,iz,seval];simp only[vx,T,seval,QV,QC];refine⟨fun h1=>Lg ?_,fun h1=>Lg ?_⟩
 ·have ez:a*b=0:=by rw[Rat.num_eq_zero.1 (sJ h1),Rat.zero_mul]
  simp only[vx,T,seval,ZV];refine Cg (aS 0 (by omega) (by omega)) ?_;rw[ez,←HN];simp only[vx,T,seval,QV,QC];refine Va ?_;simp only[cO,aV,ry,seval]
 simp only[vx,T,seval,ZV];refine⟨fun h2=>Lg ?_,fun h2=>Lg ?_⟩
 ·have ez:a*b=0:=by rw[Rat.num_eq_zero.1 (sJ h2),Rat.mul_zero]
  simp only[vx,T,seval,ZV];refine Cg (aS 0 (by omega) (by omega)) ?_;rw[ez,←HN];simp only[vx,T,seval,QV,QC];refine Va ?_;simp only[cO,aV,ry,seval]
 simp only[vx,T,seval,ZV];refine Cg (gq a.den (by omega)) ?_;simp only[vx,T,seval,ZV];refine⟨fun h3=>Lg ?_,fun h3=>Lg ?_⟩
 ·simp only[vx,T,seval,ZV];refine Cg (gq b.den (by omega)) ?_;simp only[vx,T,seval,ZV];refine⟨fun h4=>Lg ?_,fun h4=>Lg ?_⟩
  ·obtain⟨k1,k2⟩:=yC (a:=a) (b:=b) (by omega) (by omega);simp only[vx,T,seval,ZV];refine Cg (bp a.num b.num (by omega) (by omega)) ?_;simp only[vx,T,seval,ZV];rw[k1,k2,h3];refine Va ?_;simp only[cO,aV,ry,seval,X3]
  simp only[vx,T,seval,ZV];have hw1:zn (a.num.fdiv g)≤zn a.num:=pI _ _;have hw2:zn (b.num.fdiv h)≤zn b.num:=pI _ _;refine Cg (dX a.num b.den (by omega) (by omega)) ?_;rw[eg];simp only[vx,T,seval,ZV];refine Cg (dX b.num a.den (by omega) (by omega)) ?_;rw[eh];simp only[vx,T,seval,ZV];refine Cg (bJ a.num g (by omega) (by rw[ay];omega) (by omega)) ?_;simp only[vx,T,seval,ZV];refine Cg (bJ b.num h (by omega) (by rw[ay];omega) (by omega)) ?_;simp only[vx,T,seval,ZV];refine Cg (bp (a.num.fdiv g) (b.num.fdiv h) (by omega) (by omega)) ?_;rw[k1];simp only[vx,T,seval,ZV];refine Cg (bJ a.den h (by omega) (by rw[ay];omega) (by omega)) ?_;rw[fA];simp only[vx,T,seval,ZV];refine Cg (bJ b.den g (by omega) (by rw[ay];omega) (by omega)) ?_;rw[fA];simp only[vx,T,seval,ZV];refine Cg (bp ((a.den/h:Nat):Int) ((b.den/g:Nat):Int) (by rw[ay];omega) (by rw[ay];omega)) ?_;rw[←Int.natCast_mul,k2];simp only[vx,T,seval,ZV];refine Va ?_;simp only[cO,aV,ry,seval]
 simp only[vx,T,seval,ZV];have hw1:zn (a.num.fdiv g)≤zn a.num:=pI _ _;have hw2:zn (b.num.fdiv h)≤zn b.num:=pI _ _;refine Cg (dX a.num b.den (by omega) (by omega)) ?_;rw[eg];simp only[vx,T,seval,ZV];refine Cg (dX b.num a.den (by omega) (by omega)) ?_;rw[eh];simp only[vx,T,seval,ZV];refine Cg (bJ a.num g (by omega) (by rw[ay];omega) (by omega)) ?_;simp only[vx,T,seval,ZV];refine Cg (bJ b.num h (by omega) (by rw[ay];omega) (by omega)) ?_;simp only[vx,T,seval,ZV];refine Cg (bp (a.num.fdiv g) (b.num.fdiv h) (by omega) (by omega)) ?_;rw[k1];simp only[vx,T,seval,ZV];refine Cg (bJ a.den h (by omega) (by rw[ay];omega) (by omega)) ?_;rw[fA];simp only[vx,T,seval,ZV];refine Cg (bJ b.den g (by omega) (by rw[ay];omega) (by omega)) ?_;rw[fA];simp only[vx,T,seval,ZV];refine Cg (bp ((a.den/h:Nat):Int) ((b.den/g:Nat):Int) (by rw[ay];omega) (by rw[ay];omega)) ?_;rw[←Int.natCast_mul,k2];simp only[vx,T,seval,ZV];refine Va ?_;simp only[cO,aV,ry,seval]
theorem Cd (a b:Rat)(ha:qm a<2^34)(hb:qm b<2^34):Pr Tryz.prog 94 [QV a,QV b] (QV (a+b)):=by
 have m1:=cN a.num b.num;have m2:=iE a.den b.den;have m3:=cN a.num b.den;have m4:=cN b.num a.den;have m5:=oY (a.num*b.den) (b.num*a.den);have n1:=ay a.den;have n2:=ay b.den;have p1:=a.den_pos;have p2:=b.den_pos;have p3:=Nat.mul_pos p1 p2;unfold qm at ha hb;obtain⟨g,hg⟩:∃g,g=a.den.gcd b.den:=⟨_,rfl⟩;have eg:Int.gcd (a.den:Int) b.den=g:=by rw[hg];rfl
 have g0:0<g:=by rw[hg];exact Nat.gcd_pos_of_pos_right _ p2
 have gl:nl g≤nl b.den:=by rw[hg];exact bg (Nat.gcd_le_right _ p2)
 obtain⟨num,hn⟩:∃num,num=a.num*((b.den/g:Nat):Int)+b.num*((a.den/g:Nat):Int):=⟨_,rfl⟩;obtain⟨h,hh⟩:∃h,h=num.natAbs.gcd g:=⟨_,rfl⟩;have eh:Int.gcd num g=h:=by rw[hh];rfl
 have h0:0<h:=by rw[hh];exact Nat.gcd_pos_of_pos_right _ g0
 have hl:nl h≤nl g:=by rw[hh];exact bg (Nat.gcd_le_right _ g0)
 have dl:nl (a.den/g)≤nl a.den:=bg (Nat.div_le_self _ _);have dl2:nl (b.den/g)≤nl b.den:=bg (Nat.div_le_self _ _);have dl3:nl (b.den/h)≤nl b.den:=bg (Nat.div_le_self _ _);have w1:=cN a.num ((b.den/g:Nat):Int);have w2:=cN b.num ((a.den/g:Nat):Int);have w3:=oY (a.num*((b.den/g:Nat):Int)) (b.num*((a.den/g:Nat):Int));rw[ay]at w1 w2;rw[←hn]at w3;have w4:zn (num.fdiv h)≤zn num:=pI _ _;obtain⟨k1,k2⟩:=Kq hg hn hh;refine pw Tryz.func94 ⟨[0,1,2,3,4,5,6,7,8,9,10,15,21,30,45],[]⟩ ?_;simp only[Tryz.f94,Tryz.ntmps94,iz,seval];simp only[vx,T,seval,QV,QC];refine⟨fun h1=>Lg ?_,fun h1=>Lg ?_⟩
 ·have ez:a+b=b:=by rw[Rat.num_eq_zero.1 (sJ h1),Rat.zero_add]
  simp only[vx,T,seval,ZV];rw[ez];refine Va ?_;simp only[cO,aV,ry,seval]
 simp only[vx,T,seval,ZV];refine⟨fun h2=>Lg ?_,fun h2=>Lg ?_⟩
 ·have ez:a+b=a:=by rw[Rat.num_eq_zero.1 (sJ h2),Rat.add_zero]
  simp only[vx,T,seval,ZV];rw[ez];refine Va ?_;simp only[cO,aV,ry,seval]
 simp only[vx,T,seval,ZV];refine Cg (gq a.den (by omega)) ?_;simp only[vx,T,seval,ZV];refine⟨fun h3=>Lg ?_,fun h3=>Lg ?_⟩
 ·simp only[vx,T,seval,ZV];refine Cg (gq b.den (by omega)) ?_;simp only[vx,T,seval,ZV];refine⟨fun h4=>Lg ?_,fun h4=>Lg ?_⟩
  ·obtain⟨k1,k2⟩:=add_one (a:=a) (b:=b) (by omega) (by omega);simp only[vx,T,seval,ZV];refine Cg (gA a.num b.num (by omega) (by omega)) ?_;simp only[vx,T,seval,ZV];rw[k1,k2,h3];refine Va ?_;simp only[cO,aV,ry,seval,X3]
  simp only[vx,T,seval,ZV];refine Cg (dX a.den b.den (by omega) (by omega)) ?_;rw[eg];simp only[vx,T,seval,ZV];refine Cg (gq g (by rw[ay];omega)) ?_;simp only[vx,T,seval,ZV];refine⟨fun h5=>Lg ?_,fun h5=>Lg ?_⟩
  ·obtain⟨k3,k4⟩:=Dh (a:=a) (b:=b) (by rw[←hg];omega);simp only[vx,T,seval,ZV];refine Cg (bp a.num b.den (by omega) (by omega)) ?_;simp only[vx,T,seval,ZV];refine Cg (bp b.num a.den (by omega) (by omega)) ?_;simp only[vx,T,seval,ZV];refine Cg (gA (a.num*b.den) (b.num*a.den) (by omega) (by omega)) ?_;simp only[vx,T,seval,ZV];refine Cg (bp a.den b.den (by omega) (by omega)) ?_;simp only[vx,T,seval,ZV];rw[k3,k4,Int.natCast_mul];refine Va ?_;simp only[cO,aV,ry,seval]
  simp only[vx,T,seval,ZV];refine Cg (bJ a.den g (by omega) (by rw[ay];omega) (by omega)) ?_;rw[fA];simp only[vx,T,seval,ZV];refine Cg (bJ b.den g (by omega) (by rw[ay];omega) (by omega)) ?_;rw[fA];simp only[vx,T,seval,ZV];refine Cg (bp a.num ((b.den/g:Nat):Int) (by omega) (by rw[ay];omega)) ?_;simp only[vx,T,seval,ZV];refine Cg (bp b.num ((a.den/g:Nat):Int) (by omega) (by rw[ay];omega)) ?_;simp only[vx,T,seval,ZV];refine Cg (gA _ _ (Nat.lt_of_le_of_lt w1 (by omega)) (Nat.lt_of_le_of_lt w2 (by omega))) ?_;rw[←hn];simp only[vx,T,seval,ZV];refine Cg (dX num g (by omega) (by rw[ay];omega)) ?_;rw[eh];simp only[vx,T,seval,ZV];refine Cg (bJ num h (by omega) (by rw[ay];omega) (by omega)) ?_;rw[k1];simp only[vx,T,seval,ZV];refine Cg (bJ b.den h (by omega) (by rw[ay];omega) (by omega)) ?_;rw[fA];simp only[vx,T,seval,ZV];refine Cg (bp ((a.den/g:Nat):Int) ((b.den/h:Nat):Int) (by rw[ay];omega) (by rw[ay];omega)) ?_;rw[←Int.natCast_mul,k2];simp only[vx,T,seval,ZV];refine Va ?_;simp only[cO,aV,ry,seval]
 simp only[vx,T,seval,ZV];refine Cg (dX a.den b.den (by omega) (by omega)) ?_;rw[eg];simp only[vx,T,seval,ZV];refine Cg (gq g (by rw[ay];omega)) ?_;simp only[vx,T,seval,ZV];refine⟨fun h5=>Lg ?_,fun h5=>Lg ?_⟩
 ·obtain⟨k3,k4⟩:=Dh (a:=a) (b:=b) (by rw[←hg];omega);simp only[vx,T,seval,ZV];refine Cg (bp a.num b.den (by omega) (by omega)) ?_;simp only[vx,T,seval,ZV];refine Cg (bp b.num a.den (by omega) (by omega)) ?_;simp only[vx,T,seval,ZV];refine Cg (gA (a.num*b.den) (b.num*a.den) (by omega) (by omega)) ?_;simp only[vx,T,seval,ZV];refine Cg (bp a.den b.den (by omega) (by omega)) ?_;simp only[vx,T,seval,ZV];rw[k3,k4,Int.natCast_mul];refine Va ?_;simp only[cO,aV,ry,seval]
 simp only[vx,T,seval,ZV];refine Cg (bJ a.den g (by omega) (by rw[ay];omega) (by omega)) ?_;rw[fA];simp only[vx,T,seval,ZV];refine Cg (bJ b.den g (by omega) (by rw[ay];omega) (by omega)) ?_;rw[fA];simp only[vx,T,seval,ZV];refine Cg (bp a.num ((b.den/g:Nat):Int) (by omega) (by rw[ay];omega)) ?_;simp only[vx,T,seval,ZV];refine Cg (bp b.num ((a.den/g:Nat):Int) (by omega) (by rw[ay];omega)) ?_;simp only[vx,T,seval,ZV];refine Cg (gA _ _ (Nat.lt_of_le_of_lt w1 (by omega)) (Nat.lt_of_le_of_lt w2 (by omega))) ?_;rw[←hn];simp only[vx,T,seval,ZV];refine Cg (dX num g (by omega) (by rw[ay];omega)) ?_;rw[eh];simp only[vx,T,seval,ZV];refine Cg (bJ num h (by omega) (by rw[ay];omega) (by omega)) ?_;rw[k1];simp only[vx,T,seval,ZV];refine Cg (bJ b.den h (by omega) (by rw[ay];omega) (by omega)) ?_;rw[fA];simp only[vx,T,seval,ZV];refine Cg (bp ((a.den/g:Nat):Int) ((b.den/h:Nat):Int) (by rw[ay];omega) (by rw[ay];omega)) ?_;rw[←Int.natCast_mul,k2];simp only[vx,T,seval,ZV];refine Va ?_;simp only[cO,aV,ry,seval]
end Go.Proofs.YtgalhjhdgkoemaaGreat
/-
  Square roots of natural numbers, rounded down.
-/
namespace Go.Eng
def cq:Nat→Nat
 |0=>0
 |n+1=>if(cq n+1)*(cq n+1)≤n+1 then cq n+1 else cq n
theorem jq:∀n,cq n*cq n≤n∧n<(cq n+1)*(cq n+1)
 |0=>by decide
 |n+1=>by
  have⟨h1,h2⟩:=jq n
  rw[cq]
  split
  ·rename_i h
   refine⟨h,?_⟩;have e:(cq n+1+1)*(cq n+1+1)=(cq n+1)*(cq n+1)+2*cq n+3:=by
    simp only[Nat.mul_add,Nat.add_mul,Nat.mul_one,Nat.one_mul];omega
   rw[e];omega
  rename_i h
  exact⟨by omega,by omega⟩
theorem uF {n s:Nat}(h1:s*s≤n)(h2:n<(s+1)*(s+1)):cq n=s:=by
 have⟨k1,k2⟩:=jq n
 rcases Nat.lt_trichotomy (cq n) s with h|h|h
 ·have:=Nat.mul_le_mul (show cq n+1≤s by omega) (show cq n+1≤s by omega)
  omega
 ·exact h
 have:=Nat.mul_le_mul (show s+1≤cq n by omega) (show s+1≤cq n by omega)
 omega
theorem G8 (s:Nat):cq (s*s)=s:=uF (Nat.le_refl _) (Nat.mul_lt_mul'' (Nat.lt_succ_self s) (Nat.lt_succ_self s))
theorem CI (n:Nat):cq n≤n:=by
 have:=(jq n).1
 rcases Nat.eq_zero_or_pos (cq n)with h|h
 ·omega
 exact Nat.le_trans (Nat.le_mul_of_pos_left _ h) this
theorem wW {a x:Nat}(hx:0<x):cq a≤(x+a/x)/2:=by
 have h:=(jq a).1;obtain⟨s,hs⟩:∃s,s=cq a:=⟨_,rfl⟩;rw[←hs]at h⊢;have key:2*s-x≤a/x:=by
  rw[Nat.le_div_iff_mul_le hx];refine Nat.le_trans ?_ h
  by_cases h0:2*s≤x
  ·rw[show 2*s-x=0 by omega,Nat.zero_mul];exact Nat.zero_le _
  by_cases h1:x≤s
  ·obtain⟨d,rfl⟩:=Nat.exists_eq_add_of_le h1;rw[show 2*(x+d)-x=x+2*d by omega];simp only[Nat.mul_add,Nat.add_mul,Nat.mul_assoc,Nat.two_mul]
   have:=Nat.mul_comm x d
   omega
  obtain⟨d,rfl⟩:=Nat.exists_eq_add_of_le (show s≤x by omega);obtain⟨e,rfl⟩:=Nat.exists_eq_add_of_le (show d≤s by omega);rw[show 2*(d+e)-(d+e+d)=e by omega];simp only[Nat.mul_add,Nat.add_mul]
  have:=Nat.mul_comm d e
  omega
 omega
theorem zy {a x:Nat}(hx:0<x)(h:x≤(x+a/x)/2):x*x≤a:=by
 have:x≤a/x:=by omega
 exact(Nat.le_div_iff_mul_le hx).1 this
theorem MB {n b:Nat}(h:n<b*b):cq n<b:=by
 refine Nat.lt_of_not_le fun hl=>?_
 have:=Nat.mul_le_mul hl hl
 have:=(jq n).1
 omega
end Go.Eng
/-
  How many binary digits a number has; a power of 2 in words; where Newton's method begins.
-/
namespace Go.Eng
open Go
theorem qY (k:Nat):BB^k=2^(32*k):=by
 rw[show BB=2^32 from rfl,←Nat.pow_mul]
def kn (n:Nat):Nat:=32*(nl n-1)+bl (eX n)
theorem Dz {n:Nat}(h:0<n):n<2^kn n:=by
 have h1:=(gM h).1;have h2:=(yp _ h1).2.1;unfold kn;rw[Nat.pow_add,←qY];have h3:n<(eX n+1)*BB^(nl n-1):=by
  unfold eX;rw[Nat.add_mul,Nat.one_mul,Nat.mul_comm];exact Nat.lt_mul_div_succ n (Nat.pow_pos (by decide))
 refine Nat.lt_of_lt_of_le h3 ?_;rw[Nat.mul_comm];exact Nat.mul_le_mul_left _ (by omega)
theorem xC {n:Nat}(h:0<n):kn n≤32*nl n:=by
 have h1:=gM h;have h2:bl (eX n)≤32:=AN h1.2;have h3:=dZ.2 h;unfold kn;omega
theorem Fm {n:Nat}(h:0<n):cq n<2^(kn n/2+1):=by
 refine MB (Nat.lt_of_lt_of_le (Dz h) ?_);rw[←Nat.pow_add];exact Nat.pow_le_pow_right (by decide) (by omega)
theorem Eo (n:Nat):(List.replicate (n/32+1) (0:Int)).set (n/32) ((2^(n%32):Nat):Int)=ak (2^n):=by
 have hw:2^(n%32)<2^32:=Nat.pow_lt_pow_right (by decide) (Nat.mod_lt _ (by decide));have hp:0<2^(n%32):=Nat.pow_pos (by decide);have hin:bF ((List.replicate (n/32+1) (0:Int)).set (n/32) ((2^(n%32):Nat):Int)):=(bF.replicate _).set _ ⟨by omega,by omega⟩;have hl:n/32<(List.replicate (n/32+1) (0:Int)).length:=by simp
 have hv:=dK (xs:=List.replicate (n/32+1) (0:Int)) (i:=n/32) (x:=((2^(n%32):Nat):Int)) hl;rw[cA,X7,List.getElem?_replicate]at hv;rw[if_pos (by omega),Int.toNat_natCast]at hv;have h0:((some (0:Int)).getD 0).toNat=0:=rfl;rw[h0,Nat.mul_zero,Nat.add_zero,Nat.zero_add,qY,←Nat.pow_add,Nat.div_add_mod]at hv;rw[←hv]
 refine(bX hin (.inr ?_)).symm
 rw[List.length_set,List.length_replicate,Nat.add_sub_cancel,X7,List.getElem?_set];rw[if_pos rfl,if_pos hl]
 show((2^(n%32):Nat):Int)≠0
 omega
end Go.Eng
/-
  A number's binary digits, set and cleared in its words; a root digit by digit.
-/
namespace Go.Eng
open Go
theorem He {w j:Nat}(hj:j<32)(hw:w<4294967296)(hd:w%2^(j+1)=0):fX .or .u32 (w:Int) ((2^j:Nat):Int)=((w+2^j:Nat):Int)∧w+2^j<4294967296:=by
 have hp:2^j<2^(j+1):=Nat.pow_lt_pow_right (by decide) (by omega);have hp2:2^j<2^32:=Nat.pow_lt_pow_right (by decide) hj
 have e:w|||2^j=w+2^j:=by
  have h1:=Nat.two_pow_add_eq_or_of_lt (i:=j+1) (b:=2^j) hp (w/2^(j+1));have h2:2^(j+1)*(w/2^(j+1))=w:=by have:=Nat.div_add_mod w (2^(j+1));omega
  rw[h2]at h1;exact h1.symm
 have hlt:w|||2^j<2^32:=Nat.or_lt_two_pow hw hp2
 refine⟨?_,by rw[←e];exact hlt⟩;show IntKind.u32.wrap _=_
 have eb:(BitVec.ofInt 32 (w:Int)|||BitVec.ofInt 32 ((2^j:Nat):Int)).toNat=w+2^j:=by
  rw[BitVec.toNat_or,BitVec.ofInt_natCast,BitVec.ofInt_natCast,BitVec.toNat_ofNat,BitVec.toNat_ofNat,Nat.mod_eq_of_lt hw,Nat.mod_eq_of_lt hp2,e]
 have eb2:(BitVec.ofInt IntKind.u32.bits (w:Int)|||BitVec.ofInt IntKind.u32.bits ((2^j:Nat):Int)).toNat=w+2^j:=eb
 rw[eb2];exact IntWalk.u32_in _ (by omega)
theorem KI {w j:Nat}(hj:j<32)(hw:w<4294967296)(hd:w%2^(j+1)=0):fX .andNot .u32 ((w+2^j:Nat):Int) ((2^j:Nat):Int)=(w:Int):=by
 obtain⟨h1,h2⟩:=He hj hw hd;have hp2:2^j<2^32:=Nat.pow_lt_pow_right (by decide) hj;have hp:2^j<2^(j+1):=Nat.pow_lt_pow_right (by decide) (by omega)
 have e:w|||2^j=w+2^j:=by
  have h1:=Nat.two_pow_add_eq_or_of_lt (i:=j+1) (b:=2^j) hp (w/2^(j+1));have h2:2^(j+1)*(w/2^(j+1))=w:=by have:=Nat.div_add_mod w (2^(j+1));omega
  rw[h2]at h1;exact h1.symm
 have bj:w.testBit j=false:=by
  rw[Nat.testBit_eq_decide_div_mod_eq]
  have:w=2^j*(2*(w/2^(j+1))):=by
   have h4:=Nat.div_add_mod w (2^(j+1));have h5:2^(j+1)*(w/2^(j+1))=2^j*(2*(w/2^(j+1))):=by
    generalize w/2^(j+1)=m
    rw[Nat.pow_succ,Nat.mul_assoc]
   omega
  rw[this,Nat.mul_div_cancel_left _ (Nat.two_pow_pos j)]
  simp
 have eb:(BitVec.ofInt 32 ((w+2^j:Nat):Int)&&& ~~~(BitVec.ofInt 32 ((2^j:Nat):Int)))=BitVec.ofNat 32 w:=by
  rw[BitVec.ofInt_natCast,BitVec.ofInt_natCast]
  apply BitVec.eq_of_getLsbD_eq
  intro i hi;rw[BitVec.getLsbD_and,BitVec.getLsbD_not,BitVec.getLsbD_ofNat,BitVec.getLsbD_ofNat,BitVec.getLsbD_ofNat,←e,Nat.testBit_or,Nat.testBit_two_pow]
  by_cases hij:j=i
  ·subst hij;simp[bj]
  simp[hij,hi]
 show IntKind.u32.wrap ((BitVec.ofInt 32 ((w+2^j:Nat):Int)&&& ~~~(BitVec.ofInt 32 ((2^j:Nat):Int))).toNat:Int)=_;rw[eb,BitVec.toNat_ofNat,Nat.mod_eq_of_lt hw];exact IntWalk.u32_in _ (by omega)
theorem zZ {k r:Nat}(hr:r<BB^k)(i:Nat):(iq k r).getD i 0=((r/BB^i%BB:Nat):Int):=by
 have h:=da (gj k r) i;rw[jX,Nat.mod_eq_of_lt hr]at h;exact h
theorem Lr {k r i:Nat}(hk:i/32<k)(hr:r+2^i<BB^k)(hd:r%2^(i+1)=0):∃w:Nat,w<4294967296∧w+2^(i%32)<4294967296∧(iq k r).getD (i/32) 0=(w:Int)∧
  fX .or .u32 (w:Int) ((2^(i%32):Nat):Int)=((w+2^(i%32):Nat):Int)∧(iq k r).set (i/32) ((w+2^(i%32):Nat):Int)=iq k (r+2^i)∧
  (iq k (r+2^i)).getD (i/32) 0=((w+2^(i%32):Nat):Int)∧fX .andNot .u32 ((w+2^(i%32):Nat):Int) ((2^(i%32):Nat):Int)=(w:Int)∧(iq k (r+2^i)).set (i/32) (w:Int)=iq k r:=by
 obtain⟨c,hc⟩:∃c,c=i/32:=⟨_,rfl⟩;obtain⟨j,hj⟩:∃j,j=i%32:=⟨_,rfl⟩;have hij:i=32*c+j:=by omega
 rw[←hc]at hk⊢;rw[←hj];have hj32:j<32:=by omega
 have hr0:r<BB^k:=by have:=Nat.two_pow_pos i;omega
 obtain⟨w,hw⟩:∃w,w=r/BB^c%BB:=⟨_,rfl⟩;have hwl:w<4294967296:=by rw[hw];exact Nat.mod_lt _ (by decide)
 have hwd:w%2^(j+1)=0:=by
  obtain⟨m,hm⟩:=Nat.dvd_of_mod_eq_zero hd;have e1:2^(i+1)=BB^c*2^(j+1):=by rw[qY,←Nat.pow_add];congr 1;omega
  have e2:r/BB^c=2^(j+1)*m:=by
   rw[hm,e1,Nat.mul_assoc,Nat.mul_div_cancel_left _ (Nat.pow_pos (by decide))]
  have e3:BB=2^(j+1)*2^(31-j):=by rw[←Nat.pow_add,show j+1+(31-j)=32 by omega];rfl
  rw[hw,e2]
  conv=>lhs;lhs;rhs;rw[e3]
  rw[Nat.mul_mod_mul_left,Nat.mul_mod_right]
 obtain⟨b1,b2⟩:=He hj32 hwl hwd;have b3:=KI hj32 hwl hwd;have hl:c<(iq k r).length:=by rw[aK];exact hk
 have g1:(iq k r).getD c 0=(w:Int):=by rw[zZ hr0,hw]
 have s1:(iq k r).set c ((w+2^j:Nat):Int)=iq k (r+2^i):=by
  refine rF ((gj k r).set c ⟨by omega,by omega⟩) (by rw[List.length_set,aK]) ?_;have h:=dK (xs:=iq k r) (x:=((w+2^j:Nat):Int)) hl;rw[g1,jX,Nat.mod_eq_of_lt hr0,Int.toNat_natCast,Int.toNat_natCast,Nat.mul_add]at h;have e4:BB^c*2^j=2^i:=by rw[qY,←Nat.pow_add,←hij]
  omega
 refine⟨w,hwl,b2,g1,b1,s1,?_,b3,?_⟩
 ·rw[←s1,X7,List.getElem?_set,if_pos rfl,if_pos hl];rfl
 rw[←s1,List.set_set,←g1];refine List.ext_getElem (by simp) fun n h1 h2=>?_;rw[List.getElem_set]
 split
 ·rename_i e
  subst e;rw[X7,X8 h2];rfl
 rfl
structure Ga (a n i r:Nat):Prop where
 le:i≤n
 d:r%2^i=0
 lo:r*r≤a
 hi:a<(r+2^i)*(r+2^i)
 lt:r+2^i≤2^n
theorem Ga.init {a n:Nat}(h:a<2^n*2^n):Ga a n n 0:=⟨Nat.le_refl _,Nat.zero_mod _,Nat.zero_le _,by rw[Nat.zero_add];exact h,by omega⟩
theorem Ga.up {a n i r:Nat}(H:Ga a n (i+1) r)(h:(r+2^i)*(r+2^i)≤a):Ga a n i (r+2^i):=by
 have e:2^(i+1)=2^i+2^i:=by rw[Nat.pow_succ];omega
 obtain⟨h1,h2,h3,h4,h5⟩:=H;rw[e]at h4 h5;refine⟨by omega,?_,h,by rw[Nat.add_assoc];exact h4,by omega⟩;obtain⟨m,hm⟩:=Nat.dvd_of_mod_eq_zero h2;rw[hm,Nat.pow_succ,Nat.mul_assoc,Nat.add_mod_right,Nat.mul_mod_right]
theorem Ga.stay {a n i r:Nat}(H:Ga a n (i+1) r)(h:a<(r+2^i)*(r+2^i)):Ga a n i r:=by
 have e:2^(i+1)=2^i+2^i:=by rw[Nat.pow_succ];omega
 obtain⟨h1,h2,h3,h4,h5⟩:=H;rw[e]at h5;refine⟨by omega,?_,h3,h,by omega⟩;obtain⟨m,hm⟩:=Nat.dvd_of_mod_eq_zero h2;rw[hm,Nat.pow_succ,Nat.mul_assoc,Nat.mul_mod_right]
theorem Ga.done {a n r:Nat}(H:Ga a n 0 r):r=cq a:=(uF H.lo H.hi).symm
end Go.Eng
/-
  Square roots of rational numbers.
-/
namespace Go.Eng
open Go
def Ad (x:Rat):Option Rat:=
 if 0≤x.num∧cq x.num.natAbs*cq x.num.natAbs=x.num.natAbs∧cq x.den*cq x.den=x.den then some (mkRat (cq x.num.natAbs) (cq x.den))else none
theorem F4 {a b n d:Nat}(ha:a*a=n)(hb:b*b=d)(h:n.Coprime d):a.Coprime b:=by
 subst ha hb;exact Nat.Coprime.coprime_dvd_left (Nat.dvd_mul_right a a) (Nat.Coprime.coprime_dvd_right (Nat.dvd_mul_right b b) h)
theorem Nl {a b:Nat}(h:a.Coprime b):(a*a).Coprime (b*b):=
 Nat.Coprime.mul_left (Nat.Coprime.mul_right h h) (Nat.Coprime.mul_right h h)
theorem pF {x r:Rat}(h:Ad x=some r):r*r=x∧0≤x.num∧cq x.num.natAbs*cq x.num.natAbs=x.num.natAbs∧cq x.den*cq x.den=x.den∧r.num=(cq x.num.natAbs:Int)∧r.den=cq x.den:=by
 unfold Ad at h
 split at h
 ·rename_i hc
  obtain⟨h0,h1,h2⟩:=hc;obtain rfl:=Option.some.inj h;have hb:cq x.den≠0:=fun e=>by rw[e]at h2;exact x.den_nz h2.symm
  have hcop:(cq x.num.natAbs).Coprime (cq x.den):=F4 h1 h2 x.reduced;obtain⟨r0,hr0⟩:∃r0:Rat,r0=⟨(cq x.num.natAbs:Int),cq x.den,hb,by simpa using hcop⟩:=⟨_,rfl⟩;have e1:r0.num=(cq x.num.natAbs:Int):=by rw[hr0]
  have e2:r0.den=cq x.den:=by rw[hr0]
  have e3:mkRat (cq x.num.natAbs) (cq x.den)=r0:=by rw[←e1,←e2];exact Rat.mkRat_self r0
  rw[e3];refine⟨?_,h0,h1,h2,e1,e2⟩;have e4:r0*r0=mkRat (r0.num*r0.num) (r0.den*r0.den):=Rat.mul_def' r0 r0;rw[e4,e1,e2,h2,←Int.natCast_mul,h1,Int.natAbs_of_nonneg h0];exact Rat.mkRat_self x
 cases h
theorem yO {x:Rat}(h:Ad x=none)(r:Rat):r*r≠x:=by
 rintro rfl;have hcop:(r.num.natAbs*r.num.natAbs).Coprime (r.den*r.den):=Nl r.reduced;obtain⟨r1,hr1⟩:∃r1:Rat,r1=⟨r.num*r.num,r.den*r.den,Nat.mul_ne_zero r.den_nz r.den_nz,by rw[Int.natAbs_mul];exact hcop⟩:=⟨_,rfl⟩;have e1:r1.num=r.num*r.num:=by rw[hr1]
 have e2:r1.den=r.den*r.den:=by rw[hr1]
 have e3:r*r=r1:=by rw[Rat.mul_def',←e1,←e2];exact Rat.mkRat_self r1
 unfold Ad at h;rw[e3,if_pos]at h
 ·cases h
 rw[e1,e2,Int.natAbs_mul,G8,G8];refine⟨?_,rfl,rfl⟩
 rcases Int.le_total 0 r.num with h|h
 ·exact Int.mul_nonneg h h
 exact Int.mul_nonneg_of_nonpos_of_nonpos h h
end Go.Eng
namespace Go.Proofs.YtgalhjhdgkoemaaGreat
open Go Go.Eng
theorem yj (K a:Nat)(hr:a<BB^K)(hl:nl a≤K)(hK:K<2^40):Mc Tryz.prog 191 [.one (.own 0 1 0 (nl a)),.one (.own 0 1 0 (nl a))] (.ints 137 .u32 (iq K a)) (fun r B'=>r= .one (.ints .u32 (ak (a*a)))∧B'= .ints 137 .u32 (iq K a)):=by
 have dl:=aK K a;have dw:=fun i=>zZ hr i;refine mw Tryz.func191 ⟨[0,1,4,5,6,7,8,18,24],[]⟩ ?_;simp only[Tryz.f191,Tryz.ntmps191,iz,seval];simp only[vx,T,seval,dl]
 simp(disch:=omega) only[lG,←X2,←Int.natCast_mul,Int.toNat_natCast,IntWalk.i64_in,IntWalk.u64_in,aA,aE,true_and,and_true,dw]
 refine⟨⟨by omega,by omega,by omega,by omega⟩,Lk (fun i:{i:Nat×List Int//gJ a a i.1 i.2}=>⟨[(0,.one (.own 0 1 0 (nl a))),(1,.one (.own 0 1 0 (nl a))),(5,.one (.own 1 1 0 (nl a+nl a))),(6,.one (.int .i64 i.1.1))],[(0,⟨.ints 137 .u32 (iq K a),true⟩),(1,⟨.ints 137 .u32 i.1.2,true⟩)],3,67⟩) (fun i=>nl a-i.1.1) ⟨(0,List.replicate (nl a+nl a) 0),gJ.init a a⟩ ?_ (fun⟨⟨i,os⟩,hi⟩=>?_)⟩
 ·refine Sa ?_;simp only[ry,seval,rz,dl]
 have h1:=hi.le;have h2:=hi.len;simp only at h1 h2;simp only[vx,T,seval,dl];refine⟨fun h=>Lg ?_,fun h=>Lg ?_⟩
 ·simp only[vx,T,seval,dl];have hx:=bd (a/BB^i);refine Lk (fun k:{k:Nat×List Int×Nat//pC a a i k.1 k.2.1 k.2.2}=>⟨[(0,.one (.own 0 1 0 (nl a))),(1,.one (.own 0 1 0 (nl a))),(5,.one (.own 1 1 0 (nl a+nl a))),(6,.one (.int .i64 i)),(7,.one (.int .u64 k.1.2.2)),(8,.one (.int .i64 k.1.1))],[(0,⟨.ints 137 .u32 (iq K a),true⟩),(1,⟨.ints 137 .u32 k.1.2.1,true⟩)],3,67⟩) (fun k=>nl a-k.1.1) ⟨(0,os,0),hi.start⟩ ?_ (fun⟨⟨k,os',c⟩,hk⟩=>?_)
  ·refine Sa ?_;simp only[ry,seval,rz,lG]
  have h3:=hk.le;have h4:=hk.len;have h5:=hk.c;have h5:c<4294967296:=h5;have hz:=hk.inr.getD (i+k);simp only at h3 h4 hz;obtain⟨o,ho⟩:=Int.eq_ofNat_of_zero_le hz.1;rw[ho]at hz;simp only[vx,T,seval,dl];refine⟨fun h'=>Lg ?_,fun h'=>Lg ?_⟩
  ·simp only[vx,T,seval,dl];have hy:=bd (a/BB^k);have hp:(a/BB^i%BB)*(a/BB^k%BB)≤4294967295*4294967295:=Nat.mul_le_mul (by omega) (by omega)
   simp(disch:=omega) only[lG,←X2,←Int.natCast_mul,Int.toNat_natCast,IntWalk.i64_in,IntWalk.u64_in,aA,aE,true_and,and_true,ho,dw]
   refine⟨by omega,by omega,by omega,by omega,Lq ⟨(k+1,_,_),hk.put (s:=c+o+(a/BB^i%BB)*(a/BB^k%BB)) (by omega) (by omega) ho (by simp only;omega)⟩ ?_ ?_⟩
   ·refine Sa ?_;simp only[ry,seval,rz,dl]
   simp only;omega
  simp only[vx,T,seval,dl];have hkb:k=nl a:=by omega
  subst hkb
  simp(disch:=omega) only[lG,←X2,←Int.natCast_mul,Int.toNat_natCast,IntWalk.i64_in,IntWalk.u64_in,aA,aE,true_and,and_true,dw]
  refine⟨by omega,Lq ⟨(i+1,_),hk.next (by omega)⟩ ?_ ?_⟩
  ·refine Sa ?_;simp only[ry,seval,rz,dl]
  simp only;omega
 simp only[vx,T,seval,dl];have hia:i=nl a:=by omega
 subst hia;have hr:=hi.inr;have hv:=hi.done;simp only at hr hv;rw[List.take_of_length_le (by omega)];refine Cg (bO _ hr (by omega)) ?_;rw[hv];simp only[vx,T,seval,dl]
theorem GI:Pr Tryz.prog 198 [.one (.ints .u32 (ak 0))] (.one (.int .i64 0)):=by
 have hl:(ak 0).length=0:=by rw[bq];rfl
 refine pw Tryz.func198 ⟨[0,2,3,4,7,15],[]⟩ ?_;simp only[Tryz.f198,Tryz.ntmps198,iz,seval];simp only[vx,T,seval,bq];exact Ve rfl
theorem BV (z:Int)(hz:zn z<2^38):Pr Tryz.prog 240 [ZV z] (.one (.int .i64 (if z=0 then 0 else kn z.natAbs:Nat))):=by
 have t:=CP z (by omega);have l:Pr Tryz.prog 198 [.one (.ints .u32 (ak z.natAbs))] (.one (.int .i64 (if z=0 then 0 else kn z.natAbs:Nat))):=by
  by_cases h:z=0
  ·subst h;exact GI
  rw[if_neg h];exact o7 _ (by omega) (by show nl z.natAbs<_;unfold zn at hz;omega)
 refine pw Tryz.func240 ⟨[0,1,2],[]⟩ ?_;simp only[Tryz.f240,Tryz.ntmps240,iz,seval];simp only[vx,T,seval,ZV];refine Cg t ?_;simp only[vx,T,seval,ZV];refine Cg l ?_;simp only[vx,T,seval,ZV];exact Ve rfl
theorem Ey (a b:Int)(ha:zn a<2^38)(hb:zn b<2^38):Pr Tryz.prog 239 [ZV a,ZV b] (.one (.int .i64 (cJ (a-b)))):=by
 have s:=rj a b (by omega) (by omega);have hs:zn (a-b)<2^59:=by
  have:=oY a (-b)
  have e:zn (-b)=zn b:=by unfold zn;rw[Int.natAbs_neg]
  rw[Int.sub_eq_add_neg];omega
 have g:=gC (a-b) hs;refine pw Tryz.func239 ⟨[0,1,2,3,4],[]⟩ ?_;simp only[Tryz.f239,Tryz.ntmps239,iz,seval];simp only[vx,T,seval,ZV];refine Cg s ?_;simp only[vx,T,seval,ZV];refine Cg g ?_;simp only[vx,T,seval,ZV];exact Ve rfl
theorem uW (z:Int)(h0:0≤z)(hz:zn z<2^34):Pr Tryz.prog 225 [ZV z] (.aJ [ZV (cq z.natAbs:Nat),.one (.int .i64 0)]):=by
 have c:=eQ z (by omega);have b:=BV z (by omega);obtain⟨a,ha⟩:∃a,a=z.natAbs:=⟨_,rfl⟩;obtain⟨q,hq⟩:∃q:Nat,q=if z=0 then 0 else kn z.natAbs:=⟨_,rfl⟩
 rw[←hq]at b;have hzs:zs z=false:=dD.2 h0;have hal:nl a<2^34:=by rw[ha];exact hz
 have hqa:a<2^q∧q≤32*nl a:=by
  rw[hq]
  by_cases h:z=0
  ·rw[if_pos h,ha,h];exact⟨by decide,Nat.zero_le _⟩
  rw[if_neg h,←ha];exact⟨Dz (by omega),xC (by omega)⟩
 obtain⟨n,hn⟩:∃n,n=(q+1)/2:=⟨_,rfl⟩;have w1:IntKind.i64.wrap ((q:Int)+1)=((q+1:Nat):Int):=by rw[IntWalk.i64_in _ (by omega)];omega
 have w2:IntKind.i64.wrap (((q+1:Nat):Int).tdiv 2)=(n:Int):=by rw[Int.tdiv_eq_ediv_of_nonneg (by omega),IntWalk.i64_in _ (by omega)];omega
 have w3:IntKind.i64.wrap ((n:Int).tdiv 32)=((n/32:Nat):Int):=by rw[Int.tdiv_eq_ediv_of_nonneg (by omega),IntWalk.i64_in _ (by omega)];omega
 have w4:IntKind.i64.wrap (((n/32:Nat):Int)+1)=((n/32+1:Nat):Int):=by rw[IntWalk.i64_in _ (by omega)];omega
 have w5:IntKind.i64.wrap ((n:Int)-1)=(n:Int)-1:=by rw[IntWalk.i64_in _ (by omega)]
 have hini:a<2^n*2^n:=by
  rw[←Nat.pow_add];exact Nat.lt_of_lt_of_le hqa.1 (Nat.pow_le_pow_right (by decide) (by omega))
 have hK:2^n<BB^(n/32+1):=by rw[qY];exact Nat.pow_lt_pow_right (by decide) (by omega)
 obtain⟨K,hKe⟩:∃K,K=n/32+1:=⟨_,rfl⟩;rw[←hKe]at hK w4;have er:(List.replicate K (0:Int))=iq K 0:=rF (bF.replicate _) (by simp) (cA _);have b:Pr Tryz.prog 240 [.agg [.bool false,.ints .u32 (zm z)]] (.one (.int .i64 q)):=by
  have b:=b;unfold ZV at b;rw[hzs]at b;exact b
 refine pw Tryz.func225 ⟨[0,1,2,3,4,5,6,10,23,47],[(10,(.cons 1 [2,5,6] (.cons 3 [5,6] (.cons 4 [5,6] (.cons 7 [] (.cons 8 [] .nil .nil) .nil) .nil) .nil) .nil))]⟩ ?_;simp only[Tryz.f225,Tryz.ntmps225,iz,seval];simp only[vx,T,seval,ZV];refine Cg c ?_;simp only[vx,T,seval,ZV,hzs];refine Cg b ?_;simp only[vx,T,seval,ZV,w1,w2,w3,w4,w5,Int.toNat_natCast];refine⟨⟨by omega,by omega,by omega,by omega⟩,Lk (fun y:{y:Nat×Nat//Ga a n y.1 y.2}=>⟨[(1,.one (.ptr 1 0)),(2,.one (.ptr 2 0)),(3,.one (.int .i64 0)),(5,.one (.own 3 1 0 K)),(6,.one (.int .i64 ((y.1.1:Int)-1)))],[(1,⟨.var [.bool false,.ints .u32 (zm z)],true⟩),(2,⟨.var [.bool false,.nil],true⟩),(3,⟨.ints 137 .u32 (iq K y.1.2),true⟩)],4,63⟩) (fun y=>y.1.1) ⟨(n,0),.init hini⟩ ?_ (fun⟨⟨i,r⟩,hI⟩=>?_)⟩
 ·refine Sa ?_;simp only[ry,seval,rz,ZV,er]
 simp only;have hle:=hI.le;simp only at hle;simp only[vx,T,seval,ZV];refine⟨fun g=>Lg ?_,fun g=>Lg ?_⟩
 ·obtain⟨k,rfl⟩:∃k,i=k+1:=⟨i-1,by omega⟩;have e6:(((k+1:Nat):Int)-1)=(k:Int):=by omega
  have hlt:=hI.lt;have hd:=hI.d;simp only at hlt hd;have hp2:2^(k+1)=2^k+2^k:=by rw[Nat.pow_succ];omega
  have hpk:=Nat.two_pow_pos k;obtain⟨w,k1,k2,k3,k4,k5,k6,k7,k8⟩:=Lr (k:=K) (r:=r) (i:=k) (by omega) (by omega) hd;have v1:IntKind.i64.wrap ((k:Int).tdiv 32)=((k/32:Nat):Int):=by rw[Int.tdiv_eq_ediv_of_nonneg (by omega),IntWalk.i64_in _ (by omega)];omega
  have v2:(k:Int).tmod 32=((k%32:Nat):Int):=rfl;have v3:IntKind.u32.wrap (1*2^(if k%32≤32 then k%32 else 32))=((2^(k%32):Nat):Int):=by
   have e:(2:Int)^(k%32)=((2^(k%32):Nat):Int):=by rw[Int.natCast_pow];rfl
   have hw:2^(k%32)<2^32:=Nat.pow_lt_pow_right (by decide) (Nat.mod_lt _ (by decide));rw[if_pos (by omega),Int.one_mul,e]
   generalize 2^(k%32)=m at hw
   rw[IntWalk.u32_in _ (by omega)]
  have v4:IntKind.i64.wrap ((k:Int)-1)=(k:Int)-1:=by rw[IntWalk.i64_in _ (by omega)]
  have hr2:r+2^k<BB^K:=by omega
  have hdl:=aK K (r+2^k);have hdr:=aK K r;have hvd:val ((iq K (r+2^k)).take K)=r+2^k:=by rw[dy,jX,Nat.mod_eq_of_lt hr2]
  have hnl:nl (r+2^k)≤K:=aB hr2;have tm:=mF (iq K (r+2^k)) 0 K (gj _ _) (by rw[hdl];omega) (by rw[hdl];omega);rw[List.drop_zero,hvd]at tm;have xm:=yj K (r+2^k) hr2 hnl (by omega);have hsq:nl ((r+2^k)*(r+2^k))<2^62:=by
   have:=iE (r+2^k) (r+2^k)
   omega
  have cp:=fu ((r+2^k)*(r+2^k)) a hsq (by omega);have ea:zm z=ak a:=by rw[ha];rfl
  rw[ea];simp only[vx,T,seval,ZV,e6,v1,v2,v3,v4,k3,k4,k5,hdr,Int.toNat_natCast];refine⟨⟨by omega,by omega⟩,by omega,⟨by omega,by omega⟩,Cm 3 (B:=.ints 137 .u32 (iq K (r+2^k))) rfl trivial tm ?_⟩;rintro _ _ ⟨rfl,rfl⟩ _;simp only[vx,T,seval,ZV,v1,v2,v3,v4,hdl,Int.toNat_natCast];refine Cm 3 (B:=.ints 137 .u32 (iq K (r+2^k))) rfl trivial tm ?_;rintro _ _ ⟨rfl,rfl⟩ _;simp only[vx,T,seval,ZV,v1,v2,v3,v4,hdl,Int.toNat_natCast];refine Cm 3 (B:=.ints 137 .u32 (iq K (r+2^k))) rfl trivial xm ?_;rintro _ _ ⟨rfl,rfl⟩ _;simp only[vx,T,seval,ZV,v1,v2,v3,v4,hdl,Int.toNat_natCast];refine Cg cp ?_;simp only[vx,T,seval,ZV,v1,v2,v3,v4,hdl,Int.toNat_natCast];refine⟨fun g2=>Lg ?_,fun g2=>Lg ?_⟩
  ·have hgt:a<(r+2^k)*(r+2^k):=by
    unfold ef at g2
    generalize(r+2^k)*(r+2^k)=m at g2⊢
    (repeat' split at g2)<;>omega
   simp only[vx,T,seval,ZV,v1,v2,v3,v4,k6,k7,k8,hdl,Int.toNat_natCast];refine⟨⟨by omega,by omega⟩,by omega,⟨by omega,by omega⟩,Lq ⟨(k,r),hI.stay hgt⟩ ?_ (by show k<k+1;omega)⟩;refine Sa ?_;simp only[ry,seval,rz,ZV,ea]
  have hle2:(r+2^k)*(r+2^k)≤a:=by
   unfold ef at g2
   generalize(r+2^k)*(r+2^k)=m at g2⊢
   (repeat' split at g2)<;>omega
  simp only[vx,T,seval,ZV,v1,v2,v3,v4,hdl,Int.toNat_natCast];refine Lq ⟨(k,r+2^k),hI.up hle2⟩ ?_ (by show k<k+1;omega);refine Sa ?_;simp only[ry,seval,rz,ZV,ea]
 have hi0:i=0:=by omega
 subst hi0;have hr:=hI.done;simp only at hr;have hdr:=aK K r;have hrK:r<BB^K:=by
  have:=hI.lt
  simp only at this;omega
 have sg:=pk false (iq K r) (gj _ _) (by rw[hdr];omega);rw[jX,Nat.mod_eq_of_lt hrK,Bool.false_and]at sg;have tk:=dy K r;have e7:zs ((cq z.natAbs:Nat):Int)=false:=dD.2 (by omega);have e8:zm ((cq z.natAbs:Nat):Int)=ak r:=by rw[hr,ha];rfl
 simp only[vx,T,seval,ZV,hdr,tk];refine Cg sg ?_;simp only[vx,T,seval,ZV,e7,e8];exact Ve rfl
open Go Go.Eng
theorem ne_false_iff {z w:Int}(h:zs z≠zs w∨zn z≠zn w):decide (z=w)=false:=by
 refine decide_eq_false ?_;rintro rfl
 rcases h with h|h<;>exact h rfl
theorem gP (z w:Int)(hz:zn z<2^40)(hw:zn w<2^40):Pr Tryz.prog 108 [ZV z,ZV w] (.one (.bool (decide (z=w)))):=by
 refine pw Tryz.func108 ⟨[0,1,2,3,4,5,19,24,37],[]⟩ ?_;simp only[Tryz.f108,Tryz.ntmps108,iz,seval];simp only[vx,T,seval,ZV];refine⟨fun h1=>Lg ?_,fun h1=>Lg ?_⟩
 ·have hb:=ne_false_iff (z:=z) (w:=w) (.inl (by simpa using h1));simp only[vx,T,seval,ZV];exact vb hb.symm
 have h1:zs z=zs w:=by simpa using h1
 simp only[vx,T,seval,ZV];refine⟨fun h2=>Lg ?_,fun h2=>Lg ?_⟩
 ·rw[aN,aN]at h2;have hb:=ne_false_iff (z:=z) (w:=w) (.inr (by omega));simp only[vx,T,seval,ZV];exact vb hb.symm
 rw[aN,aN]at h2;have h2':zn z=zn w:=by omega
 simp only[vx,T,seval,ZV];refine Lk (fun y:{i:Nat//i≤zn z∧z.natAbs%BB^i=w.natAbs%BB^i}=>⟨[(2,.one (.ptr 1 0)),(3,.one (.ptr 2 0)),(4,.one (.bool false)),(5,.one (.int .i64 y.1))],[(1,⟨.var [.bool (zs z),.ints .u32 (zm z)],true⟩),(2,⟨.var [.bool (zs w),.ints .u32 (zm w)],true⟩)],3,38⟩) (fun y=>zn z-y.1) ⟨0,by omega,by rw[Nat.pow_zero,Nat.mod_one,Nat.mod_one]⟩ ?_ (fun⟨i,hi,he⟩=>?_)
 ·refine Sa ?_;simp only[ry,seval,rz]
 simp only[vx,T,seval,aN];refine⟨fun h3=>Lg ?_,fun h3=>Lg ?_⟩
 ·have g1:(zm z).getD i 0=((z.natAbs/BB^i%BB:Nat):Int):=lG _ _;have g2:(zm w).getD i 0=((w.natAbs/BB^i%BB:Nat):Int):=lG _ _;have i1:=wI i (by omega);simp only[vx,T,seval,aN];simp only[Int.toNat_natCast,g1,g2];refine⟨by omega,by omega,?_⟩;refine⟨fun h4=>Lg ?_,fun h4=>Lg ?_⟩
  ·have hb:decide (z=w)=false:=decide_eq_false (by rintro rfl;exact h4 rfl);simp only[vx,T,seval,ZV];exact vb hb.symm
  simp only[vx,T,seval,ZV];simp only[i1];refine Lq ⟨i+1,by omega,?_⟩ ?_ ?_
  ·rw[kN,kN,he,show z.natAbs/BB^i%BB=w.natAbs/BB^i%BB by omega]
  ·refine Sa ?_;simp only[ry,seval,rz,ZV]
  simp only;omega
 simp only[vx,T,seval,ZV];have hi':i=zn z:=by omega
 refine vb (decide_eq_true ?_).symm;have e1:z.natAbs%BB^i=z.natAbs:=Nat.mod_eq_of_lt (by rw[hi'];exact b7 _);have e2:w.natAbs%BB^i=w.natAbs:=Nat.mod_eq_of_lt (by rw[hi',h2'];exact b7 _);rw[e1,e2]at he;rw[←bM z,←bM w,h1,he]
theorem yZ (a b:Rat)(ha:qm a<2^38)(hb:qm b<2^38):Pr Tryz.prog 68 [QV a,QV b] (.one (.bool (decide (a=b)))):=by
 have n1:=ay a.den;have n2:=ay b.den;unfold qm at ha hb;refine pw Tryz.func68 ⟨[0,1,2,3,4],[]⟩ ?_;simp only[Tryz.f68,Tryz.ntmps68,iz,seval];simp only[vx,T,seval,QV,QC];refine Cg (gP a.num b.num (by omega) (by omega)) ?_;simp only[vx,T,seval,ZV];refine⟨fun h1=>Lg ?_,fun h1=>Lg ?_⟩
 ·simp only[vx,T,seval,ZV];refine Cg (gP a.den b.den (by omega) (by omega)) ?_;simp only[vx,T,seval,ZV];refine vb (decide_eq_decide.2 ?_);exact⟨fun h=>Rat.ext h1 (by omega),fun h=>by rw[h]⟩
 simp only[vx,T,seval,ZV];refine vb (decide_eq_false ?_).symm;rintro rfl;exact h1 rfl
end Go.Proofs.YtgalhjhdgkoemaaGreat
/-
  THE ENGINE, PART ZA: arguments that stand for the same.
-/
namespace Go.Eng
open Go
def yP (x y:V):Prop:=∀ok w v,dM bz bH ok w x v→dM bz bH ok w y v
theorem yP.refl (x:V):yP x x:=fun _ _ _ h=>h
def Az:List V→List V→Prop
 |[],[]=>True
 |x::xs,y::ys=>yP x y∧Az xs ys
 |_,_=>False
theorem Az.rep {ok:Nat→Prop}{w:World}:∀{xs ys:List V} {vs:List Value},Az xs ys→a8 bz bH ok w xs vs→a8 bz bH ok w ys vs
 |[],[],_,_,h=>h
 |x::xs,y::ys,[],_,h=>h.elim
 |x::xs,y::ys,v::vs,ha,h=>⟨ha.1 ok w v h.1,Az.rep ha.2 h.2⟩
 |[],_::_,_,ha,_=>ha.elim
 |_::_,[],_,ha,_=>ha.elim
theorem Pr.args {P:Program}{f:FuncId}{xs ys:List V}{r:V}(h:Pr P f ys r)(ha:Az xs ys):Pr P f xs r:=
 ⟨h.1,fun ok w vs hok hvs=>h.2 ok w vs hok (ha.rep hvs)⟩
def dg (c c':C):Prop:=∀ok w v,aM ok w c v→aM ok w c' v
theorem dg.refl (c:C):dg c c:=fun _ _ _ h=>h
theorem dg.of_eq {c c':C}(h:c=c'):dg c c':=h▸dg.refl c
theorem dg.qp (k:IntKind):dg .nil (.ints k []):=fun ok w v h=>⟨none,0,h,Nat.le_refl _,.inl rfl⟩
theorem dg.pJ (wd:Nat)(f:Nat→Nat→C):dg .nil (.rows wd 0 f):=fun ok w v h=>⟨none,0,h,Nat.le_refl _,.inl rfl⟩
theorem dg.rows {wd n n':Nat}{f g:Nat→Nat→C}(hn:n=n')(h:∀i j,i<n→j<wd→dg (f i j) (g i j)):dg (.rows wd n f) (.rows wd n' g):=by
 subst hn;rintro ok w v ⟨a,cap,hv,hle,hr⟩;refine⟨a,cap,hv,hle,?_⟩
 rcases hr with hr|⟨b,o,ha,hg,hcs⟩
 ·exact .inl hr
 refine .inr ⟨b,o,ha,hg,fun i j hi hj=>?_⟩;obtain⟨u,hu,hr⟩:=hcs i j hi hj;exact⟨u,hu,h i j hi hj ok w u hr⟩
theorem yP.cell {c c':C}(h:dg c c'):yP (.one c) (.one c'):=fun ok w v hr=>aW.bw (h ok w v (aM.dI hr))
theorem Pr.HG {P:Program}{f:FuncId}{x y:C}{r:V}(h:Pr P f [.one y] r)(ha:dg x y):Pr P f [.one x] r:=
 h.args ⟨.cell ha,trivial⟩
theorem Pr.Md {P:Program}{f:FuncId}{x y x' y':C}{r:V}(h:Pr P f [.one y,.one y'] r)(ha:dg x y)(ha':dg x' y'):Pr P f [.one x,.one x'] r:=
 h.args ⟨.cell ha,.cell ha',trivial⟩
theorem Pr.res {P:Program}{f:FuncId}{xs:List V}{r r':V}(h:Pr P f xs r)(hr:jJ r r'):Pr P f xs r':=
 ⟨h.1,fun ok w vs hok hvs=>Calls.mono (h.2 ok w vs hok hvs) fun _ _ ⟨v,he,hb,hv⟩=>⟨v,he,hb,hr _ _ _ hv⟩⟩
end Go.Eng
namespace Go.Proofs.YtgalhjhdgkoemaaGreat
open Go Go.Eng
def qC (q:Rat):Nat→C
 |0=>.bool (zs q.num)
 |1=>.ints .u32 (zm q.num)
 |2=>.bool (zs (q.den:Int))
 |3=>.ints .u32 (zm (q.den:Int))
 |_=>.any
def ag (l:List Rat):C:=.rows 4 l.length (fun i=>qC (l.getD i default))
def tC (h:Nat)(t:List (List Rat)):C:=.rows 1 h (fun i _=>ag (t.getD i []))
def tV (h:Nat)(t:List (List Rat)):V:=.one (tC h t)
def eV (a:List Rat):V:=.one (ag a)
end Go.Proofs.YtgalhjhdgkoemaaGreat
/-
  THE REAL NUMBERS: Cauchy sequences of rational numbers; a ring with an order, inverses and square roots.
-/
namespace Go.Re
def Nr (x e:Rat):Prop:= -e<x∧x<e
theorem Nr.mono {x e f:Rat}(h:Nr x e)(hf:e≤f):Nr x f:=by unfold Nr at*;grind
theorem Nr.add {x y e f:Rat}(h:Nr x e)(k:Nr y f):Nr (x+y) (e+f):=by unfold Nr at*;grind
theorem Nr.neg {x e:Rat}(h:Nr x e):Nr (-x) e:=by unfold Nr at*;grind
theorem Nr.sub {x y e f:Rat}(h:Nr x e)(k:Nr y f):Nr (x-y) (e+f):=by unfold Nr at*;grind
theorem Nr.symm {x y e:Rat}(h:Nr (x-y) e):Nr (y-x) e:=by unfold Nr at*;grind
theorem Nr.mul {x y e f:Rat}(h:Nr x e)(k:Nr y f):Nr (x*y) (e*f):=by
 unfold Nr at*
 have a:=Rat.mul_pos (a:=e-x) (b:=f-y) (by grind) (by grind);have b:=Rat.mul_pos (a:=e+x) (b:=f+y) (by grind) (by grind);have c:=Rat.mul_pos (a:=e-x) (b:=f+y) (by grind) (by grind);have d:=Rat.mul_pos (a:=e+x) (b:=f-y) (by grind) (by grind)
 constructor<;>grind
theorem bQ {e:Rat}(h:0<e):0<e/2:=by grind
theorem div_pos {a b:Rat}(h:0<a)(k:0<b):0<a/b:=by
 rw[Rat.div_def];exact Rat.mul_pos h (Rat.inv_pos.2 k)
theorem div_mul {a b:Rat}(k:0<b):a/b*b=a:=by
 have:b≠0:=by grind
 grind
structure Sq where
 s:Nat→Rat
 h:∀e,0<e→∃N,∀m n,N≤m→N≤n→Nr (s m-s n) e
def eqv (a b:Sq):Prop:=∀e,0<e→∃N,∀n,N≤n→Nr (a.s n-b.s n) e
theorem eqv.refl (a:Sq):eqv a a:=fun e he=>⟨0,fun n _=>by unfold Nr;grind⟩
theorem eqv.symm {a b:Sq}(h:eqv a b):eqv b a:=fun e he=>by
 obtain⟨N,hN⟩:=h e he;exact⟨N,fun n hn=>(hN n hn).symm⟩
theorem eqv.trans {a b c:Sq}(h:eqv a b)(k:eqv b c):eqv a c:=fun e he=>by
 obtain⟨N,hN⟩:=h (e/2) (bQ he);obtain⟨M,hM⟩:=k (e/2) (bQ he);refine⟨max N M,fun n hn=>?_⟩;have h1:=hN n (by omega);have h2:=hM n (by omega);unfold Nr at*;grind
instance st:Setoid Sq:=⟨eqv,eqv.refl,eqv.symm,eqv.trans⟩
theorem Sq.u6 (a:Sq):∃B,0<B∧∀n,Nr (a.s n) B:=by
 obtain⟨N,hN⟩:=a.h 1 (by decide);have key:∀k,∃B,0<B∧∀n,n<k→Nr (a.s n) B:=by
  intro k
  induction k with
  |zero=>exact⟨1,by decide,fun n h=>absurd h (Nat.not_lt_zero _)⟩
  |succ k ih=>
   obtain⟨B,h0,hB⟩:=ih
   by_cases hp:0≤a.s k
   ·refine⟨B+a.s k+1,by grind,fun n hn=>?_⟩
    by_cases hk:n=k
    ·subst hk;unfold Nr;grind
    exact(hB n (by omega)).mono (by grind)
   refine⟨B-a.s k+1,by grind,fun n hn=>?_⟩
   by_cases hk:n=k
   ·subst hk;unfold Nr;grind
   exact(hB n (by omega)).mono (by grind)
 obtain⟨B,h0,hB⟩:=key (N+1);refine⟨B+1,by grind,fun n=>?_⟩
 by_cases hn:n<N+1
 ·exact(hB n hn).mono (by grind)
 have h1:=hN n N (by omega) (Nat.le_refl _);have h2:=hB N (by omega);unfold Nr at*;grind
def Sq.const (q:Rat):Sq:=⟨fun _=>q,fun e he=>⟨0,fun m n _ _=>by unfold Nr;grind⟩⟩
def Sq.add (a b:Sq):Sq:=⟨fun n=>a.s n+b.s n,fun e he=>by
 obtain⟨N,hN⟩:=a.h (e/2) (bQ he);obtain⟨M,hM⟩:=b.h (e/2) (bQ he);refine⟨max N M,fun m n hm hn=>?_⟩;have h1:=hN m n (by omega) (by omega);have h2:=hM m n (by omega) (by omega);unfold Nr at*;grind⟩
def Sq.neg (a:Sq):Sq:=⟨fun n=> -a.s n,fun e he=>by
 obtain⟨N,hN⟩:=a.h e he;refine⟨N,fun m n hm hn=>?_⟩;have h1:=hN m n hm hn;unfold Nr at*;grind⟩
theorem L3 {a b a' b' A B e:Rat}(hA:0<A)(hB:0<B)(he:0<e)(h1:Nr a A)(h2:Nr b' B)(h3:Nr (a-a') (e/2/B))(h4:Nr (b-b') (e/2/A)):Nr (a*b-a'*b') e:=by
 have k1:=h1.mul h4;have k2:=h3.mul h2;rw[div_mul hB]at k2;rw[Rat.mul_comm A,div_mul hA]at k1
 have:=k1.add k2
 unfold Nr at*;grind
def Sq.mul (a b:Sq):Sq:=⟨fun n=>a.s n*b.s n,fun e he=>by
 obtain⟨A,hA,ha⟩:=a.u6;obtain⟨B,hB,hb⟩:=b.u6;obtain⟨N,hN⟩:=a.h (e/2/B) (div_pos (bQ he) hB);obtain⟨M,hM⟩:=b.h (e/2/A) (div_pos (bQ he) hA);exact⟨max N M,fun m n hm hn=>L3 hA hB he (ha m) (hb n) (hN m n (by omega) (by omega)) (hM m n (by omega) (by omega))⟩⟩
theorem JC {a b c d:Sq}(h:eqv a c)(k:eqv b d):eqv (a.add b) (c.add d):=fun e he=>by
 obtain⟨N,hN⟩:=h (e/2) (bQ he);obtain⟨M,hM⟩:=k (e/2) (bQ he);refine⟨max N M,fun n hn=>?_⟩;have h1:=hN n (by omega);have h2:=hM n (by omega);show Nr (a.s n+b.s n-(c.s n+d.s n)) e;unfold Nr at*;grind
theorem Jy {a c:Sq}(h:eqv a c):eqv a.neg c.neg:=fun e he=>by
 obtain⟨N,hN⟩:=h e he;refine⟨N,fun n hn=>?_⟩;have h1:=hN n (by omega);show Nr (-a.s n- -c.s n) e;unfold Nr at*;grind
theorem Ln {a b c d:Sq}(h:eqv a c)(k:eqv b d):eqv (a.mul b) (c.mul d):=fun e he=>by
 obtain⟨A,hA,ha⟩:=a.u6;obtain⟨B,hB,hb⟩:=d.u6;obtain⟨N,hN⟩:=h (e/2/B) (div_pos (bQ he) hB);obtain⟨M,hM⟩:=k (e/2/A) (div_pos (bQ he) hA);exact⟨max N M,fun n hn=>L3 hA hB he (ha n) (hb n) (hN n (by omega)) (hM n (by omega))⟩
def Sq.pos (a:Sq):Prop:=∃e,0<e∧∃N,∀n,N≤n→e<a.s n
theorem Di {a b:Sq}(h:eqv a b)(k:a.pos):b.pos:=by
 obtain⟨e,he,N,hN⟩:=k;obtain⟨M,hM⟩:=h (e/2) (bQ he);refine⟨e/2,bQ he,max N M,fun n hn=>?_⟩;have h1:=hN n (by omega);have h2:=hM n (by omega);unfold Nr at h2;grind
end Go.Re
def Go.R:Type:=Quotient Go.Re.st
namespace Go.R
open Go.Re
def mk (a:Sq):R:=Quotient.mk st a
theorem ind {p:R→Prop}(h:∀a,p (mk a))(x:R):p x:=Quotient.ind h x
theorem sound {a b:Sq}(h:eqv a b):mk a=mk b:=Quotient.sound (s:=st) h
theorem exact {a b:Sq}(h:mk a=mk b):eqv a b:=Quotient.exact (s:=st) h
theorem pt {a b:Sq}(h:∀n,a.s n=b.s n):mk a=mk b:=sound fun e he=>⟨0,fun n _=>by rw[h n];unfold Nr;grind⟩
def q (x:Rat):R:=mk (Sq.const x)
instance:Add R:=⟨Quotient.lift₂ (s₁:=st) (s₂:=st) (fun a b=>mk (a.add b)) fun _ _ _ _ h k=>sound (JC h k)⟩
instance:Mul R:=⟨Quotient.lift₂ (s₁:=st) (s₂:=st) (fun a b=>mk (a.mul b)) fun _ _ _ _ h k=>sound (Ln h k)⟩
instance:Neg R:=⟨Quotient.lift (s:=st) (fun a=>mk a.neg) fun _ _ h=>sound (Jy h)⟩
instance:Sub R:=⟨fun a b=>a+ -b⟩
def pos (x:R):Prop:=Quotient.lift (s:=st) Sq.pos (fun _ _ h=>propext ⟨Di h,Di (eqv.symm h)⟩) x
theorem sub_def (x y:R):x-y=x+ -y:=rfl
end Go.R
namespace Go.R
open Go.Re
theorem add_comm (x y:R):x+y=y+x:=by
 induction x using ind with|h a=>induction y using ind with|h b=>
 exact pt fun n=>Rat.add_comm _ _
theorem add_assoc (x y z:R):x+y+z=x+(y+z):=by
 induction x using ind with|h a=>induction y using ind with|h b=>induction z using ind with|h c=>
 exact pt fun n=>Rat.add_assoc _ _ _
theorem mul_comm (x y:R):x*y=y*x:=by
 induction x using ind with|h a=>induction y using ind with|h b=>
 exact pt fun n=>Rat.mul_comm _ _
theorem mul_assoc (x y z:R):x*y*z=x*(y*z):=by
 induction x using ind with|h a=>induction y using ind with|h b=>induction z using ind with|h c=>
 exact pt fun n=>Rat.mul_assoc _ _ _
theorem mul_add (x y z:R):x*(y+z)=x*y+x*z:=by
 induction x using ind with|h a=>induction y using ind with|h b=>induction z using ind with|h c=>
 exact pt fun n=>Rat.mul_add _ _ _
theorem add_mul (x y z:R):(x+y)*z=x*z+y*z:=by rw[mul_comm,mul_add,mul_comm z,mul_comm z]
theorem add_zero (x:R):x+q 0=x:=by
 induction x using ind with|h a=>exact pt fun n=>Rat.add_zero _
theorem zero_add (x:R):q 0+x=x:=by rw[add_comm,add_zero]
theorem mul_one (x:R):x*q 1=x:=by
 induction x using ind with|h a=>exact pt fun n=>Rat.mul_one _
theorem one_mul (x:R):q 1*x=x:=by rw[mul_comm,mul_one]
theorem mul_zero (x:R):x*q 0=q 0:=by
 induction x using ind with|h a=>exact pt fun n=>Rat.mul_zero _
theorem zero_mul (x:R):q 0*x=q 0:=by rw[mul_comm,mul_zero]
theorem add_neg (x:R):x+ -x=q 0:=by
 induction x using ind with|h a=>exact pt fun n=>Rat.add_neg_cancel _
theorem sub_self (x:R):x-x=q 0:=add_neg x
theorem neg_add (x:R): -x+x=q 0:=by rw[add_comm,add_neg]
theorem neg_mul (x y:R): -x*y= -(x*y):=by
 induction x using ind with|h a=>induction y using ind with|h b=>
 exact pt fun n=>Rat.neg_mul _ _
theorem mul_neg (x y:R):x* -y= -(x*y):=by rw[mul_comm,neg_mul,mul_comm]
theorem neg_neg (x:R): - -x=x:=by
 induction x using ind with|h a=>exact pt fun n=>Rat.neg_neg _
theorem wh (x y:Rat):q (x+y)=q x+q y:=pt fun _=>rfl
theorem eE (x y:Rat):q (x*y)=q x*q y:=pt fun _=>rfl
theorem C9 (x:Rat):q (-x)= -q x:=pt fun _=>rfl
theorem kj: -q 0=q 0:=pt fun _=>rfl
theorem rT (x y:R): -(x+y)= -x+ -y:=by
 induction x using ind with|h a=>induction y using ind with|h b=>
 exact pt fun n=>Rat.neg_add
theorem jd {x y:R}(h:x-y=q 0):x=y:=by
 have:x-y+y=y:=by rw[h,zero_add]
 rw[sub_def,add_assoc,neg_add,add_zero]at this;exact this
theorem wM {x:Rat}:pos (q x)↔0<x:=by
 constructor
 ·rintro⟨e,he,N,hN⟩
  have:e<x:=hN N (Nat.le_refl _)
  grind
 intro h;exact⟨x/2,bQ h,0,fun n _=>by show x/2<x;grind⟩
theorem o5 {x y:R}:pos x→pos y→pos (x+y):=by
 induction x using ind with|h a=>induction y using ind with|h b=>
 rintro⟨e,he,N,hN⟩ ⟨f,hf,M,hM⟩;refine⟨e+f,by grind,max N M,fun n hn=>?_⟩;have h1:=hN n (by omega);have h2:=hM n (by omega);show e+f<a.s n+b.s n
 grind
theorem dB {x y:R}:pos x→pos y→pos (x*y):=by
 induction x using ind with|h a=>induction y using ind with|h b=>
 rintro⟨e,he,N,hN⟩ ⟨f,hf,M,hM⟩;refine⟨e*f,Rat.mul_pos he hf,max N M,fun n hn=>?_⟩;have h1:=hN n (by omega);have h2:=hM n (by omega);show e*f<a.s n*b.s n;have h3:=Rat.mul_pos (a:=a.s n-e) (b:=f) (by grind) hf;have h4:=Rat.mul_pos (a:=a.s n) (b:=b.s n-f) (by grind) (by grind)
 grind
theorem kD:¬pos (q 0):=fun h=>absurd (wM.1 h) (by decide)
theorem Dv {x:R}(h:pos x)(k:pos (-x)):False:=by
 have:=o5 h k
 rw[add_neg]at this;exact kD this
theorem NS (x:R):x=q 0∨pos x∨pos (-x):=by
 induction x using ind with|h a=>
 by_cases h:a.pos
 ·exact .inr (.inl h)
 by_cases k:a.neg.pos
 ·exact .inr (.inr k)
 refine .inl (sound fun e he=>?_);obtain⟨N,hN⟩:=a.h (e/2) (bQ he);have h1:∃n,N≤n∧¬e/2<a.s n:=Classical.byContradiction fun hh=>h ⟨e/2,bQ he,N,fun n hn=>Classical.byContradiction fun h2=>hh ⟨n,hn,h2⟩⟩;have k1:∃n,N≤n∧¬e/2< -a.s n:=Classical.byContradiction fun hh=>k ⟨e/2,bQ he,N,fun n hn=>Classical.byContradiction fun h2=>hh ⟨n,hn,h2⟩⟩;obtain⟨m,hm,h1⟩:=h1;obtain⟨l,hl,k1⟩:=k1;refine⟨N,fun n hn=>?_⟩;have h2:=hN n m hn hm;have k2:=hN n l hn hl;show Nr (a.s n-0) e;unfold Nr at*;grind
theorem mr {x:R}(h:pos x):x≠q 0:=fun e=>by subst e;exact kD h
theorem A5 {x:R}(h:pos (-x)):x≠q 0:=fun e=>by subst e;rw[kj]at h;exact kD h
theorem qA {x y:R}(hx:x≠q 0)(hy:y≠q 0):x*y≠q 0:=by
 rcases(NS x).resolve_left hx with h|h<;>rcases(NS y).resolve_left hy with k|k
 ·exact mr (dB h k)
 ·refine A5 ?_;rw[←mul_neg];exact dB h k
 ·refine A5 ?_;rw[←neg_mul];exact dB h k
 refine mr ?_
 have:=dB h k
 rwa [neg_mul,mul_neg,neg_neg]at this
theorem iU {x y:R}(h:x*y=q 0):x=q 0∨y=q 0:=by
 by_cases hx:x=q 0
 ·exact .inl hx
 exact .inr (Classical.byContradiction fun hy=>qA hx hy h)
theorem qq {x y:Rat}(h:q x=q y):x=y:=by
 have h0:q (x-y)=q 0:=by rw[show x-y=x+ -y by grind,wh,C9,h,add_neg]
 have h1:¬0<x-y:=fun hp=>mr (wM.2 hp) h0;have h2:¬0< -(x-y):=fun hp=>A5 (x:=q (x-y)) (by rw[←C9];exact wM.2 hp) h0
 grind
theorem uT {x y z:R}(h:x*z=y*z)(hz:z≠q 0):x=y:=by
 refine jd ((iU (y:=z) ?_).resolve_right hz);rw[sub_def,add_mul,neg_mul,h,add_neg]
theorem zk {x:R}:pos x→∃y,x*y=q 1:=by
 induction x using ind with|h a=>
 rintro⟨e,he,N,hN⟩;have hne:∀n,N≤n→a.s n≠0:=fun n hn=>by have:=hN n hn;grind
 let b:Sq:=⟨fun n=>(a.s (max n N))⁻¹,fun f hf=>by
  obtain⟨M,hM⟩:=a.h (f*(e*e)) (Rat.mul_pos hf (Rat.mul_pos he he));refine⟨M,fun m n hm hn=>?_⟩;have h1:=hM (max m N) (max n N) (by omega) (by omega);have a1:=hN (max m N) (by omega);have a2:=hN (max n N) (by omega)
  revert h1 a1 a2
  generalize a.s (max m N)=u
  generalize a.s (max n N)=v
  intro h1 hu hv;have u0:0<u:=by grind
  have v0:0<v:=by grind
  have h2:u⁻¹-v⁻¹=(v-u)*(u⁻¹*v⁻¹):=by
   have:u≠0:=by grind
   have:v≠0:=by grind
   grind
  have p:=Rat.mul_pos (Rat.inv_pos.2 u0) (Rat.inv_pos.2 v0);have huv:e*e<u*v:=by
   have h3:=Rat.mul_pos (a:=u-e) (b:=e) (by grind) he;have h4:=Rat.mul_pos (a:=u) (b:=v-e) (by grind) (by grind)
   grind
  have huv1:u*v*(u⁻¹*v⁻¹)=1:=by
   have:u≠0:=by grind
   have:v≠0:=by grind
   grind
  rw[h2]
  revert p huv1
  generalize u⁻¹*v⁻¹=w
  intro p huv1;unfold Nr at*
  have k1:=Rat.mul_pos (a:=f*(e*e)-(v-u)) (b:=w) (by grind) p;have k2:=Rat.mul_pos (a:=f*(e*e)+(v-u)) (b:=w) (by grind) p;have k3:=Rat.mul_pos (a:=f*(u*v-e*e)) (b:=w) (Rat.mul_pos hf (by grind)) p;have k4:f*(u*v)*w=f:=by rw[Rat.mul_assoc,huv1,Rat.mul_one]
  grind⟩
 refine⟨mk b,sound fun f hf=>⟨N,fun n hn=>?_⟩⟩;have h1:a.s n*(a.s (max n N))⁻¹=1:=by
  rw[Nat.max_eq_left hn,Rat.mul_inv_cancel _ (hne n hn)]
 show Nr (a.s n*(a.s (max n N))⁻¹-1) f;rw[h1];unfold Nr;grind
theorem inv {x:R}(h:x≠q 0):∃y,x*y=q 1:=by
 rcases(NS x).resolve_left h with h|h
 ·exact zk h
 obtain⟨y,hy⟩:=zk h;exact⟨-y,by rw[mul_neg,←neg_mul,hy]⟩
def nn (x:R):Prop:=¬pos (-x)
theorem bG {x:R}:nn x↔x=q 0∨pos x:=by
 constructor
 ·intro h
  rcases NS x with k|k|k
  ·exact .inl k
  ·exact .inr k
  exact absurd k h
 rintro(rfl|h) k
 ·rw[kj]at k;exact kD k
 exact Dv h k
theorem Fy (b:Rat)(hb:0≤b)(d:Rat)(hd:0<d):∃s:Rat,0≤s∧s*s≤b∧b<(s+d)*(s+d):=by
 have key:∀k:Nat,b<(k*d)*(k*d)→∃s:Rat,0≤s∧s*s≤b∧b<(s+d)*(s+d):=by
  intro k
  induction k with
  |zero=>intro h;exfalso;simp at h;grind
  |succ k ih=>
   intro h
   by_cases hk:b<(k*d)*(k*d)
   ·exact ih hk
   refine⟨k*d,Rat.mul_nonneg (by simp[Rat.natCast_nonneg]) (by grind),by grind,?_⟩;have e:((k+1:Nat):Rat)*d=k*d+d:=by rw[Rat.natCast_add];grind
   rw[e]at h;exact h
 obtain⟨k,hk⟩:∃k:Nat,b/(d*d)+1<(k:Rat):=by
  refine⟨(b/(d*d)+1).ceil.toNat+1,?_⟩;have h1:=Rat.le_ceil (x:=b/(d*d)+1);have h2:((b/(d*d)+1).ceil:Rat)≤(((b/(d*d)+1).ceil.toNat:Nat):Rat):=by
   rw[←Rat.intCast_natCast,Rat.intCast_le_intCast];exact Int.self_le_toNat _
  rw[Rat.natCast_add]
  grind
 refine key k ?_;have hdd:=Rat.mul_pos hd hd;have h0:0≤b/(d*d):=by rw[Rat.div_def];exact Rat.mul_nonneg hb (Rat.le_of_lt (Rat.inv_pos.2 hdd))
 have e1:b/(d*d)*(d*d)=b:=div_mul hdd;have k1:(1:Rat)<k:=by grind
 have h2:=Rat.mul_pos (a:=(k:Rat)-b/(d*d)) (b:=d*d) (by grind) hdd;have h3:=Rat.mul_pos (a:=(k:Rat)*((k:Rat)-1)) (b:=d*d) (Rat.mul_pos (by grind) (by grind)) hdd
 grind
theorem M6 (e:Rat)(he:0<e):∃N:Nat,∀n,N≤n→(1:Rat)/((n:Rat)+1)<e:=by
 refine⟨(1/e).ceil.toNat,fun n hn=>?_⟩;have h1:=Rat.le_ceil (x:=1/e);have h2:((1/e).ceil:Rat)≤(n:Rat):=by
  rw[←Rat.intCast_natCast,Rat.intCast_le_intCast];omega
 have h3:1/e<(n:Rat)+1:=by grind
 have e0:e≠0:=by grind
 have hpe:=div_pos (a:=1) (by decide) he;have n0:0<(n:Rat)+1:=by grind
 have h4:=Rat.mul_pos (a:=(n:Rat)+1-1/e) (b:=e) (by grind) he;have h5:1/e*e=1:=div_mul he;have h6:1<((n:Rat)+1)*e:=by grind
 have h7:=Rat.mul_pos (a:=((n:Rat)+1)*e-1) (b:=1/((n:Rat)+1)) (by grind) (div_pos (by decide) n0);have h8:1/((n:Rat)+1)*((n:Rat)+1)=1:=div_mul n0
 revert h7 h8
 generalize 1/((n:Rat)+1)=r
 generalize(n:Rat)+1=m
 intro h7 h8;have h9:(m*e-1)*r=r*m*e-r:=by grind
 rw[h9,h8]at h7
 grind
end Go.R
namespace Go.R
open Go.Re
theorem KO {a:Sq}(h:nn (mk a)){e:Rat}(he:0<e):∃N,∀n,N≤n→ -e<a.s n:=by
 rcases bG.1 h with h|h
 ·obtain⟨N,hN⟩:=exact (b:=Sq.const 0) h e he;refine⟨N,fun n hn=>?_⟩;have h1:Nr (a.s n-0) e:=hN n hn;unfold Nr at h1;grind
 obtain⟨f,hf,N,hN⟩:=h;refine⟨N,fun n hn=>?_⟩
 have:=hN n hn
 grind
theorem lY {x:R}(h:nn x):∃y,nn y∧y*y=x:=by
 induction x using ind with|h a=>
 let b:Nat→Rat:=fun n=>if 0≤a.s n then a.s n else 0
 have hb0:∀n,0≤b n:=fun n=>by show 0≤ite _ _ _;split<;>grind
 have dp:∀n:Nat,(0:Rat)<1/((n:Rat)+1):=fun n=>div_pos (by decide) (by have:(0:Rat)≤n:=Rat.natCast_nonneg;grind);obtain⟨s,hs⟩:=Classical.axiomOfChoice (r:=fun(n:Nat) (s:Rat)=>0≤s∧s*s≤b n∧b n<(s+1/((n:Rat)+1))*(s+1/((n:Rat)+1))) fun n=>Fy (b n) (hb0 n) _ (dp n);have hbc:∀m n (e:Rat),Nr (a.s m-a.s n) e→b m-b n<e:=by
  intro m n e h;unfold Nr at h
  show(ite _ _ _:Rat)-ite _ _ _<e
  split<;>split<;>grind
 have hc:∀e,0<e→∃N,∀m n,N≤m→N≤n→s m<s n+e:=by
  intro e he;obtain⟨N,hN⟩:=a.h (e*e/2) (bQ (Rat.mul_pos he he));obtain⟨M,hM⟩:=M6 (e/2) (bQ he);refine⟨max N M,fun m n hm hn=>?_⟩;have h1:=hbc m n _ (hN m n (by omega) (by omega));obtain⟨m1,m2,m3⟩:=hs m;obtain⟨n1,n2,n3⟩:=hs n;have hd:=hM n (by omega);have dn:=dp n
  revert hd dn n3
  generalize(1:Rat)/((n:Rat)+1)=d
  intro n3 hd dn;refine Rat.not_le.1 fun hh=>?_;have k1:=Rat.mul_nonneg (a:=s m-(s n+e)) (b:=s m+(s n+e)) (by grind) (by grind);have k2:=Rat.mul_nonneg (a:=e/2-d) (b:=2*s n+d+e/2) (by grind) (by grind);have k3:=Rat.mul_nonneg (a:=s n) (b:=e) n1 (Rat.le_of_lt he);have k4:=Rat.mul_pos he he
  grind
 let y:Sq:=⟨s,fun e he=>by
  obtain⟨N,hN⟩:=hc e he;refine⟨N,fun m n hm hn=>?_⟩;have h1:=hN m n hm hn;have h2:=hN n m hn hm;unfold Nr;grind⟩
 refine⟨mk y,?_,?_⟩
 ·rintro⟨e,he,N,hN⟩;have h1:e< -s N:=hN N (Nat.le_refl _)
  have:=(hs N).1
  grind
 refine sound fun e he=>?_;obtain⟨B,hB,hy⟩:=y.u6;obtain⟨N,hN⟩:=KO h (bQ he);have hq:0<e/2/(2*B+1):=div_pos (bQ he) (by grind);obtain⟨M,hM⟩:=M6 (e/2/(2*B+1)) hq;obtain⟨L,hL⟩:=M6 1 (by decide);refine⟨max N (max M L),fun n hn=>?_⟩;obtain⟨n1,n2,n3⟩:=hs n;have hd:=hM n (by omega);have hl:=hL n (by omega);have dn:=dp n;have ha:=hN n (by omega);have hyn:Nr (s n) B:=hy n;have hb:a.s n≤b n∧b n<a.s n+e/2∨a.s n=b n:=by
  show a.s n≤ite _ _ _∧ite _ _ _<a.s n+e/2∨a.s n=ite _ _ _
  split<;>grind
 show Nr (s n*s n-a.s n) e
 revert hd dn n3 hl
 generalize(1:Rat)/((n:Rat)+1)=d
 intro n3 hd hl dn;have e1:e/2/(2*B+1)*(2*B+1)=e/2:=div_mul (by grind)
 revert e1 hd
 generalize e/2/(2*B+1)=g
 intro hd e1;unfold Nr at*
 have k1:=Rat.mul_nonneg (a:=g-d) (b:=2*B+1) (by grind) (by grind);have k2:=Rat.mul_nonneg (a:=d) (b:=B-s n) (by grind) (by grind);have k3:=Rat.mul_nonneg (a:=d) (b:=1-d) (by grind) (by grind)
 grind
noncomputable def sqrt (x:R):R:=open Classical in if h:nn x then Classical.choose (lY h)else q 0
theorem dU {x:R}(h:nn x):sqrt x*sqrt x=x:=by
 unfold sqrt;rw[dif_pos h];exact(Classical.choose_spec (lY h)).2
theorem C7 (x:R):nn (sqrt x):=by
 unfold sqrt
 split
 ·rename_i h;exact(Classical.choose_spec (lY h)).1
 exact bG.2 (.inl rfl)
end Go.R
