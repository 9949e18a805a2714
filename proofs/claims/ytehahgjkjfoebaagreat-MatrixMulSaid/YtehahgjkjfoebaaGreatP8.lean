/-
  MatrixMul: for every input the law returns true, and each argument reads afterwards as it read before. No condition.
  (Text 8 of 9; made by a program out of smaller texts.)
-/
import Derived.Test.YtehahgjkjfoebaaGreatP7
set_option linter.unusedSimpArgs false
set_option linter.unusedVariables false
set_option maxHeartbeats 16000000
set_option maxRecDepth 10000
open Nat renaming reduceAdd→J1,reduceMul→J2,reduceSub→J3,reduceEqDiff→J4,reduceLT→J5,reduceLeDiff→J6,reduceBEq→J7,reduceDiv→J8,reduceMod→J9,reducePow→J0
open Int renaming reduceToNat→K1,reduceLE→K2,reduceLT→K3,reduceEq→K4,reducePow→K5,reduceSub→K6,reduceNeg→K7,natCast_add→X2,natCast_one→X3,natCast_zero→X4
open List renaming getD_cons_zero→X0,getD_cons_succ→X1,length_take→X5,length_append→X6,getD_eq_getElem?_getD→X7,getElem?_eq_getElem→X8
open Nat renaming le_trans→O0,le_refl→O1,zero_le→O2,pow_le_pow_right→O3,pow_succ→O4,not_lt_zero→O5,mul_le_mul_right→O8
open Go.IntWalk renaming i64_in→Q4
namespace Go.Proofs.YtehahgjkjfoebaaGreat
open Go.Proofs.Tryz
open Go Go.Eng
open Go.Tw (El aC aH zE aj av au ar aa QB cM ai ah aO aJ tB aU aA cF mn kE iF val In Rd mv bp cA dF)
theorem Cc (a b:El)(hl:a.length+b.length<2^38):Pr prog 180 [eV a,eV b] (eV (a++b)):=by
 refine pw func180 ⟨[0,1,4],[]⟩ ?_;simp only[Tryz.f180,ntmps180,iz,seval];simp only[vx,T,seval,eV,ag];refine⟨⟨by omega,by omega⟩,⟨by omega,by omega⟩,fR.cell (dH.rows List.length_append.symm fun i j hi hj=>.of_eq ?_)⟩;have e:=lK a b i j;unfold fQ at e;rw[if_neg (O5 _),Nat.sub_zero];exact e
theorem FK {t:List El}{a:El}(ha:a.length=2^0)(hq:Qk a):LH 0 t a 136:=by
 obtain⟨x,rfl⟩:=Go.Tw.bw ha;have hx:qm x<2^38:=hq x (by simp);have c:=Ar x hx
 cases h:A7 x with
 |some r=>
  rw[h]at c;refine .inl ⟨[r],rfl,?_,?_⟩
  ·show R.q r*R.q r=R.q x;rw[←R.dg,(qE h).1]
  refine pw func136 ⟨[0,1,4,5,6,7,8,9,10,11,12,13,14,15,16,17,19,20,21,22,23,24,25,26,27,28,32,46,70,77,96,120,125,140],[(7,.nil),(9,.nil)]⟩ ?_;simp only[Tryz.f136,ntmps136,iz,seval];simp only[vx,T,seval,QV,QC,tV,tC,eV,ag,qC,X0];refine Cg c ?_;simp only[vx,T,seval,QV,QC,tV,tC,eV,ag,qC,X0];refine fR.aB ⟨.cell (.rows rfl fun i j hi _=>.of_eq ?_),.refl _,trivial⟩;obtain rfl:i=0:=by omega
  rw[Nat.zero_mul,Nat.zero_add];exact dD r rfl j
 |none=>
  rw[h]at c;refine .inr ⟨?_,[fun j=>[C.bool false,.nil,.bool false,.nil].getD j .any],O1 _,?_⟩
  ·rintro z ⟨b,hb,rfl⟩ e;obtain⟨y,rfl⟩:=Go.Tw.bw hb;have e:R.q y*R.q y=R.q x:=e;rw[←R.dg]at e;exact Am h y (R.j3 e)
  refine pw func136 ⟨[0,1,4,5,6,7,8,9,10,11,12,13,14,15,16,17,19,20,21,22,23,24,25,26,27,28,32,46,70,77,96,120,125,140],[(7,.nil),(9,.nil)]⟩ ?_;simp only[Tryz.f136,ntmps136,iz,seval];simp only[vx,T,seval,QV,QC,tV,tC,eV,ag,qC,X0];refine Cg c ?_;simp only[vx,T,seval,QV,QC,tV,tC,eV,ag,qC,X0];refine fR.aB ⟨.cell (.rows rfl fun i j hi _=>.of_eq ?_),.refl _,trivial⟩;obtain rfl:i=0:=by omega
  rw[Nat.zero_mul,Nat.zero_add];rfl
theorem Qf {X h:Nat}(hX:X<2^37){t:List El}{a:El}(W:yb X (h+1) t)(ha:a.length=2^(h+1))(hs:iF X (h+1) t a)(UT:bp (h+1) t a<0):Pr prog 136 [tV (h+1) t,eV a] (.aB [.one .nil,.one (.bool false)]):=by
 have sg:=l7 hX W ha hs;obtain⟨sgn',V9⟩:∃s,s=bp (h+1) t a:=⟨_,rfl⟩;rw[←V9]at sg UT;refine pw func136 ⟨[0,1,4,5,6,7,8,9,10,11,12,13,14,15,16,17,19,20,21,22,23,24,25,26,27,28,32,46,70,77,96,120,125,140],[(7,.nil),(9,.nil)]⟩ ?_;simp only[Tryz.f136,ntmps136,iz,seval];simp only[vx,T,seval,tV,tC,eV,ag];refine⟨fun h=>absurd h (by omega),fun _=>Lg ?_⟩;simp only[vx,T,seval,tV,tC,eV,ag];refine Cg sg ?_;simp only[vx,T,seval,tV,tC,eV,ag];refine⟨fun _=>Lg ?_,fun h=>absurd UT h⟩;simp only[vx,T,seval,tV,tC,eV,ag];exact Ve rfl
theorem Ps {X h:Nat}(hX:X<2^37){t:List El}{a w:El}(W:yb X (h+1) t)(ha:a.length=2^(h+1))(hs:iF X (h+1) t a)(UT:¬bp (h+1) t a<0)(hv:a.drop (2^h)=zE (2^h))(hw:w.length=2^h)
  (c:Pr prog 136 [tV h t,eV (a.take (2^h))] (.aB [eV w,.one (.bool true)])):
  Pr prog 136 [tV (h+1) t,eV a] (.aB [eV (w++zE (2^h)),.one (.bool true)]):=by
 have W':=W.tq.le (Nat.le_succ h);have h3:=W.tq.h6;have hp:2^h≤64:=O3 (n:=2) (by decide) (show h≤6 by omega);have sg:=l7 hX W ha hs;have z:=jO (a.drop (2^h)) (by rw[ah ha];omega);have o0:=bc 0 (by decide) (by decide);have fz:=(dT (h:=h) (t:=t) (by omega) (Rat.ofInt 0)).rows;rw[CF]at fz;have lz:(zE (2^h)).length=2^h:=av;rw[decide_eq_true (by rw[ah ha];exact hv)]at z;have hn:(2^h:Nat)≤a.length:=by rw[ha,O4];omega
 have cT:=fF hn;have cD:=e9 (a:=a) (n:=2^h);have z:=z.args (xs:=[.one (ba a (2^h))]) ⟨.cell cD,trivial⟩;have k:=Cc w (zE (2^h)) (by rw[hw,lz];omega);have c:=c.args (xs:=[tV h t,.one (bg a (2^h))]) ⟨.refl _,.cell cT,trivial⟩;obtain⟨n,SY⟩:∃n,n=2^h:=⟨_,rfl⟩;have S9:a.length=2*n:=by rw[ha,O4,SY];omega
 have w1:IntKind.i64.wrap (((h+1:Nat):Int)-1)=(h:Int):=by rw[Q4 _ (by omega)];omega
 have hn8:n≤64:=by omega
 have w2:IntKind.i64.wrap (((a.length:Nat):Int).tdiv 2)=(n:Int):=by
  rw[S9,Int.tdiv_eq_ediv_of_nonneg (by omega),Q4 _ (by omega)];omega
 have w4:((a.length:Int)-(n:Int)).toNat=a.length-n:=by omega
 obtain⟨sgn',V9⟩:∃s,s=bp (h+1) t a:=⟨_,rfl⟩;obtain⟨r,SQ⟩:∃r,r=t.getD h []:=⟨_,rfl⟩;obtain⟨zn,Ut⟩:∃z,z=zE (2^h):=⟨_,rfl⟩;rw[←Ut]at fz lz;rw[←V9]at sg UT;rw[←Ut]at k⊢;rw[←SY]at z c hp lz hw;clear hv SY Ut cT cD hn ha hs W W';refine pw func136 ⟨[0,1,4,5,6,7,8,9,10,11,12,13,14,15,16,17,19,20,21,22,23,24,25,26,27,28,32,46,70,77,96,120,125,140],[(7,.nil),(9,.nil)]⟩ ?_;simp only[Tryz.f136,ntmps136,iz,seval];simp only[vx,T,seval,tV,tC,eV,ag,bg,ba,QV,QC,GC,w1,w2,w4,←SQ];refine⟨fun h=>absurd h (by omega),fun _=>Lg ?_⟩;simp only[vx,T,seval,tV,tC,eV,ag,bg,ba,QV,QC,GC,w1,w2,w4,←SQ];refine Cg sg ?_;simp only[vx,T,seval,tV,tC,eV,ag,bg,ba,QV,QC,GC,w1,w2,w4,←SQ];refine⟨fun h=>absurd h (by omega),fun _=>Lg ?_⟩;simp only[vx,T,seval,tV,tC,eV,ag,bg,ba,QV,QC,GC,w1,w2,w4,←SQ];refine⟨⟨by omega,by omega⟩,⟨by omega,by omega⟩,⟨by omega,by omega⟩,⟨by omega,by omega,by omega⟩,Cg o0 ?_⟩;simp only[vx,T,seval,tV,tC,eV,ag,bg,ba,QV,QC,GC,w1,w2,w4,←SQ];refine Cg fz ?_;simp only[vx,T,seval,tV,tC,eV,ag,bg,ba,QV,QC,GC,w1,w2,w4,←SQ];refine Cg z ?_;simp only[vx,T,seval,tV,tC,eV,ag,bg,ba,QV,QC,GC,w1,w2,w4,←SQ];refine Cg c ?_;simp only[vx,T,seval,tV,tC,eV,ag,bg,ba,QV,QC,GC,w1,w2,w4,←SQ];refine Cg k ?_;simp only[vx,T,seval,tV,tC,eV,ag,bg,ba,QV,QC,GC,w1,w2,w4,←SQ];exact Ve rfl
theorem OU {X h:Nat}(hX:X<2^37){t:List El}{a i w:El}(W:yb X (h+1) t)(ha:a.length=2^(h+1))(hs:iF X (h+1) t a)(UT:¬bp (h+1) t a<0)(hv:a.drop (2^h)=zE (2^h)){l:List (Nat→C)}(D':Rd h t)(hw:w.length=2^h)
  (c:Pr prog 136 [tV h t,eV (a.take (2^h))] (.aB [.one (GC l),.one (.bool false)])) (hr:mn X h t (t.getD h [])) (hi:cF h t (t.getD h [])=some i) (qi:cM X h t (a.take (2^h)) i)
  (c2:Pr prog 136 [tV h t,eV (aj h t (a.take (2^h)) i)] (.aB [eV w,.one (.bool true)])):
  Pr prog 136 [tV (h+1) t,eV a] (.aB [eV (zE (2^h)++w),.one (.bool true)]):=by
 have W':=W.tq.le (Nat.le_succ h);have h3:=W.tq.h6;have hp:2^h≤64:=O3 (n:=2) (by decide) (show h≤6 by omega);have sg:=l7 hX W ha hs;have z:=jO (a.drop (2^h)) (by rw[ah ha];omega);have o0:=bc 0 (by decide) (by decide);have fz:=(dT (h:=h) (t:=t) (by omega) (Rat.ofInt 0)).rows;rw[CF]at fz;have lz:(zE (2^h)).length=2^h:=av;rw[decide_eq_true (by rw[ah ha];exact hv)]at z;have hn:(2^h:Nat)≤a.length:=by rw[ha,O4];omega
 have cT:=fF hn;have cD:=e9 (a:=a) (n:=2^h);have z:=z.args (xs:=[.one (ba a (2^h))]) ⟨.cell cD,trivial⟩;have k:=Cc (zE (2^h)) w (by rw[hw,lz];omega);have c:=c.args (xs:=[tV h t,.one (bg a (2^h))]) ⟨.refl _,.cell cT,trivial⟩;have lr:=W.tq.tk.len h (by omega);have li:=Go.Proofs.YtehahgjkjfoebaaGreat.jx hi;have iv:=((vO hX W' D' lr hr).1 i hi).rows;have m:=(gi hX W'.tk (ai ha) li qi).rows;have m:=m.args (xs:=[tV h t,.one (bg a (2^h)),eV i]) ⟨.refl _,.cell cT,.refl _,trivial⟩;obtain⟨y,hy⟩:∃y,y=aj h t (a.take (2^h)) i:=⟨_,rfl⟩;rw[←hy]at m c2;obtain⟨n,SY⟩:∃n,n=2^h:=⟨_,rfl⟩;have S9:a.length=2*n:=by rw[ha,O4,SY];omega
 have w1:IntKind.i64.wrap (((h+1:Nat):Int)-1)=(h:Int):=by rw[Q4 _ (by omega)];omega
 have hn8:n≤64:=by omega
 have w2:IntKind.i64.wrap (((a.length:Nat):Int).tdiv 2)=(n:Int):=by
  rw[S9,Int.tdiv_eq_ediv_of_nonneg (by omega),Q4 _ (by omega)];omega
 have w4:((a.length:Int)-(n:Int)).toNat=a.length-n:=by omega
 obtain⟨sgn',V9⟩:∃s,s=bp (h+1) t a:=⟨_,rfl⟩;obtain⟨r,SQ⟩:∃r,r=t.getD h []:=⟨_,rfl⟩;obtain⟨zn,Ut⟩:∃z,z=zE (2^h):=⟨_,rfl⟩;rw[←Ut]at fz lz;rw[←V9]at sg UT;rw[←Ut]at k⊢;rw[←SQ]at iv;rw[←SY]at z c m hp lz hw;clear hv SY Ut cT cD hn ha hs W W' hr hi qi lr li hy;refine pw func136 ⟨[0,1,4,5,6,7,8,9,10,11,12,13,14,15,16,17,19,20,21,22,23,24,25,26,27,28,32,46,70,77,96,120,125,140],[(7,.nil),(9,.nil)]⟩ ?_;simp only[Tryz.f136,ntmps136,iz,seval];simp only[vx,T,seval,tV,tC,eV,ag,bg,ba,QV,QC,GC,w1,w2,w4,←SQ];refine⟨fun h=>absurd h (by omega),fun _=>Lg ?_⟩;simp only[vx,T,seval,tV,tC,eV,ag,bg,ba,QV,QC,GC,w1,w2,w4,←SQ];refine Cg sg ?_;simp only[vx,T,seval,tV,tC,eV,ag,bg,ba,QV,QC,GC,w1,w2,w4,←SQ];refine⟨fun h=>absurd h (by omega),fun _=>Lg ?_⟩;simp only[vx,T,seval,tV,tC,eV,ag,bg,ba,QV,QC,GC,w1,w2,w4,←SQ];refine⟨⟨by omega,by omega⟩,⟨by omega,by omega⟩,⟨by omega,by omega⟩,⟨by omega,by omega,by omega⟩,Cg o0 ?_⟩;simp only[vx,T,seval,tV,tC,eV,ag,bg,ba,QV,QC,GC,w1,w2,w4,←SQ];refine Cg fz ?_;simp only[vx,T,seval,tV,tC,eV,ag,bg,ba,QV,QC,GC,w1,w2,w4,←SQ];refine Cg z ?_;simp only[vx,T,seval,tV,tC,eV,ag,bg,ba,QV,QC,GC,w1,w2,w4,←SQ];refine Cg c ?_;simp only[vx,T,seval,tV,tC,eV,ag,bg,ba,QV,QC,GC,w1,w2,w4,←SQ];refine Cg iv ?_;simp only[vx,T,seval,tV,tC,eV,ag,bg,ba,QV,QC,GC,w1,w2,w4,←SQ];refine Cg m ?_;simp only[vx,T,seval,tV,tC,eV,ag,bg,ba,QV,QC,GC,w1,w2,w4,←SQ];refine Cg c2 ?_;simp only[vx,T,seval,tV,tC,eV,ag,bg,ba,QV,QC,GC,w1,w2,w4,←SQ];refine Cg k ?_;simp only[vx,T,seval,tV,tC,eV,ag,bg,ba,QV,QC,GC,w1,w2,w4,←SQ];exact Ve rfl
theorem Oy {X h:Nat}(hX:X<2^37){t:List El}{a i:El}(W:yb X (h+1) t)(ha:a.length=2^(h+1))(hs:iF X (h+1) t a)(UT:¬bp (h+1) t a<0)(hv:a.drop (2^h)=zE (2^h)){l p:List (Nat→C)}(D':Rd h t)
  (c:Pr prog 136 [tV h t,eV (a.take (2^h))] (.aB [.one (GC l),.one (.bool false)])) (hr:mn X h t (t.getD h [])) (hi:cF h t (t.getD h [])=some i) (qi:cM X h t (a.take (2^h)) i)
  (c2:Pr prog 136 [tV h t,eV (aj h t (a.take (2^h)) i)] (.aB [.one (GC p),.one (.bool false)])):
  Pr prog 136 [tV (h+1) t,eV a] (.aB [.one .nil,.one (.bool false)]):=by
 have W':=W.tq.le (Nat.le_succ h);have h3:=W.tq.h6;have hp:2^h≤64:=O3 (n:=2) (by decide) (show h≤6 by omega);have sg:=l7 hX W ha hs;have z:=jO (a.drop (2^h)) (by rw[ah ha];omega);have o0:=bc 0 (by decide) (by decide);have fz:=(dT (h:=h) (t:=t) (by omega) (Rat.ofInt 0)).rows;rw[CF]at fz;have lz:(zE (2^h)).length=2^h:=av;rw[decide_eq_true (by rw[ah ha];exact hv)]at z;have hn:(2^h:Nat)≤a.length:=by rw[ha,O4];omega
 have cT:=fF hn;have cD:=e9 (a:=a) (n:=2^h);have z:=z.args (xs:=[.one (ba a (2^h))]) ⟨.cell cD,trivial⟩;have c:=c.args (xs:=[tV h t,.one (bg a (2^h))]) ⟨.refl _,.cell cT,trivial⟩;have lr:=W.tq.tk.len h (by omega);have li:=Go.Proofs.YtehahgjkjfoebaaGreat.jx hi;have iv:=((vO hX W' D' lr hr).1 i hi).rows;have m:=(gi hX W'.tk (ai ha) li qi).rows;have m:=m.args (xs:=[tV h t,.one (bg a (2^h)),eV i]) ⟨.refl _,.cell cT,.refl _,trivial⟩;obtain⟨y,hy⟩:∃y,y=aj h t (a.take (2^h)) i:=⟨_,rfl⟩;rw[←hy]at m c2;obtain⟨n,SY⟩:∃n,n=2^h:=⟨_,rfl⟩;have S9:a.length=2*n:=by rw[ha,O4,SY];omega
 have w1:IntKind.i64.wrap (((h+1:Nat):Int)-1)=(h:Int):=by rw[Q4 _ (by omega)];omega
 have hn8:n≤64:=by omega
 have w2:IntKind.i64.wrap (((a.length:Nat):Int).tdiv 2)=(n:Int):=by
  rw[S9,Int.tdiv_eq_ediv_of_nonneg (by omega),Q4 _ (by omega)];omega
 have w4:((a.length:Int)-(n:Int)).toNat=a.length-n:=by omega
 obtain⟨sgn',V9⟩:∃s,s=bp (h+1) t a:=⟨_,rfl⟩;obtain⟨r,SQ⟩:∃r,r=t.getD h []:=⟨_,rfl⟩;obtain⟨zn,Ut⟩:∃z,z=zE (2^h):=⟨_,rfl⟩;rw[←Ut]at fz lz;rw[←V9]at sg UT;rw[←SQ]at iv;rw[←SY]at z c m hp lz;clear hv SY Ut cT cD hn ha hs W W' hr hi qi lr li hy;refine pw func136 ⟨[0,1,4,5,6,7,8,9,10,11,12,13,14,15,16,17,19,20,21,22,23,24,25,26,27,28,32,46,70,77,96,120,125,140],[(7,.nil),(9,.nil)]⟩ ?_;simp only[Tryz.f136,ntmps136,iz,seval];simp only[vx,T,seval,tV,tC,eV,ag,bg,ba,QV,QC,GC,w1,w2,w4,←SQ];refine⟨fun h=>absurd h (by omega),fun _=>Lg ?_⟩;simp only[vx,T,seval,tV,tC,eV,ag,bg,ba,QV,QC,GC,w1,w2,w4,←SQ];refine Cg sg ?_;simp only[vx,T,seval,tV,tC,eV,ag,bg,ba,QV,QC,GC,w1,w2,w4,←SQ];refine⟨fun h=>absurd h (by omega),fun _=>Lg ?_⟩;simp only[vx,T,seval,tV,tC,eV,ag,bg,ba,QV,QC,GC,w1,w2,w4,←SQ];refine⟨⟨by omega,by omega⟩,⟨by omega,by omega⟩,⟨by omega,by omega⟩,⟨by omega,by omega,by omega⟩,Cg o0 ?_⟩;simp only[vx,T,seval,tV,tC,eV,ag,bg,ba,QV,QC,GC,w1,w2,w4,←SQ];refine Cg fz ?_;simp only[vx,T,seval,tV,tC,eV,ag,bg,ba,QV,QC,GC,w1,w2,w4,←SQ];refine Cg z ?_;simp only[vx,T,seval,tV,tC,eV,ag,bg,ba,QV,QC,GC,w1,w2,w4,←SQ];refine Cg c ?_;simp only[vx,T,seval,tV,tC,eV,ag,bg,ba,QV,QC,GC,w1,w2,w4,←SQ];refine Cg iv ?_;simp only[vx,T,seval,tV,tC,eV,ag,bg,ba,QV,QC,GC,w1,w2,w4,←SQ];refine Cg m ?_;simp only[vx,T,seval,tV,tC,eV,ag,bg,ba,QV,QC,GC,w1,w2,w4,←SQ];refine Cg c2 ?_;simp only[vx,T,seval,tV,tC,eV,ag,bg,ba,QV,QC,GC,w1,w2,w4,←SQ];exact Ve rfl
theorem OC {X h:Nat}(hX:X<2^37){t:List El}{a:El}(W:yb X (h+1) t)(ha:a.length=2^(h+1))(hs:iF X (h+1) t a)(UT:¬bp (h+1) t a<0)(hv:a.drop (2^h)≠zE (2^h)){l:List (Nat→C)}
  (c:Pr prog 136 [tV h t,eV (aO h t a)] (.aB [.one (GC l),.one (.bool false)])):
  Pr prog 136 [tV (h+1) t,eV a] (.aB [.one .nil,.one (.bool false)]):=by
 have W':=W.tq.le (Nat.le_succ h);have h3:=W.tq.h6;have hp:2^h≤64:=O3 (n:=2) (by decide) (show h≤6 by omega);have sg:=l7 hX W ha hs;have z:=jO (a.drop (2^h)) (by rw[ah ha];omega);have o0:=bc 0 (by decide) (by decide);have fz:=(dT (h:=h) (t:=t) (by omega) (Rat.ofInt 0)).rows;rw[CF]at fz;have lz:(zE (2^h)).length=2^h:=av;rw[decide_eq_false (by rw[ah ha];exact hv)]at z;have hn:(2^h:Nat)≤a.length:=by rw[ha,O4];omega
 have cT:=fF hn;have cD:=e9 (a:=a) (n:=2^h);have z:=z.args (xs:=[.one (ba a (2^h))]) ⟨.cell cD,trivial⟩;have Ui:=W.tq.tk.len h (by omega);have Tu:=ai ha;have Ts:=ah ha;have hqs:=hs.qb;obtain⟨_,⟨n1,n2,n3⟩,_⟩:=hs;have m1:=(gi hX W'.tk Tu Tu n1).rows;have m2:=(gi hX W'.tk Ts Ts n2).rows;have m3:=(gi hX W'.tk Ui aa n3.comm).rows;have sb:=(IU (h:=h) (t:=t) _ _ (by rw[aa];omega) (by rw[aa,aa]) (Qk.of n1.q.2.2 (by omega)) (Qk.of n3.comm.q.2.2 (by omega))).rows;rw[Go.Tw.oe]at sb;have m1:=m1.args (xs:=[tV h t,.one (bg a (2^h)),.one (bg a (2^h))]) ⟨.refl _,.cell cT,.cell cT,trivial⟩;have m2:=m2.args (xs:=[tV h t,.one (ba a (2^h)),.one (ba a (2^h))]) ⟨.refl _,.cell cD,.cell cD,trivial⟩;obtain⟨e,he⟩:∃e,e=aO h t a:=⟨_,rfl⟩;obtain⟨p1,Vh⟩:∃p,p=aj h t (a.take (2^h)) (a.take (2^h)):=⟨_,rfl⟩;obtain⟨p2,UO⟩:∃p,p=aj h t (a.drop (2^h)) (a.drop (2^h)):=⟨_,rfl⟩;rw[←he]at sb c;rw[←Vh]at m1 sb;rw[←UO]at m2 m3 sb;obtain⟨p3,VW⟩:∃p,p=aj h t (t.getD h []) p2:=⟨_,rfl⟩;rw[←VW]at m3 sb;obtain⟨n,SY⟩:∃n,n=2^h:=⟨_,rfl⟩;have S9:a.length=2*n:=by rw[ha,O4,SY];omega
 have w1:IntKind.i64.wrap (((h+1:Nat):Int)-1)=(h:Int):=by rw[Q4 _ (by omega)];omega
 have hn8:n≤64:=by omega
 have w2:IntKind.i64.wrap (((a.length:Nat):Int).tdiv 2)=(n:Int):=by
  rw[S9,Int.tdiv_eq_ediv_of_nonneg (by omega),Q4 _ (by omega)];omega
 have w4:((a.length:Int)-(n:Int)).toNat=a.length-n:=by omega
 obtain⟨sgn',V9⟩:∃s,s=bp (h+1) t a:=⟨_,rfl⟩;obtain⟨r,SQ⟩:∃r,r=t.getD h []:=⟨_,rfl⟩;obtain⟨zn,Ut⟩:∃z,z=zE (2^h):=⟨_,rfl⟩;rw[←Ut]at fz lz;rw[←V9]at sg UT;rw[←SQ]at m3;rw[←SY]at z m1 m2 hp lz;clear hv SY Ut cT cD hn ha hqs W W' Ui Tu Ts n1 n2 n3 he Vh UO VW;refine pw func136 ⟨[0,1,4,5,6,7,8,9,10,11,12,13,14,15,16,17,19,20,21,22,23,24,25,26,27,28,32,46,70,77,96,120,125,140],[(7,.nil),(9,.nil)]⟩ ?_;simp only[Tryz.f136,ntmps136,iz,seval];simp only[vx,T,seval,tV,tC,eV,ag,bg,ba,QV,QC,GC,w1,w2,w4,←SQ];refine⟨fun h=>absurd h (by omega),fun _=>Lg ?_⟩;simp only[vx,T,seval,tV,tC,eV,ag,bg,ba,QV,QC,GC,w1,w2,w4,←SQ];refine Cg sg ?_;simp only[vx,T,seval,tV,tC,eV,ag,bg,ba,QV,QC,GC,w1,w2,w4,←SQ];refine⟨fun h=>absurd h (by omega),fun _=>Lg ?_⟩;simp only[vx,T,seval,tV,tC,eV,ag,bg,ba,QV,QC,GC,w1,w2,w4,←SQ];refine⟨⟨by omega,by omega⟩,⟨by omega,by omega⟩,⟨by omega,by omega⟩,⟨by omega,by omega,by omega⟩,Cg o0 ?_⟩;simp only[vx,T,seval,tV,tC,eV,ag,bg,ba,QV,QC,GC,w1,w2,w4,←SQ];refine Cg fz ?_;simp only[vx,T,seval,tV,tC,eV,ag,bg,ba,QV,QC,GC,w1,w2,w4,←SQ];refine Cg z ?_;simp only[vx,T,seval,tV,tC,eV,ag,bg,ba,QV,QC,GC,w1,w2,w4,←SQ];refine Cg m1 ?_;simp only[vx,T,seval,tV,tC,eV,ag,bg,ba,QV,QC,GC,w1,w2,w4,←SQ];refine Cg m2 ?_;simp only[vx,T,seval,tV,tC,eV,ag,bg,ba,QV,QC,GC,w1,w2,w4,←SQ];refine Cg m3 ?_;simp only[vx,T,seval,tV,tC,eV,ag,bg,ba,QV,QC,GC,w1,w2,w4,←SQ];refine Cg sb ?_;simp only[vx,T,seval,tV,tC,eV,ag,bg,ba,QV,QC,GC,w1,w2,w4,←SQ];refine Cg c ?_;simp only[vx,T,seval,tV,tC,eV,ag,bg,ba,QV,QC,GC,w1,w2,w4,←SQ];exact Ve rfl
def mE (m:El):Nat→El
 |0=>m
 |j+1=>aH (mE m j)
theorem Hh {m:El}{n:Nat}(h:m.length=n):∀j,(mE m j).length=n
 |0=>h
 |j+1=>by rw[mE,au];exact Hh h j
theorem MX {X:Nat}{m:El}(h:QB X m):∀j,QB X (mE m j)
 |0=>h
 |j+1=>(MX h j).neg
theorem Bm {X h:Nat}(hX:X<2^37){t:List El}{a m w i:El}(W:yb X (h+1) t)(ha:a.length=2^(h+1))(hs:iF X (h+1) t a)(UT:¬bp (h+1) t a<0)(hv:a.drop (2^h)≠zE (2^h))(D':Rd h t){k:Nat}{r:V}(hk:k≤2)
  (c:Pr prog 136 [tV h t,eV (aO h t a)] (.aB [eV m,.one (.bool true)])) (lm:m.length=2^h) (qm:QB X m) (qx:∀j,j<2→cM X h t (aC (a.take (2^h)) (mE m j)) (aU h (mkRat 1 2)))
  (no:∀j,j<k→∃l:List (Nat→C),Pr prog 136 [tV h t,eV (aj h t (aU h (mkRat 1 2)) (aC (a.take (2^h)) (mE m j)))] (.aB [.one (GC l),.one (.bool false)]))
  (yes:k<2→r= .aB [eV (w++aj h t (aU h (mkRat 1 2)) (aj h t (a.drop (2^h)) i)),.one (.bool true)]∧w.length=2^h∧mn X h t w∧cF h t w=some i∧cM X h t (a.drop (2^h)) i∧cM X h t (aj h t (a.drop (2^h)) i) (aU h (mkRat 1 2))∧
   Pr prog 136 [tV h t,eV (aj h t (aU h (mkRat 1 2)) (aC (a.take (2^h)) (mE m k)))] (.aB [eV w,.one (.bool true)]))
  (fin:k=2→r= .aB [.one .nil,.one (.bool false)]):
  Pr prog 136 [tV (h+1) t,eV a] r:=by
 have W':=W.tq.le (Nat.le_succ h);have h3:=W.tq.h6;have hp:2^h≤64:=O3 (n:=2) (by decide) (show h≤6 by omega);have sg:=l7 hX W ha hs;have z:=jO (a.drop (2^h)) (by rw[ah ha];omega);have o0:=bc 0 (by decide) (by decide);have fz:=(dT (h:=h) (t:=t) (by omega) (Rat.ofInt 0)).rows;rw[CF]at fz;have lz:(zE (2^h)).length=2^h:=av;rw[decide_eq_false (by rw[ah ha];exact hv)]at z;have hn:(2^h:Nat)≤a.length:=by rw[ha,O4];omega
 have cT:=fF hn;have cD:=e9 (a:=a) (n:=2^h);have z:=z.args (xs:=[.one (ba a (2^h))]) ⟨.cell cD,trivial⟩;have Ui:=W.tq.tk.len h (by omega);have Tu:=ai ha;have Ts:=ah ha;have hqs:=hs.qb;obtain⟨_,⟨n1,n2,n3⟩,_⟩:=hs;have m1:=(gi hX W'.tk Tu Tu n1).rows;have m2:=(gi hX W'.tk Ts Ts n2).rows;have m3:=(gi hX W'.tk Ui aa n3.comm).rows;have sb:=(IU (h:=h) (t:=t) _ _ (by rw[aa];omega) (by rw[aa,aa]) (Qk.of n1.q.2.2 (by omega)) (Qk.of n3.comm.q.2.2 (by omega))).rows;rw[Go.Tw.oe]at sb;have m1:=m1.args (xs:=[tV h t,.one (bg a (2^h)),.one (bg a (2^h))]) ⟨.refl _,.cell cT,.cell cT,trivial⟩;have m2:=m2.args (xs:=[tV h t,.one (ba a (2^h)),.one (ba a (2^h))]) ⟨.refl _,.cell cD,.cell cD,trivial⟩;obtain⟨e,he⟩:∃e,e=aO h t a:=⟨_,rfl⟩;obtain⟨p1,Vh⟩:∃p,p=aj h t (a.take (2^h)) (a.take (2^h)):=⟨_,rfl⟩;obtain⟨p2,UO⟩:∃p,p=aj h t (a.drop (2^h)) (a.drop (2^h)):=⟨_,rfl⟩;rw[←he]at sb c;rw[←Vh]at m1 sb;rw[←UO]at m2 m3 sb;obtain⟨p3,VW⟩:∃p,p=aj h t (t.getD h []) p2:=⟨_,rfl⟩;rw[←VW]at m3 sb;have fr:=oY 1 2 (by decide) (by decide) (by decide) (by decide+kernel) (by decide+kernel);have hf:=(dT (h:=h) (t:=t) (by omega) (mkRat 1 2)).rows;have lh:(aU h (mkRat 1 2)).length=2^h:=aA;have lmj:=Hh lm;have qmj:=MX qm;have ad:∀j,Pr prog 100 [tV h t,.one (bg a (2^h)),eV (mE m j)] (eV (aC (a.take (2^h)) (mE m j))):=fun j=>
  (tW (h:=h) (t:=t) (a.take (2^h)) (mE m j) (by rw[Tu];omega) (by rw[Tu,lmj j]) (.of (hqs.take _) (by omega)) (.of (qmj j) (by omega))).rows.args ⟨.refl _,.cell cT,.refl _,trivial⟩
 have mh:∀j,j<2→Pr prog 54 [tV h t,eV (aU h (mkRat 1 2)),eV (aC (a.take (2^h)) (mE m j))] (eV (aj h t (aU h (mkRat 1 2)) (aC (a.take (2^h)) (mE m j)))):=fun j hj=>
  (gi hX W'.tk lh (ar Tu (lmj j)) (qx j hj).comm).rows
 have ng:∀j,Pr prog 111 [tV h t,eV (mE m j)] (eV (mE m (j+1))):=fun j=>
  (z5 (h:=h) (t:=t) (mE m j) (by rw[lmj j];omega) (.of (qmj j) (by omega))).rows
 have fn:k<2→∃g,g=aj h t (a.drop (2^h)) i∧Pr prog 109 [tV h t,eV w] (.aB [eV i,.one (.int .i64 0)])∧Pr prog 54 [tV h t,.one (ba a (2^h)),eV i] (eV g)∧
   Pr prog 54 [tV h t,eV (aU h (mkRat 1 2)),eV g] (eV (aj h t (aU h (mkRat 1 2)) g))∧Pr prog 180 [eV w,eV (aj h t (aU h (mkRat 1 2)) g)] (eV (w++aj h t (aU h (mkRat 1 2)) g)):=fun TZ=>by
  obtain⟨_,lw,iw,hi,qi,qg,_⟩:=yes TZ;have li:=Go.Proofs.YtehahgjkjfoebaaGreat.jx hi;refine⟨_,rfl,((vO hX W' D' lw iw).1 i hi).rows,?_,(gi hX W'.tk lh aa qg.comm).rows,Cc _ _ (by rw[lw,aa];omega)⟩;exact(gi hX W'.tk Ts li qi).rows.args ⟨.refl _,.cell cD,.refl _,trivial⟩
 have yes:k<2→∃g,r= .aB [eV (w++aj h t (aU h (mkRat 1 2)) g),.one (.bool true)]∧Pr prog 136 [tV h t,eV (aj h t (aU h (mkRat 1 2)) (aC (a.take (2^h)) (mE m k)))] (.aB [eV w,.one (.bool true)])∧
   Pr prog 109 [tV h t,eV w] (.aB [eV i,.one (.int .i64 0)])∧Pr prog 54 [tV h t,.one (ba a (2^h)),eV i] (eV g)∧
   Pr prog 54 [tV h t,eV (aU h (mkRat 1 2)),eV g] (eV (aj h t (aU h (mkRat 1 2)) g))∧Pr prog 180 [eV w,eV (aj h t (aU h (mkRat 1 2)) g)] (eV (w++aj h t (aU h (mkRat 1 2)) g)):=fun TZ=>by
  obtain⟨g,hg,f1,f2,f3,f4⟩:=fn TZ;obtain⟨y1,_,_,_,_,_,y2⟩:=yes TZ;exact⟨g,by rw[hg];exact y1,y2,f1,f2,f3,f4⟩
 obtain⟨two,aak⟩:∃x,x=aU h (mkRat 1 2):=⟨_,rfl⟩;obtain⟨u,hu⟩:∃u,u=a.take (2^h):=⟨_,rfl⟩;rw[←aak]at hf mh no yes;rw[←hu]at ad mh no yes;obtain⟨n,SY⟩:∃n,n=2^h:=⟨_,rfl⟩;have S9:a.length=2*n:=by rw[ha,O4,SY];omega
 have w1:IntKind.i64.wrap (((h+1:Nat):Int)-1)=(h:Int):=by rw[Q4 _ (by omega)];omega
 have hn8:n≤64:=by omega
 have w2:IntKind.i64.wrap (((a.length:Nat):Int).tdiv 2)=(n:Int):=by
  rw[S9,Int.tdiv_eq_ediv_of_nonneg (by omega),Q4 _ (by omega)];omega
 have w4:((a.length:Int)-(n:Int)).toNat=a.length-n:=by omega
 obtain⟨sgn',V9⟩:∃s,s=bp (h+1) t a:=⟨_,rfl⟩;obtain⟨r0,SQ⟩:∃r,r=t.getD h []:=⟨_,rfl⟩;obtain⟨zn,Ut⟩:∃z,z=zE (2^h):=⟨_,rfl⟩;rw[←Ut]at fz lz;rw[←V9]at sg UT;rw[←SQ]at m3;rw[←SY]at z m1 m2 hp lz ad yes;clear hv SY Ut cT cD hn ha hqs W W' Ui Tu Ts n1 n2 n3 he Vh UO VW fn lh lmj qmj D' lm qm qx aak hu;refine pw func136 ⟨[0,1,4,5,6,7,8,9,10,11,12,13,14,15,16,17,19,20,21,22,23,24,25,26,27,28,32,46,70,77,96,120,125,140],[(7,.nil),(9,.nil)]⟩ ?_;simp only[Tryz.f136,ntmps136,iz,seval];simp only[vx,T,seval,tV,tC,eV,ag,bg,ba,QV,QC,GC,w1,w2,w4,←SQ];refine⟨fun h=>absurd h (by omega),fun _=>Lg ?_⟩;simp only[vx,T,seval,tV,tC,eV,ag,bg,ba,QV,QC,GC,w1,w2,w4,←SQ];refine Cg sg ?_;simp only[vx,T,seval,tV,tC,eV,ag,bg,ba,QV,QC,GC,w1,w2,w4,←SQ];refine⟨fun h=>absurd h (by omega),fun _=>Lg ?_⟩;simp only[vx,T,seval,tV,tC,eV,ag,bg,ba,QV,QC,GC,w1,w2,w4,←SQ];refine⟨⟨by omega,by omega⟩,⟨by omega,by omega⟩,⟨by omega,by omega⟩,⟨by omega,by omega,by omega⟩,Cg o0 ?_⟩;simp only[vx,T,seval,tV,tC,eV,ag,bg,ba,QV,QC,GC,w1,w2,w4,←SQ];refine Cg fz ?_;simp only[vx,T,seval,tV,tC,eV,ag,bg,ba,QV,QC,GC,w1,w2,w4,←SQ];refine Cg z ?_;simp only[vx,T,seval,tV,tC,eV,ag,bg,ba,QV,QC,GC,w1,w2,w4,←SQ];refine Cg m1 ?_;simp only[vx,T,seval,tV,tC,eV,ag,bg,ba,QV,QC,GC,w1,w2,w4,←SQ];refine Cg m2 ?_;simp only[vx,T,seval,tV,tC,eV,ag,bg,ba,QV,QC,GC,w1,w2,w4,←SQ];refine Cg m3 ?_;simp only[vx,T,seval,tV,tC,eV,ag,bg,ba,QV,QC,GC,w1,w2,w4,←SQ];refine Cg sb ?_;simp only[vx,T,seval,tV,tC,eV,ag,bg,ba,QV,QC,GC,w1,w2,w4,←SQ];refine Cg c ?_;simp only[vx,T,seval,tV,tC,eV,ag,bg,ba,QV,QC,GC,w1,w2,w4,←SQ];refine Cg fr ?_;simp only[vx,T,seval,tV,tC,eV,ag,bg,ba,QV,QC,GC,w1,w2,w4,←SQ];refine Cg hf ?_;simp only[vx,T,seval,tV,tC,eV,ag,bg,ba,QV,QC,GC,w1,w2,w4,←SQ];refine Lk (fun y:{j:Nat//j≤k}=>⟨[(4,.one .nil),(5,.one (.bool false)),(9,tV h t),(12,.one (bg a n)),(13,.one (ba a n)),(22,eV (mE m y.1)),(24,eV two),(25,.one (.int .i64 y.1))],[],2,159⟩) (fun y=>k-y.1) ⟨0,O2 _⟩ ?_ (fun⟨j,hj⟩=>?_)
 ·refine Sa ?_;simp only[ry,seval,rz,tV,tC,eV,ag,bg,ba,mE];exact fun _ _ _ _=>rfl
 simp only;have wi:=wI j (by omega);simp only[vx,T,seval,tV,tC,eV,ag,bg,ba,QV,QC,GC,w1,w2,w4,←SQ];refine⟨fun g=>Lg ?_,fun g=>Lg ?_⟩
 ·have NA:=ad j;have mhj:=mh j (by omega);have ngj:=ng j;have VF:=no j;obtain⟨mj,hmj⟩:∃x,x=mE m j:=⟨_,rfl⟩;obtain⟨mj',aal⟩:∃x,x=mE m (j+1):=⟨_,rfl⟩;rw[←hmj,←aal]at ngj;rw[←hmj]at NA mhj VF⊢;obtain⟨x,hx⟩:∃x,x=aC u mj:=⟨_,rfl⟩;rw[←hx]at NA mhj VF;obtain⟨y,hy⟩:∃y,y=aj h t two x:=⟨_,rfl⟩;rw[←hy]at mhj VF
  by_cases We:j<k
  ·obtain⟨l,hl⟩:=VF We;simp only[vx,T,seval,tV,tC,eV,ag,bg,ba,QV,QC,GC,w1,w2,w4,wi];refine Cg NA ?_;simp only[vx,T,seval,tV,tC,eV,ag,bg,ba,QV,QC,GC,w1,w2,w4,wi];refine Cg mhj ?_;simp only[vx,T,seval,tV,tC,eV,ag,bg,ba,QV,QC,GC,w1,w2,w4,wi];refine Cg hl ?_;simp only[vx,T,seval,tV,tC,eV,ag,bg,ba,QV,QC,GC,w1,w2,w4,wi];refine Cg ngj ?_;simp only[vx,T,seval,tV,tC,eV,ag,bg,ba,QV,QC,GC,w1,w2,w4,wi];refine Lq ⟨j+1,by omega⟩ ?_ (by show k-(j+1)<k-j;omega);refine Sa ?_;simp only[ry,seval,rz,tV,tC,eV,ag,GC,bg,ba,←aal]
  obtain rfl:j=k:=by omega
  obtain⟨g',hr,y1,y2,y3,y4,y5⟩:=yes (by omega);rw[←hmj,←hx,←hy]at y1;rw[hr];obtain⟨q,hq⟩:∃q,q=aj h t two g':=⟨_,rfl⟩;rw[←hq]at y4 y5⊢;simp only[vx,T,seval,tV,tC,eV,ag,bg,ba,QV,QC,GC,w1,w2,w4,wi];refine Cg NA ?_;simp only[vx,T,seval,tV,tC,eV,ag,bg,ba,QV,QC,GC,w1,w2,w4,wi];refine Cg mhj ?_;simp only[vx,T,seval,tV,tC,eV,ag,bg,ba,QV,QC,GC,w1,w2,w4,wi];refine Cg y1 ?_;simp only[vx,T,seval,tV,tC,eV,ag,bg,ba,QV,QC,GC,w1,w2,w4,wi];refine Cg y2 ?_;simp only[vx,T,seval,tV,tC,eV,ag,bg,ba,QV,QC,GC,w1,w2,w4,wi];refine Cg y3 ?_;simp only[vx,T,seval,tV,tC,eV,ag,bg,ba,QV,QC,GC,w1,w2,w4,wi];refine Cg y4 ?_;simp only[vx,T,seval,tV,tC,eV,ag,bg,ba,QV,QC,GC,w1,w2,w4,wi];refine Cg y5 ?_;simp only[vx,T,seval,tV,tC,eV,ag,bg,ba,QV,QC,GC,w1,w2,w4,wi];exact Ve rfl
 have TZ:k=2:=by omega
 rw[fin TZ];simp only[vx,T,seval,tV,tC,eV,ag,bg,ba,QV,QC,GC,w1,w2,w4,←SQ];exact Ve rfl
open Go Go.Eng
open Go.Tw (El aC aH zE aj av au ar aa QB cM ai ah aO aJ tB aU aA cF mn kE iF val In Rd mv bp cA dF Gd TG jS dL)
theorem mA {h:Nat}{t:List El}(x:El):aj h t (aU h (mkRat 1 2)) x=aj h t x (aU h (mkRat 1 2)):=Go.Tw.lq _ _
theorem Gr {h:Nat}{t:List El}{a:El}(H:Go.Tw.Rl h t)(ha:a.length=2^h)(hs:bp h t a<0):mv h t (val h t a):=by
 intro z _ e;rw[cA H ha]at hs;have h1:=R.Np z;rw[e]at h1
 rcases R.dh (val h t a)with⟨k,k2⟩|⟨k,k2⟩|⟨k,k2⟩
 ·omega
 ·omega
 exact h1 k
theorem uS {X:Nat}(hX:X<2^37){t:List El}:∀{h:Nat} {a:El},yb X h t→Rd h t→a.length=2^h→kE X h t a→LH h t a 136
 |0,a,_,_,ha,hs=>FK ha (.of hs.qb (by omega))
 |h+1,a,W,D,ha,hs=>by
  have W':=W.le (Nat.le_succ h);have D':=D.le (Nat.le_succ h);have ih:=fun{b:El} (hb:b.length=2^h) (k:kE X h t b)=>uS hX (a:=b) W' D' hb k;have lz:(zE (2^h)).length=2^h:=av;obtain⟨s1,s2,s3⟩:=hs
  by_cases UT:bp (h+1) t a<0
  ·exact .inr ⟨Gr D.rl ha UT,[],O2 _,Fh (Qf hX W ha s1 UT)⟩
  by_cases hv:a.drop (2^h)=zE (2^h)
  ·obtain⟨g1,g2,g3⟩:=s2 hv
   rcases ih (ai ha) g1 with⟨w,lw,ew,cw⟩|⟨n1,l,hl,c⟩
   ·obtain⟨k1,k2⟩:=Go.Tw.Af hv lw ew;exact .inl ⟨_,k1,k2,Ps hX W ha s1 UT hv lw cw⟩
   obtain⟨i,hi,_,_⟩:=Go.Tw.jR D' (D.rl h (by omega)).1 (R.jQ (D.rl h (by omega)).2);obtain⟨qi,sq⟩:=g3 i hi
   rcases ih aa sq with⟨w,lw,ew,cw⟩|⟨n2,p,hp,c2⟩
   ·obtain⟨k1,k2⟩:=Go.Tw.A5 D.rl ha hv hi lw ew;exact .inl ⟨_,k1,k2,OU hX W ha s1 UT hv D' lw c g2 hi qi cw⟩
   exact .inr ⟨Go.Tw.A1 D ha hv hi n1 n2,[],O2 _,Fh (Oy hX W ha s1 UT hv D' c g2 hi qi c2)⟩
  obtain⟨g1,g2⟩:=s3 hv
  rcases ih aJ g1 with⟨n,ln,en,cn⟩|⟨n1,l,hl,c⟩
  ·have lm:(aH n).length=2^h:=by rw[au,ln]
   have em:val h t (aH n)*val h t (aH n)=val h t (aO h t a):=by rw[Go.Tw.val_neg ln,R.neg_mul,R.mul_neg,R.neg_neg,en]
   obtain⟨k1,k2,k3,k4⟩:=g2 n ln en;obtain⟨k1',k2',k3',k4'⟩:=g2 (aH n) lm em;rw[AO]at k2 k3 k4 k2' k3' k4';have qx:∀j,j<2→cM X h t (aC (a.take (2^h)) (mE n j)) (aU h (mkRat 1 2)):=fun j hj=>by
    match j,hj with
    |0,_=>exact k2
    |1,_=>exact k2'
   have fin:∀{m w:El},m.length=2^h→val h t m*val h t m=val h t (aO h t a)→w.length=2^h→val h t w*val h t w=val h t (aj h t (aC (a.take (2^h)) m) (aU h (mkRat 1 2)))→
     ∃i,cF h t w=some i∧(w++aj h t (aU h (mkRat 1 2)) (aj h t (a.drop (2^h)) i)).length=2^(h+1)∧
      val (h+1) t (w++aj h t (aU h (mkRat 1 2)) (aj h t (a.drop (2^h)) i))*val (h+1) t (w++aj h t (aU h (mkRat 1 2)) (aj h t (a.drop (2^h)) i))=val (h+1) t a:=by
    intro m w lm em lw ew;have h0:=Go.Tw.yt D ha hv lm em ew;obtain⟨i,hi,li,vi⟩:=Go.Tw.jR D' lw h0;refine⟨i,hi,Go.Tw.vV D ha hv lm em lw ew aa ?_⟩;rw[mA,Go.Tw.val_mul D'.rl aa aA,Go.Tw.bx,Go.Tw.val_mul D'.rl (ah ha) li,R.mul_comm (val h t w),R.mul_assoc,R.mul_comm (R.q _),←R.mul_assoc,R.mul_assoc (val h t (a.drop (2^h))),R.mul_comm (val h t i),vi,R.mul_one,R.ob]
   rcases ih aa k3 with⟨w,lw,ew,cw⟩|⟨n1,l1,_,c1⟩
   ·obtain⟨i,hi,f1,f2⟩:=fin ln en lw ew;obtain⟨_,m2,_,m4,_⟩:=k4 w lw ew;obtain⟨m5,m6⟩:=m4 i hi;exact .inl ⟨_,f1,f2,Bm hX W ha s1 UT hv D' (k:=0) (by omega) cn ln k1 qx (fun j hj=>absurd hj (O5 _)) (fun _=>⟨rfl,lw,m2,hi,m5,m6,by rw[mA];exact cw⟩) (fun e=>absurd e (by decide))⟩
   have no1:∀j,j<1→∃l:List (Nat→C),Pr prog 136 [tV h t,eV (aj h t (aU h (mkRat 1 2)) (aC (a.take (2^h)) (mE n j)))] (.aB [.one (GC l),.one (.bool false)]):=fun j hj=>by
    obtain rfl:j=0:=by omega
    rw[mA];exact⟨l1,c1⟩
   rcases ih aa k3' with⟨w,lw,ew,cw⟩|⟨n2,l2,_,c2⟩
   ·obtain⟨i,hi,f1,f2⟩:=fin lm em lw ew;obtain⟨_,m2,_,m4,_⟩:=k4' w lw ew;obtain⟨m5,m6⟩:=m4 i hi;exact .inl ⟨_,f1,f2,Bm hX W ha s1 UT hv D' (k:=1) (by omega) cn ln k1 qx no1 (fun _=>⟨rfl,lw,m2,hi,m5,m6,by rw[mA];exact cw⟩) (fun e=>absurd e (by decide))⟩
   refine .inr ⟨Go.Tw.wL D ha hv ln en n1 n2,[],O2 _,Fh (Bm (w:=[]) (i:=[]) hX W ha s1 UT hv D' (k:=2) (by omega) cn ln k1 qx (fun j hj=>?_) (fun e=>absurd e (by decide)) (fun _=>rfl))⟩;rw[mA]
   match j,hj with
   |0,_=>exact⟨l1,c1⟩
   |1,_=>exact⟨l2,c2⟩
  exact .inr ⟨Go.Tw.xo D ha hv n1,[],O2 _,Fh (OC hX W ha s1 UT hv c)⟩
open Go Go.Eng
open Go.Tw (El aC aH zE av au QB kE iF val In Gd Rd mv TG jS bp dL cA dF)
section
variable {X h:Nat}(hX:X<2^37){t:List El}{a:El}
include hX
theorem Ae {w:El}(W:GQ X h t)(hw:w.length=2^h)(sw:iF X h t w)(c:Pr prog 136 [tV h t,eV a] (.aB [eV w,.one (.bool true)])):
  Pr prog 142 [tV h t,eV a] (.aB [eV (if bp h t w<0 then aH w else w),.one (.bool true)]):=by
 have h3:=W.rq.tq.h6;have hp:2^h≤64:=O3 (n:=2) (by decide) (show h≤6 by omega);have s:=l7 hX W.rq hw sw;have n:=(z5 (h:=h) (t:=t) w (by omega) (.of sw.qb (by omega))).rows;refine pw func142 ⟨[0,1,4,5,6,7,15,19],[]⟩ ?_;simp only[Tryz.f142,ntmps142,iz,seval];simp only[vx,T,seval,tV,tC,eV,ag];refine Cg c ?_;simp only[vx,T,seval,tV,tC,eV,ag];refine Cg s ?_;simp only[vx,T,seval,tV,tC,eV,ag];refine⟨fun g=>Lg ?_,fun g=>Lg ?_⟩
 ·rw[if_pos g];simp only[vx,T,seval,tV,tC,eV,ag];refine Cg n ?_;simp only[vx,T,seval,tV,tC,eV,ag];exact Ve rfl
 rw[if_neg g];simp only[vx,T,seval,tV,tC,eV,ag];exact Ve rfl
omit hX in
theorem Az {l:List (Nat→C)}(c:Pr prog 136 [tV h t,eV a] (.aB [.one (GC l),.one (.bool false)])):
  Pr prog 142 [tV h t,eV a] (.aB [.one .nil,.one (.bool false)]):=by
 refine pw func142 ⟨[0,1,4,5,6,7,15,19],[]⟩ ?_;simp only[Tryz.f142,ntmps142,iz,seval];simp only[vx,T,seval,tV,tC,eV,ag];refine Cg c ?_;simp only[vx,T,seval,tV,tC,eV,ag,GC];exact Ve rfl
theorem Oz (W:GQ X h t)(ha:a.length=2^h)(hB:Gd X h t a):
  (∃w,w.length=2^h∧val h t w=R.sqrt (val h t a)∧Pr prog 142 [tV h t,eV a] (.aB [eV w,.one (.bool true)]))∨
  (mv h t (val h t a)∧Pr prog 142 [tV h t,eV a] (.aB [.one .nil,.one (.bool false)])):=by
 rcases uS hX W.rq W.rd ha hB.sq with⟨b,lb,eb,cb⟩|⟨no,l,_,c⟩
 ·refine .inl ⟨_,?_,?_,Ae hX W lb (hB.rt b lb eb) cb⟩
  ·split
   ·rw[au,lb]
   exact lb
  have e:=cA W.rd.rl lb;have nn:∀x,x=val h t b∨x= -val h t b→R.nn x→x=R.sqrt (val h t a):=by
   intro x hx hn;rw[←eb]
   rcases hx with rfl|rfl
   ·exact(R.qF hn).symm
   rw[show val h t b*val h t b= -val h t b* -val h t b by rw[R.neg_mul,R.mul_neg,R.neg_neg]];exact(R.qF hn).symm
  split
  ·rename_i g
   rw[Go.Tw.val_neg lb];refine nn _ (.inr rfl) ?_
   rcases R.dh (val h t b)with⟨k,k2⟩|⟨k,k2⟩|⟨k,k2⟩
   ·rw[k,R.jK];exact R.bu.2 (.inl rfl)
   ·omega
   exact R.bu.2 (.inr k)
  rename_i g
  refine nn _ (.inl rfl) ?_
  rcases R.dh (val h t b)with⟨k,k2⟩|⟨k,k2⟩|⟨k,k2⟩
  ·rw[k];exact R.bu.2 (.inl rfl)
  ·exact R.bu.2 (.inr k)
  omega
 exact .inr ⟨no,Az c⟩
theorem wJ (W:GQ X h t):Pr prog 85 [tV h t] (.one (.bool true)):=by
 have h3:=W.rq.tq.h6;have f:∀i,i<h→Pr prog 84 [tV i t,eV (t.getD i [])] (.one (.bool true)):=fun i hi=>qj (W.rq.tq.tk.le (by omega)) _ (W.rd.rl i hi).1 (W.rq.tq.tk.q i hi);have s:∀i,i<h→Pr prog 135 [tV i t,eV (t.getD i [])] (.one (.int .i64 1)):=fun i hi=>by
  have c:=l7 hX (W.rq.le (show i≤h by omega)) (W.rd.rl i hi).1 (W.sq i hi).sg
  rwa [cA (W.rd.rl.le (by omega)) (W.rd.rl i hi).1,R.gW (W.rd.rl i hi).2]at c
 have q:∀i,i<h→∃l,Pr prog 136 [tV i t,eV (t.getD i [])] (.aB [.one (GC l),.one (.bool false)]):=fun i hi=>by
  rcases uS hX (W.rq.le (show i≤h by omega)) (W.rd.le (by omega)) (W.rd.rl i hi).1 (W.sq i hi)with⟨b,lb,eb,_⟩|⟨_,l,_,c⟩
  ·exact absurd eb (W.rd.ns i hi _ (.of lb))
  exact⟨l,c⟩
 refine pw func85 ⟨[0,2,3,5,9,31,43],[(6,.nil)]⟩ ?_;simp only[Tryz.f85,ntmps85,iz,seval];simp only[vx,T,seval,tV,tC,ag];refine Lk (fun y:{i:Nat//i≤h}=>⟨[(0,tV h t),(2,.one (.bool false)),(3,.one (.int .i64 y.1))],[],1,44⟩) (fun y=>h-y.1) ⟨0,O2 _⟩ ?_ (fun⟨i,hi⟩=>?_)
 ·refine Sa ?_;simp only[ry,seval,rz,tV,tC,ag]
 simp only;have wi:=wI i (by omega);simp only[vx,T,seval,tV,tC,ag];refine⟨fun k=>Lg ?_,fun k=>Lg ?_⟩
 ·have SI:i<h:=by omega
  have fi:=f i SI;have si:=s i SI;obtain⟨l,qi⟩:=q i SI;obtain⟨r,hr⟩:∃r,r=t.getD i []:=⟨_,rfl⟩;rw[←hr]at fi si qi;simp only[vx,T,seval,tV,tC,ag,←hr];refine⟨⟨by omega,by omega⟩,⟨by omega,by omega⟩,Cg fi ?_⟩;simp only[vx,T,seval,tV,tC,ag,←hr];refine⟨⟨by omega,by omega⟩,⟨by omega,by omega⟩,Cg si ?_⟩;simp only[vx,T,seval,tV,tC,ag,←hr];refine⟨⟨by omega,by omega⟩,⟨by omega,by omega⟩,Cg qi ?_⟩;simp only[vx,T,seval,tV,tC,ag,GC,wi];refine Lq ⟨i+1,by omega⟩ ?_ (by show h-(i+1)<h-i;omega);refine Sa ?_;simp only[ry,seval,rz,tV,tC,ag]
 simp only[vx,T,seval,tV,tC,ag];exact Ve rfl
end
section
variable {A:List R}(S:Go.Tw.Src 64 A)(hA:Go.Tw.oF A){t:List El}{a:El}
include S hA
theorem IT (G:TG A t)(ha:a.length=2^t.length)(hn:R.nn (val t.length t a))(hB:Gd jS t.length t a):
  (∃w,w.length=2^t.length∧val t.length t w=R.sqrt (val t.length t a)∧Pr prog 95 [tV t.length t,eV a] (.aB [tV t.length t,eV w,.one (.int .i64 0)]))∨
  (mv t.length t (val t.length t a)∧Pr prog 95 [tV t.length t,eV a] (.aB [tV (t.length+1) (t++[a]),eV (dL t.length),.one (.int .i64 0)])):=by
 have W:=tR S hA G (O1 _);have hX:jS<2^37:=by decide
 have h3:=W.rq.tq.h6;have sg:=l7 hX W.rq ha hB.sq.sg;have hs:¬bp t.length t a<0:=by
  rw[cA W.rd.rl ha]
  rcases R.dh (val t.length t a)with⟨k,k2⟩|⟨k,k2⟩|⟨k,k2⟩
  ·omega
  ·omega
  exact absurd k hn
 have ro:=ND (h:=t.length) (U:=t++[a]) (by omega);obtain⟨n,SY⟩:∃n,n=t.length:=⟨_,rfl⟩
 rcases Oz hX W ha hB with⟨w,lw,ew,cw⟩|⟨no,c⟩
 ·refine .inl ⟨w,lw,ew,?_⟩;rw[←SY]at sg cw hs⊢;refine pw func95 ⟨[0,1,4,5,6,7,8,9,13,20,25],[]⟩ ?_;simp only[Tryz.f95,ntmps95,iz,seval];simp only[vx,T,seval,tV,tC,eV,ag];refine Cg sg ?_;simp only[vx,T,seval,tV,tC,eV,ag];refine⟨fun h=>absurd h hs,fun _=>Lg ?_⟩;simp only[vx,T,seval,tV,tC,eV,ag];refine Cg cw ?_;simp only[vx,T,seval,tV,tC,eV,ag];exact Ve rfl
 refine .inr ⟨no,?_⟩;obtain⟨u,hu⟩:∃u,u=t++[a]:=⟨_,rfl⟩;have eu:∀i j,i<n+1→j<1→(if i<n then(if i<0 then([]:List C).getD (i*1+j) .any else ag (t.getD (i-0) []))else[ag a].getD ((i-n)*1+j) .any)=ag (u.getD i []):=fun i j hi hj=>by
  obtain rfl:j=0:=by omega
  rw[SY,hu,if_neg (O5 i),Nat.sub_zero]
  by_cases h:i<t.length
  ·rw[if_pos h,Go.Tw.cR h]
  obtain rfl:i=t.length:=by omega
  rw[if_neg h,Go.Tw.fU,Nat.sub_self];rfl
 rw[←hu]at ro⊢;rw[←SY]at sg c ro hs h3⊢;refine pw func95 ⟨[0,1,4,5,6,7,8,9,13,20,25],[]⟩ ?_;simp only[Tryz.f95,ntmps95,iz,seval];simp only[vx,T,seval,tV,tC,eV,ag];refine Cg sg ?_;simp only[vx,T,seval,tV,tC,eV,ag];refine⟨fun h=>absurd h hs,fun _=>Lg ?_⟩;simp only[vx,T,seval,tV,tC,eV,ag];refine Cg c ?_;simp only[vx,T,seval,tV,tC,eV,ag];refine⟨fun h=>absurd h (by omega),fun _=>Lg ?_⟩;simp only[vx,T,seval,tV,tC,eV,ag];refine⟨⟨by omega,by omega⟩,⟨by omega,by omega⟩,Cg (ro.args ⟨.cell (.rows rfl fun i j hi hj=>.of_eq (eu i j hi hj)),.refl _,trivial⟩) ?_⟩;simp only[vx,T,seval,tV,tC,eV,ag];exact fR.aB ⟨.cell (.rows rfl fun i j hi hj=>.of_eq (eu i j hi hj)),.refl _,.refl _,trivial⟩
theorem uU (G:TG A t)(ha:a.length=2^t.length)(hn:R.nn (val t.length t a))(hB:Gd jS t.length t a):
  (∃w,w.length=2^t.length∧val t.length t w=R.sqrt (val t.length t a)∧Pr prog 51 [tV t.length t,eV a] (.aB [tV t.length t,eV w,.one (.int .i64 0)]))∨
  (mv t.length t (val t.length t a)∧Pr prog 51 [tV t.length t,eV a] (.aB [tV (t.length+1) (t++[a]),eV (dL t.length),.one (.int .i64 0)])):=by
 have W:=tR S hA G (O1 _);have hX:jS<2^37:=by decide
 have f:=qj W.rq.tq.tk a ha (.of hB.sq.qb (by omega));have rd:=wJ hX W;have key:∀{m:Nat} {U:List El} {w:El},Pr prog 95 [tV t.length t,eV a] (.aB [tV m U,eV w,.one (.int .i64 0)])→Pr prog 51 [tV t.length t,eV a] (.aB [tV m U,eV w,.one (.int .i64 0)]):=by
  intro m U w c;refine pw func51 ⟨[0,1,4,5,6,15],[]⟩ ?_;simp only[Tryz.f51,ntmps51,iz,seval];simp only[vx,T,seval,tV,tC,eV,ag];refine Cg rd ?_;simp only[vx,T,seval,tV,tC,eV,ag];refine Cg f ?_;simp only[vx,T,seval,tV,tC,eV,ag];refine Cg c ?_;simp only[vx,T,seval,tV,tC,eV,ag];exact Ve rfl
 rcases IT S hA G ha hn hB with⟨w,lw,ew,cw⟩|⟨no,c⟩
 ·exact .inl ⟨w,lw,ew,key cw⟩
 exact .inr ⟨no,key c⟩
end
open Go Go.Eng
open Go.Tw (El aC aH zE aj av QB cM tB val In Rd mv TG bZ bA a9 aY)
theorem Pd (a b:El)(hl:a.length<2^38)(ha:Qk a)(hb:Qk b):Pr prog 187 [eV a,eV b] (.one (.bool (decide (a=b)))):=by
 refine pw func187 ⟨[0,1,4,5,10,14,26],[]⟩ ?_;simp only[Tryz.f187,ntmps187,iz,seval];simp only[vx,T,seval,eV,ag];refine⟨fun h=>Lg ?_,fun h=>Lg ?_⟩
 ·rw[show decide (a=b)=false from decide_eq_false fun e=>h (by rw[e])];simp only[vx,T,seval,eV,ag];exact Ve rfl
 have hlen:a.length=b.length:=by omega
 simp only[vx,T,seval,eV,ag];refine Lk (fun y:{i:Nat//i≤a.length∧∀j,j<i→a.getD j default=b.getD j default}=>⟨[(0,eV a),(1,eV b),(4,.one (.bool false)),(5,.one (.int .i64 y.1))],[],2,27⟩) (fun y=>a.length-y.1) ⟨0,O2 _,fun j hj=>absurd hj (O5 _)⟩ ?_ (fun⟨i,hi,hz⟩=>?_)
 ·refine Sa ?_;simp only[ry,seval,rz,eV,ag]
 have i1:=wI i (by omega);simp only[vx,T,seval,eV,ag];refine⟨fun g=>Lg ?_,fun g=>Lg ?_⟩
 ·have SU:i<a.length:=by omega
  have c:=BE _ _ (ha.get i) (hb.get i);have key:a.getD i default≠b.getD i default→decide (a=b)=false:=fun h=>decide_eq_false fun e=>h (by rw[e]);have TC:a.getD i default=b.getD i default→∀j,j<i+1→a.getD j default=b.getD j default:=fun h0 j hj=>by
   by_cases Ux:j<i
   ·exact hz j Ux
   obtain rfl:j=i:=by omega
   exact h0
  obtain⟨x,hx⟩:∃x,x=a.getD i default:=⟨_,rfl⟩;obtain⟨y,hy⟩:∃y,y=b.getD i default:=⟨_,rfl⟩;rw[←hx,←hy]at c key TC;simp only[vx,T,seval,eV,ag,←hx,←hy,qC];refine⟨by omega,by omega,Cg c ?_⟩;simp only[vx,T,seval,eV,ag];refine⟨fun h=>Lg ?_,fun h=>Lg ?_⟩
  ·rw[key fun e=>h (xi.2 e)];simp only[vx,T,seval,eV,ag];exact Ve rfl
  have e:x=y:=xi.1 (by omega);simp only[vx,T,seval,eV,ag,i1];refine Lq ⟨i+1,by omega,TC e⟩ ?_ (by show a.length-(i+1)<a.length-i;omega);refine Sa ?_;simp only[ry,seval,rz,eV,ag]
 have SU:i=a.length:=by omega
 subst SU;have e:a=b:=by
  refine List.ext_getElem hlen fun j h1 h2=>?_
  have:=hz j h1
  rwa [eY h1,eY h2]at this
 rw[decide_eq_true e];simp only[vx,T,seval,eV,ag];exact Ve rfl
theorem po {h k:Nat}{t u:List El}(tk:Tk h t)(uk:Tk k u):Pr prog 144 [tV h t,tV k u] (.one (.bool (eJ h k t u))):=by
 have h8:=tk.le8;have k8:=uk.le8;refine pw func144 ⟨[0,1,4,5,10,14,26],[]⟩ ?_;simp only[Tryz.f144,ntmps144,iz,seval];simp only[vx,T,seval,tV,tC];refine⟨fun g=>Lg ?_,fun g=>Lg ?_⟩
 ·rw[show eJ h k t u=false by unfold eJ;rw[decide_eq_false (by omega:¬k≤h)];rfl];simp only[vx,T,seval,tV,tC];exact Ve rfl
 have hkh:k≤h:=by omega
 simp only[vx,T,seval,tV,tC];refine Lk (fun y:{i:Nat//i≤k∧∀j,j<i→t.getD j []=u.getD j []}=>⟨[(0,tV h t),(1,tV k u),(4,.one (.bool false)),(5,.one (.int .i64 y.1))],[],2,27⟩) (fun y=>k-y.1) ⟨0,O2 _,fun j hj=>absurd hj (O5 _)⟩ ?_ (fun⟨i,hi,hz⟩=>?_)
 ·refine Sa ?_;simp only[ry,seval,rz,tV,tC]
 have i1:=wI i (by omega);simp only[vx,T,seval,tV,tC];refine⟨fun g2=>Lg ?_,fun g2=>Lg ?_⟩
 ·have Vd:i<k:=by omega
  have c:=Pd (t.getD i []) (u.getD i []) (by rw[tk.len i (by omega)];exact aN (by omega)) (tk.q i (by omega)) (uk.q i Vd);have key:t.getD i []≠u.getD i []→eJ h k t u=false:=fun h0=>by
   unfold eJ;rw[Bool.and_eq_false_iff]
   right
   rw[List.all_eq_false];exact⟨i,List.mem_range.2 Vd,by simpa using h0⟩
  have TC:t.getD i []=u.getD i []→∀j,j<i+1→t.getD j []=u.getD j []:=fun h0 j hj=>by
   by_cases Ux:j<i
   ·exact hz j Ux
   obtain rfl:j=i:=by omega
   exact h0
  obtain⟨x,hx⟩:∃x,x=t.getD i []:=⟨_,rfl⟩;obtain⟨y,hy⟩:∃y,y=u.getD i []:=⟨_,rfl⟩;rw[←hx,←hy]at c key TC
  by_cases e:x=y
  ·rw[decide_eq_true e]at c;simp only[vx,T,seval,tV,tC,ag,←hx,←hy];refine⟨by omega,by omega,Cg c ?_⟩;simp only[vx,T,seval,tV,tC,i1];refine Lq ⟨i+1,by omega,TC e⟩ ?_ (by show k-(i+1)<k-i;omega);refine Sa ?_;simp only[ry,seval,rz,tV,tC]
  rw[decide_eq_false e]at c;rw[key e];simp only[vx,T,seval,tV,tC,ag,←hx,←hy];refine⟨by omega,by omega,Cg c ?_⟩;simp only[vx,T,seval,tV,tC];exact Ve rfl
 have Vd:i=k:=by omega
 subst Vd;rw[show eJ h i t u=true by
  unfold eJ;rw[decide_eq_true hkh,Bool.true_and,List.all_eq_true];exact fun j hj=>decide_eq_true (hz j (List.mem_range.1 hj))]
 simp only[vx,T,seval,tV,tC];exact Ve rfl
theorem yV {h:Nat}{t:List El}{a:El}(hh:h≤8)(hl:a.length≤2^h):Pr prog 146 [tV h t,eV a] (eV (bZ h a)):=by
 have hp:=aN hh;have z:=bc 0 (by decide) (by decide);have hs:=dO (h:=h) hh;have e:bZ h a=a++zE (2^h-a.length):=rfl;rw[e];obtain⟨N,hN⟩:∃N,N=2^h:=⟨_,rfl⟩;rw[←hN]at hs hl hp⊢;refine pw func146 ⟨[0,1,4,5,14],[]⟩ ?_;simp only[Tryz.f146,ntmps146,iz,seval];simp only[vx,T,seval,tV,tC,eV,ag];refine⟨⟨by omega,by omega⟩,?_⟩;refine Lk (fun y:{k:Nat//a.length+k≤N}=>⟨[(0,tV h t),(4,.one .nil),(5,.one (.own 1 4 0 (a.length+y.1)))],[(1,⟨.rows 66 4 (a.length+y.1) (fQ (a++zE y.1)),true⟩)],2,20⟩) (fun y=>N-(a.length+y.1)) ⟨0,by omega⟩ ?_ (fun⟨k,hk⟩=>?_)
 ·refine Sa ?_;simp only[ry,seval,rz,tV,tC,eV,ag];exact fun i j _ _=>by rw[show a++zE 0=a from List.append_nil a,if_neg (O5 _),Nat.sub_zero];rfl
 simp only;simp only[vx,T,seval,tV,tC,eV,ag,hs];refine⟨by omega,?_⟩;refine⟨fun g=>Lg ?_,fun g=>Lg ?_⟩
 ·simp only[vx,T,seval,tV,tC,eV,ag,hs];refine Cg z ?_;simp only[vx,T,seval,tV,tC,eV,ag,hs,QV,QC];refine⟨⟨by omega,by omega⟩,Lq ⟨k+1,by omega⟩ ?_ (by show N-(a.length+(k+1))<N-(a.length+k);omega)⟩;refine Sa ?_;simp only[ry,seval,rz,tV,tC,eV,ag,hs];exact⟨by omega,by omega,by rw[Dx];exact MM (by rw[X6,av])⟩
 simp only[vx,T,seval,tV,tC,eV,ag,hs];have ek:k=N-a.length:=by omega
 rw[←ek];exact fR.cell (dH.rows (by rw[X6,av]) fun i j _ _=>.refl _)
open Go Go.Eng
open Go.Tw (El aC aH zE aj av au ar aa QB cM ai ah tB aU aA val In Rd TG bZ bA a9 aY Ext mv)
theorem HD {B X H:Nat}{U rs:List El}{N:Nat}{a:El}(hN:rs.length=N)(I:Gc B X H 0 U rs)(ha:a.length=2^0)(hq:QB B a):Pr prog 147 [tV H U,tV N rs,eV a] (eV (a9 H U rs 0 a)):=by
 obtain⟨x,rfl⟩:=Go.Tw.bw ha;have hB:=I.hB;have hx:qm x≤B:=hq x (by simp);have f:=(dT (h:=H) (t:=U) I.tq.tk.le8 x).rows;have e:a9 H U rs 0 [x]=aU H x:=rfl;rw[e];refine pw func147 ⟨[0,1,2,6,7,8,9,10,13,27],[]⟩ ?_;simp only[Tryz.f147,ntmps147,iz,seval];simp only[vx,T,seval,tV,tC,eV,ag,QV,QC,qC,X0];refine Cg f ?_;simp only[vx,T,seval,tV,tC,eV,ag,QV,QC,qC,X0];exact Ve rfl
theorem yH {B X H:Nat}{U rs:List El}{N:Nat}(hN:rs.length=N):∀{k:Nat} {a:El},Gc B X H k U rs→k≤rs.length→k≤8→a.length=2^k→QB B a→Pr prog 147 [tV H U,tV N rs,eV a] (eV (a9 H U rs k a))
 |0,a,I,_,_,ha,hq=>HD hN I ha hq
 |k+1,a,I,ZB,Zb,ha,hq=>by
  have I':=I.le (Nat.le_succ k);have Tu:=ai ha;have Ts:=ah ha;have c1:=yH hN I' (by omega) (by omega) Tu (hq.take _);have c2:=yH hN I' (by omega) (by omega) Ts (hq.drop _);have hB:=I.hB;have h3:=I.tq.h6;have hp:=aN (h:=k+1) Zb;have hH:2^H≤64:=O3 (n:=2) (by decide) h3;have hn:(2^k:Nat)≤a.length:=by rw[ha,O4];omega
  have cT:=fF hn;have cD:=e9 (a:=a) (n:=2^k);have c1:=c1.args (xs:=[tV H U,tV N rs,.one (bg a (2^k))]) ⟨.refl _,.refl _,.cell cT,trivial⟩;have c2:=c2.args (xs:=[tV H U,tV N rs,.one (ba a (2^k))]) ⟨.refl _,.refl _,.cell cD,trivial⟩;have hg:∀i,i≤k→(IntKind.i64.wrap (1*2^(if i≤63 then i+1 else 64))<((a.length:Nat):Int)↔i<k):=fun i hi=>by
   have hs:=dO (h:=i+1) (by omega);rw[if_pos (by omega)]at hs⊢;rw[hs,ha]
   constructor
   ·intro h;refine Nat.lt_of_not_le fun h2=>?_
    have:=O3 (n:=2) (by decide) (show k+1≤i+1 by omega)
    omega
   intro h
   have:=Nat.pow_lt_pow_right (a:=2) (by decide) (show i+1<k+1 by omega)
   omega
  obtain⟨n,SY⟩:∃n,n=2^k:=⟨_,rfl⟩;have S9:a.length=2*n:=by rw[ha,O4,SY];omega
  have w2:IntKind.i64.wrap (((a.length:Nat):Int).tdiv 2)=(n:Int):=by
   rw[S9,Int.tdiv_eq_ediv_of_nonneg (by omega),Q4 _ (by omega)];omega
  have w4:((a.length:Int)-(n:Int)).toNat=a.length-n:=by omega
  have SW:¬((a.length:Nat):Int)=1:=by
   have:=Nat.two_pow_pos k
   omega
  refine pw func147 ⟨[0,1,2,6,7,8,9,10,13,27],[]⟩ ?_;simp only[Tryz.f147,ntmps147,iz,seval];simp only[vx,T,seval,tV,tC,eV,ag,bg,ba,QV,QC,w2,w4];refine⟨fun h=>absurd h SW,fun _=>Lg ?_⟩;simp only[vx,T,seval,tV,tC,eV,ag,bg,ba,QV,QC,w2,w4];refine Lk (fun y:{i:Nat//i≤k}=>⟨[(0,tV H U),(1,tV N rs),(2,eV a),(6,.one .nil),(7,.one (.int .i64 n)),(8,.one (.int .i64 y.1))],[],1,54⟩) (fun y=>k-y.1) ⟨0,O2 _⟩ ?_ (fun⟨i,hi⟩=>?_)
  ·refine Sa ?_;simp only[ry,seval,rz,tV,tC,eV,ag]
  simp only;have UR:=hg i hi;have wi:=wI i (by omega);simp only[vx,T,seval,tV,tC,eV,ag,bg,ba,QV,QC,w2,w4,wi];refine⟨by omega,?_⟩;refine⟨fun g=>Lg ?_,fun g=>Lg ?_⟩
  ·have Vd:=UR.1 g;simp only[vx,T,seval,tV,tC,eV,ag,bg,ba,QV,QC,w2,w4,wi];refine Lq ⟨i+1,by omega⟩ ?_ (by show k-(i+1)<k-i;omega);refine Sa ?_;simp only[ry,seval,rz,tV,tC,eV,ag]
  have Vd:i=k:=by
   have:¬i<k:=fun h=>g (UR.2 h)
   omega
  subst Vd;obtain⟨m,hm,lr⟩:=I.r i (by omega);have k1:=(I.m i (by omega) _ Tu (hq.take _)).q.1;have k2:=I.m i (by omega) _ Ts (hq.drop _);have UA:(rs.getD i []).length≤2^H:=by rw[lr];exact O3 (by decide) hm
  have pd:=yV (h:=H) (t:=U) (a:=rs.getD i []) (by omega) UA;have hX:=I.hX;have mu:=(gi I.hX I.tq.tk (aY (H:=H) (T:=U) (rs:=rs) (k:=i) (a:=a.drop (2^i))) (bA UA) k2).rows;have ad:=(tW (h:=H) (t:=U) (a9 H U rs i (a.take (2^i))) _ (by rw[aY];omega) (by rw[aa,aY]) (.of k1 (by omega)) (.of k2.q.2.2 (by omega))).rows;have er:a9 H U rs (i+1) a=aC (a9 H U rs i (a.take (2^i))) (aj H U (a9 H U rs i (a.drop (2^i))) (bZ H (rs.getD i []))):=rfl;rw[←er]at ad;obtain⟨r,hr⟩:∃r,r=a9 H U rs (i+1) a:=⟨_,rfl⟩;obtain⟨x,hx⟩:∃x,x=a9 H U rs i (a.take (2^i)):=⟨_,rfl⟩;obtain⟨y,hy⟩:∃y,y=a9 H U rs i (a.drop (2^i)):=⟨_,rfl⟩;obtain⟨v,hv⟩:∃v,v=rs.getD i []:=⟨_,rfl⟩;obtain⟨p,VU⟩:∃p,p=bZ H v:=⟨_,rfl⟩;rw[←hr,←hx]at ad;rw[←hx]at c1;rw[←hy]at c2;rw[←hr];rw[←hv]at pd;rw[←hy,←hv,←VU]at ad mu;rw[←VU]at pd;obtain⟨z,hz⟩:∃z,z=aj H U y p:=⟨_,rfl⟩;rw[←hz]at ad mu;have SU:i<rs.length:=by omega
  rw[←SY]at c1 c2;clear k1 k2 er hr hx hy VU hz lr UA hm Tu Ts hq;simp only[vx,T,seval,tV,tC,eV,ag,bg,ba,QV,QC,w2,w4,wi,←hv];refine⟨⟨by omega,by omega⟩,Cg c1 ?_⟩;simp only[vx,T,seval,tV,tC,eV,ag,bg,ba,QV,QC,w2,w4,wi,←hv];refine⟨⟨by omega,by omega,by omega⟩,Cg c2 ?_⟩;simp only[vx,T,seval,tV,tC,eV,ag,bg,ba,QV,QC,w2,w4,wi,←hv];refine⟨⟨by omega,by omega⟩,Cg pd ?_⟩;simp only[vx,T,seval,tV,tC,eV,ag,bg,ba,QV,QC,w2,w4,wi,←hv];refine Cg mu ?_;simp only[vx,T,seval,tV,tC,eV,ag,bg,ba,QV,QC,w2,w4,wi,←hv];refine Cg ad ?_;simp only[vx,T,seval,tV,tC,eV,ag,bg,ba,QV,QC,w2,w4,wi,←hv];exact Ve rfl
theorem Du {P:Program}{fn:FuncId}{x y:V}{w n n':Nat}{f g:Nat→Nat→C}{B:Bk}{R:V→Bk→Prop}(h:Mc P fn [x,y,.one (.rows w n' g)] B R)(hc:dH (.rows w n f) (.rows w n' g)):Mc P fn [x,y,.one (.rows w n f)] B R:=
 ⟨h.1,fun ok W vs l h1 h2 h3 h4 Ti=>h.2 ok W vs l h1 h2 h3 h4 (by
  generalize vs.toList=ls at Ti⊢
  match ls,Ti with
  |[_,_,v2],⟨a,b,c,_⟩=>exact⟨a,b,hc ok W v2 c,trivial⟩)⟩
theorem FN {B X H:Nat}{U rs:List El}{N:Nat}{a:El}(hN:rs.length=N)(I:Gc B X H 0 U rs)(ha:a.length=2^0)(hq:QB B a):Mc prog 147 [tV H U,.one (.own 0 1 0 N),eV a] (rB N rs) (Ns rs N (eV (a9 H U rs 0 a))):=by
 obtain⟨x,rfl⟩:=Go.Tw.bw ha;have hB:=I.hB;have hx:qm x≤B:=hq x (by simp);have f:=(dT (h:=H) (t:=U) I.tq.tk.le8 x).rows;have e:a9 H U rs 0 [x]=aU H x:=rfl;rw[e];refine mw func147 ⟨[0,1,2,6,7,8,9,10,13,27],[(7,(.cons 5 [6,7,8,9,10] (.cons 11 [] (.cons 12 [] (.cons 13 [] .nil .nil) .nil) .nil) .nil))]⟩ ?_;simp only[Tryz.f147,ntmps147,iz,seval];simp only[vx,T,seval,rB,tV,tC,eV,ag,QV,QC,qC,X0];refine Cg f ?_;simp only[vx,T,seval,rB,tV,tC,eV,ag,QV,QC,qC,X0];exact⟨rfl,rfl⟩
theorem tM {B X H:Nat}{U rs:List El}{N:Nat}(hN:rs.length=N):∀{k:Nat} {a:El},Gc B X H k U rs→k≤rs.length→k≤8→a.length=2^k→QB B a→Mc prog 147 [tV H U,.one (.own 0 1 0 N),eV a] (rB N rs) (Ns rs N (eV (a9 H U rs k a)))
 |0,a,I,_,_,ha,hq=>FN hN I ha hq
 |k+1,a,I,ZB,Zb,ha,hq=>by
  have I':=I.le (Nat.le_succ k);have Tu:=ai ha;have Ts:=ah ha;have c1:=tM hN I' (by omega) (by omega) Tu (hq.take _);have c2:=tM hN I' (by omega) (by omega) Ts (hq.drop _);have hB:=I.hB;have h3:=I.tq.h6;have hp:=aN (h:=k+1) Zb;have hH:2^H≤64:=O3 (n:=2) (by decide) h3;have hn:(2^k:Nat)≤a.length:=by rw[ha,O4];omega
  have cT:=fF hn;have cD:=e9 (a:=a) (n:=2^k);have c1:Mc prog 147 [tV H U,.one (.own 0 1 0 N),.one (bg a (2^k))] (rB N rs) (Ns rs N (eV (a9 H U rs k (a.take (2^k))))):=Du c1 cT;have c2:Mc prog 147 [tV H U,.one (.own 0 1 0 N),.one (ba a (2^k))] (rB N rs) (Ns rs N (eV (a9 H U rs k (a.drop (2^k))))):=Du c2 cD;have hg:∀i,i≤k→(IntKind.i64.wrap (1*2^(if i≤63 then i+1 else 64))<((a.length:Nat):Int)↔i<k):=fun i hi=>by
   have hs:=dO (h:=i+1) (by omega);rw[if_pos (by omega)]at hs⊢;rw[hs,ha]
   constructor
   ·intro h;refine Nat.lt_of_not_le fun h2=>?_
    have:=O3 (n:=2) (by decide) (show k+1≤i+1 by omega)
    omega
   intro h
   have:=Nat.pow_lt_pow_right (a:=2) (by decide) (show i+1<k+1 by omega)
   omega
  obtain⟨n,SY⟩:∃n,n=2^k:=⟨_,rfl⟩;have S9:a.length=2*n:=by rw[ha,O4,SY];omega
  have w2:IntKind.i64.wrap (((a.length:Nat):Int).tdiv 2)=(n:Int):=by
   rw[S9,Int.tdiv_eq_ediv_of_nonneg (by omega),Q4 _ (by omega)];omega
  have w4:((a.length:Int)-(n:Int)).toNat=a.length-n:=by omega
  have SW:¬((a.length:Nat):Int)=1:=by
   have:=Nat.two_pow_pos k
   omega
  refine mw func147 ⟨[0,1,2,6,7,8,9,10,13,27],[(7,(.cons 5 [6,7,8,9,10] (.cons 11 [] (.cons 12 [] (.cons 13 [] .nil .nil) .nil) .nil) .nil))]⟩ ?_;simp only[Tryz.f147,ntmps147,iz,seval];simp only[vx,T,seval,rB,tV,tC,eV,ag,bg,ba,QV,QC,w2,w4];refine⟨fun h=>absurd h SW,fun _=>Lg ?_⟩;simp only[vx,T,seval,rB,tV,tC,eV,ag,bg,ba,QV,QC,w2,w4];refine Lk (fun y:{i:Nat//i≤k}=>⟨[(0,tV H U),(1,.one (.own 0 1 0 N)),(2,eV a),(6,.one .nil),(7,.one (.int .i64 n)),(8,.one (.int .i64 y.1))],[(0,⟨rB N rs,true⟩)],1,54⟩) (fun y=>k-y.1) ⟨0,O2 _⟩ ?_ (fun⟨i,hi⟩=>?_)
  ·refine Sa ?_;simp only[ry,seval,rz,rB,tV,tC,eV,ag]
  simp only;have UR:=hg i hi;have wi:=wI i (by omega);simp only[vx,T,seval,rB,tV,tC,eV,ag,bg,ba,QV,QC,w2,w4,wi];refine⟨by omega,?_⟩;refine⟨fun g=>Lg ?_,fun g=>Lg ?_⟩
  ·have Vd:=UR.1 g;simp only[vx,T,seval,rB,tV,tC,eV,ag,bg,ba,QV,QC,w2,w4,wi];refine Lq ⟨i+1,by omega⟩ ?_ (by show k-(i+1)<k-i;omega);refine Sa ?_;simp only[ry,seval,rz,rB,tV,tC,eV,ag]
  have Vd:i=k:=by
   have:¬i<k:=fun h=>g (UR.2 h)
   omega
  subst Vd;obtain⟨m,hm,lr⟩:=I.r i (by omega);have k1:=(I.m i (by omega) _ Tu (hq.take _)).q.1;have k2:=I.m i (by omega) _ Ts (hq.drop _);have UA:(rs.getD i []).length≤2^H:=by rw[lr];exact O3 (by decide) hm
  have pd:=yV (h:=H) (t:=U) (a:=rs.getD i []) (by omega) UA;have hX:=I.hX;have mu:=(gi I.hX I.tq.tk (aY (H:=H) (T:=U) (rs:=rs) (k:=i) (a:=a.drop (2^i))) (bA UA) k2).rows;have ad:=(tW (h:=H) (t:=U) (a9 H U rs i (a.take (2^i))) _ (by rw[aY];omega) (by rw[aa,aY]) (.of k1 (by omega)) (.of k2.q.2.2 (by omega))).rows;have er:a9 H U rs (i+1) a=aC (a9 H U rs i (a.take (2^i))) (aj H U (a9 H U rs i (a.drop (2^i))) (bZ H (rs.getD i []))):=rfl;rw[←er]at ad;obtain⟨r,hr⟩:∃r,r=a9 H U rs (i+1) a:=⟨_,rfl⟩;obtain⟨x,hx⟩:∃x,x=a9 H U rs i (a.take (2^i)):=⟨_,rfl⟩;obtain⟨y,hy⟩:∃y,y=a9 H U rs i (a.drop (2^i)):=⟨_,rfl⟩;obtain⟨v,hv⟩:∃v,v=rs.getD i []:=⟨_,rfl⟩;obtain⟨p,VU⟩:∃p,p=bZ H v:=⟨_,rfl⟩;rw[←hr,←hx]at ad;rw[←hx]at c1;rw[←hy]at c2;rw[←hr];rw[←hv]at pd;rw[←hy,←hv,←VU]at ad mu;rw[←VU]at pd;obtain⟨z,hz⟩:∃z,z=aj H U y p:=⟨_,rfl⟩;rw[←hz]at ad mu;have SU:i<rs.length:=by omega
  rw[←SY]at c1 c2;clear k1 k2 er hr hx hy VU hz lr UA hm Tu Ts hq;simp only[vx,T,seval,rB,tV,tC,eV,ag,bg,ba,QV,QC,w2,w4,wi,←hv];refine⟨⟨by omega,by omega⟩,⟨by omega,by omega,by omega⟩,Cm 0 (B:=rB N rs) rfl trivial c1 ?_⟩;rintro _ _ ⟨rfl,rfl⟩ _;simp only[vx,T,seval,rB,tV,tC,eV,ag,bg,ba,QV,QC,w2,w4,wi,←hv];refine⟨⟨by omega,by omega,by omega⟩,Cm 0 (B:=rB N rs) rfl trivial c2 ?_⟩;rintro _ _ ⟨rfl,rfl⟩ _;simp only[vx,T,seval,rB,tV,tC,eV,ag,bg,ba,QV,QC,w2,w4,wi,←hv];refine⟨⟨by omega,by omega⟩,Cg pd ?_⟩;simp only[vx,T,seval,rB,tV,tC,eV,ag,bg,ba,QV,QC,w2,w4,wi,←hv];refine Cg mu ?_;simp only[vx,T,seval,rB,tV,tC,eV,ag,bg,ba,QV,QC,w2,w4,wi,←hv];refine Cg ad ?_;simp only[vx,T,seval,rB,tV,tC,eV,ag,bg,ba,QV,QC,w2,w4,wi,←hv];exact⟨rfl,rfl⟩
open Go Go.Eng
open Go.Tw (El aC aH zE aj av QB cM tB val In Rd mv TG bZ bA a9 aY Ext jS yX)
def RD (u:List El)(i:Nat)(x y:List El×List El):Prop:=
 ∃e w,Mc prog 147 [tV x.1.length x.1,.one (.own 0 1 0 i),eV (u.getD i [])] (rB i x.2) (Ns x.2 i (eV e))∧Pr prog 51 [tV x.1.length x.1,eV e] (.aB [tV y.1.length y.1,eV w,.one (.int .i64 0)])∧y.2=x.2++[w]
section
variable {A:List R}(S:Go.Tw.Src 64 A)(hA:Go.Tw.oF A){t u:List El}
include S hA
theorem CD (G:TG A t)(Gu:TG A u):∃s:Nat→List El×List El,s 0=(t,[])∧(∀i,i≤u.length→LN A t u i (s i))∧∀i,i<u.length→RD u i (s i) (s (i+1)):=by
 have h3:=Gu.my hA;refine Go.Tw.chain (I:=LN A t u) ⟨⟨[],(List.append_nil t).symm⟩,⟨G,rfl,fun i hi=>absurd hi (O5 _)⟩,fun _=>rfl⟩ fun i x hi hx=>?_;obtain⟨U,rs⟩:=x;obtain⟨⟨s,hs⟩,E,SM⟩:=hx;have hs:U=t++s:=hs;have E:Ext A u i U rs:=E;have lu:=(Gu.rd.rl i hi).1;have ci:=tM E.len (GS S hA Gu E (by omega)) (by rw[E.len];exact O1 _) (by omega) lu (Gu.qb S hA hi);have le:(a9 U.length U rs i (u.getD i [])).length=2^U.length:=aY;have ve:=Go.Tw.kn E (O1 _) lu;have hm:val U.length U (a9 U.length U rs i (u.getD i []))∈A:=by rw[ve];exact Gu.mem i hi
 have hp:R.pos (val U.length U (a9 U.length U rs i (u.getD i []))):=by rw[ve];exact(Gu.rd.rl i hi).2
 have rb:=E.tg.RA S hA le hm hp
 rcases uU S hA E.tg le (R.bu.2 (.inr hp)) rb with⟨w,lw,vw,cw⟩|⟨no,c⟩
 ·refine⟨(U,rs++[w]),⟨_,w,ci,cw,rfl⟩,⟨s,hs⟩,?_,fun h=>SM fun j hj=>h j (by omega)⟩
  have:=E.up (S:=[]) (r:=w) (m:=U.length) (by rw[List.append_nil];exact E.tg) (by rw[List.append_nil];exact O1 _) lw (by rw[List.append_nil,vw,ve])
  rwa [List.append_nil]at this
 have G':=E.tg.snoc le hm hp no;have hl:(U++[a9 U.length U rs i (u.getD i [])]).length=U.length+1:=by simp
 refine⟨(U++[a9 U.length U rs i (u.getD i [])],rs++[Go.Tw.dL U.length]),⟨_,Go.Tw.dL U.length,ci,?_,rfl⟩,⟨s++[a9 U.length U rs i (u.getD i [])],by rw[hs,List.append_assoc]⟩,?_,fun h=>?_⟩
 ·show Pr _ _ _ (.aB [tV (U++[a9 U.length U rs i (u.getD i [])]).length _,_,_]);rw[hl];exact c
 ·exact E.up G' (m:=U.length+1) (by rw[hl];exact O1 _) Go.Tw.kQ (by rw[Go.Tw.rM,ve])
 have eU:U=t:=SM fun j hj=>h j (by omega);have Tb:=h i (by omega);rw[←eU]at Tb;refine absurd ?_ (no _ Tb);rw[ve];exact R.cV (R.bu.2 (.inr (Gu.rd.rl i hi).2))
theorem AD (G:TG A t)(Gu:TG A u):∃U rs s,U=t++s∧Ext A u u.length U rs∧((∀j,j<u.length→In t.length t (R.sqrt (val j u (u.getD j []))))→U=t)∧
  Pr prog 145 [tV t.length t,tV u.length u] (.aB [tV U.length U,tV rs.length rs,.one (.int .i64 0)]):=by
 obtain⟨s,e0,hI,hS⟩:=CD S hA G Gu;have h3:=Gu.my hA;obtain⟨⟨z,hz⟩,E,SM⟩:=hI u.length (O1 _);refine⟨(s u.length).1,(s u.length).2,z,hz,E,SM,?_⟩;have hl:∀i,i≤u.length→(s i).2.length=i:=fun i hi=>(hI i hi).2.1.len;have Xv:∀i,i≤u.length→(s i).1.length≤6:=fun i hi=>(hI i hi).2.1.tg.my hA;have e1:(s 0).1=t:=by rw[e0]
 rw[←e1];clear e0 e1 hI hz E SM;obtain⟨n,hn⟩:∃n,n=u.length:=⟨_,rfl⟩;rw[←hn]at hS h3 hl Xv⊢;rw[hl n (O1 n)];refine pw func145 ⟨[0,1,4,5,6,7,8,9,10,11,15,32],[]⟩ ?_;simp only[Tryz.f145,ntmps145,iz,seval];simp only[vx,T,seval,tV,tC,eV,ag];refine Lk (fun y:{i:Nat//i≤n}=>⟨[(0,tV (s y.1).1.length (s y.1).1),(1,tV n u),(4,.one .nil),(5,.one .nil),(6,.one (.int .i64 0)),(7,.one (.own 1 1 0 y.1)),(8,.one (.int .i64 y.1))],[(1,⟨.rows 54 1 y.1 (fun j _=>ag ((s y.1).2.getD j [])),true⟩)],2,41⟩) (fun y=>n-y.1) ⟨0,O2 _⟩ ?_ (fun⟨i,hi⟩=>?_)
 ·refine Sa ?_;simp only[ry,seval,rz,tV,tC,eV,ag]
 simp only;have wi:=wI i (by omega);simp only[vx,T,seval,tV,tC,eV,ag,wi];refine⟨fun g=>Lg ?_,fun g=>Lg ?_⟩
 ·have SU:i<n:=by omega
  obtain⟨e,w,ci,ca,er⟩:=hS i SU;have Ub:=hl i hi;have h3i:=Xv i hi;obtain⟨v,hv⟩:∃v,v=u.getD i []:=⟨_,rfl⟩;rw[←hv]at ci;obtain⟨U,hU⟩:∃U,U=(s i).1:=⟨_,rfl⟩;obtain⟨rs,Ud⟩:∃rs,rs=(s i).2:=⟨_,rfl⟩;rw[←Ud]at er Ub;rw[←hU,←Ud]at ci;rw[←hU]at ca h3i;rw[←hU,←Ud];simp only[vx,T,seval,tV,tC,eV,ag,←hv];refine⟨⟨by omega,by omega⟩,Cm 1 (B:=rB i rs) rfl trivial ci ?_⟩;rintro _ _ ⟨rfl,rfl⟩ _;simp only[vx,T,seval,rB,tV,tC,eV,ag,←hv];refine Cg ca ?_;simp only[vx,T,seval,rB,tV,tC,eV,ag,←hv,wi];have es:(s (i+1)).2=rs++[w]:=er;have e1:∀j,j<i→(rs++[w]).getD j []=rs.getD j []:=fun j hj=>Go.Tw.cR (by omega);have e2:(rs++[w]).getD i []=w:=by rw[←Ub];exact Go.Tw.fU
  refine⟨⟨by omega,by omega⟩,Lq ⟨i+1,by omega⟩ ?_ (by show n-(i+1)<n-i;omega)⟩;refine Sa ?_;simp only[ry,seval,rz,tV,tC,eV,ag];rw[es];intro k j hk hj;obtain rfl:j=0:=by omega
  by_cases Wf:k<i
  ·rw[if_pos Wf,e1 k Wf]
  obtain rfl:k=i:=by omega
  rw[if_neg Wf,e2,Nat.sub_self];rfl
 have SU:i=n:=by omega
 subst SU;simp only[vx,T,seval,tV,tC,eV,ag,wi];exact Ve rfl
end
open Go Go.Eng
open Go.Tw (El aC aH zE aj av au ar aa QB cM tB val In Rd mv TG bZ bA a9 aY Ext jS yX ax qN mr)
theorem bE {t u:List El}:eJ t.length u.length t u=true↔∃s,t=u++s:=by
 unfold eJ;rw[Bool.and_eq_true,decide_eq_true_eq,List.all_eq_true]
 constructor
 ·rintro⟨h1,h2⟩;refine⟨t.drop u.length,?_⟩;have e:t.take u.length=u:=by
   refine List.ext_getElem (by rw[X5];omega) fun i k1 k2=>?_
   have:=of_decide_eq_true (h2 i (List.mem_range.2 k2))
   rw[X7,X7,X8 (by omega),X8 k2]at this;rw[List.getElem_take];exact this
  conv=>lhs;rw[←List.take_append_drop u.length t,e]
 rintro⟨s,rfl⟩;exact⟨by rw[X6];omega,fun i hi=>decide_eq_true (Go.Tw.cR (List.mem_range.1 hi))⟩
theorem Qk.pad {h:Nat}{a:El}(hq:Qk a):Qk (bZ h a):=fun x hx=>by
 rcases List.mem_append.1 hx with hx|hx
 ·exact hq x hx
 rw[List.eq_of_mem_replicate hx];decide+kernel
theorem B5 (x y:List El×El):dH (.rows 2 2 (fun i j=>[tC x.1.length x.1,ag x.2,tC y.1.length y.1,ag y.2].getD (i*2+j) .any)) (bP [x,y]):=by
 refine dH.rows rfl fun i j hi hj=>dH.of_eq ?_
 match i,hi,j,hj with
 |0,_,0,_=>rfl
 |0,_,1,_=>rfl
 |1,_,0,_=>rfl
 |1,_,1,_=>rfl
theorem lX (f:FuncId)(x y:List El×El)(U:List El)(ea eb ec:El)(hj:Pr prog 74 [.one (bP [x,y])] (.aB [.one (bP [(U,ea),(U,eb)]),.one (.int .i64 0)]))
  (hf:Pr prog f [tV U.length U,eV ea,eV eb] (eV ec)):Pr prog 176 [nX x,nX y,.one (.fn f 0 (fun _=>.any))] (.aB [nX (U,ec),.one (.int .i64 0)]):=by
 have hj:=hj.HY (B5 x y);refine pw func176 ⟨[0,1,2,3,4,6,7,8,9,10,19],[]⟩ ?_;simp only[Tryz.f176,ntmps176,iz,seval];simp only[vx,T,seval,nX,nV,tC,eV,ag];refine Cg hj ?_
 simp(config:={maxSteps:=400000}) only[vx,T,seval,bP,eZ,bC,tC,ag,X0,X1]
 refine Cg hf ?_;simp only[vx,T,seval,eV,ag];exact Ve rfl
theorem KT (x y:List El×El)(U:List El)(ea eb ec:El)(hj:Pr prog 74 [.one (bP [x,y])] (.aB [.one (bP [(U,ea),(U,eb)]),.one (.int .i64 0)]))
  (hf:Pr prog 169 [tV U.length U,eV ea,eV eb] (eV ec)):Pr prog 128 [nX x,nX y] (.aB [nX (U,ec),.one (.int .i64 0)]):=by
 have c:=lX _ x y U ea eb ec hj hf;refine pw func128 ⟨[0,1,2,3,4,5],[]⟩ ?_;simp only[Tryz.f128,ntmps128,iz,seval];simp only[vx,T,seval,nX,nV,tC,eV,ag];refine Cg c ?_;simp only[vx,T,seval,nX,nV,tC,eV,ag];exact Ve rfl
theorem LC (x y:List El×El)(U:List El)(ea eb ec:El)(hj:Pr prog 74 [.one (bP [x,y])] (.aB [.one (bP [(U,ea),(U,eb)]),.one (.int .i64 0)]))
  (hf:Pr prog 168 [tV U.length U,eV ea,eV eb] (eV ec)):Pr prog 130 [nX x,nX y] (.aB [nX (U,ec),.one (.int .i64 0)]):=by
 have c:=lX _ x y U ea eb ec hj hf;refine pw func130 ⟨[0,1,2,3,4,5],[]⟩ ?_;simp only[Tryz.f130,ntmps130,iz,seval];simp only[vx,T,seval,nX,nV,tC,eV,ag];refine Cg c ?_;simp only[vx,T,seval,nX,nV,tC,eV,ag];exact Ve rfl
end Go.Proofs.YtehahgjkjfoebaaGreat
namespace Go.Tw
open Go Go.Eng
theorem ax.pad {A:List R}{t s:List El}{a:El}{x:R}{β μ:Nat}(h:ax A t a x β μ)(G:TG A (t++s)):ax A (t++s) (bZ (t++s).length a) x β μ:=by
 have hl:t.length≤(t++s).length:=by rw[X6];omega
 refine⟨G,bA (by rw[h.len];exact O3 (by decide) hl),?_,h.sz⟩;rw[Go.Tw.pr h.len hl,Go.Tw.eF (O1 _),h.val]
theorem ax.image {A:List R}{t U rs:List El}{a:El}{x:R}{β μ:Nat}(h:ax A t a x β μ)(E:Ext A t t.length U rs):ax A U (a9 U.length U rs t.length a) x β μ:=
 ⟨E.tg,aY,by rw[Go.Tw.kn E (O1 _) h.len,h.val],h.sz⟩
end Go.Tw
namespace Go.Proofs.YtehahgjkjfoebaaGreat
open Go.Proofs.Tryz
open Go Go.Eng
open Go.Tw (El aC aH zE aj av au ar aa QB cM tB val In Rd mv TG bZ bA a9 aY Ext jS yX ax qN mr jβ jμ)
theorem H6:Tk 0 []:=⟨by decide,fun i h=>absurd h (O5 _),fun i h=>absurd h (O5 _)⟩
def Sm (β μ:Nat):Prop:=qN β μ<2^37
theorem Sm.of {β μ:Nat}(h1:β≤2^22)(h2:μ≤1000):Sm β μ:=by unfold Sm qN;omega
theorem Sm.mono {β μ β' μ':Nat}(H:Sm β' μ')(h1:β≤β')(h2:μ≤μ'):Sm β μ:=Nat.lt_of_le_of_lt (Go.Tw.KU h1 h2) H
section
variable {A:List R}(S:Go.Tw.Src 64 A)(hA:Go.Tw.oF A)
include S hA
theorem iL {t:List El}{a:El}{x:R}{β μ:Nat}(h:ax A t a x β μ)(hs:Sm β μ):Qk a:=.of (h.qb S hA) (Nat.lt_trans hs (by decide))
theorem jr {t:List El}(G:TG A t):Tk t.length t:=(mi S hA G).tk
theorem D8 {x y:List El×El}{vx vy:R}{βx μx βy μy:Nat}(hx:ax A x.1 x.2 vx βx μx)(hy:ax A y.1 y.2 vy βy μy)(sx:Sm βx μx)(sy:Sm βy μy)(h1:βy≤jβ)(h2:μy≤jμ):
  ∃U ea eb,ax A U ea vx βx μx∧ax A U eb vy βy μy∧(∀z,In x.1.length x.1 z→In U.length U z)∧(∀z,In y.1.length y.1 z→In U.length U z)∧
   Pr prog 74 [.one (bP [x,y])] (.aB [.one (bP [(U,ea),(U,eb)]),.one (.int .i64 0)]):=by
 have xk:=jr S hA hx.tg;have yk:=jr S hA hy.tg;have x3:=hx.tg.my hA;have y3:=hy.tg.my hA;have s0:wx [] x.1 x.1:=by
  by_cases h:x.1=[]
  ·rw[h];exact .inl ⟨bE.2 ⟨[],rfl⟩,rfl⟩
  refine .inr (.inl ⟨?_,bE.2 ⟨x.1,rfl⟩,rfl⟩);refine Bool.eq_false_iff.2 fun k=>?_;obtain⟨s,e⟩:=bE.1 k;exact h (List.append_eq_nil_iff.1 e.symm).1
 -- what is shown of the common tower
 have fin:∀(U eb:_) (s:List El),U=x.1++s→wx x.1 y.1 U→TG A U→ax A U eb vy βy μy→(∀z,In y.1.length y.1 z→In U.length U z)→wK U y eb→
   ∃U ea eb,ax A U ea vx βx μx∧ax A U eb vy βy μy∧(∀z,In x.1.length x.1 z→In U.length U z)∧(∀z,In y.1.length y.1 z→In U.length U z)∧
    Pr prog 74 [.one (bP [x,y])] (.aB [.one (bP [(U,ea),(U,eb)]),.one (.int .i64 0)]):=by
  intro U eb s hU st G nb iy sj;have uk:=jr S hA G;have na:ax A U (bZ U.length x.2) vx βx μx:=by rw[hU]at G⊢;exact hx.pad G
  have ul:=G.my hA;have pl:∀{e:El},e.length=2^U.length→e.length<2^38:=fun h=>by rw[h];exact aN (by omega)
  refine⟨U,bZ U.length x.2,eb,na,nb,fun z hz=>?_,iy,?_⟩
  ·rw[hU];exact((Go.Tw.j7 (O1 _) z).2 hz).le (by rw[X6];omega)
  have cm:=se [x,y] (by simp) (fun i=>if i=0 then[]else if i=1 then x.1 else U) rfl (fun i hi=>by
    match i,hi with
    |0,_=>exact H6
    |1,_=>exact xk
    |2,_=>exact uk) (fun i hi=>by
    match i,hi with
    |0,_=>exact xk
    |1,_=>exact yk) (fun i hi=>by
    match i,hi with
    |0,_=>exact s0
    |1,_=>exact st)
  refine F9 [x,y] [(U,bZ U.length x.2),(U,eb)] (by simp) rfl U uk (fun i hi=>by
    match i,hi with
    |0,_=>exact xk
    |1,_=>exact yk) cm fun i hi=>?_
  match i,hi with
  |0,_=>
   refine⟨rfl,pl na.len,iL S hA na sx,.inl ⟨bE.2 ⟨s,hU⟩,?_⟩⟩;refine nu (by omega) ?_ ?_
   ·show 0<x.2.length;rw[hx.len];exact Nat.two_pow_pos _
   show x.2.length≤_;rw[hx.len,hU,X6];exact O3 (by decide) (by omega)
  |1,_=>exact⟨rfl,pl nb.len,iL S hA nb sy,sj⟩
 have ypos:0<y.2.length:=by rw[hy.len];exact Nat.two_pow_pos _
 -- padding y
 have padY:∀(U s:List El),U=y.1++s→TG A U→ax A U (bZ U.length y.2) vy βy μy∧(∀z,In y.1.length y.1 z→In U.length U z)∧wK U y (bZ U.length y.2):=by
  intro U s hU G;have ul:=G.my hA;refine⟨by rw[hU]at G⊢;exact hy.pad G,fun z hz=>?_,.inl ⟨bE.2 ⟨s,hU⟩,nu (by omega) ypos ?_⟩⟩
  ·rw[hU];exact((Go.Tw.j7 (O1 _) z).2 hz).le (by rw[X6];omega)
  rw[hy.len,hU,X6];exact O3 (by decide) (by omega)
 cases hb:eJ x.1.length y.1.length x.1 y.1 with
 |true=>
  obtain⟨s,e⟩:=bE.1 hb;obtain⟨p1,p2,p3⟩:=padY x.1 s e hx.tg;exact fin x.1 _ [] (List.append_nil _).symm (.inl ⟨hb,rfl⟩) hx.tg p1 p2 p3
 |false=>
  cases Tq:eJ y.1.length x.1.length y.1 x.1 with
  |true=>
   obtain⟨s,e⟩:=bE.1 Tq;obtain⟨p1,p2,p3⟩:=padY y.1 [] (List.append_nil _).symm hy.tg;exact fin y.1 _ s e (.inr (.inl ⟨hb,Tq,rfl⟩)) hy.tg p1 p2 p3
  |false=>
   obtain⟨U,rs,s,eU,E,_,c⟩:=jW S hA hx.tg hy.tg;have st:wx x.1 y.1 U:=.inr (.inr ⟨hb,Tq,rs,c⟩)
   cases hbu:eJ U.length y.1.length U y.1 with
   |true=>
    obtain⟨s',e'⟩:=bE.1 hbu;obtain⟨p1,p2,p3⟩:=padY U s' e' E.tg;exact fin U _ s eU st E.tg p1 p2 p3
   |false=>
    obtain⟨U',rs',s',eU',E',SM,c'⟩:=jW S hA E.tg hy.tg;obtain rfl:U'=U:=SM fun j hj=>E.EG hj;obtain⟨_,_,n1,n2,qb,I⟩:=hy.Ru S hA h1 h2 E';have tq:=mi S hA E'.tg;have im:=mf (a:=y.2) ⟨tq,n1,n2,I.r,I.m⟩ (by rw[E'.len];exact O1 _) (by omega) hy.len qb;exact fin U' _ s eU st E.tg (hy.image E') (fun z hz=>In.CR E' (O1 _) hz) (.inr ⟨hbu,U',rs',c',im⟩)
theorem E6 {x y:List El×El}{vx vy:R}{βx μx βy μy:Nat}(hx:ax A x.1 x.2 vx βx μx)(hy:ax A y.1 y.2 vy βy μy)(sx:Sm βx μx)(sy:Sm βy μy)(h1:βy≤jβ)(h2:μy≤jμ):
  ∃z:List El×El,ax A z.1 z.2 (vx+vy) (βx+βy+1) (μx+μy)∧Pr prog 128 [nX x,nX y] (.aB [nX z,.one (.int .i64 0)]):=by
 obtain⟨U,ea,eb,na,nb,_,_,j⟩:=D8 S hA hx hy sx sy h1 h2;refine⟨(U,aC ea eb),⟨na.tg,ar na.len nb.len,by rw[←na.val,←nb.val];exact Go.Tw.val_add na.len nb.len,na.sz.add nb.sz⟩,?_⟩;exact KT x y U ea eb _ j (kF (jr S hA na.tg) _ _ na.len nb.len (iL S hA na sx) (iL S hA nb sy))
theorem FI {x y:List El×El}{vx vy:R}{βx μx βy μy:Nat}(hx:ax A x.1 x.2 vx βx μx)(hy:ax A y.1 y.2 vy βy μy)(sx:Sm βx μx)(sy:Sm βy μy)(h1:βy≤jβ)(h2:μy≤jμ)
  (hm:Sm (βx+βy) (μx+μy)):
  ∃z:List El×El,ax A z.1 z.2 (vx*vy) (βx+βy) (μx+μy)∧Pr prog 130 [nX x,nX y] (.aB [nX z,.one (.int .i64 0)]):=by
 obtain⟨U,ea,eb,na,nb,_,_,j⟩:=D8 S hA hx hy sx sy h1 h2;refine⟨(U,aj U.length U ea eb),⟨na.tg,aa,by rw[←na.val,←nb.val];exact Go.Tw.val_mul na.tg.rd.rl na.len nb.len,na.sz.mul nb.sz⟩,?_⟩;exact LC x y U ea eb _ j (fv hm (mi S hA na.tg).tk _ _ na.len nb.len (na.PC S hA nb))
end
open Go Go.Eng
open Go.Tw (El aC aH zE aj av au ar aa QB cM tB val In Rd mv TG bZ bA a9 aY Ext jS yX ax qN mr jβ jμ)
def QY (t x t':List El):Prop:=
 (t.length<x.length∧eJ x.length t.length x t=true∧t'=x)∨(¬t.length<x.length∧eJ t.length x.length t x=true∧t'=t)∨
 ((t.length<x.length→eJ x.length t.length x t=false)∧eJ t.length x.length t x=false∧∃rs:List El,Pr prog 145 [tV t.length t,tV x.length x] (.aB [tV t'.length t',tV rs.length rs,.one (.int .i64 0)]))
def PR (U:List El)(x:List El×El)(e:El):Prop:=
 (eJ U.length x.1.length U x.1=true∧Pr prog 146 [tV U.length U,eV x.2] (eV e))∨
 (eJ U.length x.1.length U x.1=false∧∃V rs:List El,Pr prog 145 [tV U.length U,tV x.1.length x.1] (.aB [tV V.length V,tV rs.length rs,.one (.int .i64 0)])∧Pr prog 147 [tV U.length U,tV rs.length rs,eV x.2] (eV e))
theorem zO (l os:List (List El×El))(hl:l.length<2^30)(WD:os.length=l.length)(tt:Nat→List El)(h0:tt 0=[])(tk:∀i,i≤l.length→Tk (tt i).length (tt i))(xk:∀i,i<l.length→Tk (l.getD i default).1.length (l.getD i default).1)
  (sc:∀i,i<l.length→QY (tt i) (l.getD i default).1 (tt (i+1)))
  (st:∀i,i<l.length→(os.getD i default).1=tt l.length∧(os.getD i default).2.length<2^38∧PR (tt l.length) (l.getD i default) (os.getD i default).2):
  Pr prog 96 [.one (bP l)] (.aB [.one (bP os),.one (.int .i64 0)]):=by
 have e0:(tt 0).length=0:=by rw[h0];rfl
 have uk:=tk l.length (O1 _);have u8:=uk.le8;refine pw func96 ⟨[0,2,3,4,5,6,8,9,10,11,13,18,38,51,64,70,81],[]⟩ ?_;simp only[Tryz.f96,ntmps96,iz,seval];simp only[vx,T,seval,bP];refine Lk (fun y:{i:Nat//i≤l.length}=>⟨[(0,.one (bP l)),(2,.one .nil),(3,.one (.int .i64 0)),(4,tV (tt y.1).length (tt y.1)),(5,.one (.int .i64 y.1))],[],1,115⟩) (fun y=>l.length-y.1) ⟨0,O2 _⟩ ?_ (fun⟨i,hi⟩=>?_)
 ·refine Sa ?_;simp only[ry,seval,rz,bP,tV,tC,e0]
 simp only;have wi:=wI i (by omega);simp only[vx,T,seval,bP,tV,tC,wi];refine⟨fun g=>Lg ?_,fun g=>Lg ?_⟩
 ·have SU:i<l.length:=by omega
  have sti:=sc i SU;have b1:=po (tk i hi) (xk i SU);have b2:=po (xk i SU) (tk i hi);have t8:=(tk i hi).le8;have x8:=(xk i SU).le8;obtain⟨x,hx⟩:∃x,x=l.getD i default:=⟨_,rfl⟩;rw[←hx]at sti b1 b2 x8;obtain⟨t,ht⟩:∃t,t=tt i:=⟨_,rfl⟩;rw[←ht]at sti b1 b2 t8;obtain⟨t',Vb⟩:∃t',t'=tt (i+1):=⟨_,rfl⟩;rw[←Vb]at sti;rw[←ht];clear uk u8 WD st;simp only[vx,T,seval,bP,eZ,bC,tV,tC,←hx,wi];have mea:l.length-(i+1)<l.length-i:=by omega
  rcases sti with⟨g0,g1,e⟩|⟨g0,g1,e⟩|⟨g0,g1,rs,c⟩
  ·have b3:=po (xk i SU) (tk i hi);rw[←hx,←ht,g1]at b3;refine⟨by omega,fun _=>Lg ?_,fun h=>absurd (by omega) h⟩;simp only[vx,T,seval,bP,eZ,bC,tV,tC,←hx,wi]
   first|refine Cg b3 ?_|refine ⟨by omega,Cg b3 ?_⟩
   simp only[vx,T,seval,bP,eZ,bC,tV,tC,←hx,wi]
   first|refine Lq ⟨i+1,by omega⟩ ?_ mea|refine ⟨by omega,Lq ⟨i+1,by omega⟩ ?_ mea⟩
   refine Sa ?_;simp only[ry,seval,rz,bP,tV,tC,←Vb,e]
  ·rw[g1]at b1;refine⟨by omega,fun h=>absurd h (by omega),fun _=>Lg ?_⟩;simp only[vx,T,seval,bP,eZ,bC,tV,tC,←hx,wi]
   first|refine Cg b1 ?_|refine ⟨by omega,Cg b1 ?_⟩
   simp only[vx,T,seval,bP,eZ,bC,tV,tC,←hx,wi]
   first|refine Lq ⟨i+1,by omega⟩ ?_ mea|refine ⟨by omega,Lq ⟨i+1,by omega⟩ ?_ mea⟩
   refine Sa ?_;simp only[ry,seval,rz,bP,tV,tC,←Vb,e]
  rw[g1]at b1;refine⟨by omega,fun h=>Lg ?_,fun _=>Lg ?_⟩
  ·rw[g0 (by omega)]at b2;simp only[vx,T,seval,bP,eZ,bC,tV,tC,←hx,wi]
   first|refine Cg b2 ?_|refine ⟨by omega,Cg b2 ?_⟩
   simp only[vx,T,seval,bP,eZ,bC,tV,tC,←hx,wi]
   first|refine Cg b1 ?_|refine ⟨by omega,Cg b1 ?_⟩
   simp only[vx,T,seval,bP,eZ,bC,tV,tC,←hx,wi]
   first|refine Cg c ?_|refine ⟨by omega,Cg c ?_⟩
   simp only[vx,T,seval,bP,eZ,bC,tV,tC,←hx,wi]
   first|refine Lq ⟨i+1,by omega⟩ ?_ mea|refine ⟨by omega,Lq ⟨i+1,by omega⟩ ?_ mea⟩
   refine Sa ?_;simp only[ry,seval,rz,bP,tV,tC,←Vb]
  simp only[vx,T,seval,bP,eZ,bC,tV,tC,←hx,wi]
  first|refine Cg b1 ?_|refine ⟨by omega,Cg b1 ?_⟩
  simp only[vx,T,seval,bP,eZ,bC,tV,tC,←hx,wi]
  first|refine Cg c ?_|refine ⟨by omega,Cg c ?_⟩
  simp only[vx,T,seval,bP,eZ,bC,tV,tC,←hx,wi]
  first|refine Lq ⟨i+1,by omega⟩ ?_ mea|refine ⟨by omega,Lq ⟨i+1,by omega⟩ ?_ mea⟩
  refine Sa ?_;simp only[ry,seval,rz,bP,tV,tC,←Vb]
 have SU:i=l.length:=by omega
 subst SU;clear sc wi;obtain⟨U,hU⟩:∃U,U=tt l.length:=⟨_,rfl⟩;rw[←hU]at st uk u8⊢;simp only[vx,T,seval,bP,tV,tC];refine Lk (fun y:{i:Nat//i≤l.length}=>⟨[(0,.one (bP l)),(2,.one .nil),(3,.one (.int .i64 0)),(4,tV U.length U),(9,.one (.own 1 2 0 y.1)),(10,.one (.int .i64 y.1))],[(1,⟨.rows 56 2 y.1 (eZ (os.take y.1)),true⟩)],2,115⟩) (fun y=>l.length-y.1) ⟨0,O2 _⟩ ?_ (fun⟨i,hi⟩=>?_)
 ·refine Sa ?_;simp only[ry,seval,rz,bP,tV,tC]
 simp only;have wi:=wI i (by omega);simp only[vx,T,seval,bP,tV,tC,wi];refine⟨fun g=>Lg ?_,fun g=>Lg ?_⟩
 ·have SU:i<l.length:=by omega
  obtain⟨s1,s2,sj⟩:=st i SU;have b1:=po uk (xk i SU);have S1:os.take (i+1)=os.take i++[os.getD i default]:=by rw[List.take_add_one,X7,X8 (by omega)];rfl
  have Zc:(os.take i).length=i:=by rw[X5];omega
  have sn:=tQ Zc (os.getD i default);rw[←S1]at sn;obtain⟨x,hx⟩:∃x,x=l.getD i default:=⟨_,rfl⟩;rw[←hx]at sj b1;obtain⟨o,ho⟩:∃o,o=os.getD i default:=⟨_,rfl⟩;rw[←ho]at s1 s2 sj sn;rw[s1]at sn;have mea:l.length-(i+1)<l.length-i:=by omega
  rcases sj with⟨g1,c⟩|⟨g1,V,rs,c,d⟩
  ·rw[g1]at b1;simp only[vx,T,seval,bP,eZ,bC,tV,tC,←hx,wi]
   first|refine Cg b1 ?_|refine ⟨by omega,Cg b1 ?_⟩
   simp only[vx,T,seval,bP,eZ,bC,tV,tC,←hx,wi]
   first|refine Cg c ?_|refine ⟨by omega,Cg c ?_⟩
   simp only[vx,T,seval,bP,eZ,bC,tV,tC,eV,ag,←hx,wi];refine⟨⟨by omega,by omega⟩,Lq ⟨i+1,by omega⟩ ?_ mea⟩;refine Sa ?_;simp only[ry,seval,rz,bP,tV,tC,ag];exact sn
  rw[g1]at b1;simp only[vx,T,seval,bP,eZ,bC,tV,tC,←hx,wi]
  first|refine Cg b1 ?_|refine ⟨by omega,Cg b1 ?_⟩
  simp only[vx,T,seval,bP,eZ,bC,tV,tC,←hx,wi]
  first|refine Cg c ?_|refine ⟨by omega,Cg c ?_⟩
  simp only[vx,T,seval,bP,eZ,bC,tV,tC,eV,ag,←hx,wi]
  first|refine Cg d ?_|refine ⟨by omega,Cg d ?_⟩
  simp only[vx,T,seval,bP,eZ,bC,tV,tC,eV,ag,←hx,wi];refine⟨⟨by omega,by omega⟩,Lq ⟨i+1,by omega⟩ ?_ mea⟩;refine Sa ?_;simp only[ry,seval,rz,bP,tV,tC,ag];exact sn
 have SU:i=l.length:=by omega
 subst SU;have e:os.take l.length=os:=by rw[←WD,List.take_length]
 simp only[vx,T,seval,bP,tV,tC,wi,e];rw[WD];exact fR.refl _
open Go Go.Eng
open Go.Tw (El aC aH zE aj av au ar aa QB cM tB val In Rd mv TG bZ bA a9 aY Ext jS yX ax qN mr jβ jμ)
section
variable {A:List R}(S:Go.Tw.Src 64 A)(hA:Go.Tw.oF A)
include S hA
theorem G1 {x y:List El×El}{vx vy:R}{βx μx βy μy:Nat}(hx:ax A x.1 x.2 vx βx μx)(hy:ax A y.1 y.2 vy βy μy)(sx:Sm βx μx)(sy:Sm βy μy)(h1:βy≤jβ)(h2:μy≤jμ):
  ∃U ea eb,ax A U ea vx βx μx∧ax A U eb vy βy μy∧(∀z,In x.1.length x.1 z→In U.length U z)∧(∀z,In y.1.length y.1 z→In U.length U z)∧
   Pr prog 96 [.one (bP [x,y])] (.aB [.one (bP [(U,ea),(U,eb)]),.one (.int .i64 0)]):=by
 have xk:=jr S hA hx.tg;have yk:=jr S hA hy.tg;have x3:=hx.tg.my hA;have y3:=hy.tg.my hA;have s0:QY [] x.1 x.1:=by
  by_cases h:x.1=[]
  ·rw[h];exact .inr (.inl ⟨Nat.lt_irrefl _,bE.2 ⟨[],rfl⟩,rfl⟩)
  exact .inl ⟨List.length_pos_iff.2 h,bE.2 ⟨x.1,rfl⟩,rfl⟩
 -- what is shown of the common tower
 have fin:∀(U eb:_) (s:List El),U=x.1++s→QY x.1 y.1 U→TG A U→ax A U eb vy βy μy→(∀z,In y.1.length y.1 z→In U.length U z)→PR U y eb→
   ∃U ea eb,ax A U ea vx βx μx∧ax A U eb vy βy μy∧(∀z,In x.1.length x.1 z→In U.length U z)∧(∀z,In y.1.length y.1 z→In U.length U z)∧
    Pr prog 96 [.one (bP [x,y])] (.aB [.one (bP [(U,ea),(U,eb)]),.one (.int .i64 0)]):=by
  intro U eb s hU st G nb iy sj;have uk:=jr S hA G;have na:ax A U (bZ U.length x.2) vx βx μx:=by rw[hU]at G⊢;exact hx.pad G
  have ul:=G.my hA;have pl:∀{e:El},e.length=2^U.length→e.length<2^38:=fun h=>by rw[h];exact aN (by omega)
  refine⟨U,bZ U.length x.2,eb,na,nb,fun z hz=>?_,iy,?_⟩
  ·rw[hU];exact((Go.Tw.j7 (O1 _) z).2 hz).le (by rw[X6];omega)
  refine zO [x,y] [(U,bZ U.length x.2),(U,eb)] (by simp) rfl (fun i=>if i=0 then[]else if i=1 then x.1 else U) rfl (fun i hi=>by
    match i,hi with
    |0,_=>exact H6
    |1,_=>exact xk
    |2,_=>exact uk) (fun i hi=>by
    match i,hi with
    |0,_=>exact xk
    |1,_=>exact yk) (fun i hi=>by
    match i,hi with
    |0,_=>exact s0
    |1,_=>exact st) fun i hi=>?_
  have l0:PR U x (bZ U.length x.2):=.inl ⟨bE.2 ⟨s,hU⟩,yV (by omega) (by
   show x.2.length≤_;rw[hx.len,hU,X6];exact O3 (by decide) (by omega))⟩
  show _=U∧_∧PR U _ _
  match i,hi with
  |0,_=>exact⟨rfl,pl na.len,l0⟩
  |1,_=>exact⟨rfl,pl nb.len,sj⟩
 -- padding y
 have padY:∀(U s:List El),U=y.1++s→TG A U→ax A U (bZ U.length y.2) vy βy μy∧(∀z,In y.1.length y.1 z→In U.length U z)∧PR U y (bZ U.length y.2):=by
  intro U s hU G;have ul:=G.my hA;refine⟨by rw[hU]at G⊢;exact hy.pad G,fun z hz=>?_,.inl ⟨bE.2 ⟨s,hU⟩,yV (by omega) ?_⟩⟩
  ·rw[hU];exact((Go.Tw.j7 (O1 _) z).2 hz).le (by rw[X6];omega)
  rw[hy.len,hU,X6];exact O3 (by decide) (by omega)
 have bl:∀{t u:List El},eJ t.length u.length t u=true→u.length≤t.length:=fun h=>by
  obtain⟨s,e⟩:=bE.1 h;rw[e,X6];omega
 cases hb:eJ x.1.length y.1.length x.1 y.1 with
 |true=>
  obtain⟨s,e⟩:=bE.1 hb
  have:=bl hb
  obtain⟨p1,p2,p3⟩:=padY x.1 s e hx.tg;exact fin x.1 _ [] (List.append_nil _).symm (.inr (.inl ⟨by omega,hb,rfl⟩)) hx.tg p1 p2 p3
 |false=>
  cases Tq:eJ y.1.length x.1.length y.1 x.1 with
  |true=>
   obtain⟨s,e⟩:=bE.1 Tq;have h1:=bl Tq;have SI:x.1.length<y.1.length:=by
    refine Nat.lt_of_le_of_ne h1 fun h=>?_;have l:=congrArg List.length e;rw[X6]at l;have s0:s=[]:=List.length_eq_zero_iff.1 (by omega);rw[s0,List.append_nil]at e;rw[bE.2 ⟨[],by rw[List.append_nil];exact e.symm⟩]at hb
    cases hb
   obtain⟨p1,p2,p3⟩:=padY y.1 [] (List.append_nil _).symm hy.tg;exact fin y.1 _ s e (.inl ⟨SI,Tq,rfl⟩) hy.tg p1 p2 p3
  |false=>
   obtain⟨U,rs,s,eU,E,_,c⟩:=AD S hA hx.tg hy.tg;have st:QY x.1 y.1 U:=.inr (.inr ⟨fun _=>Tq,hb,rs,c⟩)
   cases hbu:eJ U.length y.1.length U y.1 with
   |true=>
    obtain⟨s',e'⟩:=bE.1 hbu;obtain⟨p1,p2,p3⟩:=padY U s' e' E.tg;exact fin U _ s eU st E.tg p1 p2 p3
   |false=>
    obtain⟨U',rs',s',eU',E',SM,c'⟩:=AD S hA E.tg hy.tg;obtain rfl:U'=U:=SM fun j hj=>E.EG hj;obtain⟨_,_,n1,n2,qb,I⟩:=hy.Ru S hA h1 h2 E';have tq:=mi S hA E'.tg;have y3':=hy.tg.my hA;have im:=yH (a:=y.2) rfl ⟨tq,n1,n2,I.r,I.m⟩ (by rw[E'.len];exact O1 _) (by omega) hy.len qb;exact fin U' _ s eU st E.tg (hy.image E') (fun z hz=>In.CR E' (O1 _) hz) (.inr ⟨hbu,U',rs',c',im⟩)
end
open Go Go.Eng
open Go.Tw (El aC aH zE aj av au ar aa QB cM tB val In Rd mv TG bZ bA a9 aY Ext jS yX ax qN mr jβ jμ)
theorem MO (x y:List El×El)(U:List El)(ea eb:El)(hj:Pr prog 96 [.one (bP [x,y])] (.aB [.one (bP [(U,ea),(U,eb)]),.one (.int .i64 0)])):
  Pr prog 53 [nX x,nX y] (.aB [nX (U,ea),nX (U,eb),.one (.int .i64 0)]):=by
 have hj:=hj.HY (B5 x y);refine pw func53 ⟨[0,1,2,3,4,5,6,7,8,17],[(4,(.cons 6 [3,4,5] (.cons 7 [] (.cons 8 [] .nil .nil) .nil) .nil))]⟩ ?_;simp only[Tryz.f53,ntmps53,iz,seval];simp only[vx,T,seval,nX,nV,tC,eV,ag];refine Cg hj ?_;simp only[vx,T,seval,bP,eZ,bC,tC,ag,X0,X1];exact Ve rfl
theorem Gs (x y:List El×El)(U:List El)(ea eb ec:El)(hj:Pr prog 96 [.one (bP [x,y])] (.aB [.one (bP [(U,ea),(U,eb)]),.one (.int .i64 0)]))
  (hf:Pr prog 100 [tV U.length U,eV ea,eV eb] (eV ec)):Pr prog 61 [nX x,nX y] (.aB [nX (U,ec),.one (.int .i64 0)]):=by
 have c:=MO x y U ea eb hj;refine pw func61 ⟨[0,1,2,3,4,5,6,15],[]⟩ ?_;simp only[Tryz.f61,ntmps61,iz,seval];simp only[vx,T,seval,nX,nV,tC,eV,ag];refine Cg c ?_;simp only[vx,T,seval,nX,nV,tV,tC,eV,ag];refine Cg hf ?_;simp only[vx,T,seval,nX,nV,tV,tC,eV,ag];exact Ve rfl
theorem Ir (x y:List El×El)(U:List El)(ea eb ec:El)(hj:Pr prog 96 [.one (bP [x,y])] (.aB [.one (bP [(U,ea),(U,eb)]),.one (.int .i64 0)]))
  (hf:Pr prog 54 [tV U.length U,eV ea,eV eb] (eV ec)):Pr prog 25 [nX x,nX y] (.aB [nX (U,ec),.one (.int .i64 0)]):=by
 have c:=MO x y U ea eb hj;refine pw func25 ⟨[0,1,2,3,4,5,6,15],[]⟩ ?_;simp only[Tryz.f25,ntmps25,iz,seval];simp only[vx,T,seval,nX,nV,tC,eV,ag];refine Cg c ?_;simp only[vx,T,seval,nX,nV,tV,tC,eV,ag];refine Cg hf ?_;simp only[vx,T,seval,nX,nV,tV,tC,eV,ag];exact Ve rfl
theorem H4 (x:List El×El)(ec:El)(hf:Pr prog 111 [tV x.1.length x.1,eV x.2] (eV ec)):Pr prog 66 [nX x] (nX (x.1,ec)):=by
 refine pw func66 ⟨[0,1,2],[]⟩ ?_;simp only[Tryz.f66,ntmps66,iz,seval];simp only[vx,T,seval,nX,nV,tC,eV,ag];refine Cg hf ?_;simp only[vx,T,seval,nX,nV,tV,tC,eV,ag];exact Ve rfl
theorem I4 (x y n z:List El×El)(hn:Pr prog 66 [nX y] (nX n))(ha:Pr prog 61 [nX x,nX n] (.aB [nX z,.one (.int .i64 0)])):
  Pr prog 63 [nX x,nX y] (.aB [nX z,.one (.int .i64 0)]):=by
 refine pw func63 ⟨[0,1,2,3,4,5],[]⟩ ?_;simp only[Tryz.f63,ntmps63,iz,seval];simp only[vx,T,seval,nX,nV,tC,eV,ag];refine Cg hn ?_;simp only[vx,T,seval,nX,nV,tV,tC,eV,ag];refine Cg ha ?_;simp only[vx,T,seval,nX,nV,tV,tC,eV,ag];exact Ve rfl
section
variable {A:List R}(S:Go.Tw.Src 64 A)(hA:Go.Tw.oF A)
include S hA
theorem ph {x y:List El×El}{vx vy:R}{βx μx βy μy:Nat}(hx:ax A x.1 x.2 vx βx μx)(hy:ax A y.1 y.2 vy βy μy)(sx:Sm βx μx)(sy:Sm βy μy)(h1:βy≤jβ)(h2:μy≤jμ):
  ∃z:List El×El,ax A z.1 z.2 (vx+vy) (βx+βy+1) (μx+μy)∧Pr prog 61 [nX x,nX y] (.aB [nX z,.one (.int .i64 0)]):=by
 obtain⟨U,ea,eb,na,nb,_,_,j⟩:=G1 S hA hx hy sx sy h1 h2;refine⟨(U,aC ea eb),⟨na.tg,ar na.len nb.len,by rw[←na.val,←nb.val];exact Go.Tw.val_add na.len nb.len,na.sz.add nb.sz⟩,?_⟩;have u3:=na.tg.my hA;have p8:2^U.length≤2^6:=O3 (by decide) u3;exact Gs x y U ea eb _ j (tW ea eb (by rw[na.len];omega) (by rw[nb.len,na.len]) (iL S hA na sx) (iL S hA nb sy)).rows
theorem pc {x y:List El×El}{vx vy:R}{βx μx βy μy:Nat}(hx:ax A x.1 x.2 vx βx μx)(hy:ax A y.1 y.2 vy βy μy)(sx:Sm βx μx)(sy:Sm βy μy)(h1:βy≤jβ)(h2:μy≤jμ)
  (hm:Sm (βx+βy) (μx+μy)):
  ∃z:List El×El,ax A z.1 z.2 (vx*vy) (βx+βy) (μx+μy)∧Pr prog 25 [nX x,nX y] (.aB [nX z,.one (.int .i64 0)]):=by
 obtain⟨U,ea,eb,na,nb,_,_,j⟩:=G1 S hA hx hy sx sy h1 h2;have tq:=mi S hA na.tg;refine⟨(U,aj U.length U ea eb),⟨na.tg,aa,by rw[←na.val,←nb.val];exact Go.Tw.val_mul na.tg.rd.rl na.len nb.len,na.sz.mul nb.sz⟩,?_⟩;exact Ir x y U ea eb _ j (gi hm tq.tk na.len nb.len (na.PC S hA nb)).rows
theorem tP {x:List El×El}{vx:R}{βx μx:Nat}(hx:ax A x.1 x.2 vx βx μx)(sx:Sm βx μx):Pr prog 66 [nX x] (nX (x.1,aH x.2)):=by
 have u3:=hx.tg.my hA;have p8:2^x.1.length≤2^6:=O3 (by decide) u3;exact H4 x _ (z5 x.2 (by rw[hx.len];omega) (iL S hA hx sx)).rows
end
end Go.Proofs.YtehahgjkjfoebaaGreat
namespace Go.Tw
open Go Go.Eng
theorem ax.neg {A:List R}{t:List El}{a:El}{x:R}{β μ:Nat}(h:ax A t a x β μ):ax A t (aH a) (-x) β μ:=
 ⟨h.tg,by rw[au,h.len],by rw[←h.val];exact Go.Tw.val_neg h.len,h.sz.neg⟩
end Go.Tw
namespace Go.Proofs.YtehahgjkjfoebaaGreat
open Go.Proofs.Tryz
open Go Go.Eng
open Go.Tw (El aC aH zE aj av au ar aa QB cM tB val In Rd mv TG bZ bA a9 aY Ext jS yX ax qN mr jβ jμ iF bp)
theorem Bh {X:Nat}(hX:X<2^37){x:List El×El}(W:TQ x.1.length x.1)(ha:x.2.length=2^x.1.length)(hs:iF X x.1.length x.1 x.2):
  Pr prog 65 [nX x] (.one (.int .i64 (bp x.1.length x.1 x.2))):=by
 have c:=Ou hX W ha hs;refine pw func65 ⟨[0,1,2],[]⟩ ?_;simp only[Tryz.f65,ntmps65,iz,seval];simp only[vx,T,seval,nX,nV,tC,eV,ag];refine Cg c ?_;simp only[vx,T,seval,nX,nV,tV,tC,eV,ag];exact Ve rfl
section
variable {A:List R}(S:Go.Tw.Src 64 A)(hA:Go.Tw.oF A)
include S hA
theorem th {x y:List El×El}{vx vy:R}{βx μx βy μy:Nat}(hx:ax A x.1 x.2 vx βx μx)(hy:ax A y.1 y.2 vy βy μy)(sx:Sm βx μx)(sy:Sm βy μy)(h1:βy≤jβ)(h2:μy≤jμ):
  ∃z:List El×El,ax A z.1 z.2 (vx+ -vy) (βx+βy+1) (μx+μy)∧Pr prog 63 [nX x,nX y] (.aB [nX z,.one (.int .i64 0)]):=by
 obtain⟨z,nz,c⟩:=ph S hA hx (x:=x) (y:=(y.1,aH y.2)) hy.neg sx sy h1 h2;exact⟨z,nz,I4 x y _ z (tP S hA hy sy) c⟩
end
open Go Go.Eng
open Go.Tw (El)
theorem qL (q:Rat)(t:List El):Pr prog 26 [QV q] (nV 0 t [q]):=by
 refine pw func26 ⟨[0,1,2],[]⟩ ?_;simp only[Tryz.f26,ntmps26,iz,seval];simp only[vx,T,seval,QV,QC];refine fR.QF (.pV _ _) (.rows rfl fun i j hi hj=>.of_eq ?_);obtain rfl:i=0:=by omega
 show List.getD _ (0*4+j) _=_;rw[Nat.zero_mul,Nat.zero_add];exact dD q rfl j
theorem kG (z:Int)(h1: -9223372036854775808≤z)(h2:z≤9223372036854775807):Pr prog 24 [.one (.int .i64 z)] (nX ([],[Rat.ofInt z])):=by
 have c:=bc z h1 h2;have d:=qL (Rat.ofInt z) [];refine pw func24 ⟨[0,2],[]⟩ ?_;simp only[Tryz.f24,ntmps24,iz,seval];simp only[vx,T,seval];refine Cg c ?_;simp only[vx,T,seval,QV,QC];refine Cg d ?_;simp only[vx,T,seval,nX,nV,tC,ag];exact Ve rfl
open Go Go.Eng
open Go.Tw (El)
theorem Hu (x y z:List El×El)(s:Int)(hs:Pr prog 63 [nX x,nX y] (.aB [nX z,.one (.int .i64 0)]))(hg:Pr prog 65 [nX z] (.one (.int .i64 s))):
  Pr prog 86 [nX x,nX y] (.aB [.one (.int .i64 s),.one (.int .i64 0)]):=by
 refine pw func86 ⟨[0,1,2,3,4,5,6,7,15],[]⟩ ?_;simp only[Tryz.f86,ntmps86,iz,seval];simp only[vx,T,seval,nX,nV,tC,eV,ag];refine Cg hs ?_;simp only[vx,T,seval,nX,nV,tV,tC,eV,ag];refine Cg hg ?_;simp only[vx,T,seval,nX,nV,tV,tC,eV,ag];exact Ve rfl
theorem CY (x y:List El×El)(s:Int)(hc:Pr prog 86 [nX x,nX y] (.aB [.one (.int .i64 s),.one (.int .i64 0)])):
  Pr prog 46 [nX x,nX y] (.one (.bool (decide (s=0)))):=by
 refine pw func46 ⟨[0,1,2,3,4,5,6],[]⟩ ?_;simp only[Tryz.f46,ntmps46,iz,seval];simp only[vx,T,seval,nX,nV,tC,eV,ag];refine Cg hc ?_;simp only[vx,T,seval,nX,nV,tV,tC,eV,ag];exact Ve rfl
theorem rp (x:List El×El)(U:List El)(w:El)(ha:Pr prog 51 [tV x.1.length x.1,eV x.2] (.aB [tV U.length U,eV w,.one (.int .i64 0)])):
  Pr prog 23 [nX x] (.aB [nX (U,w),.one (.int .i64 0)]):=by
 refine pw func23 ⟨[0,1,2,3,4,5,6,17],[]⟩ ?_;simp only[Tryz.f23,ntmps23,iz,seval];simp only[vx,T,seval,nX,nV,tC,eV,ag];refine Cg ha ?_;simp only[vx,T,seval,nX,nV,tV,tC,eV,ag];exact Ve rfl
theorem IN (x y z:List El×El)(v:El)(hi:Pr prog 109 [tV y.1.length y.1,eV y.2] (.aB [eV v,.one (.int .i64 0)]))(hm:Pr prog 25 [nX x,nX (y.1,v)] (.aB [nX z,.one (.int .i64 0)])):
  Pr prog 64 [nX x,nX y] (.aB [nX z,.one (.int .i64 0)]):=by
 refine pw func64 ⟨[0,1,2,3,4,5,6,7,17],[]⟩ ?_;simp only[Tryz.f64,ntmps64,iz,seval];simp only[vx,T,seval,nX,nV,tC,eV,ag];refine Cg hi ?_;simp only[vx,T,seval,nX,nV,tV,tC,eV,ag];refine Cg hm ?_;simp only[vx,T,seval,nX,nV,tV,tC,eV,ag];exact Ve rfl
open Go Go.Eng
open Go.Tw (El)
theorem NP (n:Int)(d:Nat)(hn: -9223372036854775808≤n∧n≤9223372036854775807)(hd:d≤9223372036854775807)(h0:0<d)(k1:zn n<2^39)(k2:nl d<2^39):
  Pr prog 60 [.one (.int .i64 n),.one (.int .i64 d)] (nX ([],[mkRat n d])):=by
 have c:=oY n d hn hd h0 k1 k2;have e:=qL (mkRat n d) [];refine pw func60 ⟨[0,1,4],[]⟩ ?_;simp only[Tryz.f60,ntmps60,iz,seval];simp only[vx,T,seval];refine Cg c ?_;simp only[vx,T,seval,QV,QC];refine Cg e ?_;simp only[vx,T,seval,nX,nV,tC,ag];exact Ve rfl
open Go Go.Eng
open Go.Tw (El)
structure Dh where
 k:Nat
 a:Nat
 b:Nat
 n:Int
 d:Nat
instance:Inhabited Dh:=⟨⟨0,0,0,0,0⟩⟩
structure Dh.Ok (o:Dh):Prop where
 k:o.k<256
 a:o.a<256
 b:o.b<256
 n: -128≤o.n∧o.n≤127
 d:o.d<256
def oC (o:Dh):Nat→C
 |0=>.int .u8 o.k
 |1=>.int .u8 o.a
 |2=>.int .u8 o.b
 |3=>.int .i8 o.n
 |4=>.int .u8 o.d
 |_=>.any
def rE (r:List Dh):V:=.one (.rows 5 r.length (fun i=>oC (r.getD i default)))
def BO (k q q':Nat)(a b x:List El×El):Prop:=
 (k=1∧q'=q∧Pr prog 61 [nX a,nX b] (.aB [nX x,.one (.int .i64 0)]))∨
 (k=2∧q'=q∧Pr prog 63 [nX a,nX b] (.aB [nX x,.one (.int .i64 0)]))∨
 (k=3∧q'=q∧Pr prog 25 [nX a,nX b] (.aB [nX x,.one (.int .i64 0)]))∨
 (k=4∧q'=q∧Pr prog 64 [nX a,nX b] (.aB [nX x,.one (.int .i64 0)]))∨
 (k=4∧q'=q∧x=a∧Pr prog 64 [nX a,nX b] (.aB [.agg [.nil,.nil],.one (.int .i64 6)]))∨
 (k=5∧∃s c,Pr prog 65 [nX a] (.one (.int .i64 s))∧((s<0∧Pr prog 66 [nX a] (nX c))∨(¬s<0∧c=a))∧
  ((q<3∧q'=q+1∧Pr prog 23 [nX c] (.aB [nX x,.one (.int .i64 0)]))∨(¬q<3∧q'=q∧x=a)))
def BS (o:Dh)(q:Nat)(l:List (List El×El))(q':Nat)(l':List (List El×El)):Prop:=
 ∃f x y z,Pr prog 60 [.one (.int .i64 o.n),.one (.int .i64 (o.d%8+1:Nat))] (nX f)∧
  (((l=[]∨o.k%6=0)∧q'=q∧x=f)∨(l≠[]∧BO (o.k%6) q q' (l.getD (o.a%l.length) default) (l.getD (o.b%l.length) default) x))∧
  ((l=[]∧y=x)∨(l≠[]∧Pr prog 67 [nX x] (.one (.bool false))∧y=x)∨(l≠[]∧Pr prog 67 [nX x] (.one (.bool true))∧y=l.getD (l.length-1) default))∧
  Pr prog 68 [nX y] (nX z)∧l'=l++[z]
theorem xC (r:List Dh)(hr:∀o∈r,o.Ok)(WA:r.length<2^63)(ro:Nat→Nat)(l:Nat→List (List El×El))(h0:ro 0=0)(l0:l 0=[])(hll:∀i,i≤24→i≤r.length→(l i).length=i∧ro i≤3)
  (st:∀i,i<24→i<r.length→BS (r.getD i default) (ro i) (l i) (ro (i+1)) (l (i+1))):Pr prog 31 [rE r] (.one (bP (l (min r.length 24)))):=by
 obtain⟨N,hN⟩:∃N,N=min r.length 24:=⟨_,rfl⟩;rw[←hN];have l0':(l 0).length=0:=by rw[l0];rfl
 refine pw func31 ⟨[0,2,3,4,5,6,7,8,9,10,11,12,13,14,15,16,17,18,19,27,51,73,76,80,92,104,116,128,146],[(9,(.cons 20 [9,10,11,12,13,14,15,16,17] (.cons 21 [] .nil .nil) .nil))]⟩ ?_;simp only[Tryz.f31,ntmps31,iz,seval];simp only[vx,T,seval,rE];refine Lk (fun y:{i:Nat//i≤24∧i≤r.length}=>⟨[(0,rE r),(2,.one .nil),(3,.one (.own 1 2 0 (l y.1).length)),(4,.one (.int .i64 (ro y.1))),(5,.one (.int .i64 y.1))],[(1,⟨.rows 56 2 (l y.1).length (eZ (l y.1)),true⟩)],2,159⟩) (fun y=>24-y.1) ⟨0,by omega,by omega⟩ ?_ (fun⟨i,hi,WB⟩=>?_)
 ·refine Sa ?_;simp only[ry,seval,rz,rE,l0',h0]
 simp only;have wi:=wI i (by omega);simp only[vx,T,seval,rE];refine⟨fun g=>Lg ?_,fun g=>Lg ?_⟩
 ·simp only[vx,T,seval,rE];refine⟨fun g2=>Lg ?_,fun g2=>Lg ?_⟩
  ·have SU:i<r.length:=by omega
   have ok:(r.getD i default).Ok:=hr _ (by rw[X7,X8 SU];exact List.getElem_mem _);obtain⟨f,x,y,z,cf,hx,hy,ct,TH⟩:=st i (by omega) SU;obtain⟨Ub,hq⟩:=hll i hi WB;have hq':=(hll (i+1) (by omega) SU).2;obtain⟨o,ho⟩:∃o,o=r.getD i default:=⟨_,rfl⟩;rw[←ho]at ok cf hx;obtain⟨L,hL⟩:∃L,L=l i:=⟨_,rfl⟩;rw[←hL]at hx hy TH Ub;obtain⟨L',hL'⟩:∃L',L'=l (i+1):=⟨_,rfl⟩;rw[←hL']at TH;obtain⟨q,hqe⟩:∃q,q=ro i:=⟨_,rfl⟩;rw[←hqe]at hx hq;obtain⟨q',XY⟩:∃q',q'=ro (i+1):=⟨_,rfl⟩;rw[←XY]at hx hq';rw[←hL,←hqe];obtain⟨k1,k2,k3,k4,k5⟩:=ok;have o1:(o.d:Int).tmod 8=((o.d%8:Nat):Int):=rfl;have w1:IntKind.i64.wrap o.n=o.n:=Q4 _ (by omega);have w2:IntKind.i64.wrap ((o.d%8:Nat):Int)=((o.d%8:Nat):Int):=Q4 _ (by omega);have w3:IntKind.i64.wrap (((o.d%8:Nat):Int)+1)=((o.d%8+1:Nat):Int):=by rw[Q4 _ (by omega)];omega
   have w4:IntKind.i64.wrap (o.a:Int)=o.a:=Q4 _ (by omega);have w5:IntKind.i64.wrap (o.b:Int)=o.b:=Q4 _ (by omega);have w6:IntKind.i64.wrap ((i:Int)-1)=(i:Int)-1:=Q4 _ (by omega);have o3:(o.a:Int).tmod (i:Int)=((o.a%i:Nat):Int):=rfl;have o4:(o.b:Int).tmod (i:Int)=((o.b%i:Nat):Int):=rfl;have o2:(o.k:Int).tmod 6=((o.k%6:Nat):Int):=rfl;clear st hr hll h0 l0 l0' hi WB;simp only[vx,T,seval,rE,←ho,oC,o1,o2];refine⟨by omega,?_⟩;simp only[w1,w2,w3];refine Cg cf ?_
   by_cases SW:L=[]
   ·obtain⟨rfl,rfl⟩:q'=q∧x=f:=by
     rcases hx with⟨_,h⟩|⟨h,_⟩
     ·exact h
     exact absurd SW h
    obtain rfl:y=x:=by
     rcases hy with⟨_,h⟩|⟨h,_⟩|⟨h,_⟩
     ·exact h
     ·exact absurd SW h
     exact absurd SW h
    subst SW;obtain rfl:i=0:=Ub.symm;simp only[vx,T,seval,nX,nV,tC,ag,o2];refine Cg ct ?_;simp only[vx,T,seval,nX,nV,tC,ag,wi];refine Lq ⟨1,by omega,SU⟩ ?_ (by show 24-1<24-0;omega);have Uh:L'=[z]:=TH;refine Sa ?_;simp only[ry,seval,rz,rE,←hL',Uh,←XY,List.length_cons,List.length_nil];exact⟨rfl,tQ (ks:=[]) rfl z⟩
   have ip:0<i:=by rw[←Ub];exact List.length_pos_iff.2 SW
   obtain⟨b,cl,hyb⟩:∃b:Bool,Pr prog 67 [nX x] (.one (.bool b))∧((b=false∧y=x)∨(b=true∧y=L.getD (i-1) default)):=by
    rcases hy with⟨h,_⟩|⟨_,h1,h2⟩|⟨_,h1,h2⟩
    ·exact absurd h SW
    ·exact⟨false,h1,.inl ⟨rfl,h2⟩⟩
    exact⟨true,h1,.inr ⟨rfl,by rw[h2,Ub]⟩⟩
   clear hy;rw[Ub]at hx;have ia:o.a%i<i:=Nat.mod_lt _ ip;have ib:o.b%i<i:=Nat.mod_lt _ ip;obtain⟨a,Xj⟩:∃a,a=L.getD (o.a%i) default:=⟨_,rfl⟩;obtain⟨c,Wh⟩:∃c,c=L.getD (o.b%i) default:=⟨_,rfl⟩;rw[←Xj,←Wh]at hx;have w7:((i:Int)-1).toNat=i-1:=by omega
   have w8:=wI q (by omega)
   rcases hx with⟨hx,rfl,rfl⟩|⟨_,hbo⟩
   have hk:=hx.resolve_left SW;simp only[vx,T,seval,nX,nV,tC,ag,o2,hk,Ub,w4,w5,o3,o4,eZ,←Xj,←Wh,bC];refine⟨fun _=>Lg ?_,fun h=>absurd (by omega) h⟩;simp only[vx,T,seval,nX,nV,tC,ag,o2,hk,Ub,w4,w5,o3,o4,eZ,←Xj,←Wh,bC]
   rotate_left
   rcases hbo with⟨hk,rfl,c1⟩|⟨hk,rfl,c1⟩|⟨hk,rfl,c1⟩|⟨hk,rfl,c1⟩|⟨hk,rfl,rfl,c1⟩|⟨hk,s,d,c1,c2,c3⟩
   iterate 6 (simp only[vx,T,seval,nX,nV,tC,ag,o2,hk,Ub,w4,w5,o3,o4,eZ,←Xj,←Wh,bC];refine⟨fun _=>Lg ?_,fun h=>absurd (by omega) h⟩;simp only[vx,T,seval,nX,nV,tC,ag,o2,hk,Ub,w4,w5,o3,o4,eZ,←Xj,←Wh,bC];refine⟨by omega,by omega,by omega,by omega,by omega,Cg c1 ?_⟩;simp only[vx,T,seval,nX,nV,tC,ag,o2,hk,Ub,w4,w5,o3,o4,eZ,←Xj,←Wh,bC];rotate_left)
   rotate_left
   iterate 4 (refine Cg (vX x a) ?_;simp only[vx,T,seval,nX,nV,tC,ag,o2,hk,Ub,w4,w5,o3,o4,eZ,←Xj,←Wh,bC];rotate_left)
   refine Cg (Bo x) ?_;simp only[vx,T,seval,nX,nV,tC,ag,o2,hk,Ub,w4,w5,o3,o4,eZ,←Xj,←Wh,bC]
   rotate_left
   rcases c2 with⟨g3,c2⟩|⟨g3,rfl⟩
   refine⟨fun _=>Lg ?_,fun h=>absurd g3 h⟩;simp only[vx,T,seval,nX,nV,tC,ag,o2,hk,Ub,w4,w5,o3,o4,eZ,←Xj,←Wh,bC];refine Cg c2 ?_;simp only[vx,T,seval,nX,nV,tC,ag,o2,hk,Ub,w4,w5,o3,o4,eZ,←Xj,←Wh,bC]
   rotate_left
   refine⟨fun h=>absurd h g3,fun _=>Lg ?_⟩;simp only[vx,T,seval,nX,nV,tC,ag,o2,hk,Ub,w4,w5,o3,o4,eZ,←Xj,←Wh,bC]
   rotate_right
   iterate 2 (
    rcases c3 with⟨g4,rfl,c3⟩|⟨g4,rfl,rfl⟩
    refine⟨fun _=>Lg ?_,fun h=>absurd (by omega) h⟩;simp only[vx,T,seval,nX,nV,tC,ag,w8];refine Cg c3 ?_;simp only[vx,T,seval,nX,nV,tC,ag,w8];refine Cg (vX x d) ?_;simp only[vx,T,seval,nX,nV,tC,ag,w8,Ub]
    rotate_left
    refine⟨fun h=>absurd h (by omega),fun _=>Lg ?_⟩;simp only[vx,T,seval,nX,nV,tC,ag,w8,Ub]
    rotate_left)
   all_goals
    refine⟨fun _=>Lg ?_,fun h=>absurd (by omega) h⟩;simp only[vx,T,seval,nX,nV,tC,ag];refine Cg cl ?_;simp only[vx,T,seval,nX,nV,tC,ag]
    rcases hyb with⟨rfl,rfl⟩|⟨rfl,hyl⟩
    ·simp only[vx,T,seval,nX,nV,tC,ag];refine Cg ct ?_;simp only[vx,T,seval,nX,nV,tC,ag,wi,Ub];refine⟨by omega,Lq ⟨i+1,by omega,SU⟩ ?_ (by show 24-(i+1)<24-i;omega)⟩;refine Sa ?_;simp only[ry,seval,rz,rE,←hL',TH,←XY,X6,List.length_cons,List.length_nil,Ub];exact tQ Ub z
    simp only[vx,T,seval,nX,nV,tC,ag,Ub,w6,w7,eZ,←hyl,bC];refine⟨by omega,?_⟩;refine Cg ct ?_;simp only[vx,T,seval,nX,nV,tC,ag,wi,Ub];refine⟨by omega,Lq ⟨i+1,by omega,SU⟩ ?_ (by show 24-(i+1)<24-i;omega)⟩;refine Sa ?_;simp only[ry,seval,rz,rE,←hL',TH,←XY,X6,List.length_cons,List.length_nil,Ub];exact tQ Ub z
  obtain rfl:i=N:=by omega
  simp only[vx,T,seval,rE];exact Ve rfl
 obtain rfl:i=N:=by omega
 simp only[vx,T,seval,rE];exact Ve rfl
open Go Go.Eng
open Go.Tw (El ax qN jβ jμ bp)
section
variable {A:List R}(S:Go.Tw.Src 64 A)(hA:Go.Tw.oF A)
include S hA
end
open Go Go.Eng
open Go.Tw (El ax qN jβ jμ bp bI TG iu QB mr val dL In cM tB aH)
theorem FJ (x y:List El×El)(hi:Pr prog 109 [tV y.1.length y.1,eV y.2] (.aB [.one .nil,.one (.int .i64 6)])):
  Pr prog 64 [nX x,nX y] (.aB [.agg [.nil,.nil],.one (.int .i64 6)]):=by
 refine pw func64 ⟨[0,1,2,3,4,5,6,7,17],[]⟩ ?_;simp only[Tryz.f64,ntmps64,iz,seval];simp only[vx,T,seval,nX,nV,tC,eV,ag];refine Cg hi ?_;simp only[vx,T,seval,nX,nV,tV,tC,eV,ag];exact Ve rfl
theorem D7 {a:El}(h:∀i,i<a.length→¬ny 2 (a.getD i default)):iu 64 a:=by
 have:QB 2 a:=fun c hc=>by
  obtain⟨i,hi,rfl⟩:=List.mem_iff_getElem.1 hc
  have:=h i hi
  rw[X7,X8 hi,Option.getD_some]at this;unfold ny at this;unfold qm;omega
 exact this.bits
theorem HM {A:List R}{x:List El×El}{v:R}{β μ:Nat}(h:ax A x.1 x.2 v β μ)(hl:¬Qx 2 x):bI A 64 x.1 x.2 v:=
 ⟨h.tg,h.len,h.val,D7 fun i hi hq=>hl (.inl ⟨i,hi,hq⟩),fun j hj=>D7 fun i hi hq=>hl (.inr ⟨j,hj,i,hi,hq⟩)⟩
theorem lO {A:List R}{n:Int}{d:Nat}(hn: -128≤n∧n≤127)(h0:0<d)(hd:d≤8):bI A 64 [] [mkRat n d] (R.q (mkRat n d)):=by
 refine⟨⟨⟨fun i hi=>absurd hi (O5 _),fun i hi=>absurd hi (O5 _)⟩,fun i hi=>absurd hi (O5 _)⟩,rfl,rfl,QB.bits (B:=2) fun c hc=>?_,fun i hi=>absurd hi (O5 _)⟩;rw[List.mem_singleton.1 hc];refine O0 (M4 h0) ?_;have h1:nl n.natAbs≤2:=aE (by have:BB^2=18446744073709551616:=rfl;omega);have h2:nl d≤2:=aE (by have:BB^2=18446744073709551616:=rfl;omega);show max (nl n.natAbs) _≤_;omega
theorem EO:R.sqrt (R.q 0)=R.q 0:=R.QX (R.cV (R.bu.2 (.inl rfl)))
theorem yu:Sm 520 8∧Sm (520+520) (8+8):=⟨.of (by decide) (by decide),.of (by decide) (by decide)⟩
section
variable {A:List R}(S:Go.Tw.Src 64 A)(Yt:A.length≤3)
include S Yt
omit S in
theorem rr {x:List El×El}{v:R}(h:bI A 64 x.1 x.2 v):ax A x.1 x.2 v 520 8:=by
 have h8:2^x.1.length≤2^3:=O3 (by decide) (O0 h.tg.kB Yt);exact(h.num Yt).mono (by omega) h8
theorem Nn (h2:A.length≤2){c:List El×El}{v:R}(h:bI A 64 c.1 c.2 v)(hn:R.nn v):∃(A':List R) (x:List El×El),Go.Tw.Src 64 A'∧(∀a,a∈A→a∈A')∧A'.length≤A.length+1∧ax A' x.1 x.2 (R.sqrt v) 0 1∧Pr prog 23 [nX c] (.aB [nX x,.one (.int .i64 0)]):=by
 have hv:=h.val;have hA:Go.Tw.dV A:=Yt
 by_cases h0:v=R.q 0
 ·have tl:=h.tg.kB;have rb:=h.tg.RN S hA (by omega) h.len (by rw[hv,h0])
  rcases uU S hA h.tg h.len (by rw[hv];exact hn) rb with⟨w,lw,ew,cw⟩|⟨no,_⟩
  ·refine⟨A,(c.1,w),S,fun _ h=>h,by omega,⟨h.tg,lw,by rw[ew,hv],?_⟩,rp c c.1 w cw⟩;rw[h0,EO];exact(mr.rat (by decide) (by decide)).mono (O1 _) (by omega)
  exact absurd (by rw[hv,h0,R.zero_mul]) (no _ (In.rat 0))
 have hp:R.pos v:=(R.bu.1 hn).resolve_left h0;have S':Go.Tw.Src 64 (A++[val c.1.length c.1 c.2]):=S.snoc h.tg h.len h.bits (by rw[hv];exact hp);rw[hv]at S';have hA':Go.Tw.dV (A++[v]):=(by show _≤3;rw[X6];show _+1≤3;omega);have sub:∀a,a∈A→a∈A++[v]:=fun a ha=>List.mem_append_left _ ha;have mem:v∈A++[v]:=List.mem_append_right _ (by simp);have G:=h.tg.sub sub;have rb:=G.RA S' hA' h.len (by rw[hv];exact mem) (by rw[hv];exact hp);have rt:=(mr.root mem).mono (O1 0) (Nat.le_of_eq (Go.Tw.oL hA'));have hl:(A++[v]).length≤A.length+1:=by rw[X6];exact O1 _
 rcases uU S' hA' G h.len (by rw[hv];exact hn) rb with⟨w,lw,ew,cw⟩|⟨no,cw⟩
 ·exact⟨_,(c.1,w),S',sub,hl,⟨G,lw,by rw[ew,hv],rt⟩,rp c c.1 w cw⟩
 have T':=G.snoc h.len (by rw[hv];exact mem) (by rw[hv];exact hp) no;have e1:(c.1++[c.2]).length=c.1.length+1:=by simp
 have lr:(dL c.1.length).length=2^(c.1++[c.2]).length:=by rw[e1];exact Go.Tw.kQ
 have vr:val (c.1++[c.2]).length (c.1++[c.2]) (dL c.1.length)=R.sqrt v:=by rw[e1,Go.Tw.rM,hv]
 rw[←e1]at cw;exact⟨_,(c.1++[c.2],dL c.1.length),S',sub,hl,⟨T',lr,vr,rt⟩,rp c _ _ cw⟩
theorem SF {k:Nat}(hk:k<6)(h0:k≠0){a b:List El×El}{va vb:R}(ha:bI A 64 a.1 a.2 va)(hb:bI A 64 b.1 b.2 vb){q:Nat}(hq:A.length≤q)(Zu:q≤3):
  ∃(A':List R) (q':Nat) (x:List El×El) (v:R),BO k q q' a b x∧Go.Tw.Src 64 A'∧(∀y,y∈A→y∈A')∧A'.length≤q'∧q'≤3∧ax A' x.1 x.2 v 2000 32:=by
 have hA:Go.Tw.dV A:=Yt;have na:=rr Yt ha;have nb:=rr Yt hb;have sm:Sm 520 8:=.of (by decide) (by decide);have j1:520≤jβ:=by decide
 have j2:8≤jμ:=by decide
 have same:∀{x:List El×El} {v:R},BO k q q a b x→ax A x.1 x.2 v 2000 32→∃(A':List R) (q':Nat) (x:List El×El) (v:R),BO k q q' a b x∧Go.Tw.Src 64 A'∧(∀y,y∈A→y∈A')∧A'.length≤q'∧q'≤3∧ax A' x.1 x.2 v 2000 32:=
  fun hb hx=>⟨A,q,_,_,hb,S,fun _ h=>h,hq,Zu,hx⟩
 have hm:=yu.2
 match k,hk,h0 with
 |1,_,_=>
  obtain⟨z,nz,c⟩:=ph S hA na nb sm sm j1 j2;exact same (.inl ⟨rfl,rfl,c⟩) (nz.mono (by decide) (by decide))
 |2,_,_=>
  obtain⟨z,nz,c⟩:=th S hA na nb sm sm j1 j2;exact same (.inr (.inl ⟨rfl,rfl,c⟩)) (nz.mono (by decide) (by decide))
 |3,_,_=>
  obtain⟨z,nz,c⟩:=pc S hA na nb sm sm j1 j2 hm;exact same (.inr (.inr (.inl ⟨rfl,rfl,c⟩))) (nz.mono (by decide) (by decide))
 |4,_,_=>
  have iv:=vO yu.1 (mi S hA hb.tg) hb.tg.rd hb.len (nb.RT S hA)
  cases e:Go.Tw.cF b.1.length b.1 b.2 with
  |none=>exact same (.inr (.inr (.inr (.inr (.inl ⟨rfl,rfl,rfl,FJ a b (iv.2 e)⟩))))) (na.mono (by decide) (by decide))
  |some n=>
   obtain⟨ln,en⟩:=Go.Tw.dz hb.tg.rd.rl hb.len e;rw[hb.val]at en;obtain⟨z,nz,c⟩:=pc S hA na (y:=(b.1,n)) ⟨hb.tg,ln,rfl,nb.sz.inv hA en⟩ sm sm j1 j2 hm;exact same (.inr (.inr (.inr (.inl ⟨rfl,rfl,IN a b z n (iv.1 n e).rows c⟩)))) (nz.mono (by decide) (by decide))
 |5,_,_=>
  have sg:=Bh yu.1 (mi S hA ha.tg) ha.len (na.QQ S hA);rw[Go.Tw.cA ha.tg.rd.rl ha.len,ha.val]at sg;have key:∃(c:List El×El) (w:R),bI A 64 c.1 c.2 w∧R.nn w∧((R.bQ va<0∧Pr prog 66 [nX a] (nX c))∨(¬R.bQ va<0∧c=a)):=by
   rcases R.dh va with⟨e,es⟩|⟨e,es⟩|⟨e,es⟩
   ·exact⟨a,va,ha,R.bu.2 (.inl e),.inr ⟨by omega,rfl⟩⟩
   ·exact⟨a,va,ha,R.bu.2 (.inr e),.inr ⟨by omega,rfl⟩⟩
   refine⟨(a.1,aH a.2),-va,⟨ha.tg,by rw[Go.Tw.au,ha.len],by rw[←ha.val];exact Go.Tw.val_neg ha.len,fun c hc=>?_,ha.tb⟩,R.bu.2 (.inr e),.inl ⟨by omega,tP S hA na sm⟩⟩;obtain⟨x,hx,rfl⟩:=List.mem_map.1 hc
   have:=ha.bits x hx
   rw[Rat.neg_num,Rat.neg_den,Int.natAbs_neg];exact this
  obtain⟨c,w,hc,hw,hs⟩:=key
  by_cases g:q<3
  ·obtain⟨A',x,S',sub,hl,nx,cs⟩:=Nn S Yt (by omega) hc hw;exact⟨A',q+1,x,_,.inr (.inr (.inr (.inr (.inr ⟨rfl,_,c,sg,hs,.inl ⟨g,rfl,cs⟩⟩)))),S',sub,by omega,by omega,nx.mono (by decide) (by decide)⟩
  exact same (.inr (.inr (.inr (.inr (.inr ⟨rfl,_,c,sg,hs,.inr ⟨g,rfl,rfl⟩⟩))))) (na.mono (by decide) (by decide))
end
open Go Go.Eng
open Go.Tw (El ax bI TG)
theorem P6 {A:List R}(S:Go.Tw.Src 64 A){o:Dh}(ho:o.Ok){q:Nat}(hq:A.length≤q)(Zu:q≤3){l:List (List El×El)}(hl:∀x∈l,∃v,bI A 64 x.1 x.2 v):
  ∃(A':List R) (q':Nat) (l':List (List El×El)),BS o q l q' l'∧Go.Tw.Src 64 A'∧A'.length≤q'∧q'≤3∧l'.length=l.length+1∧∀x∈l',∃v,bI A' 64 x.1 x.2 v:=by
 have hA:A.length≤3:=by omega
 have hn:=ho.n;have fc:=NP o.n (o.d%8+1) (by omega) (by omega) (by omega) (Nat.lt_of_le_of_lt (show zn o.n≤2 from aE (by have:BB^2=18446744073709551616:=rfl;omega)) (by decide)) (Nat.lt_of_le_of_lt (show nl _≤2 from aE (by have:BB^2=18446744073709551616:=rfl;omega)) (by decide));have fs:bI A 64 [] [mkRat o.n (o.d%8+1:Nat)] _:=lO hn (by omega) (by omega);have get:∀i,i<l.length→∃v,bI A 64 (l.getD i default).1 (l.getD i default).2 v:=fun i hi=>hl _ (by rw[X7,X8 hi];exact List.getElem_mem _)
 -- the number made
 have hx:∃(A':List R) (q':Nat) (x:List El×El) (v:R),Go.Tw.Src 64 A'∧(∀y,y∈A→y∈A')∧A'.length≤q'∧q'≤3∧ax A' x.1 x.2 v 2000 32∧(l=[]→∃v,bI A' 64 x.1 x.2 v)∧
   (((l=[]∨o.k%6=0)∧q'=q∧x=([],[mkRat o.n (o.d%8+1:Nat)]))∨(l≠[]∧BO (o.k%6) q q' (l.getD (o.a%l.length) default) (l.getD (o.b%l.length) default) x)):=by
  by_cases h:l=[]∨o.k%6=0
  ·exact⟨A,q,_,_,S,fun _ h=>h,hq,Zu,(rr hA (x:=([],[mkRat o.n (o.d%8+1:Nat)])) fs).mono (by decide) (by decide),fun _=>⟨_,fs⟩,.inl ⟨h,rfl,rfl⟩⟩
  have SW:l≠[]:=fun e=>h (.inl e);have lp:=List.length_pos_iff.2 SW;obtain⟨va,ha⟩:=get _ (Nat.mod_lt o.a lp);obtain⟨vb,hb⟩:=get _ (Nat.mod_lt o.b lp);obtain⟨A',q',x,v,b,S',sub,h1,h2,nx⟩:=SF S hA (k:=o.k%6) (Nat.mod_lt _ (by decide)) (fun e=>h (.inr e)) ha hb hq Zu;exact⟨A',q',x,v,S',sub,h1,h2,nx,fun e=>absurd e SW,.inr ⟨SW,b⟩⟩
 obtain⟨A',q',x,v,S',sub,h1,h2,nx,YB,hx⟩:=hx;have hA':A'.length≤3:=by omega
 have x3:=O0 nx.tg.kB hA';have xl:x.2.length<2^38:=by rw[nx.len];exact aN (by omega)
 have lg:∀b:Bool,(b=true↔Qx 2 x)→Pr prog 67 [nX x] (.one (.bool b)):=fun b hb=>Po x xl (by omega) (fun j hj=>by rw[(nx.tg.rd.rl j hj).1];exact aN (by omega)) hb;have TH:∀x∈l,∃v,bI A' 64 x.1 x.2 v:=fun x hx=>(hl x hx).imp fun _ h=>h.sub sub
 -- the number kept
 have hy:∃(y:List El×El) (w:R),bI A' 64 y.1 y.2 w∧((l=[]∧y=x)∨(l≠[]∧Pr prog 67 [nX x] (.one (.bool false))∧y=x)∨(l≠[]∧Pr prog 67 [nX x] (.one (.bool true))∧y=l.getD (l.length-1) default)):=by
  by_cases h:l=[]
  ·obtain⟨w,hw⟩:=YB h;exact⟨x,w,hw,.inl ⟨h,rfl⟩⟩
  by_cases g:Qx 2 x
  ·have lp:=List.length_pos_iff.2 h;obtain⟨w,hw⟩:=get (l.length-1) (by omega);exact⟨_,w,hw.sub sub,.inr (.inr ⟨h,lg true ⟨fun _=>g,fun _=>rfl⟩,rfl⟩)⟩
  exact⟨x,v,HM nx g,.inr (.inl ⟨h,lg false ⟨fun e=>(by cases e),fun k=>absurd k g⟩,rfl⟩)⟩
 obtain⟨y,w,sy,hy⟩:=hy;refine⟨A',q',l++[kL y.1.length y],⟨_,x,y,_,fc,hx,hy,NR (.inl hA') y sy,rfl⟩,S',h1,h2,by rw[X6];rfl,fun z hz=>?_⟩
 rcases List.mem_append.1 hz with hz|hz
 ·exact TH z hz
 rw[List.mem_singleton.1 hz];exact⟨w,mK _ (O1 _) sy⟩
theorem KB (r:List Dh)(hr:∀o∈r,o.Ok)(WA:r.length<2^63):∃(A:List R) (l:List (List El×El)),Go.Tw.Src 64 A∧A.length≤3∧l.length≤24∧(∀x∈l,∃v,bI A 64 x.1 x.2 v)∧Pr prog 31 [rE r] (.one (bP l)):=by
 obtain⟨s,e0,hI,hS⟩:=Go.Tw.chain (α:=List R×Nat×List (List El×El)) (x0:=([],0,[])) (n:=min r.length 24)
  (I:=fun i y=>Go.Tw.Src 64 y.1∧y.1.length≤y.2.1∧y.2.1≤3∧y.2.2.length=i∧∀x∈y.2.2,∃v,bI y.1 64 x.1 x.2 v)
  (St:=fun i y y'=>BS (r.getD i default) y.2.1 y.2.2 y'.2.1 y'.2.2)
  ⟨⟨fun k hk=>absurd hk (O5 _),fun k hk=>absurd hk (O5 _)⟩,O1 _,by decide,rfl,fun x hx=>(by cases hx)⟩
  (fun i y hi ⟨h1,h2,h3,h4,h5⟩=>by
   obtain⟨A',q',l',b,k1,k2,k3,k4,k5⟩:=P6 h1 (o:=r.getD i default) (hr _ (by rw[X7,X8 (by omega)];exact List.getElem_mem _)) h2 h3 h5;exact⟨(A',q',l'),b,k1,k2,k3,by show l'.length=i+1;rw[k4,h4],k5⟩)
 obtain⟨k1,k2,k3,k4,k5⟩:=hI _ (O1 _);refine⟨_,_,k1,by omega,by omega,k5,xC r hr WA (fun i=>(s i).2.1) (fun i=>(s i).2.2) (by rw[e0]) (by rw[e0]) (fun i h1 h2=>?_) (fun i h1 h2=>hS i (by omega))⟩;obtain⟨_,_,g3,g4,_⟩:=hI i (by omega);exact⟨g4,g3⟩
end Go.Proofs.YtehahgjkjfoebaaGreat
namespace Go.Mx
open Go Go.R
instance:Std.Associative (α:=R) (· * ·):=⟨mul_assoc⟩
instance:Std.Commutative (α:=R) (· * ·):=⟨mul_comm⟩
def sm:Nat→(Nat→R)→R
 |0,_=>q 0
 |n+1,f=>sm n f+f n
theorem A6 {f g:Nat→R}:∀{n:Nat},(∀i,i<n→f i=g i)→sm n f=sm n g
 |0,_=>rfl
 |n+1,h=>by rw[sm,sm,A6 (n:=n) fun i hi=>h i (by omega),h n (by omega)]
noncomputable def iv (x:R):R:=open Classical in if h:x≠q 0 then Classical.choose (inv h)else q 0
theorem rN {x:R}(h:x≠q 0):x*iv x=q 1:=by
 unfold iv;rw[dif_pos h];exact Classical.choose_spec (inv h)
theorem iD:q 1≠q 0:=fun h=>absurd (j3 h) (by decide)
abbrev Mt:=Nat→Nat→R
noncomputable def ow (M:Mt)(k:Nat):Nat→Nat→Nat
 |0,p=>p
 |n+1,p=>open Classical in if M p k=q 0 then ow M k n (p+1)else p
theorem mN (M:Mt)(k:Nat):∀n p,p≤ow M k n p∧ow M k n p≤p+n∧(∀i,p≤i→i<ow M k n p→M i k=q 0)∧(ow M k n p<p+n→M (ow M k n p) k≠q 0)
 |0,p=>⟨O1 _,O1 _,fun i h1 h2=>by unfold ow at h2;omega,fun h=>by unfold ow at h;omega⟩
 |n+1,p=>by
  unfold ow
  split
  ·rename_i h0
   obtain⟨h1,h2,h3,h4⟩:=mN M k n (p+1);refine⟨by omega,by omega,fun i h5 h6=>?_,fun h=>h4 (by omega)⟩
   by_cases e:i=p
   ·rw[e];exact h0
   exact h3 i (by omega) h6
  rename_i h0
  exact⟨O1 _,by omega,fun i h1 h2=>by omega,fun _=>h0⟩
def uj (M:Mt)(a b:Nat):Mt:=fun i=>if i=a then M b else if i=b then M a else M i
noncomputable def jT (M:Mt)(t k:Nat):Mt:=fun i j=>if i=t then M t j*iv (M t k)else M i j-M t j*iv (M t k)*M i k
noncomputable def ov (r k:Nat)(s:Mt×List Nat):Mt×List Nat:=
 open Classical in if ow s.1 k (r-s.2.length) s.2.length<r then(jT (uj s.1 s.2.length (ow s.1 k (r-s.2.length) s.2.length)) s.2.length k,s.2++[k])else s
noncomputable def red (r:Nat)(M:Mt):Nat→Mt×List Nat
 |0=>(M,[])
 |k+1=>ov r k (red r M k)
structure Qo (r k:Nat) (N:Mt) (p:List Nat):Prop where
 len:p.length≤r
 lt:∀i,i<p.length→p.getD i 0<k
 asc:∀i j,i<j→j<p.length→p.getD i 0<p.getD j 0
 one:∀i j,i<r→j<p.length→N i (p.getD j 0)=if i=j then q 1 else q 0
 low:∀i j,p.length≤i→i<r→j<k→N i j=q 0
 left:∀i j,i<p.length→j<p.getD i 0→N i j=q 0
theorem N9 {s:Mt×List Nat}{r k:Nat}(h:s.2.length≤r)(hf:ow s.1 k (r-s.2.length) s.2.length<r):s.2.length≤ow s.1 k (r-s.2.length) s.2.length∧s.1 (ow s.1 k (r-s.2.length) s.2.length) k≠q 0:=by
 obtain⟨h1,_,_,h4⟩:=mN s.1 k (r-s.2.length) s.2.length;exact⟨h1,h4 (by omega)⟩
theorem Qo.step {r k:Nat}{s:Mt×List Nat}(E:Qo r k s.1 s.2):Qo r (k+1) (ov r k s).1 (ov r k s).2:=by
 obtain⟨N,p⟩:=s;have E:Qo r k N p:=E;unfold ov
 split
 ·rename_i hf
  obtain⟨hp,hn⟩:=N9 (s:=(N,p)) E.len hf;simp only at hf hp hn⊢
  generalize ow N k (r-p.length) p.length=t at hf hp hn⊢
  have hz:∀i j,p.length≤i→i<r→j<k→uj N p.length t i j=q 0:=by
   intro i j h1 h2 h3;unfold uj
   split
   ·exact E.low t j hp hf h3
   split
   ·exact E.low _ j (O1 _) (by omega) h3
   exact E.low i j h1 h2 h3
  have ht:uj N p.length t p.length k≠q 0:=by
   unfold uj;rw[if_pos rfl];exact hn
  have Xl:∀i,i<p.length→uj N p.length t i=N i:=by
   intro i hi;unfold uj;rw[if_neg (by omega),if_neg (by omega)]
  generalize uj N p.length t=S at hz ht Xl
  have hl:∀i j,i<r→j<k→jT S p.length k i j=S i j:=by
   intro i j hi hj;unfold jT;have h0:=hz p.length j (O1 _) (by omega) hj
   split
   ·rename_i e
    rw[h0,zero_mul,e,h0]
   rw[h0,zero_mul,zero_mul,sub_zero]
  have hg:∀j,j<p.length→(p++[k]).getD j 0=p.getD j 0:=fun j hj=>by
   rw[X7,X7,List.getElem?_append_left hj]
  have hk:(p++[k]).getD p.length 0=k:=by
   rw[X7,List.getElem?_append_right (O1 _),Nat.sub_self];rfl
  have S3:∀i,i<r→jT S p.length k i k=if i=p.length then q 1 else q 0:=by
   intro i hi;unfold jT
   split
   ·rename_i e
    rw[rN ht]
   rw[rN ht,one_mul,sub_self]
  have hlen:(p++[k]).length=p.length+1:=by simp
  refine⟨by rw[hlen];omega,fun i hi=>?_,fun i j VG hj=>?_,fun i j hi hj=>?_,fun i j h1 h2 h3=>?_,fun i j h1 h2=>?_⟩
  ·rw[hlen]at hi
   by_cases e:i<p.length
   ·rw[hg i e];have:=E.lt i e;omega
   obtain rfl:i=p.length:=by omega
   rw[hk];omega
  ·rw[hlen]at hj
   by_cases e:j<p.length
   ·rw[hg i (by omega),hg j e];exact E.asc i j VG e
   obtain rfl:j=p.length:=by omega
   rw[hk,hg i VG];exact E.lt i VG
  ·rw[hlen]at hj
   by_cases e:j<p.length
   ·rw[hg j e,hl i _ hi (E.lt j e)]
    by_cases e2:i<p.length
    ·rw[Xl i e2];exact E.one i j hi e
    rw[hz i _ (by omega) hi (E.lt j e),if_neg (by omega)]
   obtain rfl:j=p.length:=by omega
   rw[hk];exact S3 i hi
  ·rw[hlen]at h1
   by_cases e:j<k
   ·rw[hl i j h2 e];exact hz i j (by omega) h2 e
   obtain rfl:j=k:=by omega
   rw[S3 i h2,if_neg (by omega)]
  rw[hlen]at h1
  by_cases e:i<p.length
  ·rw[hg i e]at h2
   have:=E.lt i e
   rw[hl i j (by omega) (by omega),Xl i e];exact E.left i j e h2
  obtain rfl:i=p.length:=by omega
  rw[hk]at h2;rw[hl _ j (by omega) h2];exact hz _ j (O1 _) (by omega) h2
 rename_i hf
 have h1:=E.len;obtain⟨_,_,h3,_⟩:=mN N k (r-p.length) p.length;refine⟨E.len,fun i hi=>Nat.lt_succ_of_lt (E.lt i hi),E.asc,E.one,fun i j h4 h5 h6=>?_,E.left⟩
 by_cases e:j<k
 ·exact E.low i j h4 h5 e
 obtain rfl:j=k:=by omega
 exact h3 i h4 (by simp only at hf;omega)
theorem gR (r:Nat)(M:Mt):∀k,Qo r k (red r M k).1 (red r M k).2
 |0=>⟨O2 _,fun i hi=>absurd hi (O5 _),fun i j _ hj=>absurd hj (O5 _),fun i j _ hj=>absurd hj (O5 _),fun i j _ _ hj=>absurd hj (O5 _),fun i j hi=>absurd hi (O5 _)⟩
 |k+1=>(gR r M k).step
theorem KC {x y:R}:x-y=q 0↔x=y:=⟨gJ,fun h=>by rw[h,sub_self]⟩
end Go.Mx
namespace Go.Proofs.YtehahgjkjfoebaaGreat
open Go.Proofs.Tryz
open Go Go.Eng
open Go.Tw (El ax bI TG qN cM tB jβ jμ iF jS aC aH)
open Go.Mx (iv)
structure Nu (A:List R) where
 x:List El×El
 v:R
 w:Nat
 hw:1≤w
 ok:ax A x.1 x.2 v (300*w-1) (3*w)
def wB:Nat:=3400
def wA:Nat:=8000
theorem Nk {w:Nat}(h:w≤wA+wB):Sm (300*w) (3*w):=by
 unfold Sm Go.Tw.qN;unfold wA wB at h;omega
def Eg {A:List R}(f:FuncId)(a b:Nu A)(v:R):Prop:=∃c:Nu A,c.v=v∧c.w=a.w+b.w∧Pr prog f [nX a.x,nX b.x] (.aB [nX c.x,.one (.int .i64 0)])
section
variable {A:List R}
theorem Nu.sm (a:Nu A)(h:a.w≤wA):Sm (300*a.w-1) (3*a.w):=(Nk (by omega)).mono (by omega) (O1 _)
theorem sF {n:Nat}(h:n≤wB):n≤wA:=O0 h (by decide)
theorem Nu.j1 (a:Nu A)(h:a.w≤wB):300*a.w-1≤jβ:=by
 have:300*wB≤jβ:=by decide
 omega
theorem Nu.j2 (a:Nu A)(h:a.w≤wB):3*a.w≤jμ:=by
 have:3*wB≤jμ:=by decide
 omega
theorem G0 {a b:Nat}(ha:a≤wA)(hb:b≤wB):Sm (300*a-1+(300*b-1)) (3*a+3*b):=(Nk (w:=a+b) (by omega)).mono (by omega) (by omega)
variable (S:Go.Tw.Src 64 A)(hA:Go.Tw.oF A)
include S hA
theorem LU {a b:Nu A}(ha:a.w≤wA)(hb:b.w≤wB):Eg 61 a b (a.v+b.v):=by
 obtain⟨z,nz,c⟩:=ph S hA a.ok b.ok (a.sm ha) (b.sm (sF hb)) (b.j1 hb) (b.j2 hb)
 have:=a.hw;have:=b.hw
 exact⟨⟨z,_,a.w+b.w,by omega,nz.mono (by omega) (by omega)⟩,rfl,rfl,c⟩
theorem LK {a b:Nu A}(ha:a.w≤wA)(hb:b.w≤wB):Eg 63 a b (a.v-b.v):=by
 obtain⟨z,nz,c⟩:=th S hA a.ok b.ok (a.sm ha) (b.sm (sF hb)) (b.j1 hb) (b.j2 hb)
 have:=a.hw;have:=b.hw
 exact⟨⟨z,_,a.w+b.w,by omega,nz.mono (by omega) (by omega)⟩,rfl,rfl,c⟩
theorem EE {a b:Nu A}(ha:a.w≤wA)(hb:b.w≤wB):Eg 25 a b (a.v*b.v):=by
 obtain⟨z,nz,c⟩:=pc S hA a.ok b.ok (a.sm ha) (b.sm (sF hb)) (b.j1 hb) (b.j2 hb) (G0 ha hb)
 have:=a.hw;have:=b.hw
 exact⟨⟨z,_,a.w+b.w,by omega,nz.mono (by omega) (by omega)⟩,rfl,rfl,c⟩
omit S hA in
theorem xU {x y:R}(h:x*y=R.q 1):y=iv x:=by
 have h0:x≠R.q 0:=fun e=>Go.Mx.iD (by rw[←h,e,R.zero_mul]);refine R.jw (z:=x) ?_ h0;rw[R.mul_comm,h,R.mul_comm,Go.Mx.rN h0]
omit S hA in
theorem Nu.inv (hV:Go.Tw.dV A){b:Nu A}(h0:b.v≠R.q 0):∃n,Go.Tw.cF b.x.1.length b.x.1 b.x.2=some n∧ax A b.x.1 n (iv b.v) (300*b.w-1) (3*b.w):=by
 cases e:Go.Tw.cF b.x.1.length b.x.1 b.x.2 with
 |none=>exact absurd (by rw[←b.ok.val];exact Go.Tw.og b.ok.tg.rd b.ok.len e) h0
 |some n=>
  obtain⟨ln,en⟩:=Go.Tw.dz b.ok.tg.rd.rl b.ok.len e;rw[b.ok.val]at en;exact⟨n,rfl,b.ok.tg,ln,xU en,b.ok.sz.inv hV (by rw[←xU en];exact en)⟩
theorem Is {a:Nu A}(ha:a.w≤wA):Pr prog 65 [nX a.x] (.one (.int .i64 (R.bQ a.v))):=by
 have g:=Bh (a.sm ha) (mi S hA a.ok.tg) a.ok.len (a.ok.QQ S hA);rw[Go.Tw.cA a.ok.tg.rd.rl a.ok.len,a.ok.val]at g;exact g
theorem Pw {z:List El×El}{β μ:Nat}(nz:ax A z.1 z.2 (R.q 0) β μ):Pr prog 65 [nX z] (.one (.int .i64 0)):=by
 have g:=Bh (show jS<2^37 by decide) (mi S hA nz.tg) nz.len (nz.tg.Rj S hA nz.len nz.val (by decide) (by decide));rw[Go.Tw.cA nz.tg.rd.rl nz.len,nz.val,R.gu]at g;exact g
theorem EL {a b:Nu A}(ha:a.w≤wA)(hb:b.w≤wB)(h:a.v=b.v∨a.w+b.w≤wA){r:Bool}(hr:r=true↔a.v=b.v):Pr prog 46 [nX a.x,nX b.x] (.one (.bool r)):=by
 obtain⟨c,c1,c2,c3⟩:=LK S hA ha hb;have g:Pr prog 65 [nX c.x] (.one (.int .i64 (R.bQ c.v))):=by
  rcases h with h|h
  ·have e:c.v=R.q 0:=by rw[c1,h,R.sub_self]
   have:=c.ok
   rw[e]at this⊢;rw[R.gu];exact Pw S hA this
  exact Is S hA (by omega)
 have:=CY a.x b.x _ (Hu a.x b.x c.x _ c3 g)
 have e:decide (R.bQ c.v=0)=r:=by
  rw[Bool.eq_iff_iff,decide_eq_true_iff,R.kr,hr,c1,Go.Mx.KC]
 rw[e]at this;exact this
end
variable {A:List R}
def v8 (n:Nat)(r:Nat→Nu A):C:=ao n fun i=>(r i).x
def dj (r:Nat)(c:Nat→Nat)(m:Nat→Nat→Nu A):C:=aq r c fun i j=>(m i j).x
open Go Go.Eng
open Go.Tw (El aC aH zE aj QB cM tB val In Rd TG bZ bA a9 Ext ax qN jβ jμ)
section
variable {A:List R}(S:Go.Tw.Src 64 A)(hA:Go.Tw.oF A)
include S hA
omit S hA in
theorem In.mz {t s:List El}{z:R}(h:In t.length t z):In (t++s).length (t++s) z:=((Go.Tw.j7 (O1 _) z).2 h).le (by rw[X6];omega)
theorem H7 {t x:List El}(G:TG A t)(X:TG A x):∃U,wx t x U∧TG A U∧(∀z,In t.length t z→In U.length U z)∧∀z,In x.length x z→In U.length U z:=by
 cases hb:eJ t.length x.length t x with
 |true=>
  obtain⟨s,e⟩:=bE.1 hb;exact⟨t,.inl ⟨hb,rfl⟩,G,fun _ h=>h,fun z h=>by rw[e];exact In.mz h⟩
 |false=>
  cases Tq:eJ x.length t.length x t with
  |true=>
   obtain⟨s,e⟩:=bE.1 Tq;exact⟨x,.inr (.inl ⟨hb,Tq,rfl⟩),X,fun z h=>by rw[e];exact In.mz h,fun _ h=>h⟩
  |false=>
   obtain⟨U,rs,s,eU,E,_,c⟩:=jW S hA G X;exact⟨U,.inr (.inr ⟨hb,Tq,rs,c⟩),E.tg,fun z h=>by rw[eU];exact In.mz h,fun _ h=>Go.Tw.In.CR E (O1 _) h⟩
theorem G6 {U:List El}(G:TG A U){a:Nu A}(hw:a.w≤wB)(Tb:∀z,In a.x.1.length a.x.1 z→In U.length U z):∃e,ax A U e a.v (300*a.w-1) (3*a.w)∧wK U a.x e:=by
 have ul:=G.my hA
 cases hb:eJ U.length a.x.1.length U a.x.1 with
 |true=>
  obtain⟨s,e⟩:=bE.1 hb;refine⟨bZ U.length a.x.2,by rw[e]at G⊢;exact a.ok.pad G,.inl ⟨hb,nu (by omega) (by rw[a.ok.len];exact Nat.two_pow_pos _) ?_⟩⟩;rw[a.ok.len,e,X6];exact O3 (by decide) (by omega)
 |false=>
  obtain⟨U',rs,s,eU,E,SM,c⟩:=jW S hA G a.ok.tg;obtain rfl:U'=U:=SM fun j hj=>Tb _ ((Go.Tw.In.root (h:=j)).le (by omega));obtain⟨_,_,n1,n2,qb,I⟩:=a.ok.Ru S hA (a.j1 hw) (a.j2 hw) E;have tq:=mi S hA E.tg;have a3:=a.ok.tg.my hA;have im:=mf (a:=a.x.2) ⟨tq,n1,n2,I.r,I.m⟩ (by rw[E.len];exact O1 _) (by omega) a.ok.len qb;exact⟨_,a.ok.image E,.inr ⟨hb,U',rs,c,im⟩⟩
omit S hA in
theorem n9 {n:Nat}(l:Nat→List El×El){i:Nat}(hi:i<n):((List.range n).map l).getD i default=l i:=by
 rw[X7,List.getElem?_map,List.getElem?_range hi];rfl
omit S hA in
theorem N0 {n:Nat}{l:Nat→Nu A}:dH (v8 n l) (bP ((List.range n).map fun i=>(l i).x)):=
 .rows (by simp) fun i j hi _=>.of_eq (by unfold eZ;rw[n9 (fun i=>(l i).x) hi])
omit S hA in
theorem Bq {P:Program}{f:FuncId}{args:List V}{e:TypeId}{w n n':Nat}{g g':Nat→Nat→C}{c:C}(h:dK P f args (.rows e w n g) c)(hn:n=n')(hg:∀i j,i<n→j<w→g i j=g' i j):dK P f args (.rows e w n' g') c:=by
 subst hn;obtain⟨h1,h2,h3,h4⟩:=h;refine⟨h1,h2,trivial,fun ok w0 vs Tc Ti=>Calls.mono (h4 ok w0 vs Tc Ti) fun e0 w' he=>?_⟩;obtain⟨v,u,l,k1,k2,k3,k4,k5,k6,k7⟩:=he;refine⟨v,u,l,k1,k2,k3,k4,?_,k6,k7⟩;unfold aM at k5⊢;have hc:∀j,(Bk.rows e w n g').cell j=(Bk.rows e w n g).cell j:=by
  intro j;simp only[Bk.cell]
  split
  ·rename_i hj
   have h0:0<w:=Nat.pos_of_ne_zero fun e=>by subst e;omega
   rw[hg _ _ ((Nat.div_lt_iff_lt_mul h0).2 hj) (Nat.mod_lt _ h0)]
  rfl
 cases hl:l.addr with
 |none=>rw[hl]at k5;exact fun j=>(hc j).trans (k5 j)
 |some p=>
  obtain⟨a,b⟩:=p;rw[hl]at k5;obtain⟨cur,e',VQ,V3⟩:=k5;exact⟨cur,e',VQ,fun j c hj=>V3 j c (by rw[←hc];exact hj)⟩
theorem PM {n:Nat}(hn:n<2^30)(l:Nat→Nu A)(hw:∀i,i<n→(l i).w≤wB):∃o:Nat→Nu A,(∀i,i<n→(o i).v=(l i).v∧(o i).w=(l i).w)∧
  dK prog 74 [.one (v8 n l)] (.rows 56 2 n (fun i=>bC (o i).x)) (.int .i64 0):=by
 have T0:TG A []:=⟨⟨fun i hi=>absurd hi (O5 _),fun i hi=>absurd hi (O5 _)⟩,fun i hi=>absurd hi (O5 _)⟩;obtain⟨tt,e0,hI,hS⟩:=Go.Tw.chain (α:=List El) (I:=fun k t=>TG A t∧∀i,i<k→∀z,In (l i).x.1.length (l i).x.1 z→In t.length t z) (St:=fun k t u=>wx t (l k).x.1 u) (x0:=[]) ⟨T0,fun i hi=>absurd hi (O5 _)⟩ (n:=n) (fun k t _ hk=>by
  obtain⟨U,h1,h2,h3,h4⟩:=H7 S hA hk.1 (l k).ok.tg;refine⟨U,h1,h2,fun i hi z hz=>?_⟩
  by_cases e:i=k
  ·subst e;exact h4 z hz
  exact h3 z (hk.2 i (by omega) z hz))
 have G:=(hI n (O1 _)).1;have ul:=G.my hA;have hE:∀i,∃e,i<n→ax A (tt n) e (l i).v (300*(l i).w-1) (3*(l i).w)∧wK (tt n) (l i).x e:=fun i=>by
  by_cases hi:i<n
  ·obtain⟨e,h⟩:=G6 S hA G (hw i hi) ((hI n (O1 _)).2 i hi);exact⟨e,fun _=>h⟩
  exact⟨[],fun h=>absurd h hi⟩
 obtain⟨e,he⟩:=Classical.skolem.1 hE
 let o:Nat→Nu A:=fun i=>open Classical in if h:i<n then⟨(tt n,e i),(l i).v,(l i).w,(l i).hw,(he i h).1⟩else l i
 have ho:∀i,i<n→(o i).x=(tt n,e i)∧(o i).v=(l i).v∧(o i).w=(l i).w:=fun i hi=>by
  have e1:o i=⟨(tt n,e i),(l i).v,(l i).w,(l i).hw,(he i hi).1⟩:=dif_pos hi;rw[e1];exact⟨rfl,rfl,rfl⟩
 refine⟨o,fun i hi=>(ho i hi).2,?_⟩;have xk:∀i,i<((List.range n).map fun i=>(l i).x).length→Tk (((List.range n).map fun i=>(l i).x).getD i default).1.length (((List.range n).map fun i=>(l i).x).getD i default).1:=fun i hi=>by
  rw[List.length_map,List.length_range]at hi;rw[n9 (fun i=>(l i).x) hi];exact jr S hA (l i).ok.tg
 have ll:((List.range n).map fun i=>(l i).x).length=n:=by simp
 have cm:=se ((List.range n).map fun i=>(l i).x) (by rw[ll];exact hn) tt e0 (fun i hi=>jr S hA (hI i (by rw[ll]at hi;exact hi)).1) xk (fun i hi=>by
  rw[ll]at hi;rw[n9 (fun i=>(l i).x) hi];exact hS i hi)
 rw[ll]at cm;have j:=tI ((List.range n).map fun i=>(l i).x) ((List.range n).map fun i=>(tt n,e i)) (by rw[ll];exact hn) (by simp) (tt n) (jr S hA G) xk cm (fun i hi=>by
  rw[ll]at hi;rw[n9 (fun i=>(tt n,e i)) hi,n9 (fun i=>(l i).x) hi];obtain⟨h1,h2⟩:=he i hi;refine⟨rfl,by rw[h1.len];exact aN (by omega),iL S hA h1 ((l i).sm (sF (hw i hi))),h2⟩)
 refine Bq (j.args ⟨.cell N0,trivial⟩) (by simp) fun i j hi _=>?_;rw[List.length_map,List.length_range]at hi;unfold eZ;rw[n9 (fun i=>(tt n,e i)) hi,(ho i hi).1]
end
open Go Go.Eng
open Go.Tw (El aC aH zE aj QB cM tB val In Rd TG ax qN jβ jμ iF jS)
open Go.Mx (iv)
theorem MC (x y:List El×El)(U:List El)(ea eb ec:El)(hj:Pr prog 74 [.one (bP [x,y])] (.aB [.one (bP [(U,ea),(U,eb)]),.one (.int .i64 0)]))
  (hf:Pr prog 124 [tV U.length U,eV ea,eV eb] (eV ec)):Pr prog 183 [nX x,nX y] (.aB [nX (U,ec),.one (.int .i64 0)]):=by
 have c:=lX _ x y U ea eb ec hj hf;refine pw func183 ⟨[0,1,2,3,4,5],[]⟩ ?_;simp only[Tryz.f183,ntmps183,iz,seval];simp only[vx,T,seval,nX,nV,tC,eV,ag];refine Cg c ?_;simp only[vx,T,seval,nX,nV,tC,eV,ag];exact Ve rfl
theorem KM (x y z:List El×El)(v:El)(hi:Pr prog 182 [tV y.1.length y.1,eV y.2] (.aB [eV v,.one (.int .i64 0)]))(hm:Pr prog 130 [nX x,nX (y.1,v)] (.aB [nX z,.one (.int .i64 0)])):
  Pr prog 137 [nX x,nX y] (.aB [nX z,.one (.int .i64 0)]):=by
 refine pw func137 ⟨[0,1,2,3,4,5,6,7,17],[]⟩ ?_;simp only[Tryz.f137,ntmps137,iz,seval];simp only[vx,T,seval,nX,nV,tC,eV,ag];refine Cg hi ?_;simp only[vx,T,seval,nX,nV,tV,tC,eV,ag];refine Cg hm ?_;simp only[vx,T,seval,nX,nV,tV,tC,eV,ag];exact Ve rfl
theorem Lo (x:List El×El)(ec:El)(hd:Pr prog 93 [nX x] (nX x))(hf:Pr prog 94 [tV x.1.length x.1,eV x.2] (eV ec)):Pr prog 50 [nX x] (nX (x.1,ec)):=by
 refine pw func50 ⟨[0,1,2],[]⟩ ?_;simp only[Tryz.f50,ntmps50,iz,seval];simp only[vx,T,seval,nX,nV,tC,eV,ag];refine Cg hd ?_;simp only[vx,T,seval,nX,nV,tV,tC,eV,ag];refine Cg hf ?_;simp only[vx,T,seval,nX,nV,tV,tC,eV,ag];exact Ve rfl
theorem zV (x:List El×El)(s:Int)(hs:Pr prog 127 [tV x.1.length x.1,eV x.2] (.one (.int .i64 s))):Pr prog 80 [nX x] (.one (.int .i64 s)):=by
 refine pw func80 ⟨[0,1,2],[]⟩ ?_;simp only[Tryz.f80,ntmps80,iz,seval];simp only[vx,T,seval,nX,nV,tC,eV,ag];refine Cg hs ?_;simp only[vx,T,seval,nX,nV,tV,tC,eV,ag];exact Ve rfl
theorem yb.mono {X Y h:Nat}{t:List El}(h1:X≤Y)(W:yb X h t):yb Y h t:=⟨W.tq,fun i hi=>(W.s i hi).mono h1,W.p⟩
section
variable {A:List R}(S:Go.Tw.Src 64 A)(hA:Go.Tw.oF A)
include S hA
theorem K9 {a b:Nu A}(ha:a.w≤wA)(hb:b.w≤wB):Eg 128 a b (a.v+b.v):=by
 obtain⟨z,nz,c⟩:=E6 S hA a.ok b.ok (a.sm ha) (b.sm (sF hb)) (b.j1 hb) (b.j2 hb)
 have:=a.hw;have:=b.hw
 exact⟨⟨z,_,a.w+b.w,by omega,nz.mono (by omega) (by omega)⟩,rfl,rfl,c⟩
theorem JI {a b:Nu A}(ha:a.w≤wA)(hb:b.w≤wB):Eg 183 a b (a.v-b.v):=by
 obtain⟨U,ea,eb,na,nb,_,_,j⟩:=D8 S hA a.ok b.ok (a.sm ha) (b.sm (sF hb)) (b.j1 hb) (b.j2 hb);have nz:=nb.neg;have c:=MC a.x b.x U ea eb _ j (re (jr S hA na.tg) _ _ na.len nb.len (iL S hA na (a.sm ha)) (iL S hA nb (b.sm (sF hb))))
 have:=a.hw;have:=b.hw
 have sz:=na.sz.add nz.sz;exact⟨⟨(U,aC ea (aH eb)),_,a.w+b.w,by omega,na.tg,Go.Tw.ar na.len nz.len,by rw[Go.Tw.val_add na.len nz.len,na.val,nz.val],sz.mono (by omega) (by omega)⟩,rfl,rfl,c⟩
theorem sO {a b:Nu A}(ha:a.w≤wA)(hb:b.w≤wB):Eg 130 a b (a.v*b.v):=by
 obtain⟨z,nz,c⟩:=FI S hA a.ok b.ok (a.sm ha) (b.sm (sF hb)) (b.j1 hb) (b.j2 hb) (G0 ha hb)
 have:=a.hw;have:=b.hw
 exact⟨⟨z,_,a.w+b.w,by omega,nz.mono (by omega) (by omega)⟩,rfl,rfl,c⟩
omit hA in
theorem Lx (hA:Go.Tw.dV A){a b:Nu A}(ha:a.w≤wA)(hb:b.w≤wB)(h0:b.v≠R.q 0):Eg 137 a b (a.v*iv b.v):=by
 obtain⟨n,e,nn⟩:=b.inv hA h0;have i:=ru (b.sm (sF hb)) (mi S hA b.ok.tg) b.ok.len (b.ok.RT S hA) e
 let b':Nu A:=⟨(b.x.1,n),iv b.v,b.w,b.hw,nn⟩
 obtain⟨c,c1,c2,c3⟩:=sO S hA ha (b:=b') hb;exact⟨c,c1,c2,KM a.x b.x c.x n i c3⟩
theorem mR {a:Nu A}(ha:a.w≤wA):Pr prog 80 [nX a.x] (.one (.int .i64 (R.bQ a.v))):=by
 have W:=(tR S hA a.ok.tg (O1 _)).rq.mono (show jS≤2^37-1 by decide);have g:=kW (by decide) W a.ok.len ((a.ok.QQ S hA).mono (Nat.le_pred_of_lt (a.sm ha)));rw[Go.Tw.cA a.ok.tg.rd.rl a.ok.len,a.ok.val]at g;exact zV _ _ g
theorem D9 {a:Nu A}(ha:a.w≤wA):∃c:Nu A,c.v= -a.v∧c.w=a.w∧Pr prog 50 [nX a.x] (nX c.x):=by
 have tk:=jr S hA a.ok.tg;have q:=iL S hA a.ok (a.sm ha);have u3:=a.ok.tg.my hA;exact⟨⟨(a.x.1,aH a.x.2),-a.v,a.w,a.hw,a.ok.neg⟩,rfl,rfl,Lo _ _ (sf tk (by rw[a.ok.len];exact aN (by omega)) q) (wG tk _ a.ok.len q)⟩
end
def Nu.int (A:List R)(z:Int)(h:z.natAbs<2^60:=by decide):Nu A:=
 ⟨(
  [],[Rat.ofInt z]),R.q (Rat.ofInt z),1,O1 _,by
  have T0:TG A []:=⟨⟨fun i hi=>absurd hi (O5 _),fun i hi=>absurd hi (O5 _)⟩,fun i hi=>absurd hi (O5 _)⟩
  refine(ax.short (B:=64) T0 (a:=[Rat.ofInt z]) rfl fun c hc=>?_).mono (by decide) (by show Go.Tw.kp A*0≤3;omega)
  rw[List.mem_singleton]at hc;subst hc;have e1:(Rat.ofInt z).num=z:=rfl;have e2:(Rat.ofInt z).den=1:=rfl;rw[e1,e2];exact⟨by omega,by decide⟩⟩
theorem qz (z:Int)(h:z.natAbs<2^60):Pr prog 79 [.one (.int .i64 z)] (nX ([],[Rat.ofInt z])):=by
 have f:=vB (Rat.ofInt z) (Nat.lt_of_le_of_lt (I3 (by omega)) (by decide)) [];have hr:=cP z (by omega) (by omega);refine pw func79 ⟨[0,2],[]⟩ ?_;simp only[Tryz.f79,ntmps79,iz,seval];simp only[vx,T,seval];refine Cg hr ?_;simp only[vx,T,seval,QV,QC,nX,nV,tC,ag];refine Cg f ?_;simp only[vx,T,seval,QV,QC,nX,nV,tC,ag];exact Ve rfl
open Go Go.Eng
open Go.Tw (El)
section
variable {S:C}{wd io oo:Nat}
theorem DL (x:Nb):Pr prog 129 [.one (.elt S wd io oo),nX x,.one (.int .i64 0)] (nX x):=by
 refine pw func129 ⟨[0,1,2,4,6,15,21],[]⟩ ?_;simp only[Tryz.f129,ntmps129,iz,seval];simp only[vx,T,seval,nX,nV,tC,ag];exact Ve rfl
theorem RI {x y z:Nb}(h:Pr prog 128 [nX x,nX y] (.aB [nX z,.one (.int .i64 0)])):Pr prog 81 [.one (.elt S wd io oo),nX x,nX y] (nX z):=by
 have t:=DL (S:=S) (wd:=wd) (io:=io) (oo:=oo) z;refine pw func81 ⟨[0,1,2,4,5,6,7,8],[]⟩ ?_;simp only[Tryz.f81,ntmps81,iz,seval];simp only[vx,T,seval,nX,nV,tC,ag];refine Cg h ?_;simp only[vx,T,seval,nX,nV,tC,ag];refine Cg t ?_;simp only[vx,T,seval,nX,nV,tC,ag];exact Ve rfl
theorem QA {x y z:Nb}(h:Pr prog 183 [nX x,nX y] (.aB [nX z,.one (.int .i64 0)])):Pr prog 138 [.one (.elt S wd io oo),nX x,nX y] (nX z):=by
 have t:=DL (S:=S) (wd:=wd) (io:=io) (oo:=oo) z;refine pw func138 ⟨[0,1,2,4,5,6,7,8],[]⟩ ?_;simp only[Tryz.f138,ntmps138,iz,seval];simp only[vx,T,seval,nX,nV,tC,ag];refine Cg h ?_;simp only[vx,T,seval,nX,nV,tC,ag];refine Cg t ?_;simp only[vx,T,seval,nX,nV,tC,ag];exact Ve rfl
theorem I6 {x y z:Nb}(h:Pr prog 130 [nX x,nX y] (.aB [nX z,.one (.int .i64 0)])):Pr prog 82 [.one (.elt S wd io oo),nX x,nX y] (nX z):=by
 have t:=DL (S:=S) (wd:=wd) (io:=io) (oo:=oo) z;refine pw func82 ⟨[0,1,2,4,5,6,7,8],[]⟩ ?_;simp only[Tryz.f82,ntmps82,iz,seval];simp only[vx,T,seval,nX,nV,tC,ag];refine Cg h ?_;simp only[vx,T,seval,nX,nV,tC,ag];refine Cg t ?_;simp only[vx,T,seval,nX,nV,tC,ag];exact Ve rfl
theorem Qt {x y z:Nb}(h:Pr prog 137 [nX x,nX y] (.aB [nX z,.one (.int .i64 0)])):Pr prog 90 [.one (.elt S wd io oo),nX x,nX y] (nX z):=by
 have t:=DL (S:=S) (wd:=wd) (io:=io) (oo:=oo) z;refine pw func90 ⟨[0,1,2,4,5,6,7,8],[]⟩ ?_;simp only[Tryz.f90,ntmps90,iz,seval];simp only[vx,T,seval,nX,nV,tC,ag];refine Cg h ?_;simp only[vx,T,seval,nX,nV,tC,ag];refine Cg t ?_;simp only[vx,T,seval,nX,nV,tC,ag];exact Ve rfl
theorem Rt {n n':Nat}(a b s p:Nat→Nb)(sa sb:Nat→Int)(hn:n<2^38)(Uy:n≤n')(h0:Pr prog 79 [.one (.int .i64 0)] (nX (s 0)))
  (ga:∀i,i<n→Pr prog 80 [nX (a i)] (.one (.int .i64 (sa i)))) (gb:∀i,i<n→Pr prog 80 [nX (b i)] (.one (.int .i64 (sb i))))
  (hs:∀i,i<n→(sa i=0∨sb i=0)→s (i+1)=s i)
  (hm:∀i,i<n→sa i≠0→sb i≠0→Pr prog 82 [.one (.elt S wd io oo),nX (a i),nX (b i)] (nX (p i))∧Pr prog 81 [.one (.elt S wd io oo),nX (s i),nX (p i)] (nX (s (i+1)))):
  Pr prog 43 [.one (.elt S wd io oo),.one (ao n a),.one (ao n' b)] (nX (s n)):=by
 refine pw func43 ⟨[0,1,2,6,7,8,9,11,12,13,14,28],[]⟩ ?_;simp only[Tryz.f43,ntmps43,iz,seval];simp only[vx,T,seval,ao,nX,nV,tC,ag];refine Cg h0 ?_;simp only[vx,T,seval,ao,nX,nV,tC,ag];refine Lk (fun y:{i:Nat//i≤n}=>⟨[(0,.one (.elt S wd io oo)),(2,.one (ao n' b)),(6,.one (.ptr 1 0)),(7,.one (.ptr 2 0)),(11,.one (ao n a)),(12,.one (.int .i64 n)),(13,.one (.int .i64 y.1))],[(1,⟨.var [.nil,.nil],true⟩),(2,⟨.var [tC (s y.1).1.length (s y.1).1,ag (s y.1).2],true⟩)],3,41⟩) (fun y=>n-y.1) ⟨0,O2 _⟩ ?_ (fun⟨i,hi⟩=>?_)
 ·refine Sa ?_;simp only[ry,seval,rz,ao,tC,ag]
 simp only;have wi:=wI i (by omega);simp only[vx,T,seval,ao];refine⟨fun g=>Lg ?_,fun g=>Lg ?_⟩
 ·have Tb:i<n:=by omega
  have c1:=ga i Tb;have c2:=gb i Tb;have c3:=hs i Tb;have c4:=hm i Tb;simp only[vx,T,seval,ao,bC,wi,tC,ag];refine⟨by omega,Cg c1 ?_⟩;simp only[vx,T,seval,ao,bC,wi,tC,ag];refine⟨fun h1=>Lg ?_,fun h1=>Lg ?_⟩
  ·have g1:sa i≠0:=by simpa using h1
   simp only[vx,T,seval,ao,bC,wi,tC,ag];refine⟨by omega,Cg c2 ?_⟩;simp only[vx,T,seval,ao,bC,wi,tC,ag];refine⟨fun h2=>Lg ?_,fun h2=>Lg ?_⟩
   ·have g2:sb i≠0:=by simpa using h2
    obtain⟨c5,c6⟩:=c4 g1 g2;simp only[vx,T,seval,ao,bC,wi,tC,ag];refine⟨by omega,Cg c5 ?_⟩;simp only[vx,T,seval,ao,nX,nV,bC,wi,tC,ag];refine Cg c6 ?_;simp only[vx,T,seval,ao,nX,nV,bC,wi,tC,ag];refine Lq ⟨i+1,by omega⟩ ?_ (by show n-(i+1)<n-i;omega);refine Sa ?_;simp only[ry,seval,rz,ao,tC,ag]
   have e:=c3 (.inr (by simpa using h2));simp only[vx,T,seval,ao,bC,wi,tC,ag];refine Lq ⟨i+1,by omega⟩ ?_ (by show n-(i+1)<n-i;omega);refine Sa ?_;simp only[ry,seval,rz,ao,tC,ag,e]
  have e:=c3 (.inl (by simpa using h1));simp only[vx,T,seval,ao,bC,wi,tC,ag];refine Lq ⟨i+1,by omega⟩ ?_ (by show n-(i+1)<n-i;omega);refine Sa ?_;simp only[ry,seval,rz,ao,tC,ag,e]
 obtain rfl:i=n:=by omega
 simp only[vx,T,seval,ao,nX,nV,tC,ag];exact Ve rfl
end
open Go Go.Eng
open Go.Tw (El)
theorem Kb {r c:Nat}(M:Nat→Nat→Nb)(P:Nat→Nb)(hn:r*c<2^30)(hr:r<2^30)(hj:dK prog 74 [.one (ao (r*c) fun p=>M (p/c) (p%c))] (.rows 56 2 (r*c) (fun p=>bC (P p))) (.int .i64 0)):
  uw prog 87 [.one (aq r (fun _=>c) M)] r (fun b i=>.own b 2 (i*c) c) (.rows 56 2 (r*c) (fun p=>bC (P p))) (some (.int .i64 0)):=by
 have cc:=JQ (r:=r) (c:=c) M (by omega) (by omega)
 refine yD CV mixed func87 rfl (by decide) _ (by simp[ntmps87]) ⟨[0,2,3,4,5,6,7,8,16,21,22,23,24],[(8,(.cons 13 [8,9,10,11] (.cons 14 [] .nil .nil) .nil))]⟩ (by kernel_rfl) r (fun b i=>.own b 2 (i*c) c) (.rows 56 2 (r*c) (fun p=>bC (P p))) (some (.int .i64 0)) trivial (fun _ h=>by cases h<;>trivial) ?_
 show vc T _ _ (Option.get! Tryz.f87.body) _ _;simp only[Tryz.f87,ntmps87,Option.get!,iS,iM,eO,J1];simp only[vx,T,seval,aq,ao];refine Cg cc ?_;simp only[vx,T,seval,aq,ao];refine cN.Bn hj ?_;simp only[vx,T,seval,aq,ao];refine⟨by omega,?_⟩;refine Lk (fun y:{i:Nat//i≤r}=>⟨[(2,.one .nil),(3,.one (.int .i64 0)),(4,.one (.own 1 2 (y.1*c) (r*c-y.1*c))),(6,.one (.win 2 1 0 r)),(21,.one (aq r (fun _=>c) M)),(22,.one (.int .i64 r)),(23,.one (.int .i64 y.1))],
  [(1,⟨.rows 56 2 (r*c) (fun p=>bC (P p)),true⟩),(2,⟨.wins 38 1 r (fun j=>if j<y.1 then .own 1 2 (j*c) c else .nil),true⟩)],3,43⟩) (fun y=>r-y.1) ⟨0,O2 _⟩ ?_ (fun⟨i,hi⟩=>?_)
 ·refine Sa ?_;simp only[ry,seval,rz,aq,ao,Nat.zero_mul,O5,Nat.sub_zero]
 simp only;have wi:=wI i (by omega);simp only[vx,T,seval,aq,ao];refine⟨fun g=>Lg ?_,fun g=>Lg ?_⟩
 ·have WB:i<r:=by omega
  have hm:(i+1)*c≤r*c:=O8 _ WB;rw[Nat.add_mul,Nat.one_mul]at hm;have e2:(((r*c-i*c:Nat):Int)-(c:Int)).toNat=r*c-(i*c+c):=by omega
  simp only[vx,T,seval,aq,ao,wi];refine⟨by omega,by omega,by omega,by omega,by omega,Lq ⟨i+1,by omega⟩ ?_ (by show r-(i+1)<r-i;omega)⟩;refine Sa ?_;simp only[ry,seval,rz,aq,ao,Nat.add_mul,Nat.one_mul,e2];intro j hj
  by_cases h1:j=i
  ·subst h1;rw[if_pos rfl,if_pos (by omega)];exact⟨by decide,rfl,rfl,rfl,rfl⟩
  rw[if_neg h1]
  by_cases h2:j<i
  ·rw[if_pos h2,if_pos (by omega)];exact⟨by decide,rfl,rfl,rfl,rfl⟩
  rw[if_neg h2,if_neg (by omega)]
  trivial
 obtain rfl:i=r:=by omega
 simp only[vx,T,seval,aq,ao,wi];exact⟨⟨rfl,rfl,by decide,⟨rfl,rfl,fun j hj=>.inl ⟨2,j*c,c,if_pos hj,fun _=>rfl⟩⟩,⟨rfl,rfl,rfl,fun _ _ _ _=>rfl⟩⟩,rfl⟩
def gy (Z P:Nat→Nb)(a f t:Nat)(p:Nat):Nb:=if a+f≤p∧p<a+t then Z (p-a)else P p
section
variable {S:C}{wd io oo:Nat}
theorem v5 {N a b c f:Nat}(P Z Q:Nat→Nb)(n:Nb)(sg:Nat→Int)(ha:a+c≤N)(hb:b+c≤N)(hd:a+c≤b∨b+c≤a)(hN:N<2^38)(hf:f≤c)
  (g:∀t,f≤t→t<c→Pr prog 80 [nX (P (b+t))] (.one (.int .i64 (sg t)))) (h0:∀t,f≤t→t<c→sg t=0→Z t=P (a+t))
  (h1:∀t,f≤t→t<c→sg t≠0→Pr prog 82 [.one (.elt S wd io oo),nX n,nX (P (b+t))] (nX (Q t))∧Pr prog 138 [.one (.elt S wd io oo),nX (P (a+t)),nX (Q t)] (nX (Z t))):
  Mc prog 91 [.one (.elt S wd io oo),.one (.own 0 2 a c),.one (.own 0 2 b c),nX n,.one (.int .i64 f)] (.rows 56 2 N (fun p=>bC (P p))) (fun _ B'=>B'= .rows 56 2 N (fun p=>bC (gy Z P a f c p))):=by
 refine mw func91 ⟨[0,1,2,3,4,8,10,15,23],[]⟩ ?_;simp only[Tryz.f91,ntmps91,iz,seval];simp only[vx,T,seval,nX,nV,tC,ag];have s0:∀p,gy Z P a f f p=P p:=fun p=>if_neg (by omega);refine Lk (fun y:{t:Nat//f≤t∧t≤c}=>⟨[(0,.one (.elt S wd io oo)),(1,.one (.own 0 2 a c)),(2,.one (.own 0 2 b c)),(8,.one (.ptr 1 0)),(10,.one (.int .i64 y.1))],
  [(0,⟨.rows 56 2 N (fun p=>bC (gy Z P a f y.1 p)),true⟩),(1,⟨.var [tC n.1.length n.1,ag n.2],true⟩)],2,40⟩) (fun y=>c-y.1) ⟨f,O1 _,hf⟩ ?_ (fun⟨t,ht,htc⟩=>?_)
 ·refine Sa ?_;simp only[ry,seval,rz,tC,ag,s0]
 simp only;have wi:=wI t (by omega);simp only[vx,T,seval];refine⟨fun gt=>Lg ?_,fun gt=>Lg ?_⟩
 ·have Zc:t<c:=by omega
  have eb:gy Z P a f t (b+t)=P (b+t):=if_neg (by omega);have ea:gy Z P a f t (a+t)=P (a+t):=if_neg (by omega);have hg:=g t ht Zc;have step:∀p j,p<N→j<2→bz (fun p=>bC (gy Z P a f t p)) (a+t) 0 [tC (Z t).1.length (Z t).1,ag (Z t).2] p j=bC (gy Z P a f (t+1) p) j:=by
   intro p j hp hj;unfold bz gy
   by_cases h:p=a+t
   ·rw[if_pos h,if_pos (O2 _),if_pos (by simpa using hj),if_pos (by omega),h,Nat.add_sub_cancel_left]
    match j,hj with
    |0,_=>rfl
    |1,_=>rfl
   rw[if_neg h]
   dsimp only
   by_cases h2:a+f≤p∧p<a+t
   ·rw[if_pos h2,if_pos (by omega)]
   rw[if_neg h2,if_neg (by omega)]
  simp only[vx,T,seval,eb,bC,tC,ag];refine⟨by omega,Cg hg ?_⟩;simp only[vx,T,seval,eb,bC,tC,ag];refine⟨fun g2=>Lg ?_,fun g2=>Lg ?_⟩
  ·obtain⟨c1,c2⟩:=h1 t ht Zc (by simpa using g2);simp only[vx,T,seval,eb,ea,bC,tC,ag];refine⟨by omega,by omega,Cg c1 ?_⟩;simp only[vx,T,seval,nX,nV,eb,ea,bC,tC,ag];refine Cg c2 ?_;simp only[vx,T,seval,nX,nV,eb,ea,bC,tC,ag,wi];refine⟨by omega,Lq ⟨t+1,by omega,by omega⟩ ?_ (by show c-(t+1)<c-t;omega)⟩;refine Sa ?_;simp only[ry,seval,rz,tC,ag];exact step
  have e:=h0 t ht Zc (by simpa using g2);simp only[vx,T,seval,wi];refine Lq ⟨t+1,by omega,by omega⟩ ?_ (by show c-(t+1)<c-t;omega);refine Sa ?_;simp only[ry,seval,rz,tC,ag];intro p j hp hj;unfold gy
  by_cases h:p=a+t
  ·rw[if_neg (by omega),if_pos (by omega),h,Nat.add_sub_cancel_left,e]
  by_cases h2:a+f≤p∧p<a+t
  ·rw[if_pos h2,if_pos (by omega)]
  rw[if_neg h2,if_neg (by omega)]
 obtain rfl:t=c:=by omega
 simp only[vx,T,seval]
end
open Go Go.Eng
open Go.Tw (El ax TG)
open Go.Mx (sm iv)
theorem QJ {A:List R}{n:Nat}{p:Nat→Nu A→Prop}(d:Nu A)(h:∀i,i<n→∃c,p i c):∃f:Nat→Nu A,∀i,i<n→p i (f i):=by
 have h':∀i,∃c,i<n→p i c:=fun i=>by
  by_cases hi:i<n
  ·obtain⟨c,hc⟩:=h i hi;exact⟨c,fun _=>hc⟩
  exact⟨d,fun h=>absurd h hi⟩
 exact Classical.skolem.1 h'
theorem Qq {A:List R}{r c:Nat}{p:Nat→Nat→Nu A→Prop}(d:Nu A)(h:∀i j,i<r→j<c→∃x,p i j x):∃f:Nat→Nat→Nu A,∀i j,i<r→j<c→p i j (f i j):=by
 have h':∀i,∃f:Nat→Nu A,i<r→∀j,j<c→p i j (f j):=fun i=>by
  by_cases hi:i<r
  ·obtain⟨f,hf⟩:=QJ d fun j hj=>h i j hi hj;exact⟨f,fun _=>hf⟩
  exact⟨fun _=>d,fun h=>absurd h hi⟩
 obtain⟨f,hf⟩:=Classical.skolem.1 h';exact⟨f,fun i j hi hj=>hf i hi j hj⟩
theorem BW (A:List R)(z:Int)(h:z.natAbs<2^60):Pr prog 24 [.one (.int .i64 z)] (nX (Nu.int A z h).x):=kG z (by omega) (by omega)
theorem Nc (A:List R)(z:Int)(h:z.natAbs<2^60):(Nu.int A z h).w=1:=rfl
section
variable {A:List R}(S:Go.Tw.Src 64 A)(hA:Go.Tw.oF A)
include S hA
theorem Qn {n n' p q:Nat}(a b:Nat→Nu A)(hn:n<2^38)(Uy:n≤n')(ha:∀i,i<n→(a i).w≤p)(hb:∀i,i<n→(b i).w≤q)(h1:1+n*(p+q)≤wA)(h2:p+q≤wB):
  ∃c:Nu A,c.v=sm n (fun i=>(a i).v*(b i).v)∧c.w≤1+n*(p+q)∧Pr prog 83 [.one (v8 n a),.one (v8 n' b)] (nX c.x):=by
 have hBA:wB≤wA:=by decide
 obtain⟨P,hP⟩:=QJ (n:=n) (p:=fun i c=>c.v=(a i).v*(b i).v∧c.w≤p+q∧Pr prog 132 [nX (a i).x,nX (b i).x] (nX c.x)) (a 0) fun i hi=>by
  have k1:=ha i hi;have k2:=hb i hi;obtain⟨c,c1,c2,c3⟩:=EE S hA (a:=a i) (b:=b i) (by omega) (by omega);exact⟨c,c1,by omega,OO c3⟩
 obtain⟨s,e0,hI,hS⟩:=Go.Tw.chain (α:=Nu A) (I:=fun k s=>s.v=sm k (fun i=>(a i).v*(b i).v)∧s.w≤1+k*(p+q)) (St:=fun k s t=>Pr prog 131 [nX s.x,nX (P k).x] (nX t.x)) (x0:=Nu.int A 0) ⟨rfl,by rw[Nc];omega⟩ (n:=n) (fun k s hk hs=>by
  obtain⟨p1,p2,_⟩:=hP k hk;have hm:(k+1)*(p+q)≤n*(p+q):=O8 _ hk;rw[Nat.add_mul,Nat.one_mul]at hm;obtain⟨c,c1,c2,c3⟩:=LU S hA (a:=s) (b:=P k) (by omega) (by omega);refine⟨c,Pv c3,by rw[c1,hs.1,p1];rfl,by rw[Nat.add_mul,Nat.one_mul];omega⟩)
 obtain⟨v,w⟩:=hI n (O1 _);refine⟨s n,v,w,OV (fun i=>(a i).x) (fun i=>(b i).x) (fun i=>(s i).x) (fun i=>(P i).x) hn Uy ?_ (fun i hi=>(hP i hi).2.2) hS⟩;rw[e0];exact BW A 0 (by decide)
theorem Ll {r n n' p q:Nat}(m:Nat→Nat→Nu A)(v:Nat→Nu A)(hr:r<2^38)(hn:n<2^38)(Uy:n≤n')(ha:∀i j,i<r→j<n→(m i j).w≤p)(hb:∀i,i<n→(v i).w≤q)(h1:1+n*(p+q)≤wA)(h2:p+q≤wB):
  ∃o:Nat→Nu A,(∀i,i<r→(o i).v=sm n (fun j=>(m i j).v*(v j).v)∧(o i).w≤1+n*(p+q))∧Pr prog 44 [.one (dj r (fun _=>n) m),.one (v8 n' v)] (.one (v8 r o)):=by
 obtain⟨o,ho⟩:=QJ (n:=r) (m 0 0) fun i hi=>Qn S hA (m i) v hn Uy (fun j hj=>ha i j hi hj) hb h1 h2;exact⟨o,fun i hi=>⟨(ho i hi).1,(ho i hi).2.1⟩,Ij (fun _=>n) (fun i j=>(m i j).x) (fun j=>(v j).x) (fun i=>(o i).x) hr fun i hi=>(ho i hi).2.2⟩
theorem Dp {n n':Nat}(a b:Nat→Nu A)(hn:n<2^38)(h:n=n'→∀i,i<n→(a i).w≤wA∧(b i).w≤wB∧((a i).v=(b i).v∨(a i).w+(b i).w≤wA)){r:Bool}(hr:r=true↔n=n'∧∀i,i<n→(a i).v=(b i).v):
  Pr prog 18 [.one (v8 n a),.one (v8 n' b)] (.one (.bool r)):=by
 refine L4 (fun i=>(a i).x) (fun i=>(b i).x) hn (fun i=>open Classical in decide ((a i).v=(b i).v)) (fun e i hi=>?_) (by rw[hr];simp);obtain⟨h1,h2,h3⟩:=h e i hi;exact EL S hA h1 h2 h3 (by simp)
theorem s9 {n n':Nat}(c c':Nat→Nat)(a b:Nat→Nat→Nu A)(hn:n<2^38)(hc:∀i,i<n→c i<2^38)(h:n=n'→∀i j,i<n→c i=c' i→j<c i→(a i j).w≤wA∧(b i j).w≤wB∧((a i j).v=(b i j).v∨(a i j).w+(b i j).w≤wA))
  {r:Bool} (hr:r=true↔n=n'∧∀i,i<n→c i=c' i∧∀j,j<c i→(a i j).v=(b i j).v):Pr prog 11 [.one (dj n c a),.one (dj n' c' b)] (.one (.bool r)):=by
 refine HG c c' (fun i j=>(a i j).x) (fun i j=>(b i j).x) hn (fun i=>open Classical in decide (c i=c' i∧∀j,j<c i→(a i j).v=(b i j).v)) (fun e i hi=>?_) (by rw[hr];simp);exact Dp S hA (a i) (b i) (hc i hi) (fun e2 j hj=>h e i j hi e2 hj) (by simp)
theorem Ce (a:Nu A)(ha:a.w≤wA):Pr prog 45 [nX a.x] (.one (.bool true)):=by
 have f:=qj (jr S hA a.ok.tg) a.x.2 a.ok.len (iL S hA a.ok (a.sm ha));have g:=wJ (show Go.Tw.jS<2^37 by decide) (tR S hA a.ok.tg (O1 _));have h3:=a.ok.tg.my hA;refine pw func45 ⟨[0,1,2],[]⟩ ?_;simp only[Tryz.f45,ntmps45,iz,seval];simp only[vx,T,seval,nX,nV,tC,ag];refine⟨fun _=>Lg ?_,fun h=>absurd h (by simp;omega)⟩;simp only[vx,T,seval,nX,nV,tC,ag];refine Cg f ?_;simp only[vx,T,seval,nX,nV,tC,ag];refine Cg g ?_;simp only[vx,T,seval,nX,nV,tC,ag];exact Ve rfl
theorem GH {n:Nat}(a:Nat→Nu A)(hn:n<2^38)(ha:∀i,i<n→(a i).w≤wA):Pr prog 17 [.one (v8 n a)] (.one (.bool true)):=
 KP (fun i=>(a i).x) hn fun i hi=>Ce S hA (a i) (ha i hi)
theorem FD {r:Nat}(c:Nat→Nat)(a:Nat→Nat→Nu A)(hr:r<2^38)(hc:∀i,i<r→c i<2^38)(ha:∀i j,i<r→j<c i→(a i j).w≤wA):Pr prog 37 [.one (dj r c a)] (.one (.bool true)):=
 Bl c (fun i j=>(a i j).x) hr fun i hi=>GH S hA (a i) (hc i hi) fun j hj=>ha i j hi hj
end
open Go Go.Eng
open Go.Tw (El)
def jM (x:Nat→Nat→Nb)(a b:Nat):Nat→Nat→Nb:=fun i=>if i=a then x b else if i=b then x a else x i
def fC (x:Nat→Nat→Nb)(T:Nat→Nb)(Z:Nat→Nat→Nb)(s2:Nat→Int)(q t n:Nat):Nat→Nat→Nb:=fun i=>if i=q then T else if i<n then(if s2 i=0 then jM x q t i else Z i)else jM x q t i
def kj (l:List Nat):List Int:=l.map fun(n:Nat)=>(n:Int)
theorem dx {l:List Nat}:(kj l).length=l.length:=List.length_map _
open Go Go.Eng
open Go.Tw (El)
def u9 (z:Int):Nb:=([],[Rat.ofInt z])
def zc (z:Int)(j:Nat):Nb:=if(j:Int)=z then u9 1 else u9 0
theorem HA (l:List Int)(z:Int):z∉l∨∃i:Nat,i<l.length∧l.getD i 0=z∧∀j,j<i→l.getD j 0≠z:=by
 by_cases h:∃i:Nat,i<l.length∧l.getD i 0=z
 ·obtain⟨i,h1,h2⟩:=h
  right
  induction i using Nat.strongRecOn with
  |ind i ih=>
   by_cases h3:∃j,j<i∧l.getD j 0=z
   ·obtain⟨j,h4,h5⟩:=h3;exact ih j h4 (by omega) h5
   exact⟨i,h1,h2,fun j hj e=>h3 ⟨j,hj,e⟩⟩
 left
 intro hm;obtain⟨i,hi,e⟩:=List.mem_iff_getElem.1 hm;exact h ⟨i,hi,by rw[X7,X8 hi,←e];rfl⟩
theorem AB {l:List Int}{i:Nat}(h:i<l.length):l.getD i 0∈l:=by
 rw[X7,X8 h];exact List.getElem_mem h
theorem NW (l:List Int)(z:Int):∃r:Int,(0≤r↔z∈l)∧((∀i,i<l.length→l.getD i 0≠z)→r= -1)∧(∀i:Nat,i<l.length→l.getD i 0=z→(∀j,j<i→l.getD j 0≠z)→r=i):=by
 rcases HA l z with h|⟨i,h1,h2,h3⟩
 ·exact⟨-1,by simp[h],fun _=>rfl,fun i hi e=>absurd (e▸AB hi) h⟩
 refine⟨i,⟨fun _=>h2▸AB h1,fun _=>by omega⟩,fun h=>absurd h2 (h i h1),fun j h4 h5 h6=>?_⟩
 rcases Nat.lt_trichotomy i j with h|h|h
 ·exact absurd h2 (h6 i h)
 ·rw[h]
 exact absurd h5 (h3 j h)
theorem C9 (l:List Int)(z r:Int)(hl:l.length<2^38)(h1:(∀i,i<l.length→l.getD i 0≠z)→r= -1)(h2:∀i:Nat,i<l.length→l.getD i 0=z→(∀j,j<i→l.getD j 0≠z)→r=i):Pr prog 92 [.one (.ints .i64 l),.one (.int .i64 z)] (.one (.int .i64 r)):=by
 refine pw func92 ⟨[0,1,4,5,7,8,9,16],[]⟩ ?_;simp only[Tryz.f92,ntmps92,iz,seval];simp only[vx,T,seval];refine Lk (fun y:{i:Nat//i≤l.length∧∀j,j<i→l.getD j 0≠z}=>⟨[(0,.one (.ints .i64 l)),(1,.one (.int .i64 z)),(4,.one (.int .i64 0)),(7,.one (.int .i64 l.length)),(8,.one (.int .i64 y.1))],[],1,19⟩) (fun y=>l.length-y.1) ⟨0,O2 _,fun j hj=>absurd hj (O5 _)⟩ ?_ (fun⟨i,hi,hb⟩=>?_)
 ·refine Sa ?_;simp only[ry,seval,rz]
 simp only;have wi:=wI i (by omega);simp only[vx,T,seval];refine⟨fun g=>Lg ?_,fun g=>Lg ?_⟩
 ·simp only[vx,T,seval];refine⟨by omega,?_⟩;refine⟨fun g2=>Lg ?_,fun g2=>Lg ?_⟩
  ·have e:=h2 i (by omega) g2.symm hb;simp only[vx,T,seval];exact Ve (by rw[e])
  simp only[vx,T,seval,wi];refine Lq ⟨i+1,by omega,fun j hj=>?_⟩ ?_ (by show l.length-(i+1)<l.length-i;omega)
  ·by_cases e:j=i
   ·rw[e];exact fun h=>g2 h.symm
   exact hb j (by omega)
  refine Sa ?_;simp only[ry,seval,rz]
 have e:=h1 fun j hj=>hb j (by omega);simp only[vx,T,seval];exact Ve (by rw[e])
theorem xd (l:List Int)(z:Int)(hl:l.length<2^38){b:Bool}(hb:b=true↔z∈l):Pr prog 48 [.one (.ints .i64 l),.one (.int .i64 z)] (.one (.bool b)):=by
 obtain⟨r,h,h1,h2⟩:=NW l z;have c:=C9 l z r hl h1 h2;obtain rfl:b=decide (0≤r):=by rw[Bool.eq_iff_iff,hb,←h,decide_eq_true_iff]
 refine pw func48 ⟨[0,1,4],[]⟩ ?_;simp only[Tryz.f48,ntmps48,iz,seval];simp only[vx,T,seval];refine Cg c ?_;simp only[vx,T,seval];exact Ve rfl
end Go.Proofs.YtehahgjkjfoebaaGreat
namespace Go.Mx
open Go Go.R
def mz {α:Type}(p:List Nat)(f:Nat→α)(b:Nat→α):Nat→Nat→α
 |0=>b
 |i+1=>fun j=>if j=p.getD i 0 then f i else mz p f b i j
theorem py {α β:Type}(g:α→β){p:List Nat}{f b:Nat→α}{j:Nat}:∀{n:Nat},g (mz p f b n j)=mz p (fun i=>g (f i)) (fun i=>g (b i)) n j
 |0=>rfl
 |n+1=>by
  show g (if j=p.getD n 0 then f n else mz p f b n j)=if j=p.getD n 0 then g (f n)else _
  rw[←py g]
  split<;>rfl
theorem ya {p:List Nat}{k:Nat}:k∈p↔∃i,i<p.length∧k=p.getD i 0:=by
 refine⟨fun h=>?_,fun⟨i,hi,e⟩=>?_⟩
 ·obtain⟨i,hi,e⟩:=List.mem_iff_getElem.1 h;exact⟨i,hi,by rw[X7,X8 hi,←e];rfl⟩
 rw[e,X7,X8 hi];exact List.getElem_mem hi
section
variable {r k:Nat}{N:Mt}{p:List Nat}
end
def free (p:List Nat):Nat→Nat
 |0=>0
 |k+1=>free p k+if p.contains k then 0 else 1
theorem zZ {p:List Nat}{x:Nat}:∀{k:Nat},k≤x→free (p++[x]) k=free p k
 |0,_=>rfl
 |k+1,h=>by
  rw[free,free,zZ (by omega)]
  have:(p++[x]).contains k=p.contains k:=by
   rw[Bool.eq_iff_iff,List.contains_iff_mem,List.contains_iff_mem,List.mem_append,List.mem_singleton];exact⟨fun h=>h.resolve_right (by omega),.inl⟩
  rw[this]
theorem AU (r:Nat)(M:Mt):∀k,free (red r M k).2 k+(red r M k).2.length=k
 |0=>rfl
 |k+1=>by
  have ih:=AU r M k;have E:=gR r M k;rw[red];unfold ov;have hk:(red r M k).2.contains k=false:=by
   rw[←Bool.not_eq_true,List.contains_iff_mem,ya];rintro⟨i,hi,e⟩
   have:=E.lt i hi
   omega
  split
  ·rw[free,zZ (O1 _),X6,List.length_singleton]
   have:((red r M k).2++[k]).contains k=true:=by rw[List.contains_iff_mem];simp
   rw[if_pos this];omega
  rw[free,if_neg (by rw[hk];decide)];omega
def iO (r c:Nat)(M N:Mt):Prop:=∀i j,i<r→j<c→M i j=N i j
theorem yh {r c k:Nat}{M N:Mt}(h:iO r c M N)(hk:k<c):∀n p,p+n≤r→ow M k n p=ow N k n p
 |0,_,_=>rfl
 |n+1,p,hp=>by
  unfold ow;rw[h p k (by omega) hk,yh h hk n (p+1) (by omega)]
theorem Ed {r c k:Nat}{s t:Mt×List Nat}(h:iO r c s.1 t.1)(h2:s.2=t.2)(hk:k<c)(hl:s.2.length≤r):iO r c (ov r k s).1 (ov r k t).1∧(ov r k s).2=(ov r k t).2:=by
 obtain⟨M,p⟩:=s;obtain⟨N,p'⟩:=t;obtain rfl:p=p':=h2;simp only at h hl;unfold ov;simp only;rw[yh h hk (r-p.length) p.length (by omega)]
 split
 ·rename_i hf
  refine⟨fun i j hi hj=>?_,rfl⟩;have ht:=(mN N k (r-p.length) p.length).1
  generalize ow N k (r-p.length) p.length=t at hf ht
  have hs:iO r c (uj M p.length t) (uj N p.length t):=by
   intro i j hi hj;unfold uj
   split
   ·exact h t j hf hj
   split
   ·exact h _ j (by omega) hj
   exact h i j hi hj
  show jT _ _ _ i j=jT _ _ _ i j;unfold jT;rw[hs _ j (show p.length<r by omega) hj,hs _ k (show p.length<r by omega) hk,hs i j hi hj,hs i k hi hk]
 exact⟨h,rfl⟩
theorem EF {r c:Nat}{M N:Mt}(h:iO r c M N):∀k,k≤c→iO r c (red r M k).1 (red r N k).1∧(red r M k).2=(red r N k).2
 |0,_=>⟨h,rfl⟩
 |k+1,hk=>by
  obtain⟨h1,h2⟩:=EF h k (by omega);exact Ed h1 h2 hk (gR r M k).len
end Go.Mx
namespace Go.Proofs.YtehahgjkjfoebaaGreat
open Go.Proofs.Tryz
open Go Go.Eng
open Go.Tw (El)
open Go.Mx (mz free)
theorem qD (p:List Nat)(i:Nat):(kj p).getD i 0=((p.getD i 0:Nat):Int):=by
 rw[X7,X7,kj,List.getElem?_map]
 cases p[i]? <;>rfl
theorem DC {p:List Nat}{k:Nat}:(k:Int)∈kj p↔k∈p:=by
 unfold kj;rw[List.mem_map];refine⟨fun⟨a,h,e⟩=>?_,fun h=>⟨k,h,rfl⟩⟩;obtain rfl:a=k:=by omega
 exact h
def fl (p:List Nat):Nat→List Nat
 |0=>[]
 |k+1=>if k∈p then fl p k else fl p k++[k]
theorem MK (p:List Nat):∀k,(fl p k).length≤k
 |0=>O1 _
 |k+1=>by
  have ih:=MK p k;rw[fl]
  split
  ·omega
  rw[X6,List.length_singleton];omega
def MF (p:List Nat)(G:Nat→Nat→Nb)(u:Nat→Nat→Nb)(n k:Nat):Nat→Nb:=mz p (fun i=>G i k) (u k) n
theorem sJ {α:Type}(p:List Nat)(f b:Nat→α)(n j:Nat):mz p f b (n+1) j=if j=p.getD n 0 then f n else mz p f b n j:=rfl
theorem G4 (p:List Nat)(f b:Nat→Nb)(n:Nat):∀i j,j<2→bz (fun j=>bC (mz p f b n j)) (p.getD n 0) 0 [tC (f n).1.length (f n).1,ag (f n).2] i j=bC (mz p f b (n+1) i) j:=by
 intro i j hj;unfold bz;rw[sJ]
 by_cases h:i=p.getD n 0
 ·rw[if_pos h,if_pos h,if_pos (O2 _),if_pos (by simpa using hj)]
  match j,hj with
  |0,_=>rfl
  |1,_=>rfl
 rw[if_neg h,if_neg h]
open Go Go.Eng
open Go.Tw (El)
open Go.Mx (mz free)
def F2 (c:Nat)(x:Nat→Nat→Nb)(b:Nat→Nb)(i j:Nat):Nb:=if j<c then x i j else b i
def Cx (x:Nb)(i j:Nat):C:=[tC x.1.length x.1,ag x.2].getD (i*2+j) .any
theorem DZ (x:Nb){d:Nat}(hd:d≤1):dH (.rows 2 d (Cx x)) (ao d fun _=>x):=by
 unfold ao;refine dH.rows rfl fun i j hi hj=>dH.of_eq ?_;obtain rfl:i=0:=by omega
 match j,hj with
 |0,_=>rfl
 |1,_=>rfl
open Go Go.Eng
open Go.Tw (El ax TG)
open Go.Mx (sm iv iO red ov ow uj jT)
section
variable {A:List R}
def vM (X:Nat→Nat→Nu A):Nat→Nat→R:=fun i j=>(X i j).v
def jN (X:Nat→Nat→Nu A)(a b:Nat):Nat→Nat→Nu A:=fun i=>if i=a then X b else if i=b then X a else X i
theorem Jk (X:Nat→Nat→Nu A)(a b i j:Nat):(jN X a b i j).v=uj (vM X) a b i j:=by
 unfold jN uj vM
 split
 ·rfl
 split<;>rfl
theorem uL (X:Nat→Nat→Nu A)(a b i j:Nat):(jN X a b i j).x=jM (fun i j=>(X i j).x) a b i j:=by
 unfold jN jM
 split
 ·rfl
 split<;>rfl
theorem Oa {X:Nat→Nat→Nu A}{a b r c W:Nat}(ha:a<r)(hb:b<r)(h:∀i j,i<r→j<c→(X i j).w≤W){i j:Nat}(hi:i<r)(hj:j<c):(jN X a b i j).w≤W:=by
 unfold jN
 split
 ·exact h _ _ hb hj
 split
 ·exact h _ _ ha hj
 exact h _ _ hi hj
variable (S:Go.Tw.Src 64 A)(hA:Go.Tw.dV A)
include S hA
omit S hA in
theorem Hv (r:Nat)(M:Nat→Nat→R)(k:Nat):(red r M k).2.length≤k:=by
 have:=Go.Mx.AU r M k
 omega
omit S hA in
theorem Pf (r:Nat)(M:Nat→Nat→R)(k:Nat):(red r M (k+1)).2=if ow (red r M k).1 k (r-(red r M k).2.length) (red r M k).2.length<r then(red r M k).2++[k]else(red r M k).2:=by
 show(ov r k (red r M k)).2=_
 unfold ov
 split<;>rfl
end
end Go.Proofs.YtehahgjkjfoebaaGreat
