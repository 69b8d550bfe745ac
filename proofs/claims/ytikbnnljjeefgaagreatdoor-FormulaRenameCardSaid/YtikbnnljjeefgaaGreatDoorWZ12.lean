/- Parts of a proof: contracts of the functions that the laws reach. -/
import Derived.Test.YtikbnnljjeefgaaGreatDoorWZ11
import Derived.Test.YtikbnnljjeefgaaGreatDoorWZ7
set_option maxHeartbeats 100000000
set_option linter.all false
open Go.Proofs.Tryz
namespace Go.Proofs.YtikbnnljjeefgaaGreatDoor
open Go.RowKit
section
variable {P:Program} {T:TypeId→Option Ty} {n:Nat} {ops:Array Oper} {id:Nat} {draw:Bool} {K:AS→Prop} {s:AS} {k:Nat} {o:Oper} {os:List Oper} {fps:List FP}
theorem fT {t e:TypeId} {x y:Operand} {m i:Nat} {ik:IntKind} {cs:List AV} (hu:P.underlying t=some (.array m e)) (hs:(P.info? e).map (·.size)=some 1) (hi:i<m) (h1:gd ops s o=some true) (ho:o.op= .indexAddr t x y) (hx:s.ev x= .rp cs) (hy:s.ev y= .d (.leaf (.val (.int ik (i:Nat)))))
 (h3:bd n o.dst=true) (h4:gN draw ops (aM ops o ⟨.rp (cs.drop i),none⟩ []) k fps=true) (h:aw P T n ops id draw K (k+1) os (s.eff o.dst ⟨.rp (cs.drop i),none⟩) (aM ops o ⟨.rp (cs.drop i),none⟩ []::fps)):aw P T n ops id draw K k (o::os) s fps:=
 .run h1 (.gen fun s2 ht _=>aj (tv:= .rp (cs.drop i)) fun n S0 w0 g a w hM=>by
  have hx2:=(aL ht (x:=x) (by simp[ho,Op.operands])).trans hx;have hy2:=(aL ht (x:=y) (by simp[ho,Op.operands])).trans hy;have h:=hM.ev x;rw[hx2]at h;obtain⟨b,off,f,e1,h1,h2,h3,h4⟩:=h;refine⟨.pointer (some ⟨b,off+i,none⟩),w,?_,Below.refl _ _,b,off+i,fun q=>f (i+q),rfl,h1,h2,fun q c hq=>?_,fun q c hq=>?_⟩
  ·unfold execOp
   rw[ho]
   simp only[e1,bw hM hy2,Instr.indexAt,Instr.sureAddr,asIntOf,Sem.run_bind,Sem.run_pure,run_underlying hu w,Result.andThen_ok]
   have e2:(0:Int)≤i∧(i:Int)<m:=by omega
   simp only[e2,and_self,if_true,Sem.run_bind,cg hs w,Result.andThen_ok,Sem.run_pure,dP,Int.toNat_natCast,Nat.mul_one]
  ·rw[Nat.add_assoc];exact h3 (i+q) c (by simpa using hq)
  ·exact h4 (i+q) c (by simpa using hq)) h3 h4 h
end
theorem eK (e:Ex):aa Tryz.prog 56 [dE e] (.one (dN .i64 (GJ e))):=by
 cases e with
 |num v u=>
  show aa Tryz.prog _ [.agg ([.val (.int .i64 1)]++aQ v++[.val (vL u), .sl 0 []])] _;refine kU func56 ?_;exact kF
 |nam s=>
  show aa Tryz.prog _ [.agg ([.val (.int .i64 2)]++nz++[.val (vL s), .sl 0 []])] _;refine kU func56 ?_;exact kF
 |neg a=>
  rw[show dE (.neg a)= .agg ([.val (.int .i64 3)]++nz++[.val (vL []), .sl 1 (aE a)]) from congrArg DV.agg (nZ a)];refine kU func56 ?_;exact kF
 |bin k a b=>
  rw[show dE (.bin k a b)= .agg ([.val (.int .i64 k.code)]++nz++[.val (vL []), .sl 2 (aE a++aE b)]) from congrArg DV.agg (j8 k a b)];cases k
  all_goals
   refine kU func56 ?_;exact kF
theorem rX (lv:Nat) (t:List UInt8):qK lv 0 t=t:=if_neg (Nat.not_lt_zero lv)
theorem Fe {k:Nat} {s:List UInt8} (h:s≠[]):iZ k s≠[]:=by
 intro e;unfold iZ at e
 split at e
 ·simp at e
 ·unfold dY at e
  exact h (List.append_eq_nil_iff.1 e).2
theorem vV {q:Rat} {d:List UInt8}:∀(n k:Nat),jR q n k=some d→d≠[]
 |0,_,h=>by cases h
 |n+1,k,h=>by
  rw[jR]at h
  split at h
  ·split at h
   ·cases h;exact Fe (List.length_pos_iff.1 (E5 _))
   ·cases h
  ·exact vV n (k+1) h
theorem uU {q:Rat} {d:List UInt8} (h:fx q=some d):d≠[]:=by
 unfold fx at h
 split at h
 ·cases h
 ·exact vV _ _ h
theorem jf {r:Nat} {l:List UInt8}:fk xU (iW r l):=As
structure Df (e:Ex) (least:Nat):Prop where
 w0:(b5 e least).length≤1000000000→az Tryz.prog 31 [.box 950 0, .d (dE e), .d (dN .i64 least)] xU (.v (.tup [])) (iW 701 (b5 e least))
 w1:∀l:List UInt8,l.length+(b5 e least).length≤1000000000→az Tryz.prog 31 [.box 950 0, .d (dE e), .d (dN .i64 least)] (iW 700 l) (.v (.tup [])) (iW 701 (l++b5 e least))
theorem Df.n0 {e:Ex} {least:Nat} (h:Df e least) (b:Nat) (hl:(b5 e least).length≤1000000000) (hb:lS b=true):az Tryz.prog 31 [.box 950 0, .d (dE e), .d (dN .i64 least)] xU (.v (.tup [])) (iW b (b5 e least)):=
 Az (C:=az Tryz.prog 31) (ds:=[dE e,dN .i64 least]) (fun a b h=>az.swap a b h) b hb (h.w0 hl)
theorem Df.n1 {e:Ex} {least:Nat} (h:Df e least) (a b:Nat) (l:List UInt8) (hl:l.length+(b5 e least).length≤1000000000) (ha:lS a=true) (hb:lS b=true) (hab:(a == b)=false):az Tryz.prog 31 [.box 950 0, .d (dE e), .d (dN .i64 least)] (iW a l) (.v (.tup [])) (iW b (l++b5 e least)):=
 zP (C:=az Tryz.prog 31) (ds:=[dE e,dN .i64 least]) (fun a b h=>az.swap a b h) a b ha hb hab (h.w1 l hl)
theorem GC {v:Rat} {u:List UInt8} {least:Nat} (h4:least≤3) (hf:xN (.num v u)) (hl:(b5 (.num v u) least).length≤1000000000):az Tryz.prog 31 [.box 950 0, .d (dE (.num v u)), .d (dN .i64 least)] xU (.v (.tup [])) (iW 701 (b5 (.num v u) least)):=by
 obtain⟨h1,h2,h3⟩:=hf;obtain⟨t,c,ht⟩:=lh h2 (by decide);obtain⟨d,hd⟩:=Option.isSome_iff_exists.1 h1;rw[ht d hd,h1]at c;have hd0:d≠[]:=uU hd;have cl:=eK (.num v u)
 have e0:b5 (.num v u) least=d++qg u:=by
  rw[oC,qK,if_neg (by show ¬4<least;omega)];show qK 4 0 (GD v++qg u)=_;rw[rX,GD,hd];rfl
 rw[e0]at hl ⊢;have hdn:dE (.num v u)= .agg ([.val (.int .i64 1)]++aQ v++[.val (vL u), .sl 0 []]):=rfl;rw[hdn]at cl ⊢
 by_cases hu:u=[]
 ·subst hu
  rw[show qg []=[] from rfl,List.append_nil]at hl ⊢;refine db ab bn func31 rfl rfl rfl rfl rfl rfl jf ?_;refine kR ?_;refine kI ?_;refine kO ?_;refine kC (cl) ?_;refine kO ?_;refine kB false ?_ ?_
  ·exact decide_eq_false (by show ¬((4:Nat):Int)<_;omega)
  refine kW ?_;refine kQ (c) ?_;refine bD ((IZ 701 (d) hd0 (by omega) rfl).toT) rfl rfl rfl rfl rfl ⟨rfl,trivial⟩ rfl rfl rfl rfl ?_;refine kG ?_
  refine kO2 ?_
  refine aP rfl rfl rfl rfl rfl rfl rfl (fq (a:=[]) (b:=[]) rfl) ?_;refine kW ?_;exact .inl ⟨⟨_,rfl,rfl⟩,⟨rfl,rfl,trivial⟩⟩
 ·have hu2:qg u=[32]++u:=if_neg hu
  rw[hu2]at hl ⊢
  simp only[List.length_append,List.length_cons,List.length_nil]at hl
  rw[show(d++([32]++u))=(d)++([32]++u) by simp];refine db ab bn func31 rfl rfl rfl rfl rfl rfl jf ?_;refine kR ?_;refine kI ?_;refine kO ?_;refine kC (cl) ?_;refine kO ?_;refine kB false ?_ ?_
  ·exact decide_eq_false (by show ¬((4:Nat):Int)<_;omega)
  refine kW ?_;refine kQ (c) ?_;refine bD ((IZ 702 (d) hd0 (by omega) rfl).toT) rfl rfl rfl rfl rfl ⟨rfl,trivial⟩ rfl rfl rfl rfl ?_;refine kG ?_
  refine kO2 ?_
  refine aP rfl rfl rfl rfl rfl rfl rfl (fj (a:=u) (b:=[]) hu) ?_;refine kG ?_
  refine kO3 ?_
  refine aP rfl rfl rfl rfl rfl rfl rfl (ej (a:=[32]) (b:=u) (by simp <;>omega)) ?_;refine bD ((Bn 702 701 (d) ([32]++u) (by simp) (by simp <;>omega) rfl rfl rfl).toT) rfl rfl rfl rfl rfl ⟨rfl,rfl,trivial⟩ rfl rfl rfl rfl ?_;refine kW ?_;exact .inl ⟨⟨_,rfl,rfl⟩,⟨rfl,rfl,trivial⟩⟩
theorem FF {s:List UInt8} {least:Nat} (h4:least≤3) (hf:xN (.nam s)) (hl:(b5 (.nam s) least).length≤1000000000):az Tryz.prog 31 [.box 950 0, .d (dE (.nam s)), .d (dN .i64 least)] xU (.v (.tup [])) (iW 701 (b5 (.nam s) least)):=by
 have hs0:s≠[]:=fun e=>by subst e;cases hf
 have cl:=eK (.nam s)
 have e0:b5 (.nam s) least=s:=by
  rw[oC,qK,if_neg (by show ¬4<least;omega)];exact rX _ _
 rw[e0]at hl ⊢;have hdn:dE (.nam s)= .agg ([.val (.int .i64 2)]++nz++[.val (vL s), .sl 0 []]):=rfl;rw[hdn]at cl ⊢;refine db ab bn func31 rfl rfl rfl rfl rfl rfl jf ?_;refine kR ?_;refine kI ?_;refine kO ?_;refine kC (cl) ?_;refine kO ?_;refine kB false ?_ ?_
 ·exact decide_eq_false (by show ¬((4:Nat):Int)<_;omega)
 refine kW ?_;refine bD ((IZ 701 (s) hs0 (by omega) rfl).toT) rfl rfl rfl rfl rfl ⟨rfl,trivial⟩ rfl rfl rfl rfl ?_;refine kW ?_;exact .inl ⟨⟨_,rfl,rfl⟩,⟨rfl,rfl,trivial⟩⟩
theorem FQ {a:Ex} {least:Nat} (h4:least≤3) (ih:Df a 3) (hl:(b5 (.neg a) least).length≤1000000000):az Tryz.prog 31 [.box 950 0, .d (dE (.neg a)), .d (dN .i64 least)] xU (.v (.tup [])) (iW 701 (b5 (.neg a) least)):=by
 have cl:=eK (.neg a)
 have e0:b5 (.neg a) least=[45]++b5 a 3:=by
  rw[oC,qK,if_neg (by show ¬3<least;omega)];exact rX _ _
 rw[e0]at hl ⊢
 simp only[List.length_append,List.length_cons,List.length_nil]at hl
 obtain⟨o1,na1,xs1,nb1,ys1,nm1,n1,cs1,hA⟩:=aX a;have hdn:dE (.neg a)= .agg ([.val (.int .i64 3)]++nz++[.val (vL []), .sl 1 (ac o1 na1 xs1 nb1 ys1 nm1 n1 cs1)]):=by rw[← hA];exact congrArg DV.agg (nZ a)
 rw[hdn]at cl ⊢;have cw:=ih.n1 702 701 ([45]) (by simp <;>omega) rfl rfl rfl;rw[show dE a= .agg (ac o1 na1 xs1 nb1 ys1 nm1 n1 cs1) from congrArg DV.agg hA]at cw;rw[show([45]++b5 a 3)=([45])++b5 a 3 by simp];refine db ab bn func31 rfl rfl rfl rfl rfl rfl jf ?_;refine kR ?_;refine kI ?_;refine kO ?_;refine kC (cl) ?_;refine kO ?_;refine kB false ?_ ?_
 ·exact decide_eq_false (by show ¬((3:Nat):Int)<_;omega)
 refine kW ?_;refine fT (i:=3) underlying93 (by kernel_rfl) (by decide) rfl rfl rfl rfl rfl rfl ?_;refine kW ?_;refine bD ((IZ 702 ([45]) (by simp) (by simp <;>omega) rfl).toT) rfl rfl rfl rfl rfl ⟨rfl,trivial⟩ rfl rfl rfl rfl ?_;refine kW ?_;refine bl (i:=0) (cs':=ac o1 na1 xs1 nb1 ys1 nm1 n1 cs1) (by decide) (zN _) (Nat.zero_lt_succ 6) rfl rfl rfl rfl rfl rfl rfl rfl ?_;refine kW ?_;refine kC (cl) ?_;refine kZ (cw) ?_;exact .inl ⟨⟨_,rfl,rfl⟩,⟨rfl,rfl,trivial⟩⟩
theorem Gc {a b:Ex} (k:B4) {least:Nat} (iha:Df a (fK k)) (ihb:Df b (fK k+1)) (hl:(b5 (.bin k a b) least).length≤1000000000):az Tryz.prog 31 [.box 950 0, .d (dE (.bin k a b)), .d (dN .i64 least)] xU (.v (.tup [])) (iW 701 (b5 (.bin k a b) least)):=by
 have cl:aa Tryz.prog 56 [dE (.bin k a b)] (.one (dN .i64 ((fK k:Nat):Int))):=eK (.bin k a b);obtain⟨o1,na1,xs1,nb1,ys1,nm1,n1,cs1,hA⟩:=aX a;obtain⟨o2,na2,xs2,nb2,ys2,nm2,n2,cs2,hA2⟩:=aX b;have hdn:dE (.bin k a b)= .agg ([.val (.int .i64 k.code)]++nz++[.val (vL []), .sl 2 (ac o1 na1 xs1 nb1 ys1 nm1 n1 cs1++ac o2 na2 xs2 nb2 ys2 nm2 n2 cs2)]):=by rw[← hA,← hA2];exact congrArg DV.agg (j8 k a b)
 have hsy:(ny k).length=3:=by cases k<;>rfl
 have hEa:dE a= .agg (ac o1 na1 xs1 nb1 ys1 nm1 n1 cs1):=congrArg DV.agg hA;have hEb:dE b= .agg (ac o2 na2 xs2 nb2 ys2 nm2 n2 cs2):=congrArg DV.agg hA2
 by_cases hlt:fK k<least
 ·have e0:b5 (.bin k a b) least=[40]++(b5 a (fK k)++ny k++b5 b (fK k+1))++[41]:=if_pos hlt
  rw[e0]at hl ⊢
  simp only[List.length_append,List.length_cons,List.length_nil,hsy]at hl
  have ca:=iha.n1 704 702 ([40]) (by simp <;>omega) rfl rfl rfl;have cb:=ihb.n1 703 705 ([40]++b5 a (fK k)++ny k) (by simp only[List.length_append,List.length_cons,List.length_nil,hsy];omega) rfl rfl rfl;have hfin:=Bn 705 701 ([40]++b5 a (fK k)++ny k++b5 b (fK k+1)) [41] (by simp) (by simp only[List.length_append,List.length_cons,List.length_nil,hsy];omega) rfl rfl rfl;have cy:=(Bn 702 703 ([40]++b5 a (fK k)) (ny k) (fun e=>by rw[e]at hsy;cases hsy) (by simp only[List.length_append,List.length_cons,List.length_nil,hsy];omega) rfl rfl rfl).toT;rw[hdn]at cl ⊢;rw[hEa]at ca;rw[hEb]at cb;rw[show([40]++(b5 a (fK k)++ny k++b5 b (fK k+1))++[41])=[40]++b5 a (fK k)++ny k++b5 b (fK k+1)++[41] by simp];generalize b5 a (fK k)=ta at *;generalize b5 b (fK k+1)=tb at *;cases k
  all_goals
   refine db ab bn func31 rfl rfl rfl rfl rfl rfl jf ?_;refine kR ?_;refine kI ?_;refine kO ?_;refine kC (cl) ?_;refine kO ?_;refine kX ?_;refine bD ((IZ 704 ([40]) (by simp) (by simp <;>omega) rfl).toT) rfl rfl rfl rfl rfl ⟨rfl,trivial⟩ rfl rfl rfl rfl ?_;refine kW ?_;refine AC rfl rfl rfl rfl rfl rfl rfl ?_;refine kW ?_;refine bl (i:=0) (cs':=ac o1 na1 xs1 nb1 ys1 nm1 n1 cs1) (by decide) (pt _ _) (Nat.zero_lt_succ 6) rfl rfl rfl rfl rfl rfl rfl rfl ?_;refine kW ?_;refine kC (cl) ?_;refine kZ (ca) ?_;refine fT underlying93 (by kernel_rfl) (by decide) rfl rfl rfl rfl rfl rfl ?_;refine kW ?_;refine kZ (cy) ?_;refine bl (i:=1) (cs':=ac o2 na2 xs2 nb2 ys2 nm2 n2 cs2) (by decide) (mQ _ rfl) (Nat.zero_lt_succ 6) rfl rfl rfl rfl rfl rfl rfl rfl ?_;refine kW ?_
   refine kQ (cl) ?_;refine kZ (cb) ?_;exact .inr ⟨_,_,_,_,_,{ dk:=rfl,one:=rfl,body:=hfin,kn:=rfl,bx:=⟨rfl,rfl,trivial⟩,cl:=rfl,new:=rfl,fin:=⟨rfl,rfl,trivial⟩ }⟩
 ·have e0:b5 (.bin k a b) least=b5 a (fK k)++ny k++b5 b (fK k+1):=if_neg hlt
  rw[e0]at hl ⊢
  simp only[List.length_append,hsy]at hl
  have ca:=iha.n0 702 (by omega) rfl;have cb:=ihb.n1 703 701 (b5 a (fK k)++ny k) (by simp only[List.length_append,List.length_cons,List.length_nil,hsy];omega) rfl rfl rfl;have cy:=(Bn 702 703 (b5 a (fK k)) (ny k) (fun e=>by rw[e]at hsy;cases hsy) (by simp only[List.length_append,List.length_cons,List.length_nil,hsy];omega) rfl rfl rfl).toT;rw[hdn]at cl ⊢;rw[hEa]at ca;rw[hEb]at cb;rw[show(b5 a (fK k)++ny k++b5 b (fK k+1))=b5 a (fK k)++ny k++b5 b (fK k+1) by simp];generalize b5 a (fK k)=ta at *;generalize b5 b (fK k+1)=tb at *;cases k
  all_goals
   refine db ab bn func31 rfl rfl rfl rfl rfl rfl jf ?_;refine kR ?_;refine kI ?_;refine kO ?_;refine kC (cl) ?_;refine kO ?_;refine kY ?_;refine bl (i:=0) (cs':=ac o1 na1 xs1 nb1 ys1 nm1 n1 cs1) (by decide) (pt _ _) (Nat.zero_lt_succ 6) rfl rfl rfl rfl rfl rfl rfl rfl ?_;refine kW ?_;refine kC (cl) ?_;refine kZ (ca) ?_;refine fT underlying93 (by kernel_rfl) (by decide) rfl rfl rfl rfl rfl rfl ?_;refine kW ?_;refine kZ (cy) ?_;refine bl (i:=1) (cs':=ac o2 na2 xs2 nb2 ys2 nm2 n2 cs2) (by decide) (mQ _ rfl) (Nat.zero_lt_succ 6) rfl rfl rfl rfl rfl rfl rfl rfl ?_;refine kW ?_;refine kQ (cl) ?_;refine kZ (cb) ?_;exact .inl ⟨⟨_,rfl,rfl⟩,⟨rfl,rfl,trivial⟩⟩
theorem Gs (l:List UInt8) {v:Rat} {u:List UInt8} {least:Nat} (h4:least≤3) (hf:xN (.num v u)) (hl:l.length+(b5 (.num v u) least).length≤1000000000):az Tryz.prog 31 [.box 950 0, .d (dE (.num v u)), .d (dN .i64 least)] (iW 700 l) (.v (.tup [])) (iW 701 (l++b5 (.num v u) least)):=by
 obtain⟨h1,h2,h3⟩:=hf;obtain⟨t,c,ht⟩:=lh h2 (by decide);obtain⟨d,hd⟩:=Option.isSome_iff_exists.1 h1;rw[ht d hd,h1]at c;have hd0:d≠[]:=uU hd;have cl:=eK (.num v u)
 have e0:b5 (.num v u) least=d++qg u:=by
  rw[oC,qK,if_neg (by show ¬4<least;omega)];show qK 4 0 (GD v++qg u)=_;rw[rX,GD,hd];rfl
 rw[e0]at hl ⊢;have hdn:dE (.num v u)= .agg ([.val (.int .i64 1)]++aQ v++[.val (vL u), .sl 0 []]):=rfl;rw[hdn]at cl ⊢
 by_cases hu:u=[]
 ·subst hu
  rw[show qg []=[] from rfl,List.append_nil]at hl ⊢;refine db ab bn func31 rfl rfl rfl rfl rfl rfl (jv rfl rfl rfl) ?_;refine kR ?_;refine kI ?_;refine kO ?_;refine kC (cl) ?_;refine kO ?_;refine kB false ?_ ?_
  ·exact decide_eq_false (by show ¬((4:Nat):Int)<_;omega)
  refine kW ?_;refine kQ (c) ?_;refine bD ((Bn 700 701 l (d) hd0 (by omega) rfl rfl rfl).toT) rfl rfl rfl rfl rfl ⟨rfl,rfl,trivial⟩ rfl rfl rfl rfl ?_;refine kG ?_
  refine kO2 ?_
  refine aP rfl rfl rfl rfl rfl rfl rfl (fq (a:=[]) (b:=[]) rfl) ?_;refine kW ?_;exact .inl ⟨⟨_,rfl,rfl⟩,⟨rfl,rfl,trivial⟩⟩
 ·have hu2:qg u=[32]++u:=if_neg hu
  rw[hu2]at hl ⊢
  simp only[List.length_append,List.length_cons,List.length_nil]at hl
  rw[show l++(d++([32]++u))=(l++d)++([32]++u) by simp];refine db ab bn func31 rfl rfl rfl rfl rfl rfl (jv rfl rfl rfl) ?_;refine kR ?_;refine kI ?_;refine kO ?_;refine kC (cl) ?_;refine kO ?_;refine kB false ?_ ?_
  ·exact decide_eq_false (by show ¬((4:Nat):Int)<_;omega)
  refine kW ?_;refine kQ (c) ?_;refine bD ((Bn 700 702 l (d) hd0 (by omega) rfl rfl rfl).toT) rfl rfl rfl rfl rfl ⟨rfl,rfl,trivial⟩ rfl rfl rfl rfl ?_;refine kG ?_
  refine kO2 ?_
  refine aP rfl rfl rfl rfl rfl rfl rfl (fj (a:=u) (b:=[]) hu) ?_;refine kG ?_
  refine kO3 ?_
  refine aP rfl rfl rfl rfl rfl rfl rfl (ej (a:=[32]) (b:=u) (by simp <;>omega)) ?_;refine bD ((Bn 702 701 (l++d) ([32]++u) (by simp) (by simp <;>omega) rfl rfl rfl).toT) rfl rfl rfl rfl rfl ⟨rfl,rfl,trivial⟩ rfl rfl rfl rfl ?_;refine kW ?_;exact .inl ⟨⟨_,rfl,rfl⟩,⟨rfl,rfl,trivial⟩⟩
theorem F9 (l:List UInt8) {s:List UInt8} {least:Nat} (h4:least≤3) (hf:xN (.nam s)) (hl:l.length+(b5 (.nam s) least).length≤1000000000):az Tryz.prog 31 [.box 950 0, .d (dE (.nam s)), .d (dN .i64 least)] (iW 700 l) (.v (.tup [])) (iW 701 (l++b5 (.nam s) least)):=by
 have hs0:s≠[]:=fun e=>by subst e;cases hf
 have cl:=eK (.nam s)
 have e0:b5 (.nam s) least=s:=by
  rw[oC,qK,if_neg (by show ¬4<least;omega)];exact rX _ _
 rw[e0]at hl ⊢;have hdn:dE (.nam s)= .agg ([.val (.int .i64 2)]++nz++[.val (vL s), .sl 0 []]):=rfl;rw[hdn]at cl ⊢;refine db ab bn func31 rfl rfl rfl rfl rfl rfl (jv rfl rfl rfl) ?_;refine kR ?_;refine kI ?_;refine kO ?_;refine kC (cl) ?_;refine kO ?_;refine kB false ?_ ?_
 ·exact decide_eq_false (by show ¬((4:Nat):Int)<_;omega)
 refine kW ?_;refine bD ((Bn 700 701 l (s) hs0 (by omega) rfl rfl rfl).toT) rfl rfl rfl rfl rfl ⟨rfl,rfl,trivial⟩ rfl rfl rfl rfl ?_;refine kW ?_;exact .inl ⟨⟨_,rfl,rfl⟩,⟨rfl,rfl,trivial⟩⟩
theorem Fy (l:List UInt8) {a:Ex} {least:Nat} (h4:least≤3) (ih:Df a 3) (hl:l.length+(b5 (.neg a) least).length≤1000000000):az Tryz.prog 31 [.box 950 0, .d (dE (.neg a)), .d (dN .i64 least)] (iW 700 l) (.v (.tup [])) (iW 701 (l++b5 (.neg a) least)):=by
 have cl:=eK (.neg a)
 have e0:b5 (.neg a) least=[45]++b5 a 3:=by
  rw[oC,qK,if_neg (by show ¬3<least;omega)];exact rX _ _
 rw[e0]at hl ⊢
 simp only[List.length_append,List.length_cons,List.length_nil]at hl
 obtain⟨o1,na1,xs1,nb1,ys1,nm1,n1,cs1,hA⟩:=aX a;have hdn:dE (.neg a)= .agg ([.val (.int .i64 3)]++nz++[.val (vL []), .sl 1 (ac o1 na1 xs1 nb1 ys1 nm1 n1 cs1)]):=by rw[← hA];exact congrArg DV.agg (nZ a)
 rw[hdn]at cl ⊢;have cw:=ih.n1 702 701 (l++[45]) (by simp <;>omega) rfl rfl rfl;rw[show dE a= .agg (ac o1 na1 xs1 nb1 ys1 nm1 n1 cs1) from congrArg DV.agg hA]at cw;rw[show l++([45]++b5 a 3)=(l++[45])++b5 a 3 by simp];refine db ab bn func31 rfl rfl rfl rfl rfl rfl (jv rfl rfl rfl) ?_;refine kR ?_;refine kI ?_;refine kO ?_;refine kC (cl) ?_;refine kO ?_;refine kB false ?_ ?_
 ·exact decide_eq_false (by show ¬((3:Nat):Int)<_;omega)
 refine kW ?_;refine fT (i:=3) underlying93 (by kernel_rfl) (by decide) rfl rfl rfl rfl rfl rfl ?_;refine kW ?_;refine bD ((Bn 700 702 l ([45]) (by simp) (by simp <;>omega) rfl rfl rfl).toT) rfl rfl rfl rfl rfl ⟨rfl,rfl,trivial⟩ rfl rfl rfl rfl ?_;refine kW ?_;refine bl (i:=0) (cs':=ac o1 na1 xs1 nb1 ys1 nm1 n1 cs1) (by decide) (zN _) (Nat.zero_lt_succ 6) rfl rfl rfl rfl rfl rfl rfl rfl ?_;refine kW ?_;refine kC (cl) ?_;refine kZ (cw) ?_;exact .inl ⟨⟨_,rfl,rfl⟩,⟨rfl,rfl,trivial⟩⟩
theorem Fp (l:List UInt8) {a b:Ex} (k:B4) {least:Nat} (iha:Df a (fK k)) (ihb:Df b (fK k+1)) (hl:l.length+(b5 (.bin k a b) least).length≤1000000000):az Tryz.prog 31 [.box 950 0, .d (dE (.bin k a b)), .d (dN .i64 least)] (iW 700 l) (.v (.tup [])) (iW 701 (l++b5 (.bin k a b) least)):=by
 have cl:aa Tryz.prog 56 [dE (.bin k a b)] (.one (dN .i64 ((fK k:Nat):Int))):=eK (.bin k a b);obtain⟨o1,na1,xs1,nb1,ys1,nm1,n1,cs1,hA⟩:=aX a;obtain⟨o2,na2,xs2,nb2,ys2,nm2,n2,cs2,hA2⟩:=aX b;have hdn:dE (.bin k a b)= .agg ([.val (.int .i64 k.code)]++nz++[.val (vL []), .sl 2 (ac o1 na1 xs1 nb1 ys1 nm1 n1 cs1++ac o2 na2 xs2 nb2 ys2 nm2 n2 cs2)]):=by rw[← hA,← hA2];exact congrArg DV.agg (j8 k a b)
 have hsy:(ny k).length=3:=by cases k<;>rfl
 have hEa:dE a= .agg (ac o1 na1 xs1 nb1 ys1 nm1 n1 cs1):=congrArg DV.agg hA;have hEb:dE b= .agg (ac o2 na2 xs2 nb2 ys2 nm2 n2 cs2):=congrArg DV.agg hA2
 by_cases hlt:fK k<least
 ·have e0:b5 (.bin k a b) least=[40]++(b5 a (fK k)++ny k++b5 b (fK k+1))++[41]:=if_pos hlt
  rw[e0]at hl ⊢
  simp only[List.length_append,List.length_cons,List.length_nil,hsy]at hl
  have ca:=iha.n1 704 702 (l++[40]) (by simp <;>omega) rfl rfl rfl;have cb:=ihb.n1 703 705 (l++[40]++b5 a (fK k)++ny k) (by simp only[List.length_append,List.length_cons,List.length_nil,hsy];omega) rfl rfl rfl;have hfin:=Bn 705 701 (l++[40]++b5 a (fK k)++ny k++b5 b (fK k+1)) [41] (by simp) (by simp only[List.length_append,List.length_cons,List.length_nil,hsy];omega) rfl rfl rfl;have cy:=(Bn 702 703 (l++[40]++b5 a (fK k)) (ny k) (fun e=>by rw[e]at hsy;cases hsy) (by simp only[List.length_append,List.length_cons,List.length_nil,hsy];omega) rfl rfl rfl).toT;rw[hdn]at cl ⊢;rw[hEa]at ca;rw[hEb]at cb;rw[show l++([40]++(b5 a (fK k)++ny k++b5 b (fK k+1))++[41])=l++[40]++b5 a (fK k)++ny k++b5 b (fK k+1)++[41] by simp];generalize b5 a (fK k)=ta at *
  generalize b5 b (fK k+1)=tb at *;cases k
  all_goals
   refine db ab bn func31 rfl rfl rfl rfl rfl rfl (jv rfl rfl rfl) ?_;refine kR ?_;refine kI ?_;refine kO ?_;refine kC (cl) ?_;refine kO ?_;refine kX ?_;refine bD ((Bn 700 704 l ([40]) (by simp) (by simp <;>omega) rfl rfl rfl).toT) rfl rfl rfl rfl rfl ⟨rfl,rfl,trivial⟩ rfl rfl rfl rfl ?_;refine kW ?_;refine AC rfl rfl rfl rfl rfl rfl rfl ?_;refine kW ?_;refine bl (i:=0) (cs':=ac o1 na1 xs1 nb1 ys1 nm1 n1 cs1) (by decide) (pt _ _) (Nat.zero_lt_succ 6) rfl rfl rfl rfl rfl rfl rfl rfl ?_;refine kW ?_;refine kC (cl) ?_;refine kZ (ca) ?_;refine fT underlying93 (by kernel_rfl) (by decide) rfl rfl rfl rfl rfl rfl ?_;refine kW ?_;refine kZ (cy) ?_
   refine bl (i:=1) (cs':=ac o2 na2 xs2 nb2 ys2 nm2 n2 cs2) (by decide) (mQ _ rfl) (Nat.zero_lt_succ 6) rfl rfl rfl rfl rfl rfl rfl rfl ?_;refine kW ?_;refine kQ (cl) ?_;refine kZ (cb) ?_;exact .inr ⟨_,_,_,_,_,{ dk:=rfl,one:=rfl,body:=hfin,kn:=rfl,bx:=⟨rfl,rfl,trivial⟩,cl:=rfl,new:=rfl,fin:=⟨rfl,rfl,trivial⟩ }⟩
 ·have e0:b5 (.bin k a b) least=b5 a (fK k)++ny k++b5 b (fK k+1):=if_neg hlt
  rw[e0]at hl ⊢
  simp only[List.length_append,hsy]at hl
  have ca:=iha.n1 700 702 l (by omega) rfl rfl rfl;have cb:=ihb.n1 703 701 (l++b5 a (fK k)++ny k) (by simp only[List.length_append,List.length_cons,List.length_nil,hsy];omega) rfl rfl rfl;have cy:=(Bn 702 703 (l++b5 a (fK k)) (ny k) (fun e=>by rw[e]at hsy;cases hsy) (by simp only[List.length_append,List.length_cons,List.length_nil,hsy];omega) rfl rfl rfl).toT;rw[hdn]at cl ⊢;rw[hEa]at ca;rw[hEb]at cb;rw[show l++(b5 a (fK k)++ny k++b5 b (fK k+1))=l++b5 a (fK k)++ny k++b5 b (fK k+1) by simp];generalize b5 a (fK k)=ta at *;generalize b5 b (fK k+1)=tb at *;cases k
  all_goals
   refine db ab bn func31 rfl rfl rfl rfl rfl rfl (jv rfl rfl rfl) ?_;refine kR ?_;refine kI ?_;refine kO ?_;refine kC (cl) ?_;refine kO ?_;refine kY ?_;refine bl (i:=0) (cs':=ac o1 na1 xs1 nb1 ys1 nm1 n1 cs1) (by decide) (pt _ _) (Nat.zero_lt_succ 6) rfl rfl rfl rfl rfl rfl rfl rfl ?_;refine kW ?_;refine kC (cl) ?_;refine kZ (ca) ?_;refine fT underlying93 (by kernel_rfl) (by decide) rfl rfl rfl rfl rfl rfl ?_;refine kW ?_;refine kZ (cy) ?_;refine bl (i:=1) (cs':=ac o2 na2 xs2 nb2 ys2 nm2 n2 cs2) (by decide) (mQ _ rfl) (Nat.zero_lt_succ 6) rfl rfl rfl rfl rfl rfl rfl rfl ?_;refine kW ?_;refine kQ (cl) ?_;refine kZ (cb) ?_;exact .inl ⟨⟨_,rfl,rfl⟩,⟨rfl,rfl,trivial⟩⟩
theorem l8:∀(e:Ex),xN e→ ∀least:Nat,least≤3→Df e least
 | .num v u,hf,n,hn=>⟨fun hl=>GC hn hf hl,fun l hl=>Gs l hn hf hl⟩
 | .nam s,hf,n,hn=>⟨fun hl=>FF hn hf hl,fun l hl=>F9 l hn hf hl⟩
 | .neg a,hf,n,hn=>⟨fun hl=>FQ hn (l8 a hf 3 (by decide)) hl,fun l hl=>Fy l hn (l8 a hf 3 (by decide)) hl⟩
 | .bin k a b,hf,n,hn=>⟨fun hl=>Gc k (l8 a hf.1 _ (by cases k<;>decide)) (l8 b hf.2 _ (by cases k<;>decide)) hl,fun l hl=>Fp l k (l8 a hf.1 _ (by cases k<;>decide)) (l8 b hf.2 _ (by cases k<;>decide)) hl⟩
theorem uW {fid:FuncId} {p:Rx→Bool} (args:List Rx) (hp:∀x∈args,aa Tryz.prog fid [dR x] (.one (dB (p x)))) (hl:args.length≤1000000):aa Tryz.prog 94 [.leaf (.sl args.length (cZ args)),dF fid] (.one (dN .i64 (if args.findIdx p<args.length then((args.findIdx p:Nat):Int)else -1))):=by
 have hf:=List.findIdx_le_length (p:=p) (xs:=args)
 have hn:∀(i:Nat) (hi:i<args.length),i<args.findIdx p→p args[i]=false:=fun i hi h=>by
  have:=List.not_of_lt_findIdx h
  simpa using this
 have hy:∀(h:args.findIdx p<args.length),p (args[args.findIdx p])=true:=fun h=>List.findIdx_getElem
 generalize args.findIdx p=f at *;refine kV func94 ?_
 refine aS Nat (fun i=>i≤f) (fun i=>⟨[(0, .d (.leaf (.sl args.length (cZ args)))),(1, .d (dF fid)),(4, .d (dN .i64 0)),(7, .d (dN .i64 args.length)),(8, .d (dN .i64 i))],[]⟩) (fun i=>args.length-i) 0 (Nat.zero_le _)
  (weak ⟨rfl,rfl,rfl,rfl,rfl,trivial⟩ trivial rfl) ?_
 intro i hi;refine kI ?_
 by_cases hlt:i<args.length
 ·refine kT ?_
  obtain⟨o1,na1,xs1,nb1,ys1,nm1,n1,cs1,hA⟩:=au args[i];have hx:args[i]? =some args[i]:=by simp[hlt]
  have hat:∀(j:Nat) (a:AV),(ac o1 na1 xs1 nb1 ys1 nm1 n1 cs1)[j]? =some a→(cZ args)[i*7+j]? =some a:=fun j a h=>fR args i args[i] hx j a (by rw[hA];exact h)
  have c:=hp args[i] (List.getElem_mem hlt);rw[show dR args[i]= .agg (ac o1 na1 xs1 nb1 ys1 nm1 n1 cs1) from congrArg DV.agg hA]at c;refine kW ?_;refine bl (i:=i) (cs':=ac o1 na1 xs1 nb1 ys1 nm1 n1 cs1) hlt hat (Nat.zero_lt_succ 6) rfl rfl rfl rfl rfl rfl rfl rfl ?_;refine kO ?_;cases hb:p args[i]
  ·rw[hb]at c
   refine kQ (c) ?_;refine⟨i+1,?_,by omega,weak ⟨rfl,rfl,rfl,rfl,aG (by omega) (by omega),trivial⟩ trivial rfl⟩
   by_cases e:i=f
   ·subst e;have:=hy hlt;rw[hb]at this;cases this
   ·omega
  ·rw[hb]at c
   have e:i=f:=by
    by_cases e:i<f
    ·have:=hn i hlt e;rw[hb]at this;cases this
    ·omega
   subst e;rw[if_pos hlt];refine kC (c) ?_;exact kF
 ·rw[if_neg (by omega)]
  refine kE ?_;exact kF
theorem jQ {fid:FuncId} {p:Rx→Bool} (args:List Rx) (hp:∀x∈args,aa Tryz.prog fid [dR x] (.one (dB (p x)))) (hl:args.length≤1000000) {b:Bool} (hb:args.any p=b):aa Tryz.prog 60 [.leaf (.sl args.length (cZ args)),dF fid] (.one (dB b)):=by
 have c:=uW args hp hl
 have hlt:(args.findIdx p<args.length)↔args.any p=true:=by
  rw[List.any_eq_true];exact List.findIdx_lt_length
 cases b with
 |true=>
  rw[if_pos (hlt.2 hb)]at c;refine kV func60 ?_;refine kC (c) ?_;refine kT ?_;exact kF
 |false=>
  rw[if_neg (fun h=>by rw[hlt.1 h]at hb;cases hb)]at c;refine kV func60 ?_;refine kC (c) ?_;exact kF
theorem gk:aa Tryz.prog 59 [DI] (.one (dB true)):=by
 show aa Tryz.prog _ [.agg nz] _;refine kU func59 ?_;exact kF
theorem jG {x:Rx} {b:Bool} (h:aa Tryz.prog 34 [dR x] (.one (dB b))):aa Tryz.prog 61 [dR x] (.one (dB (!b))):=by
 obtain⟨o1,na1,xs1,nb1,ys1,nm1,n1,cs1,hA⟩:=au x;rw[show dR x= .agg (ac o1 na1 xs1 nb1 ys1 nm1 n1 cs1) from congrArg DV.agg hA]at h ⊢;cases b
 all_goals
  refine kV func61 ?_;refine kC (h) ?_;exact kF
theorem J5 (a:Ex):cZ [rx a]=aE a:=by
 show aR (rx a)++[]=_;rw[List.append_nil];rfl
theorem Kl (a b:Ex):cZ [rx a,rx b]=aE a++aE b:=by
 show aR (rx a)++(aR (rx b)++[])=_;rw[List.append_nil];rfl
theorem iG:∀(e:Ex),xN e→aa Tryz.prog 34 [dE e] (.one (dB true))
 | .num v u,hf=>by
  obtain⟨h1,h2,h3⟩:=hf;obtain⟨t,c,ht⟩:=lh h2 (by decide);rw[h1]at c;show aa Tryz.prog _ [.agg ([.val (.int .i64 1)]++aQ v++[.val (vL u), .sl 0 []])] _
  by_cases hu:u=[]
  ·subst hu
   refine kV func34 ?_;refine fT (i:=1) underlying95 (by kernel_rfl) (by decide) rfl rfl rfl rfl rfl rfl ?_;refine kW ?_;refine kC (c) ?_;refine kG ?_
   refine kO4 ?_
   refine aP rfl rfl rfl rfl rfl rfl rfl (cP (a:=[]) (b:=[]) rfl) ?_;exact kF
  ·have hn:=h3.resolve_left hu
   have ci:=kq u (by
    cases u with
    |nil=>exact absurd rfl hu
    |cons c r=>simp only[xV,Bool.and_eq_true,decide_eq_true_eq]at hn;omega)
   rw[hn]at ci;refine kV func34 ?_;refine fT (i:=1) underlying95 (by kernel_rfl) (by decide) rfl rfl rfl rfl rfl rfl ?_;refine kW ?_;refine kC (c) ?_;refine kG ?_
   refine kO4 ?_
   refine aP rfl rfl rfl rfl rfl rfl rfl (gF (a:=u) (b:=[]) hu) ?_
   refine kO3 ?_
   refine kC (ci) ?_;exact kF
 | .nam s,hf=>by
  have hn:xV s=true:=hf
  have ci:=kq s (by
   cases s with
   |nil=>cases hn
   |cons c r=>simp only[xV,Bool.and_eq_true,decide_eq_true_eq]at hn;omega)
  rw[hn]at ci;show aa Tryz.prog _ [.agg ([.val (.int .i64 2)]++nz++[.val (vL s), .sl 0 []])] _;refine kV func34 ?_;refine fT (i:=2) underlying95 (by kernel_rfl) (by decide) rfl rfl rfl rfl rfl rfl ?_;refine kW ?_;refine kQ (gk) ?_;refine kC (ci) ?_;exact kF
 | .neg a,hf=>by
  have c:=jQ (fid:=61) (p:=fun _=>false) [rx a] (fun x hx=>by
   cases List.mem_singleton.1 hx;exact jG (iG a hf)) (by simp) (b:=false) rfl
  rw[J5]at c;obtain⟨o1,na1,xs1,nb1,ys1,nm1,n1,cs1,hA⟩:=aX a;rw[show dE (.neg a)= .agg ([.val (.int .i64 3)]++nz++[.val (vL []), .sl 1 (aE a)]) from congrArg DV.agg (nZ a)];rw[hA]at c ⊢;refine kV func34 ?_;refine fT (i:=3) underlying95 (by kernel_rfl) (by decide) rfl rfl rfl rfl rfl rfl ?_;refine kW ?_;refine kC (gk) ?_
  refine kO3 ?_
  refine aP rfl rfl rfl rfl rfl rfl rfl (cP (a:=[]) (b:=[]) rfl) ?_;refine kW ?_;refine kC (c) ?_;exact kF
 | .bin k a b,hf=>by
  have c:=jQ (fid:=61) (p:=fun _=>false) [rx a,rx b] (fun x hx=>by
   rcases List.mem_cons.1 hx with rfl|hx
   ·exact jG (iG a hf.1)
   ·cases List.mem_singleton.1 hx
    exact jG (iG b hf.2)) (by simp) (b:=false) rfl
  rw[Kl]at c;obtain⟨o1,na1,xs1,nb1,ys1,nm1,n1,cs1,hA⟩:=aX a;obtain⟨o2,na2,xs2,nb2,ys2,nm2,n2,cs2,hA2⟩:=aX b;rw[show dE (.bin k a b)= .agg ([.val (.int .i64 k.code)]++nz++[.val (vL []), .sl 2 (aE a++aE b)]) from congrArg DV.agg (j8 k a b)];rw[hA,hA2]at c ⊢;cases k
  ·refine kV func34 ?_;refine fT (i:=4) underlying95 (by kernel_rfl) (by decide) rfl rfl rfl rfl rfl rfl ?_;refine kW ?_;refine kC (gk) ?_
   refine kO3 ?_
   refine aP rfl rfl rfl rfl rfl rfl rfl (cP (a:=[]) (b:=[]) rfl) ?_;refine kW ?_;refine kC (c) ?_;exact kF
  ·refine kV func34 ?_;refine fT (i:=5) underlying95 (by kernel_rfl) (by decide) rfl rfl rfl rfl rfl rfl ?_;refine kW ?_;refine kC (gk) ?_
   refine kO3 ?_
   refine aP rfl rfl rfl rfl rfl rfl rfl (cP (a:=[]) (b:=[]) rfl) ?_;refine kW ?_;refine kC (c) ?_;exact kF
  ·refine kV func34 ?_;refine fT (i:=6) underlying95 (by kernel_rfl) (by decide) rfl rfl rfl rfl rfl rfl ?_;refine kW ?_;refine kC (gk) ?_
   refine kO3 ?_
   refine aP rfl rfl rfl rfl rfl rfl rfl (cP (a:=[]) (b:=[]) rfl) ?_;refine kW ?_;refine kC (c) ?_;exact kF
  ·refine kV func34 ?_;refine fT (i:=7) underlying95 (by kernel_rfl) (by decide) rfl rfl rfl rfl rfl rfl ?_;refine kW ?_;refine kC (gk) ?_
   refine kO3 ?_
   refine aP rfl rfl rfl rfl rfl rfl rfl (cP (a:=[]) (b:=[]) rfl) ?_;refine kW ?_;refine kC (c) ?_;exact kF
theorem yZ {e:Ex} (hf:xN e) (hw:nu (rx e)) (hs:jm (rx e)≤1000000) (hd:rz (rx e)≤40):aa Tryz.prog 14 [dE e] (.one (dN .i64 0)):=by
 have c1:=iG e hf;have c2:aa Tryz.prog 24 [dE e] (.one (dN .i64 (rz (rx e)))):=md (rx e) hw hs;obtain⟨o1,na1,xs1,nb1,ys1,nm1,n1,cs1,hA⟩:=aX e;rw[show dE e= .agg (ac o1 na1 xs1 nb1 ys1 nm1 n1 cs1) from congrArg DV.agg hA]at c1 c2 ⊢;refine kV func14 ?_;refine kQ (c1) ?_;refine kC (c2) ?_;refine kE ?_;exact kF
theorem Im:∀(e:Ex),xN e→b5 e 0≠[]
 | .num v u,hf=>by
  obtain⟨d,hd⟩:=Option.isSome_iff_exists.1 hf.1;show qK 4 0 (GD v++qg u)≠[];rw[rX,GD,hd];intro h;exact uU hd (List.append_eq_nil_iff.1 h).1
 | .nam s,hf=>by
  show qK 4 0 s≠[];rw[rX];intro h;subst h;cases hf
 | .neg a,hf=>by
  show qK 3 0 ([45]++b5 a 3)≠[];rw[rX]
  simp
 | .bin k a b,hf=>by
  show qK (fK k) 0 (b5 a (fK k)++ny k++b5 b (fK k+1))≠[];rw[rX];cases k<;>simp[ny]
theorem vy {e:Ex} (hf:xN e) (hw:nu (rx e)) (hs:jm (rx e)≤1000000) (hd:rz (rx e)≤40) (hl:(b5 e 0).length≤65536):aa Tryz.prog 13 [dE e] (.tup [dL (b5 e 0),dN .i64 0]):=by
 have c1:=yZ hf hw hs hd;have c2:az Tryz.prog 31 [.box 850 0, .d (dE e), .d (dN .i64 0)] Kz (.v (.tup [])) (Fj 701 (b5 e 0)):=((l8 e hf 0 (by decide)).w0 (by omega)).swap 950 850 rfl;have c3:=Hp (b5 e 0) (by omega);have c4:=By (b5 e 0) (Im e hf);generalize b5 e 0=t at *;obtain⟨o1,na1,xs1,nb1,ys1,nm1,n1,cs1,hA⟩:=aX e;rw[show dE e= .agg (ac o1 na1 xs1 nb1 ys1 nm1 n1 cs1) from congrArg DV.agg hA]at c1 c2 ⊢;refine kV func13 ?_;refine kQ (c1) ?_;refine Jp vP rfl rfl rfl rfl rfl rfl ?_;refine kW ?_;refine kZ (c2) ?_;refine kD (c3) ?_;refine kY ?_;refine kD (c4) ?_;exact kF
def Ii (ts:List Tk):Prop:=∀t∈ts,(t.1=1→xV t.2.1=true)∧(t.1=2→t.2.1.length≤500)
theorem Ii.sub {ts r:List Tk} (h:Ii ts) (hs:∀t∈r,t∈ts):Ii r:=fun t ht=>h t (hs t ht)
theorem Fv {t:Tk} {r r2:List Tk} {e:Ex} (ht:t.2.1.length≤500) (hr:Ii r) (h:el t r= .ok (e,r2)):xN e:=by
 unfold el at h
 split at h
 ·cases h
 ·rename_i q hq
  split at h
  ·cases h
  ·rename_i d hd
   have h1:(fx q).isSome=true:=by rw[hd];rfl
   split at h
   ·rename_i v r'
    split at h
    ·rename_i hv
     cases h;exact⟨h1,it ht hq, .inr ((hr v (by simp)).1 hv)⟩
    ·cases h;exact⟨h1,it ht hq, .inl rfl⟩
   ·cases h;exact⟨h1,it ht hq, .inl rfl⟩
theorem lO:∀(f:Nat) (m:Md) (ts:List Tk) (e:Ex) (r:List Tk),Ii ts→(∀two e0,m= .more two e0→xN e0)→pP f m ts=some (.ok (e,r))→xN e
 |0,_,_,_,_,_,_,h=>by cases h
 |f+1, .sum,ts,e,r,hs,hm,h=>by
  rw[fW]at h
  split at h
  ·rename_i e1 r1 h1
   have a:=lO f _ _ _ _ hs (fun _ _ h=>by cases h) h1;exact lO f _ _ _ _ (hs.sub (fb f _ _ _ _ h1)) (fun _ _ h=>by cases h;exact a) h
  ·rename_i hn;exact absurd h (hn e r)
 |f+1, .prod,ts,e,r,hs,hm,h=>by
  rw[eX]at h
  split at h
  ·rename_i e1 r1 h1
   have a:=lO f _ _ _ _ hs (fun _ _ h=>by cases h) h1;exact lO f _ _ _ _ (hs.sub (fb f _ _ _ _ h1)) (fun _ _ h=>by cases h;exact a) h
  ·rename_i hn;exact absurd h (hn e r)
 |f+1, .more two e0,ts,e,r,hs,hm,h=>by
  rw[cU]at h
  split at h
  ·rename_i k r1 h0
   split at h
   ·rename_i e1 r2 h1
    have hs1:=hs.sub (qf h0);have a:=lO f _ _ _ _ hs1 (fun _ _ h=>by cases two<;>cases h) h1;exact lO f _ _ _ _ (hs1.sub (fb f _ _ _ _ h1)) (fun _ _ h=>by cases h;exact⟨hm two e0 rfl,a⟩) h
   ·rename_i hn;exact absurd h (hn e r)
  ·cases h;exact hm two _ rfl
 |f+1, .un,ts,e,r,hs,hm,h=>by
  rw[gA]at h
  split at h
  ·rename_i r1 h0
   split at h
   ·rename_i e1 r2 h1
    cases h;have a:=lO f .un _ _ _ (hs.sub (fH h0)) (fun _ _ h=>by cases h) h1;exact a
   ·rename_i hn;exact absurd h (hn e r)
  ·exact lO f .prim _ _ _ hs (fun _ _ h=>by cases h) h
 |f+1, .prim,ts,e,r,hs,hm,h=>by
  rw[dG]at h
  split at h
  ·rename_i r1 h0
   split at h
   ·rename_i e1 r2 h1
    split at h
    ·rename_i r3 h2
     cases h;exact lO f .sum _ _ _ (hs.sub (fH h0)) (fun _ _ h=>by cases h) h1
    ·cases h
   ·rename_i hn;exact absurd h (hn e r)
  ·split at h
   ·rename_i t r1 _
    split at h
    ·rename_i h2
     injection h with h
     exact Fv ((hs t (by simp)).2 h2) (hs.sub (fun t ht=>List.mem_cons_of_mem _ ht)) h
    ·split at h
     ·rename_i h1
      cases h;exact(hs t (by simp)).1 h1
     ·cases h
   ·cases h
theorem BY (p:UInt8→Bool):∀r:List UInt8,bf p (r.take (bf p r))=(r.take (bf p r)).length:=fun r=>by
 rw[ie,Nat.min_self,List.length_take,Nat.min_eq_left (gH p r)]
theorem EH {r:List UInt8} {n:Nat} (h:gO r=(1,n)) (hn:n≤24) (h0:0<n):xV (r.take n)=true:=by
 cases r with
 |nil=>cases h
 |cons c r=>
  rw[gO]at h
  split at h
  ·rename_i hl
   cases h;have hs:=BY gJ (c::r);generalize bf gJ (c::r)=n at *;obtain⟨n,rfl⟩:∃k,n=k+1:=⟨n-1,by omega⟩;rw[List.take_succ_cons]at hs ⊢;have hlen:(c::r.take n).length≤n+1:=by simp;omega
   simp only[xV,Bool.and_eq_true,decide_eq_true_eq]
   exact⟨by omega,hl,hs⟩
  ·split at h
   ·cases h
   ·split at h
    ·cases h
    ·split at h
     ·cases h
     ·split at h<;>cases h
theorem uy:∀(f:Nat) (r:List UInt8) (at_:Nat) (acc L:List Tk),dl f r at_ acc= .ok L→(∀t∈acc,t.1=1→xV t.2.1=true)→ ∀t∈L,t.1=1→xV t.2.1=true
 |0,_,_,_,_,h,_=>by cases h
 |f+1,[],at_,acc,L,h,ha=>by
  rw[dl]at h;cases h;intro t ht h1;rcases List.mem_append.1 ht with ht|ht
  ·exact ha t ht h1
  ·cases List.mem_singleton.1 ht;cases h1
 |f+1,c::r,at_,acc,L,h,ha=>by
  rw[dl]at h
  split at h
  ·exact uy f _ _ _ _ h ha
  ·split at h
   ·cases h
   ·rename_i hn
    split at h
    ·cases h
    ·rename_i hk
     refine uy f _ _ _ _ h ?_;intro t ht h1;rcases List.mem_append.1 ht with ht|ht
     ·exact ha t ht h1
     ·cases List.mem_singleton.1 ht
      have h1:(gO (c::r)).1=1:=h1
      exact EH (Prod.ext h1 rfl) (by
       by_cases h24:24<(gO (c::r)).2
       ·exact absurd ⟨h1,h24⟩ hk
       ·omega) (by omega)
theorem Gw {s:List UInt8} (hl:s.length≤500) {e:Ex} (h:nF s= .ok e):xN e∧nu (rx e)∧jm (rx e)≤501∧rz (rx e)≤40:=by
 have hsp:=je (s.length+1) s 0 [] (Nat.lt_succ_self _)
 have key:∀(T:List Tk) (b:Int) (E:Nat),Ii T→(∀t∈T,t.2.1.length≤65536)→T.length≤501→jh T b E= .ok e→xN e∧nu (rx e)∧jm (rx e)≤501∧rz (rx e)≤40:=fun T b E hN hT hlen hf=>by
  unfold jh at hf
  split at hf
  ·rename_i e1 t r hp
   split at hf
   ·cases hf
   ·split at hf
    ·cases hf
    ·split at hf
     ·rename_i hd
      cases hf;have a:=im _ _ _ _ _ hT (fun _ _ h=>by cases h) hp;have:=a.2.2;dsimp only at this;exact⟨lO _ _ _ _ _ hN (fun _ _ h=>by cases h) hp,a.1,by omega,hd⟩
     ·cases hf
  ·cases hf
  ·cases hf
 have hN:∀(u:List UInt8) (T:List Tk) (E:Nat),u.length≤500→dl (u.length+1) u 0 []= .ok T→Ii T∧(∀t∈T,t.2.1.length≤65536)∧T.length≤501:=fun u T E hu hT=>by
  have h1:=je (u.length+1) u 0 [] (Nat.lt_succ_self _);rw[hT]at h1;obtain⟨T',_,h2,h3⟩:=h1;rw[List.nil_append]at h2;subst h2;have h4:=ks _ _ _ _ _ hT
  simp only[List.length_nil]at h4
  exact⟨fun t ht=>⟨uy _ _ _ _ _ hT (fun t ht=>by cases ht) t ht,fun _=>Nat.le_trans (h3.s t ht) hu⟩,fun t ht=>Nat.le_trans (h3.s t ht) (by omega),by omega⟩
 unfold nF at h;cases hR:dl (s.length+1) s 0 []with
 |ok T=>
  rw[hR]at h;obtain⟨h1,h2,h3⟩:=hN s T 0 hl hR;exact key T 0 s.length h1 h2 h3 h
 |error z=>
  obtain⟨a,b⟩:=z;rw[hR]at h;dsimp only at h;cases hR2:dl ((s.take a).length+1) (s.take a) 0 []with
  |ok T=>
   rw[hR2]at h;obtain⟨h1,h2,h3⟩:=hN (s.take a) T 0 (by rw[List.length_take];omega) hR2;exact key T b a h1 h2 h3 h
  |error z=>rw[hR2]at h;cases h
inductive vm:Rx→Prop
 |mk {op:Int} {na:Bool} {xs:List Nat} {nb:Bool} {ys:List Nat} {nm:List UInt8} {args:List Rx}:xs.length≤2147483648→ys.length≤2147483648→args.length≤1000000→(∀x∈args,vm x)→vm (.mk op na xs nb ys nm args)
theorem GU (c:UInt8) (h:da c) (h0:c≠48):il false [c]:=⟨by simp,fun x hx=>by cases List.mem_singleton.1 hx;exact h, .inl fun x r hr=>by cases hr;exact h0⟩
theorem Ir (c:UInt8) (h:da c) (h0:c≠48) (hb:rL c=true):fa [c]=some ((num [c]:Int):Rat):=by
 have e1:eE [c]=[c]:=by simp[eE,hb]
 have e2:iF [c]=[]:=by simp[iF,hb]
 unfold fa;rw[e1,e2,if_pos (GU c h h0)]
theorem wI (c:UInt8) (h:da c) (h0:c≠48) (hb:rL c=true) (h45:c≠45):bJ [c]=some ((num [c]:Int):Rat):=by
 have e3:dA [c]=[c]:=by simp[dA,h45]
 have e4:bV [c]=false:=by simp[bV,h45]
 unfold bJ;rw[if_pos (by simp),e3,Ir c h h0 hb,e4];rfl
theorem Kx:bJ [50]=some ((2:Int):Rat):=wI 50 (by decide) (by decide) (by decide) (by decide)
theorem Kt:bJ [49]=some ((1:Int):Rat):=wI 49 (by decide) (by decide) (by decide) (by decide)
theorem Jh:bJ [48,48,55]=none:=by
 have e3:dA [48,48,55]=[48,48,55]:=rfl;have e1:eE [48,48,55]=[48,48,55]:=rfl
 have hp:fa [48,48,55]=none:=by
  unfold fa;rw[e1,if_neg];rintro⟨_,_,h|h⟩
  ·exact h 48 [48,55] rfl rfl
  ·cases h.1
 unfold bJ;rw[if_pos (by simp),e3,hp]
def zg:Rat:=Rat.divInt 250 100
theorem J2:bJ [50,46,53,48]=some zg:=by
 have e3:dA [50,46,53,48]=[50,46,53,48]:=rfl;have e1:eE [50,46,53,48]=[50]:=rfl;have e2:iF [50,46,53,48]=[46,53,48]:=rfl
 have hp:fa [50,46,53,48]=some zg:=by
  unfold fa;rw[e1,e2,if_pos (GU 50 (by decide) (by decide))];dsimp only;rw[if_pos rfl,if_pos ⟨by simp,by decide⟩];rfl
 unfold bJ;rw[if_pos (by simp),e3,hp];rfl
theorem Kg:fmt 2=[50]:=by
 unfold fmt;rw[if_neg (by decide),if_neg (by decide)];show []++lp 2=_;rw[dC (by decide)];show []++(lp 0++[dg 2])=_;rw[dM];rfl
theorem J1:fmt 1=[49]:=by
 unfold fmt;rw[if_neg (by decide),if_neg (by decide)];show []++lp 1=_;rw[dC (by decide)];show []++(lp 0++[dg 1])=_;rw[dM];rfl
theorem Jf:fmt 25=[50,53]:=by
 unfold fmt;rw[if_neg (by decide),if_neg (by decide)];show []++lp 25=_;rw[dC (by decide)];show []++(lp 2++[dg 5])=_;rw[dC (by decide)];show []++(lp 0++[dg 2]++[dg 5])=_;rw[dM];rfl
theorem KE:fx ((2:Int):Rat)=some [50]:=by
 unfold fx;rw[if_neg (by decide),jR,if_pos (by rfl),show(pw ((2:Int):Rat) 0).num=2 from rfl,Kg];rfl
theorem Kr:fx ((1:Int):Rat)=some [49]:=by
 unfold fx;rw[if_neg (by decide),jR,if_pos (by rfl),show(pw ((1:Int):Rat) 0).num=1 from rfl,J1];rfl
theorem Ft:zg.den=2:=by kernel_rfl
theorem D5:(zg*((10:Int):Rat)).den=1∧(zg*((10:Int):Rat)).num=25:=⟨by kernel_rfl,by kernel_rfl⟩
theorem I5:fx zg=some [50,46,53]:=by
 have e0:pw zg 0=zg:=rfl;have e1:pw zg 1=zg*((10:Int):Rat):=rfl;unfold fx;rw[if_neg (show ¬Cw zg<0 by show ¬Cw (Rat.divInt 250 100)<0;rw[Cl (by decide)];decide),jR,e0,Ft,if_neg (by decide),jR,Nat.zero_add,e1,D5.1,D5.2,if_pos (by decide),Jf];rfl
def sA:List UInt8:=[97,32,45,32,40,98,32,45,32,99,41,32,42,32,50,46,53,48,32,109,109]
def eA:Ex:= .bin .sub (.nam [97]) (.bin .mul (.bin .sub (.nam [98]) (.nam [99])) (.num zg [109,109]))
def TA:List Tk:=[(1,[97],0),(4,[45],2),(4,[40],4),(1,[98],5),(4,[45],7),(1,[99],9),(4,[41],10),(4,[42],12),(2,[50,46,53,48],14),(1,[109,109],19),(0,[],21)]
theorem tA:dl (sA.length+1) sA 0 []= .ok TA:=by rfl
theorem nA:el (2,[50,46,53,48],14) [(1,[109,109],19),(0,[],21)]= .ok (.num zg [109,109],[(0,[],21)]):=by
 unfold el;rw[J2];dsimp only;rw[I5];rfl
theorem pA:pP 60 .sum TA=some (.ok (eA,[(0,[],21)])):=by
 simp[fW,eX,gA,dG,cU,bh,fy,lT,eC,nA,TA,eA]
def JR:List UInt8:=[97,32,43,32]
def TB:List Tk:=[(1,[97],0),(4,[43],2),(0,[],4)]
theorem tB:dl (JR.length+1) JR 0 []= .ok TB:=by rfl
theorem pB:pP 20 .sum TB=some (.error (4,2)):=by
 simp[fW,eX,gA,dG,cU,bh,fy,lT,eC,TB]
def sC:List UInt8:=[50,32,109,109,32,120]
def TC:List Tk:=[(2,[50],0),(1,[109,109],2),(1,[120],5),(0,[],6)]
theorem tC:dl (sC.length+1) sC 0 []= .ok TC:=by rfl
theorem nC:el (2,[50],0) [(1,[109,109],2),(1,[120],5),(0,[],6)]= .ok (.num ((2:Int):Rat) [109,109],[(1,[120],5),(0,[],6)]):=by
 unfold el;rw[Kx];dsimp only;rw[KE];rfl
theorem pC:pP 25 .sum TC=some (.ok (.num ((2:Int):Rat) [109,109],[(1,[120],5),(0,[],6)])):=by
 simp[fW,eX,gA,dG,cU,bh,fy,lT,eC,nC,TC]
def sD:List UInt8:=[49,32,43,32,48,48,55]
def TD:List Tk:=[(2,[49],0),(4,[43],2),(2,[48,48,55],4),(0,[],7)]
theorem tD:dl (sD.length+1) sD 0 []= .ok TD:=by rfl
theorem Ku:el (2,[49],0) [(4,[43],2),(2,[48,48,55],4),(0,[],7)]= .ok (.num ((1:Int):Rat) [],[(4,[43],2),(2,[48,48,55],4),(0,[],7)]):=by
 unfold el;rw[Kt];dsimp only;rw[Kr];rfl
theorem Kq:el (2,[48,48,55],4) [(0,[],7)]= .error (4,2):=by
 unfold el;rw[Jh]
theorem pD:pP 25 .sum TD=some (.error (4,2)):=by
 simp[fW,eX,gA,dG,cU,bh,fy,lT,eC,Ku,Kq,TD]
theorem JH:nF sA= .ok eA:=by
 unfold nF;rw[tA];show jh TA 0 21=_;unfold jh;rw[show 5*TA.length+5=60 from rfl,pA];rfl
theorem Kb:nF JR= .error (4,2):=by
 unfold nF;rw[tB];show jh TB 0 4=_;unfold jh;rw[show 5*TB.length+5=20 from rfl,pB];rfl
theorem J4:nF sC= .error (5,2):=by
 unfold nF;rw[tC];show jh TC 0 6=_;unfold jh;rw[show 5*TC.length+5=25 from rfl,pC];rfl
theorem J3:nF sD= .error (4,2):=by
 unfold nF;rw[tD];show jh TD 0 7=_;unfold jh;rw[show 5*TD.length+5=25 from rfl,pD];rfl
theorem Kn:b5 eA 0=[97,32,45,32,40,98,32,45,32,99,41,32,42,32,50,46,53,32,109,109]:=by
 have e:GD zg=[50,46,53]:=by rw[GD,I5];rfl
 simp[eA,b5,qK,fK,ny,qg,e]
theorem bO:aa Tryz.prog 10 [] (.one (dB true)):=by
 have cA:=(ug sA (by decide)).1;rw[JH]at cA;have cB:=(ug JR (by decide)).1;rw[Kb]at cB;have cC:=(ug sC (by decide)).1;rw[J4]at cC;have cD:=(ug sD (by decide)).1;rw[J3]at cD;have hA:=Gw (s:=sA) (by decide) JH;have cF:=vy hA.1 hA.2.1 (by omega) hA.2.2.2 (by rw[Kn];decide);rw[Kn]at cF;have cN:=kq [109,109] (by decide);obtain⟨o1,na1,xs1,nb1,ys1,nm1,n1,cs1,hA1⟩:=aX (.nam [97]);obtain⟨o2,na2,xs2,nb2,ys2,nm2,n2,cs2,hA2⟩:=aX (.bin .mul (.bin .sub (.nam [98]) (.nam [99])) (.num zg [109,109]))
 have ho:o2=6:=by
  have h:=congrArg (fun l:List AV=>l[0]?) hA2
  injection h with h;injection h with h;injection h with _ h;exact h.symm
 subst ho;have hE:dE eA= .agg ([.val (.int .i64 5)]++nz++[.val (vL []), .sl 2 (ac o1 na1 xs1 nb1 ys1 nm1 n1 cs1++ac 6 na2 xs2 nb2 ys2 nm2 n2 cs2)]):=by rw[← hA1,← hA2];exact congrArg DV.agg (j8 .sub _ _)
 unfold iC at cA cB cC cD;dsimp only at cA cB cC cD;rw[hE]at cA cF;refine kV func10 ?_;refine kQ (cA) ?_;refine kQ (cF) ?_;refine kQ (cB) ?_;refine kQ (cC) ?_;refine kC (cD) ?_;refine kG ?_
 iterate 8 refine kO ?_
 refine aP rfl rfl rfl rfl rfl rfl rfl (cP (a:=[97,32,45,32,40,98,32,45,32,99,41,32,42,32,50,46,53,32,109,109]) (b:=[97,32,45,32,40,98,32,45,32,99,41,32,42,32,50,46,53,32,109,109]) rfl) ?_;refine kW ?_;refine bl (i:=1) (cs':=ac 6 na2 xs2 nb2 ys2 nm2 n2 cs2) (by decide) (mQ _ rfl) (Nat.zero_lt_succ 6) rfl rfl rfl rfl rfl rfl rfl rfl ?_;refine kW ?_;refine kC (cN) ?_;exact kF
theorem yB (q:Rat):∀k,pw q k=q*(((10^k:Nat):Int):Rat)
 |0=>by simp[pw]
 |k+1=>by
  have e:(((10^(k+1):Nat):Int):Rat)=(((10^k:Nat):Int):Rat)*((10:Int):Rat):=by
   rw[← Rat.intCast_mul];congr 1
  rw[pw,yB q k,e,Rat.mul_assoc]
theorem Gk {q:Rat} {k:Nat} (h:((pw q k).den:Int)=1):Rat.divInt (pw q k).num ((10^k:Nat):Int)=q:=by
 have h1:((pw q k).num:Rat)=pw q k:=by
  have hd:(pw q k).den=1:=by omega
  have:=Rat.num_divInt_den (pw q k);rw[hd]at this;rw[← this];exact(Rat.num_divInt_den (((pw q k).num:Int):Rat)).symm ▸ rfl
 have hp:(((10^k:Nat):Int):Rat)≠0:=by
  intro h;have:=Rat.intCast_eq_zero_iff.1 h;have hp:=Nat.pow_pos (n:=k) (show 0<10 by decide);omega
 rw[Rat.divInt_eq_div,h1,yB,Rat.div_def,Rat.mul_assoc,Rat.mul_inv_cancel _ hp,Rat.mul_one]
def IU (t:List UInt8):Prop:=∃a,il false a∧(t=a∨ ∃b,b≠[]∧(∀x∈b,da x)∧t=a++46::b)
theorem yr {q:Rat} {t:List UInt8} (h:fx q=some t):IU t∧t.length≤40∧bJ t=some q:=by
 have hs:¬Cw q<0:=fun hn=>by rw[fx,if_pos hn]at h;cases h
 obtain⟨K,hK,_,hc⟩:=l9 hs;rcases hc with⟨_,hc⟩| ⟨hK,hd,hc⟩
 ·rw[hc]at h;cases h
 rw[hc]at h
 split at h
 ·rename_i hlen
  cases h;have hq:=Gk hd
  have hpos:0≤(pw q K).num:=by
   have h0:0≤q.num:=by
    have:=Int.sign_nonneg_iff (x:=q.num);unfold Cw at hs;omega
   have:(0:Rat)≤pw q K:=by
    rw[yB];exact Rat.mul_nonneg (Rat.num_nonneg.1 h0) (Rat.intCast_nonneg.2 (Int.natCast_nonneg _))
   exact Rat.num_nonneg.2 this
  obtain⟨N,hN⟩:=Int.eq_ofNat_of_zero_le hpos;rw[hN]at hq hlen ⊢;rw[FB]at hlen ⊢;have hu:=wu N;have hok:=Ff N;have hnum:=C5 N
  have hhd:1<(lF N).length→ ∀c r,lF N=c::r→c≠48:=fun hl=>by
   rcases hok.2.2 with h|h
   ·exact h
   ·omega
  generalize lF N=u at *;have hne:0<u.length:=List.length_pos_iff.2 hok.1
  have hpl:=wg K u
  have hpD:∀c∈dY K u,da c:=fun c hc=>by
   unfold dY at hc;rcases List.mem_append.1 hc with hc|hc
   ·rw[List.eq_of_mem_replicate hc];decide
   ·exact hu c hc
  have hpn:num (dY K u)=N:=by rw[dY,Cs,hnum]
  by_cases h0:0<K
  ·have hsp:=List.take_append_drop ((dY K u).length-K) (dY K u)
   have hph:K+1<u.length→dY K u=u:=fun hl=>by
    unfold dY;rw[show K+1-u.length=0 by omega];rfl
   rw[iZ,if_pos h0]at hlen ⊢;have hal:((dY K u).take ((dY K u).length-K)).length=(dY K u).length-K:=by rw[List.length_take];omega
   have hbl:((dY K u).drop ((dY K u).length-K)).length=K:=by rw[List.length_drop];omega
   have haD:∀c∈(dY K u).take ((dY K u).length-K),da c:=fun c hc=>hpD c (List.mem_of_mem_take hc)
   have hbD:∀c∈(dY K u).drop ((dY K u).length-K),da c:=fun c hc=>hpD c (List.mem_of_mem_drop hc)
   have hah:∀c r,(dY K u).take ((dY K u).length-K)=c::r→1<(dY K u).length-K→c≠48:=fun c r e hl=>by
    rw[hph (by omega)]at e hl hpl;cases hc:u with
    |nil=>rw[hc]at hne;simp at hne
    |cons x y=>
     have:=hhd (by omega) x y hc;rw[hc]at e;obtain⟨m,hm⟩:∃m,(x::y).length-K=m+1:=⟨(x::y).length-K-1,by rw[← hc];omega⟩;rw[hm,List.take_succ_cons]at e;cases e;exact this
   have hsum:num ((dY K u).take ((dY K u).length-K))*10^K+num ((dY K u).drop ((dY K u).length-K))=N:=by
    rw[← hpn]
    conv=>rhs;rw[← hsp]
    rw[mg,hbl]
   generalize(dY K u).take ((dY K u).length-K)=a at *;generalize(dY K u).drop ((dY K u).length-K)=b at *;rw[List.append_assoc,List.singleton_append]at hlen ⊢
   have hoa:il false a:=⟨fun e=>by rw[e]at hal;simp at hal;omega,haD,by
    by_cases h1:1<(dY K u).length-K
    ·exact .inl fun c r e=>hah c r e h1
    ·exact .inr ⟨by omega,rfl⟩⟩
   have hb0:b≠[]:=fun e=>by rw[e]at hbl;simp at hbl;omega
   refine⟨⟨a,hoa, .inr ⟨b,hb0,hbD,rfl⟩⟩,hlen,?_⟩
   have hhd:∀c r,a++46::b=c::r→da c:=fun c r e=>by
    cases a with
    |nil=>exact absurd rfl hoa.1
    |cons x y=>cases e;exact haD _ (by simp)
   have hp:=yV (b:=false) hhd
   simp only[Bool.false_eq_true,if_false,List.nil_append]at hp
   have hpq:fa (a++46::b)=some q:=by
    rw[AD (fun hm=>?_) (fun hm=>Ip (haD _ hm)),if_pos ⟨hoa,hb0,hbD⟩,hbl,hsum]
    ·rw[show((N:Nat):Int)=(N:Int) from rfl,hq]
    ·rcases List.mem_append.1 hm with hm|hm
     ·exact DD (haD _ hm)
     ·rcases List.mem_cons.1 hm with hm|hm
      ·exact absurd hm (by decide)
      ·exact DD (hbD _ hm)
   unfold bJ;rw[if_pos (by omega),hp.1,hp.2,hpq];rfl
  ·obtain rfl:K=0:=by omega
   have ht:iZ 0 u=u:=by
    rw[iZ,if_neg h0,dY,show 0+1-u.length=0 by omega];rfl
   rw[ht]at hlen ⊢;refine⟨⟨u,hok, .inl rfl⟩,hlen,?_⟩;have hhd:∀c r,u=c::r→da c:=fun c r e=>hu c (by rw[e];simp)
   have hp:=yV (b:=false) hhd
   simp only[Bool.false_eq_true,if_false,List.nil_append]at hp
   have hpq:fa u=some q:=by
    rw[xh (fun hm=>DD (hu _ hm)) (fun hm=>Ip (hu _ hm)),if_pos hok,hnum]
    congr 1
    rw[← hq];exact(Rat.num_divInt_den ((N:Int):Rat)).symm
   unfold bJ;rw[if_pos (by omega),hp.1,hp.2,hpq];rfl
 ·cases h
def GM (r:List UInt8):Prop:=∀c r',r=c::r'→c=32∨c=41
theorem lm {p:UInt8→Bool} {a r:List UInt8} (ha:∀c∈a,p c=true) (hr:∀c r',r=c::r'→p c=false):bf p (a++r)=a.length:=by
 unfold bf;rw[List.takeWhile_append_of_pos ha];cases r with
 |nil=>simp
 |cons c r=>rw[List.takeWhile_cons,hr c r rfl];simp
theorem Bd {p:UInt8→Bool} {s:List UInt8} (h:bf p s=s.length):∀c∈s,p c=true:=by
 induction s with
 |nil=>intro c hc;cases hc
 |cons a s ih=>
  unfold bf at h ih;rw[List.takeWhile_cons]at h
  split at h
  ·rename_i hp
   intro c hc;rcases List.mem_cons.1 hc with rfl|hc
   ·exact hp
   ·exact ih (by simpa using h) c hc
  ·simp at h
theorem HO {r:List UInt8} (h:GM r):∀c r',r=c::r'→gJ c=false:=fun c r' e=>by
 rcases h c r' e with rfl|rfl <;>rfl
theorem IF {s r:List UInt8} (h:xV s=true) (hr:GM r):gO (s++r)=(1,s.length)∧s.length≤24:=by
 cases s with
 |nil=>cases h
 |cons c s=>
  simp only[xV,Bool.and_eq_true,decide_eq_true_eq]at h
  obtain⟨h1,h2,h3⟩:=h;refine⟨?_,h1⟩;rw[List.cons_append,gO,if_pos h2,← List.cons_append,lm (Bd h3) (HO hr)]
theorem qy {c:UInt8}:cH c=true↔da c:=by
 unfold cH da
 simp
theorem Fx {c:UInt8} (h:da c):ez c=false:=by
 unfold da at h;unfold ez
 simp
 omega
theorem Fm {t r:List UInt8} (h:IU t) (hr:GM r):jD (t++r)=t.length:=by
 obtain⟨a,ha,h⟩:=h;have hda:∀c∈a,cH c=true:=fun c hc=>qy.2 (ha.2.1 c hc)
 have hdr:∀c r',r=c::r'→cH c=false:=fun c r' e=>by rcases hr c r' e with rfl|rfl <;>rfl
 rcases h with rfl| ⟨b,hb,hbD,rfl⟩
 ·have e:=lm hda hdr
  unfold jD;rw[e,if_neg];rintro⟨h1,_⟩;rw[List.getElem?_append_right (Nat.le_refl _),Nat.sub_self]at h1;cases r with
  |nil=>cases h1
  |cons c r=>
   cases h1;rcases hr 46 r rfl with h|h<;>exact absurd h (by decide)
 ·have e:bf cH (a++46::b++r)=a.length:=by
   rw[List.append_assoc];exact lm hda (fun c r' e=>by cases e;rfl)
  have e2:(a++46::b++r).drop (a.length+1)=b++r:=by
   rw[List.append_assoc,List.drop_append]
   simp
  have e3:bf cH (b++r)=b.length:=lm (fun c hc=>qy.2 (hbD c hc)) hdr
  have e4:(a++46::b++r)[a.length]? =some 46:=by
   rw[List.append_assoc,List.getElem?_append_right (Nat.le_refl _),Nat.sub_self];rfl
  unfold jD;rw[e,e2,e3,e4,if_pos ⟨rfl,List.length_pos_iff.2 hb⟩]
  simp
  omega
theorem IU.head {t:List UInt8} (h:IU t):∃c r,t=c::r∧da c:=by
 obtain⟨a,ha,h⟩:=h;cases a with
 |nil=>exact absurd rfl ha.1
 |cons c a=>
  have hc:=ha.2.1 c (by simp);rcases h with rfl| ⟨b,_,_,rfl⟩
  ·exact⟨c,a,rfl,hc⟩
  ·exact⟨c,a++46::b,rfl,hc⟩
theorem HH {t r:List UInt8} (h:IU t) (hr:GM r):gO (t++r)=(2,t.length):=by
 have hn:=Fm h hr;obtain⟨c,s,rfl,hc⟩:=h.head;rw[List.cons_append]at hn ⊢;rw[gO,Fx hc,qy.2 hc,hn];rfl
def In (c:UInt8):Bool:=c == 40 || c == 41 || c == 43 || c == 45 || c == 42 || c == 47
theorem H3 {c:UInt8} (r:List UInt8) (h:In c=true):gO (c::r)=(4,1):=by
 simp only[In,Bool.or_eq_true,beq_iff_eq]at h
 have key:∀c:UInt8,ez c=false→cH c=false→c≠34→c≠10→r7 c=true→gO (c::r)=(4,1):=fun c h1 h2 h3 h4 h5=>by
  simp[gO,h1,h2,h3,h4,h5]
 rcases h with((((rfl|rfl)|rfl)|rfl)|rfl)|rfl <;>exact key _ (by decide) (by decide) (by decide) (by decide) (by decide)
def TR (r:List UInt8) (p:Nat) (T:List Tk) (r':List UInt8) (p':Nat):Prop:=∀f acc,r.length<f→ ∃f',r'.length<f'∧dl f r p acc=dl f' r' p' (acc++T)
theorem TR.nil {r:List UInt8} {p:Nat}:TR r p [] r p:=fun f acc h=>⟨f,h,by rw[List.append_nil]⟩
theorem TR.trans {r r' r2:List UInt8} {p p' p2:Nat} {T T':List Tk} (h:TR r p T r' p') (h':TR r' p' T' r2 p2):TR r p (T++T') r2 p2:=fun f acc hf=>by
 obtain⟨f1,h1,e1⟩:=h f acc hf;obtain⟨f2,h2,e2⟩:=h' f1 (acc++T) h1;exact⟨f2,h2,by rw[e1,e2,List.append_assoc]⟩
theorem TR.sp (r:List UInt8) (p:Nat):TR (32::r) p [] r (p+1):=fun f acc h=>by
 obtain⟨f,rfl⟩:∃k,f=k+1:=⟨f-1,by omega⟩;exact⟨f,by simp at h;omega,by rw[dl,if_pos (.inl rfl),List.append_nil]⟩
theorem TR.one {x r:List UInt8} {k:Nat} (p:Nat) (h:gO (x++r)=(k,x.length)) (h0:∃c y,x=c::y∧ ¬(c=32∨c=9)) (hk:k=1→x.length≤24):TR (x++r) p [(k,x,p)] r (p+x.length):=fun f acc hf=>by
 obtain⟨c,y,rfl,hc⟩:=h0;obtain⟨f,rfl⟩:∃k,f=k+1:=⟨f-1,by omega⟩;refine⟨f,by simp at hf;omega,?_⟩;rw[List.cons_append,dl,if_neg hc,← List.cons_append,h];dsimp only;rw[if_neg (by simp),if_neg (fun h=>by have:=hk h.1;omega),List.drop_left,List.take_left]
theorem TR.sy {c:UInt8} (r:List UInt8) (p:Nat) (h:In c=true):TR (c::r) p [(4,[c],p)] r (p+1):=by
 refine TR.one (x:=[c]) p (H3 r h) ⟨c,[],rfl,?_⟩ (fun h=>by cases h);rintro(rfl|rfl)<;>cases h
theorem TR.nm {s r:List UInt8} (p:Nat) (h:xV s=true) (hr:GM r):TR (s++r) p [(1,s,p)] r (p+s.length):=by
 obtain⟨h1,h2⟩:=IF h hr;refine TR.one p h1 ?_ (fun _=>h2);cases s with
 |nil=>cases h
 |cons c s=>
  simp only[xV,Bool.and_eq_true,decide_eq_true_eq]at h
  exact⟨c,s,rfl,by rintro(rfl|rfl)<;>exact absurd h.2.1 (by decide)⟩
theorem TR.dc {t r:List UInt8} (p:Nat) (h:IU t) (hr:GM r):TR (t++r) p [(2,t,p)] r (p+t.length):=by
 refine TR.one p (HH h hr) ?_ (fun h=>by cases h);obtain⟨c,s,rfl,hc⟩:=h.head;exact⟨c,s,rfl,by rintro(rfl|rfl)<;>exact absurd hc (by decide)⟩
def Fn (T:List Tk) (p p':Nat):Prop:=∀t∈T,t.1≠0∧(t.1=4→ ∃c,t.2.1=[c])∧t.2.1.length≤500∧p≤t.2.2∧t.2.2<p'
theorem Fn.app {T T':List Tk} {p p1 p2 p':Nat} (h:Fn T p p1) (h':Fn T' p2 p') (h1:p1≤p') (h2:p≤p2):Fn (T++T') p p':=fun t ht=>by
 rcases List.mem_append.1 ht with ht|ht
 ·obtain⟨a,b,c,d,e⟩:=h t ht;exact⟨a,b,c,d,by omega⟩
 ·obtain⟨a,b,c,d,e⟩:=h' t ht;exact⟨a,b,c,by omega,e⟩
theorem Fn.one {k p p' q:Nat} {x:List UInt8} (h0:k≠0) (h4:k=4→ ∃c,x=[c]) (hx:x.length≤500) (h1:p≤q) (h2:q<p'):Fn [(k,x,q)] p p':=fun t ht=>by
 cases List.mem_singleton.1 ht;exact⟨h0,h4,hx,h1,h2⟩
def PP (m:Md) (ts:List Tk) (x:gR):Prop:=∃f,pP f m ts=some x
def J7 (r:List Tk):Prop:=∀t u,r=t::u→t.1≠1
def Ko (r:List Tk):Prop:=fy true r=none
def S3 (e:Ex) (T:List Tk):Prop:=∀r,J7 r→PP .un (T++r) (.ok (e,r))
def S2 (e:Ex) (T:List Tk):Prop:=∀r x,J7 r→PP (.more true e) r x→PP .prod (T++r) x
def S1 (e:Ex) (T:List Tk):Prop:=∀r x,J7 r→Ko r→PP (.more false e) r x→PP .sum (T++r) x
theorem S3.s2 {e:Ex} {T:List Tk} (h:S3 e T):S2 e T:=fun r x h1 ⟨f,hf⟩=>by
 obtain⟨g,hg⟩:=h r h1;exact⟨max f g+1,by rw[eX,kz (Nat.le_max_right f g) hg];exact kz (Nat.le_max_left f g) hf⟩
theorem wD {two:Bool} {e:Ex} {r:List Tk} (h:fy two r=none):PP (.more two e) r (.ok (e,r)):=⟨1,by rw[cU,h]⟩
theorem S2.s1 {e:Ex} {T:List Tk} (h:S2 e T):S1 e T:=fun r x h1 h2 ⟨f,hf⟩=>by
 obtain⟨g,hg⟩:=h r _ h1 (wD h2);exact⟨max f g+1,by rw[fW,kz (Nat.le_max_right f g) hg];exact kz (Nat.le_max_left f g) hf⟩
theorem Il {e:Ex} {T:List Tk} {p p':Nat} (h:∀r,PP .sum (T++(4,[41],p')::r) (.ok (e,(4,[41],p')::r))):S3 e ([(4,[40],p)]++T++[(4,[41],p')]):=fun r h1=>by
 obtain⟨f,hf⟩:=h r;refine⟨f+2,?_⟩;have e1:[(4,[40],p)]++T++[(4,[41],p')]++r=(4,[40],p)::(T++(4,[41],p')::r):=by simp
 have e2:bh 45 ((4,[40],p)::(T++(4,[41],p')::r))=none:=by simp[bh]
 have e3:bh 40 ((4,[40],p)::(T++(4,[41],p')::r))=some (T++(4,[41],p')::r):=by simp[bh]
 have e4:bh 41 ((4,[41],p')::r)=some r:=by simp[bh]
 rw[e1,gA,e2];dsimp only;rw[dG,e3];dsimp only;rw[hf];dsimp only;rw[e4]
theorem S1.par {e:Ex} {T:List Tk} {p p':Nat} (h:S1 e T):S3 e ([(4,[40],p)]++T++[(4,[41],p')]):=
 Il fun r=>h ((4,[41],p')::r) (.ok (e,(4,[41],p')::r)) (fun t u e=>by cases e;show(4:Nat)≠1;decide) (by rfl) (wD (by rfl))
theorem S3.neg {e:Ex} {T:List Tk} {p:Nat} (h:S3 e T):S3 (.neg e) ([(4,[45],p)]++T):=fun r h1=>by
 obtain⟨f,hf⟩:=h r h1;refine⟨f+1,?_⟩;have e2:bh 45 ([(4,[45],p)]++T++r)=some (T++r):=by simp[bh]
 rw[gA,e2];dsimp only;rw[hf]
theorem S3.nam (s:List UInt8) (p:Nat):S3 (.nam s) [(1,s,p)]:=fun r _=>⟨2,by simp[gA,dG,bh]⟩
theorem S3.num {q:Rat} {t u:List UInt8} (p p':Nat) (h:fx q=some t):S3 (.num q u) ((2,t,p)::if u=[]then []else [(1,u,p')]):=fun r h1=>by
 refine⟨2,?_⟩;have hp:=(yr h).2.2;have e1:∀L,bh 45 ((2,t,p)::L)=none:=fun L=>by simp[bh]
 have e2:∀L,bh 40 ((2,t,p)::L)=none:=fun L=>by simp[bh]
 rw[List.cons_append,gA,e1];dsimp only;rw[dG,e2];dsimp only;rw[if_pos rfl]
 congr 1
 unfold el;dsimp only;rw[hp];dsimp only;rw[h];dsimp only
 by_cases hu:u=[]
 ·subst hu
  rw[if_pos rfl,List.nil_append];cases r with
  |nil=>rfl
  |cons v r=>dsimp only;rw[if_neg (h1 v r rfl)]
 ·rw[if_neg hu]
  rfl
def Sx:Nat→Ex→List Tk→Prop
 |0,e,T=>S1 e T
 |1,e,T=>S1 e T
 |2,e,T=>S2 e T
 |_+3,e,T=>S3 e T
theorem Sx.of3 {e:Ex} {T:List Tk} (h:S3 e T):∀n,Sx n e T
 |0=>h.s2.s1
 |1=>h.s2.s1
 |2=>h.s2
 |_+3=>h
theorem Sx.low {e:Ex} {T:List Tk}:∀{n m:Nat},n≤m→Sx m e T→Sx n e T
 |0,0,_,h=>h
 |0,1,_,h=>h
 |0,2,_,h=>S2.s1 h
 |0,_+3,_,h=>h.s2.s1
 |1,1,_,h=>h
 |1,2,_,h=>S2.s1 h
 |1,_+3,_,h=>h.s2.s1
 |2,2,_,h=>h
 |2,_+3,_,h=>h.s2
 |_+3,_+3,_,h=>h
 |1,0,h,_=>absurd h (by decide)
 |2,0,h,_=>absurd h (by decide)
 |2,1,h,_=>absurd h (by decide)
 |n+3,0,h,_=>absurd h (by omega)
 |n+3,1,h,_=>absurd h (by omega)
 |n+3,2,h,_=>absurd h (by omega)
def Ka (e:Ex) (n:Nat):Prop:=∀p r,GM r→ ∃T,TR (b5 e n++r) p T r (p+(b5 e n).length)∧Fn T p (p+(b5 e n).length)∧Sx n e T
theorem F2 (e:Ex):1≤GJ e:=by
 cases e with
 |num=>exact Nat.le_of_ble_eq_true rfl
 |nam=>exact Nat.le_of_ble_eq_true rfl
 |neg=>exact Nat.le_of_ble_eq_true rfl
 |bin k=>cases k<;>exact Nat.le_of_ble_eq_true rfl
theorem Ka.lift {e:Ex} (h:Ka e (GJ e)) (n:Nat) (hn:n≤3):Ka e n:=by
 intro p r hr;have h0:b5 e (GJ e)=b5 e 0:=by rw[oC e (GJ e),qK,if_neg (Nat.lt_irrefl _)]
 have hw:=oC e n
 by_cases hl:GJ e<n
 ·rw[qK,if_pos hl]at hw
  have hs:GM (41::r):=fun c r' e=>by cases e;exact .inr rfl
  obtain⟨T,t1,t2,t3⟩:=h (p+1) (41::r) hs;rw[h0]at t1 t2;have hlen:(b5 e n).length=(b5 e 0).length+2:=by rw[hw];simp
  rw[hlen];have e1:b5 e n++r=40::(b5 e 0++41::r):=by rw[hw];simp
  rw[e1];refine⟨[(4,[40],p)]++T++[(4,[41],p+1+(b5 e 0).length)],?_,?_,?_⟩
  ·have:=((TR.sy (b5 e 0++41::r) p (c:=40) rfl).trans t1).trans (TR.sy (c:=41) r _ rfl)
   rwa[show p+((b5 e 0).length+2)=p+1+(b5 e 0).length+1 by omega]
  ·exact((Fn.one (p':=p+1) (by decide) (fun _=>⟨_,rfl⟩) (by decide) (Nat.le_refl _) (by omega)).app t2 (by omega) (by omega)).app (Fn.one (p:=p) (p':=p+((b5 e 0).length+2)) (by decide) (fun _=>⟨_,rfl⟩) (by decide) (by omega) (by omega)) (by omega) (Nat.le_refl _)
  ·exact Sx.of3 (S1.par (Sx.low (F2 e) t3)) n
 ·rw[qK,if_neg hl,← h0]at hw
  obtain⟨T,t1,t2,t3⟩:=h p r hr;rw[hw];exact⟨T,t1,t2,Sx.low (by omega) t3⟩
end Go.Proofs.YtikbnnljjeefgaaGreatDoor
