/- Parts of a proof: contracts of the functions that the laws reach. -/
import Derived.Test.YtikbnnljjeefgaaGreatDoorXZ11
import Derived.Test.YtikbnnljjeefgaaGreatDoorXZ7
set_option maxHeartbeats 100000000
set_option linter.all false
open Go.Proofs.Tryz
namespace Go.Proofs.YtikbnnljjeefgaaGreatDoor
open Go.RowKit
section
variable {P:Program} {T:TypeId→Option Ty} {n:Nat} {ops:Array Oper} {id:Nat} {draw:Bool} {K:AS→Prop} {s:AS} {k:Nat} {o:Oper} {os:List Oper} {fps:List FP}
theorem b7 {t e:TypeId} {x y:Operand} {m i:Nat} {ik:IntKind} {cs:List AV} (hu:P.underlying t=some (.array m e)) (hs:(P.info? e).map (·.size)=some 1) (hi:i<m) (h1:gd ops s o=some true) (ho:o.op= .indexAddr t x y) (hx:s.ev x= .rp cs) (hy:s.ev y= .d (.leaf (.val (.int ik (i:Nat)))))
 (h3:bn n o.dst=true) (h4:ju draw ops (a6 ops o ⟨.rp (cs.drop i),none⟩ []) k fps=true) (h:aJ P T n ops id draw K (k+1) os (s.eff o.dst ⟨.rp (cs.drop i),none⟩) (a6 ops o ⟨.rp (cs.drop i),none⟩ []::fps)):aJ P T n ops id draw K k (o::os) s fps:=
 .run h1 (.gen fun s2 ht _=>aw (tv:= .rp (cs.drop i)) fun n S0 w0 g a w hM=>by
  have hx2:=(bf ht (x:=x) (by simp[ho,Op.operands])).trans hx;have hy2:=(bf ht (x:=y) (by simp[ho,Op.operands])).trans hy;have h:=hM.ev x;rw[hx2]at h;obtain⟨b,off,f,e1,h1,h2,h3,h4⟩:=h;refine⟨.pointer (some ⟨b,off+i,none⟩),w,?_,Below.refl _ _,b,off+i,fun q=>f (i+q),rfl,h1,h2,fun q c hq=>?_,fun q c hq=>?_⟩
  ·unfold execOp
   rw[ho]
   simp only[e1,bL hM hy2,Instr.indexAt,Instr.sureAddr,asIntOf,Sem.run_bind,Sem.run_pure,run_underlying hu w,Result.andThen_ok]
   have e2:(0:Int)≤i∧(i:Int)<m:=by omega
   simp only[e2,and_self,if_true,Sem.run_bind,eS hs w,Result.andThen_ok,Sem.run_pure,fL,Int.toNat_natCast,Nat.mul_one]
  ·rw[Nat.add_assoc];exact h3 (i+q) c (by simpa using hq)
  ·exact h4 (i+q) c (by simpa using hq)) h3 h4 h
end
theorem eK (e:Ex):aa Tryz.prog 56 [dE e] (.one (dN .i64 (rW e))):=by
 cases e with
 |num v u=>
  show aa Tryz.prog _ [.agg ([.val (.int .i64 1)]++aQ v++[.val (vL u), .sl 0 []])] _;refine kU func56 ?_;exact kF
 |nam s=>
  show aa Tryz.prog _ [.agg ([.val (.int .i64 2)]++lZ++[.val (vL s), .sl 0 []])] _;refine kU func56 ?_;exact kF
 |neg a=>
  rw[show dE (.neg a)= .agg ([.val (.int .i64 3)]++lZ++[.val (vL []), .sl 1 (aE a)]) from congrArg DV.agg (mJ a)];refine kU func56 ?_;exact kF
 |bin k a b=>
  rw[show dE (.bin k a b)= .agg ([.val (.int .i64 k.code)]++lZ++[.val (vL []), .sl 2 (aE a++aE b)]) from congrArg DV.agg (i7 k a b)];cases k
  all_goals
   refine kU func56 ?_;exact kF
theorem sv (lv:Nat) (t:List UInt8):ji lv 0 t=t:=if_neg (Nat.not_lt_zero lv)
theorem FJ {k:Nat} {s:List UInt8} (h:s≠[]):jc k s≠[]:=by
 intro e;unfold jc at e
 split at e
 ·simp at e
 ·unfold d9 at e
  exact h (List.append_eq_nil_iff.1 e).2
theorem vy {q:Rat} {d:List UInt8}:∀(n k:Nat),ka q n k=some d→d≠[]
 |0,_,h=>by cases h
 |n+1,k,h=>by
  rw[ka]at h
  split at h
  ·split at h
   ·cases h;exact FJ (List.length_pos_iff.1 (EN _))
   ·cases h
  ·exact vy n (k+1) h
theorem t6 {q:Rat} {d:List UInt8} (h:eY q=some d):d≠[]:=by
 unfold eY at h
 split at h
 ·cases h
 ·exact vy _ _ h
theorem jm {r:Nat} {l:List UInt8}:fi xM (jd r l):=zF
structure Cq (e:Ex) (least:Nat):Prop where
 w0:(aV e least).length≤1000000000→aC Tryz.prog 31 [.box 950 0, .d (dE e), .d (dN .i64 least)] xM (.v (.tup [])) (jd 701 (aV e least))
 w1:∀l:List UInt8,l.length+(aV e least).length≤1000000000→aC Tryz.prog 31 [.box 950 0, .d (dE e), .d (dN .i64 least)] (jd 700 l) (.v (.tup [])) (jd 701 (l++aV e least))
theorem Cq.n0 {e:Ex} {least:Nat} (h:Cq e least) (b:Nat) (hl:(aV e least).length≤1000000000) (hb:l8 b=true):aC Tryz.prog 31 [.box 950 0, .d (dE e), .d (dN .i64 least)] xM (.v (.tup [])) (jd b (aV e least)):=
 zT (C:=aC Tryz.prog 31) (ds:=[dE e,dN .i64 least]) (fun a b h=>aC.swap a b h) b hb (h.w0 hl)
theorem Cq.n1 {e:Ex} {least:Nat} (h:Cq e least) (a b:Nat) (l:List UInt8) (hl:l.length+(aV e least).length≤1000000000) (ha:l8 a=true) (hb:l8 b=true) (hab:(a == b)=false):aC Tryz.prog 31 [.box 950 0, .d (dE e), .d (dN .i64 least)] (jd a l) (.v (.tup [])) (jd b (l++aV e least)):=
 zg (C:=aC Tryz.prog 31) (ds:=[dE e,dN .i64 least]) (fun a b h=>aC.swap a b h) a b ha hb hab (h.w1 l hl)
theorem FZ {v:Rat} {u:List UInt8} {least:Nat} (h4:least≤3) (hf:jC (.num v u)) (hl:(aV (.num v u) least).length≤1000000000):aC Tryz.prog 31 [.box 950 0, .d (dE (.num v u)), .d (dN .i64 least)] xM (.v (.tup [])) (jd 701 (aV (.num v u) least)):=by
 obtain⟨h1,h2,h3⟩:=hf;obtain⟨t,c,ht⟩:=jB h2 (by decide);obtain⟨d,hd⟩:=Option.isSome_iff_exists.1 h1;rw[ht d hd,h1]at c;have hd0:d≠[]:=t6 hd;have cl:=eK (.num v u)
 have e0:aV (.num v u) least=d++gH u:=by
  rw[j6,ji,if_neg (by show ¬4<least;omega)];show ji 4 0 (yJ v++gH u)=_;rw[sv,yJ,hd];rfl
 rw[e0]at hl ⊢;have hdn:dE (.num v u)= .agg ([.val (.int .i64 1)]++aQ v++[.val (vL u), .sl 0 []]):=rfl;rw[hdn]at cl ⊢
 by_cases hu:u=[]
 ·subst hu
  rw[show gH []=[] from rfl,List.append_nil]at hl ⊢;refine dh ab bk func31 rfl rfl rfl rfl rfl rfl jm ?_;refine kR ?_;refine kI ?_;refine kO ?_;refine kC (cl) ?_;refine kO ?_;refine kB false ?_ ?_
  ·exact decide_eq_false (by show ¬((4:Nat):Int)<_;omega)
  refine kW ?_;refine kQ (c) ?_;refine bB ((I8 701 (d) hd0 (by omega) rfl).toT) rfl rfl rfl rfl rfl ⟨rfl,trivial⟩ rfl rfl rfl rfl ?_;refine kG ?_
  refine kO2 ?_
  refine aj rfl rfl rfl rfl rfl rfl rfl (fV (a:=[]) (b:=[]) rfl) ?_;refine kW ?_;exact .inl ⟨⟨_,rfl,rfl⟩,⟨rfl,rfl,trivial⟩⟩
 ·have hu2:gH u=[32]++u:=if_neg hu
  rw[hu2]at hl ⊢
  simp only[List.length_append,List.length_cons,List.length_nil]at hl
  rw[show(d++([32]++u))=(d)++([32]++u) by simp];refine dh ab bk func31 rfl rfl rfl rfl rfl rfl jm ?_;refine kR ?_;refine kI ?_;refine kO ?_;refine kC (cl) ?_;refine kO ?_;refine kB false ?_ ?_
  ·exact decide_eq_false (by show ¬((4:Nat):Int)<_;omega)
  refine kW ?_;refine kQ (c) ?_;refine bB ((I8 702 (d) hd0 (by omega) rfl).toT) rfl rfl rfl rfl rfl ⟨rfl,trivial⟩ rfl rfl rfl rfl ?_;refine kG ?_
  refine kO2 ?_
  refine aj rfl rfl rfl rfl rfl rfl rfl (dT (a:=u) (b:=[]) hu) ?_;refine kG ?_
  refine kO3 ?_
  refine aj rfl rfl rfl rfl rfl rfl rfl (aH (a:=[32]) (b:=u) (by simp <;>omega)) ?_;refine bB ((BQ 702 701 (d) ([32]++u) (by simp) (by simp <;>omega) rfl rfl rfl).toT) rfl rfl rfl rfl rfl ⟨rfl,rfl,trivial⟩ rfl rfl rfl rfl ?_;refine kW ?_;exact .inl ⟨⟨_,rfl,rfl⟩,⟨rfl,rfl,trivial⟩⟩
theorem E7 {s:List UInt8} {least:Nat} (h4:least≤3) (hf:jC (.nam s)) (hl:(aV (.nam s) least).length≤1000000000):aC Tryz.prog 31 [.box 950 0, .d (dE (.nam s)), .d (dN .i64 least)] xM (.v (.tup [])) (jd 701 (aV (.nam s) least)):=by
 have hs0:s≠[]:=fun e=>by subst e;cases hf
 have cl:=eK (.nam s)
 have e0:aV (.nam s) least=s:=by
  rw[j6,ji,if_neg (by show ¬4<least;omega)];exact sv _ _
 rw[e0]at hl ⊢;have hdn:dE (.nam s)= .agg ([.val (.int .i64 2)]++lZ++[.val (vL s), .sl 0 []]):=rfl;rw[hdn]at cl ⊢;refine dh ab bk func31 rfl rfl rfl rfl rfl rfl jm ?_;refine kR ?_;refine kI ?_;refine kO ?_;refine kC (cl) ?_;refine kO ?_;refine kB false ?_ ?_
 ·exact decide_eq_false (by show ¬((4:Nat):Int)<_;omega)
 refine kW ?_;refine bB ((I8 701 (s) hs0 (by omega) rfl).toT) rfl rfl rfl rfl rfl ⟨rfl,trivial⟩ rfl rfl rfl rfl ?_;refine kW ?_;exact .inl ⟨⟨_,rfl,rfl⟩,⟨rfl,rfl,trivial⟩⟩
theorem F0 {a:Ex} {least:Nat} (h4:least≤3) (ih:Cq a 3) (hl:(aV (.neg a) least).length≤1000000000):aC Tryz.prog 31 [.box 950 0, .d (dE (.neg a)), .d (dN .i64 least)] xM (.v (.tup [])) (jd 701 (aV (.neg a) least)):=by
 have cl:=eK (.neg a)
 have e0:aV (.neg a) least=[45]++aV a 3:=by
  rw[j6,ji,if_neg (by show ¬3<least;omega)];exact sv _ _
 rw[e0]at hl ⊢
 simp only[List.length_append,List.length_cons,List.length_nil]at hl
 obtain⟨o1,na1,xs1,nb1,ys1,nm1,n1,cs1,hA⟩:=aA a;have hdn:dE (.neg a)= .agg ([.val (.int .i64 3)]++lZ++[.val (vL []), .sl 1 (ac o1 na1 xs1 nb1 ys1 nm1 n1 cs1)]):=by rw[← hA];exact congrArg DV.agg (mJ a)
 rw[hdn]at cl ⊢;have cw:=ih.n1 702 701 ([45]) (by simp <;>omega) rfl rfl rfl;rw[show dE a= .agg (ac o1 na1 xs1 nb1 ys1 nm1 n1 cs1) from congrArg DV.agg hA]at cw;rw[show([45]++aV a 3)=([45])++aV a 3 by simp];refine dh ab bk func31 rfl rfl rfl rfl rfl rfl jm ?_;refine kR ?_;refine kI ?_;refine kO ?_;refine kC (cl) ?_;refine kO ?_;refine kB false ?_ ?_
 ·exact decide_eq_false (by show ¬((3:Nat):Int)<_;omega)
 refine kW ?_;refine b7 (i:=3) underlying93 (by kernel_rfl) (by decide) rfl rfl rfl rfl rfl rfl ?_;refine kW ?_;refine bB ((I8 702 ([45]) (by simp) (by simp <;>omega) rfl).toT) rfl rfl rfl rfl rfl ⟨rfl,trivial⟩ rfl rfl rfl rfl ?_;refine kW ?_;refine bJ (i:=0) (cs':=ac o1 na1 xs1 nb1 ys1 nm1 n1 cs1) (by decide) (vl _) (Nat.zero_lt_succ 6) rfl rfl rfl rfl rfl rfl rfl rfl ?_;refine kW ?_;refine kC (cl) ?_;refine kZ (cw) ?_;exact .inl ⟨⟨_,rfl,rfl⟩,⟨rfl,rfl,trivial⟩⟩
theorem E1 {a b:Ex} (k:B4) {least:Nat} (iha:Cq a (cK k)) (ihb:Cq b (cK k+1)) (hl:(aV (.bin k a b) least).length≤1000000000):aC Tryz.prog 31 [.box 950 0, .d (dE (.bin k a b)), .d (dN .i64 least)] xM (.v (.tup [])) (jd 701 (aV (.bin k a b) least)):=by
 have cl:aa Tryz.prog 56 [dE (.bin k a b)] (.one (dN .i64 ((cK k:Nat):Int))):=eK (.bin k a b);obtain⟨o1,na1,xs1,nb1,ys1,nm1,n1,cs1,hA⟩:=aA a;obtain⟨o2,na2,xs2,nb2,ys2,nm2,n2,cs2,hA2⟩:=aA b;have hdn:dE (.bin k a b)= .agg ([.val (.int .i64 k.code)]++lZ++[.val (vL []), .sl 2 (ac o1 na1 xs1 nb1 ys1 nm1 n1 cs1++ac o2 na2 xs2 nb2 ys2 nm2 n2 cs2)]):=by rw[← hA,← hA2];exact congrArg DV.agg (i7 k a b)
 have hsy:(il k).length=3:=by cases k<;>rfl
 have hEa:dE a= .agg (ac o1 na1 xs1 nb1 ys1 nm1 n1 cs1):=congrArg DV.agg hA;have hEb:dE b= .agg (ac o2 na2 xs2 nb2 ys2 nm2 n2 cs2):=congrArg DV.agg hA2
 by_cases hlt:cK k<least
 ·have e0:aV (.bin k a b) least=[40]++(aV a (cK k)++il k++aV b (cK k+1))++[41]:=if_pos hlt
  rw[e0]at hl ⊢
  simp only[List.length_append,List.length_cons,List.length_nil,hsy]at hl
  have ca:=iha.n1 704 702 ([40]) (by simp <;>omega) rfl rfl rfl;have cb:=ihb.n1 703 705 ([40]++aV a (cK k)++il k) (by simp only[List.length_append,List.length_cons,List.length_nil,hsy];omega) rfl rfl rfl;have hfin:=BQ 705 701 ([40]++aV a (cK k)++il k++aV b (cK k+1)) [41] (by simp) (by simp only[List.length_append,List.length_cons,List.length_nil,hsy];omega) rfl rfl rfl;have cy:=(BQ 702 703 ([40]++aV a (cK k)) (il k) (fun e=>by rw[e]at hsy;cases hsy) (by simp only[List.length_append,List.length_cons,List.length_nil,hsy];omega) rfl rfl rfl).toT;rw[hdn]at cl ⊢;rw[hEa]at ca;rw[hEb]at cb;rw[show([40]++(aV a (cK k)++il k++aV b (cK k+1))++[41])=[40]++aV a (cK k)++il k++aV b (cK k+1)++[41] by simp];generalize aV a (cK k)=ta at *;generalize aV b (cK k+1)=tb at *;cases k
  all_goals
   refine dh ab bk func31 rfl rfl rfl rfl rfl rfl jm ?_;refine kR ?_;refine kI ?_;refine kO ?_;refine kC (cl) ?_;refine kO ?_;refine kX ?_;refine bB ((I8 704 ([40]) (by simp) (by simp <;>omega) rfl).toT) rfl rfl rfl rfl rfl ⟨rfl,trivial⟩ rfl rfl rfl rfl ?_;refine kW ?_;refine Aa rfl rfl rfl rfl rfl rfl rfl ?_;refine kW ?_;refine bJ (i:=0) (cs':=ac o1 na1 xs1 nb1 ys1 nm1 n1 cs1) (by decide) (iJ _ _) (Nat.zero_lt_succ 6) rfl rfl rfl rfl rfl rfl rfl rfl ?_;refine kW ?_;refine kC (cl) ?_;refine kZ (ca) ?_;refine b7 underlying93 (by kernel_rfl) (by decide) rfl rfl rfl rfl rfl rfl ?_;refine kW ?_;refine kZ (cy) ?_;refine bJ (i:=1) (cs':=ac o2 na2 xs2 nb2 ys2 nm2 n2 cs2) (by decide) (gZ _ rfl) (Nat.zero_lt_succ 6) rfl rfl rfl rfl rfl rfl rfl rfl ?_;refine kW ?_
   refine kQ (cl) ?_;refine kZ (cb) ?_;exact .inr ⟨_,_,_,_,_,{ dk:=rfl,one:=rfl,body:=hfin,kn:=rfl,bx:=⟨rfl,rfl,trivial⟩,cl:=rfl,new:=rfl,fin:=⟨rfl,rfl,trivial⟩ }⟩
 ·have e0:aV (.bin k a b) least=aV a (cK k)++il k++aV b (cK k+1):=if_neg hlt
  rw[e0]at hl ⊢
  simp only[List.length_append,hsy]at hl
  have ca:=iha.n0 702 (by omega) rfl;have cb:=ihb.n1 703 701 (aV a (cK k)++il k) (by simp only[List.length_append,List.length_cons,List.length_nil,hsy];omega) rfl rfl rfl;have cy:=(BQ 702 703 (aV a (cK k)) (il k) (fun e=>by rw[e]at hsy;cases hsy) (by simp only[List.length_append,List.length_cons,List.length_nil,hsy];omega) rfl rfl rfl).toT;rw[hdn]at cl ⊢;rw[hEa]at ca;rw[hEb]at cb;rw[show(aV a (cK k)++il k++aV b (cK k+1))=aV a (cK k)++il k++aV b (cK k+1) by simp];generalize aV a (cK k)=ta at *;generalize aV b (cK k+1)=tb at *;cases k
  all_goals
   refine dh ab bk func31 rfl rfl rfl rfl rfl rfl jm ?_;refine kR ?_;refine kI ?_;refine kO ?_;refine kC (cl) ?_;refine kO ?_;refine kY ?_;refine bJ (i:=0) (cs':=ac o1 na1 xs1 nb1 ys1 nm1 n1 cs1) (by decide) (iJ _ _) (Nat.zero_lt_succ 6) rfl rfl rfl rfl rfl rfl rfl rfl ?_;refine kW ?_;refine kC (cl) ?_;refine kZ (ca) ?_;refine b7 underlying93 (by kernel_rfl) (by decide) rfl rfl rfl rfl rfl rfl ?_;refine kW ?_;refine kZ (cy) ?_;refine bJ (i:=1) (cs':=ac o2 na2 xs2 nb2 ys2 nm2 n2 cs2) (by decide) (gZ _ rfl) (Nat.zero_lt_succ 6) rfl rfl rfl rfl rfl rfl rfl rfl ?_;refine kW ?_;refine kQ (cl) ?_;refine kZ (cb) ?_;exact .inl ⟨⟨_,rfl,rfl⟩,⟨rfl,rfl,trivial⟩⟩
theorem Fy (l:List UInt8) {v:Rat} {u:List UInt8} {least:Nat} (h4:least≤3) (hf:jC (.num v u)) (hl:l.length+(aV (.num v u) least).length≤1000000000):aC Tryz.prog 31 [.box 950 0, .d (dE (.num v u)), .d (dN .i64 least)] (jd 700 l) (.v (.tup [])) (jd 701 (l++aV (.num v u) least)):=by
 obtain⟨h1,h2,h3⟩:=hf;obtain⟨t,c,ht⟩:=jB h2 (by decide);obtain⟨d,hd⟩:=Option.isSome_iff_exists.1 h1;rw[ht d hd,h1]at c;have hd0:d≠[]:=t6 hd;have cl:=eK (.num v u)
 have e0:aV (.num v u) least=d++gH u:=by
  rw[j6,ji,if_neg (by show ¬4<least;omega)];show ji 4 0 (yJ v++gH u)=_;rw[sv,yJ,hd];rfl
 rw[e0]at hl ⊢;have hdn:dE (.num v u)= .agg ([.val (.int .i64 1)]++aQ v++[.val (vL u), .sl 0 []]):=rfl;rw[hdn]at cl ⊢
 by_cases hu:u=[]
 ·subst hu
  rw[show gH []=[] from rfl,List.append_nil]at hl ⊢;refine dh ab bk func31 rfl rfl rfl rfl rfl rfl (j0 rfl rfl rfl) ?_;refine kR ?_;refine kI ?_;refine kO ?_;refine kC (cl) ?_;refine kO ?_;refine kB false ?_ ?_
  ·exact decide_eq_false (by show ¬((4:Nat):Int)<_;omega)
  refine kW ?_;refine kQ (c) ?_;refine bB ((BQ 700 701 l (d) hd0 (by omega) rfl rfl rfl).toT) rfl rfl rfl rfl rfl ⟨rfl,rfl,trivial⟩ rfl rfl rfl rfl ?_;refine kG ?_
  refine kO2 ?_
  refine aj rfl rfl rfl rfl rfl rfl rfl (fV (a:=[]) (b:=[]) rfl) ?_;refine kW ?_;exact .inl ⟨⟨_,rfl,rfl⟩,⟨rfl,rfl,trivial⟩⟩
 ·have hu2:gH u=[32]++u:=if_neg hu
  rw[hu2]at hl ⊢
  simp only[List.length_append,List.length_cons,List.length_nil]at hl
  rw[show l++(d++([32]++u))=(l++d)++([32]++u) by simp];refine dh ab bk func31 rfl rfl rfl rfl rfl rfl (j0 rfl rfl rfl) ?_;refine kR ?_;refine kI ?_;refine kO ?_;refine kC (cl) ?_;refine kO ?_;refine kB false ?_ ?_
  ·exact decide_eq_false (by show ¬((4:Nat):Int)<_;omega)
  refine kW ?_;refine kQ (c) ?_;refine bB ((BQ 700 702 l (d) hd0 (by omega) rfl rfl rfl).toT) rfl rfl rfl rfl rfl ⟨rfl,rfl,trivial⟩ rfl rfl rfl rfl ?_;refine kG ?_
  refine kO2 ?_
  refine aj rfl rfl rfl rfl rfl rfl rfl (dT (a:=u) (b:=[]) hu) ?_;refine kG ?_
  refine kO3 ?_
  refine aj rfl rfl rfl rfl rfl rfl rfl (aH (a:=[32]) (b:=u) (by simp <;>omega)) ?_;refine bB ((BQ 702 701 (l++d) ([32]++u) (by simp) (by simp <;>omega) rfl rfl rfl).toT) rfl rfl rfl rfl rfl ⟨rfl,rfl,trivial⟩ rfl rfl rfl rfl ?_;refine kW ?_;exact .inl ⟨⟨_,rfl,rfl⟩,⟨rfl,rfl,trivial⟩⟩
theorem Gd (l:List UInt8) {s:List UInt8} {least:Nat} (h4:least≤3) (hf:jC (.nam s)) (hl:l.length+(aV (.nam s) least).length≤1000000000):aC Tryz.prog 31 [.box 950 0, .d (dE (.nam s)), .d (dN .i64 least)] (jd 700 l) (.v (.tup [])) (jd 701 (l++aV (.nam s) least)):=by
 have hs0:s≠[]:=fun e=>by subst e;cases hf
 have cl:=eK (.nam s)
 have e0:aV (.nam s) least=s:=by
  rw[j6,ji,if_neg (by show ¬4<least;omega)];exact sv _ _
 rw[e0]at hl ⊢;have hdn:dE (.nam s)= .agg ([.val (.int .i64 2)]++lZ++[.val (vL s), .sl 0 []]):=rfl;rw[hdn]at cl ⊢;refine dh ab bk func31 rfl rfl rfl rfl rfl rfl (j0 rfl rfl rfl) ?_;refine kR ?_;refine kI ?_;refine kO ?_;refine kC (cl) ?_;refine kO ?_;refine kB false ?_ ?_
 ·exact decide_eq_false (by show ¬((4:Nat):Int)<_;omega)
 refine kW ?_;refine bB ((BQ 700 701 l (s) hs0 (by omega) rfl rfl rfl).toT) rfl rfl rfl rfl rfl ⟨rfl,rfl,trivial⟩ rfl rfl rfl rfl ?_;refine kW ?_;exact .inl ⟨⟨_,rfl,rfl⟩,⟨rfl,rfl,trivial⟩⟩
theorem FA (l:List UInt8) {a:Ex} {least:Nat} (h4:least≤3) (ih:Cq a 3) (hl:l.length+(aV (.neg a) least).length≤1000000000):aC Tryz.prog 31 [.box 950 0, .d (dE (.neg a)), .d (dN .i64 least)] (jd 700 l) (.v (.tup [])) (jd 701 (l++aV (.neg a) least)):=by
 have cl:=eK (.neg a)
 have e0:aV (.neg a) least=[45]++aV a 3:=by
  rw[j6,ji,if_neg (by show ¬3<least;omega)];exact sv _ _
 rw[e0]at hl ⊢
 simp only[List.length_append,List.length_cons,List.length_nil]at hl
 obtain⟨o1,na1,xs1,nb1,ys1,nm1,n1,cs1,hA⟩:=aA a;have hdn:dE (.neg a)= .agg ([.val (.int .i64 3)]++lZ++[.val (vL []), .sl 1 (ac o1 na1 xs1 nb1 ys1 nm1 n1 cs1)]):=by rw[← hA];exact congrArg DV.agg (mJ a)
 rw[hdn]at cl ⊢;have cw:=ih.n1 702 701 (l++[45]) (by simp <;>omega) rfl rfl rfl;rw[show dE a= .agg (ac o1 na1 xs1 nb1 ys1 nm1 n1 cs1) from congrArg DV.agg hA]at cw;rw[show l++([45]++aV a 3)=(l++[45])++aV a 3 by simp];refine dh ab bk func31 rfl rfl rfl rfl rfl rfl (j0 rfl rfl rfl) ?_;refine kR ?_;refine kI ?_;refine kO ?_;refine kC (cl) ?_;refine kO ?_;refine kB false ?_ ?_
 ·exact decide_eq_false (by show ¬((3:Nat):Int)<_;omega)
 refine kW ?_;refine b7 (i:=3) underlying93 (by kernel_rfl) (by decide) rfl rfl rfl rfl rfl rfl ?_;refine kW ?_;refine bB ((BQ 700 702 l ([45]) (by simp) (by simp <;>omega) rfl rfl rfl).toT) rfl rfl rfl rfl rfl ⟨rfl,rfl,trivial⟩ rfl rfl rfl rfl ?_;refine kW ?_;refine bJ (i:=0) (cs':=ac o1 na1 xs1 nb1 ys1 nm1 n1 cs1) (by decide) (vl _) (Nat.zero_lt_succ 6) rfl rfl rfl rfl rfl rfl rfl rfl ?_;refine kW ?_;refine kC (cl) ?_;refine kZ (cw) ?_;exact .inl ⟨⟨_,rfl,rfl⟩,⟨rfl,rfl,trivial⟩⟩
theorem Fu (l:List UInt8) {a b:Ex} (k:B4) {least:Nat} (iha:Cq a (cK k)) (ihb:Cq b (cK k+1)) (hl:l.length+(aV (.bin k a b) least).length≤1000000000):aC Tryz.prog 31 [.box 950 0, .d (dE (.bin k a b)), .d (dN .i64 least)] (jd 700 l) (.v (.tup [])) (jd 701 (l++aV (.bin k a b) least)):=by
 have cl:aa Tryz.prog 56 [dE (.bin k a b)] (.one (dN .i64 ((cK k:Nat):Int))):=eK (.bin k a b);obtain⟨o1,na1,xs1,nb1,ys1,nm1,n1,cs1,hA⟩:=aA a;obtain⟨o2,na2,xs2,nb2,ys2,nm2,n2,cs2,hA2⟩:=aA b;have hdn:dE (.bin k a b)= .agg ([.val (.int .i64 k.code)]++lZ++[.val (vL []), .sl 2 (ac o1 na1 xs1 nb1 ys1 nm1 n1 cs1++ac o2 na2 xs2 nb2 ys2 nm2 n2 cs2)]):=by rw[← hA,← hA2];exact congrArg DV.agg (i7 k a b)
 have hsy:(il k).length=3:=by cases k<;>rfl
 have hEa:dE a= .agg (ac o1 na1 xs1 nb1 ys1 nm1 n1 cs1):=congrArg DV.agg hA;have hEb:dE b= .agg (ac o2 na2 xs2 nb2 ys2 nm2 n2 cs2):=congrArg DV.agg hA2
 by_cases hlt:cK k<least
 ·have e0:aV (.bin k a b) least=[40]++(aV a (cK k)++il k++aV b (cK k+1))++[41]:=if_pos hlt
  rw[e0]at hl ⊢
  simp only[List.length_append,List.length_cons,List.length_nil,hsy]at hl
  have ca:=iha.n1 704 702 (l++[40]) (by simp <;>omega) rfl rfl rfl;have cb:=ihb.n1 703 705 (l++[40]++aV a (cK k)++il k) (by simp only[List.length_append,List.length_cons,List.length_nil,hsy];omega) rfl rfl rfl;have hfin:=BQ 705 701 (l++[40]++aV a (cK k)++il k++aV b (cK k+1)) [41] (by simp) (by simp only[List.length_append,List.length_cons,List.length_nil,hsy];omega) rfl rfl rfl;have cy:=(BQ 702 703 (l++[40]++aV a (cK k)) (il k) (fun e=>by rw[e]at hsy;cases hsy) (by simp only[List.length_append,List.length_cons,List.length_nil,hsy];omega) rfl rfl rfl).toT;rw[hdn]at cl ⊢;rw[hEa]at ca;rw[hEb]at cb;rw[show l++([40]++(aV a (cK k)++il k++aV b (cK k+1))++[41])=l++[40]++aV a (cK k)++il k++aV b (cK k+1)++[41] by simp];generalize aV a (cK k)=ta at *
  generalize aV b (cK k+1)=tb at *;cases k
  all_goals
   refine dh ab bk func31 rfl rfl rfl rfl rfl rfl (j0 rfl rfl rfl) ?_;refine kR ?_;refine kI ?_;refine kO ?_;refine kC (cl) ?_;refine kO ?_;refine kX ?_;refine bB ((BQ 700 704 l ([40]) (by simp) (by simp <;>omega) rfl rfl rfl).toT) rfl rfl rfl rfl rfl ⟨rfl,rfl,trivial⟩ rfl rfl rfl rfl ?_;refine kW ?_;refine Aa rfl rfl rfl rfl rfl rfl rfl ?_;refine kW ?_;refine bJ (i:=0) (cs':=ac o1 na1 xs1 nb1 ys1 nm1 n1 cs1) (by decide) (iJ _ _) (Nat.zero_lt_succ 6) rfl rfl rfl rfl rfl rfl rfl rfl ?_;refine kW ?_;refine kC (cl) ?_;refine kZ (ca) ?_;refine b7 underlying93 (by kernel_rfl) (by decide) rfl rfl rfl rfl rfl rfl ?_;refine kW ?_;refine kZ (cy) ?_
   refine bJ (i:=1) (cs':=ac o2 na2 xs2 nb2 ys2 nm2 n2 cs2) (by decide) (gZ _ rfl) (Nat.zero_lt_succ 6) rfl rfl rfl rfl rfl rfl rfl rfl ?_;refine kW ?_;refine kQ (cl) ?_;refine kZ (cb) ?_;exact .inr ⟨_,_,_,_,_,{ dk:=rfl,one:=rfl,body:=hfin,kn:=rfl,bx:=⟨rfl,rfl,trivial⟩,cl:=rfl,new:=rfl,fin:=⟨rfl,rfl,trivial⟩ }⟩
 ·have e0:aV (.bin k a b) least=aV a (cK k)++il k++aV b (cK k+1):=if_neg hlt
  rw[e0]at hl ⊢
  simp only[List.length_append,hsy]at hl
  have ca:=iha.n1 700 702 l (by omega) rfl rfl rfl;have cb:=ihb.n1 703 701 (l++aV a (cK k)++il k) (by simp only[List.length_append,List.length_cons,List.length_nil,hsy];omega) rfl rfl rfl;have cy:=(BQ 702 703 (l++aV a (cK k)) (il k) (fun e=>by rw[e]at hsy;cases hsy) (by simp only[List.length_append,List.length_cons,List.length_nil,hsy];omega) rfl rfl rfl).toT;rw[hdn]at cl ⊢;rw[hEa]at ca;rw[hEb]at cb;rw[show l++(aV a (cK k)++il k++aV b (cK k+1))=l++aV a (cK k)++il k++aV b (cK k+1) by simp];generalize aV a (cK k)=ta at *;generalize aV b (cK k+1)=tb at *;cases k
  all_goals
   refine dh ab bk func31 rfl rfl rfl rfl rfl rfl (j0 rfl rfl rfl) ?_;refine kR ?_;refine kI ?_;refine kO ?_;refine kC (cl) ?_;refine kO ?_;refine kY ?_;refine bJ (i:=0) (cs':=ac o1 na1 xs1 nb1 ys1 nm1 n1 cs1) (by decide) (iJ _ _) (Nat.zero_lt_succ 6) rfl rfl rfl rfl rfl rfl rfl rfl ?_;refine kW ?_;refine kC (cl) ?_;refine kZ (ca) ?_;refine b7 underlying93 (by kernel_rfl) (by decide) rfl rfl rfl rfl rfl rfl ?_;refine kW ?_;refine kZ (cy) ?_;refine bJ (i:=1) (cs':=ac o2 na2 xs2 nb2 ys2 nm2 n2 cs2) (by decide) (gZ _ rfl) (Nat.zero_lt_succ 6) rfl rfl rfl rfl rfl rfl rfl rfl ?_;refine kW ?_;refine kQ (cl) ?_;refine kZ (cb) ?_;exact .inl ⟨⟨_,rfl,rfl⟩,⟨rfl,rfl,trivial⟩⟩
theorem mh:∀(e:Ex),jC e→ ∀least:Nat,least≤3→Cq e least
 | .num v u,hf,n,hn=>⟨fun hl=>FZ hn hf hl,fun l hl=>Fy l hn hf hl⟩
 | .nam s,hf,n,hn=>⟨fun hl=>E7 hn hf hl,fun l hl=>Gd l hn hf hl⟩
 | .neg a,hf,n,hn=>⟨fun hl=>F0 hn (mh a hf 3 (by decide)) hl,fun l hl=>FA l hn (mh a hf 3 (by decide)) hl⟩
 | .bin k a b,hf,n,hn=>⟨fun hl=>E1 k (mh a hf.1 _ (by cases k<;>decide)) (mh b hf.2 _ (by cases k<;>decide)) hl,fun l hl=>Fu l k (mh a hf.1 _ (by cases k<;>decide)) (mh b hf.2 _ (by cases k<;>decide)) hl⟩
theorem uV {fid:FuncId} {p:Rx→Bool} (args:List Rx) (hp:∀x∈args,aa Tryz.prog fid [dR x] (.one (dB (p x)))) (hl:args.length≤1000000):aa Tryz.prog 94 [.leaf (.sl args.length (jX args)),dF fid] (.one (dN .i64 (if args.findIdx p<args.length then((args.findIdx p:Nat):Int)else -1))):=by
 have hf:=List.findIdx_le_length (p:=p) (xs:=args)
 have hn:∀(i:Nat) (hi:i<args.length),i<args.findIdx p→p args[i]=false:=fun i hi h=>by
  have:=List.not_of_lt_findIdx h
  simpa using this
 have hy:∀(h:args.findIdx p<args.length),p (args[args.findIdx p])=true:=fun h=>List.findIdx_getElem
 generalize args.findIdx p=f at *;refine kV func94 ?_
 refine bh Nat (fun i=>i≤f) (fun i=>⟨[(0, .d (.leaf (.sl args.length (jX args)))),(1, .d (dF fid)),(4, .d (dN .i64 0)),(7, .d (dN .i64 args.length)),(8, .d (dN .i64 i))],[]⟩) (fun i=>args.length-i) 0 (Nat.zero_le _)
  (weak ⟨rfl,rfl,rfl,rfl,rfl,trivial⟩ trivial rfl) ?_
 intro i hi;refine kI ?_
 by_cases hlt:i<args.length
 ·refine kT ?_
  obtain⟨o1,na1,xs1,nb1,ys1,nm1,n1,cs1,hA⟩:=aS args[i];have hx:args[i]? =some args[i]:=by simp[hlt]
  have hat:∀(j:Nat) (a:AV),(ac o1 na1 xs1 nb1 ys1 nm1 n1 cs1)[j]? =some a→(jX args)[i*7+j]? =some a:=fun j a h=>ks args i args[i] hx j a (by rw[hA];exact h)
  have c:=hp args[i] (List.getElem_mem hlt);rw[show dR args[i]= .agg (ac o1 na1 xs1 nb1 ys1 nm1 n1 cs1) from congrArg DV.agg hA]at c;refine kW ?_;refine bJ (i:=i) (cs':=ac o1 na1 xs1 nb1 ys1 nm1 n1 cs1) hlt hat (Nat.zero_lt_succ 6) rfl rfl rfl rfl rfl rfl rfl rfl ?_;refine kO ?_;cases hb:p args[i]
  ·rw[hb]at c
   refine kQ (c) ?_;refine⟨i+1,?_,by omega,weak ⟨rfl,rfl,rfl,rfl,bd (by omega) (by omega),trivial⟩ trivial rfl⟩
   by_cases e:i=f
   ·subst e;have:=hy hlt;rw[hb]at this;cases this
   ·omega
  ·rw[hb]at c
   have e:i=f:=by
    by_cases e:i<f
    ·have:=hn i hlt e;rw[hb]at this;cases this
    ·omega
   subst e;rw[if_pos hlt];refine kC (c) ?_;exact kF
 ·rw[if_neg (by omega)]
  refine kE ?_;exact kF
theorem gN {fid:FuncId} {p:Rx→Bool} (args:List Rx) (hp:∀x∈args,aa Tryz.prog fid [dR x] (.one (dB (p x)))) (hl:args.length≤1000000) {b:Bool} (hb:args.any p=b):aa Tryz.prog 60 [.leaf (.sl args.length (jX args)),dF fid] (.one (dB b)):=by
 have c:=uV args hp hl
 have hlt:(args.findIdx p<args.length)↔args.any p=true:=by
  rw[List.any_eq_true];exact List.findIdx_lt_length
 cases b with
 |true=>
  rw[if_pos (hlt.2 hb)]at c;refine kV func60 ?_;refine kC (c) ?_;refine kT ?_;exact kF
 |false=>
  rw[if_neg (fun h=>by rw[hlt.1 h]at hb;cases hb)]at c;refine kV func60 ?_;refine kC (c) ?_;exact kF
theorem gu:aa Tryz.prog 59 [EP] (.one (dB true)):=by
 show aa Tryz.prog _ [.agg lZ] _;refine kU func59 ?_;exact kF
theorem gX {x:Rx} {b:Bool} (h:aa Tryz.prog 34 [dR x] (.one (dB b))):aa Tryz.prog 61 [dR x] (.one (dB (!b))):=by
 obtain⟨o1,na1,xs1,nb1,ys1,nm1,n1,cs1,hA⟩:=aS x;rw[show dR x= .agg (ac o1 na1 xs1 nb1 ys1 nm1 n1 cs1) from congrArg DV.agg hA]at h ⊢;cases b
 all_goals
  refine kV func61 ?_;refine kC (h) ?_;exact kF
theorem JP (a:Ex):jX [rx a]=aE a:=by
 show aR (rx a)++[]=_;rw[List.append_nil];rfl
theorem JD (a b:Ex):jX [rx a,rx b]=aE a++aE b:=by
 show aR (rx a)++(aR (rx b)++[])=_;rw[List.append_nil];rfl
theorem iO:∀(e:Ex),jC e→aa Tryz.prog 34 [dE e] (.one (dB true))
 | .num v u,hf=>by
  obtain⟨h1,h2,h3⟩:=hf;obtain⟨t,c,ht⟩:=jB h2 (by decide);rw[h1]at c;show aa Tryz.prog _ [.agg ([.val (.int .i64 1)]++aQ v++[.val (vL u), .sl 0 []])] _
  by_cases hu:u=[]
  ·subst hu
   refine kV func34 ?_;refine b7 (i:=1) underlying95 (by kernel_rfl) (by decide) rfl rfl rfl rfl rfl rfl ?_;refine kW ?_;refine kC (c) ?_;refine kG ?_
   refine kO4 ?_
   refine aj rfl rfl rfl rfl rfl rfl rfl (bC (a:=[]) (b:=[]) rfl) ?_;exact kF
  ·have hn:=h3.resolve_left hu
   have ci:=iQ u (by
    cases u with
    |nil=>exact absurd rfl hu
    |cons c r=>simp only[nj,Bool.and_eq_true,decide_eq_true_eq]at hn;omega)
   rw[hn]at ci;refine kV func34 ?_;refine b7 (i:=1) underlying95 (by kernel_rfl) (by decide) rfl rfl rfl rfl rfl rfl ?_;refine kW ?_;refine kC (c) ?_;refine kG ?_
   refine kO4 ?_
   refine aj rfl rfl rfl rfl rfl rfl rfl (dj (a:=u) (b:=[]) hu) ?_
   refine kO3 ?_
   refine kC (ci) ?_;exact kF
 | .nam s,hf=>by
  have hn:nj s=true:=hf
  have ci:=iQ s (by
   cases s with
   |nil=>cases hn
   |cons c r=>simp only[nj,Bool.and_eq_true,decide_eq_true_eq]at hn;omega)
  rw[hn]at ci;show aa Tryz.prog _ [.agg ([.val (.int .i64 2)]++lZ++[.val (vL s), .sl 0 []])] _;refine kV func34 ?_;refine b7 (i:=2) underlying95 (by kernel_rfl) (by decide) rfl rfl rfl rfl rfl rfl ?_;refine kW ?_;refine kQ (gu) ?_;refine kC (ci) ?_;exact kF
 | .neg a,hf=>by
  have c:=gN (fid:=61) (p:=fun _=>false) [rx a] (fun x hx=>by
   cases List.mem_singleton.1 hx;exact gX (iO a hf)) (by simp) (b:=false) rfl
  rw[JP]at c;obtain⟨o1,na1,xs1,nb1,ys1,nm1,n1,cs1,hA⟩:=aA a;rw[show dE (.neg a)= .agg ([.val (.int .i64 3)]++lZ++[.val (vL []), .sl 1 (aE a)]) from congrArg DV.agg (mJ a)];rw[hA]at c ⊢;refine kV func34 ?_;refine b7 (i:=3) underlying95 (by kernel_rfl) (by decide) rfl rfl rfl rfl rfl rfl ?_;refine kW ?_;refine kC (gu) ?_
  refine kO3 ?_
  refine aj rfl rfl rfl rfl rfl rfl rfl (bC (a:=[]) (b:=[]) rfl) ?_;refine kW ?_;refine kC (c) ?_;exact kF
 | .bin k a b,hf=>by
  have c:=gN (fid:=61) (p:=fun _=>false) [rx a,rx b] (fun x hx=>by
   rcases List.mem_cons.1 hx with rfl|hx
   ·exact gX (iO a hf.1)
   ·cases List.mem_singleton.1 hx
    exact gX (iO b hf.2)) (by simp) (b:=false) rfl
  rw[JD]at c;obtain⟨o1,na1,xs1,nb1,ys1,nm1,n1,cs1,hA⟩:=aA a;obtain⟨o2,na2,xs2,nb2,ys2,nm2,n2,cs2,hA2⟩:=aA b;rw[show dE (.bin k a b)= .agg ([.val (.int .i64 k.code)]++lZ++[.val (vL []), .sl 2 (aE a++aE b)]) from congrArg DV.agg (i7 k a b)];rw[hA,hA2]at c ⊢;cases k
  ·refine kV func34 ?_;refine b7 (i:=4) underlying95 (by kernel_rfl) (by decide) rfl rfl rfl rfl rfl rfl ?_;refine kW ?_;refine kC (gu) ?_
   refine kO3 ?_
   refine aj rfl rfl rfl rfl rfl rfl rfl (bC (a:=[]) (b:=[]) rfl) ?_;refine kW ?_;refine kC (c) ?_;exact kF
  ·refine kV func34 ?_;refine b7 (i:=5) underlying95 (by kernel_rfl) (by decide) rfl rfl rfl rfl rfl rfl ?_;refine kW ?_;refine kC (gu) ?_
   refine kO3 ?_
   refine aj rfl rfl rfl rfl rfl rfl rfl (bC (a:=[]) (b:=[]) rfl) ?_;refine kW ?_;refine kC (c) ?_;exact kF
  ·refine kV func34 ?_;refine b7 (i:=6) underlying95 (by kernel_rfl) (by decide) rfl rfl rfl rfl rfl rfl ?_;refine kW ?_;refine kC (gu) ?_
   refine kO3 ?_
   refine aj rfl rfl rfl rfl rfl rfl rfl (bC (a:=[]) (b:=[]) rfl) ?_;refine kW ?_;refine kC (c) ?_;exact kF
  ·refine kV func34 ?_;refine b7 (i:=7) underlying95 (by kernel_rfl) (by decide) rfl rfl rfl rfl rfl rfl ?_;refine kW ?_;refine kC (gu) ?_
   refine kO3 ?_
   refine aj rfl rfl rfl rfl rfl rfl rfl (bC (a:=[]) (b:=[]) rfl) ?_;refine kW ?_;refine kC (c) ?_;exact kF
theorem zc {e:Ex} (hf:jC e) (hw:oL (rx e)) (hs:jj (rx e)≤1000000) (hd:iT (rx e)≤40):aa Tryz.prog 14 [dE e] (.one (dN .i64 0)):=by
 have c1:=iO e hf;have c2:aa Tryz.prog 24 [dE e] (.one (dN .i64 (iT (rx e)))):=mo (rx e) hw hs;obtain⟨o1,na1,xs1,nb1,ys1,nm1,n1,cs1,hA⟩:=aA e;rw[show dE e= .agg (ac o1 na1 xs1 nb1 ys1 nm1 n1 cs1) from congrArg DV.agg hA]at c1 c2 ⊢;refine kV func14 ?_;refine kQ (c1) ?_;refine kC (c2) ?_;refine kE ?_;exact kF
theorem Ct:∀(e:Ex),jC e→aV e 0≠[]
 | .num v u,hf=>by
  obtain⟨d,hd⟩:=Option.isSome_iff_exists.1 hf.1;show ji 4 0 (yJ v++gH u)≠[];rw[sv,yJ,hd];intro h;exact t6 hd (List.append_eq_nil_iff.1 h).1
 | .nam s,hf=>by
  show ji 4 0 s≠[];rw[sv];intro h;subst h;cases hf
 | .neg a,hf=>by
  show ji 3 0 ([45]++aV a 3)≠[];rw[sv]
  simp
 | .bin k a b,hf=>by
  show ji (cK k) 0 (aV a (cK k)++il k++aV b (cK k+1))≠[];rw[sv];cases k<;>simp[il]
theorem ls {e:Ex} (hf:jC e) (hw:oL (rx e)) (hs:jj (rx e)≤1000000) (hd:iT (rx e)≤40) (hl:(aV e 0).length≤65536):aa Tryz.prog 13 [dE e] (.tup [dL (aV e 0),dN .i64 0]):=by
 have c1:=zc hf hw hs hd;have c2:aC Tryz.prog 31 [.box 850 0, .d (dE e), .d (dN .i64 0)] J5 (.v (.tup [])) (E3 701 (aV e 0)):=((mh e hf 0 (by decide)).w0 (by omega)).swap 950 850 rfl;have c3:=Ie (aV e 0) (by omega);have c4:=At (aV e 0) (Ct e hf);generalize aV e 0=t at *;obtain⟨o1,na1,xs1,nb1,ys1,nm1,n1,cs1,hA⟩:=aA e;rw[show dE e= .agg (ac o1 na1 xs1 nb1 ys1 nm1 n1 cs1) from congrArg DV.agg hA]at c1 c2 ⊢;refine kV func13 ?_;refine kQ (c1) ?_;refine IM wV rfl rfl rfl rfl rfl rfl ?_;refine kW ?_;refine kZ (c2) ?_;refine kD (c3) ?_;refine kY ?_;refine kD (c4) ?_;exact kF
def GR (ts:List Tk):Prop:=∀t∈ts,(t.1=1→nj t.2.1=true)∧(t.1=2→t.2.1.length≤500)
theorem GR.sub {ts r:List Tk} (h:GR ts) (hs:∀t∈r,t∈ts):GR r:=fun t ht=>h t (hs t ht)
theorem FN {t:Tk} {r r2:List Tk} {e:Ex} (ht:t.2.1.length≤500) (hr:GR r) (h:dV t r= .ok (e,r2)):jC e:=by
 unfold dV at h
 split at h
 ·cases h
 ·rename_i q hq
  split at h
  ·cases h
  ·rename_i d hd
   have h1:(eY q).isSome=true:=by rw[hd];rfl
   split at h
   ·rename_i v r'
    split at h
    ·rename_i hv
     cases h;exact⟨h1,ig ht hq, .inr ((hr v (by simp)).1 hv)⟩
    ·cases h;exact⟨h1,ig ht hq, .inl rfl⟩
   ·cases h;exact⟨h1,ig ht hq, .inl rfl⟩
theorem l6:∀(f:Nat) (m:Md) (ts:List Tk) (e:Ex) (r:List Tk),GR ts→(∀two e0,m= .more two e0→jC e0)→pP f m ts=some (.ok (e,r))→jC e
 |0,_,_,_,_,_,_,h=>by cases h
 |f+1, .sum,ts,e,r,hs,hm,h=>by
  rw[fT]at h
  split at h
  ·rename_i e1 r1 h1
   have a:=l6 f _ _ _ _ hs (fun _ _ h=>by cases h) h1;exact l6 f _ _ _ _ (hs.sub (fh f _ _ _ _ h1)) (fun _ _ h=>by cases h;exact a) h
  ·rename_i hn;exact absurd h (hn e r)
 |f+1, .prod,ts,e,r,hs,hm,h=>by
  rw[eI]at h
  split at h
  ·rename_i e1 r1 h1
   have a:=l6 f _ _ _ _ hs (fun _ _ h=>by cases h) h1;exact l6 f _ _ _ _ (hs.sub (fh f _ _ _ _ h1)) (fun _ _ h=>by cases h;exact a) h
  ·rename_i hn;exact absurd h (hn e r)
 |f+1, .more two e0,ts,e,r,hs,hm,h=>by
  rw[cg]at h
  split at h
  ·rename_i k r1 h0
   split at h
   ·rename_i e1 r2 h1
    have hs1:=hs.sub (qM h0);have a:=l6 f _ _ _ _ hs1 (fun _ _ h=>by cases two<;>cases h) h1;exact l6 f _ _ _ _ (hs1.sub (fh f _ _ _ _ h1)) (fun _ _ h=>by cases h;exact⟨hm two e0 rfl,a⟩) h
   ·rename_i hn;exact absurd h (hn e r)
  ·cases h;exact hm two _ rfl
 |f+1, .un,ts,e,r,hs,hm,h=>by
  rw[fX]at h
  split at h
  ·rename_i r1 h0
   split at h
   ·rename_i e1 r2 h1
    cases h;have a:=l6 f .un _ _ _ (hs.sub (fD h0)) (fun _ _ h=>by cases h) h1;exact a
   ·rename_i hn;exact absurd h (hn e r)
  ·exact l6 f .prim _ _ _ hs (fun _ _ h=>by cases h) h
 |f+1, .prim,ts,e,r,hs,hm,h=>by
  rw[dl]at h
  split at h
  ·rename_i r1 h0
   split at h
   ·rename_i e1 r2 h1
    split at h
    ·rename_i r3 h2
     cases h;exact l6 f .sum _ _ _ (hs.sub (fD h0)) (fun _ _ h=>by cases h) h1
    ·cases h
   ·rename_i hn;exact absurd h (hn e r)
  ·split at h
   ·rename_i t r1 _
    split at h
    ·rename_i h2
     injection h with h
     exact FN ((hs t (by simp)).2 h2) (hs.sub (fun t ht=>List.mem_cons_of_mem _ ht)) h
    ·split at h
     ·rename_i h1
      cases h;exact(hs t (by simp)).1 h1
     ·cases h
   ·cases h
theorem BC (p:UInt8→Bool):∀r:List UInt8,aO p (r.take (aO p r))=(r.take (aO p r)).length:=fun r=>by
 rw[ie,Nat.min_self,List.length_take,Nat.min_eq_left (fW p r)]
theorem DS {r:List UInt8} {n:Nat} (h:ga r=(1,n)) (hn:n≤24) (h0:0<n):nj (r.take n)=true:=by
 cases r with
 |nil=>cases h
 |cons c r=>
  rw[ga]at h
  split at h
  ·rename_i hl
   cases h;have hs:=BC fM (c::r);generalize aO fM (c::r)=n at *;obtain⟨n,rfl⟩:∃k,n=k+1:=⟨n-1,by omega⟩;rw[List.take_succ_cons]at hs ⊢;have hlen:(c::r.take n).length≤n+1:=by simp;omega
   simp only[nj,Bool.and_eq_true,decide_eq_true_eq]
   exact⟨by omega,hl,hs⟩
  ·split at h
   ·cases h
   ·split at h
    ·cases h
    ·split at h
     ·cases h
     ·split at h<;>cases h
theorem uZ:∀(f:Nat) (r:List UInt8) (at_:Nat) (acc L:List Tk),cJ f r at_ acc= .ok L→(∀t∈acc,t.1=1→nj t.2.1=true)→ ∀t∈L,t.1=1→nj t.2.1=true
 |0,_,_,_,_,h,_=>by cases h
 |f+1,[],at_,acc,L,h,ha=>by
  rw[cJ]at h;cases h;intro t ht h1;rcases List.mem_append.1 ht with ht|ht
  ·exact ha t ht h1
  ·cases List.mem_singleton.1 ht;cases h1
 |f+1,c::r,at_,acc,L,h,ha=>by
  rw[cJ]at h
  split at h
  ·exact uZ f _ _ _ _ h ha
  ·split at h
   ·cases h
   ·rename_i hn
    split at h
    ·cases h
    ·rename_i hk
     refine uZ f _ _ _ _ h ?_;intro t ht h1;rcases List.mem_append.1 ht with ht|ht
     ·exact ha t ht h1
     ·cases List.mem_singleton.1 ht
      have h1:(ga (c::r)).1=1:=h1
      exact DS (Prod.ext h1 rfl) (by
       by_cases h24:24<(ga (c::r)).2
       ·exact absurd ⟨h1,h24⟩ hk
       ·omega) (by omega)
theorem nG {s:List UInt8} (hl:s.length≤500) {e:Ex} (h:ge s= .ok e):jC e∧oL (rx e)∧jj (rx e)≤501∧iT (rx e)≤40:=by
 have hsp:=gk (s.length+1) s 0 [] (Nat.lt_succ_self _)
 have key:∀(T:List Tk) (b:Int) (E:Nat),GR T→(∀t∈T,t.2.1.length≤65536)→T.length≤501→gg T b E= .ok e→jC e∧oL (rx e)∧jj (rx e)≤501∧iT (rx e)≤40:=fun T b E hN hT hlen hf=>by
  unfold gg at hf
  split at hf
  ·rename_i e1 t r hp
   split at hf
   ·cases hf
   ·split at hf
    ·cases hf
    ·split at hf
     ·rename_i hd
      cases hf;have a:=ij _ _ _ _ _ hT (fun _ _ h=>by cases h) hp;have:=a.2.2;dsimp only at this;exact⟨l6 _ _ _ _ _ hN (fun _ _ h=>by cases h) hp,a.1,by omega,hd⟩
     ·cases hf
  ·cases hf
  ·cases hf
 have hN:∀(u:List UInt8) (T:List Tk) (E:Nat),u.length≤500→cJ (u.length+1) u 0 []= .ok T→GR T∧(∀t∈T,t.2.1.length≤65536)∧T.length≤501:=fun u T E hu hT=>by
  have h1:=gk (u.length+1) u 0 [] (Nat.lt_succ_self _);rw[hT]at h1;obtain⟨T',_,h2,h3⟩:=h1;rw[List.nil_append]at h2;subst h2;have h4:=jw _ _ _ _ _ hT
  simp only[List.length_nil]at h4
  exact⟨fun t ht=>⟨uZ _ _ _ _ _ hT (fun t ht=>by cases ht) t ht,fun _=>Nat.le_trans (h3.s t ht) hu⟩,fun t ht=>Nat.le_trans (h3.s t ht) (by omega),by omega⟩
 unfold ge at h;cases hR:cJ (s.length+1) s 0 []with
 |ok T=>
  rw[hR]at h;obtain⟨h1,h2,h3⟩:=hN s T 0 hl hR;exact key T 0 s.length h1 h2 h3 h
 |error z=>
  obtain⟨a,b⟩:=z;rw[hR]at h;dsimp only at h;cases hR2:cJ ((s.take a).length+1) (s.take a) 0 []with
  |ok T=>
   rw[hR2]at h;obtain⟨h1,h2,h3⟩:=hN (s.take a) T 0 (by rw[List.length_take];omega) hR2;exact key T b a h1 h2 h3 h
  |error z=>rw[hR2]at h;cases h
theorem wL {na nb:Bool} {xs ys:List Nat} (hl:xs.length≤2147483648) (hl':ys.length≤2147483648):aa Tryz.prog 46 [ES na xs nb ys,ES na xs nb ys] (.one (dB true)):=by
 have c1:aa Tryz.prog 79 [dI na xs,dI na xs] (.one (dB true)):=mf hl (nV rfl);have c2:aa Tryz.prog 79 [dI nb ys,dI nb ys] (.one (dB true)):=mf hl' (nV rfl);refine kV func46 ?_;refine kQ (c1) ?_;refine kC (c2) ?_;exact kF
inductive I2:Rx→Prop
 |mk {op:Int} {na:Bool} {xs:List Nat} {nb:Bool} {ys:List Nat} {nm:List UInt8} {args:List Rx}:xs.length≤2147483648→ys.length≤2147483648→args.length≤1000000→(∀x∈args,I2 x)→I2 (.mk op na xs nb ys nm args)
theorem jC.lw:∀(e:Ex),jC e→I2 (rx e)
 | .num v u,h=> .mk (Nat.le_trans h.2.1.1.digs (by decide)) (Nat.le_trans h.2.1.2.digs (by decide)) (by simp) (fun x hx=>by cases hx)
 | .nam s,h=> .mk (by simp) (by simp) (by simp) (fun x hx=>by cases hx)
 | .neg a,h=> .mk (by simp) (by simp) (by simp) (fun x hx=>by cases List.mem_singleton.1 hx;exact jC.lw a h)
 | .bin k a b,h=> .mk (by simp) (by simp) (by simp) (fun x hx=>by
  rcases List.mem_cons.1 hx with rfl|hx
  ·exact jC.lw a h.1
  ·cases List.mem_singleton.1 hx;exact jC.lw b h.2)
theorem fm:∀(x:Rx),I2 x→aa Tryz.prog 18 [dR x,dR x] (.one (dB true)):=by
 refine gM fun op na xs nb ys nm args ih hx=>?_
 obtain⟨h1,h2,h3,h4⟩:=hx;have cs:=wL (na:=na) (nb:=nb) h1 h2;show aa Tryz.prog _ [.agg (ac op na xs nb ys nm args.length (jX args)), .agg (ac op na xs nb ys nm args.length (jX args))] _;refine kU func18 ?_;refine kR ?_;refine kI ?_
 refine kO4 ?_
 refine kB false ?_ ?_
 ·exact(by simp)
 refine kO5 ?_
 refine aj rfl rfl rfl rfl rfl rfl rfl (fV (a:=nm) (b:=nm) rfl) ?_
 iterate 8 refine kO ?_
 refine kB false ?_ ?_
 ·exact(by simp)
 iterate 6 refine kO ?_
 refine kQ (cs) ?_
 refine bh Nat (fun i=>i≤args.length) (fun i=>⟨[(2, .box 0 0),(3, .box 1 0),(4, .d (dB false)),(5, .d (dN .i64 i))],[(0,some (ac op na xs nb ys nm args.length (jX args))),(1,some (ac op na xs nb ys nm args.length (jX args)))]⟩) (fun i=>args.length-i) 0 (Nat.zero_le _)
  (weak ⟨rfl,rfl,rfl,rfl,trivial⟩ ⟨rfl,rfl,trivial⟩ rfl) ?_
 intro i hi;refine kI ?_
 refine kO4 ?_
 by_cases hlt:i<args.length
 ·refine kT ?_
  obtain⟨o1,na1,xs1,nb1,ys1,nm1,n1,cs1,hA⟩:=aS args[i];have hx:args[i]? =some args[i]:=by simp[hlt]
  have hat:∀(j:Nat) (a:AV),(ac o1 na1 xs1 nb1 ys1 nm1 n1 cs1)[j]? =some a→(jX args)[i*7+j]? =some a:=fun j a h=>ks args i args[i] hx j a (by rw[hA];exact h)
  have c:=ih args[i] (List.getElem_mem hlt) (h4 _ (List.getElem_mem hlt));rw[show dR args[i]= .agg (ac o1 na1 xs1 nb1 ys1 nm1 n1 cs1) from congrArg DV.agg hA]at c;refine kW ?_;refine bJ (i:=i) (cs':=ac o1 na1 xs1 nb1 ys1 nm1 n1 cs1) hlt hat (Nat.zero_lt_succ 6) rfl rfl rfl rfl rfl rfl rfl rfl ?_;refine kW ?_;refine bJ (i:=i) (cs':=ac o1 na1 xs1 nb1 ys1 nm1 n1 cs1) hlt hat (Nat.zero_lt_succ 6) rfl rfl rfl rfl rfl rfl rfl rfl ?_;refine kW ?_;refine kQ (c) ?_;exact⟨i+1,hlt,by omega,weak ⟨rfl,rfl,rfl,bd (by omega) (by omega),trivial⟩ ⟨rfl,rfl,trivial⟩ rfl⟩
 ·refine kE ?_
  exact kF
theorem Gw (c:UInt8) (h:di c) (h0:c≠48):iC false [c]:=⟨by simp,fun x hx=>by cases List.mem_singleton.1 hx;exact h, .inl fun x r hr=>by cases hr;exact h0⟩
theorem GW (c:UInt8) (h:di c) (h0:c≠48) (hb:rK c=true):fg [c]=some ((num [c]:Int):Rat):=by
 have e1:eC [c]=[c]:=by simp[eC,hb]
 have e2:iG [c]=[]:=by simp[iG,hb]
 unfold fg;rw[e1,e2,if_pos (Gw c h h0)]
theorem wT (c:UInt8) (h:di c) (h0:c≠48) (hb:rK c=true) (h45:c≠45):bE [c]=some ((num [c]:Int):Rat):=by
 have e3:dG [c]=[c]:=by simp[dG,h45]
 have e4:bV [c]=false:=by simp[bV,h45]
 unfold bE;rw[if_pos (by simp),e3,GW c h h0 hb,e4];rfl
theorem J1:bE [50]=some ((2:Int):Rat):=wT 50 (by decide) (by decide) (by decide) (by decide)
theorem J3:bE [49]=some ((1:Int):Rat):=wT 49 (by decide) (by decide) (by decide) (by decide)
theorem IS:bE [48,48,55]=none:=by
 have e3:dG [48,48,55]=[48,48,55]:=rfl;have e1:eC [48,48,55]=[48,48,55]:=rfl
 have hp:fg [48,48,55]=none:=by
  unfold fg;rw[e1,if_neg];rintro⟨_,_,h|h⟩
  ·exact h 48 [48,55] rfl rfl
  ·cases h.1
 unfold bE;rw[if_pos (by simp),e3,hp]
def yU:Rat:=Rat.divInt 250 100
theorem Jz:bE [50,46,53,48]=some yU:=by
 have e3:dG [50,46,53,48]=[50,46,53,48]:=rfl;have e1:eC [50,46,53,48]=[50]:=rfl;have e2:iG [50,46,53,48]=[46,53,48]:=rfl
 have hp:fg [50,46,53,48]=some yU:=by
  unfold fg;rw[e1,e2,if_pos (Gw 50 (by decide) (by decide))];dsimp only;rw[if_pos rfl,if_pos ⟨by simp,by decide⟩];rfl
 unfold bE;rw[if_pos (by simp),e3,hp];rfl
theorem JI:fmt 2=[50]:=by
 unfold fmt;rw[if_neg (by decide),if_neg (by decide)];show []++lB 2=_;rw[dH (by decide)];show []++(lB 0++[dg 2])=_;rw[dP];rfl
theorem JJ:fmt 1=[49]:=by
 unfold fmt;rw[if_neg (by decide),if_neg (by decide)];show []++lB 1=_;rw[dH (by decide)];show []++(lB 0++[dg 1])=_;rw[dP];rfl
theorem IV:fmt 25=[50,53]:=by
 unfold fmt;rw[if_neg (by decide),if_neg (by decide)];show []++lB 25=_;rw[dH (by decide)];show []++(lB 2++[dg 5])=_;rw[dH (by decide)];show []++(lB 0++[dg 2]++[dg 5])=_;rw[dP];rfl
theorem JY:eY ((2:Int):Rat)=some [50]:=by
 unfold eY;rw[if_neg (by decide),ka,if_pos (by rfl),show(pw ((2:Int):Rat) 0).num=2 from rfl,JI];rfl
theorem J4:eY ((1:Int):Rat)=some [49]:=by
 unfold eY;rw[if_neg (by decide),ka,if_pos (by rfl),show(pw ((1:Int):Rat) 0).num=1 from rfl,JJ];rfl
theorem E9:yU.den=2:=by kernel_rfl
theorem CY:(yU*((10:Int):Rat)).den=1∧(yU*((10:Int):Rat)).num=25:=⟨by kernel_rfl,by kernel_rfl⟩
theorem Iz:eY yU=some [50,46,53]:=by
 have e0:pw yU 0=yU:=rfl;have e1:pw yU 1=yU*((10:Int):Rat):=rfl;unfold eY;rw[if_neg (show ¬Cd yU<0 by show ¬Cd (Rat.divInt 250 100)<0;rw[BD (by decide)];decide),ka,e0,E9,if_neg (by decide),ka,Nat.zero_add,e1,CY.1,CY.2,if_pos (by decide),IV];rfl
theorem Gz:I2 z7:= .mk (by simp) (by simp) (by simp) (fun x hx=>by cases hx)
def sA:List UInt8:=[97,32,45,32,40,98,32,45,32,99,41,32,42,32,50,46,53,48,32,109,109]
def eA:Ex:= .bin .sub (.nam [97]) (.bin .mul (.bin .sub (.nam [98]) (.nam [99])) (.num yU [109,109]))
def TA:List Tk:=[(1,[97],0),(4,[45],2),(4,[40],4),(1,[98],5),(4,[45],7),(1,[99],9),(4,[41],10),(4,[42],12),(2,[50,46,53,48],14),(1,[109,109],19),(0,[],21)]
theorem tA:cJ (sA.length+1) sA 0 []= .ok TA:=by rfl
theorem nA:dV (2,[50,46,53,48],14) [(1,[109,109],19),(0,[],21)]= .ok (.num yU [109,109],[(0,[],21)]):=by
 unfold dV;rw[Jz];dsimp only;rw[Iz];rfl
theorem pA:pP 60 .sum TA=some (.ok (eA,[(0,[],21)])):=by
 simp[fT,eI,fX,dl,cg,aU,dw,gY,ej,nA,TA,eA]
def Jv:List UInt8:=[97,32,43,32]
def TB:List Tk:=[(1,[97],0),(4,[43],2),(0,[],4)]
theorem tB:cJ (Jv.length+1) Jv 0 []= .ok TB:=by rfl
theorem pB:pP 20 .sum TB=some (.error (4,2)):=by
 simp[fT,eI,fX,dl,cg,aU,dw,gY,ej,TB]
def sC:List UInt8:=[50,32,109,109,32,120]
def TC:List Tk:=[(2,[50],0),(1,[109,109],2),(1,[120],5),(0,[],6)]
theorem tC:cJ (sC.length+1) sC 0 []= .ok TC:=by rfl
theorem nC:dV (2,[50],0) [(1,[109,109],2),(1,[120],5),(0,[],6)]= .ok (.num ((2:Int):Rat) [109,109],[(1,[120],5),(0,[],6)]):=by
 unfold dV;rw[J1];dsimp only;rw[JY];rfl
theorem pC:pP 25 .sum TC=some (.ok (.num ((2:Int):Rat) [109,109],[(1,[120],5),(0,[],6)])):=by
 simp[fT,eI,fX,dl,cg,aU,dw,gY,ej,nC,TC]
def sD:List UInt8:=[49,32,43,32,48,48,55]
def TD:List Tk:=[(2,[49],0),(4,[43],2),(2,[48,48,55],4),(0,[],7)]
theorem tD:cJ (sD.length+1) sD 0 []= .ok TD:=by rfl
theorem JZ:dV (2,[49],0) [(4,[43],2),(2,[48,48,55],4),(0,[],7)]= .ok (.num ((1:Int):Rat) [],[(4,[43],2),(2,[48,48,55],4),(0,[],7)]):=by
 unfold dV;rw[J3];dsimp only;rw[J4];rfl
theorem JX:dV (2,[48,48,55],4) [(0,[],7)]= .error (4,2):=by
 unfold dV;rw[IS]
theorem pD:pP 25 .sum TD=some (.error (4,2)):=by
 simp[fT,eI,fX,dl,cg,aU,dw,gY,ej,JZ,JX,TD]
theorem I6:ge sA= .ok eA:=by
 unfold ge;rw[tA];show gg TA 0 21=_;unfold gg;rw[show 5*TA.length+5=60 from rfl,pA];rfl
theorem JQ:ge Jv= .error (4,2):=by
 unfold ge;rw[tB];show gg TB 0 4=_;unfold gg;rw[show 5*TB.length+5=20 from rfl,pB];rfl
theorem JE:ge sC= .error (5,2):=by
 unfold ge;rw[tC];show gg TC 0 6=_;unfold gg;rw[show 5*TC.length+5=25 from rfl,pC];rfl
theorem JS:ge sD= .error (4,2):=by
 unfold ge;rw[tD];show gg TD 0 7=_;unfold gg;rw[show 5*TD.length+5=25 from rfl,pD];rfl
theorem JU:aV eA 0=[97,32,45,32,40,98,32,45,32,99,41,32,42,32,50,46,53,32,109,109]:=by
 have e:yJ yU=[50,46,53]:=by rw[yJ,Iz];rfl
 simp[eA,aV,ji,cK,il,gH,e]
theorem av:aa Tryz.prog 10 [] (.one (dB true)):=by
 have cA:=(j4 sA (by decide)).1;rw[I6]at cA;have cB:=(j4 Jv (by decide)).1;rw[JQ]at cB;have cC:=(j4 sC (by decide)).1;rw[JE]at cC;have cD:=(j4 sD (by decide)).1;rw[JS]at cD;have hA:=nG (s:=sA) (by decide) I6;have cF:=ls hA.1 hA.2.1 (by omega) hA.2.2.2 (by rw[JU];decide);rw[JU]at cF;have cN:=iQ [109,109] (by decide);obtain⟨o1,na1,xs1,nb1,ys1,nm1,n1,cs1,hA1⟩:=aA (.nam [97]);obtain⟨o2,na2,xs2,nb2,ys2,nm2,n2,cs2,hA2⟩:=aA (.bin .mul (.bin .sub (.nam [98]) (.nam [99])) (.num yU [109,109]))
 have ho:o2=6:=by
  have h:=congrArg (fun l:List AV=>l[0]?) hA2
  injection h with h;injection h with h;injection h with _ h;exact h.symm
 subst ho;have hE:dE eA= .agg ([.val (.int .i64 5)]++lZ++[.val (vL []), .sl 2 (ac o1 na1 xs1 nb1 ys1 nm1 n1 cs1++ac 6 na2 xs2 nb2 ys2 nm2 n2 cs2)]):=by rw[← hA1,← hA2];exact congrArg DV.agg (i7 .sub _ _)
 unfold fc at cA cB cC cD;dsimp only at cA cB cC cD;rw[hE]at cA cF;refine kV func10 ?_;refine kQ (cA) ?_;refine kQ (cF) ?_;refine kQ (cB) ?_;refine kQ (cC) ?_;refine kC (cD) ?_;refine kG ?_
 iterate 8 refine kO ?_
 refine aj rfl rfl rfl rfl rfl rfl rfl (bC (a:=[97,32,45,32,40,98,32,45,32,99,41,32,42,32,50,46,53,32,109,109]) (b:=[97,32,45,32,40,98,32,45,32,99,41,32,42,32,50,46,53,32,109,109]) rfl) ?_;refine kW ?_;refine bJ (i:=1) (cs':=ac 6 na2 xs2 nb2 ys2 nm2 n2 cs2) (by decide) (gZ _ rfl) (Nat.zero_lt_succ 6) rfl rfl rfl rfl rfl rfl rfl rfl ?_;refine kW ?_;refine kC (cN) ?_;exact kF
end Go.Proofs.YtikbnnljjeefgaaGreatDoor
