/- ConstraintValid answers true. -/
import Derived.Test.YtnchbpoopnjghaaGreatDoorDZ15
set_option maxHeartbeats 100000000
set_option linter.all false
open Go.Proofs.Tryz
namespace Go.Proofs.YtnchbpoopnjghaaGreatDoor
open Go.RowKit
section
open Go.ChangeShapes Go.WideShapes Go.ChangeAt Go.RowKit Go.Joins
theorem kS {c:Cn} (hw:Ng c) (P:Int) (_: -9223372036854775808<=P/\P<=9223372036854775807) (Q:Int) (_: -9223372036854775808<=Q/\Q<=9223372036854775807):aa Tryz.prog 4 [dC c,dN .i64 P,dN .i64 Q] (.one (dB true)):=by
 refine Dd (av func4 rfl rfl) fun hl=>?_
 have c1:=f3 c hw hl.p hl.q hl.v;cases hb:JC c with
 |false=>
  rw[hb]at c1;obtain⟨k,ps,cs,vs,s⟩:=c;have c1:aa Tryz.prog 16 [.agg (cC k ps cs vs s)] (.one (dB false)):=c1;refine Cq ?_;refine kU func4 ?_;exact Jk
 |true=>
  have hs:=pS hw hb;have c2:=hs.valid P Q;have c3:=hs.rvalid P Q;rw[hb]at c1;obtain⟨z,hz⟩:∃z,vA c P Q=z:=⟨_,rfl⟩;rw[hz]at c2 c3;clear hz hb hs hl hw;obtain⟨k,ps,cs,vs,s⟩:=c;have c1:aa Tryz.prog 16 [.agg (cC k ps cs vs s)] (.one (dB true)):=c1;have c2:aa Tryz.prog 17 [.agg (cC k ps cs vs s),dN .i64 P,dN .i64 Q] (.one (dB z)):=c2;have c3:aa Tryz.prog 18 [.agg (cC k ps cs vs s),dN .i64 P,dN .i64 Q] (.one (dB z)):=c3;refine Cq ?_;cases z
  all_goals
   refine kV func4 ?_;refine kQ (f6) ?_;refine kQ (c1) ?_;refine kQ (c2) ?_;refine kC (c3) ?_;exact kF
set_option maxHeartbeats 100000000
set_option maxRecDepth 100000 in
theorem iW (os:Os) (started:os.Started) (H:Type) (enc:TypeId × Value->H):
 ReturnsInHanded {} Tryz.checked os 4 .any (fun w args=>(Rows.constraintValidSpec.pre enc Tryz.prog Tryz.f4 [] false w args/\laidMetH Tryz.prog Rows.constraintValidRow.laid w)/\sizedMet enc Tryz.prog Tryz.f4 (OpenSpec.ofChange Rows.constraintValidSpec) false w args)
  (Rows.constraintValidSpec.post enc Tryz.prog Tryz.f4 false true false false):=by
 refine eJ (C:=Tryz.checked) (X:=fun w _=>laidMetH Tryz.prog Rows.constraintValidRow.laid w) (fun _ _ _ hh h=>h.of_heap hh) Tryz.own started (by kernel_rfl) func4
  (ChangeSpec.witness_shaped (enc:=enc) (C:=Tryz.checked) (os:=os) (X:=fun w _=>laidMetH Tryz.prog Rows.constraintValidRow.laid w) false (World.laidAll Tryz.prog os Rows.constraintValidRow.laid) #[.agg #[.int .i64 0, .slice none 0 0, .slice none 0 0, .slice none 0 0, .int .i64 0], .int .i64 0, .int .i64 0] 8 (World.laidAll_os _ _ _) (World.shaped_of_ZipB (by kernel_rfl) (by kernel_rfl)) (by kernel_rfl) (by kernel_rfl) (by kernel_rfl)
   (by rw[MakeChecks.laidMetH_plain _ _ _ (by kernel_rfl)];exact laidMet_laidAll _ (by kernel_rfl) (by kernel_rfl))) ?_
 intro W base args ds gs before hval0 hW _ hsh hL _;have htab:cH (fun _=>False) W:=uK (by kernel_rfl) (by unfold Rows.constraintValidRow;simp) (by unfold Rows.constraintValidRow;simp) (by unfold Rows.constraintValidRow;simp) (by unfold Rows.constraintValidRow;simp) (by unfold Rows.constraintValidRow;simp) (nX (by kernel_rfl) (by unfold Rows.constraintValidRow;simp) (by unfold Rows.constraintValidRow;simp) hsh hL) hL;have hval:∀(j:Nat) t v,Tryz.f4.params[j]? =some t->args[j]? =some v->Value.okWide Tryz.prog W .any base t v:=hval0;have hW':=hW;obtain⟨p,q,hA0,hV,rfl,hfz,hnd⟩:=hW;have hA:DataW.TrodAll enc Tryz.prog W 0 (fun _=>true) true Tryz.f4.params.toList args.toList ds p:=hA0;rw[params4]at hA hval;obtain⟨v0,v1,v2,d0,d1,d2,p0,p1,p2,rfl,rfl,rfl,h0,h1,h2⟩:=trodAll_three hA
 obtain⟨x0,a0,w0⟩:=km (hval 0 30 v0 rfl rfl) h0;obtain⟨x1,rfl,rfl,rfl,a1⟩:=open_int underlying3 (hval 1 3 v1 rfl rfl) h1;obtain⟨x2,rfl,rfl,rfl,a2⟩:=open_int underlying3 (hval 2 3 v2 rfl rfl) h2;refine(nB (kS w0 x1 (bounds_i64 a1) x2 (bounds_i64 a2)) htab (vs:=[_,_,_]) ⟨a0,AV.M.val rfl,AV.M.val rfl,trivial⟩).mono fun e W' ⟨he,hB⟩=>?_
 subst he
 exact⟨_,rfl,ri hW' rfl (by kernel_rfl) (by kernel_rfl) (fun ds hl=>by
  match ds,hl with
  | [_,_,_],_=>rfl) hB⟩
theorem kP {a b:Bool} (ha:a=true) (hb:b=true):(a && b)=true:=by rw[ha,hb];rfl
theorem i6:joinedFacts Tryz.pinned.checked.prog 4 Tryz.f4 Rows.constraintValidSpec Rows.constraintValidRow=true:=by
 unfold joinedFacts
 repeat' with_reducible refine kP ?_ ?_
 all_goals as_aux_lemma=>kernel_rfl
theorem constraintValid_holds:Rows.ConstraintValidSaid:=
 OpenClaim.holds_of_wide 4 Tryz.f4 rfl rfl rfl rfl rfl rfl rfl ⟨rfl,rfl,rfl,rfl,rfl⟩ rfl rfl rfl rfl rfl (by kernel_rfl) func4 i6
  (of_decide_eq_true (by kernel_rfl)) (by unfold Func.isWrapper;rw[if_neg (of_decide_eq_false (by kernel_rfl))];exact⟨rfl,rfl⟩)
  (fun os started H enc _=>iW os started H enc)
theorem constraintValid_card:Rows.ConstraintValidCardSaid:=
 Claim7.holds_tied_plain_at .later [] [.data, .data, .data, .data, .sentinel, .sentinel, .data, .data, .data, .data, .pinned] true (true, "25c86bd66589960307155246b8fe43c01520037888ea7c58eed9425ab0b3c4d4") true
  constraintValid_holds (fun _ h=>by cases h) (by as_aux_lemma=>kernel_rfl) (fun _ h=>by cases h) constraintValid_row_tie rfl ⟨rfl,rfl⟩ (by as_aux_lemma=>kernel_rfl) rfl
  (fun f fn hf hfn=>by
   obtain rfl:f=4:=Option.some.inj ((show Tryz.prog.funcNamed "setsquare/setsquarelaw25.ConstraintValid" =some 4 by kernel_rfl).symm.trans hf) |>.symm;obtain rfl:fn=Tryz.f4:=(Option.some.inj (func4.symm.trans hfn)).symm
   exact⟨by as_aux_lemma=>kernel_rfl,fun j t ht=>by
    rw[params4]at ht;have hm:t∈[30,3]:=by simpa using Array.mem_of_getElem? ht
    have hall:([30,3].all fun u=>!Tryz.prog.wantsStandIn u)=true:=by kernel_rfl
    exact(show Tryz.prog.wantsStandIn t=false by simpa using List.all_eq_true.1 hall t hm)⟩)
  (by as_aux_lemma=>kernel_rfl)
end
end Go.Proofs.YtnchbpoopnjghaaGreatDoor
