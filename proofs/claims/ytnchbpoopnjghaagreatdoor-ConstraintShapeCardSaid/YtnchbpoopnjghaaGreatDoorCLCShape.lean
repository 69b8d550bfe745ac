/- ConstraintShape answers true. -/
import Derived.Test.YtnchbpoopnjghaaGreatDoorCZ14
import Derived.Test.YtnchbpoopnjghaaGreatDoorCCP
set_option maxHeartbeats 100000000
set_option linter.all false
open Go.Proofs.Tryz
namespace Go.Proofs.YtnchbpoopnjghaaGreatDoor
open Go.RowKit
section
open Go.ChangeShapes Go.WideShapes Go.ChangeAt Go.RowKit Go.Joins
theorem TH (k:Int) (_: -9223372036854775808<=k/\k<=9223372036854775807):aa Tryz.prog 9 [dN .i64 k] (.one (dB true)):=by
 have c1:=mP k;have c2:=TL k;have c3:=tX k;have c4:=TK k;have c5:=TJ k;have hn:= @T7 k;cases hk:nh k with
 |none=>
  rw[hk]at c1 c2 c3;have c1:aa Tryz.prog 30 [dN .i64 k] (.tup [.agg ((T8 0 0 0 0 false false false).map .val),dB false]):=c1;have c2:aa Tryz.prog 31 [dN .i64 k] (.tup [.agg T9,dB false]):=c2;have c3:aa Tryz.prog 14 [dN .i64 k] (.one (dL [])):=c3;clear hn hk;generalize T0 k=z at *;cases z
  all_goals
   refine kV func9 ?_;refine kQ (fX) ?_;refine kQ (c1) ?_;refine kC (c2) ?_;refine kG ?_
   refine kO5 ?_
   refine kC (c3) ?_
   refine kO2 ?_
   refine aD rfl rfl rfl rfl rfl rfl rfl (jH (a:=[]) (b:=[]) rfl) ?_
   refine kO3 ?_
   refine kC (c4) ?_;refine kO ?_;refine kC (c5) ?_
   iterate 2 refine kG ?_
   refine kO2 ?_
   refine TN (us:=T8 0 0 0 0 false false false) TU TY TW (TX 0 0 0 0 false false false) rfl rfl rfl rfl rfl rfl ?_;exact kF
 |some r=>
  rw[hk]at c1 c2 c3;obtain⟨hn,_⟩:=hn hk;have hk1:=(xn hk).1;clear hk;obtain⟨nm,p,c,n,v,q,s⟩:=r;have c6:=tO nm;rw[show yU nm=k from hn]at c6;unfold PG at c6;rw[decide_eq_true (show k≠0 by omega)]at c6;clear hn;generalize T0 k=z at *;obtain⟨b1,hb1⟩:∃b,(Nat.beq v 1 || Nat.beq v 2)=b:=⟨_,rfl⟩;obtain⟨b2,hb2⟩:∃b,Nat.beq v 2=b:=⟨_,rfl⟩;have c1:aa Tryz.prog 30 [dN .i64 k] (.tup [.agg ((T8 p c n q s b1 b2).map .val),dB true]):=by rw[<- hb1,<- hb2];exact c1
  have c2:aa Tryz.prog 31 [dN .i64 k] (.tup [.agg [.val (vL nm), .val (.int .i64 p), .val (.int .i64 c), .val (.int .i64 n), .val (.int .i64 v), .val (.int .i64 q), .val (.bool s)],dB true]):=c2;have c3:aa Tryz.prog 14 [dN .i64 k] (.one (dL nm)):=c3
  have hv:(v=1/\b1=true/\b2=false)∨(v=2/\b1=true/\b2=true)∨(v≠1/\v≠2/\b1=false/\b2=false):=by
   by_cases h1:v=1
   ·exact .inl ⟨h1,by rw[<- hb1,h1];rfl,by rw[<- hb2,h1];rfl⟩
   ·by_cases h2:v=2
    ·exact .inr (.inl ⟨h2,by rw[<- hb1,h2];rfl,by rw[<- hb2,h2];rfl⟩)
    ·have g1:Nat.beq v 1=false:=by
      cases h:Nat.beq v 1 with
      |false=>rfl
      |true=>exact absurd (Nat.eq_of_beq_eq_true h) h1
     have g2:Nat.beq v 2=false:=by
      cases h:Nat.beq v 2 with
      |false=>rfl
      |true=>exact absurd (Nat.eq_of_beq_eq_true h) h2
     exact .inr (.inr ⟨h1,h2,by rw[<- hb1,g1,g2];rfl,by rw[<- hb2,g2]⟩)
  clear hb1 hb2;rcases hv with⟨h1,rfl,rfl⟩| ⟨h2,rfl,rfl⟩| ⟨h1,h2,rfl,rfl⟩
  all_goals
   refine kV func9 ?_;refine kQ (fX) ?_;refine kQ (c1) ?_;refine kC (c2) ?_;refine kG ?_
   refine kO5 ?_
   refine kC (c3) ?_
   refine kO2 ?_
   refine aD rfl rfl rfl rfl rfl rfl rfl (jH (a:=nm) (b:=nm) rfl) ?_
   refine kO3 ?_
   refine kC (c4) ?_;refine kO ?_;refine kC (c5) ?_;refine kB false ?_ ?_
   ·exact(by simp)
   iterate 2 refine kG ?_
   refine kO2 ?_
   refine kC (c6) ?_;refine kG ?_
   refine kO4 ?_
   refine kB true ?_ ?_
   ·exact decide_eq_true rfl
   iterate 15 refine kO ?_
  ·refine kT ?_
   iterate 7 refine kO ?_
   refine kE ?_;refine kO ?_;refine TN (us:=T8 p c n q s true false) TU TY TW (TX p c n q s true false) rfl rfl rfl rfl rfl rfl ?_;exact ar
  ·refine kE ?_
   refine SJ ?_;refine kT ?_;refine kO ?_;refine TN (us:=T8 p c n q s true true) TU TY TW (TX p c n q s true true) rfl rfl rfl rfl rfl rfl ?_;exact ar
  ·refine kE ?_
   refine kO3 ?_
   refine kE ?_
   refine kO3 ?_
   refine kE ?_;refine kO ?_;refine TN (us:=T8 p c n q s false false) TU TY TW (TX p c n q s false false) rfl rfl rfl rfl rfl rfl ?_;exact ar
set_option maxHeartbeats 100000000
set_option maxRecDepth 100000 in
theorem TF (os:Os) (started:os.Started) (H:Type) (enc:TypeId × Value->H):
 ReturnsInHanded {} Tryz.checked os 9 .any (fun w args=>(Rows.constraintShapeSpec.pre enc Tryz.prog Tryz.f9 [] false w args/\laidMetH Tryz.prog Rows.constraintShapeRow.laid w)/\sizedMet enc Tryz.prog Tryz.f9 (OpenSpec.ofChange Rows.constraintShapeSpec) false w args)
  (Rows.constraintShapeSpec.post enc Tryz.prog Tryz.f9 false true false false):=by
 refine dw (C:=Tryz.checked) (X:=fun w _=>laidMetH Tryz.prog Rows.constraintShapeRow.laid w) (fun _ _ _ hh h=>h.of_heap hh) Tryz.own started (by kernel_rfl) func9
  (ChangeSpec.witness_shaped (enc:=enc) (C:=Tryz.checked) (os:=os) (X:=fun w _=>laidMetH Tryz.prog Rows.constraintShapeRow.laid w) false (World.laidAll Tryz.prog os Rows.constraintShapeRow.laid) #[.int .i64 0] 8 (World.laidAll_os _ _ _) (World.shaped_of_ZipB (by kernel_rfl) (by kernel_rfl)) (by kernel_rfl) (by kernel_rfl) (by kernel_rfl)
   (by rw[MakeChecks.laidMetH_plain _ _ _ (by kernel_rfl)];exact laidMet_laidAll _ (by kernel_rfl) (by kernel_rfl))) ?_
 intro W base args ds gs before hval0 hW _ hsh hL _;have htab:bP (fun _=>False) W:=pk (by kernel_rfl) (by unfold Rows.constraintShapeRow;simp) (by unfold Rows.constraintShapeRow;simp) (by unfold Rows.constraintShapeRow;simp) (by unfold Rows.constraintShapeRow;simp) (by unfold Rows.constraintShapeRow;simp) (ka (by kernel_rfl) (by unfold Rows.constraintShapeRow;simp) (by unfold Rows.constraintShapeRow;simp) hsh hL) hL;have hval:∀(j:Nat) t v,Tryz.f9.params[j]? =some t->args[j]? =some v->Value.okWide Tryz.prog W .any base t v:=hval0;have hW':=hW;obtain⟨p,q,hA0,hV,rfl,hfz,hnd⟩:=hW;have hA:DataW.TrodAll enc Tryz.prog W 0 (fun _=>true) true Tryz.f9.params.toList args.toList ds p:=hA0;rw[params9]at hA hval;obtain⟨v0,d0,rfl,rfl,h0⟩:=trodAll_one hA
 obtain⟨x0,rfl,rfl,rfl,a0⟩:=open_int underlying3 (hval 0 3 v0 rfl rfl) h0;refine(kz (TH x0 (bounds_i64 a0)) htab (vs:=[_]) ⟨AV.M.val rfl,trivial⟩).mono fun e W' ⟨he,hB⟩=>?_
 subst he
 exact⟨_,rfl,mY hW' rfl (by kernel_rfl) (by kernel_rfl) (fun ds hl=>by
  match ds,hl with
  | [_],_=>rfl) hB⟩
theorem TI {a b:Bool} (ha:a=true) (hb:b=true):(a && b)=true:=by rw[ha,hb];rfl
theorem TG:joinedFacts Tryz.pinned.checked.prog 9 Tryz.f9 Rows.constraintShapeSpec Rows.constraintShapeRow=true:=by
 unfold joinedFacts
 repeat' with_reducible refine TI ?_ ?_
 all_goals as_aux_lemma=>kernel_rfl
theorem constraintShape_holds:Rows.ConstraintShapeSaid:=
 OpenClaim.holds_of_wide 9 Tryz.f9 rfl rfl rfl rfl rfl rfl rfl ⟨rfl,rfl,rfl,rfl,rfl⟩ rfl rfl rfl rfl rfl (by kernel_rfl) func9 TG
  (of_decide_eq_true (by kernel_rfl)) (by unfold Func.isWrapper;rw[if_neg (of_decide_eq_false (by kernel_rfl))];exact⟨rfl,rfl⟩)
  (fun os started H enc _=>TF os started H enc)
theorem constraintShape_card:Rows.ConstraintShapeCardSaid:=
 Claim7.holds_tied_plain_at .later [] [.data, .data, .data, .data, .sentinel, .sentinel, .data, .data, .data, .data, .pinned] true (true, "25c86bd66589960307155246b8fe43c01520037888ea7c58eed9425ab0b3c4d4") true
  constraintShape_holds (fun _ h=>by cases h) (by as_aux_lemma=>kernel_rfl) (fun _ h=>by cases h) constraintShape_row_tie rfl ⟨rfl,rfl⟩ (by as_aux_lemma=>kernel_rfl) rfl
  (fun f fn hf hfn=>by
   obtain rfl:f=9:=Option.some.inj ((show Tryz.prog.funcNamed "setsquare/setsquarelaw25.ConstraintShape" =some 9 by kernel_rfl).symm.trans hf) |>.symm;obtain rfl:fn=Tryz.f9:=(Option.some.inj (func9.symm.trans hfn)).symm
   exact⟨by as_aux_lemma=>kernel_rfl,fun j t ht=>by
    rw[params9]at ht;have hm:t∈[3]:=by simpa using Array.mem_of_getElem? ht
    have hall:([3].all fun u=>!Tryz.prog.wantsStandIn u)=true:=by kernel_rfl
    exact(show Tryz.prog.wantsStandIn t=false by simpa using List.all_eq_true.1 hall t hm)⟩)
  (by as_aux_lemma=>kernel_rfl)
end
end Go.Proofs.YtnchbpoopnjghaaGreatDoor
