/- ConstraintKind answers true. -/
import Derived.Test.YtnchbpoopnjghaaGreatDoorCZ13
set_option maxHeartbeats 100000000
set_option linter.all false
open Go.Proofs.Tryz
namespace Go.Proofs.YtnchbpoopnjghaaGreatDoor
open Go.RowKit
section
open Go.ChangeShapes Go.WideShapes Go.ChangeAt Go.RowKit Go.Joins
open Go.ChangeMaps (open_string)
theorem NZ:(ko.all fun r=>o0 r.nm)=true:=by decide
theorem O1 {s:L8} (h:yU s≠0):∃r,nh (yU s)=some r/\r.nm=s/\o0 r.nm=true:=by
 unfold yU at h ⊢
 by_cases hf:ko.findIdx (fun r=>decide (r.nm=s))<17
 ·rw[if_pos hf]
  unfold nh;rw[if_pos (by omega)];have hg:=List.findIdx_getElem (xs:=ko) (p:=fun r=>decide (r.nm=s)) (w:=hf);generalize ko.findIdx (fun r=>decide (r.nm=s))=f at *;have hf':f<ko.length:=hf
  refine⟨ko[f],?_,of_decide_eq_true hg,List.all_eq_true.1 NZ _ (List.getElem_mem _)⟩;rw[show((f:Int)+1).toNat-1=f by omega];exact List.getElem?_eq_getElem _
 ·rw[if_neg hf]at h
  exact absurd rfl h
theorem lU (s:L8):aa Tryz.prog 3 [dL s] (.one (dB true)):=by
 have hB:=aw s
 by_cases hl:s.length<=100
 ·have cK:=tO s
  have cR:=wO s;have cN:=tX (yU s);have cI:=eD s (by omega)
  have hk:yU s≠0->SR (nh (yU s))=s/\o0 s=true:=fun h=>by
   obtain⟨r,h1,h2,h3⟩:=O1 h;rw[h1,<- h2];exact⟨rfl,h3⟩
  unfold PG at cK cR;generalize yU s=k at *;generalize SR (nh k)=nn at *
  by_cases h0:k=0
  ·rw[decide_eq_false (fun h=>h h0)]at cK cR
   subst h0;refine kU func3 ?_;refine sU ?_
   refine kO4 ?_
   refine kY ?_;refine kQ (cK) ?_;refine kC (cR) ?_;exact ar
  ·rw[decide_eq_true h0]at cK cR
   obtain⟨rfl,h2⟩:=hk h0;rw[h2]at cI;refine kU func3 ?_;refine sU ?_
   refine kO4 ?_
   refine kY ?_;refine kQ (cK) ?_;refine kC (cR) ?_;refine kG ?_
   refine kO2 ?_
   refine kB true ?_ ?_
   ·exact decide_eq_true rfl
   refine kW ?_;refine kC (cN) ?_;refine kO ?_;refine aD rfl rfl rfl rfl rfl rfl rfl (bf (a:=nn) (b:=nn) rfl) ?_;refine kW ?_;refine kC (cI) ?_;exact ar
 ·refine kU func3 ?_
  refine sU ?_
  refine kO4 ?_
  refine kT ?_;refine sU ?_;exact ar
theorem lI (s:ByteArray):aa Tryz.prog 3 [dS s] (.one (dB true)):=lU s.data.toList
set_option maxHeartbeats 100000000
set_option maxRecDepth 100000 in
theorem ju (os:Os) (started:os.Started) (H:Type) (enc:TypeId × Value->H):
 ReturnsInHanded {} Tryz.checked os 3 .any (fun w args=>(Rows.constraintKindSpec.pre enc Tryz.prog Tryz.f3 [] false w args/\laidMetH Tryz.prog Rows.constraintKindRow.laid w)/\sizedMet enc Tryz.prog Tryz.f3 (OpenSpec.ofChange Rows.constraintKindSpec) false w args)
  (Rows.constraintKindSpec.post enc Tryz.prog Tryz.f3 false true false false):=by
 refine dw (C:=Tryz.checked) (X:=fun w _=>laidMetH Tryz.prog Rows.constraintKindRow.laid w) (fun _ _ _ hh h=>h.of_heap hh) Tryz.own started (by kernel_rfl) func3
  (ChangeSpec.witness_shaped (enc:=enc) (C:=Tryz.checked) (os:=os) (X:=fun w _=>laidMetH Tryz.prog Rows.constraintKindRow.laid w) false (World.laidAll Tryz.prog os Rows.constraintKindRow.laid) #[.string ByteArray.empty] 8 (World.laidAll_os _ _ _) (World.shaped_of_ZipB (by kernel_rfl) (by kernel_rfl)) (by kernel_rfl) (by kernel_rfl) (by kernel_rfl)
   (by rw[MakeChecks.laidMetH_plain _ _ _ (by kernel_rfl)];exact laidMet_laidAll _ (by kernel_rfl) (by kernel_rfl))) ?_
 intro W base args ds gs before hval0 hW _ hsh hL _;have htab:bP (fun _=>False) W:=pk (by kernel_rfl) (by unfold Rows.constraintKindRow;simp) (by unfold Rows.constraintKindRow;simp) (by unfold Rows.constraintKindRow;simp) (by unfold Rows.constraintKindRow;simp) (by unfold Rows.constraintKindRow;simp) (ka (by kernel_rfl) (by unfold Rows.constraintKindRow;simp) (by unfold Rows.constraintKindRow;simp) hsh hL) hL;have hval:∀(j:Nat) t v,Tryz.f3.params[j]? =some t->args[j]? =some v->Value.okWide Tryz.prog W .any base t v:=hval0;have hW':=hW;obtain⟨p,q,hA0,hV,rfl,hfz,hnd⟩:=hW;have hA:DataW.TrodAll enc Tryz.prog W 0 (fun _=>true) true Tryz.f3.params.toList args.toList ds p:=hA0;rw[params3]at hA hval;obtain⟨v0,d0,rfl,rfl,h0⟩:=trodAll_one hA
 obtain⟨x0,rfl,rfl,rfl,b0⟩:=open_string underlying9 (hval 0 9 v0 rfl rfl) h0;refine(kz (lI x0) htab (vs:=[_]) ⟨AV.M.val rfl,trivial⟩).mono fun e W' ⟨he,hB⟩=>?_
 subst he
 exact⟨_,rfl,mY hW' rfl (by kernel_rfl) (by kernel_rfl) (fun ds hl=>by
  match ds,hl with
  | [_],_=>rfl) hB⟩
theorem lN {a b:Bool} (ha:a=true) (hb:b=true):(a && b)=true:=by rw[ha,hb];rfl
theorem js:joinedFacts Tryz.pinned.checked.prog 3 Tryz.f3 Rows.constraintKindSpec Rows.constraintKindRow=true:=by
 unfold joinedFacts
 repeat' with_reducible refine lN ?_ ?_
 all_goals as_aux_lemma=>kernel_rfl
theorem constraintKind_holds:Rows.ConstraintKindSaid:=
 OpenClaim.holds_of_wide 3 Tryz.f3 rfl rfl rfl rfl rfl rfl rfl ⟨rfl,rfl,rfl,rfl,rfl⟩ rfl rfl rfl rfl rfl (by kernel_rfl) func3 js
  (of_decide_eq_true (by kernel_rfl)) (by unfold Func.isWrapper;rw[if_neg (of_decide_eq_false (by kernel_rfl))];exact⟨rfl,rfl⟩)
  (fun os started H enc _=>ju os started H enc)
theorem constraintKind_card:Rows.ConstraintKindCardSaid:=
 Claim7.holds_tied_plain_at .later [] [.data, .data, .data, .data, .sentinel, .sentinel, .data, .data, .data, .data, .pinned] true (true, "25c86bd66589960307155246b8fe43c01520037888ea7c58eed9425ab0b3c4d4") true
  constraintKind_holds (fun _ h=>by cases h) (by as_aux_lemma=>kernel_rfl) (fun _ h=>by cases h) constraintKind_row_tie rfl ⟨rfl,rfl⟩ (by as_aux_lemma=>kernel_rfl) rfl
  (fun f fn hf hfn=>by
   obtain rfl:f=3:=Option.some.inj ((show Tryz.prog.funcNamed "setsquare/setsquarelaw25.ConstraintKind" =some 3 by kernel_rfl).symm.trans hf) |>.symm;obtain rfl:fn=Tryz.f3:=(Option.some.inj (func3.symm.trans hfn)).symm
   exact⟨by as_aux_lemma=>kernel_rfl,fun j t ht=>by
    rw[params3]at ht;have hm:t∈[9]:=by simpa using Array.mem_of_getElem? ht
    have hall:([9].all fun u=>!Tryz.prog.wantsStandIn u)=true:=by kernel_rfl
    exact(show Tryz.prog.wantsStandIn t=false by simpa using List.all_eq_true.1 hall t hm)⟩)
  (by as_aux_lemma=>kernel_rfl)
end
end Go.Proofs.YtnchbpoopnjghaaGreatDoor
