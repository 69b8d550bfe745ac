/- FormulaReturns answers true. -/
import Derived.Test.YtikbnnljjeefgaaGreatDoorXZ13
import Derived.ChangeMaps5
set_option maxHeartbeats 100000000
set_option linter.all false
open Go.Proofs.Tryz
namespace Go.Proofs.YtikbnnljjeefgaaGreatDoor
open Go.RowKit
section
open Go.ChangeShapes Go.WideShapes Go.ChangeAt Go.RowKit Go.Joins
open Go.ChangeMaps (open_string)
theorem mt (s:ByteArray):aa Tryz.prog 6 [dS s] (.one (dB true)):=by
 obtain⟨l,rfl⟩:∃l,Bs l=s:=⟨_,wq s⟩;show aa Tryz.prog _ [dL l] _;have hsz:=au l
 by_cases h:l.length > 500
 ·refine kV func6 ?_;refine kC (av) ?_
  refine kO4 ?_
  refine kX ?_;refine kC (av) ?_;exact kF
 ·obtain⟨c1,_⟩:=j4 l (by omega)
  cases hp:ge l with
  |ok e=>
   rw[hp]at c1;obtain⟨hf,hw,hs,hd⟩:=nG (by omega) hp;obtain⟨cF,cP,cV,ce⟩:=Am hf hw (by omega) hd;obtain⟨o1,na1,xs1,nb1,ys1,nm1,n1,cs1,hA⟩:=aA e;unfold fc at c1;dsimp only at c1;generalize aV e 0=t at *;rw[show dE e= .agg (ac o1 na1 xs1 nb1 ys1 nm1 n1 cs1) from congrArg DV.agg hA]at c1 cF cP cV ce;refine kV func6 ?_;refine kC (av) ?_
   refine kO4 ?_
   refine kY ?_;refine kQ (c1) ?_;refine kQ (cF) ?_;refine kQ (cP) ?_;refine kQ (cV) ?_;refine kC (ce) ?_;exact kF
  |error z=>
   obtain⟨p,c⟩:=z;rw[hp]at c1;have hc:c≠0:=tR (by omega) hp;have ce:aa Tryz.prog 18 [dR z7,dR z7] (.one (dB true)):=fm z7 Gz;unfold fc at c1;dsimp only at c1;refine kV func6 ?_;refine kC (av) ?_
   refine kO4 ?_
   refine kY ?_;refine kC (c1) ?_;refine kG ?_;refine kO ?_;refine kB true ?_ ?_
   ·exact(by simp[hc])
   refine kW ?_;refine kC (ce) ?_;exact kF
set_option maxRecDepth 100000 in
theorem kg (os:Os) (started:os.Started) (H:Type) (enc:TypeId × Value→H):
 ReturnsInHanded {} Tryz.checked os 6 .any (fun w args=>(Rows.formulaReturnsSpec.pre enc Tryz.prog Tryz.f6 [] false w args∧laidMetH Tryz.prog Rows.formulaReturnsRow.laid w)∧sizedMet enc Tryz.prog Tryz.f6 (OpenSpec.ofChange Rows.formulaReturnsSpec) false w args)
  (Rows.formulaReturnsSpec.post enc Tryz.prog Tryz.f6 false true false false):=by
 refine returnsInHanded_of_change_and (C:=Tryz.checked) (X:=fun w _=>laidMetH Tryz.prog Rows.formulaReturnsRow.laid w) (fun _ _ _ hh h=>h.of_heap hh) Tryz.own started (by kernel_rfl) func6
  (ChangeSpec.witness_shaped (enc:=enc) (C:=Tryz.checked) (os:=os) (X:=fun w _=>laidMetH Tryz.prog Rows.formulaReturnsRow.laid w) false (World.laidAll Tryz.prog os Rows.formulaReturnsRow.laid) #[.string ByteArray.empty] 8 (World.laidAll_os _ _ _) (World.shaped_of_ZipB (by kernel_rfl) (by kernel_rfl)) (by kernel_rfl) (by kernel_rfl) (by kernel_rfl)
   (by rw[MakeChecks.laidMetH_plain _ _ _ (by kernel_rfl)];exact laidMet_laidAll _ (by kernel_rfl) (by kernel_rfl))) ?_
 intro W base args ds gs before hval0 hW _ _ hL _;have htab:da (fun _=>False) W:=nv (by kernel_rfl) (by unfold Rows.formulaReturnsRow;simp) (by unfold Rows.formulaReturnsRow;simp) (by unfold Rows.formulaReturnsRow;simp) hL;have hval:∀(j:Nat) t v,Tryz.f6.params[j]? =some t→args[j]? =some v→Value.okWide Tryz.prog W .any base t v:=hval0;have hW':=hW;obtain⟨p,q,hA0,hV,rfl,hfz,hnd⟩:=hW;have hA:DataW.TrodAll enc Tryz.prog W 0 (fun _=>true) true Tryz.f6.params.toList args.toList ds p:=hA0;rw[params6]at hA hval;obtain⟨v0,d0,rfl,rfl,h0⟩:=trodAll_one hA;obtain⟨x0,rfl,rfl,rfl,b0⟩:=open_string underlying9 (hval 0 9 v0 rfl rfl) h0;refine(js (mt x0) htab (vs:=[_]) ⟨AV.M.val rfl,trivial⟩).mono fun e W' ⟨he,hB⟩=>?_
 subst he
 exact⟨_,rfl,lc hW' rfl (by kernel_rfl) (by kernel_rfl) (fun ds hl=>by
  match ds,hl with
  | [_],_=>rfl) hB⟩
theorem formulaReturns_holds:Rows.FormulaReturnsSaid:=
 OpenClaim.holds_of_wide 6 Tryz.f6 rfl rfl rfl rfl rfl rfl rfl ⟨rfl,rfl,rfl,rfl,rfl⟩ rfl rfl rfl rfl rfl (by kernel_rfl) func6 (by kernel_rfl)
  (of_decide_eq_true (by kernel_rfl)) (by unfold Func.isWrapper;rw[if_neg (of_decide_eq_false (by kernel_rfl))];exact⟨rfl,rfl⟩)
  (fun os started H enc _=>kg os started H enc)
theorem formulaReturns_card:Rows.FormulaReturnsCardSaid:=
 Claim7.holds_tied_plain_at .later [] [.data, .data, .data, .data, .data, .data, .pinned] true (true, "ce971bfd6a61219f487c5e41344583d2d50e39ba8e1549497b15fe78bb6ab68d") false
  formulaReturns_holds (fun _ h=>by cases h) (by kernel_rfl) (fun _ h=>by cases h) formulaReturns_row_tie rfl ⟨rfl,rfl⟩ (by kernel_rfl) rfl
  (fun f fn hf hfn=>by
   obtain rfl:f=6:=Option.some.inj ((show Tryz.prog.funcNamed "setsquare/setsquarelaw22.FormulaReturns" =some 6 by kernel_rfl).symm.trans hf) |>.symm;obtain rfl:fn=Tryz.f6:=(Option.some.inj (func6.symm.trans hfn)).symm
   exact⟨by kernel_rfl,fun j t ht=>by
    rw[params6]at ht;have hm:t∈[9]:=by simpa using Array.mem_of_getElem? ht
    have hall:([9].all fun u=>!Tryz.prog.wantsStandIn u)=true:=by kernel_rfl
    exact(show Tryz.prog.wantsStandIn t=false by simpa using List.all_eq_true.1 hall t hm)⟩)
  (by kernel_rfl)
end
end Go.Proofs.YtikbnnljjeefgaaGreatDoor
