/- FormulaParse answers true. -/
import Derived.Test.YtikbnnljjeefgaaGreatDoorXZ12
import Derived.ChangeMaps5
set_option maxHeartbeats 100000000
set_option linter.all false
open Go.Proofs.Tryz
namespace Go.Proofs.YtikbnnljjeefgaaGreatDoor
open Go.RowKit
section
open Go.ChangeShapes Go.WideShapes Go.ChangeAt Go.RowKit Go.Joins
open Go.ChangeMaps (open_string)
theorem oz (s:ByteArray):aa Tryz.prog 4 [dS s] (.one (dB true)):=by
 obtain⟨l,rfl⟩:∃l,Bs l=s:=⟨_,wq s⟩;show aa Tryz.prog _ [dL l] _;have hsz:=au l
 by_cases h:l.length > 500
 ·refine kV func4 ?_;refine kC (av) ?_
  refine kO4 ?_
  refine kX ?_;refine kC (av) ?_;exact kF
 ·obtain⟨c1,c2⟩:=j4 l (by omega)
  cases hp:ge l with
  |ok e=>
   rw[hp]at c1 c2;have ce:aa Tryz.prog 18 [dE e,dE e] (.one (dB true)):=fm (rx e) (jC.lw e (nG (by omega) hp).1);obtain⟨o1,na1,xs1,nb1,ys1,nm1,n1,cs1,hA⟩:=aA e;unfold fc at c1 c2;dsimp only at c1 c2;rw[show dE e= .agg (ac o1 na1 xs1 nb1 ys1 nm1 n1 cs1) from congrArg DV.agg hA]at c1 c2 ce;refine kV func4 ?_;refine kC (av) ?_
   refine kO4 ?_
   refine kY ?_;refine kQ (c1) ?_;refine kQ (c2) ?_;refine kC (ce) ?_;exact kF
  |error z=>
   obtain⟨p,c⟩:=z;rw[hp]at c1 c2;have ce:aa Tryz.prog 18 [dR z7,dR z7] (.one (dB true)):=fm z7 Gz;unfold fc at c1 c2;dsimp only at c1 c2;refine kV func4 ?_;refine kC (av) ?_
   refine kO4 ?_
   refine kY ?_;refine kQ (c1) ?_;refine kQ (c2) ?_;refine kC (ce) ?_
   refine kO3 ?_
   refine kB true ?_ ?_
   ·exact decide_eq_true rfl
   refine kO4 ?_
   refine kB true ?_ ?_
   ·exact decide_eq_true rfl
   exact kF
set_option maxRecDepth 100000 in
theorem lW (os:Os) (started:os.Started) (H:Type) (enc:TypeId × Value→H):
 ReturnsInHanded {} Tryz.checked os 4 .any (fun w args=>(Rows.formulaParseSpec.pre enc Tryz.prog Tryz.f4 [] false w args∧laidMetH Tryz.prog Rows.formulaParseRow.laid w)∧sizedMet enc Tryz.prog Tryz.f4 (OpenSpec.ofChange Rows.formulaParseSpec) false w args)
  (Rows.formulaParseSpec.post enc Tryz.prog Tryz.f4 false true false false):=by
 refine returnsInHanded_of_change_and (C:=Tryz.checked) (X:=fun w _=>laidMetH Tryz.prog Rows.formulaParseRow.laid w) (fun _ _ _ hh h=>h.of_heap hh) Tryz.own started (by kernel_rfl) func4
  (ChangeSpec.witness_shaped (enc:=enc) (C:=Tryz.checked) (os:=os) (X:=fun w _=>laidMetH Tryz.prog Rows.formulaParseRow.laid w) false (World.laidAll Tryz.prog os Rows.formulaParseRow.laid) #[.string ByteArray.empty] 8 (World.laidAll_os _ _ _) (World.shaped_of_ZipB (by kernel_rfl) (by kernel_rfl)) (by kernel_rfl) (by kernel_rfl) (by kernel_rfl)
   (by rw[MakeChecks.laidMetH_plain _ _ _ (by kernel_rfl)];exact laidMet_laidAll _ (by kernel_rfl) (by kernel_rfl))) ?_
 intro W base args ds gs before hval0 hW _ _ hL _;have htab:da (fun _=>False) W:=nv (by kernel_rfl) (by unfold Rows.formulaParseRow;simp) (by unfold Rows.formulaParseRow;simp) (by unfold Rows.formulaParseRow;simp) hL;have hval:∀(j:Nat) t v,Tryz.f4.params[j]? =some t→args[j]? =some v→Value.okWide Tryz.prog W .any base t v:=hval0;have hW':=hW;obtain⟨p,q,hA0,hV,rfl,hfz,hnd⟩:=hW;have hA:DataW.TrodAll enc Tryz.prog W 0 (fun _=>true) true Tryz.f4.params.toList args.toList ds p:=hA0;rw[params4]at hA hval;obtain⟨v0,d0,rfl,rfl,h0⟩:=trodAll_one hA;obtain⟨x0,rfl,rfl,rfl,b0⟩:=open_string underlying9 (hval 0 9 v0 rfl rfl) h0;refine(js (oz x0) htab (vs:=[_]) ⟨AV.M.val rfl,trivial⟩).mono fun e W' ⟨he,hB⟩=>?_
 subst he
 exact⟨_,rfl,lc hW' rfl (by kernel_rfl) (by kernel_rfl) (fun ds hl=>by
  match ds,hl with
  | [_],_=>rfl) hB⟩
theorem formulaParse_holds:Rows.FormulaParseSaid:=
 OpenClaim.holds_of_wide 4 Tryz.f4 rfl rfl rfl rfl rfl rfl rfl ⟨rfl,rfl,rfl,rfl,rfl⟩ rfl rfl rfl rfl rfl (by kernel_rfl) func4 (by kernel_rfl)
  (of_decide_eq_true (by kernel_rfl)) (by unfold Func.isWrapper;rw[if_neg (of_decide_eq_false (by kernel_rfl))];exact⟨rfl,rfl⟩)
  (fun os started H enc _=>lW os started H enc)
theorem formulaParse_card:Rows.FormulaParseCardSaid:=
 Claim7.holds_tied_plain_at .later [] [.data, .data, .data, .data, .data, .data, .pinned] true (true, "ce971bfd6a61219f487c5e41344583d2d50e39ba8e1549497b15fe78bb6ab68d") false
  formulaParse_holds (fun _ h=>by cases h) (by kernel_rfl) (fun _ h=>by cases h) formulaParse_row_tie rfl ⟨rfl,rfl⟩ (by kernel_rfl) rfl
  (fun f fn hf hfn=>by
   obtain rfl:f=4:=Option.some.inj ((show Tryz.prog.funcNamed "setsquare/setsquarelaw22.FormulaParse" =some 4 by kernel_rfl).symm.trans hf) |>.symm;obtain rfl:fn=Tryz.f4:=(Option.some.inj (func4.symm.trans hfn)).symm
   exact⟨by kernel_rfl,fun j t ht=>by
    rw[params4]at ht;have hm:t∈[9]:=by simpa using Array.mem_of_getElem? ht
    have hall:([9].all fun u=>!Tryz.prog.wantsStandIn u)=true:=by kernel_rfl
    exact(show Tryz.prog.wantsStandIn t=false by simpa using List.all_eq_true.1 hall t hm)⟩)
  (by kernel_rfl)
end
end Go.Proofs.YtikbnnljjeefgaaGreatDoor
