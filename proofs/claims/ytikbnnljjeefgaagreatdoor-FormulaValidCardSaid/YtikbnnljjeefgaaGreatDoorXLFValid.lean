/- FormulaValid answers true. -/
import Derived.Test.YtikbnnljjeefgaaGreatDoorXHC
set_option maxHeartbeats 100000000
set_option linter.all false
open Go.Proofs.Tryz
namespace Go.Proofs.YtikbnnljjeefgaaGreatDoor
open Go.RowKit
section
open Go.ChangeShapes Go.WideShapes Go.ChangeAt Go.RowKit Go.Joins
theorem oy {x:Rx} (hx:oL x):aa Tryz.prog 3 [dR x] (.one (dB true)):=by
 have c1:=nW x hx;cases hb:(decide (tp x 120≤120) && Ae x)with
 |false=>
  rw[hb]at c1;obtain⟨o1,na1,xs1,nb1,ys1,nm1,n1,cs1,hA⟩:=aS x;rw[show dR x= .agg (ac o1 na1 xs1 nb1 ys1 nm1 n1 cs1) from congrArg DV.agg hA]at c1 ⊢;refine kV func3 ?_;refine kQ (av) ?_;refine kQ (c1) ?_;refine kC (av) ?_;exact kF
 |true=>
  rw[hb]at c1;rw[Bool.and_eq_true,decide_eq_true_eq]at hb;obtain⟨hb1,hlt⟩:=hb;have hsz:=(qB x 120).2.2 hb1;have hlm:=Cc.of_lt x hlt;have c2:=jM x hx hlm (by omega);have c3:=wU x hx hlm (by omega)
  by_cases hv:Ep x=0
  ·have hfm:pI x=true∧iT x≤40:=by
    unfold Ep at hv
    split at hv
    ·rename_i h1
     split at hv
     ·rename_i h2;exact⟨h1,h2⟩
     ·cases hv
    ·cases hv
   rw[hv]at c2 c3;obtain⟨e,rfl,hf⟩:=Ej x hx hlm hfm.1;have htl:=xE e hf 0;have cF:=ls hf hx (by omega) hfm.2 (by omega);have cT:=iN e hf (by omega);obtain⟨o1,na1,xs1,nb1,ys1,nm1,n1,cs1,hA⟩:=aA e;have ht:=Ct e hf;generalize aV e 0=t at *;show aa Tryz.prog _ [dE e] _;have c1:aa Tryz.prog 11 [dE e] (.one (dB true)):=c1;have c2:aa Tryz.prog 12 [dE e] (.one (dN .i64 0)):=c2;have c3:aa Tryz.prog 14 [dE e] (.one (dN .i64 0)):=c3;rw[show dE e= .agg (ac o1 na1 xs1 nb1 ys1 nm1 n1 cs1) from congrArg DV.agg hA]at c1 c2 c3 cF cT ⊢;refine kV func3 ?_;refine kQ (av) ?_;refine kQ (c1) ?_;refine kQ (c2) ?_;refine kQ (cF) ?_;refine kQ (c3) ?_;refine kC (cT) ?_
   refine aj rfl rfl rfl rfl rfl rfl rfl (bC (a:=t) (b:=t) rfl) ?_;exact kF
  ·obtain⟨o1,na1,xs1,nb1,ys1,nm1,n1,cs1,hA⟩:=aS x
   have cF:=uE x c3 hv;generalize Ep x=v at *;rw[show dR x= .agg (ac o1 na1 xs1 nb1 ys1 nm1 n1 cs1) from congrArg DV.agg hA]at c1 c2 c3 cF ⊢;refine kV func3 ?_;refine kQ (av) ?_;refine kQ (c1) ?_;refine kQ (c2) ?_;refine kQ (cF) ?_;refine kC (c3) ?_;refine kO ?_;refine kB false ?_ ?_
   ·exact(by simp)
   refine kO2 ?_
   refine kB true ?_ ?_
   ·exact(by simp[hv])
   refine kW ?_;refine kC (c3) ?_;refine kO ?_;refine kB true ?_ ?_
   ·exact(by simp)
   refine kO3 ?_
   refine kB true ?_ ?_
   ·exact(by simp)
   refine kO3 ?_
   refine aj rfl rfl rfl rfl rfl rfl rfl (bC (a:=[]) (b:=[]) rfl) ?_;exact kF
set_option maxRecDepth 100000 in
theorem lX (os:Os) (started:os.Started) (H:Type) (enc:TypeId × Value→H):
 ReturnsInHanded {} Tryz.checked os 3 .any (fun w args=>(Rows.formulaValidSpec.pre enc Tryz.prog Tryz.f3 [] false w args∧laidMetH Tryz.prog Rows.formulaValidRow.laid w)∧sizedMet enc Tryz.prog Tryz.f3 (OpenSpec.ofChange Rows.formulaValidSpec) false w args)
  (Rows.formulaValidSpec.post enc Tryz.prog Tryz.f3 false true false false):=by
 refine returnsInHanded_of_change_and (C:=Tryz.checked) (X:=fun w _=>laidMetH Tryz.prog Rows.formulaValidRow.laid w) (fun _ _ _ hh h=>h.of_heap hh) Tryz.own started (by kernel_rfl) func3
  (ChangeSpec.witness_shaped (enc:=enc) (C:=Tryz.checked) (os:=os) (X:=fun w _=>laidMetH Tryz.prog Rows.formulaValidRow.laid w) false (World.laidAll Tryz.prog os Rows.formulaValidRow.laid) #[.agg #[.int .i64 0, .bool false, .slice none 0 0, .bool false, .slice none 0 0, .string ByteArray.empty, .slice none 0 0]] 8 (World.laidAll_os _ _ _) (World.shaped_of_ZipB (by kernel_rfl) (by kernel_rfl)) (by kernel_rfl) (by kernel_rfl) (by kernel_rfl)
   (by rw[MakeChecks.laidMetH_plain _ _ _ (by kernel_rfl)];exact laidMet_laidAll _ (by kernel_rfl) (by kernel_rfl))) ?_
 intro W base args ds gs before hval0 hW _ _ hL _;have htab:da (fun _=>False) W:=nv (by kernel_rfl) (by unfold Rows.formulaValidRow;simp) (by unfold Rows.formulaValidRow;simp) (by unfold Rows.formulaValidRow;simp) hL;have hval:∀(j:Nat) t v,Tryz.f3.params[j]? =some t→args[j]? =some v→Value.okWide Tryz.prog W .any base t v:=hval0;have hW':=hW;obtain⟨p,q,hA0,hV,rfl,hfz,hnd⟩:=hW;have hA:DataW.TrodAll enc Tryz.prog W 0 (fun _=>true) true Tryz.f3.params.toList args.toList ds p:=hA0;rw[params3]at hA hval;obtain⟨v0,d0,rfl,rfl,h0⟩:=trodAll_one hA;obtain⟨x0,a0,w0⟩:=sQ (hval 0 29 v0 rfl rfl) h0;refine(js (oy w0) htab (vs:=[v0]) ⟨a0,trivial⟩).mono fun e W' ⟨he,hB⟩=>?_
 subst he
 exact⟨_,rfl,lc hW' rfl (by kernel_rfl) (by kernel_rfl) (fun ds hl=>by
  match ds,hl with
  | [_],_=>rfl) hB⟩
theorem formulaValid_holds:Rows.FormulaValidSaid:=
 OpenClaim.holds_of_wide 3 Tryz.f3 rfl rfl rfl rfl rfl rfl rfl ⟨rfl,rfl,rfl,rfl,rfl⟩ rfl rfl rfl rfl rfl (by kernel_rfl) func3 (by kernel_rfl)
  (of_decide_eq_true (by kernel_rfl)) (by unfold Func.isWrapper;rw[if_neg (of_decide_eq_false (by kernel_rfl))];exact⟨rfl,rfl⟩)
  (fun os started H enc _=>lX os started H enc)
theorem formulaValid_card:Rows.FormulaValidCardSaid:=
 Claim7.holds_tied_plain_at .later [] [.data, .data, .data, .data, .data, .data, .pinned] true (true, "ce971bfd6a61219f487c5e41344583d2d50e39ba8e1549497b15fe78bb6ab68d") false
  formulaValid_holds (fun _ h=>by cases h) (by kernel_rfl) (fun _ h=>by cases h) formulaValid_row_tie rfl ⟨rfl,rfl⟩ (by kernel_rfl) rfl
  (fun f fn hf hfn=>by
   obtain rfl:f=3:=Option.some.inj ((show Tryz.prog.funcNamed "setsquare/setsquarelaw22.FormulaValid" =some 3 by kernel_rfl).symm.trans hf) |>.symm;obtain rfl:fn=Tryz.f3:=(Option.some.inj (func3.symm.trans hfn)).symm
   exact⟨by kernel_rfl,fun j t ht=>by
    rw[params3]at ht;have hm:t∈[29]:=by simpa using Array.mem_of_getElem? ht
    have hall:([29].all fun u=>!Tryz.prog.wantsStandIn u)=true:=by kernel_rfl
    exact(show Tryz.prog.wantsStandIn t=false by simpa using List.all_eq_true.1 hall t hm)⟩)
  (by kernel_rfl)
end
end Go.Proofs.YtikbnnljjeefgaaGreatDoor
