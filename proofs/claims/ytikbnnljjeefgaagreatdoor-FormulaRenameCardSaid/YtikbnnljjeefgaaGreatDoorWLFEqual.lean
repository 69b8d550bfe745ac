/- FormulaEqual answers true. -/
import Derived.Test.YtikbnnljjeefgaaGreatDoorWZ14
set_option maxHeartbeats 100000000
set_option linter.all false
open Go.Proofs.Tryz
namespace Go.Proofs.YtikbnnljjeefgaaGreatDoor
open Go.RowKit
section
open Go.ChangeShapes Go.WideShapes Go.ChangeAt Go.RowKit Go.Joins
theorem vm.of_lt:∀x,nu x→vH x=true→jm x≤1000000→vm x:=by
 refine dx fun op na xs nb ys nm args ih hx hlt hs=>?_
 obtain⟨_,_,_,_,_,_,hargs⟩:=hx;rw[vH,Bool.and_eq_true,Bool.and_eq_true,Bool.and_eq_true,decide_eq_true_eq,decide_eq_true_eq]at hlt;obtain⟨hla,⟨l1,l2⟩,_⟩:=hlt;rw[jm]at hs;have hge:=pu args;exact .mk (by omega) (by omega) (by omega) fun y hy=>ih y hy (hargs y hy) (m4 hla y hy) (by have:=lz hy;omega)
theorem nK {x y:Rx} (hx:nu x) (hy:nu y):aa Tryz.prog 9 [dR x,dR y] (.one (dB true)):=by
 have c1:=jq x hx;have c2:=jq y hy;cases hb:(decide (sd x 120≤120) && vH x)with
 |false=>
  rw[hb]at c1;clear c2;obtain⟨o1,na1,xs1,nb1,ys1,nm1,n1,cs1,hA⟩:=au x;obtain⟨o2,na2,xs2,nb2,ys2,nm2,n2,cs2,hA2⟩:=au y;rw[show dR x= .agg (ac o1 na1 xs1 nb1 ys1 nm1 n1 cs1) from congrArg DV.agg hA]at c1 ⊢;rw[show dR y= .agg (ac o2 na2 xs2 nb2 ys2 nm2 n2 cs2) from congrArg DV.agg hA2];refine kV func9 ?_;refine kQ (bO) ?_;refine kQ (c1) ?_;refine kC (bO) ?_;exact kF
 |true=>
  rw[hb]at c1;cases hb2:(decide (sd y 120≤120) && vH y)with
  |false=>
   rw[hb2]at c2;obtain⟨o1,na1,xs1,nb1,ys1,nm1,n1,cs1,hA⟩:=au x;obtain⟨o2,na2,xs2,nb2,ys2,nm2,n2,cs2,hA2⟩:=au y;rw[show dR x= .agg (ac o1 na1 xs1 nb1 ys1 nm1 n1 cs1) from congrArg DV.agg hA]at c1 ⊢;rw[show dR y= .agg (ac o2 na2 xs2 nb2 ys2 nm2 n2 cs2) from congrArg DV.agg hA2]at c2 ⊢;refine kV func9 ?_;refine kQ (bO) ?_;refine kQ (c1) ?_;refine kQ (c2) ?_;refine kC (bO) ?_;exact kF
  |true=>
   rw[hb2]at c2;rw[Bool.and_eq_true,decide_eq_true_eq]at hb hb2;have hsx:=(og x 120).2.2 hb.1;have hsy:=(og y 120).2.2 hb2.1;have lx:=vm.of_lt x hx hb.2 (by omega);have ly:=vm.of_lt y hy hb2.2 (by omega);have e1:=oA x lx y ly;have e2:=gm x lx y ly;have e3:=oA x lx x lx;rw[pU]at e3;have d1:=md x hx (by omega);have d2:=ww x hx (by omega);have n1:=zr x hx (by omega);have n2:=mC x hx (by omega);have hln:=uI x;have n3:=ul (ry x) (by omega);obtain⟨o1,na1,xs1,nb1,ys1,nm1,m1,cs1,hA⟩:=au x;obtain⟨o2,na2,xs2,nb2,ys2,nm2,m2,cs2,hA2⟩:=au y;generalize ry x=l at *;generalize rz x=d at *;generalize xS x y=b at *
   rw[show dR x= .agg (ac o1 na1 xs1 nb1 ys1 nm1 m1 cs1) from congrArg DV.agg hA]at c1 e1 e2 e3 d1 d2 n1 n2 ⊢;rw[show dR y= .agg (ac o2 na2 xs2 nb2 ys2 nm2 m2 cs2) from congrArg DV.agg hA2]at c2 e1 e2 ⊢;cases b
   all_goals
    refine kV func9 ?_;refine kQ (bO) ?_;refine kQ (c1) ?_;refine kQ (c2) ?_;refine kQ (e1) ?_;refine kQ (e2) ?_;refine kQ (e3) ?_;refine kQ (d1) ?_;refine kC (d2) ?_;refine kB true ?_ ?_
    ·exact(by simp)
    refine kW ?_;refine kQ (n1) ?_;refine kQ (n2) ?_;refine kC (n3) ?_;exact kF
set_option maxRecDepth 100000 in
theorem lG (os:Os) (started:os.Started) (H:Type) (enc:TypeId × Value→H):
 ReturnsInHanded {} Tryz.checked os 9 .any (fun w args=>(Rows.formulaEqualSpec.pre enc Tryz.prog Tryz.f9 [] false w args∧laidMetH Tryz.prog Rows.formulaEqualRow.laid w)∧sizedMet enc Tryz.prog Tryz.f9 (OpenSpec.ofChange Rows.formulaEqualSpec) false w args)
  (Rows.formulaEqualSpec.post enc Tryz.prog Tryz.f9 false true false false):=by
 refine returnsInHanded_of_change_and (C:=Tryz.checked) (X:=fun w _=>laidMetH Tryz.prog Rows.formulaEqualRow.laid w) (fun _ _ _ hh h=>h.of_heap hh) Tryz.own started (by kernel_rfl) func9
  (ChangeSpec.witness_shaped (enc:=enc) (C:=Tryz.checked) (os:=os) (X:=fun w _=>laidMetH Tryz.prog Rows.formulaEqualRow.laid w) false (World.laidAll Tryz.prog os Rows.formulaEqualRow.laid) #[.agg #[.int .i64 0, .bool false, .slice none 0 0, .bool false, .slice none 0 0, .string ByteArray.empty, .slice none 0 0], .agg #[.int .i64 0, .bool false, .slice none 0 0, .bool false, .slice none 0 0, .string ByteArray.empty, .slice none 0 0]] 8 (World.laidAll_os _ _ _) (World.shaped_of_ZipB (by kernel_rfl) (by kernel_rfl)) (by kernel_rfl) (by kernel_rfl) (by kernel_rfl)
   (by rw[MakeChecks.laidMetH_plain _ _ _ (by kernel_rfl)];exact laidMet_laidAll _ (by kernel_rfl) (by kernel_rfl))) ?_
 intro W base args ds gs before hval0 hW _ _ hL _;have htab:dO (fun _=>False) W:=z6 (by kernel_rfl) (by unfold Rows.formulaEqualRow;simp) (by unfold Rows.formulaEqualRow;simp) (by unfold Rows.formulaEqualRow;simp) hL;have hval:∀(j:Nat) t v,Tryz.f9.params[j]? =some t→args[j]? =some v→Value.okWide Tryz.prog W .any base t v:=hval0;have hW':=hW;obtain⟨p,q,hA0,hV,rfl,hfz,hnd⟩:=hW;have hA:DataW.TrodAll enc Tryz.prog W 0 (fun _=>true) true Tryz.f9.params.toList args.toList ds p:=hA0;rw[params9]at hA hval;obtain⟨v0,v1,d0,d1,p0,p1,rfl,rfl,rfl,h0,h1⟩:=trodAll_two hA;obtain⟨x0,a0,w0⟩:=nJ (hval 0 29 v0 rfl rfl) h0;obtain⟨x1,a1,w1⟩:=nJ (hval 1 29 v1 rfl rfl) h1;refine(sL (nK w0 w1) htab (vs:=[v0,v1]) ⟨a0,a1,trivial⟩).mono fun e W' ⟨he,hB⟩=>?_
 subst he
 exact⟨_,rfl,vt hW' rfl (by kernel_rfl) (by kernel_rfl) (fun ds hl=>by
  match ds,hl with
  | [_,_],_=>rfl) hB⟩
theorem formulaEqual_holds:Rows.FormulaEqualSaid:=
 OpenClaim.holds_of_wide 9 Tryz.f9 rfl rfl rfl rfl rfl rfl rfl ⟨rfl,rfl,rfl,rfl,rfl⟩ rfl rfl rfl rfl rfl (by kernel_rfl) func9 (by kernel_rfl)
  (of_decide_eq_true (by kernel_rfl)) (by unfold Func.isWrapper;rw[if_neg (of_decide_eq_false (by kernel_rfl))];exact⟨rfl,rfl⟩)
  (fun os started H enc _=>lG os started H enc)
theorem formulaEqual_card:Rows.FormulaEqualCardSaid:=
 Claim7.holds_tied_plain_at .later [] [.data, .data, .data, .data, .data, .data, .pinned] true (true, "ce971bfd6a61219f487c5e41344583d2d50e39ba8e1549497b15fe78bb6ab68d") false
  formulaEqual_holds (fun _ h=>by cases h) (by kernel_rfl) (fun _ h=>by cases h) formulaEqual_row_tie rfl ⟨rfl,rfl⟩ (by kernel_rfl) rfl
  (fun f fn hf hfn=>by
   obtain rfl:f=9:=Option.some.inj ((show Tryz.prog.funcNamed "setsquare/setsquarelaw22.FormulaEqual" =some 9 by kernel_rfl).symm.trans hf) |>.symm;obtain rfl:fn=Tryz.f9:=(Option.some.inj (func9.symm.trans hfn)).symm
   exact⟨by kernel_rfl,fun j t ht=>by
    rw[params9]at ht;have hm:t∈[29]:=by simpa using Array.mem_of_getElem? ht
    have hall:([29].all fun u=>!Tryz.prog.wantsStandIn u)=true:=by kernel_rfl
    exact(show Tryz.prog.wantsStandIn t=false by simpa using List.all_eq_true.1 hall t hm)⟩)
  (by kernel_rfl)
end
end Go.Proofs.YtikbnnljjeefgaaGreatDoor
