/- FormulaRename answers true. -/
import Derived.Test.YtikbnnljjeefgaaGreatDoorWZ14
import Derived.Test.YtikbnnljjeefgaaGreatDoorWHR
import Derived.Test.YtikbnnljjeefgaaGreatDoorWLFEqual
import Derived.ChangeMaps5
set_option maxHeartbeats 100000000
set_option linter.all false
open Go.Proofs.Tryz
namespace Go.Proofs.YtikbnnljjeefgaaGreatDoor
open Go.RowKit
section
open Go.ChangeShapes Go.WideShapes Go.ChangeAt Go.RowKit Go.Joins
open Go.ChangeMaps (open_string)
theorem mv {x:Rx} (hx:nu x) (s t:ByteArray):aa Tryz.prog 8 [dR x,dS s,dS t] (.one (dB true)):=by
 obtain⟨l,rfl⟩:∃l,Bs l=s:=⟨_,Er s⟩;obtain⟨r,rfl⟩:∃l,Bs l=t:=⟨_,Er t⟩;show aa Tryz.prog _ [dR x,dL l,dL r] _;have hsl:=aB l;have hsr:=aB r;have c1:=jq x hx;cases hb:(decide (sd x 120≤120) && vH x)with
 |false=>
  rw[hb]at c1;obtain⟨o1,na1,xs1,nb1,ys1,nm1,n1,cs1,hA⟩:=au x;rw[show dR x= .agg (ac o1 na1 xs1 nb1 ys1 nm1 n1 cs1) from congrArg DV.agg hA]at c1 ⊢;refine kV func8 ?_;refine kQ (bO) ?_;refine kQ (c1) ?_;refine kC (bO) ?_;exact kF
 |true=>
  rw[hb]at c1;rw[Bool.and_eq_true,decide_eq_true_eq]at hb;have hsx:=(og x 120).2.2 hb.1;have lx:=vm.of_lt x hx hb.2 (by omega)
  by_cases h1:l.length > 60
  ·obtain⟨o1,na1,xs1,nb1,ys1,nm1,n1,cs1,hA⟩:=au x
   rw[show dR x= .agg (ac o1 na1 xs1 nb1 ys1 nm1 n1 cs1) from congrArg DV.agg hA]at c1 ⊢;refine kV func8 ?_;refine kQ (bO) ?_;refine kC (c1) ?_
   refine kO5 ?_
   refine kX ?_;refine kC (bO) ?_;exact kF
  by_cases h2:r.length > 60
  ·obtain⟨o1,na1,xs1,nb1,ys1,nm1,n1,cs1,hA⟩:=au x
   rw[show dR x= .agg (ac o1 na1 xs1 nb1 ys1 nm1 n1 cs1) from congrArg DV.agg hA]at c1 ⊢;refine kV func8 ?_;refine kQ (bO) ?_;refine kC (c1) ?_
   refine kO5 ?_
   refine kE ?_
   refine kO4 ?_
   refine kX ?_;refine kC (bO) ?_;exact kF
  have r0:=lJ [] [] x lx;rw[Iv]at r0;have r1:=oI l r x lx hx;have r2:=lJ l r x lx;have ly:=vm.rn (f:=l) (t:=r) x lx;have e1:=gm (fY l r x) ly (fY l r x) ly;have e2:=gm x lx x lx;rw[pU]at e1 e2;have cn:=mC x hx (by omega);have hln:=uI x;have r3:=oI r l (fY l r x) ly (nu.rn (by omega) x hx);have hback:r ∉ ry x→fY r l (fY l r x)=x:=Dl x;have e3:=gm (fY r l (fY l r x)) (vm.rn _ ly) x lx;obtain⟨o1,na1,xs1,nb1,ys1,nm1,n1,cs1,hA⟩:=au x;obtain⟨o2,na2,xs2,nb2,ys2,nm2,n2,cs2,hA2⟩:=au (fY l r x);obtain⟨o3,na3,xs3,nb3,ys3,nm3,n3,cs3,hA3⟩:=au (fY r l (fY l r x));have e4:r ∉ ry x→xS (fY r l (fY l r x)) x=true:=fun h=>by rw[hback h];exact pU x
  clear hback;generalize xS (fY r l (fY l r x)) x=b at *;rw[show dR (fY r l (fY l r x))= .agg (ac o3 na3 xs3 nb3 ys3 nm3 n3 cs3) from congrArg DV.agg hA3]at r3 e3;clear hA3;rw[show dR (fY l r x)= .agg (ac o2 na2 xs2 nb2 ys2 nm2 n2 cs2) from congrArg DV.agg hA2]at r1 r2 r3 e1;clear hA2 ly;generalize ry x=N at *;rw[show dR x= .agg (ac o1 na1 xs1 nb1 ys1 nm1 n1 cs1) from congrArg DV.agg hA]at c1 r0 r1 r2 e2 e3 cn ⊢;refine kV func8 ?_;refine kQ (bO) ?_;refine kC (c1) ?_
  refine kO5 ?_
  refine kE ?_
  refine kO4 ?_
  refine kY ?_;refine kQ (r0) ?_;refine kQ (r1) ?_;refine kQ (r2) ?_;refine kQ (e1) ?_;refine kQ (e2) ?_;refine kQ (cn) ?_
  refine aS Nat (fun i=>i≤N.length∧ ∀(q:Nat) y,q<i→N[q]? =some y→y≠r) (fun i=>⟨[(1, .d (dL l)),(2, .d (dL r)),(3, .box 0 0),(8, .box 4004 0),(49, .d (.leaf (.sl N.length (aY N)))),(50, .d (dN .i64 N.length)),(51, .d (dN .i64 i))],[(0,some (ac o1 na1 xs1 nb1 ys1 nm1 n1 cs1)),(4004,some (ac o2 na2 xs2 nb2 ys2 nm2 n2 cs2))]⟩) (fun i=>N.length-i) 0 ⟨Nat.zero_le _,fun q y h=>absurd h (Nat.not_lt_zero _)⟩
   (weak ⟨rfl,rfl,rfl,rfl,rfl,rfl,rfl,trivial⟩ ⟨rfl,rfl,trivial⟩ rfl) ?_
  rintro i ⟨hi,hq⟩;refine kI ?_
  by_cases hlt:i<N.length
  ·refine kT ?_
   have hy:N[i]? =some N[i]:=by simp[hlt]
   generalize N[i]=y at *;refine kW ?_;refine bl (i:=i) (cs':=[.val (vL y)]) hlt (gD hy) (Nat.lt_succ_self 0) rfl rfl rfl rfl rfl rfl rfl rfl ?_;refine kG ?_
   refine kO2 ?_
   by_cases e:y=r
   ·refine aP rfl rfl rfl rfl rfl rfl rfl (cP (a:=y) (b:=r) e) ?_
    exact kF
   ·refine aP rfl rfl rfl rfl rfl rfl rfl (gF (a:=y) (b:=r) e) ?_
    refine kW ?_
    exact⟨i+1,⟨hlt,fun q z g1 g2=>by
     by_cases eq:q=i
     ·subst eq;rw[hy]at g2;cases g2;exact e
     ·exact hq q z (by omega) g2⟩,by omega,weak ⟨rfl,rfl,rfl,rfl,rfl,rfl,aG (by omega) (by omega),trivial⟩ ⟨rfl,rfl,trivial⟩ rfl⟩
  ·have hbt:b=true:=e4 fun hm=>by
    obtain⟨q,hqm⟩:=List.getElem?_of_mem hm;exact hq q r (by have:=(List.getElem?_eq_some_iff.1 hqm).1;omega) hqm rfl
   clear e4;cases b
   ·cases hbt
   ·refine kE ?_
    refine kW ?_;refine kQ (r3) ?_;refine kC (e3) ?_;exact kF
set_option maxRecDepth 100000 in
theorem ku (os:Os) (started:os.Started) (H:Type) (enc:TypeId × Value→H):
 ReturnsInHanded {} Tryz.checked os 8 .any (fun w args=>(Rows.formulaRenameSpec.pre enc Tryz.prog Tryz.f8 [] false w args∧laidMetH Tryz.prog Rows.formulaRenameRow.laid w)∧sizedMet enc Tryz.prog Tryz.f8 (OpenSpec.ofChange Rows.formulaRenameSpec) false w args)
  (Rows.formulaRenameSpec.post enc Tryz.prog Tryz.f8 false true false false):=by
 refine returnsInHanded_of_change_and (C:=Tryz.checked) (X:=fun w _=>laidMetH Tryz.prog Rows.formulaRenameRow.laid w) (fun _ _ _ hh h=>h.of_heap hh) Tryz.own started (by kernel_rfl) func8
  (ChangeSpec.witness_shaped (enc:=enc) (C:=Tryz.checked) (os:=os) (X:=fun w _=>laidMetH Tryz.prog Rows.formulaRenameRow.laid w) false (World.laidAll Tryz.prog os Rows.formulaRenameRow.laid) #[.agg #[.int .i64 0, .bool false, .slice none 0 0, .bool false, .slice none 0 0, .string ByteArray.empty, .slice none 0 0], .string ByteArray.empty, .string ByteArray.empty] 8 (World.laidAll_os _ _ _) (World.shaped_of_ZipB (by kernel_rfl) (by kernel_rfl)) (by kernel_rfl) (by kernel_rfl) (by kernel_rfl)
   (by rw[MakeChecks.laidMetH_plain _ _ _ (by kernel_rfl)];exact laidMet_laidAll _ (by kernel_rfl) (by kernel_rfl))) ?_
 intro W base args ds gs before hval0 hW _ _ hL _;have htab:dO (fun _=>False) W:=z6 (by kernel_rfl) (by unfold Rows.formulaRenameRow;simp) (by unfold Rows.formulaRenameRow;simp) (by unfold Rows.formulaRenameRow;simp) hL;have hval:∀(j:Nat) t v,Tryz.f8.params[j]? =some t→args[j]? =some v→Value.okWide Tryz.prog W .any base t v:=hval0;have hW':=hW;obtain⟨p,q,hA0,hV,rfl,hfz,hnd⟩:=hW;have hA:DataW.TrodAll enc Tryz.prog W 0 (fun _=>true) true Tryz.f8.params.toList args.toList ds p:=hA0;rw[params8]at hA hval;obtain⟨v0,v1,v2,d0,d1,d2,p0,p1,p2,rfl,rfl,rfl,h0,h1,h2⟩:=trodAll_three hA;obtain⟨x0,a0,w0⟩:=nJ (hval 0 29 v0 rfl rfl) h0;obtain⟨x1,rfl,rfl,rfl,b1⟩:=open_string underlying9 (hval 1 9 v1 rfl rfl) h1;obtain⟨x2,rfl,rfl,rfl,b2⟩:=open_string underlying9 (hval 2 9 v2 rfl rfl) h2
 refine(sL (mv w0 x1 x2) htab (vs:=[v0,_,_]) ⟨a0,AV.M.val rfl,AV.M.val rfl,trivial⟩).mono fun e W' ⟨he,hB⟩=>?_
 subst he
 exact⟨_,rfl,vt hW' rfl (by kernel_rfl) (by kernel_rfl) (fun ds hl=>by
  match ds,hl with
  | [_,_,_],_=>rfl) hB⟩
theorem formulaRename_holds:Rows.FormulaRenameSaid:=
 OpenClaim.holds_of_wide 8 Tryz.f8 rfl rfl rfl rfl rfl rfl rfl ⟨rfl,rfl,rfl,rfl,rfl⟩ rfl rfl rfl rfl rfl (by kernel_rfl) func8 (by kernel_rfl)
  (of_decide_eq_true (by kernel_rfl)) (by unfold Func.isWrapper;rw[if_neg (of_decide_eq_false (by kernel_rfl))];exact⟨rfl,rfl⟩)
  (fun os started H enc _=>ku os started H enc)
theorem formulaRename_card:Rows.FormulaRenameCardSaid:=
 Claim7.holds_tied_plain_at .later [] [.data, .data, .data, .data, .data, .data, .pinned] true (true, "ce971bfd6a61219f487c5e41344583d2d50e39ba8e1549497b15fe78bb6ab68d") false
  formulaRename_holds (fun _ h=>by cases h) (by kernel_rfl) (fun _ h=>by cases h) formulaRename_row_tie rfl ⟨rfl,rfl⟩ (by kernel_rfl) rfl
  (fun f fn hf hfn=>by
   obtain rfl:f=8:=Option.some.inj ((show Tryz.prog.funcNamed "setsquare/setsquarelaw22.FormulaRename" =some 8 by kernel_rfl).symm.trans hf) |>.symm;obtain rfl:fn=Tryz.f8:=(Option.some.inj (func8.symm.trans hfn)).symm
   exact⟨by kernel_rfl,fun j t ht=>by
    rw[params8]at ht;have hm:t∈[29,9]:=by simpa using Array.mem_of_getElem? ht
    have hall:([29,9].all fun u=>!Tryz.prog.wantsStandIn u)=true:=by kernel_rfl
    exact(show Tryz.prog.wantsStandIn t=false by simpa using List.all_eq_true.1 hall t hm)⟩)
  (by kernel_rfl)
end
end Go.Proofs.YtikbnnljjeefgaaGreatDoor
