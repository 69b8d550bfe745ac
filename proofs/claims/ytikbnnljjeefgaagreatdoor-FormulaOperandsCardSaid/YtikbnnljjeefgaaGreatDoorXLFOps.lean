/- FormulaOperands answers true. -/
import Derived.Test.YtikbnnljjeefgaaGreatDoorXHD
import Derived.ChangeMaps5
set_option maxHeartbeats 100000000
set_option linter.all false
open Go.Proofs.Tryz
namespace Go.Proofs.YtikbnnljjeefgaaGreatDoor
open Go.RowKit
section
open Go.ChangeShapes Go.WideShapes Go.ChangeAt Go.RowKit Go.Joins
open Go.ChangeMaps (open_string)
section
variable {P:Program} {T:TypeId→Option Ty} {n:Nat} {ops:Array Oper} {id:Nat} {draw:Bool} {K:AS→Prop} {s:AS} {k:Nat} {o:Oper} {os:List Oper} {fps:List FP}
theorem CW (hT:∀t d,T t=some d→b6 P t d) {t:TypeId} {ty:Ty} {x y z:Operand} {l:List UInt8} {l2:List UInt8} {i j:Nat} {ik ik':IntKind} (he:(l.take j).drop i=l2) (hi:i≤j) (hj:j≤l.length) (h1:gd ops s o=some true) (h2:o.op= .slice t x (some y) (some z) none) (h5:T t=some ty) (h6:ty.isStr=true) (h7:s.ev x= .d (.leaf (.val (vL l)))) (h8:s.ev y= .d (.leaf (.val (.int ik (i:Nat))))) (h9:s.ev z= .d (.leaf (.val (.int ik' (j:Nat)))))
 (h3:bn n o.dst=true) (h4:ju draw ops (a6 ops o ⟨.d (dL l2),none⟩ []) k fps=true) (h:aJ P T n ops id draw K (k+1) os (s.eff o.dst ⟨.d (dL l2),none⟩) (a6 ops o ⟨.d (dL l2),none⟩ []::fps)):aJ P T n ops id draw K k (o::os) s fps:=by
 subst he;exact ii hT hi hj h1 h2 h5 h6 h7 h8 h9 h3 h4 h
end
theorem l9 {e:Ex} (hw:oL (rx e)) (hs:jj (rx e)≤501):aa Tryz.prog 19 [dE e] (.one (dN .i64 (iT (rx e)))):=rv (rx e) hw (by omega)
theorem lV (s t:ByteArray) (op:Int) (hop:0≤op∧op≤255):aa Tryz.prog 7 [dS s,dS t,dN .u8 op] (.one (dB true)):=by
 obtain⟨l,rfl⟩:∃l,Bs l=s:=⟨_,wq s⟩;obtain⟨r,rfl⟩:∃l,Bs l=t:=⟨_,wq t⟩;show aa Tryz.prog _ [dL l,dL r,dN .u8 op] _;have hsz:=au l;have hsr:=au r
 by_cases h1:l.length > 200
 ·refine kV func7 ?_;refine kC (av) ?_
  refine kO4 ?_
  refine kX ?_;refine kC (av) ?_;exact kF
 by_cases h2:r.length > 200
 ·refine kV func7 ?_;refine kC (av) ?_
  refine kO4 ?_
  refine kE ?_
  refine kO4 ?_
  refine kX ?_;refine kC (av) ?_;exact kF
 obtain⟨c1,_⟩:=j4 l (by omega);obtain⟨c2,_⟩:=j4 r (by omega);cases hp:ge l with
 |error z=>
  obtain⟨p,c⟩:=z;have hc:c≠0:=tR (by omega) hp;rw[hp]at c1;unfold fc at c1;dsimp only at c1;generalize hq:fc (ge r)=q at *;cases hr:ge r with
  |error z=>
   obtain⟨p2,k2⟩:=z;rw[hr]at hq;subst hq;unfold fc at c2;dsimp only at c2;refine kV func7 ?_;refine kC (av) ?_
   refine kO4 ?_
   refine kE ?_
   refine kO4 ?_
   refine kY ?_;refine kQ (c1) ?_;refine kC (c2) ?_;refine kG ?_;refine kO ?_;refine kB true ?_ ?_
   ·exact(by simp[hc])
   exact kF
  |ok b=>
   rw[hr]at hq;subst hq;unfold fc at c2;dsimp only at c2;obtain⟨o1,na1,xs1,nb1,ys1,nm1,n1,cs1,hA⟩:=aA b;rw[show dE b= .agg (ac o1 na1 xs1 nb1 ys1 nm1 n1 cs1) from congrArg DV.agg hA]at c2;refine kV func7 ?_;refine kC (av) ?_
   refine kO4 ?_
   refine kE ?_
   refine kO4 ?_
   refine kY ?_;refine kQ (c1) ?_;refine kC (c2) ?_;refine kG ?_;refine kO ?_;refine kB true ?_ ?_
   ·exact(by simp[hc])
   exact kF
 |ok a=>
 rw[hp]at c1;unfold fc at c1;dsimp only at c1;obtain⟨ha1,ha2,ha3,ha4⟩:=nG (by omega) hp;have cda:=l9 ha2 ha3;cases hr:ge r with
 |error z=>
  obtain⟨p,c⟩:=z;have hc:c≠0:=tR (by omega) hr;rw[hr]at c2;unfold fc at c2;dsimp only at c2;obtain⟨o1,na1,xs1,nb1,ys1,nm1,n1,cs1,hA⟩:=aA a;rw[show dE a= .agg (ac o1 na1 xs1 nb1 ys1 nm1 n1 cs1) from congrArg DV.agg hA]at c1;refine kV func7 ?_;refine kC (av) ?_
  refine kO4 ?_
  refine kE ?_
  refine kO4 ?_
  refine kY ?_;refine kQ (c1) ?_;refine kC (c2) ?_;refine kG ?_
  refine kO4 ?_
  refine kB true ?_ ?_
  ·exact(by simp[hc])
  exact kF
 |ok b=>
 rw[hr]at c2;unfold fc at c2;dsimp only at c2;obtain⟨hb1,hb2,hb3,hb4⟩:=nG (by omega) hr;have cdb:=l9 hb2 hb3;have hm0:=Int.tmod_nonneg 4 hop.1;have hm1:=Int.tmod_lt_of_pos op (show(0:Int)<4 by decide);obtain⟨k,hk4,hk⟩:∃k:Nat,k<4∧op.tmod 4=k:=⟨(op.tmod 4).toNat,by omega,by omega⟩
 have c3:=(j4 ([40]++l++[41]++[oj k]++[40]++r++[41]) (by simp;omega)).1;rw[F1 (by omega) (by omega) hp hr k]at c3
 have hrem:∀{t:TypeId} {x y:Operand},nR .rem t x y (.int .i64 op) (.int .i64 4)=some (.int .i64 ((k:Nat):Int)):=by
  intro t x y;rw[ri (by decide),hk]
 have hch:(([43,45,42,47]:List UInt8).take (k+1)).drop k=[oj k]:=by
  match k,hk4 with
  |0,_=>rfl
  |1,_=>rfl
  |2,_=>rfl
  |3,_=>rfl
 have hcode:(Cl k).code=((4+k:Nat):Int):=by
  match k,hk4 with
  |0,_=>rfl
  |1,_=>rfl
  |2,_=>rfl
  |3,_=>rfl
 obtain⟨o1,na1,xs1,nb1,ys1,nm1,n1,cs1,hA⟩:=aA a;obtain⟨o2,na2,xs2,nb2,ys2,nm2,n2,cs2,hA2⟩:=aA b;have hE:dE (.bin (Cl k) a b)= .agg ([.val (.int .i64 ((4+k:Nat):Int))]++lZ++[.val (vL []), .sl 2 (ac o1 na1 xs1 nb1 ys1 nm1 n1 cs1++ac o2 na2 xs2 nb2 ys2 nm2 n2 cs2)]):=by rw[← hA,← hA2,← hcode];exact congrArg DV.agg (i7 (Cl k) a b)
 have hfm:jC (.bin (Cl k) a b):=⟨ha1,hb1⟩;have ce:aa Tryz.prog 18 [dE (.bin (Cl k) a b),dE (.bin (Cl k) a b)] (.one (dB true)):=fm _ (jC.lw _ hfm);rw[hE]at ce;rw[show dE a= .agg (ac o1 na1 xs1 nb1 ys1 nm1 n1 cs1) from congrArg DV.agg hA]at c1 cda;rw[show dE b= .agg (ac o2 na2 xs2 nb2 ys2 nm2 n2 cs2) from congrArg DV.agg hA2]at c2 cdb
 have fin:∀(R:RV),aa Tryz.prog 16 [dL ([40]++l++[41]++[oj k]++[40]++r++[41])] R→((iT (rx a)<40∧iT (rx b)<40)→R= .tup [.agg ([.val (.int .i64 ((4+k:Nat):Int))]++lZ++[.val (vL []), .sl 2 (ac o1 na1 xs1 nb1 ys1 nm1 n1 cs1++ac o2 na2 xs2 nb2 ys2 nm2 n2 cs2)]),dN .i64 0,dN .i64 0])→(¬(iT (rx a)<40∧iT (rx b)<40)→R= .tup [dR z7,dN .i64 0,dN .i64 3])→aa Tryz.prog 7 [dL l,dL r,dN .u8 op] (.one (dB true)):=fun R c3 e1 e2=>by
  clear hE hfm
  by_cases hd:iT (rx a)<40∧iT (rx b)<40
  ·obtain rfl:=e1 hd
   refine kV func7 ?_;refine kC (av) ?_
   refine kO4 ?_
   refine kE ?_
   refine kO4 ?_
   refine kY ?_;refine kQ (c1) ?_;refine kC (c2) ?_
   iterate 2 refine kG ?_
   refine kO ?_;refine eU (v':= .int .i64 (op)) rfl rfl rfl rfl ?_ ?_
   ·exact congrArg (Value.int .i64) (by rw[IntWalk.i64_in _ (by omega)])
   refine aj rfl rfl rfl rfl rfl rfl rfl hrem ?_;refine kG ?_;refine kO ?_;refine aj rfl rfl rfl rfl rfl rfl rfl (aH (a:=[40]) (b:=l) (by simp;omega)) ?_;refine aj rfl rfl rfl rfl rfl rfl rfl (aH (a:=[40]++l) (b:=[41]) (by simp;omega)) ?_
   refine kO2 ?_
   refine kJ ((k+1:Nat)) ?_;refine CW ab (l:=[43,45,42,47]) (i:=k) (j:=k+1) hch (by omega) (by simp;omega) rfl rfl rfl rfl rfl rfl rfl rfl rfl ?_;refine aj rfl rfl rfl rfl rfl rfl rfl (aH (a:=[40]++l++[41]) (b:=[oj k]) (by simp;omega)) ?_;refine aj rfl rfl rfl rfl rfl rfl rfl (aH (a:=[40]++l++[41]++[oj k]) (b:=[40]) (by simp;omega)) ?_;refine kO ?_;refine aj rfl rfl rfl rfl rfl rfl rfl (aH (a:=[40]++l++[41]++[oj k]++[40]) (b:=r) (by simp;omega)) ?_;refine aj rfl rfl rfl rfl rfl rfl rfl (aH (a:=[40]++l++[41]++[oj k]++[40]++r) (b:=[41]) (by simp;omega)) ?_;refine kQ (c3) ?_;refine kC (cda) ?_;refine kY ?_;refine kC (cdb) ?_;refine kE ?_;refine kG ?_
   refine kO5 ?_
   refine kJ ((4+k:Nat)) ?_;refine kW ?_;refine kC (ce) ?_;exact kF
  ·obtain rfl:=e2 hd
   refine kV func7 ?_;refine kC (av) ?_
   refine kO4 ?_
   refine kE ?_
   refine kO4 ?_
   refine kY ?_;refine kQ (c1) ?_;refine kC (c2) ?_
   iterate 2 refine kG ?_
   refine kO ?_;refine eU (v':= .int .i64 (op)) rfl rfl rfl rfl ?_ ?_
   ·exact congrArg (Value.int .i64) (by rw[IntWalk.i64_in _ (by omega)])
   refine aj rfl rfl rfl rfl rfl rfl rfl hrem ?_;refine kG ?_;refine kO ?_;refine aj rfl rfl rfl rfl rfl rfl rfl (aH (a:=[40]) (b:=l) (by simp;omega)) ?_;refine aj rfl rfl rfl rfl rfl rfl rfl (aH (a:=[40]++l) (b:=[41]) (by simp;omega)) ?_
   refine kO2 ?_
   refine kJ ((k+1:Nat)) ?_;refine CW ab (l:=[43,45,42,47]) (i:=k) (j:=k+1) hch (by omega) (by simp;omega) rfl rfl rfl rfl rfl rfl rfl rfl rfl ?_;refine aj rfl rfl rfl rfl rfl rfl rfl (aH (a:=[40]++l++[41]) (b:=[oj k]) (by simp;omega)) ?_;refine aj rfl rfl rfl rfl rfl rfl rfl (aH (a:=[40]++l++[41]++[oj k]) (b:=[40]) (by simp;omega)) ?_;refine kO ?_;refine aj rfl rfl rfl rfl rfl rfl rfl (aH (a:=[40]++l++[41]++[oj k]++[40]) (b:=r) (by simp;omega)) ?_;refine aj rfl rfl rfl rfl rfl rfl rfl (aH (a:=[40]++l++[41]++[oj k]++[40]++r) (b:=[41]) (by simp;omega)) ?_;refine kQ (c3) ?_;refine kC (cda) ?_
   by_cases hda:iT (rx a)<40
   ·refine kE ?_
    refine kW ?_;refine kC (cdb) ?_;refine kT ?_;exact kF
   ·refine kT ?_
    exact kF
 refine fin _ c3 (fun h=>?_) (fun h=>?_)
 ·rw[if_pos h,← hE];rfl
 ·rw[if_neg h];rfl
set_option maxRecDepth 100000 in
theorem jZ (os:Os) (started:os.Started) (H:Type) (enc:TypeId × Value→H):
 ReturnsInHanded {} Tryz.checked os 7 .any (fun w args=>(Rows.formulaOperandsSpec.pre enc Tryz.prog Tryz.f7 [] false w args∧laidMetH Tryz.prog Rows.formulaOperandsRow.laid w)∧sizedMet enc Tryz.prog Tryz.f7 (OpenSpec.ofChange Rows.formulaOperandsSpec) false w args)
  (Rows.formulaOperandsSpec.post enc Tryz.prog Tryz.f7 false true false false):=by
 refine returnsInHanded_of_change_and (C:=Tryz.checked) (X:=fun w _=>laidMetH Tryz.prog Rows.formulaOperandsRow.laid w) (fun _ _ _ hh h=>h.of_heap hh) Tryz.own started (by kernel_rfl) func7
  (ChangeSpec.witness_shaped (enc:=enc) (C:=Tryz.checked) (os:=os) (X:=fun w _=>laidMetH Tryz.prog Rows.formulaOperandsRow.laid w) false (World.laidAll Tryz.prog os Rows.formulaOperandsRow.laid) #[.string ByteArray.empty, .string ByteArray.empty, .int .u8 0] 8 (World.laidAll_os _ _ _) (World.shaped_of_ZipB (by kernel_rfl) (by kernel_rfl)) (by kernel_rfl) (by kernel_rfl) (by kernel_rfl)
   (by rw[MakeChecks.laidMetH_plain _ _ _ (by kernel_rfl)];exact laidMet_laidAll _ (by kernel_rfl) (by kernel_rfl))) ?_
 intro W base args ds gs before hval0 hW _ _ hL _;have htab:da (fun _=>False) W:=nv (by kernel_rfl) (by unfold Rows.formulaOperandsRow;simp) (by unfold Rows.formulaOperandsRow;simp) (by unfold Rows.formulaOperandsRow;simp) hL;have hval:∀(j:Nat) t v,Tryz.f7.params[j]? =some t→args[j]? =some v→Value.okWide Tryz.prog W .any base t v:=hval0;have hW':=hW;obtain⟨p,q,hA0,hV,rfl,hfz,hnd⟩:=hW;have hA:DataW.TrodAll enc Tryz.prog W 0 (fun _=>true) true Tryz.f7.params.toList args.toList ds p:=hA0;rw[params7]at hA hval;obtain⟨v0,v1,v2,d0,d1,d2,p0,p1,p2,rfl,rfl,rfl,h0,h1,h2⟩:=trodAll_three hA;obtain⟨x0,rfl,rfl,rfl,b0⟩:=open_string underlying9 (hval 0 9 v0 rfl rfl) h0;obtain⟨x1,rfl,rfl,rfl,b1⟩:=open_string underlying9 (hval 1 9 v1 rfl rfl) h1
 obtain⟨x2,rfl,rfl,rfl,a2⟩:=open_int underlying5 (hval 2 5 v2 rfl rfl) h2;refine(js (lV x0 x1 x2 (bounds_u8 a2)) htab (vs:=[_,_,_]) ⟨AV.M.val rfl,AV.M.val rfl,AV.M.val rfl,trivial⟩).mono fun e W' ⟨he,hB⟩=>?_
 subst he
 exact⟨_,rfl,lc hW' rfl (by kernel_rfl) (by kernel_rfl) (fun ds hl=>by
  match ds,hl with
  | [_,_,_],_=>rfl) hB⟩
theorem formulaOperands_holds:Rows.FormulaOperandsSaid:=
 OpenClaim.holds_of_wide 7 Tryz.f7 rfl rfl rfl rfl rfl rfl rfl ⟨rfl,rfl,rfl,rfl,rfl⟩ rfl rfl rfl rfl rfl (by kernel_rfl) func7 (by kernel_rfl)
  (of_decide_eq_true (by kernel_rfl)) (by unfold Func.isWrapper;rw[if_neg (of_decide_eq_false (by kernel_rfl))];exact⟨rfl,rfl⟩)
  (fun os started H enc _=>jZ os started H enc)
theorem formulaOperands_card:Rows.FormulaOperandsCardSaid:=
 Claim7.holds_tied_plain_at .later [] [.data, .data, .data, .data, .data, .data, .pinned] true (true, "ce971bfd6a61219f487c5e41344583d2d50e39ba8e1549497b15fe78bb6ab68d") false
  formulaOperands_holds (fun _ h=>by cases h) (by kernel_rfl) (fun _ h=>by cases h) formulaOperands_row_tie rfl ⟨rfl,rfl⟩ (by kernel_rfl) rfl
  (fun f fn hf hfn=>by
   obtain rfl:f=7:=Option.some.inj ((show Tryz.prog.funcNamed "setsquare/setsquarelaw22.FormulaOperands" =some 7 by kernel_rfl).symm.trans hf) |>.symm;obtain rfl:fn=Tryz.f7:=(Option.some.inj (func7.symm.trans hfn)).symm
   exact⟨by kernel_rfl,fun j t ht=>by
    rw[params7]at ht;have hm:t∈[9,5]:=by simpa using Array.mem_of_getElem? ht
    have hall:([9,5].all fun u=>!Tryz.prog.wantsStandIn u)=true:=by kernel_rfl
    exact(show Tryz.prog.wantsStandIn t=false by simpa using List.all_eq_true.1 hall t hm)⟩)
  (by kernel_rfl)
end
end Go.Proofs.YtikbnnljjeefgaaGreatDoor
