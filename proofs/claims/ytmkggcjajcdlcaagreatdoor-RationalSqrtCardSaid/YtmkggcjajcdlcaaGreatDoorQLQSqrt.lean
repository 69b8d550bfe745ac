/- RationalSqrt answers true. -/
import Derived.Test.YtmkggcjajcdlcaaGreatDoorQZ4
import Derived.Test.YtmkggcjajcdlcaaGreatDoorQZ5
set_option maxHeartbeats 100000000
set_option linter.all false
open Go.Proofs.Tryz
namespace Go.Proofs.YtmkggcjajcdlcaaGreatDoor
open Go.RowKit
section
open Go.ChangeShapes Go.WideShapes Go.ChangeAt Go.RowKit Go.Joins
open Go.ChangeMaps (open_string)
theorem cS {a:Int} {r:Nat} (ha:0≤a) (hl:(digs a.natAbs).length≤2147483) (h1:r*r≤a.natAbs) (h2:a.natAbs<(r+1)*(r+1)):ab Tryz.prog 96 [dZ a] (.tup [dZ r,dN .i64 0]):=
 vh (ax func96 rfl rfl) (ai _) (fun v w hv=>vl v _ _ w hv hl (N:=a.natAbs) (by rw[au];omega) h1 h2) (fun _ _ _ _ hS h=>ni hS h)
theorem ij {z:Int} {r:Nat} (hl:(digs z.natAbs).length≤2147483) (h1:r*r≤z.natAbs):cM r:=
 Nat.le_trans (bk (Nat.le_trans (show(r:Int).natAbs≤r*r by rw[Int.natAbs_natCast];exact qV r) h1)) (by omega)
theorem g8 {z:Int} {r:Nat} (hl:(digs z.natAbs).length≤2147483) (h1:r*r≤z.natAbs):cM ((r:Int)*r):=
 Nat.le_trans (bk (by rw[Int.natAbs_mul,Int.natAbs_natCast];exact h1)) (by omega)
theorem mH {a q:Rat} {r t:Nat} (h1:(digs a.num.natAbs).length≤2147483) (h2:(digs (a.den:Int).natAbs).length≤2147483) (hr:(r:Int)*r=a.num) (ht:t*t=a.den) (hq:q.num=r∧q.den=t):ab Tryz.prog 46 [dQ a] (.tup [dQ q,dB true]):=by
 have hn:a.num.natAbs=r*r:=by rw[← hr,Int.natAbs_mul,Int.natAbs_natCast]
 have e1:r*r≤a.num.natAbs∧a.num.natAbs<(r+1)*(r+1):=by rw[hn];exact⟨Nat.le_refl _,Nat.mul_lt_mul'' (Nat.lt_succ_self r) (Nat.lt_succ_self r)⟩
 have e2:t*t≤(a.den:Int).natAbs∧(a.den:Int).natAbs<(t+1)*(t+1):=by rw[Int.natAbs_natCast,← ht];exact⟨Nat.le_refl _,Nat.mul_lt_mul'' (Nat.lt_succ_self t) (Nat.lt_succ_self t)⟩
 have h0:0≤a.num:=by rw[← hr];exact Int.mul_nonneg (by omega) (by omega)
 have fr:=ij h1 e1.1;have ft:=ij h2 e2.1;rw[mr hq.1 (d:=t) (by rw[hq.2])];refine kV func46 ?_;refine cP (T:=TT) rfl ?_ ?_
 ·exact decide_eq_false (by omega)
 refine kW ?_;refine kQ (cS h0 h1 e1.1 e1.2) ?_;refine aa (cS (by omega) h2 e2.1 e2.2) rfl rfl rfl rfl rfl rfl rfl ?_;refine kW ?_;refine kQ (bO fr fr) ?_;refine kQ (bn (g8 h1 e1.1) (decide_eq_true hr)) ?_;refine kQ (bO ft ft) ?_;refine aa (bn (g8 h2 e2.1) (decide_eq_true (show(t:Int)*t=(a.den:Int) by rw[← ht];rfl))) rfl rfl rfl rfl rfl rfl rfl ?_;exact kF
theorem nM {a:Rat} {r t:Nat} (h1:(digs a.num.natAbs).length≤2147483) (h2:(digs (a.den:Int).natAbs).length≤2147483) (h0:0≤a.num) (e1:r*r≤a.num.natAbs∧a.num.natAbs<(r+1)*(r+1)) (e2:t*t≤(a.den:Int).natAbs∧(a.den:Int).natAbs<(t+1)*(t+1)) (h:¬((r:Int)*r=a.num∧t*t=a.den)):ab Tryz.prog 46 [dQ a] (.tup [sN,dB false]):=by
 have fr:=ij h1 e1.1;have ft:=ij h2 e2.1
 by_cases hr:(r:Int)*r=a.num
 ·have ht:¬(t:Int)*t=(a.den:Int):=fun e=>h ⟨hr,by exact_mod_cast e⟩
  refine kV func46 ?_;refine cP (T:=TT) rfl ?_ ?_
  ·exact decide_eq_false (by omega)
  refine kW ?_;refine kQ (cS h0 h1 e1.1 e1.2) ?_;refine aa (cS (by omega) h2 e2.1 e2.2) rfl rfl rfl rfl rfl rfl rfl ?_;refine kW ?_;refine kQ (bO fr fr) ?_;refine kQ (bn (g8 h1 e1.1) (decide_eq_true hr)) ?_;refine kQ (bO ft ft) ?_;refine kC (bn (g8 h2 e2.1) (decide_eq_false ht)) ?_;exact kF
 ·refine kV func46 ?_;refine cP (T:=TT) rfl ?_ ?_
  ·exact decide_eq_false (by omega)
  refine kW ?_;refine kQ (cS h0 h1 e1.1 e1.2) ?_;refine aa (cS (by omega) h2 e2.1 e2.2) rfl rfl rfl rfl rfl rfl rfl ?_;refine kW ?_;refine kQ (bO fr fr) ?_;refine kC (bn (g8 h1 e1.1) (decide_eq_false hr)) ?_;exact kF
theorem nc {a:Rat} (h0:a.num<0):ab Tryz.prog 46 [dQ a] (.tup [sN,dB false]):=by
 refine kV func46 ?_;refine fb (T:=TT) rfl ?_ ?_
 ·exact decide_eq_true h0
 exact kF
theorem tR {a:Rat} (h:fy 20 a):∃(q:Rat) (b:Bool),fy 20 q∧ab Tryz.prog 44 [dQ a] (.tup [if b=true then dQ q else sN,dB b])∧ab Tryz.prog 46 [dQ a] (.tup [if b=true then dQ q else sN,dB b]):=by
 have h1:(digs a.num.natAbs).length≤2147483:=Nat.le_trans h.1.digs (by decide);have h2:(digs (a.den:Int).natAbs).length≤2147483:=Nat.le_trans h.2.digs (by decide)
 by_cases h0:a.num<0
 ·exact⟨a,false,h,oW h2 h0,nc h0⟩
 obtain⟨r,r1,r2⟩:=eW a.num.natAbs;obtain⟨t,t1,t2⟩:=eW (a.den:Int).natAbs
 by_cases hb:(r:Int)*r=a.num∧t*t=a.den
 ·have ht0:t≠0:=fun e=>by rw[e]at hb;exact a.den_nz hb.2.symm
  have hc:Nat.Coprime (r:Int).natAbs t:=by
   rw[Int.natAbs_natCast];have:=a.reduced;rw[← hb.1,← hb.2,Int.natAbs_mul,Int.natAbs_natCast]at this;exact(this.coprime_mul_right).coprime_mul_right_right
  refine⟨⟨r,t,ht0,hc⟩,true,⟨h.1.of_le ?_,h.2.of_le ?_⟩,fF h1 h2 hb.1 hb.2 ⟨rfl,rfl⟩,mH h1 h2 hb.1 hb.2 ⟨rfl,rfl⟩⟩
  ·show(r:Int).natAbs≤_
   rw[Int.natAbs_natCast];exact Nat.le_trans (qV r) r1
  ·show(t:Int).natAbs≤_
   rw[Int.natAbs_natCast];exact Nat.le_trans (qV t) t1
 ·exact⟨a,false,h,ju h1 h2 (by omega) ⟨r1,r2⟩ ⟨t1,t2⟩ hb,nM h1 h2 (by omega) ⟨r1,r2⟩ ⟨t1,t2⟩ hb⟩
theorem iS {na nb:Bool} {xs ys:List Nat} (hw:Wd xs) (hw':Wd ys):ab Tryz.prog 11 [xb na xs nb ys] (.one (dB true)):=by
 cases hs:([(na,xs,nb,ys)]:List RP).all nP
 ·refine kV func11 ?_;refine kQ (cX) ?_;refine aa (eT [(na,xs,nb,ys)] (u7 ⟨hw,hw'⟩) (by simp) hs) rfl rfl rfl rfl rfl rfl rfl ?_;refine kW ?_;refine kC (cX) ?_;exact kF
 obtain⟨a,ea,sa⟩:=wm (p:=(na,xs,nb,ys)) ⟨hw,hw'⟩ (by simpa using hs);rw[show xb na xs nb ys=dQ a from congrArg DV.agg ea];obtain⟨q,b,sq,c1,c2⟩:=tR sa;obtain⟨s,hsn,hsd⟩:∃s:Rat,s.num=a.num.natAbs∧s.den=a.den:=⟨⟨a.num.natAbs,a.den,a.den_nz,by rw[Int.natAbs_natCast];exact a.reduced⟩,rfl,rfl⟩;have ss:fy 20 s:=⟨sa.1.of_le (by rw[hsn,Int.natAbs_natCast];exact Nat.le_refl _),sa.2.of_le (by rw[hsd];exact Nat.le_refl _)⟩;have s2:fy 40 (a*a):=sa.mul sa
 have c3:ab Tryz.prog 44 [dQ (a*a)] (.tup [dQ s,dB true]):=by
  refine fF (r:=a.num.natAbs) (t:=a.den) (Nat.le_trans s2.1.digs (by decide)) (Nat.le_trans s2.2.digs (by decide)) ?_ (uC a).2.symm ⟨hsn,hsd⟩;rw[(uC a).1,← Int.natAbs_mul_self' a.num]
 have hsg:yA s≥0:=by
  unfold yA;rw[hsn];exact uX _
 by_cases ha:0≤a.num
 ·have es:s=a:=Rat.ext (by rw[hsn];omega) hsd
  cases b
  ·refine kV func11 ?_;refine kQ (cX) ?_;refine aa (eT [wE a] (u7 (yq a)) (by simp) (wq sa)) rfl rfl rfl rfl rfl rfl rfl ?_;refine kW ?_;refine aa (fa sa (by decide)) rfl rfl rfl rfl rfl rfl rfl ?_;refine kW ?_;refine kQ (c1) ?_;refine kQ (c2) ?_;refine aa (gg sa sa (by decide) rfl) rfl rfl rfl rfl rfl rfl rfl ?_;refine kW ?_;refine kQ (c3) ?_;refine aa (cD ss (by decide) (decide_eq_true es)) rfl rfl rfl rfl rfl rfl rfl ?_;refine kW ?_;refine kC (fj s) ?_;refine kB true ?_ ?_
   ·exact decide_eq_true hsg
   exact kF
  ·refine kV func11 ?_;refine kQ (cX) ?_;refine aa (eT [wE a] (u7 (yq a)) (by simp) (wq sa)) rfl rfl rfl rfl rfl rfl rfl ?_;refine kW ?_;refine aa (fa sa (by decide)) rfl rfl rfl rfl rfl rfl rfl ?_;refine kW ?_;refine kQ (c1) ?_;refine kQ (c2) ?_;refine aa (cD sq (by decide) (decide_eq_true rfl)) rfl rfl rfl rfl rfl rfl rfl ?_;refine kW ?_;refine aa (gg sa sa (by decide) rfl) rfl rfl rfl rfl rfl rfl rfl ?_;refine kW ?_;refine kQ (c3) ?_;refine aa (cD ss (by decide) (decide_eq_true es)) rfl rfl rfl rfl rfl rfl rfl ?_;refine kW ?_;refine kC (fj s) ?_;refine kB true ?_ ?_
   ·exact decide_eq_true hsg
   exact kF
 ·have es:s= -a:=Rat.ext (by rw[hsn,Rat.neg_num];omega) (by rw[hsd];rfl)
  have en:¬s=a:=fun e=>by rw[e]at hsn;omega
  cases b
  ·refine kV func11 ?_;refine kQ (cX) ?_;refine aa (eT [wE a] (u7 (yq a)) (by simp) (wq sa)) rfl rfl rfl rfl rfl rfl rfl ?_;refine kW ?_;refine aa (fa sa (by decide)) rfl rfl rfl rfl rfl rfl rfl ?_;refine kW ?_;refine kQ (c1) ?_;refine kQ (c2) ?_;refine aa (gg sa sa (by decide) rfl) rfl rfl rfl rfl rfl rfl rfl ?_;refine kW ?_;refine kQ (c3) ?_;refine aa (cD ss (by decide) (decide_eq_false en)) rfl rfl rfl rfl rfl rfl rfl ?_;refine kW ?_;refine kQ (mv rfl) ?_;refine aa (cD ss (by decide) (decide_eq_true es)) rfl rfl rfl rfl rfl rfl rfl ?_;refine kW ?_;refine kC (fj s) ?_;refine kB true ?_ ?_
   ·exact decide_eq_true hsg
   exact kF
  ·refine kV func11 ?_;refine kQ (cX) ?_;refine aa (eT [wE a] (u7 (yq a)) (by simp) (wq sa)) rfl rfl rfl rfl rfl rfl rfl ?_;refine kW ?_;refine aa (fa sa (by decide)) rfl rfl rfl rfl rfl rfl rfl ?_;refine kW ?_;refine kQ (c1) ?_;refine kQ (c2) ?_;refine aa (cD sq (by decide) (decide_eq_true rfl)) rfl rfl rfl rfl rfl rfl rfl ?_;refine kW ?_;refine aa (gg sa sa (by decide) rfl) rfl rfl rfl rfl rfl rfl rfl ?_;refine kW ?_;refine kQ (c3) ?_;refine aa (cD ss (by decide) (decide_eq_false en)) rfl rfl rfl rfl rfl rfl rfl ?_;refine kW ?_;refine kQ (mv rfl) ?_;refine aa (cD ss (by decide) (decide_eq_true es)) rfl rfl rfl rfl rfl rfl rfl ?_;refine kW ?_;refine kC (fj s) ?_;refine kB true ?_ ?_
   ·exact decide_eq_true hsg
   exact kF
set_option maxRecDepth 100000 in
theorem gH (os:Os) (started:os.Started) (H:Type) (enc:TypeId × Value→H):
 ReturnsInHanded {} Tryz.checked os 11 .any (fun w args=>(Rows.rationalSqrtSpec.pre enc Tryz.prog Tryz.f11 [] false w args∧laidMetH Tryz.prog Rows.rationalSqrtRow.laid w)∧sizedMet enc Tryz.prog Tryz.f11 (OpenSpec.ofChange Rows.rationalSqrtSpec) false w args)
  (Rows.rationalSqrtSpec.post enc Tryz.prog Tryz.f11 false true false false):=by
 refine returnsInHanded_of_change_and (C:=Tryz.checked) (X:=fun w _=>laidMetH Tryz.prog Rows.rationalSqrtRow.laid w) (fun _ _ _ hh h=>h.of_heap hh) Tryz.own started (by kernel_rfl) func11
  (ChangeSpec.witness_shaped (enc:=enc) (C:=Tryz.checked) (os:=os) (X:=fun w _=>laidMetH Tryz.prog Rows.rationalSqrtRow.laid w) false (World.laidAll Tryz.prog os Rows.rationalSqrtRow.laid) #[.agg #[.bool false, .slice none 0 0, .bool false, .slice none 0 0]] 8 (World.laidAll_os _ _ _) (World.shaped_of_ZipB (by kernel_rfl) (by kernel_rfl)) (by kernel_rfl) (by kernel_rfl) (by kernel_rfl)
   (by rw[MakeChecks.laidMetH_plain _ _ _ (by kernel_rfl)];exact laidMet_laidAll _ (by kernel_rfl) (by kernel_rfl))) ?_
 intro W base args ds gs before hval0 hW _ _ hL _;have htab:bZ (fun _=>False) W:=vO (by kernel_rfl) (by unfold Rows.rationalSqrtRow;simp) hL;have hval:∀(j:Nat) t v,Tryz.f11.params[j]? =some t→args[j]? =some v→Value.okWide Tryz.prog W .any base t v:=hval0;have hW':=hW;obtain⟨p,q,hA0,hV,rfl,hfz,hnd⟩:=hW;have hA:DataW.TrodAll enc Tryz.prog W 0 (fun _=>true) true Tryz.f11.params.toList args.toList ds p:=hA0;rw[params11]at hA hval;obtain⟨v0,d0,rfl,rfl,h0⟩:=trodAll_one hA;obtain⟨n0,x0,m0,y0,a0⟩:=ux (hval 0 38 v0 rfl rfl) h0;refine(si (iS (q7 a0).1 (q7 a0).2) htab (vs:=[v0]) ⟨xg (yM W htab) a0,trivial⟩).mono fun e W' ⟨he,hB⟩=>?_
 subst he
 exact⟨_,rfl,uP hW' rfl (by kernel_rfl) (by kernel_rfl) (fun ds hl=>by
  match ds,hl with
  | [_],_=>rfl) hB⟩
theorem yS {a b:Bool} (ha:a=true) (hb:b=true):(a && b)=true:=by rw[ha,hb];rfl
theorem yR:joinedFacts Tryz.pinned.checked.prog 11 Tryz.f11 Rows.rationalSqrtSpec Rows.rationalSqrtRow=true:=by
 unfold joinedFacts
 repeat' with_reducible refine yS ?_ ?_
 all_goals as_aux_lemma=>kernel_rfl
theorem rationalSqrt_holds:Rows.RationalSqrtSaid:=
 OpenClaim.holds_of_wide 11 Tryz.f11 rfl rfl rfl rfl rfl rfl rfl ⟨rfl,rfl,rfl,rfl,rfl⟩ rfl rfl rfl rfl rfl (by kernel_rfl) func11 yR
  (of_decide_eq_true (by kernel_rfl)) (by unfold Func.isWrapper;rw[if_neg (of_decide_eq_false (by kernel_rfl))];exact⟨rfl,rfl⟩)
  (fun os started H enc _=>gH os started H enc)
theorem rationalSqrt_card:Rows.RationalSqrtCardSaid:=
 Claim7.holds_tied_plain_at .later [] [.data, .data, .data, .data, .pinned] true (true, "bd1ed385b8fe58bcb80dfefc9852ab57aba966816f780e690fbe950f19441307") false
  rationalSqrt_holds (fun _ h=>by cases h) (by as_aux_lemma=>kernel_rfl) (fun _ h=>by cases h) rationalSqrt_row_tie rfl ⟨rfl,rfl⟩ (by as_aux_lemma=>kernel_rfl) rfl
  (fun f fn hf hfn=>by
   obtain rfl:f=11:=Option.some.inj ((show Tryz.prog.funcNamed "setsquare/setsquarelaw02.RationalSqrt" =some 11 by kernel_rfl).symm.trans hf) |>.symm;obtain rfl:fn=Tryz.f11:=(Option.some.inj (func11.symm.trans hfn)).symm
   exact⟨by as_aux_lemma=>kernel_rfl,fun j t ht=>by
    rw[params11]at ht;have hm:t∈[38]:=by simpa using Array.mem_of_getElem? ht
    have hall:([38].all fun u=>!Tryz.prog.wantsStandIn u)=true:=by kernel_rfl
    exact(show Tryz.prog.wantsStandIn t=false by simpa using List.all_eq_true.1 hall t hm)⟩)
  (by as_aux_lemma=>kernel_rfl)
end
end Go.Proofs.YtmkggcjajcdlcaaGreatDoor
