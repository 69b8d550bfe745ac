/- Parts of a proof: contracts of the functions that the laws reach. -/
import Derived.Test.YtikbnnljjeefgaaGreatDoorWZ10
import Derived.Test.YtikbnnljjeefgaaGreatDoorWZ1
import Derived.Test.YtikbnnljjeefgaaGreatDoorWZ4
set_option maxHeartbeats 100000000
set_option linter.all false
open Go.Proofs.Tryz
namespace Go.Proofs.YtikbnnljjeefgaaGreatDoor
open Go.RowKit
theorem az.ren0 {P:Program} {f:FuncId} {j:Nat} {cs cs':List AV} {r:RV} (h:az P f [.box j 0] [(j,cs)] (.v r) [(j,cs')]) (j':Nat) (hw:dp j'=dp j) (hl:d4 j=false) (hl':d4 j'=false):az P f [.box j' 0] [(j',cs)] (.v r) [(j',cs')]:=az.ren (ds:=[]) h j' hw hl hl'
theorem az.ren1 {P:Program} {f:FuncId} {j:Nat} {d:DV} {cs cs':List AV} {r:RV} (h:az P f [.box j 0, .d d] [(j,cs)] (.v r) [(j,cs')]) (j':Nat) (hw:dp j'=dp j) (hl:d4 j=false) (hl':d4 j'=false):az P f [.box j' 0, .d d] [(j',cs)] (.v r) [(j',cs')]:=az.ren (ds:=[d]) h j' hw hl hl'
noncomputable def jh (T:List Tk) (b:Int) (E:Nat):Except (Nat × Int) Ex:=match pP (5*T.length+5) .sum T with
 |some (.ok (e,t::_))=>if t.1≠0 then .error (t.2.2,2)else if b≠0 then .error (E,b)else if rz (rx e)≤40 then .ok e else .error (C0 T,3)
 |some (.error (p,c))=> .error (p,oN E b p c)
 |_=> .error (0,2)
noncomputable def nF (s:List UInt8):Except (Nat × Int) Ex:=match dl (s.length+1) s 0 []with
 | .ok T=>jh T 0 s.length
 | .error (a,b)=>match dl ((s.take a).length+1) (s.take a) 0 []with
  | .ok T=>jh T b a
  | .error _=> .error (0,2)
noncomputable def iC (x:Except (Nat × Int) Ex):RV:=match x with
 | .ok e=> .tup [dE e,dN .i64 0,dN .i64 0]
 | .error (p,c)=> .tup [dR z7,dN .i64 p,dN .i64 c]
structure wL (T:List Tk) (E:Nat):Prop where
 w:cR T
 z:dz E T
 s:∀t∈T,t.2.1.length≤65536
 l:T.length≤999999
theorem wL.le {T:List Tk} {E:Nat} (h:wL T E):∀t∈T,t.2.2≤E:=fun t ht=>by
 by_cases h0:t.1=0
 ·exact Nat.le_of_eq ((h.z t ht).1 h0)
 ·exact Nat.le_of_lt ((h.z t ht).2 h0)
theorem jC (T:List Tk):∃x,pP (5*T.length+5) .sum T=some x:=Ib _ .sum T (Nat.le_refl _)
theorem pp {T:List Tk} {E:Nat} (hT:wL T E) {e:Ex} {r:List Tk} {f:Nat} (h:pP f .sum T=some (.ok (e,r))):nu (rx e)∧jm (rx e)≤1000000∧cR r∧ ∀t∈r,t∈T:=by
 have a:=im _ _ _ _ _ hT.s (fun _ _ h=>by cases h) h;have b:=eR (E:=E) _ _ _ _ hT.w hT.le h;have:=a.2.2;have:=hT.l;exact⟨a.1,by dsimp only at *;omega,b,a.2.1⟩
theorem wF (s:List UInt8) (T:List Tk) (cT:aa Tryz.prog 38 [dL s] (jO (.ok T))) (hT:wL T s.length):aa Tryz.prog 16 [dL s] (iC (jh T 0 s.length)):=by
 have cT:aa Tryz.prog 38 [dL s] (.tup [.leaf (.sl T.length (co T)),dN .i64 0,dN .i64 0]):=cT;obtain⟨x,hx⟩:=jC T;have cs:=(ze 0 _).sum T x hT.w hx;unfold jh;rw[hx];cases x with
 |ok z=>
  obtain⟨e,r⟩:=z;obtain⟨hwx,hsz,hwr,hsub⟩:=pp hT hx;obtain⟨t,r,rfl⟩:=hwr.ne;have cs:=cs.1.ren0 4002 rfl rfl rfl;have cn:=(bA t r 0 0).ren0 4002 rfl rfl rfl;have cf:=(ji t r 0 2).ren1 4002 rfl rfl rfl;have cd:=md (rx e) hwx hsz;dsimp only;obtain⟨o1,na1,xs1,nb1,ys1,nm1,n1,cs1,hA⟩:=aX e;rw[show dR (rx e)= .agg (ac o1 na1 xs1 nb1 ys1 nm1 n1 cs1) from congrArg DV.agg hA]at cd;have hE:dE e= .agg (ac o1 na1 xs1 nb1 ys1 nm1 n1 cs1):=congrArg DV.agg hA;rw[hE]at cs
  by_cases h0:t.1=0
  ·rw[if_neg (fun h=>h h0),if_neg (fun h=>h rfl)]
   by_cases hd:rz (rx e)≤40
   ·rw[if_pos hd]
    unfold iC;dsimp only;rw[hE];refine kU func16 ?_;refine kR ?_;refine kI ?_;refine kO ?_;refine kQ (cT) ?_;refine kZ (cs) ?_;refine kD (cn) ?_;refine kO ?_;refine kB false ?_ ?_
    ·exact(by simp;omega)
    refine kW ?_;refine kC (cd) ?_;refine kE ?_;exact kF
   ·rw[if_neg hd]
    obtain⟨t0,r0,rfl⟩:=hT.w.ne;unfold iC;dsimp only;refine kU func16 ?_;refine kR ?_;refine kI ?_;refine kO ?_;refine kQ (cT) ?_;refine kZ (cs) ?_;refine kD (cn) ?_;refine kO ?_;refine kB false ?_ ?_
    ·exact(by simp;omega)
    refine kW ?_;refine kC (cd) ?_;refine kX ?_
    refine bl (i:=0) (cs':=iB t0) (Nat.zero_lt_succ _) (fun j a h=>by
     rw[Nat.zero_mul,Nat.zero_add];show(iB t0++co r0)[j]? =some a;rw[List.getElem?_append_left (List.getElem?_eq_some_iff.1 h).1];exact h) (Nat.zero_lt_succ 2) rfl rfl rfl rfl rfl rfl rfl rfl ?_
    exact kF
  ·rw[if_pos h0]
   unfold iC;dsimp only;refine kU func16 ?_;refine kR ?_;refine kI ?_;refine kO ?_;refine kQ (cT) ?_;refine kZ (cs) ?_;refine kD (cn) ?_;refine kO ?_;refine kB true ?_ ?_
   ·exact(by simp;omega)
   refine kW ?_;refine kD (cf) ?_;exact kF
 |error z=>
  obtain⟨p,c⟩:=z;obtain⟨hc,y,ts',cs,hw⟩:=cs;obtain⟨t,r,rfl⟩:=hw.ne;have cs:=cs.ren0 4002 rfl rfl rfl;have cn:=(bA t r p c).ren0 4002 rfl rfl rfl;have cf:=(pZ t r p c 2 hc).ren1 4002 rfl rfl rfl;obtain⟨o1,na1,xs1,nb1,ys1,nm1,n1,cs1,hA⟩:=au y;rw[show dR y= .agg (ac o1 na1 xs1 nb1 ys1 nm1 n1 cs1) from congrArg DV.agg hA]at cs;dsimp only;rw[wK];unfold iC;dsimp only
  by_cases h0:t.1=0
  ·refine kU func16 ?_
   refine kR ?_;refine kI ?_;refine kO ?_;refine kQ (cT) ?_;refine kZ (cs) ?_;refine kD (cn) ?_;refine kO ?_;refine kB false ?_ ?_
   ·exact(by simp;omega)
   refine kG ?_
   refine kO4 ?_
   refine kB true ?_ ?_
   ·exact(by simp[hc])
   exact kF
  ·refine kU func16 ?_
   refine kR ?_;refine kI ?_;refine kO ?_;refine kQ (cT) ?_;refine kZ (cs) ?_;refine kD (cn) ?_;refine kO ?_;refine kB true ?_ ?_
   ·exact(by simp;omega)
   refine kW ?_;refine kD (cf) ?_;refine kG ?_
   refine kO4 ?_
   refine kB true ?_ ?_
   ·exact(by simp[hc])
   exact kF
theorem xI (s:List UInt8) (T:List Tk) (a:Nat) (b:Int) (hb:b=2∨b=3) (ha:a≤s.length) (c1:aa Tryz.prog 38 [dL s] (jO (.error (a,b)))) (c2:aa Tryz.prog 38 [dL (s.take a)] (jO (.ok T))) (hT:wL T a):aa Tryz.prog 16 [dL s] (iC (jh T b a)):=by
 have hb0:b≠0:=by omega
 have c1:aa Tryz.prog 38 [dL s] (.tup [.leaf (.sl 0 []),dN .i64 a,dN .i64 b]):=c1;have c2:aa Tryz.prog 38 [dL (s.take a)] (.tup [.leaf (.sl T.length (co T)),dN .i64 0,dN .i64 0]):=c2;obtain⟨x,hx⟩:=jC T;have cs:=(ze 0 _).sum T x hT.w hx;have hpos:=eR (E:=a) _ _ _ _ hT.w hT.le hx;unfold jh;rw[hx];cases x with
 |ok z=>
  obtain⟨e,r⟩:=z;obtain⟨hwx,hsz,hwr,hsub⟩:=pp hT hx;obtain⟨t,r,rfl⟩:=hwr.ne;have hz:=hT.z t (hsub t (by simp));have cs:=cs.1.ren0 4002 rfl rfl rfl;have cn:=(bA t r 0 0).ren0 4002 rfl rfl rfl;have cf:=(ji t r 0 2).ren1 4002 rfl rfl rfl;dsimp only;obtain⟨o1,na1,xs1,nb1,ys1,nm1,n1,cs1,hA⟩:=aX e;rw[show dE e= .agg (ac o1 na1 xs1 nb1 ys1 nm1 n1 cs1) from congrArg DV.agg hA]at cs
  by_cases h0:t.1=0
  ·rw[if_neg (fun h=>h h0),if_pos hb0]
   unfold iC;dsimp only;rcases hb with rfl|rfl
   all_goals
    refine kU func16 ?_;refine kR ?_;refine kI ?_;refine kO ?_;refine kQ (c1) ?_;refine mL ab (l:=s) (j:=a) ha rfl rfl rfl rfl rfl rfl rfl rfl ?_;refine kQ (c2) ?_;refine kZ (cs) ?_;refine kD (cn) ?_;refine kO ?_;refine kB false ?_ ?_
    ·exact(by simp;omega)
    exact kF
  ·rw[if_pos h0]
   have hlt:=hz.2 h0;unfold iC;dsimp only;rcases hb with rfl|rfl
   all_goals
    refine kU func16 ?_;refine kR ?_;refine kI ?_;refine kO ?_;refine kQ (c1) ?_;refine mL ab (l:=s) (j:=a) ha rfl rfl rfl rfl rfl rfl rfl rfl ?_;refine kQ (c2) ?_;refine kZ (cs) ?_;refine kD (cn) ?_;refine kO ?_;refine kB true ?_ ?_
    ·exact(by simp;omega)
    refine kW ?_;refine kD (cf) ?_;refine kG ?_
    iterate 14 refine kO ?_
    refine kT ?_;exact kF
 |error z=>
  obtain⟨p,c⟩:=z;obtain⟨hc,y,ts',cs,hw⟩:=cs;obtain⟨hpa,_⟩:=hpos;obtain⟨t,r,rfl⟩:=hw.ne;have cs:=cs.ren0 4002 rfl rfl rfl;have cn:=(bA t r p c).ren0 4002 rfl rfl rfl;have cf:=(pZ t r p c 2 hc).ren1 4002 rfl rfl rfl;obtain⟨o1,na1,xs1,nb1,ys1,nm1,n1,cs1,hA⟩:=au y;rw[show dR y= .agg (ac o1 na1 xs1 nb1 ys1 nm1 n1 cs1) from congrArg DV.agg hA]at cs;dsimp only
  by_cases hlt:p<a
  ·rw[show oN a b p c=c from if_neg (fun h=>by omega)]
   unfold iC;dsimp only
   by_cases h0:t.1=0
   ·rcases hb with rfl|rfl
    all_goals
     refine kU func16 ?_;refine kR ?_;refine kI ?_;refine kO ?_;refine kQ (c1) ?_;refine mL ab (l:=s) (j:=a) ha rfl rfl rfl rfl rfl rfl rfl rfl ?_;refine kQ (c2) ?_;refine kZ (cs) ?_;refine kD (cn) ?_;refine kO ?_;refine kB false ?_ ?_
     ·exact(by simp;omega)
     refine kG ?_
     refine kO4 ?_
     refine kB true ?_ ?_
     ·exact(by simp[hc])
     iterate 9 refine kO ?_
     refine kT ?_;exact kF
   ·rcases hb with rfl|rfl
    all_goals
     refine kU func16 ?_;refine kR ?_;refine kI ?_;refine kO ?_;refine kQ (c1) ?_;refine mL ab (l:=s) (j:=a) ha rfl rfl rfl rfl rfl rfl rfl rfl ?_;refine kQ (c2) ?_;refine kZ (cs) ?_;refine kD (cn) ?_;refine kO ?_;refine kB true ?_ ?_
     ·exact(by simp;omega)
     refine kW ?_;refine kD (cf) ?_;refine kG ?_
     refine kO4 ?_
     refine kB true ?_ ?_
     ·exact(by simp[hc])
     iterate 9 refine kO ?_
     refine kT ?_;exact kF
  ·obtain rfl:p=a:=by omega
   rw[show oN p b p c=b from if_pos ⟨rfl,hb0⟩];unfold iC;dsimp only
   by_cases h0:t.1=0
   ·rcases hb with rfl|rfl
    all_goals
     refine kU func16 ?_;refine kR ?_;refine kI ?_;refine kO ?_;refine kQ (c1) ?_;refine mL ab (l:=s) (j:=p) ha rfl rfl rfl rfl rfl rfl rfl rfl ?_;refine kQ (c2) ?_;refine kZ (cs) ?_;refine kD (cn) ?_;refine kO ?_;refine kB false ?_ ?_
     ·exact(by simp;omega)
     refine kG ?_
     refine kO4 ?_
     refine kB true ?_ ?_
     ·exact(by simp[hc])
     iterate 9 refine kO ?_
     refine kE ?_;exact kF
   ·rcases hb with rfl|rfl
    all_goals
     refine kU func16 ?_;refine kR ?_;refine kI ?_;refine kO ?_;refine kQ (c1) ?_;refine mL ab (l:=s) (j:=p) ha rfl rfl rfl rfl rfl rfl rfl rfl ?_;refine kQ (c2) ?_;refine kZ (cs) ?_;refine kD (cn) ?_;refine kO ?_;refine kB true ?_ ?_
     ·exact(by simp;omega)
     refine kW ?_;refine kD (cf) ?_;refine kG ?_
     refine kO4 ?_
     refine kB true ?_ ?_
     ·exact(by simp[hc])
     iterate 9 refine kO ?_
     refine kE ?_;exact kF
theorem rB (s:List UInt8) (T:List Tk) (c1:aa Tryz.prog 42 [dL s] (jO (.ok T))) (hT:wL T s.length):aa Tryz.prog 17 [dL s] (iC (jh T 0 s.length)):=by
 have c1:aa Tryz.prog 42 [dL s] (.tup [.leaf (.sl T.length (co T)),dN .i64 0,dN .i64 0]):=c1;obtain⟨x,hx⟩:=jC T;have cs:=(xY s.length 0 0 _).sum T x hT.w hT.z hx;have hpos:=eR (E:=s.length) _ _ _ _ hT.w hT.le hx;obtain⟨t0,r0,hT0⟩:=hT.w.ne;have cf0:=(bE t0 r0 0 0 0).ren0 2002 rfl rfl rfl;rw[← hT0]at cf0;unfold jh;rw[hx];cases x with
 |ok z=>
  obtain⟨e,r⟩:=z;obtain⟨hwx,hsz,hwr,hsub⟩:=pp hT hx;obtain⟨cs,_,hzr⟩:=cs;obtain⟨t,r,rfl⟩:=hwr.ne;have cs:=cs.ren1 2002 rfl rfl rfl;have cn:=(bE t r 0 0 0).ren0 2002 rfl rfl rfl;have cw:=(mO t r 0 0 hzr).ren0 2002 rfl rfl rfl;have cd:=ww (rx e) hwx hsz;dsimp only;obtain⟨o1,na1,xs1,nb1,ys1,nm1,n1,cs1,hA⟩:=aX e;have hE:dE e= .agg (ac o1 na1 xs1 nb1 ys1 nm1 n1 cs1):=congrArg DV.agg hA;rw[hE]at cs;rw[show dR (rx e)= .agg (ac o1 na1 xs1 nb1 ys1 nm1 n1 cs1) from congrArg DV.agg hA]at cd
  by_cases h0:t.1=0
  ·rw[if_neg (fun h=>h h0),if_neg (fun h=>h rfl)]
   by_cases hd:rz (rx e)≤40
   ·rw[if_pos hd]
    unfold iC;dsimp only;rw[hE];refine kU func17 ?_;refine kR ?_;refine kI ?_;refine kO ?_;refine kQ (c1) ?_;refine kZ (cf0) ?_;refine kZ (cs) ?_;refine kD (cn) ?_;refine kO ?_;refine kB false ?_ ?_
    ·exact(by simp;omega)
    refine kW ?_;refine kC (cd) ?_;refine kE ?_;exact kF
   ·rw[if_neg hd,hT0]
    unfold iC;dsimp only;refine kU func17 ?_;refine kR ?_;refine kI ?_;refine kO ?_;refine kQ (c1) ?_;refine kZ (cf0) ?_;refine kZ (cs) ?_;refine kD (cn) ?_;refine kO ?_;refine kB false ?_ ?_
    ·exact(by simp;omega)
    refine kW ?_;refine kC (cd) ?_;refine kT ?_;exact kF
  ·rw[if_pos h0]
   rw[wK]at cw;unfold iC;dsimp only;refine kU func17 ?_;refine kR ?_;refine kI ?_;refine kO ?_;refine kQ (c1) ?_;refine kZ (cf0) ?_;refine kZ (cs) ?_;refine kD (cn) ?_;refine kO ?_;refine kB true ?_ ?_
   ·exact(by simp;omega)
   refine kW ?_;refine kD (cw) ?_;exact kF
 |error z=>
  obtain⟨p,c⟩:=z;obtain⟨hc,y,ts',cs,hw,_⟩:=cs;obtain⟨t,r,rfl⟩:=hw.ne;have cs:=cs.ren1 2002 rfl rfl rfl;rw[wK]at cs;obtain⟨o1,na1,xs1,nb1,ys1,nm1,n1,cs1,hA⟩:=au y;rw[show dR y= .agg (ac o1 na1 xs1 nb1 ys1 nm1 n1 cs1) from congrArg DV.agg hA]at cs;dsimp only;rw[wK];unfold iC;dsimp only;refine kU func17 ?_;refine kR ?_;refine kI ?_;refine kO ?_;refine kQ (c1) ?_;refine kZ (cf0) ?_;refine kD (cs) ?_;refine kG ?_
  refine kO4 ?_
  refine kB false ?_ ?_
  ·exact decide_eq_false hc
  refine kG ?_
  refine kO4 ?_
  refine kB true ?_ ?_
  ·exact(by simp[hc])
  exact kF
theorem rQ (s:List UInt8) (T:List Tk) (a:Nat) (b:Int) (hb:b=2∨b=3) (ha:a≤s.length) (c1:aa Tryz.prog 42 [dL s] (jO (.error (a,b)))) (c2:aa Tryz.prog 42 [dL (s.take a)] (jO (.ok T))) (hT:wL T a):aa Tryz.prog 17 [dL s] (iC (jh T b a)):=by
 have hb0:b≠0:=by omega
 have c1:aa Tryz.prog 42 [dL s] (.tup [.leaf (.sl 0 []),dN .i64 a,dN .i64 b]):=c1;have c2:aa Tryz.prog 42 [dL (s.take a)] (.tup [.leaf (.sl T.length (co T)),dN .i64 0,dN .i64 0]):=c2;obtain⟨x,hx⟩:=jC T;have cs:=(xY a b 0 _).sum T x hT.w hT.z hx;obtain⟨t0,r0,hT0⟩:=hT.w.ne;have cf0:=(bE t0 r0 b 0 0).ren0 2002 rfl rfl rfl;rw[← hT0]at cf0;unfold jh;rw[hx];cases x with
 |ok z=>
  obtain⟨e,r⟩:=z;obtain⟨hwx,hsz,hwr,hsub⟩:=pp hT hx;obtain⟨cs,_,hzr⟩:=cs;obtain⟨t,r,rfl⟩:=hwr.ne;have hz:=hT.z t (hsub t (by simp));have cs:=cs.ren1 2002 rfl rfl rfl;have cn:=(bE t r b 0 0).ren0 2002 rfl rfl rfl;have cw:=(mO t r b 0 hzr).ren0 2002 rfl rfl rfl;dsimp only;obtain⟨o1,na1,xs1,nb1,ys1,nm1,n1,cs1,hA⟩:=aX e;rw[show dE e= .agg (ac o1 na1 xs1 nb1 ys1 nm1 n1 cs1) from congrArg DV.agg hA]at cs
  by_cases h0:t.1=0
  ·rw[if_neg (fun h=>h h0),if_pos hb0]
   rw[Aw hzr h0 hb0,hz.1 h0]at cw;unfold iC;dsimp only;rcases hb with rfl|rfl
   all_goals
    refine kU func17 ?_;refine kR ?_;refine kI ?_;refine kO ?_;refine kQ (c1) ?_;refine mL ab (l:=s) (j:=a) ha rfl rfl rfl rfl rfl rfl rfl rfl ?_;refine kQ (c2) ?_;refine kZ (cf0) ?_;refine kZ (cs) ?_;refine kD (cn) ?_;refine kO ?_;refine kB false ?_ ?_
    ·exact(by simp;omega)
    refine kW ?_;refine kD (cw) ?_;exact kF
  ·rw[if_pos h0]
   rw[yu hzr h0]at cw;unfold iC;dsimp only;rcases hb with rfl|rfl
   all_goals
    refine kU func17 ?_;refine kR ?_;refine kI ?_;refine kO ?_;refine kQ (c1) ?_;refine mL ab (l:=s) (j:=a) ha rfl rfl rfl rfl rfl rfl rfl rfl ?_;refine kQ (c2) ?_;refine kZ (cf0) ?_;refine kZ (cs) ?_;refine kD (cn) ?_;refine kO ?_;refine kB true ?_ ?_
    ·exact(by simp;omega)
    refine kW ?_;refine kD (cw) ?_;exact kF
 |error z=>
  obtain⟨p,c⟩:=z;obtain⟨hc,y,ts',cs,hw,_⟩:=cs;obtain⟨t,r,rfl⟩:=hw.ne;have cs:=cs.ren1 2002 rfl rfl rfl;have hc2:oN a b p c≠0:=oj hc;dsimp only;generalize oN a b p c=c3 at *;obtain⟨o1,na1,xs1,nb1,ys1,nm1,n1,cs1,hA⟩:=au y;rw[show dR y= .agg (ac o1 na1 xs1 nb1 ys1 nm1 n1 cs1) from congrArg DV.agg hA]at cs;unfold iC;dsimp only;rcases hb with rfl|rfl
  all_goals
   refine kU func17 ?_;refine kR ?_;refine kI ?_;refine kO ?_;refine kQ (c1) ?_;refine mL ab (l:=s) (j:=a) ha rfl rfl rfl rfl rfl rfl rfl rfl ?_;refine kQ (c2) ?_;refine kZ (cf0) ?_;refine kD (cs) ?_;refine kG ?_
   refine kO4 ?_
   refine kB false ?_ ?_
   ·exact decide_eq_false hc2
   refine kG ?_
   refine kO4 ?_
   refine kB true ?_ ?_
   ·exact(by simp[hc2])
   exact kF
theorem zx {T:List Tk} {E m:Nat} (h:l6 E T m) (hm:m≤500) (hl:T.length≤m+1):wL T E:=⟨h.w hm,h.z,fun t ht=>Nat.le_trans (h.s t ht) (by omega),by omega⟩
theorem ks:∀(f:Nat) (r:List UInt8) (at_:Nat) (acc L:List Tk),dl f r at_ acc= .ok L→L.length≤acc.length+r.length+1
 |0,_,_,_,_,h=>by cases h
 |f+1,[],at_,acc,L,h=>by
  rw[dl]at h;cases h
  simp
 |f+1,c::r,at_,acc,L,h=>by
  rw[dl]at h
  split at h
  ·have:=ks f _ _ _ _ h
   simp only[List.length_cons];omega
  ·split at h
   ·cases h
   ·split at h
    ·cases h
    ·have:=ks f _ _ _ _ h
     have hl:=vh (c::r)
     simp only[List.length_append,List.length_cons,List.length_nil,List.length_drop]at this hl ⊢
     omega
theorem ug (s:List UInt8) (hl:s.length≤500):aa Tryz.prog 16 [dL s] (iC (nF s))∧aa Tryz.prog 17 [dL s] (iC (nF s)):=by
 have h:=je (s.length+1) s 0 [] (Nat.lt_succ_self _);have hlen:=ks (s.length+1) s 0 [];have c1:=oH s (by omega);have c2:=lI s (by omega);unfold nF;cases hR:dl (s.length+1) s 0 []with
 |ok L=>
  rw[hR]at h c1 c2 hlen;obtain⟨T,h0,rfl,h2⟩:=h
  try simp only[List.nil_append]at *
  rw[Nat.zero_add]at h2;have hg:=zx h2 hl (by have:=hlen _ rfl;simp at this;omega);exact⟨wF s _ c1 hg,rB s _ c2 hg⟩
 |error z=>
  obtain⟨a,b⟩:=z;rw[hR]at h c1 c2;obtain⟨hb,_,ha,T,h0,h2,h3⟩:=h;rw[Nat.zero_add]at ha;rw[Nat.sub_zero]at h2;have hta:(s.take a).length=a:=by rw[List.length_take];omega
  have e:=h2 (a+1) [] (Nat.lt_succ_self _);rw[List.nil_append]at e;have hl2:=ks _ _ _ _ _ e
  simp only[List.length_nil]at hl2
  have c3:=oH (s.take a) (by omega);have c4:=lI (s.take a) (by omega);have hg:=zx h3 hl (by omega);dsimp only;rw[hta,e]at c3 c4 ⊢;exact⟨xI s T a b hb ha c1 c3 hg,rQ s T a b hb ha c2 c4 hg⟩
def fK:B4→Nat
 | .add=>1
 | .sub=>1
 | .mul=>2
 | .div=>2
def GJ:Ex→Nat
 | .num _ _=>4
 | .nam _=>4
 | .neg _=>3
 | .bin k _ _=>fK k
def ny:B4→List UInt8
 | .add=>[32,43,32]
 | .sub=>[32,45,32]
 | .mul=>[32,42,32]
 | .div=>[32,47,32]
noncomputable def GD (v:Rat):List UInt8:=(fx v).getD []
def qg (u:List UInt8):List UInt8:=if u=[]then []else 32::u
def qK (lv least:Nat) (t:List UInt8):List UInt8:=if lv<least then [40]++t++[41]else t
noncomputable def b5:Ex→Nat→List UInt8
 | .num v u,n=>qK 4 n (GD v++qg u)
 | .nam s,n=>qK 4 n s
 | .neg a,n=>qK 3 n ([45]++b5 a 3)
 | .bin k a b,n=>qK (fK k) n (b5 a (fK k)++ny k++b5 b (fK k+1))
def xN:Ex→Prop
 | .num v u=>(fx v).isSome=true∧jb 510 v∧(u=[]∨xV u=true)
 | .nam s=>xV s=true
 | .neg a=>xN a
 | .bin _ a b=>xN a∧xN b
theorem oC (e:Ex) (n:Nat):b5 e n=qK (GJ e) n (b5 e 0):=by
 have h0:∀(lv:Nat) (t:List UInt8),qK lv 0 t=t:=fun lv t=>if_neg (Nat.not_lt_zero _)
 cases e<;>simp only[b5,GJ,h0]
theorem mV {P:Program} {w:World} (t u ty:TypeId) (e:TypeId) (i:TypeInfo) (ht:P.underlying t=some (.slice e)) (hu:P.underlying u=some .string) (hi:P.info? e=some i) (hz:i.zero=some (.int .u8 0))
 (hsize:i.size=1) (hby:i.bytes=1)
 (v:Value) (n:Nat) (xs:List Value) (hown:w.ownsRow 0 e 1 v n xs) (s:ByteArray)
 (hm:0<s.size) (h63:n+s.size≤maxLen) (hbytes:n+s.size≤140737488355328):
 ∃g cap w',(Builtin.append_ #[t,u] ty #[v, .string s]).run P w= .ok (.slice (some ⟨g,0,none⟩) (n+s.size) cap) w' ∧
  w'.ownsRow 0 e 1 (.slice (some ⟨g,0,none⟩) (n+s.size) cap) (n+s.size) (xs++Lib.strCells s)∧w.grownBy w' v.ownBlock∧(v.ownBlock=some g∨g=w.heap.size)∧g<w'.heap.size ∧
  (v.ownBlock≠some g→ ∀b,b<w.heap.size→w'.heap[b]? =w.heap[b]?) ∧
  (∀arr,v.ownBlock=some g→w.heap[g]? =some (.cells arr e (0,0))→ ∀cur,w'.heap[g]? =some (.cells cur e (0,0))→cur.size=arr.size) ∧
  (∀(p:Value→Prop),p (.int .u8 0)→(∀u∈Lib.strCells s,p u)→(∀b,v.ownBlock=some b→ ∀arr,w.heap[b]? =some (.cells arr e (0,0))→ ∀u∈arr.toList,p u)→ ∀cur,w'.heap[g]? =some (.cells cur e (0,0))→ ∀u∈cur.toList,p u):=by
 have hsmall:n+s.size≤9223372036854775807:=by simp only[maxLen]at h63;omega
 have hxl:xs.length=n:=by simpa using hown.1
 have hsl:(Lib.strCells s).length=s.size:=Lib.strCells_length s;have hlen:(xs++Lib.strCells s).length=(n+s.size)*1:=by rw[List.length_append,hxl,hsl,Nat.mul_one]
 have pz:∀(p:Value→Prop) k,p (.int .u8 0)→ ∀u∈(Builtin.zeroCells (Value.int .u8 0).cells k).toList,p u:=by
  intro p k hp u hu;obtain⟨q,hq⟩:=List.getElem?_of_mem hu;obtain⟨hql,hqe⟩:=(List.getElem?_eq_some_iff.1 hq)
  simp only[Builtin.zeroCells]at hqe hql
  rw[← hqe];have hc:(Value.int IntKind.u8 0).cells= #[.int .u8 0]:=rfl
  simp only[Array.getElem_toList,Array.getElem_map,Array.getElem_range,hc]
  have h1:(#[Value.int IntKind.u8 0]:Array Value).size=1:=rfl;have h2:q%(#[Value.int IntKind.u8 0]:Array Value).size=0:=by rw[h1];omega
  rw[h2];exact hp
 have grown:∀(old:Nat),old<n+s.size→ ∀(row:Option Nat),
  (w.drew.alloc (.cells (xs.toArray++(Lib.strCells s).toArray++Builtin.zeroCells (Value.int .u8 0).cells (grownCap w (n+s.size) old e-(n+s.size))) e)).ownsRow 0 e 1
   (.slice (some ⟨w.heap.size,0,none⟩) (n+s.size) (grownCap w (n+s.size) old e)) (n+s.size) (xs++Lib.strCells s) ∧
  w.grownBy (w.drew.alloc (.cells (xs.toArray++(Lib.strCells s).toArray++Builtin.zeroCells (Value.int .u8 0).cells (grownCap w (n+s.size) old e-(n+s.size))) e)) row:=by
  intro old ho row;have hge:=grownCap_ge w (n+s.size) old e;have hcm:grownCap w (n+s.size) old e≤maxLen:=grownCap_le_maxLen w (n+s.size) old e h63;refine⟨⟨hlen, .inr ⟨w.heap.size,_,_,rfl,Nat.zero_le _,heap_alloc_new w.drew _,hge,hcm,?_,?_⟩⟩,⟨rfl,rfl,rfl,by simp,fun k hk _=>Below.heap_alloc w.drew _ k hk⟩⟩
  ·have hz1:(Value.int IntKind.u8 0).cells.size=1:=rfl
   simp only[Array.size_append,List.size_toArray,size_zeroCells,hz1,hxl,hsl]
   omega
  ·simp only[Array.toList_append,List.append_assoc]
   rw[← List.append_assoc,← hlen];exact List.take_left
 have fresh:∀(old:Nat) (p:Value→Prop),p (.int .u8 0)→(∀u∈Lib.strCells s,p u)→(∀u∈xs,p u)→ ∀cur,(w.drew.alloc (.cells (xs.toArray++(Lib.strCells s).toArray++Builtin.zeroCells (Value.int .u8 0).cells (grownCap w (n+s.size) old e-(n+s.size))) e)).heap[w.heap.size]? =some (.cells cur e (0,0))→ ∀u∈cur.toList,p u:=by
  intro old p h2 h3 h4 cur hc u hu;have h5:=heap_alloc_new w.drew (.cells (xs.toArray++(Lib.strCells s).toArray++Builtin.zeroCells (Value.int .u8 0).cells (grownCap w (n+s.size) old e-(n+s.size))) e);have h6:(w.drew.alloc (.cells (xs.toArray++(Lib.strCells s).toArray++Builtin.zeroCells (Value.int .u8 0).cells (grownCap w (n+s.size) old e-(n+s.size))) e)).heap[w.heap.size]? =some (.cells (xs.toArray++(Lib.strCells s).toArray++Builtin.zeroCells (Value.int .u8 0).cells (grownCap w (n+s.size) old e-(n+s.size))) e (0,0)):=h5;rw[h6]at hc
  simp only[Option.some.injEq,Obj.cells.injEq]at hc
  rw[← hc.1]at hu
  simp only[Array.toList_append,List.mem_append]at hu
  rcases hu with(hu|hu)|hu
  ·exact h4 u (by simpa using hu)
  ·exact h3 u (by simpa using hu)
  ·exact pz p _ h2 u hu
 rcases hown.2 with⟨rfl,rfl⟩| ⟨g,cap,cur,rfl,hbg,hg,hnc,hcm,hcs,htake⟩
 ·have hx:xs=[]:=List.eq_nil_of_length_eq_zero hxl
  subst hx;have hr:=run_append_nil_string (P:=P) w t u ty e i (.int .u8 0) ht hu hi hz s hm (by omega) (by rw[hby];omega);have hgr:=grown 0 (by omega) (Value.ownBlock (.slice none 0 0));have hfr:=fresh 0
  simp only[Nat.zero_add,List.nil_append,Array.empty_append]at hgr hfr ⊢
  have e1:(s.data.map fun b=>Value.int .u8 b.toNat)=(Lib.strCells s).toArray:=by
   apply Array.ext'
   simp[Lib.strCells]
  rw[e1]at hr;refine⟨_,_,_,hr,hgr.1,hgr.2,Or.inr rfl,?_,fun _ b hb=>Below.heap_alloc w.drew _ b hb,fun _ h=>by simp[Value.ownBlock]at h,fun p h2 h3 _=>hfr p h2 h3 (fun u hu=>by cases hu)⟩;show w.heap.size<(w.heap.push _).size
  simp
 ·by_cases hroom:n+s.size≤cap
  ·have hcs':cur.size=cap:=by simpa using hcs
   have hr:=Lib.run_append_room_string (P:=P) w t u ty e i ht hu hi hsize g n cap cur hg s hroom (by omega);have hset:=setRow_heap w g cur (cur.toList.take n++Lib.strCells s++cur.toList.drop (n+s.size)).toArray e (0,0) hg;refine⟨g,cap,_,hr,⟨hlen, .inr ⟨g,cap,_,rfl,hbg,hset,hroom,hcm,?_,?_⟩⟩,⟨rfl,rfl,rfl,by simp,fun k _ hk=>setRow_other w g k _ (fun e=>hk (by simp[Value.ownBlock,e]))⟩,Or.inl rfl,?_,fun h=>absurd rfl h,?_,?_⟩
   ·simp only[List.size_toArray,List.length_append,List.length_take,List.length_drop,Array.length_toList,hsl]
    omega
   ·have ht':cur.toList.take n=xs:=by simpa using htake
    rw[ht',← hlen];exact List.take_left
   ·exact(Array.getElem?_eq_some_iff.1 hset).1
   ·intro arr _ harr cur' hc
    rw[hset]at hc;rw[hg]at harr
    simp only[Option.some.injEq,Obj.cells.injEq]at hc harr
    rw[← hc.1,← harr.1]
    simp only[List.size_toArray,List.length_append,List.length_take,List.length_drop,Array.length_toList,hsl]
    omega
   ·intro p _ h3 h4 cur' hc u hu
    rw[hset]at hc
    simp only[Option.some.injEq,Obj.cells.injEq]at hc
    rw[← hc.1]at hu
    simp only[List.mem_append]at hu
    have hold:=h4 g rfl cur hg;rcases hu with(hu|hu)|hu
    ·exact hold u (List.mem_of_mem_take hu)
    ·exact h3 u hu
    ·exact hold u (List.mem_of_mem_drop hu)
  ·have holds:∀j u,xs[j]? =some u→w.cell? ((⟨g,0,none⟩:Addr).add j)=some u:=hown.cells (g:=g) rfl
   have hr:=Lib.run_append_grow_string (P:=P) w t u ty e i (.int .u8 0) ht hu hi hz ⟨g,0,none⟩ n cap xs (by rw[hsize];simpa using hxl) holds s (by omega) (by omega) (by rw[hby];exact growslice_fits (by omega) (by omega));have hgr:=grown cap (by omega) (Value.ownBlock (.slice (some ⟨g,0,none⟩) n cap));have hgl:g<w.heap.size:=(Array.getElem?_eq_some_iff.1 hg).1
   refine⟨_,_,_,hr,hgr.1,hgr.2,Or.inr rfl,?_,fun _ b hb=>Below.heap_alloc w.drew _ b hb,fun arr h=>?_,fun p h2 h3 h4=>fresh cap p h2 h3 (fun u hu=>h4 g rfl cur hg u ?_)⟩
   ·show w.heap.size<(w.heap.push _).size
    simp
   ·simp only[Value.ownBlock,Option.some.injEq]at h
    omega
   ·rw[← htake]at hu
    exact List.mem_of_mem_take hu
def pq (l:List UInt8):List AV:=l.map fun c=>AV.val (.int .u8 c.toNat)
theorem Ap (l:List UInt8):(pq l).length=l.length:=by simp[pq]
theorem F4 (l m:List UInt8):pq (l++m)=pq l++pq m:=by simp[pq]
theorem so (l:List UInt8):Lib.strCells (Bs l)=l.map fun c=>Value.int .u8 c.toNat:=by
 simp[Lib.strCells,Bs]
theorem Jk (S:Nat→Prop) (w:World) (l:List UInt8):CM S w (pq l) (Lib.strCells (Bs l)):=by
 rw[so];refine⟨by simp[pq],fun i a v h1 h2=>?_⟩
 simp only[pq,List.getElem?_map,Option.map_eq_some_iff]at h1 h2
 obtain⟨c,h3,rfl⟩:=h1;obtain⟨c',h4,rfl⟩:=h2;rw[h3]at h4;cases h4;exact .val rfl
section
variable {P:Program} {T:TypeId→Option Ty} {n:Nat} {ops:Array Oper} {id:Nat} {draw:Bool} {K:AS→Prop} {s:AS} {k:Nat} {o:Oper} {os:List Oper} {fps:List FP}
structure D6 (P:Program) (t u e:TypeId):Prop where
 sl:P.underlying t=some (.slice e)
 str:P.underlying u=some .string
 inf:∃i,P.info? e=some i∧i.zero=some (.int .u8 0)∧i.size=1∧i.bytes=1
theorem Dt (j':Nat) {d:Nat} {x y:Operand} {t u et m1 m:Nat} {dead:Option Nat} {cs cs':List AV} {l:List UInt8} (em:m1+l.length=m) (ec:cs.take (m1*1)++pq l=cs') (hbt:D6 P t u et) (hm:l≠[]) (hb:m1+l.length≤140737488355328) (h0:draw=false) (h1:gd ops s o=some true) (ho:o.op= .call ⟨.builtin .append,#[x,y],#[t,u]⟩) (hd:o.dst=some d) (h3:bd n o.dst=true)
 (hbase:fM s x m1 1 et dead cs) (hy:s.ev y= .d (.leaf (.val (vL l)))) (hnew:iD s j'=true) (hcl:kM dead=true)
 (h:aw P T n ops id draw K (k+1) os ⟨(d, .own j' m 1 et)::s.t,(j',some cs')::gQ dead s.b⟩ (aM ops o ⟨.junk,none⟩ []::fps)):aw P T n ops id draw K k (o::os) s fps:=by
 subst em ec;refine .snd h0 h1 (fun S0 w0 g a w K' Q hM hK=>?_) h;obtain⟨i,hi,hz,his,hib⟩:=hbt.inf;obtain⟨v,hxv,olds,hown,hblk,hcln,holds⟩:=qG hM hbase;have hyv:=bw hM hy;have hsz:(Bs l).size=l.length:=aB l;have hpos:0<(Bs l).size:=by rw[hsz];exact List.length_pos_iff.2 hm
 obtain⟨B,cap,w',hr,h2,h3',h4,_,h5,h6,h7⟩:=mV (P:=P) (w:=w) t u o.type et i hbt.sl hbt.str hi hz his hib v m1 olds hown (Bs l) hpos (by unfold maxLen;omega) (by omega);rw[hsz]at hr h2
 have:=pE (d:=d) hM (fm h3 d hd) hbase (xs:=pq l) (m2:=l.length) (by rw[Ap];omega) (dh hnew) (lq hnew) hown hblk hcln holds (Jk _ _ l) h2 h3' h4 h5 h6 (fun hwf cur hc u' hu=>by
  refine h7 (fun u=>iS u=true) rfl (fun u hu=>?_) (fun b hb arr har u hu=>?_) cur hc u' hu
  ·rw[so]at hu
   obtain⟨c,_,rfl⟩:=List.mem_map.1 hu;rfl
  ·obtain⟨j,hj,rfl⟩:=hblk b hb
   obtain⟨_,arr',h11,h12⟩:=hcln j hj;rw[h11]at har
   simp only[Option.some.injEq,Obj.cells.injEq]at har
   obtain⟨rfl,_⟩:=har;rw[hj]at hcl;exact h12 (by simpa[kM]using hcl) u hu)
 unfold Oper.wp execOp
 simp only[ho,resolve,invoke,builtin,Sem.run_bind,Sem.run_pure,Result.andThen_ok,List.map_toArray,List.map_cons,List.map_nil,hxv,hyv,vL,hr]
 show K' (a.put o.dst _) w';rw[hd];exact hK _ _ _ this
theorem Jp (hz:(P.info? uY).bind (·.zero)=some (.agg #[.pointer none, .slice none 0 0])) {d:Nat} (h1:gd ops s o=some true) (ho:o.op= .alloc uY) (hd:o.dst=some d) (hj:ak s.b 850=none) (h3:bd n o.dst=true)
 (h4:gN draw ops (aM ops o ⟨.box 850 0,some [(850,some [.val (.pointer none), .nl])]⟩ [850]) k fps=true) (h:aw P T n ops id draw K (k+1) os (s.eff o.dst ⟨.box 850 0,some [(850,some [.val (.pointer none), .nl])]⟩) (aM ops o ⟨.box 850 0,some [(850,some [.val (.pointer none), .nl])]⟩ [850]::fps)):aw P T n ops id draw K k (o::os) s fps:=
 .run h1 (.gen fun s2 _ hrb=>nG hd ⟨(hrb 850 (by simp)).trans hj,rfl⟩ (fun n S0 w0 g a w hM=>by
  refine⟨#[.pointer none, .slice none 0 0],uY,?_,CM.cons (.val rfl) (CM.cons .nl (CM.nil _ _)),fun _=>⟨rfl,rfl⟩⟩;unfold execOp;rw[ho]
  simp only[Instr.alloc,Sem.run_bind,kK hz w,Result.andThen_ok]
  rfl) rfl) h3 h4 h
end
theorem D7:D6 Tryz.prog 50 9 5:=⟨underlying50,underlying9,by
 obtain⟨i,h1,h2⟩:=Option.map_eq_some_iff.1 ro
 simp only[Prod.mk.injEq]at h2
 exact⟨i,h1,h2.1,h2.2.1,h2.2.2⟩⟩
theorem vP:((Tryz.prog).info? uY).bind (·.zero)=some (.agg #[.pointer none, .slice none 0 0]):=by kernel_rfl
def He:Ty:=⟨true,2,32,[.val (.pointer none), .nl],[(0,1,false),(1,1,false)],none,false,false,none⟩
theorem qa:bG Tryz.prog 52 He where
 size:=by kernel_rfl
 bytes:=by kernel_rfl
 und:=by
  refine⟨_,underlying52,rfl,fun et k h=>(by cases h),fun fs h=>?_,fun h=>(by cases h),fun h=>(by cases h),fun k h=>(by cases h),fun f o k b h=>?_⟩
  ·cases h;rfl
  ·match f,h with
   |0,h=>cases h;exact⟨_,_,_,rfl,rfl,rfl,by kernel_rfl,by decide,underlying49,rfl⟩
   |1,h=>cases h;exact⟨_,_,_,rfl,rfl,rfl,by kernel_rfl,by decide,underlying50,rfl⟩
   |n+2,h=>simp[He]at h
 zero:=⟨_,vP,fun S w=>CM.cons (.val rfl) (CM.cons .nl (CM.nil _ _))⟩
 zlen:=rfl
section
variable {P:Program} {T:TypeId→Option Ty} {n:Nat} {ops:Array Oper} {id:Nat} {draw:Bool} {K:AS→Prop} {s:AS} {k:Nat} {o:Oper} {os:List Oper} {fps:List FP}
theorem xA {t:TypeId} {ty:Ty} {x:Operand} {f off k0 j i:Nat} {ag:Bool} {cs:List AV} (hT:bG P t ty) (hf:ty.flds[f]? =some (off,k0,ag)) (h1:gd ops s o=some true) (ho:o.op= .fieldAddr t x f) (hx:s.ev x= .box j i) (hj:s.bx j=some cs) (h3:bd n o.dst=true)
 (h4:gN draw ops (aM ops o ⟨.box j (i+off),none⟩ [j]) k fps=true) (h:aw P T n ops id draw K (k+1) os (s.eff o.dst ⟨.box j (i+off),none⟩) (aM ops o ⟨.box j (i+off),none⟩ [j]::fps)):aw P T n ops id draw K k (o::os) s fps:=
 .run h1 (.gen fun s2 ht hrb=>by
  have hx2:=(aL ht (x:=x) (by simp[ho,Op.operands])).trans hx;exact jT hT ho hf hx2 rfl (fun j' k' e=>by cases e;exact⟨cs,(cO (hrb j (by simp))).trans hj⟩)) h3 h4 h
theorem GF {v:Value} (hv:v.oneCell'=true) (h1:gd ops s o=some true) (ho:o.op= .assign (.const v)) (h3:bd n o.dst=true) (h4:gN draw ops (aM ops o ⟨.d (.leaf (.val v)),none⟩ []) k fps=true)
 (h:aw P T n ops id draw K (k+1) os (s.eff o.dst ⟨.d (.leaf (.val v)),none⟩) (aM ops o ⟨.d (.leaf (.val v)),none⟩ []::fps)):aw P T n ops id draw K k (o::os) s fps:=
 .run h1 (.gen fun s2 _ _=>aj (tv:= .d (.leaf (.val v))) fun n S0 w0 g a w hM=>⟨v,w,(by
  unfold execOp;rw[ho]
  rfl),Below.refl _ _,AV.M.val hv⟩) h3 h4 h
end
section
open Go.Shelf Go.RowKit
abbrev xU:BL:=[(950,[.val (.pointer none), .nl])]
abbrev iW (r:Nat) (l:List UInt8):BL:=[(950,[.bp 950 0, .ow r l.length 1 5]),(r,pq l)]
theorem As {r:Nat} {l:List UInt8}:fk xU (iW r l):=fun j cs cs' h h'=>by
 obtain⟨rfl,rfl⟩:=bk.1 h;have h':some _=some cs':=h';cases h';exact Nat.le_refl 2
theorem jv {r r':Nat} {l l':List UInt8} (h5:(r == r')=false) (h9:(r == 950)=false) (h9':(r' == 950)=false):fk (iW r l) (iW r' l'):=fun j cs cs' h h'=>by
 rw[beq_eq_false_iff_ne]at h5 h9 h9';rw[dy]at h h'
 by_cases e:j=950
 ·subst e
  have h:some (some _)=some (some cs):=h;have h':some (some _)=some (some cs'):=h';cases h;cases h';exact Nat.le_refl 2
 ·rw[aF,aD _ _ (Ne.symm e),aF]at h h'
  by_cases e2:r=j
  ·subst e2
   rw[aD _ _ (Ne.symm h5)]at h';cases h'
  ·rw[aD _ _ e2]at h
   cases h
theorem I6 {S:Nat→Prop} {w:World} {v:Value} (h:AV.M S w .nl v):v= .slice none 0 0:=by cases h;rfl
theorem Dj {S:Nat→Prop} {g:Nat→Nat} {b:BL} {r:RT} {w:World} {v:Value} (h:Fa S g w b) (hv:TV.M (Own S g (sB b)) g (sB b) w r.tv v):uA S g b r b w (.returned v) w:=
 ⟨v,g,rfl,fun j cs cs' h1 h2=>by rw[h1]at h2;cases h2;exact⟨rfl,Nat.le_refl _⟩,fun j cs' hj=>⟨.inr ⟨j,cs',hj,rfl⟩,h.bm j cs' hj⟩,h.inj,hv,cS.refl _ _⟩
theorem JG {S:Nat→Prop} {g:Nat→Nat} {s:AS} {w:World}:TV.M S g s w (RT.v (.tup [])).tv (.tuple #[]):=⟨[],rfl,rfl,fun i x u h1 _=>by simp at h1⟩
theorem ux {S:Nat→Prop} {g:Nat→Nat} {b:BL} {w:World} {j:Nat} {cs:List AV} {vs:List Value} (hj:(sB b).bx j=some cs) (hv:nQ S g (sB b) w [.box j 0] vs):vs=[.pointer (some ⟨g j,0,none⟩)]:=by
 match vs,hv with
 | [v],⟨h,_⟩=>rw[h.2 cs hj]
theorem Gl (r:Nat) (l:List UInt8):az Tryz.prog 85 [.box 950 0] (iW r l) (.v (.tup [])) (iW r l):=by
 refine⟨ay func85 rfl rfl,fun S g w vs hpre hv=>?_⟩;have hj:(sB (iW r l)).bx 950=some [.bp 950 0, .ow r l.length 1 5]:=rfl;rw[ux hj hv];obtain⟨arr,e,h1,h2,_,h4,h5⟩:=hpre.bm 950 _ hj;have hlen:=(h5 rfl).2
 have h0:w.cell? ⟨g 950,0,none⟩=some (.pointer (some ⟨g 950,0,none⟩)):=by
  rw[eh h1];have hx:arr.toList[0]? =some arr[0]:=by simp[hlen]
  have:=h4 rfl 0 (.bp 950 0) arr[0] rfl hx;rw[show arr[0]? =some arr[0] by simp[hlen],this.2 _ hj]
 refine(kg (g 950) w h0).mono ?_;rintro e w' ⟨rfl,rfl⟩;exact Dj hpre JG
theorem Bg {w:World} {B:Nat} {arr:Array Value} {e:TypeId} {v:Value} (h:w.heap[B]? =some (.cells arr e (0,0))):(w.setCell ⟨B,0,none⟩ v).heap[B]? =some (.cells (arr.setIfInBounds 0 v) e (0,0)):=by
 simp[World.setCell,Array.getElem?_modify,h]
theorem yp {w:World} {B k:Nat} {v:Value} (h:k≠B):(w.setCell ⟨B,0,none⟩ v).heap[k]? =w.heap[k]?:=by
 simp[World.setCell,Array.getElem?_modify,Ne.symm h]
theorem E3:az Tryz.prog 85 [.box 950 0] xU (.v (.tup [])) [(950,[.bp 950 0, .nl])]:=by
 refine⟨ay func85 rfl rfl,fun S g w vs hpre hv=>?_⟩;have hj:(sB xU).bx 950=some [.val (.pointer none), .nl]:=rfl;rw[ux hj hv];obtain⟨arr,e,h1,h2,h3,h4,h5⟩:=hpre.bm 950 _ hj;obtain⟨rfl,hlen⟩:=h5 rfl;have h20:=h2.2 0 (.val (.pointer none)) arr[0] rfl (by simp[hlen]);have h21:=h2.2 1 .nl arr[1] rfl (by simp[hlen])
 have h0:w.cell? ⟨g 950,0,none⟩=some (.pointer none):=by
  rw[eh h1,show arr[0]? =some arr[0] by simp[hlen],bP h20]
 refine(jP (g 950) w h0 (by simp[World.shape?,h1,hlen];rfl) (by simp[World.frozen?,h1])).mono ?_;rintro e w' ⟨rfl,rfl⟩;have hh:=Bg (v:= .pointer (some ⟨g 950,0,none⟩)) h1;have hO:∀c c',Own S g (sB [(950,c)])=Own S g (sB [(950,c')]):=fun c c'=>by rw[lE,lE]
 refine⟨_,g,rfl,?_,?_,?_,JG,?_⟩
 ·intro j cs cs' k1 k2
  obtain⟨rfl,rfl⟩:=bk.1 k1;obtain⟨_,rfl⟩:=bk.1 k2;exact⟨rfl,Nat.le_refl _⟩
 ·intro j cs' k2
  obtain⟨rfl,rfl⟩:=bk.1 k2;refine⟨.inr ⟨950,_,hj,rfl⟩,_,_,hh,⟨by simp[hlen],fun i a v ha hv=>?_⟩,fun _ v hv=>?_,fun _ i a v ha hv=>?_,fun _=>⟨rfl,by simp[hlen]⟩⟩
  ·match i,ha with
   |0,ha=>
    cases ha;have:v= .pointer (some ⟨g 950,0,none⟩):=by simpa[hlen]using hv.symm
    subst this;exact .bp rfl
   |1,ha=>
    cases ha;have:v=arr[1]:=by simpa[hlen]using hv.symm
    subst this;rw[I6 h21];exact .nl
  ·simp only[Array.toList_setIfInBounds]at hv
   rcases List.mem_or_eq_of_mem_set hv with h|h
   ·exact h3 rfl v h
   ·subst h;rfl
  ·match i,ha with
   |0,ha=>
    cases ha;have:v= .pointer (some ⟨g 950,0,none⟩):=by simpa[hlen]using hv.symm
    subst this;exact⟨⟨_,rfl⟩,fun _ _=>rfl⟩
   |1,ha=>cases ha;trivial
 ·intro i j ci cj k1 k2 _
  rw[(bk.1 k1).1,(bk.1 k2).1]
 ·refine⟨rfl,rfl,rfl,by simp[World.setCell],fun k hk hx=>?_,fun k hk hx a e fz ha=>?_⟩
  ·exact yp (fun h=>hx ⟨950,_,hj,h.symm⟩)
  ·rw[ma]at hx
   subst hx;rw[h1]at ha;cases ha;exact⟨_,_,hh,by simp⟩
theorem Ce (l:List UInt8) (hl:l≠[]) (hs:l.length≤100000000000000):ic Tryz.prog 57 [.box 950 0, .d (dL l)] xU (.v (.tup [dN .i64 l.length, .leaf (.val .nilIface)])) (iW 701 l):=by
 have hB:=aB l;refine q6 ab bn func57 rfl rfl rfl rfl rfl As ?_;refine kW ?_;refine kZ (E3) ?_;refine xA qa rfl rfl rfl rfl rfl rfl rfl ?_;refine kW ?_;refine Dt 701 (Nat.zero_add _) rfl D7 hl (by omega) rfl rfl rfl rfl rfl (.nil rfl rfl) rfl rfl rfl ?_;refine kW ?_;refine xA qa rfl rfl rfl rfl rfl rfl rfl ?_;refine kG ?_;refine kO ?_;refine fo (v':= .int .i64 ((l.length:Nat))) rfl rfl rfl rfl ?_ ?_
 ·exact congrArg (Value.int .i64) (by rw[hB])
 refine kO ?_;refine GF rfl rfl rfl rfl rfl ?_;refine kW ?_;exact⟨⟨_,rfl,rfl⟩,⟨rfl,rfl,trivial⟩⟩
theorem BD (l m:List UInt8) (hm:m≠[]) (hs:l.length+m.length≤100000000000000):ic Tryz.prog 57 [.box 950 0, .d (dL m)] (iW 700 l) (.v (.tup [dN .i64 m.length, .leaf (.val .nilIface)])) (iW 701 (l++m)):=by
 have hB:=aB m;have e1:pq (l++m)=(pq l).take (l.length*1)++pq m:=by rw[F4,Nat.mul_one,List.take_of_length_le (by rw[Ap];exact Nat.le_refl _)]
 refine q6 ab bn func57 rfl rfl rfl rfl rfl (jv rfl rfl rfl) ?_;refine kW ?_;refine kZ (Gl 700 l) ?_;refine xA qa rfl rfl rfl rfl rfl rfl rfl ?_;refine kW ?_;refine Dt 701 (List.length_append).symm e1.symm D7 hm (by omega) rfl rfl rfl rfl rfl (.own rfl rfl) rfl rfl rfl ?_;refine kW ?_;refine xA qa rfl rfl rfl rfl rfl rfl rfl ?_;refine kG ?_;refine kO ?_;refine fo (v':= .int .i64 ((m.length:Nat))) rfl rfl rfl rfl ?_ ?_
 ·exact congrArg (Value.int .i64) (by rw[hB])
 refine kO ?_;refine GF rfl rfl rfl rfl rfl ?_;refine kW ?_;exact⟨⟨_,rfl,rfl⟩,⟨rfl,rfl,trivial⟩⟩
end
section
open Go.Shelf Go.RowKit
def lS (a:Nat):Bool:=Nat.ble 700 a && Nat.ble a 740
theorem yH {a:Nat} (h:lS a=true):700≤a∧a≤740:=by
 simp only[lS,Bool.and_eq_true]at h
 exact⟨Nat.le_of_ble_eq_true h.1,Nat.le_of_ble_eq_true h.2⟩
theorem y7 {a:Nat} (h:lS a=true):dp a=false∧d4 a=false∧iV a=false:=by
 have:=yH h;refine⟨?_,?_,?_⟩
 ·unfold dp
  cases hb:Nat.ble 1000000 a
  ·rfl
  ·have:=Nat.le_of_ble_eq_true hb;omega
 ·have e:a/50=14:=by omega
  unfold d4;rw[e];rfl
 ·have h1:Nat.beq (a/10) 85=false:=by
   cases hb:Nat.beq (a/10) 85
   ·rfl
   ·have:=Nat.eq_of_beq_eq_true hb;omega
  have h2:Nat.beq (a/10) 95=false:=by
   cases hb:Nat.beq (a/10) 95
   ·rfl
   ·have:=Nat.eq_of_beq_eq_true hb;omega
  unfold iV;rw[h1,h2];rfl
theorem EJ {a b:Nat} (ha:lS a=true) (hb:lS b=true):mD a b=true:=by
 obtain⟨h1,h2,h3⟩:=y7 ha;obtain⟨k1,k2,k3⟩:=y7 hb;rw[mD,h1,h2,h3,k1,k2,k3];rfl
theorem yd {x y:Nat} (hx:lS x=true) (hy:lS y=true):sw x y 950=950:=by
 have:=yH hx;have:=yH hy;unfold sw;rw[if_neg (by omega),if_neg (by omega)]
theorem Kk {x y r:Nat} (hx:lS x=true) (hy:lS y=true) (hr:lS r=true):lS (sw x y r)=true:=by
 unfold sw
 split
 ·exact hy
 ·split
  ·exact hx
  ·exact hr
theorem y5 {x y r:Nat} (l:List UInt8) (hx:lS x=true) (hy:lS y=true) (hr:lS r=true):nO x y (iW r l)=iW (sw x y r) l:=by
 have e1:sU x y 950 [.bp 950 0, .ow r l.length 1 5]=[.bp (sw x y 950) 0, .ow (sw x y r) l.length 1 5]:=rfl;have e2:sU x y r (pq l)=pq l:=by unfold sU;rw[(y7 hr).2.1]
 show [(sw x y 950,sU x y 950 _),(sw x y r,sU x y r (pq l))]=_;rw[e1,e2,yd hx hy]
theorem Ij {x y:Nat} (hx:lS x=true) (hy:lS y=true):nO x y xU=xU:=by
 have e1:sU x y 950 [.val (.pointer none), .nl]=[.val (.pointer none), .nl]:=rfl;show [(sw x y 950,sU x y 950 _)]=_;rw[e1,yd hx hy]
theorem zL {x y:Nat} (hx:lS x=true) (hy:lS y=true) (ds:List DV):(TV.box 950 0::ds.map .d).map (Ih x y)= .box 950 0::ds.map .d:=by
 rw[List.map_cons,List.map_map];show TV.box (sw x y 950) 0::_=_;rw[yd hx hy]
 congr 1
section
variable {C:List TV→BL→RT→BL→Prop} (hs:∀{ts:List TV} {l:BL} {r:RT} {l':BL} (a b:Nat),mD a b=true→C ts l r l'→C (ts.map (Ih a b)) (nO a b l) (Jr a b r) (nO a b l'))
include hs
theorem DS {ds:List DV} {r:RV} {l m:List UInt8} {p q:Nat} (x y:Nat) (hx:lS x=true) (hy:lS y=true) (hp:lS p=true) (hq:lS q=true) (h:C (.box 950 0::ds.map .d) (iW p l) (.v r) (iW q m)):C (.box 950 0::ds.map .d) (iW (sw x y p) l) (.v r) (iW (sw x y q) m):=by
 have:=hs x y (EJ hx hy) h;rw[zL hx hy,y5 l hx hy hp,y5 m hx hy hq]at this;exact this
theorem zP {ds:List DV} {r:RV} {l m:List UInt8} (a b:Nat) (ha:lS a=true) (hb:lS b=true) (hab:(a == b)=false) (h:C (.box 950 0::ds.map .d) (iW 700 l) (.v r) (iW 701 m)):C (.box 950 0::ds.map .d) (iW a l) (.v r) (iW b m):=by
 have h1:=DS hs 700 a rfl ha rfl rfl h;have ho:lS (sw 700 a 701)=true:=Kk rfl ha rfl;have e1:sw 700 a 700=a:=if_pos rfl
 have hne:sw 700 a 701≠a:=fun e=>by
  have:=uV (e.trans e1.symm);omega
 rw[e1]at h1;have h2:=DS hs (sw 700 a 701) b ho hb ha ho h1;rw[beq_eq_false_iff_ne]at hab
 have e2:sw (sw 700 a 701) b a=a:=by
  unfold sw at hne ⊢;rw[if_neg (Ne.symm hne),if_neg hab]
 have e3:sw (sw 700 a 701) b (sw 700 a 701)=b:=if_pos rfl;rw[e2,e3]at h2;exact h2
theorem Az {ds:List DV} {r:RV} {m:List UInt8} (b:Nat) (hb:lS b=true) (h:C (.box 950 0::ds.map .d) xU (.v r) (iW 701 m)):C (.box 950 0::ds.map .d) xU (.v r) (iW b m):=by
 have:=hs 701 b (EJ rfl hb) h;rw[zL rfl hb,Ij rfl hb,y5 m rfl hb rfl]at this;rw[show sw 701 b 701=b from if_pos rfl]at this;exact this
end
theorem Bn (a b:Nat) (l m:List UInt8) (hm:m≠[]) (hs:l.length+m.length≤100000000000000) (ha:lS a=true) (hb:lS b=true) (hab:(a == b)=false):ic Tryz.prog 57 [.box 950 0, .d (dL m)] (iW a l) (.v (.tup [dN .i64 m.length, .leaf (.val .nilIface)])) (iW b (l++m)):=
 zP (C:=ic Tryz.prog 57) (ds:=[dL m]) (fun a b h=>ic.swap a b h) a b ha hb hab (BD l m hm hs)
theorem IZ (b:Nat) (m:List UInt8) (hm:m≠[]) (hs:m.length≤100000000000000) (hb:lS b=true):ic Tryz.prog 57 [.box 950 0, .d (dL m)] xU (.v (.tup [dN .i64 m.length, .leaf (.val .nilIface)])) (iW b m):=
 Az (C:=ic Tryz.prog 57) (ds:=[dL m]) (fun a b h=>ic.swap a b h) b hb (Ce m hm hs)
abbrev Fj (r:Nat) (l:List UInt8):BL:=[(850,[.bp 850 0, .ow r l.length 1 5]),(r,pq l)]
abbrev Kz:BL:=[(850,[.val (.pointer none), .nl])]
theorem Hp (l:List UInt8) (hl:l.length≤100000000000000):az Tryz.prog 32 [.box 850 0] (Fj 701 l) (.v (.one (dN .i64 l.length))) (Fj 701 l):=by
 have h:az Tryz.prog 32 [.box 950 0] [(950,[.bp 950 0, .ow 901 l.length 1 5]),(901,pq l)] (.v (.one (dN .i64 l.length))) [(950,[.bp 950 0, .ow 901 l.length 1 5]),(901,pq l)]:=by
  refine ai ab bn func32 rfl rfl rfl rfl rfl ((fk.refl _)) ?_;refine kW ?_;refine xA qa rfl rfl rfl rfl rfl rfl rfl ?_;refine kW ?_;exact⟨⟨_,rfl,rfl⟩,⟨rfl,rfl,trivial⟩⟩
 exact((h.swap 950 850 rfl).swap 901 701 rfl)
set_option maxRecDepth 100000 in
theorem By (l:List UInt8) (h0:l≠[]):az Tryz.prog 33 [.box 850 0] (Fj 701 l) (.v (.one (dL l))) []:=by
 refine⟨ay func33 rfl rfl,fun S g w vs hpre hv=>?_⟩;have hj:(sB (Fj 701 l)).bx 850=some [.bp 850 0, .ow 701 l.length 1 5]:=rfl;have hj2:(sB (Fj 701 l)).bx 701=some (pq l):=rfl;rw[ux hj hv];obtain⟨arr,e,h1,h2,_,h4,h5⟩:=hpre.bm 850 _ hj;obtain⟨rfl,hlen⟩:=h5 rfl;have hx:arr.toList[1]? =some arr[1]:=by simp[hlen]
 have hw:TV.M (Own S g (sB (Fj 701 l))) g (sB (Fj 701 l)) w (.own 701 l.length 1 5) arr[1]:=h4 rfl 1 (.ow 701 l.length 1 5) arr[1] rfl hx;obtain⟨cap,e1,e2,e3,e4,cur,e5,e6⟩:=hw.2 _ hj2;obtain⟨cur',e',q1,q2,_⟩:=hpre.bm 701 _ hj2;rw[e5]at q1;cases q1;have hne:g 850≠g 701:=fun e=>by have:=hpre.inj 850 701 _ _ hj hj2 e;omega
 have hl0:l.length≠0:=by simpa using h0
 have c1:w.drew.cell? ⟨g 850,1,none⟩=some (.slice (some ⟨g 701,0,none⟩) l.length cap):=by
  have:w.drew.heap[g 850]? =some (.cells arr uY (0,0)):=h1;rw[eh this,← e1]
  simp[hlen]
 have hSD:(Builtin.unsafeSliceData_ #[50] 94 #[.slice (some ⟨g 701,0,none⟩) l.length cap]).run Tryz.prog w.drew= .ok (.pointer (some ⟨g 701,0,none⟩)) w.drew:=
  Lib.run_unsafeSliceData_row _ _ _ _ _ _ (by omega)
 have hUS:(Builtin.unsafeString_ #[94,3] 9 #[.pointer (some ⟨g 701,0,none⟩), .int .i64 l.length]).run Tryz.prog w.drew= .ok (.string ⟨l.toArray⟩) (w.drew.freeze ⟨g 701,0,none⟩ l.length):=by
  refine Lib.run_unsafeString_row w.drew 94 3 9 5 underlying94 (by kernel_rfl) (g 701) cur.size (by have hg':w.drew.heap[g 701]? =some (.cells cur 5 (0,0)):=e5;simp[World.shape?,hg']) l h0 (by omega) (by omega) ?_;intro j x hx;have hjl:=(List.getElem?_eq_some_iff.1 hx).1;have hg':w.drew.heap[g 701]? =some (.cells cur 5 (0,0)):=e5;have hcell:(pq l)[j]? =some (.val (.int .u8 x.toNat)):=by simp[pq,hx]
  have hcl:j<cur.size:=by omega
  have:=bP (q2.2 j (.val (.int .u8 x.toNat)) cur[j] hcell (by simp[hcl]));rw[dP,eh hg',Nat.zero_add,show cur[j]? =some cur[j] by simp[hcl],this]
 have hfr:cS (BX g (Fj 701 l)) w (w.drew.freeze ⟨g 701,0,none⟩ l.length):=by
  unfold World.freeze;rw[if_neg hl0];refine⟨rfl,rfl,rfl,by show w.heap.size≤(w.heap.modify _ _).size;rw[Array.size_modify];exact Nat.le_refl _,fun k hk hx=>?_,fun k hk hx a e fz ha=>?_⟩
  ·have hkne:g 701≠k:=fun h=>hx ⟨701,_,hj2,h⟩
   show(w.heap.modify (g 701) _)[k]? =_;rw[Array.getElem?_modify,if_neg hkne]
  ·show ∃arr' fz',(w.heap.modify (g 701) _)[k]? =_∧_
   rw[Array.getElem?_modify]
   by_cases hk1:g 701=k
   ·rw[if_pos hk1,ha]
    obtain⟨lo,hi⟩:=fz;exact⟨a,_,rfl,rfl⟩
   ·rw[if_neg hk1,ha]
    exact⟨a,fz,rfl,rfl⟩
 have hmx:=bn
 go_enter func33,ntmps33
 go_wp2
 go_region_o
 all_goals(go_wp2;go_ret;exact⟨_,g,rfl,fun j cs cs' _ h=>(by cases h),fun j cs h=>(by cases h),fun i j ci cj h=>(by cases h),AV.M.val rfl,hfr⟩)
end
end Go.Proofs.YtikbnnljjeefgaaGreatDoor
