/- Parts of a proof: contracts of the functions that the laws reach. -/
import Derived.Test.YtikbnnljjeefgaaGreatDoorWZ9
import Derived.Test.YtikbnnljjeefgaaGreatDoorWZ7
set_option maxHeartbeats 100000000
set_option linter.all false
open Go.Proofs.Tryz
namespace Go.Proofs.YtikbnnljjeefgaaGreatDoor
open Go.RowKit
def IP (fid:FuncId) (xs:List TV) (E:Nat) (ts:List Tk) (b a:Int) (Y:Rx × List Tk):gR→Prop
 | .ok (e,r)=>az Tryz.prog fid (.box 900 0::xs) [(900,ge ts b a 0)] (.v (.one (dE e))) [(900,ge r b a 0)]∧cR r∧dz E r
 | .error (p,c)=>c≠0∧az Tryz.prog fid (.box 900 0::xs) [(900,ge ts b a 0)] (.v (.one (dR Y.1))) [(900,ge Y.2 b p (oN E b p c))]∧cR Y.2∧dz E Y.2
theorem tI {fid:FuncId} {xs:List TV} {E:Nat} {b a:Int} {g:List Tk→Option gR} (h:∀ts x,cR ts→dz E ts→g ts=some x→Rf fid xs E ts b a x):∃Y:List Tk→Rx × List Tk,∀ts x,cR ts→dz E ts→g ts=some x→IP fid xs E ts b a (Y ts) x:=by
 have:∀ts:List Tk,∃Y:Rx × List Tk,∀x,cR ts→dz E ts→g ts=some x→IP fid xs E ts b a Y x:=fun ts=>by
  by_cases hw:cR ts
  ·by_cases hz:dz E ts
   ·cases hg:g ts with
    |none=>exact⟨(z7,[]),fun x _ _ hx=>by cases hx⟩
    |some x=>
     have hx:=h ts x hw hz hg;cases x with
     |ok y=>exact⟨(z7,[]),fun x _ _ hx'=>by cases hx';exact hx⟩
     |error y=>
      obtain⟨hc,y1,ts1,h1,h2⟩:=hx;exact⟨(y1,ts1),fun x _ _ hx'=>by cases hx';exact⟨hc,h1,h2⟩⟩
   ·exact⟨(z7,[]),fun x _ hz'=>absurd hz' hz⟩
  ·exact⟨(z7,[]),fun x hw'=>absurd hw' hw⟩
 obtain⟨Y,hY⟩:=Classical.axiomOfChoice this;exact⟨Y,fun ts x hw hz hx=>hY ts x hw hz hx⟩
def LS.d2 (b a:Int):LS→List AV
 | .run _ _ ts=>ge ts b a 0
 | .bad _ ts p c=>ge ts b p c
def rS (nn:Int) (c1 c2:List AV):AS:=⟨[(0, .box 900 0),(1, .d (dN .i64 nn)),(4, .box 0 0),(5, .box 3004 0)],[(0,some (ac 0 false [] false [] [] 0 [])),(3004,some c1),(900,some c2)]⟩
def LS.J (two:Bool) (Y:List Tk→Rx × List Tk) (f E:Nat) (b a:Int) (D:DV) (B:List AV):LS→Prop
 | .run f' e ts=>cR ts∧dz E ts∧f'≤f∧ ∃x',pP f' (.more two e) ts=some x'∧(match x' with
  | .ok (e',r')=>D=dE e'∧B=ge r' b a 0
  | .error (p,c)=>D=dR (gB two Y f' e ts).1∧B=ge (gB two Y f' e ts).2 b p (oN E b p c))
 | .bad y ts p c=>cR ts∧c≠0∧D=dR y∧B=ge ts b p c
theorem Ej {two:Bool} {t:Tk} {r:List Tk} (h:fy two (t::r)=none):∀c∈mA two,bh c (t::r)=none:=by
 obtain⟨k,x,p⟩:=t;intro c hc;have hs:=GX two (k,x,p) r;rw[h]at hs;rw[← Option.not_isSome_iff_eq_none,← u5 c (k,x,p) r];intro hi
 simp only[Bool.and_eq_true,decide_eq_true_eq]at hi
 have hi2:ym (mA two) (k,x,p)=true:=by
  obtain⟨h4,hi⟩:=hi
  match x,hi with
  | [d],hi=>
   have hd:0≤Lib.indexByte [c] d:=of_decide_eq_true hi;have:d=c:=(y8 c d).1 hd;subst this;exact decide_eq_true ((of _ _).2 hc)
 rw[hi2,decide_eq_true hi.1]at hs;cases hs
theorem D4 {two:Bool} {t:Tk} {r r2:List Tk} {k:B4} (h:fy two (t::r)=some (k,r2)):r2=r∧ ∃c p,t=(4,[c],p)∧lT two [c]=some k:=by
 obtain⟨rfl,h4,c,hc,_⟩:=jF h;obtain⟨k4,x,p⟩:=t;dsimp only at h4 hc;subst h4 hc;refine⟨rfl,c,p,rfl,?_⟩
 simp only[fy,if_true]at h
 cases ho:lT two [c]with
 |none=>rw[ho]at h;cases h
 |some k'=>rw[ho]at h;cases h;rfl
theorem CK {c:UInt8} {k:B4} (h:lT false [c]=some k):(c=43∧k= .add)∨(c=45∧k= .sub):=by
 simp only[lT]at h
 split at h
 ·cases h;left;exact⟨by assumption,rfl⟩
 ·split at h
  ·cases h;right;exact⟨by assumption,rfl⟩
  ·cases h
theorem vY (f E:Nat) (b a:Int) (Y:List Tk→Rx × List Tk) (hY:∀ts x,cR ts→dz E ts→pP f (eC false) ts=some x→IP 44 [.d (dN .i64 2)] E ts b a (Y ts) x) (ts:List Tk) (hT:cR ts) (hz:dz E ts) {e0:Ex} {r0:List Tk} (h0:pP f (eC false) ts=some (.ok (e0,r0)))
 {D:DV} {B:List AV} (hB:B.length=4) (hI:LS.J false Y f E b a D B (.run f e0 r0)):az Tryz.prog 44 [.box 900 0, .d (dN .i64 1)] [(900,ge ts b a 0)] (.v (.one D)) [(900,B)]:=by
 obtain⟨c0,hw0,hz0⟩:=hY ts _ hT hz h0;obtain⟨t,r,hr⟩:=hw0.ne;obtain⟨o1,na1,xs1,nb1,ys1,nm1,n1,cs1,hA⟩:=aX e0;have hE:dE e0= .agg (ac o1 na1 xs1 nb1 ys1 nm1 n1 cs1):=congrArg DV.agg hA;rw[hE]at c0;refine ai ab bn func44 rfl rfl rfl rfl rfl ((fk.one (Nat.le_of_eq hB.symm))) ?_;refine kW ?_;refine kZ (c0) ?_
 refine aS LS (LS.J false Y f E b a D B) (fun x=>rS 1 x.c1 (x.d2 b a)) LS.mu (.run f e0 r0) hI (by
  refine Eq.mpr (congrArg (fun c=>aV _ (rS 1 c (ge r0 b a 0))) hA) ?_;exact weak ⟨rfl,rfl,rfl,rfl,trivial⟩ ⟨rfl,rfl,rfl,trivial⟩ rfl) ?_
 intro x hx;cases x with
 |bad y ts1 p c=>
  obtain⟨hw,hc,rfl,rfl⟩:=hx;obtain⟨t,r,rfl⟩:=hw.ne;obtain⟨o1,na1,xs1,nb1,ys1,nm1,n1,cs1,hA⟩:=au y;rw[show dR y= .agg (ac o1 na1 xs1 nb1 ys1 nm1 n1 cs1) from congrArg DV.agg hA];show fU _ _ _ _ _ (rS 1 (aR y) (ge (t::r) b p c));rw[hA];unfold rS;refine kW ?_;refine kZ (gw 43 t r b p c hc) ?_;refine kZ (gw 45 t r b p c hc) ?_;exact⟨⟨_,rfl,rfl⟩,⟨rfl,trivial⟩⟩
 |run f' e ts1=>
  obtain⟨hw,hz,hf,x',hx,hD⟩:=hx;obtain⟨t,r,rfl⟩:=hw.ne;obtain⟨o1,na1,xs1,nb1,ys1,nm1,n1,cs1,hA⟩:=aX e;show fU _ _ _ _ _ (rS 1 (aE e) (ge (t::r) b a 0));rw[hA];cases f' with
  |zero=>cases hx
  |succ f'=>
  rw[cU]at hx;cases ho:fy false (t::r)with
  |none=>
   rw[ho]at hx;cases hx;obtain⟨rfl,rfl⟩:=hD;rw[show dE e= .agg (ac o1 na1 xs1 nb1 ys1 nm1 n1 cs1) from congrArg DV.agg hA];have hno:=Ej ho;unfold rS;refine kW ?_;refine bD (eQ 43 t r b a (hno 43 (by simp[mA]))) rfl rfl rfl rfl rfl ⟨rfl,trivial⟩ rfl rfl rfl rfl ?_;refine kW ?_;refine bD (eQ 45 t r b a (hno 45 (by simp[mA]))) rfl rfl rfl rfl rfl ⟨rfl,trivial⟩ rfl rfl rfl rfl ?_;refine kW ?_;exact⟨⟨_,rfl,rfl⟩,⟨rfl,trivial⟩⟩
  |some q=>
   obtain⟨k,r2⟩:=q;obtain⟨rfl,c,p0,rfl,hk⟩:=D4 ho;rw[ho]at hx;have hw2:cR r2:=hw.tail (by dsimp only;omega);have hz2:=hz.tail;dsimp only at hx;cases hy:pP f' (eC false) r2 with
   |none=>rw[hy]at hx;cases hx
   |some y=>
    have cy:=hY r2 y hw2 hz2 (kz (by omega) hy);rw[hy]at hx;cases y with
    |error z=>
     obtain⟨p,c1⟩:=z;cases hx;obtain⟨hc1,cy,hw3,_⟩:=cy
     have hg:gB false Y (f'+1) e ((4,[c],p0)::r2)=(.mk k.code false [] false [] [] [rx e,(Y r2).1],(Y r2).2):=by
      rw[gB,ho];dsimp only;rw[hy]
     rw[hg]at hD;dsimp only at hD;obtain⟨o2,na2,xs2,nb2,ys2,nm2,n2,cs2,hA2⟩:=au (Y r2).1;have hbad:=nS k e (Y r2).1;rw[hA,hA2]at hbad;rw[show dR (Y r2).1= .agg (ac o2 na2 xs2 nb2 ys2 nm2 n2 cs2) from congrArg DV.agg hA2]at cy;have hc2:oN E b p c1≠0:=oj hc1;generalize oN E b p c1=c2 at *;generalize hY2:(Y r2).2=ts2 at *;unfold rS;rcases CK hk with⟨rfl,rfl⟩| ⟨rfl,rfl⟩
     ·refine kW ?_
      refine kZ (dj 43 p0 r2 b a) ?_;refine kZ (cy) ?_;refine⟨.bad (.mk (B4.code .add) false [] false [] [] [rx e,(Y r2).1]) ts2 p c2,⟨hw3,hc2,hD.1,hD.2⟩,Nat.succ_pos _,?_⟩;refine Eq.mpr (congrArg (fun c=>aV _ (rS 1 c (ge ts2 b p c2))) hbad) ?_;exact weak ⟨rfl,rfl,rfl,rfl,trivial⟩ ⟨rfl,rfl,rfl,trivial⟩ rfl
     ·refine kW ?_
      refine bD (eQ 43 (4,[45],p0) r2 b a (by simp[bh])) rfl rfl rfl rfl rfl ⟨rfl,trivial⟩ rfl rfl rfl rfl ?_;refine kW ?_;refine kZ (dj 45 p0 r2 b a) ?_;refine kZ (cy) ?_;refine⟨.bad (.mk (B4.code .sub) false [] false [] [] [rx e,(Y r2).1]) ts2 p c2,⟨hw3,hc2,hD.1,hD.2⟩,Nat.succ_pos _,?_⟩;refine Eq.mpr (congrArg (fun c=>aV _ (rS 1 c (ge ts2 b p c2))) hbad) ?_;exact weak ⟨rfl,rfl,rfl,rfl,trivial⟩ ⟨rfl,rfl,rfl,trivial⟩ rfl
    |ok z=>
     obtain⟨e2,r3⟩:=z;obtain⟨cy,hw3,hz3⟩:=cy;have hx:pP f' (.more false (.bin k e e2)) r3=some x':=hx
     have hg:gB false Y (f'+1) e ((4,[c],p0)::r2)=gB false Y f' (.bin k e e2) r3:=by
      rw[gB,ho];dsimp only;rw[hy]
     rw[hg]at hD;obtain⟨o2,na2,xs2,nb2,ys2,nm2,n2,cs2,hA2⟩:=aX e2;have hbin:=j8 k e e2;rw[hA,hA2]at hbin;rw[show dE e2= .agg (ac o2 na2 xs2 nb2 ys2 nm2 n2 cs2) from congrArg DV.agg hA2]at cy;unfold rS;rcases CK hk with⟨rfl,rfl⟩| ⟨rfl,rfl⟩
     ·refine kW ?_
      refine kZ (dj 43 p0 r2 b a) ?_;refine kZ (cy) ?_;refine⟨.run f' (.bin .add e e2) r3,⟨hw3,hz3,by omega,x',hx,hD⟩,by show f'+1<f'+1+1;omega,?_⟩;refine Eq.mpr (congrArg (fun c=>aV _ (rS 1 c (ge r3 b a 0))) hbin) ?_;exact weak ⟨rfl,rfl,rfl,rfl,trivial⟩ ⟨rfl,rfl,rfl,trivial⟩ rfl
     ·refine kW ?_
      refine bD (eQ 43 (4,[45],p0) r2 b a (by simp[bh])) rfl rfl rfl rfl rfl ⟨rfl,trivial⟩ rfl rfl rfl rfl ?_;refine kW ?_;refine kZ (dj 45 p0 r2 b a) ?_;refine kZ (cy) ?_;refine⟨.run f' (.bin .sub e e2) r3,⟨hw3,hz3,by omega,x',hx,hD⟩,by show f'+1<f'+1+1;omega,?_⟩;refine Eq.mpr (congrArg (fun c=>aV _ (rS 1 c (ge r3 b a 0))) hbin) ?_;exact weak ⟨rfl,rfl,rfl,rfl,trivial⟩ ⟨rfl,rfl,rfl,trivial⟩ rfl
theorem zO {c:UInt8} {k:B4} (h:lT true [c]=some k):(c=42∧k= .mul)∨(c=47∧k= .div):=by
 simp only[lT]at h
 split at h
 ·cases h;left;exact⟨by assumption,rfl⟩
 ·split at h
  ·cases h;right;exact⟨by assumption,rfl⟩
  ·cases h
theorem sF (f E:Nat) (b a:Int) (Y:List Tk→Rx × List Tk) (hY:∀ts x,cR ts→dz E ts→pP f (eC true) ts=some x→IP 44 [.d (dN .i64 3)] E ts b a (Y ts) x) (ts:List Tk) (hT:cR ts) (hz:dz E ts) {e0:Ex} {r0:List Tk} (h0:pP f (eC true) ts=some (.ok (e0,r0)))
 {D:DV} {B:List AV} (hB:B.length=4) (hI:LS.J true Y f E b a D B (.run f e0 r0)):az Tryz.prog 44 [.box 900 0, .d (dN .i64 2)] [(900,ge ts b a 0)] (.v (.one D)) [(900,B)]:=by
 obtain⟨c0,hw0,hz0⟩:=hY ts _ hT hz h0;obtain⟨t,r,hr⟩:=hw0.ne;obtain⟨o1,na1,xs1,nb1,ys1,nm1,n1,cs1,hA⟩:=aX e0;have hE:dE e0= .agg (ac o1 na1 xs1 nb1 ys1 nm1 n1 cs1):=congrArg DV.agg hA;rw[hE]at c0;refine ai ab bn func44 rfl rfl rfl rfl rfl ((fk.one (Nat.le_of_eq hB.symm))) ?_;refine kW ?_;refine kZ (c0) ?_
 refine aS LS (LS.J true Y f E b a D B) (fun x=>rS 2 x.c1 (x.d2 b a)) LS.mu (.run f e0 r0) hI (by
  refine Eq.mpr (congrArg (fun c=>aV _ (rS 2 c (ge r0 b a 0))) hA) ?_;exact weak ⟨rfl,rfl,rfl,rfl,trivial⟩ ⟨rfl,rfl,rfl,trivial⟩ rfl) ?_
 intro x hx;cases x with
 |bad y ts1 p c=>
  obtain⟨hw,hc,rfl,rfl⟩:=hx;obtain⟨t,r,rfl⟩:=hw.ne;obtain⟨o1,na1,xs1,nb1,ys1,nm1,n1,cs1,hA⟩:=au y;rw[show dR y= .agg (ac o1 na1 xs1 nb1 ys1 nm1 n1 cs1) from congrArg DV.agg hA];show fU _ _ _ _ _ (rS 2 (aR y) (ge (t::r) b p c));rw[hA];unfold rS;refine kW ?_;refine kZ (gw 42 t r b p c hc) ?_;refine kZ (gw 47 t r b p c hc) ?_;exact⟨⟨_,rfl,rfl⟩,⟨rfl,trivial⟩⟩
 |run f' e ts1=>
  obtain⟨hw,hz,hf,x',hx,hD⟩:=hx;obtain⟨t,r,rfl⟩:=hw.ne;obtain⟨o1,na1,xs1,nb1,ys1,nm1,n1,cs1,hA⟩:=aX e;show fU _ _ _ _ _ (rS 2 (aE e) (ge (t::r) b a 0));rw[hA];cases f' with
  |zero=>cases hx
  |succ f'=>
  rw[cU]at hx;cases ho:fy true (t::r)with
  |none=>
   rw[ho]at hx;cases hx;obtain⟨rfl,rfl⟩:=hD;rw[show dE e= .agg (ac o1 na1 xs1 nb1 ys1 nm1 n1 cs1) from congrArg DV.agg hA];have hno:=Ej ho;unfold rS;refine kW ?_;refine bD (eQ 42 t r b a (hno 42 (by simp[mA]))) rfl rfl rfl rfl rfl ⟨rfl,trivial⟩ rfl rfl rfl rfl ?_;refine kW ?_;refine bD (eQ 47 t r b a (hno 47 (by simp[mA]))) rfl rfl rfl rfl rfl ⟨rfl,trivial⟩ rfl rfl rfl rfl ?_;refine kW ?_;exact⟨⟨_,rfl,rfl⟩,⟨rfl,trivial⟩⟩
  |some q=>
   obtain⟨k,r2⟩:=q;obtain⟨rfl,c,p0,rfl,hk⟩:=D4 ho;rw[ho]at hx;have hw2:cR r2:=hw.tail (by dsimp only;omega);have hz2:=hz.tail;dsimp only at hx;cases hy:pP f' (eC true) r2 with
   |none=>rw[hy]at hx;cases hx
   |some y=>
    have cy:=hY r2 y hw2 hz2 (kz (by omega) hy);rw[hy]at hx;cases y with
    |error z=>
     obtain⟨p,c1⟩:=z;cases hx;obtain⟨hc1,cy,hw3,_⟩:=cy
     have hg:gB true Y (f'+1) e ((4,[c],p0)::r2)=(.mk k.code false [] false [] [] [rx e,(Y r2).1],(Y r2).2):=by
      rw[gB,ho];dsimp only;rw[hy]
     rw[hg]at hD;dsimp only at hD;obtain⟨o2,na2,xs2,nb2,ys2,nm2,n2,cs2,hA2⟩:=au (Y r2).1;have hbad:=nS k e (Y r2).1;rw[hA,hA2]at hbad;rw[show dR (Y r2).1= .agg (ac o2 na2 xs2 nb2 ys2 nm2 n2 cs2) from congrArg DV.agg hA2]at cy;have hc2:oN E b p c1≠0:=oj hc1;generalize oN E b p c1=c2 at *;generalize hY2:(Y r2).2=ts2 at *;unfold rS;rcases zO hk with⟨rfl,rfl⟩| ⟨rfl,rfl⟩
     ·refine kW ?_
      refine kZ (dj 42 p0 r2 b a) ?_;refine kZ (cy) ?_;refine⟨.bad (.mk (B4.code .mul) false [] false [] [] [rx e,(Y r2).1]) ts2 p c2,⟨hw3,hc2,hD.1,hD.2⟩,Nat.succ_pos _,?_⟩;refine Eq.mpr (congrArg (fun c=>aV _ (rS 2 c (ge ts2 b p c2))) hbad) ?_;exact weak ⟨rfl,rfl,rfl,rfl,trivial⟩ ⟨rfl,rfl,rfl,trivial⟩ rfl
     ·refine kW ?_
      refine bD (eQ 42 (4,[47],p0) r2 b a (by simp[bh])) rfl rfl rfl rfl rfl ⟨rfl,trivial⟩ rfl rfl rfl rfl ?_;refine kW ?_;refine kZ (dj 47 p0 r2 b a) ?_;refine kZ (cy) ?_;refine⟨.bad (.mk (B4.code .div) false [] false [] [] [rx e,(Y r2).1]) ts2 p c2,⟨hw3,hc2,hD.1,hD.2⟩,Nat.succ_pos _,?_⟩;refine Eq.mpr (congrArg (fun c=>aV _ (rS 2 c (ge ts2 b p c2))) hbad) ?_;exact weak ⟨rfl,rfl,rfl,rfl,trivial⟩ ⟨rfl,rfl,rfl,trivial⟩ rfl
    |ok z=>
     obtain⟨e2,r3⟩:=z;obtain⟨cy,hw3,hz3⟩:=cy;have hx:pP f' (.more true (.bin k e e2)) r3=some x':=hx
     have hg:gB true Y (f'+1) e ((4,[c],p0)::r2)=gB true Y f' (.bin k e e2) r3:=by
      rw[gB,ho];dsimp only;rw[hy]
     rw[hg]at hD;obtain⟨o2,na2,xs2,nb2,ys2,nm2,n2,cs2,hA2⟩:=aX e2;have hbin:=j8 k e e2;rw[hA,hA2]at hbin;rw[show dE e2= .agg (ac o2 na2 xs2 nb2 ys2 nm2 n2 cs2) from congrArg DV.agg hA2]at cy;unfold rS;rcases zO hk with⟨rfl,rfl⟩| ⟨rfl,rfl⟩
     ·refine kW ?_
      refine kZ (dj 42 p0 r2 b a) ?_;refine kZ (cy) ?_;refine⟨.run f' (.bin .mul e e2) r3,⟨hw3,hz3,by omega,x',hx,hD⟩,by show f'+1<f'+1+1;omega,?_⟩;refine Eq.mpr (congrArg (fun c=>aV _ (rS 2 c (ge r3 b a 0))) hbin) ?_;exact weak ⟨rfl,rfl,rfl,rfl,trivial⟩ ⟨rfl,rfl,rfl,trivial⟩ rfl
     ·refine kW ?_
      refine bD (eQ 42 (4,[47],p0) r2 b a (by simp[bh])) rfl rfl rfl rfl rfl ⟨rfl,trivial⟩ rfl rfl rfl rfl ?_;refine kW ?_;refine kZ (dj 47 p0 r2 b a) ?_;refine kZ (cy) ?_;refine⟨.run f' (.bin .div e e2) r3,⟨hw3,hz3,by omega,x',hx,hD⟩,by show f'+1<f'+1+1;omega,?_⟩;refine Eq.mpr (congrArg (fun c=>aV _ (rS 2 c (ge r3 b a 0))) hbin) ?_;exact weak ⟨rfl,rfl,rfl,rfl,trivial⟩ ⟨rfl,rfl,rfl,trivial⟩ rfl
theorem uu {two:Bool} {fop:FuncId} {xs:List TV} {E f:Nat} {b a:Int} {Y:List Tk→Rx × List Tk} (hY:∀ts x,cR ts→dz E ts→pP f (eC two) ts=some x→IP fop xs E ts b a (Y ts) x):∀(f':Nat) (e:Ex) (ts:List Tk) (e':Ex) (r':List Tk),f'≤f→cR ts→dz E ts→pP f' (.more two e) ts=some (.ok (e',r'))→cR r'∧dz E r'
 |0,_,_,_,_,_,_,_,h=>by cases h
 |f'+1,e,ts,e',r',hf,hw,hz,h=>by
  rw[cU]at h;obtain⟨t,r,rfl⟩:=hw.ne;cases ho:fy two (t::r)with
  |none=>rw[ho]at h;cases h;exact⟨hw,hz⟩
  |some q=>
   obtain⟨k,r2⟩:=q;obtain⟨rfl,h4,_⟩:=jF ho;have hw2:cR r2:=hw.tail (by omega);rw[ho]at h;dsimp only at h ⊢;cases hy:pP f' (eC two) r2 with
   |none=>rw[hy]at h;cases h
   |some y=>
    have cy:=hY r2 y hw2 hz.tail (kz (by omega) hy);rw[hy]at h;cases y with
    |error z=>cases h
    |ok z=>exact uu hY f' _ _ e' r' (by omega) cy.2.1 cy.2.2 h
theorem qo {two:Bool} {fop:FuncId} {xs:List TV} {E f:Nat} {b a:Int} {Y:List Tk→Rx × List Tk} (hY:∀ts x,cR ts→dz E ts→pP f (eC two) ts=some x→IP fop xs E ts b a (Y ts) x):∀(f':Nat) (e:Ex) (ts:List Tk) (p:Nat) (c:Int),f'≤f→cR ts→dz E ts→pP f' (.more two e) ts=some (.error (p,c))→c≠0∧cR (gB two Y f' e ts).2∧dz E (gB two Y f' e ts).2
 |0,_,_,_,_,_,_,_,h=>by cases h
 |f'+1,e,ts,p,c,hf,hw,hz,h=>by
  rw[cU]at h;rw[gB];obtain⟨t,r,rfl⟩:=hw.ne;cases ho:fy two (t::r)with
  |none=>rw[ho]at h;cases h
  |some q=>
   obtain⟨k,r2⟩:=q;obtain⟨rfl,h4,_⟩:=jF ho;have hw2:cR r2:=hw.tail (by omega);rw[ho]at h;dsimp only at h ⊢;cases hy:pP f' (eC two) r2 with
   |none=>rw[hy]at h;cases h
   |some y=>
    have cy:=hY r2 y hw2 hz.tail (kz (by omega) hy);rw[hy]at h;cases y with
    |error z=>cases h;exact⟨cy.1,cy.2.2⟩
    |ok z=>exact qo hY f' _ _ p c (by omega) cy.2.1 cy.2.2 h
theorem Hu {f E:Nat} {b a:Int} (hop:∀ts x,cR ts→dz E ts→pP f (eC false) ts=some x→Rf 44 [.d (dN .i64 2)] E ts b a x) (ts:List Tk) (x:gR) (hT:cR ts) (hz:dz E ts) (hx:pP (f+1) .sum ts=some x):Rf 44 [.d (dN .i64 1)] E ts b a x:=by
 have hx:(match pP f (eC false) ts with
  |some (.ok (e,r))=>pP f (.more false e) r
  |y=>y)=some x:=hx
 obtain⟨Y,hY⟩:=tI hop;cases h0:pP f (eC false) ts with
 |none=>rw[h0]at hx;cases hx
 |some y0=>
  rw[h0]at hx;have c0:=hY ts y0 hT hz h0;cases y0 with
  |error z=>
   cases hx;obtain⟨p,c⟩:=z;obtain⟨hc,c0,hw,hz'⟩:=c0;refine⟨hc,(Y ts).1,(Y ts).2,?_,hw,hz'⟩;have hc2:oN E b p c≠0:=oj hc;generalize oN E b p c=c2 at *;generalize(Y ts).1=y at *;generalize(Y ts).2=ts' at *;obtain⟨t,r,rfl⟩:=hw.ne;obtain⟨o1,na1,xs1,nb1,ys1,nm1,n1,cs1,hA⟩:=au y;rw[show dR y= .agg (ac o1 na1 xs1 nb1 ys1 nm1 n1 cs1) from congrArg DV.agg hA]at c0 ⊢;refine ai ab bn func44 rfl rfl rfl rfl rfl (b7) ?_;refine kW ?_;refine kZ (c0) ?_;refine aS Unit (fun _=>True) (fun _=>rS 1 (ac o1 na1 xs1 nb1 ys1 nm1 n1 cs1) (ge (t::r) b p c2)) (fun _=>0) () trivial (weak ⟨rfl,rfl,rfl,rfl,trivial⟩ ⟨rfl,rfl,rfl,trivial⟩ rfl) ?_;rintro _ _;unfold rS;refine kW ?_;refine kZ (gw 43 t r b p c2 hc2) ?_;refine kD (gw 45 t r b p c2 hc2) ?_
   refine kW ?_;exact⟨⟨_,rfl,rfl⟩,⟨rfl,trivial⟩⟩
  |ok z=>
   obtain⟨e,r⟩:=z;have hx:pP f (.more false e) r=some x:=hx;cases x with
   |ok w=>
    obtain⟨e',r'⟩:=w;exact⟨vY f E b a Y hY ts hT hz h0 (B:=ge r' b a 0) rfl ⟨c0.2.1,c0.2.2,Nat.le_refl _,_,hx,rfl,rfl⟩,uu hY f e r e' r' (Nat.le_refl _) c0.2.1 c0.2.2 hx⟩
   |error w=>
    obtain⟨p,c⟩:=w;obtain⟨hc,hw⟩:=qo hY f e r p c (Nat.le_refl _) c0.2.1 c0.2.2 hx;exact⟨hc,_,_,vY f E b a Y hY ts hT hz h0 (B:=ge _ b p (oN E b p c)) rfl ⟨c0.2.1,c0.2.2,Nat.le_refl _,_,hx,rfl,rfl⟩,hw⟩
theorem FT {f E:Nat} {b a:Int} (hop:∀ts x,cR ts→dz E ts→pP f (eC true) ts=some x→Rf 44 [.d (dN .i64 3)] E ts b a x) (ts:List Tk) (x:gR) (hT:cR ts) (hz:dz E ts) (hx:pP (f+1) .prod ts=some x):Rf 44 [.d (dN .i64 2)] E ts b a x:=by
 have hx:(match pP f (eC true) ts with
  |some (.ok (e,r))=>pP f (.more true e) r
  |y=>y)=some x:=hx
 obtain⟨Y,hY⟩:=tI hop;cases h0:pP f (eC true) ts with
 |none=>rw[h0]at hx;cases hx
 |some y0=>
  rw[h0]at hx;have c0:=hY ts y0 hT hz h0;cases y0 with
  |error z=>
   cases hx;obtain⟨p,c⟩:=z;obtain⟨hc,c0,hw,hz'⟩:=c0;refine⟨hc,(Y ts).1,(Y ts).2,?_,hw,hz'⟩;have hc2:oN E b p c≠0:=oj hc;generalize oN E b p c=c2 at *;generalize(Y ts).1=y at *;generalize(Y ts).2=ts' at *;obtain⟨t,r,rfl⟩:=hw.ne;obtain⟨o1,na1,xs1,nb1,ys1,nm1,n1,cs1,hA⟩:=au y;rw[show dR y= .agg (ac o1 na1 xs1 nb1 ys1 nm1 n1 cs1) from congrArg DV.agg hA]at c0 ⊢;refine ai ab bn func44 rfl rfl rfl rfl rfl (b7) ?_;refine kW ?_;refine kZ (c0) ?_;refine aS Unit (fun _=>True) (fun _=>rS 2 (ac o1 na1 xs1 nb1 ys1 nm1 n1 cs1) (ge (t::r) b p c2)) (fun _=>0) () trivial (weak ⟨rfl,rfl,rfl,rfl,trivial⟩ ⟨rfl,rfl,rfl,trivial⟩ rfl) ?_;rintro _ _;unfold rS;refine kW ?_;refine kZ (gw 42 t r b p c2 hc2) ?_;refine kD (gw 47 t r b p c2 hc2) ?_
   refine kW ?_;exact⟨⟨_,rfl,rfl⟩,⟨rfl,trivial⟩⟩
  |ok z=>
   obtain⟨e,r⟩:=z;have hx:pP f (.more true e) r=some x:=hx;cases x with
   |ok w=>
    obtain⟨e',r'⟩:=w;exact⟨sF f E b a Y hY ts hT hz h0 (B:=ge r' b a 0) rfl ⟨c0.2.1,c0.2.2,Nat.le_refl _,_,hx,rfl,rfl⟩,uu hY f e r e' r' (Nat.le_refl _) c0.2.1 c0.2.2 hx⟩
   |error w=>
    obtain⟨p,c⟩:=w;obtain⟨hc,hw⟩:=qo hY f e r p c (Nat.le_refl _) c0.2.1 c0.2.2 hx;exact⟨hc,_,_,sF f E b a Y hY ts hT hz h0 (B:=ge _ b p (oN E b p c)) rfl ⟨c0.2.1,c0.2.2,Nat.le_refl _,_,hx,rfl,rfl⟩,hw⟩
theorem DB {f E:Nat} {b a:Int} (hop:∀ts x,cR ts→dz E ts→pP f .un ts=some x→Rf 76 [] E ts b a x) (ts:List Tk) (x:gR) (hT:cR ts) (hz:dz E ts) (hx:pP f .un ts=some x):Rf 44 [.d (dN .i64 3)] E ts b a x:=by
 have cy:=hop ts x hT hz hx;cases x with
 |ok z=>
  obtain⟨e,r3⟩:=z;obtain⟨cy,hw3⟩:=cy;refine⟨?_,hw3⟩;obtain⟨o1,na1,xs1,nb1,ys1,nm1,n1,cs1,hA⟩:=aX e;rw[show dE e= .agg (ac o1 na1 xs1 nb1 ys1 nm1 n1 cs1) from congrArg DV.agg hA]at cy ⊢;refine ai ab bn func44 rfl rfl rfl rfl rfl (b7) ?_;refine kW ?_;refine kZ (cy) ?_;exact⟨⟨_,rfl,rfl⟩,⟨rfl,trivial⟩⟩
 |error z=>
  obtain⟨p,c⟩:=z;obtain⟨hc,y,ts',cy,hw3⟩:=cy;refine⟨hc,y,ts',?_,hw3⟩;obtain⟨o1,na1,xs1,nb1,ys1,nm1,n1,cs1,hA⟩:=au y;rw[show dR y= .agg (ac o1 na1 xs1 nb1 ys1 nm1 n1 cs1) from congrArg DV.agg hA]at cy ⊢;refine ai ab bn func44 rfl rfl rfl rfl rfl (b7) ?_;refine kW ?_;refine kZ (cy) ?_;exact⟨⟨_,rfl,rfl⟩,⟨rfl,trivial⟩⟩
structure Jo (f E:Nat) (b a:Int):Prop where
 sum:∀ts x,cR ts→dz E ts→pP f .sum ts=some x→Rf 44 [.d (dN .i64 1)] E ts b a x
 prod:∀ts x,cR ts→dz E ts→pP f .prod ts=some x→Rf 44 [.d (dN .i64 2)] E ts b a x
 un:∀ts x,cR ts→dz E ts→pP f .un ts=some x→Rf 76 [] E ts b a x
 prim:∀ts x,cR ts→dz E ts→pP f .prim ts=some x→Rf 115 [] E ts b a x
theorem xY (E:Nat) (b a:Int):∀f,Jo f E b a
 |0=>⟨fun _ _ _ _ h=>(by cases h),fun _ _ _ _ h=>(by cases h),fun _ _ _ _ h=>(by cases h),fun _ _ _ _ h=>(by cases h)⟩
 |f+1=>by
  have ih:=xY E b a f;exact⟨fun ts x hT hz hx=>Hu ih.prod ts x hT hz hx,fun ts x hT hz hx=>FT (fun ts x hT hz hx=>DB ih.un ts x hT hz hx) ts x hT hz hx,fun ts x hT hz hx=>IW ih.un ih.prim ts x hT hz hx,fun ts x hT hz hx=>Fi ih.sum ts x hT hz hx⟩
theorem ie (p:UInt8→Bool):∀(r:List UInt8) (m:Nat),bf p (r.take m)=min m (bf p r)
 | [],m=>by simp[bf]
 |c::r,0=>by simp[bf]
 |c::r,m+1=>by
  have ih:=ie p r m;unfold bf at ih ⊢;rw[List.take_succ_cons,List.takeWhile_cons,List.takeWhile_cons]
  split
  ·simp only[List.length_cons];omega
  ·simp
theorem BN {r:List UInt8} {m:Nat} (h:jD r≤m):jD (r.take m)=jD r:=by
 unfold jD at h ⊢;rw[ie];generalize hd:bf cH r=d at *;have hle:d≤m:=by split at h<;>omega
 rw[Nat.min_eq_right hle,List.drop_take,ie,List.getElem?_take]
 split at h
 ·rename_i hc
  rw[if_pos hc,if_pos (by omega:d<m)];rw[if_pos ⟨hc.1,by omega⟩];omega
 ·rename_i hc
  rw[if_neg hc]
  by_cases hdm:d<m
  ·rw[if_pos hdm,if_neg (fun h=>hc ⟨h.1,by omega⟩)]
  ·rw[if_neg hdm,if_neg (fun h=>by cases h.1)]
theorem AT:∀(n:Nat) (r:List UInt8) (i m:Nat),r.length≤n→0<eT r i→eT r i≤i+m→eT (r.take m) i=eT r i:=by
 intro n
 induction n using Nat.strongRecOn with
 |_ n ih=>
  intro r i m hl h0 hm
  match r,hl with
  | [],_=>simp
  | [c],_=>
   by_cases hq:c=34
   ·subst hq
    rw[om]at hm ⊢;obtain⟨m,rfl⟩:∃k,m=k+1:=⟨m-1,by omega⟩;rw[List.take_succ_cons,om]
   ·rw[qW hq]at h0;omega
  |c::d::r,hl=>
   have hp:=vu n (c::d::r) i hl;obtain⟨m,rfl⟩:∃k,m=k+1:=⟨m-1,by omega⟩
   by_cases hq:c=34
   ·subst hq
    rw[List.take_succ_cons,om,om]
   ·by_cases hc:c.toNat<32
    ·rw[pR hq hc]at h0;omega
    ·by_cases hb:c=92
     ·subst hb
      rw[nv]at h0 hm ⊢
      split at h0
      ·omega
      ·rename_i he
       rw[if_neg he]at hm ⊢
       simp at hl
       have hp2:=vu n r (i+2) (by omega);obtain⟨m,rfl⟩:∃k,m=k+1:=⟨m-1,by omega⟩;rw[List.take_succ_cons,List.take_succ_cons,nv,if_neg he];exact ih (n-2) (by omega) r (i+2) m (by omega) h0 (by omega)
     ·rw[pm hq hc hb]at h0 hm ⊢
      rw[List.take_succ_cons,pm hq hc hb]
      simp at hl
      exact ih (n-1) (by omega) (d::r) (i+1) m (by simp;omega) h0 (by omega)
theorem Dd {r:List UInt8} {m:Nat} (h0:0<(gO r).2) (hm:(gO r).2≤m):gO (r.take m)=gO r:=by
 cases r with
 |nil=>simp
 |cons c r=>
  obtain⟨m,rfl⟩:∃k,m=k+1:=⟨m-1,by omega⟩;have e:(c::r).take (m+1)=c::r.take m:=rfl;have e2:bf gJ (c::r.take m)=min (m+1) (bf gJ (c::r)):=by rw[← e,ie]
  rw[e]
  simp only[gO]at h0 hm ⊢
  split
  ·rename_i h
   rw[if_pos h]at h0 hm;dsimp only at hm;rw[e2,Nat.min_eq_right hm]
  ·rename_i h
   rw[if_neg h]at h0 hm
   split
   ·rename_i h'
    rw[if_pos h']at h0 hm;rw[← e,BN hm]
   ·rename_i h'
    rw[if_neg h']at h0 hm
    split
    ·rename_i h3
     rw[if_pos h3]at h0 hm;dsimp only at h0 hm
     have:mE (c::r.take m)=mE (c::r):=by
      unfold mE at h0 hm ⊢;exact AT _ r 1 m (Nat.le_refl _) h0 (by rw[Nat.add_comm];exact hm)
     rw[this]
    ·rfl
theorem IH {c:UInt8} {r:List UInt8} {k n:Nat} (h:gO (c::r)=(k,n)) (h0:0<n):k≠0∧(k=4→ ∃d,(c::r).take n=[d]):=by
 have hx:=GQ [] 0 c r;rw[h]at hx;cases hx with
 |wd=>exact⟨by decide,fun e=>by cases e⟩
 |lg=>exact⟨by decide,fun e=>by cases e⟩
 |nm=>exact⟨by decide,fun e=>by cases e⟩
 |qt=>exact⟨by decide,fun e=>by cases e⟩
 |sy=>exact⟨by decide,fun _=>⟨c,rfl⟩⟩
 |nl=>exact⟨by decide,fun e=>by cases e⟩
 |no=>exact absurd h0 (Nat.lt_irrefl 0)
structure l6 (E:Nat) (T:List Tk) (m:Nat):Prop where
 w:m≤500→cR T
 z:dz E T
 s:∀t∈T,t.2.1.length≤m
theorem l6.one {E m:Nat}:l6 E [(0,[],E)] m:=⟨fun _=>rfl,fun t ht=>by
 cases List.mem_singleton.1 ht;exact⟨fun _=>rfl,fun h=>absurd rfl h⟩,fun t ht=>by cases List.mem_singleton.1 ht;exact Nat.zero_le _⟩
theorem l6.ne {E m:Nat} {T:List Tk} (h:l6 E T m) (hT:T≠[]):∃t r,T=t::r:=by
 cases T with
 |nil=>exact absurd rfl hT
 |cons t r=>exact⟨t,r,rfl⟩
theorem l6.cons {E m m':Nat} {T:List Tk} {k p:Nat} {x:List UInt8} (h:l6 E T m') (hm:m'≤m) (hT:T≠[]) (hk:k≠0) (h4:k=4→ ∃d,x=[d]) (hp:p<E) (hx:x.length≤m):l6 E ((k,x,p)::T) m:=by
 obtain⟨t,r,rfl⟩:=h.ne hT
 exact⟨fun h5=>⟨⟨hk,h4,fun _=>Nat.le_trans hx h5⟩,h.w (by omega)⟩,fun t ht=>by
  rcases List.mem_cons.1 ht with rfl|ht
  ·exact⟨fun e=>absurd e hk,fun _=>hp⟩
  ·exact h.z t ht,fun t ht=>by
  rcases List.mem_cons.1 ht with rfl|ht
  ·exact hx
  ·exact Nat.le_trans (h.s t ht) hm⟩
theorem l6.up {E m m':Nat} {T:List Tk} (h:l6 E T m') (hm:m'≤m) (hw:m≤500→cR T):l6 E T m:=⟨hw,h.z,fun t ht=>Nat.le_trans (h.s t ht) hm⟩
theorem je:∀(f:Nat) (r:List UInt8) (at_:Nat) (acc:List Tk),r.length<f→match dl f r at_ acc with
  | .ok L=>∃T,T≠[]∧L=acc++T∧l6 (at_+r.length) T r.length
  | .error (a,e)=>(e=2∨e=3)∧at_≤a∧a≤at_+r.length∧ ∃T,T≠[]∧(∀f' acc',a-at_<f'→dl f' (r.take (a-at_)) at_ acc'= .ok (acc'++T))∧l6 a T r.length
 |0,_,_,_,h=>absurd h (Nat.not_lt_zero _)
 |f+1,[],at_,acc,_=>by
  simp only[dl]
  exact⟨[(0,[],at_)],by simp,rfl, .one⟩
 |f+1,c::r,at_,acc,h=>by
  simp only[List.length_cons]at h
  rw[dl]
  by_cases hsp:c=32∨c=9
  ·rw[if_pos hsp]
   have ih:=je f r (at_+1) acc (by omega)
   revert ih
   cases dl f r (at_+1) acc with
   |ok L=>
    rintro⟨T,h0,h1,h2⟩;refine⟨T,h0,h1,?_⟩;rw[show at_+(c::r).length=at_+1+r.length by simp;omega];exact h2.up (by simp) (fun h5=>h2.w (by simp at h5;omega))
   |error z=>
    obtain⟨a,e⟩:=z;rintro⟨he,h1,h2,T,h0,h3,h4⟩;refine⟨he,by omega,by simp;omega,T,h0,fun f' acc' hf=>?_,h4.up (by simp) (fun h5=>h4.w (by simp at h5;omega))⟩;obtain⟨f',rfl⟩:∃k,f'=k+1:=⟨f'-1,by omega⟩;rw[show a-at_=(a-(at_+1))+1 by omega,List.take_succ_cons,dl,if_pos hsp];exact h3 f' acc' (by omega)
  ·rw[if_neg hsp]
   have hle:=vh (c::r)
   simp only[List.length_cons]at hle
   cases hN:gO (c::r)with
   |mk k n=>
   rw[hN]at hle;dsimp only at hle ⊢
   have hone:∀e:Int,e=2∨e=3→(match(Except.error (at_,e):Except (Nat × Int) (List Tk))with
    | .ok L=>∃T,T≠[]∧L=acc++T∧l6 (at_+(c::r).length) T (c::r).length
    | .error (a,e)=>(e=2∨e=3)∧at_≤a∧a≤at_+(c::r).length∧ ∃T,T≠[]∧(∀f' acc',a-at_<f'→dl f' ((c::r).take (a-at_)) at_ acc'= .ok (acc'++T))∧l6 a T (c::r).length):=fun e he=>by
    refine⟨he,Nat.le_refl _,by omega,[(0,[],at_)],by simp,fun f' acc' hf=>?_, .one⟩;obtain⟨f',rfl⟩:∃k,f'=k+1:=⟨f'-1,by omega⟩;rw[Nat.sub_self,List.take_zero,dl]
   by_cases hn:n=0
   ·rw[if_pos hn]
    exact hone 2 (.inl rfl)
   ·rw[if_neg hn]
    by_cases hk:k=1∧24<n
    ·rw[if_pos hk]
     exact hone 3 (.inr rfl)
    ·rw[if_neg hk]
     have hi:=IH hN (by omega);have hdl:((c::r).drop n).length=r.length+1-n:=by simp
     have ih:=je f ((c::r).drop n) (at_+n) (acc++[(k,(c::r).take n,at_)]) (by omega);have htl:((c::r).take n).length=n:=by simp;omega
     revert ih
     cases dl f ((c::r).drop n) (at_+n) (acc++[(k,(c::r).take n,at_)])with
     |ok L=>
      rintro⟨T,h0,h1,h2⟩;rw[hdl]at h2;refine⟨(k,(c::r).take n,at_)::T,by simp,by rw[h1,List.append_assoc];rfl,?_⟩;rw[show at_+(c::r).length=at_+n+(r.length+1-n) by simp;omega];exact h2.cons (by simp) h0 hi.1 hi.2 (by omega) (by rw[htl];simp;omega)
     |error z=>
      obtain⟨a,e⟩:=z;rintro⟨he,h1,h2,T,h0,h3,h4⟩;rw[hdl]at h2 h4;refine⟨he,by omega,by simp;omega,(k,(c::r).take n,at_)::T,by simp,fun f' acc' hf=>?_,h4.cons (by simp) h0 hi.1 hi.2 (by omega) (by rw[htl];simp;omega)⟩;obtain⟨f',rfl⟩:∃q,f'=q+1:=⟨f'-1,by omega⟩;obtain⟨q,hq⟩:∃q,a-at_=q+1:=⟨a-at_-1,by omega⟩;have hNt:gO (c::r.take q)=(k,n):=by rw[show c::r.take q=(c::r).take (q+1) from rfl,Dd (by rw[hN];show 0<n;omega) (by rw[hN];show n≤q+1;omega),hN]
      rw[hq,List.take_succ_cons];rw[dl,if_neg hsp,hNt];dsimp only;rw[if_neg hn,if_neg hk]
      have e1:(c::r.take q).drop n=((c::r).drop n).take (a-(at_+n)):=by
       rw[show c::r.take q=(c::r).take (q+1) from rfl,List.drop_take]
       congr 1
       omega
      have e2:(c::r.take q).take n=(c::r).take n:=by
       rw[show c::r.take q=(c::r).take (q+1) from rfl,List.take_take,Nat.min_eq_left (by omega)]
      rw[e1,e2,h3 f' _ (by omega),List.append_assoc];rfl
theorem qf {two:Bool} {ts r:List Tk} {k:B4} (h:fy two ts=some (k,r)):∀t∈r,t∈ts:=by
 cases ts with
 |nil=>cases h
 |cons t r'=>
  simp only[fy]at h
  split at h
  ·split at h
   ·cases h;exact fun t ht=>List.mem_cons_of_mem _ ht
   ·cases h
  ·cases h
theorem fH {c:UInt8} {ts r:List Tk} (h:bh c ts=some r):∀t∈r,t∈ts:=by
 cases ts with
 |nil=>cases h
 |cons t r'=>
  simp only[bh]at h
  split at h
  ·cases h;exact fun t ht=>List.mem_cons_of_mem _ ht
  ·cases h
theorem vI {t:Tk} {r r2:List Tk} {e:Ex} (h:el t r= .ok (e,r2)):∃q u,e= .num q u∧(u=[]∨ ∃v∈r,u=v.2.1)∧ ∀x∈r2,x∈r:=by
 unfold el at h
 split at h
 ·cases h
 ·rename_i q _
  split at h
  ·cases h
  ·split at h
   ·rename_i v r'
    split at h
    ·cases h;exact⟨q,_,rfl, .inr ⟨v,by simp,rfl⟩,fun x hx=>List.mem_cons_of_mem _ hx⟩
    ·cases h;exact⟨q,_,rfl, .inl rfl,fun x hx=>hx⟩
   ·cases h;exact⟨q,_,rfl, .inl rfl,fun x hx=>hx⟩
theorem nY:Wd []:=fun x hx=>by cases hx
theorem im:∀(f:Nat) (m:Md) (ts:List Tk) (e:Ex) (r:List Tk),(∀t∈ts,t.2.1.length≤65536)→(∀two e0,m= .more two e0→nu (rx e0))→pP f m ts=some (.ok (e,r)) →
 nu (rx e)∧(∀t∈r,t∈ts)∧jm (rx e)+r.length≤ts.length+(match m with| .more _ e0=>jm (rx e0)|_=>0)
 |0,_,_,_,_,_,_,h=>by cases h
 |f+1, .sum,ts,e,r,hs,hm,h=>by
  rw[fW]at h
  split at h
  ·rename_i e1 r1 h1
   have a:=im f _ _ _ _ hs (fun _ _ h=>by cases h) h1;have b:=im f _ _ _ _ (fun t ht=>hs t (a.2.1 t ht)) (fun _ _ h=>by cases h;exact a.1) h;exact⟨b.1,fun t ht=>a.2.1 t (b.2.1 t ht),by have:=a.2.2;have:=b.2.2;dsimp only at *;omega⟩
  ·rename_i hn;exact absurd h (hn e r)
 |f+1, .prod,ts,e,r,hs,hm,h=>by
  rw[eX]at h
  split at h
  ·rename_i e1 r1 h1
   have a:=im f _ _ _ _ hs (fun _ _ h=>by cases h) h1;have b:=im f _ _ _ _ (fun t ht=>hs t (a.2.1 t ht)) (fun _ _ h=>by cases h;exact a.1) h;exact⟨b.1,fun t ht=>a.2.1 t (b.2.1 t ht),by have:=a.2.2;have:=b.2.2;dsimp only at *;omega⟩
  ·rename_i hn;exact absurd h (hn e r)
 |f+1, .more two e0,ts,e,r,hs,hm,h=>by
  rw[cU]at h
  split at h
  ·rename_i k r1 h0
   have hl:=qM h0;have hsub:=qf h0
   split at h
   ·rename_i e1 r2 h1
    have a:=im f _ _ _ _ (fun t ht=>hs t (hsub t ht)) (fun _ _ h=>by cases two<;>cases h) h1
    have hb:nu (rx (.bin k e0 e1)):= .mk (by cases k<;>decide) (by cases k<;>decide) nY nY (by decide) (by simp) (fun x hx=>by
     rcases List.mem_cons.1 hx with rfl|hx
     ·exact hm two e0 rfl
     ·cases List.mem_singleton.1 hx;exact a.1)
    have b:=im f _ _ _ _ (fun t ht=>hs t (hsub t (a.2.1 t ht))) (fun _ _ h=>by cases h;exact hb) h;refine⟨b.1,fun t ht=>hsub t (a.2.1 t (b.2.1 t ht)),?_⟩;have h1:=a.2.2;have h2:=b.2.2;have h3:jm (rx (.bin k e0 e1))=jm (rx e0)+jm (rx e1)+1:=by simp[rx,jm,iw]
    cases two<;>dsimp only[eC]at * <;>omega
   ·rename_i hn;exact absurd h (hn e r)
  ·cases h;exact⟨hm two _ rfl,fun t ht=>ht,by dsimp only;omega⟩
 |f+1, .un,ts,e,r,hs,hm,h=>by
  rw[gA]at h
  split at h
  ·rename_i r1 h0
   have hl:=fG h0;have hsub:=fH h0
   split at h
   ·rename_i e1 r2 h1
    have a:=im f _ _ _ _ (fun t ht=>hs t (hsub t ht)) (fun _ _ h=>by cases h) h1;cases h;have h3:jm (rx (.neg e1))=jm (rx e1)+1:=by simp[rx,jm,iw]
    refine⟨.mk (by decide) (by decide) nY nY (by decide) (by simp) (fun x hx=>by cases List.mem_singleton.1 hx;exact a.1),fun t ht=>hsub t (a.2.1 t ht),?_⟩;have:=a.2.2;dsimp only at *;omega
   ·rename_i hn;exact absurd h (hn e r)
  ·have a:=im f _ _ _ _ hs (fun _ _ h=>by cases h) h
   exact a
 |f+1, .prim,ts,e,r,hs,hm,h=>by
  rw[dG]at h
  split at h
  ·rename_i r1 h0
   have hl:=fG h0;have hsub:=fH h0
   split at h
   ·rename_i e1 r2 h1
    have a:=im f _ _ _ _ (fun t ht=>hs t (hsub t ht)) (fun _ _ h=>by cases h) h1
    split at h
    ·rename_i r3 h2
     have b:=fG h2;cases h;refine⟨a.1,fun t ht=>hsub t (a.2.1 t (fH h2 t ht)),?_⟩;have:=a.2.2;dsimp only at *;omega
    ·cases h
   ·rename_i hn;exact absurd h (hn e r)
  ·split at h
   ·rename_i t r1 _
    split at h
    ·injection h with h
     have h2:=wH h;obtain⟨q,u,rfl,hu,hsub⟩:=vI h;refine⟨.mk (by decide) (by decide) (ar _) (ar _) ?_ (by decide) (fun x hx=>by cases hx),fun t ht=>List.mem_cons_of_mem _ (hsub t ht),?_⟩
     ·rcases hu with rfl| ⟨v,hv,rfl⟩
      ·decide
      ·have:=hs v (List.mem_cons_of_mem _ hv);omega
     ·simp[rx,jm,iw];omega
    ·split at h
     ·cases h
      refine⟨.mk (by decide) (by decide) nY nY ?_ (by decide) (fun x hx=>by cases hx),fun t ht=>List.mem_cons_of_mem _ ht,?_⟩
      ·have:=hs t (by simp);omega
      ·simp[rx,jm,iw];omega
     ·cases h
   ·cases h
theorem bk {j i:Nat} {cs ci:List AV}:(sB [(j,cs)]).bx i=some ci↔i=j∧ci=cs:=by
 rw[dy]
 by_cases e:j=i
 ·subst e
  rw[aF,am]
  constructor
  ·intro h;cases h;exact⟨rfl,rfl⟩
  ·rintro⟨_,rfl⟩;rfl
 ·rw[aF,aD _ _ e]
  constructor
  ·intro h;cases h
  ·rintro⟨h,_⟩;exact absurd h.symm e
theorem lE {S:Nat→Prop} {g:Nat→Nat} {j:Nat} {cs:List AV}:Own S g (sB [(j,cs)])=fun q=>S q∨g j=q:=by
 funext q
 unfold Own;refine propext ⟨?_,?_⟩
 ·rintro(h| ⟨i,ci,h,e⟩)
  ·exact .inl h
  ·obtain⟨rfl,_⟩:=bk.1 h;exact .inr e
 ·rintro(h|e)
  ·exact .inl h
  ·exact .inr ⟨j,cs,bk.2 ⟨rfl,rfl⟩,e⟩
theorem ma {g:Nat→Nat} {j:Nat} {cs:List AV}:BX g [(j,cs)]=fun q=>g j=q:=by
 funext q
 unfold BX;refine propext ⟨?_,?_⟩
 ·rintro⟨i,ci,h,e⟩
  obtain⟨rfl,_⟩:=bk.1 h;exact e
 ·intro e;exact⟨j,cs,bk.2 ⟨rfl,rfl⟩,e⟩
def sw (a b j:Nat):Nat:=if j=a then b else if j=b then a else j
theorem ki (a b j:Nat):sw a b (sw a b j)=j:=by
 unfold sw
 split <;>split <;>(try split)<;>omega
theorem uV {a b i j:Nat} (h:sw a b i=sw a b j):i=j:=by
 have:=congrArg (sw a b) h
 rwa[ki,ki]at this
def IQ (a b:Nat):AV→AV
 | .ow j n k e=> .ow (sw a b j) n k e
 | .bp j o=> .bp (sw a b j) o
 |x=>x
def sU (a b j:Nat) (cs:List AV):List AV:=match d4 j with
 |true=>cs.map (IQ a b)
 |false=>cs
def nO (a b:Nat):BL→BL
 | []=>[]
 |(j,cs)::r=>(sw a b j,sU a b j cs)::nO a b r
def JZ (a b:Nat):CV→CV
 | .val v=> .val v
 | .box j o=> .box (sw a b j) o
def Ih (a b:Nat):TV→TV
 | .box j o=> .box (sw a b j) o
 | .own j n k e=> .own (sw a b j) n k e
 | .vw j o n k=> .vw (sw a b j) o n k
 | .clo fn fs cs=> .clo fn (fs.map (JZ a b)) (cs.map (JZ a b))
 |x=>x
def Jr (a b:Nat):RT→RT
 | .own j n k e=> .own (sw a b j) n k e
 | .v r=> .v r
theorem jt (a b j:Nat) (cs:List AV):(sU a b j cs).length=cs.length:=by
 unfold sU;split <;>simp
theorem IJ (a b:Nat) (r:RT):(Jr a b r).tv=Ih a b r.tv:=by
 cases r with
 |own=>rfl
 |v r=>cases r<;>rfl
theorem pf {a b:Nat}:∀(l:BL) (j:Nat),ak (aF (nO a b l)) (sw a b j)=(ak (aF l) j).map fun o=>o.map (sU a b j)
 | [],_=>rfl
 |(i,cs)::r,j=>by
  by_cases e:i=j
  ·subst e
   rw[nO,aF,aF,am,am];rfl
  ·rw[nO,aF,aF,aD _ _ e,aD _ _ (fun h=>e (uV h))]
   exact pf r j
theorem Du {a b:Nat} (l:BL) (j:Nat):ak (aF (nO a b l)) j=(ak (aF l) (sw a b j)).map fun o=>o.map (sU a b (sw a b j)):=by
 have:=pf (a:=a) (b:=b) l (sw a b j)
 rwa[ki]at this
theorem oF {a b:Nat} {l:BL} {j:Nat} {cs:List AV} (h:(sB l).bx j=some cs):(sB (nO a b l)).bx (sw a b j)=some (sU a b j cs):=by
 rw[dy]at h ⊢;rw[pf,h];rfl
theorem iR {a b:Nat} {l:BL} {j:Nat} {cs:List AV} (h:(sB (nO a b l)).bx j=some cs):∃c0,(sB l).bx (sw a b j)=some c0∧cs=sU a b (sw a b j) c0:=by
 rw[dy,Du]at h;cases hl:ak (aF l) (sw a b j)with
 |none=>rw[hl]at h;cases h
 |some o=>
  rw[hl]at h;cases o with
  |none=>cases h
  |some c0=>
   simp only[Option.map_some,Option.some.injEq]at h
   exact⟨c0,dy.2 hl,h.symm⟩
theorem tl {a b:Nat} {l:BL} {j:Nat}:(sB (nO a b l)).kn (sw a b j)↔(sB l).kn j:=by
 unfold AS.kn sB;dsimp only;rw[pf]
 constructor
 ·rintro⟨x,h⟩
  cases hl:ak (aF l) j with
  |none=>rw[hl]at h;cases h
  |some o=>exact⟨o,rfl⟩
 ·rintro⟨x,h⟩
  rw[h];exact⟨_,rfl⟩
theorem nE {a b:Nat} {S:Nat→Prop} {g:Nat→Nat} {l:BL}:Own S g (sB (nO a b l))=Own S (fun j=>g (sw a b j)) (sB l):=by
 funext q
 refine propext ⟨?_,?_⟩
 ·rintro(h| ⟨j,cs,h,e⟩)
  ·exact .inl h
  ·obtain⟨c0,h0,_⟩:=iR h
   exact .inr ⟨sw a b j,c0,h0,by dsimp only;rw[ki];exact e⟩
 ·rintro(h| ⟨j,cs,h,e⟩)
  ·exact .inl h
  ·exact .inr ⟨sw a b j,_,oF h,e⟩
theorem Ah {a b:Nat} {g:Nat→Nat} {l:BL}:BX g (nO a b l)=BX (fun j=>g (sw a b j)) l:=by
 funext q
 refine propext ⟨?_,?_⟩
 ·rintro⟨j,cs,h,e⟩
  obtain⟨c0,h0,_⟩:=iR h;exact⟨sw a b j,c0,h0,by dsimp only;rw[ki];exact e⟩
 ·rintro⟨j,cs,h,e⟩
  exact⟨sw a b j,_,oF h,e⟩
section
variable {a b:Nat} {S:Nat→Prop} {g:Nat→Nat} {l:BL} {w:World}
theorem G9 {x:CV} {v:Value}:CV.M g (sB (nO a b l)) (JZ a b x) v↔CV.M (fun j=>g (sw a b j)) (sB l) x v:=by
 cases x with
 |val u=>exact Iff.rfl
 |box j o=>
  constructor
  ·rintro⟨h1,h2⟩
   exact⟨tl.1 h1,fun cs hc=>h2 _ (oF hc)⟩
  ·rintro⟨h1,h2⟩
   refine⟨tl.2 h1,fun cs hc=>?_⟩;obtain⟨c0,h0,_⟩:=iR hc;rw[ki]at h0;exact h2 c0 h0
theorem qB:∀{xs:List CV} {vs:List Value},o5 g (sB (nO a b l)) (xs.map (JZ a b)) vs↔o5 (fun j=>g (sw a b j)) (sB l) xs vs
 | [],[]=>Iff.rfl
 |x::xs,v::vs=>and_congr G9 qB
 | [],_::_=>Iff.rfl
 |_::_,[]=>Iff.rfl
theorem Ak {x:TV} {v:Value}:TV.M S g (sB (nO a b l)) w (Ih a b x) v↔TV.M S (fun j=>g (sw a b j)) (sB l) w x v:=by
 cases x with
 |d x=>exact Iff.rfl
 |tup ts=>exact Iff.rfl
 |box j o=>exact G9 (x:= .box j o)
 |rp cs=>exact Iff.rfl
 |own j n k e=>
  constructor
  ·rintro⟨h1,h2⟩
   refine⟨tl.1 h1,fun cs hc=>?_⟩;have:=h2 _ (oF hc)
   rwa[jt]at this
  ·rintro⟨h1,h2⟩
   refine⟨tl.2 h1,fun cs hc=>?_⟩;obtain⟨c0,h0,rfl⟩:=iR hc;rw[ki]at h0;rw[jt];exact h2 c0 h0
 |clo fn fs cs=>
  constructor
  ·rintro⟨us,vs,e,h1,h2⟩;exact⟨us,vs,e,qB.1 h1,qB.1 h2⟩
  ·rintro⟨us,vs,e,h1,h2⟩;exact⟨us,vs,e,qB.2 h1,qB.2 h2⟩
 |mp es=>exact Iff.rfl
 |nil=>exact Iff.rfl
 |und=>exact Iff.rfl
 |junk=>exact Iff.rfl
 |dfr f cs=>exact Iff.rfl
 |vw j o n k=>
  constructor
  ·rintro⟨h1,h2⟩
   refine⟨tl.1 h1,fun cs hc=>?_⟩;have:=h2 _ (oF hc)
   rwa[jt]at this
  ·rintro⟨h1,h2⟩
   refine⟨tl.2 h1,fun cs hc=>?_⟩;obtain⟨c0,h0,rfl⟩:=iR hc;rw[ki]at h0;rw[jt];exact h2 c0 h0
theorem x3:∀{xs:List TV} {vs:List Value},nQ S g (sB (nO a b l)) w (xs.map (Ih a b)) vs↔nQ S (fun j=>g (sw a b j)) (sB l) w xs vs
 | [],[]=>Iff.rfl
 |x::xs,v::vs=>and_congr Ak x3
 | [],_::_=>Iff.rfl
 |_::_,[]=>Iff.rfl
theorem GI {x:AV} {v:Value}:xt S g (sB (nO a b l)) w (IQ a b x) v↔xt S (fun j=>g (sw a b j)) (sB l) w x v:=by
 cases x with
 |ow j n k e=>exact Ak (S:=S) (w:=w) (x:= .own j n k e)
 |bp j o=>exact Ak (S:=S) (w:=w) (x:= .box j o)
 |val=>exact Iff.rfl
 |sl=>exact Iff.rfl
 |nl=>exact Iff.rfl
theorem G0 {x:AV} {v:Value}:AV.M S w (IQ a b x) v↔AV.M S w x v:=by
 cases x with
 |ow j n k e=>constructor <;>(intro h;cases h;exact .ow (by assumption))
 |bp j o=>constructor <;>(intro h;cases h;exact .bp (by assumption))
 |val=>exact Iff.rfl
 |sl=>exact Iff.rfl
 |nl=>exact Iff.rfl
theorem AG {j i:Nat} {cs:List AV} {x:AV} (h:(sU a b j cs)[i]? =some x):∃y,cs[i]? =some y∧ ∀(v:Value),(AV.M S w x v↔AV.M S w y v)∧(d4 j=true→x=IQ a b y):=by
 unfold sU at h
 split at h
 ·rw[List.getElem?_map]at h
  cases hc:cs[i]? with
  |none=>rw[hc]at h;cases h
  |some y=>
   rw[hc]at h;cases h;exact⟨y,rfl,fun v=>⟨G0,fun _=>rfl⟩⟩
 ·rename_i hl
  exact⟨x,h,fun v=>⟨Iff.rfl,fun h=>by rw[hl]at h;cases h⟩⟩
theorem vK {j i:Nat} {cs:List AV} {y:AV} (h:cs[i]? =some y):∃x,(sU a b j cs)[i]? =some x∧ ∀(v:Value),(AV.M S w x v↔AV.M S w y v)∧(d4 j=true→x=IQ a b y):=by
 unfold sU
 split
 ·exact⟨IQ a b y,by rw[List.getElem?_map,h];rfl,fun v=>⟨G0,fun _=>rfl⟩⟩
 ·rename_i hl
  exact⟨y,h,fun v=>⟨Iff.rfl,fun h=>by rw[hl]at h;cases h⟩⟩
theorem GG {j:Nat} {cs:List AV} {vs:List Value}:iT S w (sU a b j cs) vs↔iT S w cs vs:=by
 unfold iT;rw[jt]
 constructor
 ·rintro⟨h1,h2⟩
  refine⟨h1,fun i y v hy hv=>?_⟩;obtain⟨x,hx,h⟩:=vK (a:=a) (b:=b) (S:=S) (w:=w) (j:=j) hy;exact(h v).1.1 (h2 i x v hx hv)
 ·rintro⟨h1,h2⟩
  refine⟨h1,fun i x v hx hv=>?_⟩;obtain⟨y,hy,h⟩:=AG (S:=S) (w:=w) hx;exact(h v).1.2 (h2 i y v hy hv)
theorem zy {j B:Nat} {cs:List AV} (hw:dp (sw a b j)=dp j) (hl:d4 (sw a b j)=d4 j) (ht:iV (sw a b j)=iV j):mh S g (sB (nO a b l)) w (sw a b j) (sU a b j cs) B↔mh S (fun j=>g (sw a b j)) (sB l) w j cs B:=by
 constructor
 ·rintro⟨arr,e,h1,h2,h3,h4,h5⟩
  refine⟨arr,e,h1,GG.1 h2,by rw[← hw];exact h3,fun hj i y v hy hv=>?_,by rw[← ht];exact h5⟩;obtain⟨x,hx,h⟩:=vK (a:=a) (b:=b) (S:=S) (w:=w) (j:=j) hy;have h6:=h4 (by rw[hl];exact hj) i x v hx hv;rw[(h v).2 hj]at h6;exact GI.1 h6
 ·rintro⟨arr,e,h1,h2,h3,h4,h5⟩
  refine⟨arr,e,h1,GG.2 h2,by rw[hw];exact h3,fun hj i x v hx hv=>?_,by rw[ht];exact h5⟩;obtain⟨y,hy,h⟩:=AG (S:=S) (w:=w) hx;rw[(h v).2 (by rw[← hl];exact hj)];exact GI.2 (h4 (by rw[← hl];exact hj) i y v hy hv)
end
def mD (a b:Nat):Bool:=(dp a == dp b) && ((d4 a == d4 b) && (iV a == iV b))
theorem zK {a b:Nat} (h:mD a b=true) (j:Nat):dp (sw a b j)=dp j∧d4 (sw a b j)=d4 j∧iV (sw a b j)=iV j:=by
 simp only[mD,Bool.and_eq_true,beq_iff_eq]at h
 unfold sw
 split
 ·rename_i e;subst e;exact⟨h.1.symm,h.2.1.symm,h.2.2.symm⟩
 ·split
  ·rename_i e;subst e;exact⟨h.1,h.2.1,h.2.2⟩
  ·exact⟨rfl,rfl,rfl⟩
section
variable {P:Program} {f:FuncId} {ts:List TV} {l l':BL} {r:RT} {a b:Nat}
theorem DN (hab:mD a b=true) {S:Nat→Prop} {g:Nat→Nat} {w:World} (h:Fa S g w (nO a b l)):Fa S (fun j=>g (sw a b j)) w l:=by
 refine⟨?_,?_,?_,?_,?_⟩
 ·rw[← Ah];exact h.tab
 ·rw[← Ah];exact h.blk
 ·intro k cs hk
  have:=h.gl k cs hk;rw[nE]at this;exact this
 ·intro j cs hj
  have h1:=h.bm _ _ (oF (a:=a) (b:=b) hj);obtain⟨k1,k2,k3⟩:=zK hab j;rw[nE]at h1;exact(zy k1 k2 k3).1 h1
 ·intro i j ci cj hi hj e
  exact uV (h.inj _ _ _ _ (oF (a:=a) (b:=b) hi) (oF (a:=a) (b:=b) hj) e)
theorem C3 (hab:mD a b=true) {S:Nat→Prop} {g:Nat→Nat} {w w':World} {e:Ending} (h:uA S (fun j=>g (sw a b j)) l r l' w e w'):uA S g (nO a b l) (Jr a b r) (nO a b l') w e w':=by
 obtain⟨v,g',he,h1,h2,h3,h4,h5⟩:=h;have hg:(fun j=>(fun i=>g' (sw a b i)) (sw a b j))=g':=by funext j;dsimp only;rw[ki]
 refine⟨v,fun i=>g' (sw a b i),he,?_,?_,?_,?_,?_⟩
 ·intro j cs cs' hj hj'
  obtain⟨c0,k1,rfl⟩:=iR hj;obtain⟨c1,k2,rfl⟩:=iR hj';obtain⟨k3,k4⟩:=h1 _ _ _ k1 k2;dsimp only at k3 ⊢;rw[ki]at k3;rw[jt,jt];exact⟨k3,k4⟩
 ·intro j cs' hj
  obtain⟨c0,k1,rfl⟩:=iR hj;obtain⟨k2,k3⟩:=h2 _ _ k1;rw[Ah];refine⟨k2,?_⟩;obtain⟨q1,q2,q3⟩:=zK hab (sw a b j);have:=(zy (a:=a) (b:=b) (S:=Own S g' (sB l')) (g:=fun i=>g' (sw a b i)) (l:=l') (w:=w') (cs:=c0) (B:=g' (sw a b j)) q1 q2 q3).2 (by rw[hg];exact k3);rw[nE,hg];rw[ki]at this;exact this
 ·intro i j ci cj hi hj e
  obtain⟨c0,k1,_⟩:=iR hi;obtain⟨c1,k2,_⟩:=iR hj;exact uV (h3 _ _ _ _ k1 k2 e)
 ·rw[IJ,nE,hg,Ak,hg]
  exact h4
 ·rw[Ah];exact h5
theorem se {fn:Func} {R R':Ending→World→Prop} (hR:∀e w,R e w→R' e w) {x:Exit} {a:Act} {w:World} (h:bodyPost P fn R x a w):bodyPost P fn R' x a w:=by
 cases x with
 |normal=>obtain⟨h1,v,h2,h3⟩:=h;exact⟨h1,v,h2,hR _ _ h3⟩
 |ret=>obtain⟨h1,v,h2,h3⟩:=h;exact⟨h1,v,h2,hR _ _ h3⟩
 |panic c=>exact⟨h.1,hR _ _ h.2⟩
 |outgrown=>exact hR _ _ h
 |exit i=>exact h
 |goto l=>exact h
theorem az.swap (a b:Nat) (hab:mD a b=true) (h:az P f ts l r l'):az P f (ts.map (Ih a b)) (nO a b l) (Jr a b r) (nO a b l'):=by
 refine⟨h.enter,fun S g w vs hpre hv=>?_⟩;rw[nE,x3]at hv;exact(h.calls S _ w vs (DN hab hpre) hv).mono fun e w' hr=>C3 hab hr
theorem ic.swap (a b:Nat) (hab:mD a b=true) (h:ic P f ts l r l'):ic P f (ts.map (Ih a b)) (nO a b l) (Jr a b r) (nO a b l'):=by
 obtain⟨fn,c,h1,h2,h3⟩:=h.body;refine⟨h.enter,fn,c,h1,h2,fun S g w vs hpre hv=>?_⟩;rw[nE,x3]at hv;exact wp_mono (h3 S _ w vs (DN hab hpre) hv) fun e a w' hq=>se (fun e w' hr=>C3 hab hr) hq
end
section
variable {P:Program} {T:TypeId→Option Ty} {n:Nat} {ops:Array Oper} {id:Nat} {draw:Bool} {K:AS→Prop} {s:AS} {k:Nat} {o:Oper} {os:List Oper} {fps:List FP}
theorem mL (hT:∀t d,T t=some d→bG P t d) {t:TypeId} {ty:Ty} {x z:Operand} {l:List UInt8} {j:Nat} {ik:IntKind} (hj:j≤l.length) (h1:gd ops s o=some true) (h2:o.op= .slice t x none (some z) none) (h5:T t=some ty) (h6:ty.isStr=true) (h7:s.ev x= .d (.leaf (.val (vL l)))) (h9:s.ev z= .d (.leaf (.val (.int ik (j:Nat)))))
 (h3:bd n o.dst=true) (h4:gN draw ops (aM ops o ⟨.d (dL (l.take j)),none⟩ []) k fps=true) (h:aw P T n ops id draw K (k+1) os (s.eff o.dst ⟨.d (dL (l.take j)),none⟩) (aM ops o ⟨.d (dL (l.take j)),none⟩ []::fps)):aw P T n ops id draw K k (o::os) s fps:=by
 refine .run h1 (.gen fun s2 ht _=>?_) h3 h4 h;have hx:=(aL ht (x:=x) (by simp[h2,Op.operands])).trans h7;have hz:=(aL ht (x:=z) (by simp[h2,Op.operands])).trans h9;have hu:=j4 (hT _ _ h5) h6;refine aj fun n S0 w0 g a w hM=>⟨vL (l.take j),w,?_,Below.refl _ _,AV.M.val rfl⟩
 unfold execOp;rw[h2]
 have e1:(Instr.sliceAt t (.string (Bs l)) none (some (.int ik j)) none).run P w= .ok (vL (l.take j)) w:=by
  unfold Instr.sliceAt
  simp only[Sem.run_bind,run_underlying hu w,Result.andThen_ok]
  rw[run_slice_string_h w t (Bs l) hu ik j (by omega) (by rw[aB];omega)]
  simp only[Int.toNat_natCast]
  rw[jJ];rfl
 simp only[bw hM hx,bw hM hz,vL,Option.map_some,Option.map_none,Sem.run_bind,e1,Result.andThen_ok]
 rfl
end
theorem GY {S S':Nat→Prop} {g g':Nat→Nat} {s s':AS} {w:World} (hS:S=S'):∀{ds:List DV} {vs:List Value},nQ S g s w (ds.map .d) vs→nQ S' g' s' w (ds.map .d) vs
 | [],[],_=>trivial
 |d::ds,v::vs,h=>⟨by subst hS;exact h.1,GY hS h.2⟩
 | [],_::_,h=>h.elim
 |_::_,[],h=>h.elim
theorem az.ren {P:Program} {f:FuncId} {j:Nat} {ds:List DV} {cs cs':List AV} {r:RV} (h:az P f (.box j 0::ds.map .d) [(j,cs)] (.v r) [(j,cs')]) (j':Nat) (hw:dp j'=dp j) (hl:d4 j=false) (hl':d4 j'=false):az P f (.box j' 0::ds.map .d) [(j',cs)] (.v r) [(j',cs')]:=by
 have ht:iV j'=false:=by
  cases e:iV j' with
  |false=>rfl
  |true=>rw[mn e]at hl';cases hl'
 have ht0:iV j=false:=by
  cases e:iV j with
  |false=>rfl
  |true=>rw[mn e]at hl;cases hl
 refine⟨h.enter,fun S g w vs hpre hv=>?_⟩;have hg:(fun i=>if i=j then g j' else g i) j=g j':=if_pos rfl;generalize hg1:(fun i=>if i=j then g j' else g i)=g1 at hg;have hO:Own S g1 (sB [(j,cs)])=Own S g (sB [(j',cs)]):=by rw[lE,lE,hg]
 have hX:BX g1 [(j,cs)]=BX g [(j',cs)]:=by rw[ma,ma,hg]
 have hpre1:Fa S g1 w [(j,cs)]:=by
  refine⟨?_,?_,?_,?_,?_⟩
  ·rw[hX];exact hpre.tab
  ·rw[hX];exact hpre.blk
  ·rw[hO];exact hpre.gl
  ·intro i ci hi
   obtain⟨rfl,rfl⟩:=bk.1 hi;obtain⟨arr,e,h1,h2,h3,_,_⟩:=hpre.bm j' ci (bk.2 ⟨rfl,rfl⟩);rw[hO,hg];exact⟨arr,e,h1,h2,by rw[← hw];exact h3,fun h=>(by rw[hl]at h;cases h),fun h=>(by rw[ht0]at h;cases h)⟩
  ·intro i i2 ci cj h1 h2 _
   rw[(bk.1 h1).1,(bk.1 h2).1]
 have hv1:nQ (Own S g1 (sB [(j,cs)])) g1 (sB [(j,cs)]) w (.box j 0::ds.map .d) vs:=by
  cases vs with
  |nil=>exact hv.elim
  |cons v vs=>
   obtain⟨hb,hv⟩:=hv;refine⟨⟨⟨some cs,by rw[sB,aF,am]⟩,fun ci hi=>?_⟩,GY hO.symm hv⟩;rw[hg];exact hb.2 cs (bk.2 ⟨rfl,rfl⟩)
 refine(h.calls S g1 w vs hpre1 hv1).mono ?_;rintro e w' ⟨v,g',rfl,h1,h2,h3,h4,h5⟩;have hg2:(fun i=>if i=j' then g' j else g' i) j'=g' j:=if_pos rfl;generalize(fun i=>if i=j' then g' j else g' i)=g2 at hg2;have hO2:Own S g2 (sB [(j',cs')])=Own S g' (sB [(j,cs')]):=by rw[lE,lE,hg2]
 refine⟨v,g2,rfl,?_,?_,?_,?_,?_⟩
 ·intro i ci ci' hi hi'
  obtain⟨rfl,rfl⟩:=bk.1 hi;obtain⟨_,rfl⟩:=bk.1 hi';have:=h1 j ci ci' (bk.2 ⟨rfl,rfl⟩) (bk.2 ⟨rfl,rfl⟩);rw[hg2,this.1,hg];exact⟨rfl,this.2⟩
 ·intro i ci hi
  obtain⟨rfl,rfl⟩:=bk.1 hi;obtain⟨k1,arr,e,k2,k3,k4,_,_⟩:=h2 j ci (bk.2 ⟨rfl,rfl⟩);rw[hX]at k1;rw[hg2,hO2];exact⟨k1,arr,e,k2,k3,by rw[hw];exact k4,fun h=>(by rw[hl']at h;cases h),fun h=>(by rw[ht]at h;cases h)⟩
 ·intro i i2 ci cj k1 k2 _
  rw[(bk.1 k1).1,(bk.1 k2).1]
 ·rw[hO2]
  cases r with
  |one d=>exact h4
  |tup l=>exact h4
 ·rw[← hX];exact h5
theorem md:∀(x:Rx),nu x→jm x≤1000000→aa Tryz.prog 24 [dR x] (.one (dN .i64 (rz x))):=by
 refine dx fun op na xs nb ys nm args ih hx hs=>?_
 have hd0:=Et (.mk op na xs nb ys nm args);obtain⟨_,_,_,_,_,hlen,hargs⟩:=hx;rw[jm]at hs;rw[rz,jm]at hd0;show aa Tryz.prog _ [.agg (ac op na xs nb ys nm args.length (cZ args))] _;refine kV func24 ?_
 refine aS (Nat × Nat) (fun s=>s.1≤args.length∧s.2≤jV args∧max s.2 (jV (args.drop s.1))=jV args) (fun s=>⟨[(2, .d (dN .i64 0)),(3, .d (dN .i64 s.2)),(7, .d (.leaf (.sl args.length (cZ args)))),(8, .d (dN .i64 args.length)),(9, .d (dN .i64 s.1))],[]⟩) (fun s=>args.length-s.1) (0,0) ⟨Nat.zero_le _,Nat.zero_le _,Nat.zero_max _⟩
  (weak ⟨rfl,rfl,rfl,rfl,rfl,trivial⟩ trivial rfl) ?_
 rintro⟨i,d⟩ ⟨hi,h1,h2⟩;dsimp only at hi h1 h2 ⊢;refine kI ?_
 by_cases hlt:i<args.length
 ·refine kT ?_
  obtain⟨o1,na1,xs1,nb1,ys1,nm1,n1,cs1,hA⟩:=au args[i];have hx:args[i]? =some args[i]:=by simp[hlt]
  have hat:∀(j:Nat) (a:AV),(ac o1 na1 xs1 nb1 ys1 nm1 n1 cs1)[j]? =some a→(cZ args)[i*7+j]? =some a:=fun j a h=>fR args i args[i] hx j a (by rw[hA];exact h)
  have hm:=List.getElem_mem hlt;have hsz:=lz hm;have hdp:=uF hm;have c:=ih args[i] hm (hargs _ hm) (by omega);rw[show dR args[i]= .agg (ac o1 na1 xs1 nb1 ys1 nm1 n1 cs1) from congrArg DV.agg hA]at c;rw[List.drop_eq_getElem_cons hlt,jV]at h2;generalize rz args[i]=k at *;refine kW ?_;refine bl (i:=i) (cs':=ac o1 na1 xs1 nb1 ys1 nm1 n1 cs1) hlt hat (Nat.zero_lt_succ 6) rfl rfl rfl rfl rfl rfl rfl rfl ?_;refine kW ?_;refine kC (c) ?_;refine G4 (a:=d) (b:=k) (m:=(max d k:Nat)) (by omega) rfl rfl rfl rfl rfl rfl ?_;refine kW ?_;exact⟨(i+1,max d k),⟨hlt,by dsimp only;omega,by dsimp only;omega⟩,by dsimp only;omega,weak ⟨rfl,rfl,rfl,rfl,aG (by omega) (by omega),trivial⟩ trivial rfl⟩
 ·refine kE ?_
  rw[List.drop_eq_nil_of_le (by omega),jV]at h2;have hdd:d=jV args:=by omega
  rw[rz,← hdd];refine kN ?_;refine av (T:=TT) ?_;refine bK (T:=TT) rfl ?_;refine cV ?_;refine kI ?_;refine kO ?_;refine kJ ((d+1:Nat)) ?_;exact kF
theorem fb:∀(f:Nat) (m:Md) (ts:List Tk) (e:Ex) (r:List Tk),pP f m ts=some (.ok (e,r))→ ∀t∈r,t∈ts
 |0,_,_,_,_,h=>by cases h
 |f+1, .sum,ts,e,r,h=>by
  rw[fW]at h
  split at h
  ·rename_i e1 r1 h1
   exact fun t ht=>fb f _ _ _ _ h1 t (fb f _ _ _ _ h t ht)
  ·rename_i hn;exact absurd h (hn e r)
 |f+1, .prod,ts,e,r,h=>by
  rw[eX]at h
  split at h
  ·rename_i e1 r1 h1
   exact fun t ht=>fb f _ _ _ _ h1 t (fb f _ _ _ _ h t ht)
  ·rename_i hn;exact absurd h (hn e r)
 |f+1, .more two e0,ts,e,r,h=>by
  rw[cU]at h
  split at h
  ·rename_i k r1 h0
   split at h
   ·rename_i e1 r2 h1
    exact fun t ht=>qf h0 t (fb f _ _ _ _ h1 t (fb f _ _ _ _ h t ht))
   ·rename_i hn;exact absurd h (hn e r)
  ·cases h;exact fun t ht=>ht
 |f+1, .un,ts,e,r,h=>by
  rw[gA]at h
  split at h
  ·rename_i r1 h0
   split at h
   ·rename_i e1 r2 h1
    cases h;exact fun t ht=>fH h0 t (fb f _ _ _ _ h1 t ht)
   ·rename_i hn;exact absurd h (hn e r)
  ·exact fb f _ _ _ _ h
 |f+1, .prim,ts,e,r,h=>by
  rw[dG]at h
  split at h
  ·rename_i r1 h0
   split at h
   ·rename_i e1 r2 h1
    split at h
    ·rename_i r3 h2
     cases h;exact fun t ht=>fH h0 t (fb f _ _ _ _ h1 t (fH h2 t ht))
    ·cases h
   ·rename_i hn;exact absurd h (hn e r)
  ·split at h
   ·rename_i t r1 _
    split at h
    ·injection h with h
     obtain⟨q,u,_,_,hsub⟩:=vI h;exact fun t ht=>List.mem_cons_of_mem _ (hsub t ht)
    ·split at h
     ·cases h;exact fun t ht=>List.mem_cons_of_mem _ ht
     ·cases h
   ·cases h
theorem eR {E:Nat}:∀(f:Nat) (m:Md) (ts:List Tk) (x:gR),cR ts→(∀t∈ts,t.2.2≤E)→pP f m ts=some x→(match x with
  | .ok (_,r)=>cR r
  | .error (p,c)=>p≤E∧c≠0)
 |0,_,_,_,_,_,h=>by cases h
 |f+1, .sum,ts,x,hw,hE,h=>by
  rw[fW]at h
  split at h
  ·rename_i e1 r1 h1
   have a:=eR f _ _ _ hw hE h1;have hsub:=fb f _ _ _ _ h1;exact eR f _ _ _ a (fun t ht=>hE t (hsub t ht)) h
  ·exact eR f _ _ _ hw hE h
 |f+1, .prod,ts,x,hw,hE,h=>by
  rw[eX]at h
  split at h
  ·rename_i e1 r1 h1
   have a:=eR f _ _ _ hw hE h1;have hsub:=fb f _ _ _ _ h1;exact eR f _ _ _ a (fun t ht=>hE t (hsub t ht)) h
  ·exact eR f _ _ _ hw hE h
 |f+1, .more two e0,ts,x,hw,hE,h=>by
  rw[cU]at h;obtain⟨t,r,rfl⟩:=hw.ne
  split at h
  ·rename_i k r1 h0
   obtain⟨rfl,h4,_⟩:=jF h0;have hw2:=hw.tail (by omega);have hE2:∀t∈r1,t.2.2≤E:=fun t ht=>hE t (List.mem_cons_of_mem _ ht)
   split at h
   ·rename_i e1 r2 h1
    have a:=eR f _ _ _ hw2 hE2 h1;have hsub:=fb f _ _ _ _ h1;exact eR f _ _ _ a (fun t ht=>hE2 t (hsub t ht)) h
   ·exact eR f _ _ _ hw2 hE2 h
  ·cases h;exact hw
 |f+1, .un,ts,x,hw,hE,h=>by
  rw[gA]at h;obtain⟨t,r,rfl⟩:=hw.ne
  split at h
  ·rename_i r1 h0
   obtain⟨rfl,h4⟩:=jN h0;have hw2:=hw.tail (by omega);have hE2:∀t∈r1,t.2.2≤E:=fun t ht=>hE t (List.mem_cons_of_mem _ ht)
   split at h
   ·rename_i e1 r2 h1
    have a:=eR f _ _ _ hw2 hE2 h1;cases h;exact a
   ·exact eR f _ _ _ hw2 hE2 h
  ·exact eR f _ _ _ hw hE h
 |f+1, .prim,ts,x,hw,hE,h=>by
  rw[dG]at h;obtain⟨t,r,rfl⟩:=hw.ne
  split at h
  ·rename_i r1 h0
   obtain⟨rfl,h4⟩:=jN h0;have hw2:=hw.tail (by omega);have hE2:∀t∈r1,t.2.2≤E:=fun t ht=>hE t (List.mem_cons_of_mem _ ht)
   split at h
   ·rename_i e1 r2 h1
    have a:=eR f _ _ _ hw2 hE2 h1;have a:cR r2:=a;have hsub:=fb f _ _ _ _ h1;obtain⟨u,r3,rfl⟩:=a.ne
    split at h
    ·rename_i r4 h2
     obtain⟨rfl,h5⟩:=jN h2;cases h;exact a.tail (by omega)
    ·cases h
     exact⟨hE2 _ (hsub u (by simp)),by decide⟩
   ·exact eR f _ _ _ hw2 hE2 h
  ·dsimp only at h
   have ht:=hE t (by simp)
   split at h
   ·rename_i h2
    have hw2:=hw.tail (by omega)
    injection h with h
    unfold el at h
    split at h
    ·subst h;exact⟨ht,by decide⟩
    ·split at h
     ·subst h;exact⟨ht,by decide⟩
     ·split at h
      ·split at h
       ·subst h;exact hw2.tail (by omega)
       ·subst h;exact hw2
      ·subst h;exact hw2
   ·split at h
    ·cases h;exact hw.tail (by omega)
    ·cases h;exact⟨ht,by decide⟩
end Go.Proofs.YtikbnnljjeefgaaGreatDoor
