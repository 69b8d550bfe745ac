/- Parts of a proof: contracts of the functions that the laws reach. -/
import Derived.Test.YtnchbpoopnjghaaGreatDoorCZ6
set_option maxHeartbeats 100000000
set_option maxRecDepth 100000
set_option linter.all false
open Go.Proofs.Tryz
namespace Go.Proofs.YtnchbpoopnjghaaGreatDoor
open Go.RowKit
def xQ:Bool->List UInt8
 |false=>[43,45]
 |true=>[42,47]
def NR:Bool->List (Value × Value)
 |false=>[(.string ⟨#[43]⟩, .int .i64 4),(.string ⟨#[45]⟩, .int .i64 5)]
 |true=>[(.string ⟨#[42]⟩, .int .i64 6),(.string ⟨#[47]⟩, .int .i64 7)]
theorem Gt (a b c:UInt8):(0<=Lib.indexByte [a,b] c)↔(c=a∨c=b):=by
 rw[AF]
 simp
theorem G7 (a c:UInt8):(0<=Lib.indexByte [a] c)↔c=a:=by
 rw[AF]
 simp
theorem RJ (two:Bool) (t:Tk) (r:List Tk):(decide (t.1=4) && C7 (xQ two) t)=(ij two (t::r)).isSome:=by
 obtain⟨k,x,p⟩:=t
 by_cases h4:k=4
 ·subst h4
  match x with
  | []=>cases two<;>rfl
  |c::d::y=>cases two<;>rfl
  | [c]=>
   cases two
   ·show decide (0<=Lib.indexByte [43,45] c)=_
    by_cases h1:c=43
    ·subst h1;rfl
    ·by_cases h2:c=45
     ·subst h2;rfl
     ·rw[decide_eq_false (by rw[Gt];simp[h1,h2])]
      simp[ij,Ep,h1,h2]
   ·show decide (0<=Lib.indexByte [42,47] c)=_
    by_cases h1:c=42
    ·subst h1;rfl
    ·by_cases h2:c=47
     ·subst h2;rfl
     ·rw[decide_eq_false (by rw[Gt];simp[h1,h2])]
      simp[ij,Ep,h1,h2]
 ·simp[ij,h4]
theorem po {two:Bool} {t:Tk} {r r2:List Tk} {k:B4} (h:ij two (t::r)=some (k,r2)):r2=r/\t.1=4/\ ∃c,t.2.1=[c]/\P1 ⟨#[c]⟩ (NR two)=some (.int .i64 k.code):=by
 obtain⟨k4,x,p⟩:=t
 simp only[ij]at h
 split at h
 ·rename_i h4
  split at h
  ·rename_i k' hk
   cases h;refine⟨rfl,h4,?_⟩
   match x,hk with
   | [],hk=>cases two<;>cases hk
   |c::d::y,hk=>cases two<;>cases hk
   | [c],hk=>
    cases two
    ·exact LY
    ·exact LY
  ·cases h
 ·cases h
theorem y6 (c:UInt8) (t:Tk) (r:List Tk):(decide (t.1=4) && C7 [c] t)=(cx c (t::r)).isSome:=by
 obtain⟨k,x,p⟩:=t
 by_cases h4:k=4
 ·subst h4
  match x with
  | []=>simp[C7,cx]
  |b::d::y=>simp[C7,cx]
  | [b]=>
   show decide (0<=Lib.indexByte [c] b)=_
   by_cases h:b=c
   ·subst h;rw[decide_eq_true ((G7 b b).2 rfl)];simp[cx]
   ·rw[decide_eq_false (by rw[G7];exact h)];simp[cx,h]
 ·simp[cx,h4]
theorem nM {c:UInt8} {t:Tk} {r r2:List Tk} (h:cx c (t::r)=some r2):r2=r/\t.1=4:=by
 simp only[cx]at h
 split at h
 ·rename_i h1;cases h;exact⟨rfl,h1.1⟩
 ·cases h
def Qf (fid:FuncId) (ts:List Tk) (a:Int) (Y:Rx × List Tk):mL->Prop
 | .ok (e,r)=>ap Tryz.prog fid [.box 900 0] [(900,fv ts a 0)] (.v (.one (dE e))) [(900,fv r a 0)]/\fc r
 | .error (p,c)=>c≠0/\ap Tryz.prog fid [.box 900 0] [(900,fv ts a 0)] (.v (.one (dR Y.1))) [(900,fv Y.2 p c)]/\fc Y.2
theorem C5 {fid:FuncId} {a:Int} {g:List Tk->Option mL} (h:∀ts x,fc ts->g ts=some x->Rd fid ts a x):∃Y:List Tk->Rx × List Tk,∀ts x,fc ts->g ts=some x->Qf fid ts a (Y ts) x:=by
 have:∀ts:List Tk,∃Y:Rx × List Tk,∀x,fc ts->g ts=some x->Qf fid ts a Y x:=fun ts=>by
  by_cases hw:fc ts
  ·cases hg:g ts with
   |none=>exact⟨(.mk 0 false [] false [] [] [],[]),fun x _ hx=>by cases hx⟩
   |some x=>
    have hx:=h ts x hw hg;cases x with
    |ok y=>exact⟨(.mk 0 false [] false [] [] [],[]),fun x _ hx'=>by cases hx';exact hx⟩
    |error y=>
     obtain⟨hc,y1,ts1,h1,h2⟩:=hx;exact⟨(y1,ts1),fun x _ hx'=>by cases hx';exact⟨hc,h1,h2⟩⟩
  ·exact⟨(.mk 0 false [] false [] [] [],[]),fun x hw'=>absurd hw' hw⟩
 obtain⟨Y,hY⟩:=Classical.axiomOfChoice this;exact⟨Y,fun ts x hw hx=>hY ts x hw hx⟩
noncomputable def gB (two:Bool) (Y:List Tk->Rx × List Tk):Nat->Ex->List Tk->Rx × List Tk
 |0,e,ts=>(rx e,ts)
 |f+1,e,ts=>match ij two ts with
  |some (k,r)=>match pP f (iN two) r with
   |some (.ok (e2,r2))=>gB two Y f (.bin k e e2) r2
   |_=>(.mk k.code false [] false [] [] [rx e,(Y r).1],(Y r).2)
  |none=>(rx e,ts)
inductive LS where
 |run (f:Nat) (e:Ex) (ts:List Tk)
 |bad (y:Rx) (ts:List Tk) (p c:Int)
def LS.c1:LS->List AV
 | .run _ e _=>aE e
 | .bad y _ _ _=>aR y
def LS.c2 (a:Int):LS->List AV
 | .run _ _ ts=>fv ts a 0
 | .bad _ ts p c=>fv ts p c
def bS (two:Bool) (fop:FuncId) (c1 c2:List AV):AS:=⟨[(0, .box 900 0),(1, .d (dL (xQ two))),(2, .mp (NR two)),(3, .clo (.func fop) [.box 900 0] []),(8, .box 0 0),(9, .box 1002 0)],[(0,some (ab 0 false [] false [] [] 0 [])),(1002,some c1),(900,some c2)]⟩
abbrev O7 (two:Bool) (fop:FuncId):List TV:=[.box 900 0, .d (dL (xQ two)), .mp (NR two), .clo (.func fop) [.box 900 0] []]
def Tg (two:Bool) (fop:FuncId) (ts:List Tk) (a:Int):mL->Prop
 | .ok (e,r)=>ap Tryz.prog 120 (O7 two fop) [(900,fv ts a 0)] (.v (.one (dE e))) [(900,fv r a 0)]/\fc r
 | .error (p,c)=>c≠0/\ ∃y ts',ap Tryz.prog 120 (O7 two fop) [(900,fv ts a 0)] (.v (.one (dR y))) [(900,fv ts' p c)]/\fc ts'
def LS.I (two:Bool) (Y:List Tk->Rx × List Tk) (f:Nat) (a:Int) (D:DV) (B:List AV):LS->Prop
 | .run f' e ts=>fc ts/\f'<=f/\ ∃x',pP f' (.more two e) ts=some x'/\(match x' with
  | .ok (e',r')=>D=dE e'/\B=fv r' a 0
  | .error (p,c)=>D=dR (gB two Y f' e ts).1/\B=fv (gB two Y f' e ts).2 p c)
 | .bad y ts p c=>fc ts/\c≠0/\D=dR y/\B=fv ts p c
def LS.mu:LS->Nat
 | .run f _ _=>f+1
 | .bad _ _ _ _=>0
theorem DS (k:B4) (e:Ex) (y:Rx):aR (.mk k.code false [] false [] [] [rx e,y])=[.val (.int .i64 k.code)]++jb++[.val (vL []), .sl 2 (aE e++aR y)]:=by
 show [.val (.int .i64 k.code)]++yQ false [] false []++[.val (vL []), .sl 2 (aR (rx e)++(aR y++[]))]=_;rw[List.append_nil];rfl
theorem LR (two:Bool) (fop:FuncId) (f:Nat) (a:Int) (Y:List Tk->Rx × List Tk) (hY:∀ts x,fc ts->pP f (iN two) ts=some x->Qf fop ts a (Y ts) x) (ts:List Tk) (hT:fc ts) {e0:Ex} {r0:List Tk} (h0:pP f (iN two) ts=some (.ok (e0,r0)))
 {D:DV} {B:List AV} (hB:B.length=3) (hI:LS.I two Y f a D B (.run f e0 r0)):ap Tryz.prog 120 (O7 two fop) [(900,fv ts a 0)] (.v (.one D)) [(900,B)]:=by
 obtain⟨c0,hw0⟩:=hY ts _ hT h0;obtain⟨t,r,hr⟩:=hw0.ne;obtain⟨o1,na1,xs1,nb1,ys1,nm1,n1,cs1,hA⟩:=aX e0;have hE:dE e0= .agg (ab o1 na1 xs1 nb1 ys1 nm1 n1 cs1):=congrArg DV.agg hA;rw[hE]at c0;refine aG ac cg func120 rfl rfl rfl rfl rfl ((cH.one (Nat.le_of_eq hB.symm))) ?_;refine kW ?_;refine kZ (c0) ?_
 refine ax LS (LS.I two Y f a D B) (fun x=>bS two fop x.c1 (x.c2 a)) LS.mu (.run f e0 r0) hI (by
  refine Eq.mpr (congrArg (fun c=>aL _ (bS two fop c (fv r0 a 0))) hA) ?_;exact weak ⟨rfl,rfl,rfl,rfl,rfl,rfl,trivial⟩ ⟨rfl,rfl,rfl,trivial⟩ rfl) ?_
 intro x hx;cases x with
 |bad y ts1 p c=>
  obtain⟨hw,hc,rfl,rfl⟩:=hx;obtain⟨t,r,rfl⟩:=hw.ne;obtain⟨o1,na1,xs1,nb1,ys1,nm1,n1,cs1,hA⟩:=aM y;have cis:=rg (xQ two) t r p c hw.head.1;rw[decide_eq_false hc,Bool.false_and]at cis;rw[show dR y= .agg (ab o1 na1 xs1 nb1 ys1 nm1 n1 cs1) from congrArg DV.agg hA];show ft _ _ _ _ _ (bS two fop (aR y) (fv (t::r) p c));rw[hA];unfold bS;refine kW ?_;refine kD (cis) ?_;exact jo
 |run f' e ts1=>
  obtain⟨hw,hf,x',hx,hD⟩:=hx;obtain⟨t,r,rfl⟩:=hw.ne;obtain⟨o1,na1,xs1,nb1,ys1,nm1,n1,cs1,hA⟩:=aX e;have cis:=rg (xQ two) t r a 0 hw.head.1;rw[decide_eq_true rfl,Bool.true_and,RJ]at cis;show ft _ _ _ _ _ (bS two fop (aE e) (fv (t::r) a 0));rw[hA];cases f' with
  |zero=>cases hx
  |succ f'=>
  rw[eG]at hx;cases ho:ij two (t::r)with
  |none=>
   rw[ho]at hx cis;cases hx;obtain⟨rfl,rfl⟩:=hD;rw[show dE e= .agg (ab o1 na1 xs1 nb1 ys1 nm1 n1 cs1) from congrArg DV.agg hA];have cis:ap Tryz.prog 169 [.box 900 0, .d (dL (xQ two))] [(900,fv (t::r) a 0)] (.v (.one (dB false))) [(900,fv (t::r) a 0)]:=cis;unfold bS;refine kW ?_;refine kD (cis) ?_;exact jo
  |some q=>
   obtain⟨k,r2⟩:=q;obtain⟨rfl,h4,c,hc,hl⟩:=po ho;rw[ho]at hx cis;have cis:ap Tryz.prog 169 [.box 900 0, .d (dL (xQ two))] [(900,fv (t::r2) a 0)] (.v (.one (dB true))) [(900,fv (t::r2) a 0)]:=cis;have hw2:fc r2:=hw.tail (by omega);obtain⟨k4,tx,p0⟩:=t;dsimp only at h4 hc;subst h4 hc;dsimp only at hx;cases hy:pP f' (iN two) r2 with
   |none=>rw[hy]at hx;cases hx
   |some y=>
    have cy:=hY r2 y hw2 (HY (by omega) hy);rw[hy]at hx;cases y with
    |error z=>
     obtain⟨p,c1⟩:=z;cases hx;obtain⟨hc1,cy,hw3⟩:=cy
     have hg:gB two Y (f'+1) e ((4,[c],p0)::r2)=(.mk k.code false [] false [] [] [rx e,(Y r2).1],(Y r2).2):=by
      rw[gB,ho];dsimp only;rw[hy]
     rw[hg]at hD;obtain⟨o2,na2,xs2,nb2,ys2,nm2,n2,cs2,hA2⟩:=aM (Y r2).1;have hbad:=DS k e (Y r2).1;rw[hA,hA2]at hbad;rw[show dR (Y r2).1= .agg (ab o2 na2 xs2 nb2 ys2 nm2 n2 cs2) from congrArg DV.agg hA2]at cy;generalize hY2:(Y r2).2=ts2 at *;unfold bS;refine DH ?_;refine NJ ?_;refine⟨.bad (.mk k.code false [] false [] [] [rx e,(Y r2).1]) ts2 p c1,⟨hw3,hc1,hD.1,hD.2⟩,Nat.succ_pos _,?_⟩;refine Eq.mpr (congrArg (fun c=>aL _ (bS two fop c (fv ts2 p c1))) hbad) ?_;exact kw
    |ok z=>
     obtain⟨e2,r3⟩:=z;obtain⟨cy,hw3⟩:=cy;have hx:pP f' (.more two (.bin k e e2)) r3=some x':=hx
     have hg:gB two Y (f'+1) e ((4,[c],p0)::r2)=gB two Y f' (.bin k e e2) r3:=by
      rw[gB,ho];dsimp only;rw[hy]
     rw[hg]at hD;obtain⟨o2,na2,xs2,nb2,ys2,nm2,n2,cs2,hA2⟩:=aX e2;have hbin:=jw k e e2;rw[hA,hA2]at hbin;rw[show dE e2= .agg (ab o2 na2 xs2 nb2 ys2 nm2 n2 cs2) from congrArg DV.agg hA2]at cy;unfold bS;refine DH ?_;refine NJ ?_;refine⟨.run f' (.bin k e e2) r3,⟨hw3,by omega,x',hx,hD⟩,by show f'+1<f'+1+1;omega,?_⟩;refine Eq.mpr (congrArg (fun c=>aL _ (bS two fop c (fv r3 a 0))) hbin) ?_;exact kw
theorem Hh {two:Bool} {fop:FuncId} {f:Nat} {a:Int} {Y:List Tk->Rx × List Tk} (hY:∀ts x,fc ts->pP f (iN two) ts=some x->Qf fop ts a (Y ts) x):∀(f':Nat) (e:Ex) (ts:List Tk) (e':Ex) (r':List Tk),f'<=f->fc ts->pP f' (.more two e) ts=some (.ok (e',r'))->fc r'
 |0,_,_,_,_,_,_,h=>by cases h
 |f'+1,e,ts,e',r',hf,hw,h=>by
  rw[eG]at h;obtain⟨t,r,rfl⟩:=hw.ne;cases ho:ij two (t::r)with
  |none=>rw[ho]at h;cases h;exact hw
  |some q=>
   obtain⟨k,r2⟩:=q;obtain⟨rfl,h4,_⟩:=po ho;have hw2:fc r2:=hw.tail (by omega);rw[ho]at h;dsimp only at h ⊢;cases hy:pP f' (iN two) r2 with
   |none=>rw[hy]at h;cases h
   |some y=>
    have cy:=hY r2 y hw2 (HY (by omega) hy);rw[hy]at h;cases y with
    |error z=>cases h
    |ok z=>exact Hh hY f' _ _ e' r' (by omega) cy.2 h
theorem CG {two:Bool} {fop:FuncId} {f:Nat} {a:Int} {Y:List Tk->Rx × List Tk} (hY:∀ts x,fc ts->pP f (iN two) ts=some x->Qf fop ts a (Y ts) x):∀(f':Nat) (e:Ex) (ts:List Tk) (p:Nat) (c:Int),f'<=f->fc ts->pP f' (.more two e) ts=some (.error (p,c))->c≠0/\fc (gB two Y f' e ts).2
 |0,_,_,_,_,_,_,h=>by cases h
 |f'+1,e,ts,p,c,hf,hw,h=>by
  rw[eG]at h;rw[gB];obtain⟨t,r,rfl⟩:=hw.ne;cases ho:ij two (t::r)with
  |none=>rw[ho]at h;cases h
  |some q=>
   obtain⟨k,r2⟩:=q;obtain⟨rfl,h4,_⟩:=po ho;have hw2:fc r2:=hw.tail (by omega);rw[ho]at h;dsimp only at h ⊢;cases hy:pP f' (iN two) r2 with
   |none=>rw[hy]at h;cases h
   |some y=>
    have cy:=hY r2 y hw2 (HY (by omega) hy);rw[hy]at h;cases y with
    |error z=>cases h;exact⟨cy.1,cy.2.2⟩
    |ok z=>exact CG hY f' _ _ p c (by omega) cy.2 h
theorem tL (two:Bool) (fop:FuncId) (f:Nat) (a:Int) (hop:∀ts x,fc ts->pP f (iN two) ts=some x->Rd fop ts a x) (ts:List Tk) (x:mL) (hT:fc ts) (hx:(match pP f (iN two) ts with
  |some (.ok (e,r))=>pP f (.more two e) r
  |y=>y)=some x):Tg two fop ts a x:=by
 obtain⟨Y,hY⟩:=C5 hop;cases h0:pP f (iN two) ts with
 |none=>rw[h0]at hx;cases hx
 |some y0=>
  rw[h0]at hx;have c0:=hY ts y0 hT h0;cases y0 with
  |error z=>
   cases hx;obtain⟨p,c⟩:=z;obtain⟨hc,c0,hw⟩:=c0;refine⟨hc,(Y ts).1,(Y ts).2,?_,hw⟩;generalize(Y ts).1=y at *;generalize(Y ts).2=ts' at *;obtain⟨t,r,rfl⟩:=hw.ne;obtain⟨o1,na1,xs1,nb1,ys1,nm1,n1,cs1,hA⟩:=aM y;rw[show dR y= .agg (ab o1 na1 xs1 nb1 ys1 nm1 n1 cs1) from congrArg DV.agg hA]at c0 ⊢;have cis:=rg (xQ two) t r p c hw.head.1;rw[decide_eq_false hc,Bool.false_and]at cis;refine aG ac cg func120 rfl rfl rfl rfl rfl (fJ) ?_;refine kW ?_;refine kZ (c0) ?_;refine ax Unit (fun _=>True) (fun _=>bS two fop (ab o1 na1 xs1 nb1 ys1 nm1 n1 cs1) (fv (t::r) p c)) (fun _=>0) () trivial kw ?_;rintro _ _;unfold bS;refine kW ?_;refine kD (cis) ?_;exact jo
  |ok z=>
   obtain⟨e,r⟩:=z;have hx:pP f (.more two e) r=some x:=hx;cases x with
   |ok w=>
    obtain⟨e',r'⟩:=w;exact⟨LR two fop f a Y hY ts hT h0 (B:=fv r' a 0) rfl ⟨c0.2,Nat.le_refl _,_,hx,rfl,rfl⟩,Hh hY f e r e' r' (Nat.le_refl _) c0.2 hx⟩
   |error w=>
    obtain⟨p,c⟩:=w;obtain⟨hc,hw⟩:=CG hY f e r p c (Nat.le_refl _) c0.2 hx;exact⟨hc,_,_,LR two fop f a Y hY ts hT h0 (B:=fv _ p c) rfl ⟨c0.2,Nat.le_refl _,_,hx,rfl,rfl⟩,hw⟩
structure Q1 (f:Nat) (a:Int):Prop where
 sum:∀ts x,fc ts->pP f .sum ts=some x->Rd 78 ts a x
 prod:∀ts x,fc ts->pP f .prod ts=some x->Rd 121 ts a x
 un:∀ts x,fc ts->pP f .un ts=some x->Rd 171 ts a x
 prim:∀ts x,fc ts->pP f .prim ts=some x->Rd 229 ts a x
theorem Pt {f:Nat} {a:Int} (ih:∀ts x,fc ts->pP f .prod ts=some x->Rd 121 ts a x) (ts:List Tk) (x:mL) (hT:fc ts) (hx:pP (f+1) .sum ts=some x):Rd 78 ts a x:=by
 have h:=tL false 121 f a ih ts x hT (by rw[i8]at hx;exact hx);cases x with
 |ok z=>
  obtain⟨e,r⟩:=z;obtain⟨h,hw⟩:=h;refine⟨?_,hw⟩;obtain⟨o1,na1,xs1,nb1,ys1,nm1,n1,cs1,hA⟩:=aX e;rw[show dE e= .agg (ab o1 na1 xs1 nb1 ys1 nm1 n1 cs1) from congrArg DV.agg hA]at h ⊢;exact T2
 |error z=>
  obtain⟨p,c⟩:=z;obtain⟨hc,y,ts',h,hw⟩:=h;refine⟨hc,y,ts',?_,hw⟩;obtain⟨o1,na1,xs1,nb1,ys1,nm1,n1,cs1,hA⟩:=aM y;rw[show dR y= .agg (ab o1 na1 xs1 nb1 ys1 nm1 n1 cs1) from congrArg DV.agg hA]at h ⊢;exact T2
theorem Lg {f:Nat} {a:Int} (ih:∀ts x,fc ts->pP f .un ts=some x->Rd 171 ts a x) (ts:List Tk) (x:mL) (hT:fc ts) (hx:pP (f+1) .prod ts=some x):Rd 121 ts a x:=by
 have h:=tL true 171 f a ih ts x hT (by rw[f5]at hx;exact hx);cases x with
 |ok z=>
  obtain⟨e,r⟩:=z;obtain⟨h,hw⟩:=h;refine⟨?_,hw⟩;obtain⟨o1,na1,xs1,nb1,ys1,nm1,n1,cs1,hA⟩:=aX e;rw[show dE e= .agg (ab o1 na1 xs1 nb1 ys1 nm1 n1 cs1) from congrArg DV.agg hA]at h ⊢;exact Mp
 |error z=>
  obtain⟨p,c⟩:=z;obtain⟨hc,y,ts',h,hw⟩:=h;refine⟨hc,y,ts',?_,hw⟩;obtain⟨o1,na1,xs1,nb1,ys1,nm1,n1,cs1,hA⟩:=aM y;rw[show dR y= .agg (ab o1 na1 xs1 nb1 ys1 nm1 n1 cs1) from congrArg DV.agg hA]at h ⊢;exact Mp
theorem C9 (y:Rx):aR (.mk 3 false [] false [] [] [y])=[.val (.int .i64 3)]++jb++[.val (vL []), .sl 1 (aR y)]:=by
 show [.val (.int .i64 3)]++yQ false [] false []++[.val (vL []), .sl 1 (aR y++[])]=_;rw[List.append_nil];rfl
theorem Qw {f:Nat} {a:Int} (ih:∀ts x,fc ts->pP f .un ts=some x->Rd 171 ts a x) (ih2:∀ts x,fc ts->pP f .prim ts=some x->Rd 229 ts a x) (ts:List Tk) (x:mL) (hT:fc ts) (hx:pP (f+1) .un ts=some x):Rd 171 ts a x:=by
 obtain⟨t,r,rfl⟩:=hT.ne;rw[mw]at hx;have cis:=rg [45] t r a 0 hT.head.1;rw[decide_eq_true rfl,Bool.true_and,y6]at cis;cases hs:cx 45 (t::r)with
 |some r2=>
  obtain⟨rfl,h4⟩:=nM hs;rw[hs]at hx cis;have cis:ap Tryz.prog 169 [.box 900 0, .d (dL [45])] [(900,fv (t::r2) a 0)] (.v (.one (dB true))) [(900,fv (t::r2) a 0)]:=cis;have hw2:fc r2:=hT.tail (by omega);dsimp only at hx;cases hy:pP f .un r2 with
  |none=>rw[hy]at hx;cases hx
  |some y=>
   have cy:=ih r2 y hw2 hy;rw[hy]at hx;cases y with
   |ok z=>
    obtain⟨e,r3⟩:=z;cases hx;obtain⟨cy,hw3⟩:=cy;refine⟨?_,hw3⟩;obtain⟨o1,na1,xs1,nb1,ys1,nm1,n1,cs1,hA⟩:=aX e;rw[show dE (.neg e)= .agg ([.val (.int .i64 3)]++jb++[.val (vL []), .sl 1 (aE e)]) from congrArg DV.agg (nS e),hA];rw[show dE e= .agg (ab o1 na1 xs1 nb1 ys1 nm1 n1 cs1) from congrArg DV.agg hA]at cy;exact T1
   |error z=>
    cases hx;obtain⟨p,c⟩:=z;obtain⟨hc,y,ts',cy,hw3⟩:=cy;refine⟨hc, .mk 3 false [] false [] [] [y],ts',?_,hw3⟩;obtain⟨o1,na1,xs1,nb1,ys1,nm1,n1,cs1,hA⟩:=aM y;rw[show dR (.mk 3 false [] false [] [] [y])= .agg ([.val (.int .i64 3)]++jb++[.val (vL []), .sl 1 (aR y)]) from congrArg DV.agg (C9 y),hA];rw[show dR y= .agg (ab o1 na1 xs1 nb1 ys1 nm1 n1 cs1) from congrArg DV.agg hA]at cy;exact T1
 |none=>
  rw[hs]at hx cis;have cis:ap Tryz.prog 169 [.box 900 0, .d (dL [45])] [(900,fv (t::r) a 0)] (.v (.one (dB false))) [(900,fv (t::r) a 0)]:=cis;have cy:=ih2 (t::r) x hT hx;cases x with
  |ok z=>
   obtain⟨e,r3⟩:=z;obtain⟨cy,hw3⟩:=cy;refine⟨?_,hw3⟩;obtain⟨o1,na1,xs1,nb1,ys1,nm1,n1,cs1,hA⟩:=aX e;rw[show dE e= .agg (ab o1 na1 xs1 nb1 ys1 nm1 n1 cs1) from congrArg DV.agg hA]at cy ⊢;refine E1 ?_;refine DH ?_;refine kD (cy) ?_;exact jo
  |error z=>
   obtain⟨p,c⟩:=z;obtain⟨hc,y,ts',cy,hw3⟩:=cy;refine⟨hc,y,ts',?_,hw3⟩;obtain⟨o1,na1,xs1,nb1,ys1,nm1,n1,cs1,hA⟩:=aM y;rw[show dR y= .agg (ab o1 na1 xs1 nb1 ys1 nm1 n1 cs1) from congrArg DV.agg hA]at cy ⊢;refine E1 ?_;refine DH ?_;refine kD (cy) ?_;exact jo
def z7:Rx:= .mk 0 false [] false [] [] []
theorem KW {f:Nat} {a:Int} (ih:∀ts x,fc ts->pP f .sum ts=some x->Rd 78 ts a x) (ts:List Tk) (x:mL) (hT:fc ts) (hx:pP (f+1) .prim ts=some x):Rd 229 ts a x:=by
 obtain⟨t,r,rfl⟩:=hT.ne;rw[fO]at hx;have cis:=rg [40] t r a 0 hT.head.1;rw[decide_eq_true rfl,Bool.true_and,y6]at cis;cases hs:cx 40 (t::r)with
 |some r2=>
  obtain⟨rfl,h4⟩:=nM hs;rw[hs]at hx cis;have cis:ap Tryz.prog 169 [.box 900 0, .d (dL [40])] [(900,fv (t::r2) a 0)] (.v (.one (dB true))) [(900,fv (t::r2) a 0)]:=cis;have hw2:fc r2:=hT.tail (by omega);dsimp only at hx;cases hy:pP f .sum r2 with
  |none=>rw[hy]at hx;cases hx
  |some y=>
   have cy:=ih r2 y hw2 hy;rw[hy]at hx;cases y with
   |error z=>
    cases hx;obtain⟨p,c⟩:=z;obtain⟨hc,y,ts',cy,hw3⟩:=cy;refine⟨hc,z7,ts',?_,hw3⟩;obtain⟨u,r4,rfl⟩:=hw3.ne;obtain⟨o1,na1,xs1,nb1,ys1,nm1,n1,cs1,hA⟩:=aM y;rw[show dR y= .agg (ab o1 na1 xs1 nb1 ys1 nm1 n1 cs1) from congrArg DV.agg hA]at cy;have cis2:=rg [41] u r4 p c hw3.head.1;rw[decide_eq_false hc,Bool.false_and]at cis2;refine NX ?_;refine kD (yo u r4 p c 2 hc) ?_;exact jo
   |ok z=>
    obtain⟨e,r3⟩:=z;obtain⟨cy,hw3⟩:=cy;obtain⟨u,r4,rfl⟩:=hw3.ne;obtain⟨o1,na1,xs1,nb1,ys1,nm1,n1,cs1,hA⟩:=aX e;rw[show dE e= .agg (ab o1 na1 xs1 nb1 ys1 nm1 n1 cs1) from congrArg DV.agg hA]at cy;have cis2:=rg [41] u r4 a 0 hw3.head.1;rw[decide_eq_true rfl,Bool.true_and,y6]at cis2;dsimp only at hx;cases hs2:cx 41 (u::r4)with
    |some r5=>
     obtain⟨rfl,h4'⟩:=nM hs2;rw[hs2]at hx cis2;cases hx;refine⟨?_,hw3.tail (by omega)⟩;rw[show dE e= .agg (ab o1 na1 xs1 nb1 ys1 nm1 n1 cs1) from congrArg DV.agg hA];have cis2:ap Tryz.prog 169 [.box 900 0, .d (dL [41])] [(900,fv (u::r5) a 0)] (.v (.one (dB true))) [(900,fv (u::r5) a 0)]:=cis2;refine NX ?_;refine kD (iU u r5 a 0) ?_;exact jo
    |none=>
     rw[hs2]at hx cis2;cases hx;refine⟨by decide,z7,u::r4,?_,hw3⟩;have cis2:ap Tryz.prog 169 [.box 900 0, .d (dL [41])] [(900,fv (u::r4) a 0)] (.v (.one (dB false))) [(900,fv (u::r4) a 0)]:=cis2;refine NX ?_;refine kD (jT u r4 a 2) ?_;exact jo
 |none=>
  rw[hs]at hx cis;dsimp only at hx;have cis:ap Tryz.prog 169 [.box 900 0, .d (dL [40])] [(900,fv (t::r) a 0)] (.v (.one (dB false))) [(900,fv (t::r) a 0)]:=cis
  by_cases h2:t.1=2
  ·rw[if_pos h2]at hx
   cases hx;obtain⟨u,r4,rfl⟩:=(hT.tail (by omega)).ne;have cn:=Dd t u r4 a h2 hT;cases hP:gY t (u::r4)with
   |ok z=>
    obtain⟨e,r3⟩:=z;rw[hP]at cn;obtain⟨cy,hw3⟩:=cn;refine⟨?_,hw3⟩;obtain⟨o1,na1,xs1,nb1,ys1,nm1,n1,cs1,hA⟩:=aX e;rw[show dE e= .agg (ab o1 na1 xs1 nb1 ys1 nm1 n1 cs1) from congrArg DV.agg hA]at cy ⊢;exact Ff
   |error z=>
    obtain⟨p,c⟩:=z;rw[hP]at cn;obtain⟨hc,y,ts',cy,hw3⟩:=cn;refine⟨hc,y,ts',?_,hw3⟩;obtain⟨o1,na1,xs1,nb1,ys1,nm1,n1,cs1,hA⟩:=aM y;rw[show dR y= .agg (ab o1 na1 xs1 nb1 ys1 nm1 n1 cs1) from congrArg DV.agg hA]at cy ⊢;exact Ff
  ·rw[if_neg h2]at hx
   by_cases h1:t.1=1
   ·rw[if_pos h1]at hx
    cases hx;refine⟨?_,hT.tail (by omega)⟩;refine On ?_;refine kD (ct t r a 0) ?_;refine kO ?_;refine kY ?_;refine kD (ct t r a 0) ?_;refine kO ?_;refine kX ?_;refine kD (iU t r a 0) ?_;exact jo
   ·rw[if_neg h1]at hx
    cases hx;refine⟨by decide,z7,t::r,?_,hT⟩;refine On ?_;refine kD (ct t r a 0) ?_;refine kO ?_;refine kY ?_;refine kD (ct t r a 0) ?_;refine kO ?_;refine kE ?_;refine DH ?_;refine kD (jT t r a 2) ?_;exact jo
theorem Ia (a:Int):∀f,Q1 f a
 |0=>⟨fun _ _ _ h=>(by cases h),fun _ _ _ h=>(by cases h),fun _ _ _ h=>(by cases h),fun _ _ _ h=>(by cases h)⟩
 |f+1=>by
  have ih:=Ia a f;exact⟨fun ts x hT hx=>Pt ih.prod ts x hT hx,fun ts x hT hx=>Lg ih.un ts x hT hx,fun ts x hT hx=>Qw ih.un ih.prim ts x hT hx,fun ts x hT hx=>KW ih.sum ts x hT hx⟩
section
variable {P:Program} {T:TypeId->Option Ty} {n:Nat} {ops:Array Oper} {id:Nat} {draw:Bool} {K:AS->Prop} {s:AS} {k:Nat} {o:Oper} {os:List Oper} {fps:List FP}
theorem ro:∀(b c:BL),(∀x∈c,x∈b)->b9 b c=[]
 |_,[],_=>rfl
 |b,(j,cs)::r,h=>by
  rw[b9]
  have hj:(af (an b) j).isSome:=by
   have hm:=h (j,cs) (by simp);clear h
   induction b with
   |nil=>cases hm
   |cons y l ih=>
    obtain⟨i,ci⟩:=y
    by_cases e:i=j
    ·subst e;rw[an,ae];rfl
    ·rw[an,aj _ _ e]
     rcases List.mem_cons.1 hm with h|h
     ·cases h;exact absurd rfl e
     ·exact ih h
  cases hl:af (an b) j with
  |none=>rw[hl]at hj;cases hj
  |some x=>exact ro b r (fun x hx=>h x (List.mem_cons_of_mem _ hx))
theorem yr {s:AS}:∀{b:BL},pp s (an b)-> ∀j,af (an b++s.b) j=af s.b j
 | [],_,_=>rfl
 |(i,cs)::r,h,j=>by
  have h1:s.bx i=some cs:=h.1;have h2:pp s (an r):=h.2
  by_cases e:i=j
  ·subst e
   rw[an,List.cons_append,ae];unfold AS.bx at h1
   split at h1
   ·rename_i x hx;cases h1;exact hx.symm
   ·cases h1
  ·rw[an,List.cons_append,aj _ _ e];exact yr h2 j
theorem mE {f:Operand} {fid:FuncId} {args:Array Operand} {tys:Array TypeId} {ts:List TV} {b:BL} {r:RT} (hc:ap P fid ts b r b) (h1:gd ops s o=some true) (ho:o.op= .call ⟨.value f,args,tys⟩) (hcl:vy s f args.toList=some (fid,ts)) (hone:sd s f=true)
 (hk:(CQ (an b) (ts.flatMap dj) && rZ (an b) (an b))=true) (hb:pp s (an b)) (hcn:db [] s.b=true) (hnew:lR s b b=true) (h3:aB n o.dst=true) (h4:eZ draw ops (au ops o ⟨r.tv,none⟩ (b.map (·.1))) k fps=true)
 (h:ak P T n ops id draw K (k+1) os (s.eff o.dst ⟨r.tv,none⟩) (au ops o ⟨r.tv,none⟩ (b.map (·.1))::fps)):ak P T n ops id draw K k (o::os) s fps:=by
 refine .run h1 (.genC (iG hcn) fun s2 hc2 ht hrb=>?_) h3 h4 h;have hf:s2.ev f=s.ev f:=aq ht (by rw[ho];simp[Op.operands,Call.operands]);have hcl2:=ri (s':=s2) (s:=s) (f:=f) (args:=args.toList) hf (fun x hx=>aq ht (by rw[ho];simp[Op.operands,Call.operands];exact .inr (by simpa using hx)));have hone2:sd s2 f=true:=by unfold sd at hone ⊢;rw[hf];exact hone
 have hb2:=kb hrb hb;have:=oD hc ho (hcl2.trans hcl) hone2 hk hb2 (fun j cs hj _=>hc2 j cs hj) ((iJ hrb).trans hnew);intro n S0 w0 g a w K Q hM hd hK;refine this n S0 w0 g a w K Q hM hd fun g' a' w' hM'=>hK g' a' w' (hM'.ext (fun k=>?_) (fun j=>?_))
 ·cases o.dst<;>rfl
 ·rw[ro b b (fun _ h=>h),List.append_nil]
  exact(yr hb2 j).symm
end
def SX (E:Nat) (b:Int) (p:Nat) (c:Int):Int:=if p=E/\b≠0 then b else c
def Pl (E:Nat) (ts:List Tk):Prop:=∀t∈ts,(t.1=0->t.2.2=E)/\(t.1≠0->t.2.2<E)
theorem R6 {E:Nat} {p:Nat} {c:Int}:SX E 0 p c=c:=if_neg (fun e=>e.2 rfl)
theorem xq {two:Bool} {ts r:List Tk} {k:B4} (h:ij two ts=some (k,r)):∀t∈r,t∈ts:=by
 cases ts with
 |nil=>cases h
 |cons t r'=>
  simp only[ij]at h
  split at h
  ·exact BB
  ·cases h
theorem f6 {c:UInt8} {ts r:List Tk} (h:cx c ts=some r):∀t∈r,t∈ts:=by
 cases ts with
 |nil=>cases h
 |cons t r'=>
  simp only[cx]at h
  exact BB
theorem xN {t:Tk} {r r2:List Tk} {e:Ex} (h:gY t r= .ok (e,r2)):∃q u,e= .num q u/\(u=[]∨ ∃v∈r,u=v.2.1)/\ ∀x∈r2,x∈r:=by
 unfold gY at h
 split at h
 ·cases h
 ·rename_i q _
  split at h
  ·cases h
  ·split at h
   ·rename_i v r'
    split at h
    ·cases h;exact⟨q,_,rfl, .inr ⟨v,by simp,rfl⟩,fun x hx=>List.mem_cons_of_mem _ hx⟩
    ·cases h;exact⟨q,_,rfl, .inl rfl,fun x hx=>hx⟩
   ·cases h;exact⟨q,_,rfl, .inl rfl,fun x hx=>hx⟩
theorem gW:Wd []:=fun x hx=>by cases hx
theorem jZ:∀(f:Nat) (m:Md) (ts:List Tk) (e:Ex) (r:List Tk),(∀t∈ts,t.2.1.length<=65536)->(∀two e0,m= .more two e0->nj (rx e0))->pP f m ts=some (.ok (e,r)) ->
 nj (rx e)/\(∀t∈r,t∈ts)/\ib (rx e)+r.length<=ts.length+(match m with| .more _ e0=>ib (rx e0)|_=>0)
 |0,_,_,_,_,_,_,h=>by cases h
 |f+1, .sum,ts,e,r,hs,hm,h=>by
  rw[i8]at h
  split at h
  ·rename_i e1 r1 h1
   exact Ly
  ·exact mD
 |f+1, .prod,ts,e,r,hs,hm,h=>by
  rw[f5]at h
  split at h
  ·rename_i e1 r1 h1
   exact Ly
  ·exact mD
 |f+1, .more two e0,ts,e,r,hs,hm,h=>by
  rw[eG]at h
  split at h
  ·rename_i k r1 h0
   have hl:=qN h0;have hsub:=xq h0
   split at h
   ·rename_i e1 r2 h1
    have a:=jZ f _ _ _ _ (fun t ht=>hs t (hsub t ht)) (fun _ _ h=>by cases two<;>cases h) h1
    have hb:nj (rx (.bin k e0 e1)):= .mk (by cases k<;>decide) (by cases k<;>decide) gW gW (by decide) (by simp) (fun x hx=>by
     rcases List.mem_cons.1 hx with rfl|hx
     ·exact hm two e0 rfl
     ·cases List.mem_singleton.1 hx;exact a.1)
    have b:=jZ f _ _ _ _ (fun t ht=>hs t (hsub t (a.2.1 t ht))) (fun _ _ h=>by cases h;exact hb) h;refine⟨b.1,fun t ht=>hsub t (a.2.1 t (b.2.1 t ht)),?_⟩;have h1:=a.2.2;have h2:=b.2.2;have h3:ib (rx (.bin k e0 e1))=ib (rx e0)+ib (rx e1)+1:=by simp[rx,ib,eR]
    cases two<;>dsimp only[iN]at * <;>omega
   ·exact mD
  ·cases h;exact⟨hm two _ rfl,fun t ht=>ht,by dsimp only;omega⟩
 |f+1, .un,ts,e,r,hs,hm,h=>by
  rw[mw]at h
  split at h
  ·rename_i r1 h0
   have hl:=eB h0;have hsub:=f6 h0
   split at h
   ·rename_i e1 r2 h1
    have a:=jZ f _ _ _ _ (fun t ht=>hs t (hsub t ht)) (fun _ _ h=>by cases h) h1;cases h;have h3:ib (rx (.neg e1))=ib (rx e1)+1:=by simp[rx,ib,eR]
    refine⟨.mk (by decide) (by decide) gW gW (by decide) (by simp) (fun x hx=>by cases List.mem_singleton.1 hx;exact a.1),fun t ht=>hsub t (a.2.1 t ht),?_⟩;have:=a.2.2;dsimp only at *;omega
   ·exact mD
  ·have a:=jZ f _ _ _ _ hs (fun _ _ h=>by cases h) h
   exact a
 |f+1, .prim,ts,e,r,hs,hm,h=>by
  rw[fO]at h
  split at h
  ·rename_i r1 h0
   have hl:=eB h0;have hsub:=f6 h0
   split at h
   ·rename_i e1 r2 h1
    have a:=jZ f _ _ _ _ (fun t ht=>hs t (hsub t ht)) (fun _ _ h=>by cases h) h1
    split at h
    ·rename_i r3 h2
     have b:=eB h2;cases h;refine⟨a.1,fun t ht=>hsub t (a.2.1 t (f6 h2 t ht)),?_⟩;have:=a.2.2;dsimp only at *;omega
    ·cases h
   ·exact mD
  ·split at h
   ·rename_i t r1 _
    split at h
    ·injection h with h
     have h2:=ya h;obtain⟨q,u,rfl,hu,hsub⟩:=xN h;refine⟨.mk (by decide) (by decide) (aH _) (aH _) ?_ (by decide) (fun x hx=>by cases hx),fun t ht=>List.mem_cons_of_mem _ (hsub t ht),?_⟩
     ·rcases hu with rfl| ⟨v,hv,rfl⟩
      ·decide
      ·have:=hs v (List.mem_cons_of_mem _ hv);omega
     ·simp[rx,ib,eR];omega
    ·split at h
     ·cases h
      refine⟨.mk (by decide) (by decide) gW gW ?_ (by decide) (fun x hx=>by cases hx),fun t ht=>List.mem_cons_of_mem _ ht,?_⟩
      ·have:=hs t (by simp);omega
      ·simp[rx,ib,eR];omega
     ·cases h
   ·cases h
theorem aS {j i:Nat} {cs ci:List AV}:(sB [(j,cs)]).bx i=some ci↔i=j/\ci=cs:=by
 rw[bE]
 by_cases e:j=i
 ·subst e
  rw[an,ae]
  constructor
  ·intro h;cases h;exact⟨rfl,rfl⟩
  ·rintro⟨_,rfl⟩;rfl
 ·rw[an,aj _ _ e]
  constructor
  ·intro h;cases h
  ·rintro⟨h,_⟩;exact absurd h.symm e
theorem ke {S:Nat->Prop} {g:Nat->Nat} {j:Nat} {cs:List AV}:Own S g (sB [(j,cs)])=fun q=>S q∨g j=q:=by
 funext q
 unfold Own;refine propext ⟨?_,?_⟩
 ·rintro(h| ⟨i,ci,h,e⟩)
  ·exact .inl h
  ·obtain⟨rfl,_⟩:=aS.1 h;exact .inr e
 ·rintro(h|e)
  ·exact .inl h
  ·exact .inr ⟨j,cs,aS.2 ⟨rfl,rfl⟩,e⟩
theorem lY {g:Nat->Nat} {j:Nat} {cs:List AV}:BX g [(j,cs)]=fun q=>g j=q:=by
 funext q
 unfold BX;refine propext ⟨?_,?_⟩
 ·rintro⟨i,ci,h,e⟩
  obtain⟨rfl,_⟩:=aS.1 h;exact e
 ·intro e;exact⟨j,cs,aS.2 ⟨rfl,rfl⟩,e⟩
def sw (a b j:Nat):Nat:=if j=a then b else if j=b then a else j
theorem j5 (a b j:Nat):sw a b (sw a b j)=j:=by
 unfold sw
 split <;>split <;>(try split)<;>omega
theorem vd {a b i j:Nat} (h:sw a b i=sw a b j):i=j:=by
 have:=congrArg (sw a b) h
 rwa[j5,j5]at this
def PL (a b:Nat):AV->AV
 | .ow j n k e=> .ow (sw a b j) n k e
 | .bp j o=> .bp (sw a b j) o
 |x=>x
def t8 (a b j:Nat) (cs:List AV):List AV:=match bM j with
 |true=>cs.map (PL a b)
 |false=>cs
def nt (a b:Nat):BL->BL
 | []=>[]
 |(j,cs)::r=>(sw a b j,t8 a b j cs)::nt a b r
def Sf (a b:Nat):CV->CV
 | .val v=> .val v
 | .box j o=> .box (sw a b j) o
def OR (a b:Nat):TV->TV
 | .box j o=> .box (sw a b j) o
 | .own j n k e=> .own (sw a b j) n k e
 | .vw j o n k=> .vw (sw a b j) o n k
 | .vs j o n c k e=> .vs (sw a b j) o n c k e
 | .clo fn fs cs=> .clo fn (fs.map (Sf a b)) (cs.map (Sf a b))
 |x=>x
def Qa (a b:Nat):RT->RT
 | .own j n k e=> .own (sw a b j) n k e
 | .v r=> .v r
theorem mW (a b j:Nat) (cs:List AV):(t8 a b j cs).length=cs.length:=by
 unfold t8;split <;>simp
theorem ON (a b:Nat) (r:RT):(Qa a b r).tv=OR a b r.tv:=by
 cases r with
 |own=>rfl
 |v r=>cases r<;>rfl
theorem pv {a b:Nat}:∀(l:BL) (j:Nat),af (an (nt a b l)) (sw a b j)=(af (an l) j).map fun o=>o.map (t8 a b j)
 | [],_=>rfl
 |(i,cs)::r,j=>by
  by_cases e:i=j
  ·subst e
   rw[nt,an,an,ae,ae];rfl
  ·rw[nt,an,an,aj _ _ e,aj _ _ (fun h=>e (vd h))]
   exact pv r j
theorem EN {a b:Nat} (l:BL) (j:Nat):af (an (nt a b l)) j=(af (an l) (sw a b j)).map fun o=>o.map (t8 a b (sw a b j)):=by
 have:=pv (a:=a) (b:=b) l (sw a b j)
 rwa[j5]at this
theorem ol {a b:Nat} {l:BL} {j:Nat} {cs:List AV} (h:(sB l).bx j=some cs):(sB (nt a b l)).bx (sw a b j)=some (t8 a b j cs):=by
 rw[bE]at h ⊢;rw[pv,h];rfl
theorem ic {a b:Nat} {l:BL} {j:Nat} {cs:List AV} (h:(sB (nt a b l)).bx j=some cs):∃c0,(sB l).bx (sw a b j)=some c0/\cs=t8 a b (sw a b j) c0:=by
 rw[bE,EN]at h;cases hl:af (an l) (sw a b j)with
 |none=>rw[hl]at h;cases h
 |some o=>
  rw[hl]at h;cases o with
  |none=>cases h
  |some c0=>
   simp only[Option.map_some,Option.some.injEq]at h
   exact⟨c0,bE.2 hl,h.symm⟩
theorem tw {a b:Nat} {l:BL} {j:Nat}:(sB (nt a b l)).kn (sw a b j)↔(sB l).kn j:=by
 unfold AS.kn sB;dsimp only;rw[pv]
 constructor
 ·rintro⟨x,h⟩
  cases hl:af (an l) j with
  |none=>rw[hl]at h;cases h
  |some o=>exact⟨o,rfl⟩
 ·rintro⟨x,h⟩
  rw[h];exact⟨_,rfl⟩
theorem nF {a b:Nat} {S:Nat->Prop} {g:Nat->Nat} {l:BL}:Own S g (sB (nt a b l))=Own S (fun j=>g (sw a b j)) (sB l):=by
 funext q
 refine propext ⟨?_,?_⟩
 ·rintro(h| ⟨j,cs,h,e⟩)
  ·exact .inl h
  ·obtain⟨c0,h0,_⟩:=ic h
   exact .inr ⟨sw a b j,c0,h0,by dsimp only;rw[j5];exact e⟩
 ·rintro(h| ⟨j,cs,h,e⟩)
  ·exact .inl h
  ·exact .inr ⟨sw a b j,_,ol h,e⟩
theorem Bl {a b:Nat} {g:Nat->Nat} {l:BL}:BX g (nt a b l)=BX (fun j=>g (sw a b j)) l:=by
 funext q
 refine propext ⟨?_,?_⟩
 ·rintro⟨j,cs,h,e⟩
  obtain⟨c0,h0,_⟩:=ic h;exact⟨sw a b j,c0,h0,by dsimp only;rw[j5];exact e⟩
 ·rintro⟨j,cs,h,e⟩
  exact⟨sw a b j,_,ol h,e⟩
section
variable {a b:Nat} {S:Nat->Prop} {g:Nat->Nat} {l:BL} {w:World}
theorem LM {x:CV} {v:Value}:CV.M g (sB (nt a b l)) (Sf a b x) v↔CV.M (fun j=>g (sw a b j)) (sB l) x v:=by
 cases x with
 |val u=>exact Iff.rfl
 |box j o=>
  constructor
  ·rintro⟨h1,h2⟩
   exact⟨tw.1 h1,fun cs hc=>h2 _ (ol hc)⟩
  ·rintro⟨h1,h2⟩
   refine⟨tw.2 h1,fun cs hc=>?_⟩;obtain⟨c0,h0,_⟩:=ic hc;rw[j5]at h0;exact h2 c0 h0
theorem qj:∀{xs:List CV} {vs:List Value},oU g (sB (nt a b l)) (xs.map (Sf a b)) vs↔oU (fun j=>g (sw a b j)) (sB l) xs vs
 | [],[]=>Iff.rfl
 |x::xs,v::vs=>and_congr LM qj
 | [],_::_=>Iff.rfl
 |_::_,[]=>Iff.rfl
theorem BK {x:TV} {v:Value}:TV.M S g (sB (nt a b l)) w (OR a b x) v↔TV.M S (fun j=>g (sw a b j)) (sB l) w x v:=by
 cases x with
 |d x=>exact Iff.rfl
 |tup ts=>exact Iff.rfl
 |box j o=>exact LM (x:= .box j o)
 |rp cs=>exact Iff.rfl
 |own j n k e=>
  exact t7
 |clo fn fs cs=>
  constructor
  ·rintro⟨us,vs,e,h1,h2⟩;exact⟨us,vs,e,qj.1 h1,qj.1 h2⟩
  ·rintro⟨us,vs,e,h1,h2⟩;exact⟨us,vs,e,qj.2 h1,qj.2 h2⟩
 |mp es=>exact Iff.rfl
 |nil=>exact Iff.rfl
 |und=>exact Iff.rfl
 |junk=>exact Iff.rfl
 |dfr f cs=>exact Iff.rfl
 |vw j o n k=>
  exact t7
 |vs j o n c k e=>
  constructor
  ·rintro⟨h1,h2⟩
   exact⟨tw.1 h1,fun cs hc=>h2 _ (ol hc)⟩
  ·rintro⟨h1,h2⟩
   refine⟨tw.2 h1,fun cs hc=>?_⟩;obtain⟨c0,h0,rfl⟩:=ic hc;rw[j5]at h0;exact h2 c0 h0
theorem AA:∀{xs:List TV} {vs:List Value},nc S g (sB (nt a b l)) w (xs.map (OR a b)) vs↔nc S (fun j=>g (sw a b j)) (sB l) w xs vs
 | [],[]=>Iff.rfl
 |x::xs,v::vs=>and_congr BK AA
 | [],_::_=>Iff.rfl
 |_::_,[]=>Iff.rfl
theorem M6 {x:AV} {v:Value}:vU S g (sB (nt a b l)) w (PL a b x) v↔vU S (fun j=>g (sw a b j)) (sB l) w x v:=by
 cases x with
 |ow j n k e=>exact BK (S:=S) (w:=w) (x:= .own j n k e)
 |bp j o=>exact BK (S:=S) (w:=w) (x:= .box j o)
 |val=>exact Iff.rfl
 |sl=>exact Iff.rfl
 |nl=>exact Iff.rfl
theorem Nx {x:AV} {v:Value}:AV.M S w (PL a b x) v↔AV.M S w x v:=by
 cases x with
 |ow j n k e=>constructor <;>(intro h;cases h;exact .ow (by assumption))
 |bp j o=>constructor <;>(intro h;cases h;exact .bp (by assumption))
 |val=>exact Iff.rfl
 |sl=>exact Iff.rfl
 |nl=>exact Iff.rfl
theorem BI {j i:Nat} {cs:List AV} {x:AV} (h:(t8 a b j cs)[i]? =some x):∃y,cs[i]? =some y/\ ∀(v:Value),(AV.M S w x v↔AV.M S w y v)/\(bM j=true->x=PL a b y):=by
 unfold t8 at h
 split at h
 ·rw[List.getElem?_map]at h
  cases hc:cs[i]? with
  |none=>rw[hc]at h;cases h
  |some y=>
   rw[hc]at h;cases h;exact⟨y,rfl,fun v=>⟨Nx,fun _=>rfl⟩⟩
 ·rename_i hl
  exact⟨x,h,fun v=>⟨Iff.rfl,fun h=>by rw[hl]at h;cases h⟩⟩
theorem wB {j i:Nat} {cs:List AV} {y:AV} (h:cs[i]? =some y):∃x,(t8 a b j cs)[i]? =some x/\ ∀(v:Value),(AV.M S w x v↔AV.M S w y v)/\(bM j=true->x=PL a b y):=by
 unfold t8
 split
 ·exact⟨PL a b y,by rw[List.getElem?_map,h];rfl,fun v=>⟨Nx,fun _=>rfl⟩⟩
 ·rename_i hl
  exact⟨y,h,fun v=>⟨Iff.rfl,fun h=>by rw[hl]at h;cases h⟩⟩
theorem LW {j:Nat} {cs:List AV} {vs:List Value}:fg S w (t8 a b j cs) vs↔fg S w cs vs:=by
 unfold fg;rw[mW]
 constructor
 ·rintro⟨h1,h2⟩
  refine⟨h1,fun i y v hy hv=>?_⟩;obtain⟨x,hx,h⟩:=wB (a:=a) (b:=b) (S:=S) (w:=w) (j:=j) hy;exact(h v).1.1 (h2 i x v hx hv)
 ·rintro⟨h1,h2⟩
  refine⟨h1,fun i x v hx hv=>?_⟩;obtain⟨y,hy,h⟩:=BI (S:=S) (w:=w) hx;exact(h v).1.2 (h2 i y v hy hv)
theorem BU {j B:Nat} {cs:List AV} (hw:bC (sw a b j)=bC j) (hl:bM (sw a b j)=bM j) (ht:gF (sw a b j)=gF j):lW S g (sB (nt a b l)) w (sw a b j) (t8 a b j cs) B↔lW S (fun j=>g (sw a b j)) (sB l) w j cs B:=by
 constructor
 ·rintro⟨arr,e,h1,h2,h3,h4,h5⟩
  refine⟨arr,e,h1,LW.1 h2,by rw[<- hw];exact h3,fun hj i y v hy hv=>?_,by rw[<- ht];exact h5⟩;obtain⟨x,hx,h⟩:=wB (a:=a) (b:=b) (S:=S) (w:=w) (j:=j) hy;have h6:=h4 (by rw[hl];exact hj) i x v hx hv;rw[(h v).2 hj]at h6;exact M6.1 h6
 ·rintro⟨arr,e,h1,h2,h3,h4,h5⟩
  refine⟨arr,e,h1,LW.2 h2,by rw[hw];exact h3,fun hj i x v hx hv=>?_,by rw[ht];exact h5⟩;obtain⟨y,hy,h⟩:=BI (S:=S) (w:=w) hx;rw[(h v).2 (by rw[<- hl];exact hj)];exact M6.2 (h4 (by rw[<- hl];exact hj) i y v hy hv)
end
def mF (a b:Nat):Bool:=(bC a == bC b) && ((bM a == bM b) && (gF a == gF b))
theorem BD {a b:Nat} (h:mF a b=true) (j:Nat):bC (sw a b j)=bC j/\bM (sw a b j)=bM j/\gF (sw a b j)=gF j:=by
 simp only[mF,Bool.and_eq_true,beq_iff_eq]at h
 unfold sw
 split
 ·rename_i e;subst e;exact⟨h.1.symm,h.2.1.symm,h.2.2.symm⟩
 ·split
  ·rename_i e;subst e;exact⟨h.1,h.2.1,h.2.2⟩
  ·exact⟨rfl,rfl,rfl⟩
section
variable {P:Program} {f:FuncId} {ts:List TV} {l l':BL} {r:RT} {a b:Nat}
theorem EI (hab:mF a b=true) {S:Nat->Prop} {g:Nat->Nat} {w:World} (h:Eo S g w (nt a b l)):Eo S (fun j=>g (sw a b j)) w l:=by
 refine⟨?_,?_,?_,?_,?_⟩
 ·rw[<- Bl];exact h.tab
 ·rw[<- Bl];exact h.blk
 ·intro k cs hk
  have:=h.gl k cs hk;rw[nF]at this;exact this
 ·intro j cs hj
  have h1:=h.bm _ _ (ol (a:=a) (b:=b) hj);obtain⟨k1,k2,k3⟩:=BD hab j;rw[nF]at h1;exact(BU k1 k2 k3).1 h1
 ·intro i j ci cj hi hj e
  exact vd (h.inj _ _ _ _ (ol (a:=a) (b:=b) hi) (ol (a:=a) (b:=b) hj) e)
theorem FM (hab:mF a b=true) {S:Nat->Prop} {g:Nat->Nat} {w w':World} {e:Ending} (h:uQ S (fun j=>g (sw a b j)) l r l' w e w'):uQ S g (nt a b l) (Qa a b r) (nt a b l') w e w':=by
 obtain⟨v,g',he,h1,h2,h3,h4,h5⟩:=h;have hg:(fun j=>(fun i=>g' (sw a b i)) (sw a b j))=g':=by funext j;dsimp only;rw[j5]
 refine⟨v,fun i=>g' (sw a b i),he,?_,?_,?_,?_,?_⟩
 ·intro j cs cs' hj hj'
  obtain⟨c0,k1,rfl⟩:=ic hj;obtain⟨c1,k2,rfl⟩:=ic hj';obtain⟨k3,k4⟩:=h1 _ _ _ k1 k2;dsimp only at k3 ⊢;rw[j5]at k3;rw[mW,mW];exact⟨k3,k4⟩
 ·intro j cs' hj
  obtain⟨c0,k1,rfl⟩:=ic hj;obtain⟨k2,k3⟩:=h2 _ _ k1;rw[Bl];refine⟨k2,?_⟩;obtain⟨q1,q2,q3⟩:=BD hab (sw a b j);have:=(BU (a:=a) (b:=b) (S:=Own S g' (sB l')) (g:=fun i=>g' (sw a b i)) (l:=l') (w:=w') (cs:=c0) (B:=g' (sw a b j)) q1 q2 q3).2 (by rw[hg];exact k3);rw[nF,hg];rw[j5]at this;exact this
 ·intro i j ci cj hi hj e
  obtain⟨c0,k1,_⟩:=ic hi;obtain⟨c1,k2,_⟩:=ic hj;exact vd (h3 _ _ _ _ k1 k2 e)
 ·rw[ON,nF,hg,BK,hg]
  exact h4
 ·rw[Bl];exact h5
theorem sV {fn:Func} {R R':Ending->World->Prop} (hR:∀e w,R e w->R' e w) {x:Exit} {a:Act} {w:World} (h:bodyPost P fn R x a w):bodyPost P fn R' x a w:=by
 cases x with
 |normal=>obtain⟨h1,v,h2,h3⟩:=h;exact⟨h1,v,h2,hR _ _ h3⟩
 |ret=>obtain⟨h1,v,h2,h3⟩:=h;exact⟨h1,v,h2,hR _ _ h3⟩
 |panic c=>exact⟨h.1,hR _ _ h.2⟩
 |outgrown=>exact hR _ _ h
 |exit i=>exact h
 |goto l=>exact h
theorem ap.swap (a b:Nat) (hab:mF a b=true) (h:ap P f ts l r l'):ap P f (ts.map (OR a b)) (nt a b l) (Qa a b r) (nt a b l'):=by
 refine⟨h.enter,fun S g w vs hpre hv=>?_⟩;rw[nF,AA]at hv;exact(h.calls S _ w vs (EI hab hpre) hv).mono fun e w' hr=>FM hab hr
theorem gC.swap (a b:Nat) (hab:mF a b=true) (h:gC P f ts l r l'):gC P f (ts.map (OR a b)) (nt a b l) (Qa a b r) (nt a b l'):=by
 obtain⟨fn,c,h1,h2,h3⟩:=h.body;refine⟨h.enter,fn,c,h1,h2,fun S g w vs hpre hv=>?_⟩;rw[nF,AA]at hv;exact wp_mono (h3 S _ w vs (EI hab hpre) hv) fun e a w' hq=>sV (fun e w' hr=>FM hab hr) hq
end
section
variable {P:Program} {T:TypeId->Option Ty} {n:Nat} {ops:Array Oper} {id:Nat} {draw:Bool} {K:AS->Prop} {s:AS} {k:Nat} {o:Oper} {os:List Oper} {fps:List FP}
end
theorem Nr {S S':Nat->Prop} {g g':Nat->Nat} {s s':AS} {w:World} (hS:S=S'):∀{ds:List DV} {vs:List Value},nc S g s w (ds.map .d) vs->nc S' g' s' w (ds.map .d) vs
 | [],[],_=>trivial
 |d::ds,v::vs,h=>⟨by subst hS;exact h.1,Nr hS h.2⟩
 | [],_::_,h=>h.elim
 |_::_,[],h=>h.elim
theorem ap.ren {P:Program} {f:FuncId} {j:Nat} {ds:List DV} {cs cs':List AV} {r:RV} (h:ap P f (.box j 0::ds.map .d) [(j,cs)] (.v r) [(j,cs')]) (j':Nat) (hw:bC j'=bC j) (hl:bM j=false) (hl':bM j'=false):ap P f (.box j' 0::ds.map .d) [(j',cs)] (.v r) [(j',cs')]:=by
 have ht:gF j'=false:=by
  cases e:gF j' with
  |false=>rfl
  |true=>rw[mx e]at hl';cases hl'
 have ht0:gF j=false:=by
  cases e:gF j with
  |false=>rfl
  |true=>rw[mx e]at hl;cases hl
 refine⟨h.enter,fun S g w vs hpre hv=>?_⟩;have hg:(fun i=>if i=j then g j' else g i) j=g j':=if_pos rfl;generalize hg1:(fun i=>if i=j then g j' else g i)=g1 at hg;have hO:Own S g1 (sB [(j,cs)])=Own S g (sB [(j',cs)]):=by rw[ke,ke,hg]
 have hX:BX g1 [(j,cs)]=BX g [(j',cs)]:=by rw[lY,lY,hg]
 have hpre1:Eo S g1 w [(j,cs)]:=by
  refine⟨?_,?_,?_,?_,?_⟩
  ·rw[hX];exact hpre.tab
  ·rw[hX];exact hpre.blk
  ·rw[hO];exact hpre.gl
  ·intro i ci hi
   obtain⟨rfl,rfl⟩:=aS.1 hi;obtain⟨arr,e,h1,h2,h3,_,_⟩:=hpre.bm j' ci (aS.2 ⟨rfl,rfl⟩);rw[hO,hg];exact⟨arr,e,h1,h2,by rw[<- hw];exact h3,fun h=>(by rw[hl]at h;cases h),fun h=>(by rw[ht0]at h;cases h)⟩
  ·intro i i2 ci cj h1 h2 _
   rw[(aS.1 h1).1,(aS.1 h2).1]
 have hv1:nc (Own S g1 (sB [(j,cs)])) g1 (sB [(j,cs)]) w (.box j 0::ds.map .d) vs:=by
  cases vs with
  |nil=>exact hv.elim
  |cons v vs=>
   obtain⟨hb,hv⟩:=hv;refine⟨⟨⟨some cs,by rw[sB,an,ae]⟩,fun ci hi=>?_⟩,Nr hO.symm hv⟩;rw[hg];exact hb.2 cs (aS.2 ⟨rfl,rfl⟩)
 refine(h.calls S g1 w vs hpre1 hv1).mono ?_;rintro e w' ⟨v,g',rfl,h1,h2,h3,h4,h5⟩;have hg2:(fun i=>if i=j' then g' j else g' i) j'=g' j:=if_pos rfl;generalize(fun i=>if i=j' then g' j else g' i)=g2 at hg2;have hO2:Own S g2 (sB [(j',cs')])=Own S g' (sB [(j,cs')]):=by rw[ke,ke,hg2]
 refine⟨v,g2,rfl,?_,?_,?_,?_,?_⟩
 ·intro i ci ci' hi hi'
  obtain⟨rfl,rfl⟩:=aS.1 hi;obtain⟨_,rfl⟩:=aS.1 hi';have:=h1 j ci ci' (aS.2 ⟨rfl,rfl⟩) (aS.2 ⟨rfl,rfl⟩);rw[hg2,this.1,hg];exact⟨rfl,this.2⟩
 ·intro i ci hi
  obtain⟨rfl,rfl⟩:=aS.1 hi;obtain⟨k1,arr,e,k2,k3,k4,_,_⟩:=h2 j ci (aS.2 ⟨rfl,rfl⟩);rw[hX]at k1;rw[hg2,hO2];exact⟨k1,arr,e,k2,k3,by rw[hw];exact k4,fun h=>(by rw[hl']at h;cases h),fun h=>(by rw[ht]at h;cases h)⟩
 ·intro i i2 ci cj k1 k2 _
  rw[(aS.1 k1).1,(aS.1 k2).1]
 ·rw[hO2]
  cases r with
  |one d=>exact h4
  |tup l=>exact h4
 ·rw[<- hX];exact h5
theorem lz:∀(x:Rx),nj x->ib x<=1000000->aa Tryz.prog 81 [dR x] (.one (dN .i64 (yJ x))):=by
 refine eQ fun op na xs nb ys nm args ih hx hs=>?_
 have hd0:=Oz (.mk op na xs nb ys nm args);obtain⟨_,_,_,_,_,hlen,hargs⟩:=hx;rw[ib]at hs;rw[yJ,ib]at hd0;refine MS ?_;refine kV func81 ?_
 refine ax (Nat × Nat) (fun s=>s.1<=args.length/\s.2<=pf args/\max s.2 (pf (args.drop s.1))=pf args) (fun s=>⟨[(2, .d (dN .i64 0)),(3, .d (dN .i64 s.2)),(7, .d (.leaf (.sl args.length (eE args)))),(8, .d (dN .i64 args.length)),(9, .d (dN .i64 s.1))],[]⟩) (fun s=>args.length-s.1) (0,0) ⟨Nat.zero_le _,Nat.zero_le _,Nat.zero_max _⟩
  kw ?_
 rintro⟨i,d⟩ ⟨hi,h1,h2⟩;dsimp only at hi h1 h2 ⊢;refine kI ?_
 by_cases hlt:i<args.length
 ·refine kT ?_
  obtain⟨o1,na1,xs1,nb1,ys1,nm1,n1,cs1,hA⟩:=aM args[i];have hx:args[i]? =some args[i]:=by simp[hlt]
  have hat:∀(j:Nat) (a:AV),(ab o1 na1 xs1 nb1 ys1 nm1 n1 cs1)[j]? =some a->(eE args)[i*7+j]? =some a:=fun j a h=>eu args i args[i] hx j a (by rw[hA];exact h)
  have hm:=List.getElem_mem hlt;have hsz:=pm hm;have hdp:=CD hm;have c:=ih args[i] hm (hargs _ hm) (by omega);rw[show dR args[i]= .agg (ab o1 na1 xs1 nb1 ys1 nm1 n1 cs1) from congrArg DV.agg hA]at c;rw[List.drop_eq_getElem_cons hlt,pf]at h2;generalize yJ args[i]=k at *;refine uX ?_;refine kW ?_;refine kC (c) ?_;refine Ra (a:=d) (b:=k) (m:=(max d k:Nat)) (by omega) rfl rfl rfl rfl rfl rfl ?_;refine kW ?_;exact⟨(i+1,max d k),⟨hlt,by dsimp only;omega,by dsimp only;omega⟩,by dsimp only;omega,weak ⟨rfl,rfl,rfl,rfl,aA (by omega) (by omega),trivial⟩ trivial rfl⟩
 ·refine kE ?_
  rw[List.drop_eq_nil_of_le (by omega),pf]at h2;have hdd:d=pf args:=by omega
  rw[yJ,<- hdd];refine uU ?_;refine kI ?_;refine kO ?_;refine kJ ((d+1:Nat)) ?_;exact ar
theorem gR:∀(f:Nat) (m:Md) (ts:List Tk) (e:Ex) (r:List Tk),pP f m ts=some (.ok (e,r))-> ∀t∈r,t∈ts
 |0,_,_,_,_,h=>by cases h
 |f+1, .sum,ts,e,r,h=>by
  rw[i8]at h;exact Nb
 |f+1, .prod,ts,e,r,h=>by
  rw[f5]at h;exact Nb
 |f+1, .more two e0,ts,e,r,h=>by
  rw[eG]at h
  split at h
  ·rename_i k r1 h0
   split at h
   ·rename_i e1 r2 h1
    exact fun t ht=>xq h0 t (gR f _ _ _ _ h1 t (gR f _ _ _ _ h t ht))
   ·exact mD
  ·cases h;exact fun t ht=>ht
 |f+1, .un,ts,e,r,h=>by
  rw[mw]at h
  split at h
  ·rename_i r1 h0
   split at h
   ·rename_i e1 r2 h1
    cases h;exact fun t ht=>f6 h0 t (gR f _ _ _ _ h1 t ht)
   ·exact mD
  ·exact gR f _ _ _ _ h
 |f+1, .prim,ts,e,r,h=>by
  rw[fO]at h
  split at h
  ·rename_i r1 h0
   split at h
   ·rename_i e1 r2 h1
    split at h
    ·rename_i r3 h2
     cases h;exact fun t ht=>f6 h0 t (gR f _ _ _ _ h1 t (f6 h2 t ht))
    ·cases h
   ·exact mD
  ·split at h
   ·rename_i t r1 _
    split at h
    ·injection h with h
     obtain⟨q,u,_,_,hsub⟩:=xN h;exact fun t ht=>List.mem_cons_of_mem _ (hsub t ht)
    ·exact BB
   ·cases h
theorem fN {E:Nat}:∀(f:Nat) (m:Md) (ts:List Tk) (x:mL),fc ts->(∀t∈ts,t.2.2<=E)->pP f m ts=some x->(match x with
  | .ok (_,r)=>fc r
  | .error (p,c)=>p<=E/\c≠0)
 |0,_,_,_,_,_,h=>by cases h
 |f+1, .sum,ts,x,hw,hE,h=>by
  rw[i8]at h;exact Ny
 |f+1, .prod,ts,x,hw,hE,h=>by
  rw[f5]at h;exact Ny
 |f+1, .more two e0,ts,x,hw,hE,h=>by
  rw[eG]at h;obtain⟨t,r,rfl⟩:=hw.ne
  split at h
  ·rename_i k r1 h0
   obtain⟨rfl,h4,_⟩:=po h0;have hw2:=hw.tail (by omega);have hE2:∀t∈r1,t.2.2<=E:=fun t ht=>hE t (List.mem_cons_of_mem _ ht)
   split at h
   ·rename_i e1 r2 h1
    have a:=fN f _ _ _ hw2 hE2 h1;have hsub:=gR f _ _ _ _ h1;exact fN f _ _ _ a (fun t ht=>hE2 t (hsub t ht)) h
   ·exact fN f _ _ _ hw2 hE2 h
  ·cases h;exact hw
 |f+1, .un,ts,x,hw,hE,h=>by
  rw[mw]at h;obtain⟨t,r,rfl⟩:=hw.ne
  split at h
  ·rename_i r1 h0
   obtain⟨rfl,h4⟩:=nM h0;have hw2:=hw.tail (by omega);have hE2:∀t∈r1,t.2.2<=E:=fun t ht=>hE t (List.mem_cons_of_mem _ ht)
   split at h
   ·rename_i e1 r2 h1
    have a:=fN f _ _ _ hw2 hE2 h1;cases h;exact a
   ·exact fN f _ _ _ hw2 hE2 h
  ·exact fN f _ _ _ hw hE h
 |f+1, .prim,ts,x,hw,hE,h=>by
  rw[fO]at h;obtain⟨t,r,rfl⟩:=hw.ne
  split at h
  ·rename_i r1 h0
   obtain⟨rfl,h4⟩:=nM h0;have hw2:=hw.tail (by omega);have hE2:∀t∈r1,t.2.2<=E:=fun t ht=>hE t (List.mem_cons_of_mem _ ht)
   split at h
   ·rename_i e1 r2 h1
    have a:=fN f _ _ _ hw2 hE2 h1;have a:fc r2:=a;have hsub:=gR f _ _ _ _ h1;obtain⟨u,r3,rfl⟩:=a.ne
    split at h
    ·rename_i r4 h2
     obtain⟨rfl,h5⟩:=nM h2;cases h;exact a.tail (by omega)
    ·cases h
     exact⟨hE2 _ (hsub u (by simp)),by decide⟩
   ·exact fN f _ _ _ hw2 hE2 h
  ·dsimp only at h
   have ht:=hE t (by simp)
   split at h
   ·rename_i h2
    have hw2:=hw.tail (by omega)
    injection h with h
    unfold gY at h
    split at h
    ·subst h;exact⟨ht,by decide⟩
    ·split at h
     ·subst h;exact⟨ht,by decide⟩
     ·split at h
      ·split at h
       ·subst h;exact hw2.tail (by omega)
       ·subst h;exact hw2
      ·subst h;exact hw2
   ·split at h
    ·cases h;exact hw.tail (by omega)
    ·cases h;exact⟨ht,by decide⟩
theorem ap.ren0 {P:Program} {f:FuncId} {j:Nat} {cs cs':List AV} {r:RV} (h:ap P f [.box j 0] [(j,cs)] (.v r) [(j,cs')]) (j':Nat) (hw:bC j'=bC j) (hl:bM j=false) (hl':bM j'=false):ap P f [.box j' 0] [(j',cs)] (.v r) [(j',cs')]:=ap.ren (ds:=[]) h j' hw hl hl'
theorem ap.ren1 {P:Program} {f:FuncId} {j:Nat} {d:DV} {cs cs':List AV} {r:RV} (h:ap P f [.box j 0, .d d] [(j,cs)] (.v r) [(j,cs')]) (j':Nat) (hw:bC j'=bC j) (hl:bM j=false) (hl':bM j'=false):ap P f [.box j' 0, .d d] [(j',cs)] (.v r) [(j',cs')]:=ap.ren (ds:=[d]) h j' hw hl hl'
noncomputable def Ea (T:List Tk) (b:Int) (E:Nat):Except (Nat × Int) Ex:=match pP (5*T.length+5) .sum T with
 |some (.ok (e,t::_))=>if t.1≠0 then .error (t.2.2,2)else if b≠0 then .error (E,b)else if yJ (rx e)<=40 then .ok e else .error (HT T,3)
 |some (.error (p,c))=> .error (p,SX E b p c)
 |_=> .error (0,2)
noncomputable def FC (x:Except (Nat × Int) Ex):RV:=match x with
 | .ok e=> .tup [dE e,dN .i64 0,dN .i64 0]
 | .error (p,c)=> .tup [dR z7,dN .i64 p,dN .i64 c]
structure KN (T:List Tk) (E:Nat):Prop where
 w:fc T
 z:Pl E T
 s:∀t∈T,t.2.1.length<=65536
 l:T.length<=999999
theorem KN.le {T:List Tk} {E:Nat} (h:KN T E):∀t∈T,t.2.2<=E:=fun t ht=>by
 by_cases h0:t.1=0
 ·exact Nat.le_of_eq ((h.z t ht).1 h0)
 ·exact Nat.le_of_lt ((h.z t ht).2 h0)
theorem AJ (T:List Tk):∃x,pP (5*T.length+5) .sum T=some x:=Ob _ .sum T (Nat.le_refl _)
theorem KL {T:List Tk} {E:Nat} (hT:KN T E) {e:Ex} {r:List Tk} {f:Nat} (h:pP f .sum T=some (.ok (e,r))):nj (rx e)/\ib (rx e)<=1000000/\fc r/\ ∀t∈r,t∈T:=by
 have a:=jZ _ _ _ _ _ hT.s (fun _ _ h=>by cases h) h;have b:=fN (E:=E) _ _ _ _ hT.w hT.le h;have:=a.2.2;have:=hT.l;exact⟨a.1,by dsimp only at *;omega,b,a.2.1⟩
theorem oh (s:List UInt8) (T:List Tk) (cT:aa Tryz.prog 77 [dL s] (CB (.ok T))) (hT:KN T s.length):aa Tryz.prog 35 [dL s] (FC (Ea T 0 s.length)):=by
 have cT:aa Tryz.prog 77 [dL s] (.tup [.leaf (.sl T.length (fU T)),dN .i64 0,dN .i64 0]):=cT;obtain⟨x,hx⟩:=AJ T;have cs:=(Ia 0 _).sum T x hT.w hx;unfold Ea;rw[hx];cases x with
 |ok z=>
  obtain⟨e,r⟩:=z;obtain⟨hwx,hsz,hwr,hsub⟩:=KL hT hx;obtain⟨t,r,rfl⟩:=hwr.ne;have cs:=cs.1.ren0 4002 rfl rfl rfl;have cn:=(ct t r 0 0).ren0 4002 rfl rfl rfl;have cf:=(jT t r 0 2).ren1 4002 rfl rfl rfl;have cd:=lz (rx e) hwx hsz;dsimp only;obtain⟨o1,na1,xs1,nb1,ys1,nm1,n1,cs1,hA⟩:=aX e;rw[show dR (rx e)= .agg (ab o1 na1 xs1 nb1 ys1 nm1 n1 cs1) from congrArg DV.agg hA]at cd;have hE:dE e= .agg (ab o1 na1 xs1 nb1 ys1 nm1 n1 cs1):=congrArg DV.agg hA;rw[hE]at cs
  by_cases h0:t.1=0
  ·rw[if_neg (fun h=>h h0),if_neg (fun h=>h rfl)]
   by_cases hd:yJ (rx e)<=40
   ·rw[if_pos hd]
    unfold FC;dsimp only;rw[hE];refine kU func35 ?_;refine S8 ?_;refine Mb ?_;refine Ii ?_;refine kC (cd) ?_;refine kE ?_;exact ar
   ·rw[if_neg hd]
    obtain⟨t0,r0,rfl⟩:=hT.w.ne;unfold FC;dsimp only;refine kU func35 ?_;refine S8 ?_;refine Mb ?_;refine Ii ?_;refine kC (cd) ?_;refine kX ?_
    refine aP (i:=0) (cs':=zo t0) (Nat.zero_lt_succ _) (fun j a h=>by
     rw[Nat.zero_mul,Nat.zero_add];show(zo t0++fU r0)[j]? =some a;rw[List.getElem?_append_left (List.getElem?_eq_some_iff.1 h).1];exact h) (Nat.zero_lt_succ 2) rfl rfl rfl rfl rfl rfl rfl rfl ?_
    exact ar
  ·rw[if_pos h0]
   unfold FC;dsimp only;refine kU func35 ?_;refine S8 ?_;refine Pb ?_;refine oZ ?_;refine kW ?_;refine kD (cf) ?_;exact ar
 |error z=>
  obtain⟨p,c⟩:=z;obtain⟨hc,y,ts',cs,hw⟩:=cs;obtain⟨t,r,rfl⟩:=hw.ne;have cs:=cs.ren0 4002 rfl rfl rfl;have cn:=(ct t r p c).ren0 4002 rfl rfl rfl;have cf:=(yo t r p c 2 hc).ren1 4002 rfl rfl rfl;obtain⟨o1,na1,xs1,nb1,ys1,nm1,n1,cs1,hA⟩:=aM y;rw[show dR y= .agg (ab o1 na1 xs1 nb1 ys1 nm1 n1 cs1) from congrArg DV.agg hA]at cs;dsimp only;rw[R6];unfold FC;dsimp only
  by_cases h0:t.1=0
  ·refine kU func35 ?_
   refine S8 ?_;refine Pb ?_;refine kB false ?_ ?_
   ·exact(by simp;omega)
   refine kG ?_
   refine kO4 ?_
   refine kB true ?_ ?_
   ·exact(by simp[hc])
   exact ar
  ·refine kU func35 ?_
   refine S8 ?_;refine Pb ?_;refine oZ ?_;refine kW ?_;refine kD (cf) ?_;refine kG ?_
   refine kO4 ?_
   refine kB true ?_ ?_
   ·exact(by simp[hc])
   exact ar
def eN:B4->Nat
 | .add=>1
 | .sub=>1
 | .mul=>2
 | .div=>2
def SE:Ex->Nat
 | .num _ _=>4
 | .nam _=>4
 | .neg _=>3
 | .bin k _ _=>eN k
def ni:B4->List UInt8
 | .add=>[32,43,32]
 | .sub=>[32,45,32]
 | .mul=>[32,42,32]
 | .div=>[32,47,32]
noncomputable def KE (v:Rat):List UInt8:=(g8 v).getD []
def qY (u:List UInt8):List UInt8:=if u=[]then []else 32::u
def xC (lv least:Nat) (t:List UInt8):List UInt8:=if lv<least then [40]++t++[41]else t
noncomputable def bK:Ex->Nat->List UInt8
 | .num v u,n=>xC 4 n (KE v++qY u)
 | .nam s,n=>xC 4 n s
 | .neg a,n=>xC 3 n ([45]++bK a 3)
 | .bin k a b,n=>xC (eN k) n (bK a (eN k)++ni k++bK b (eN k+1))
def pg:Ex->Prop
 | .num v u=>(g8 v).isSome=true/\dJ 510 v/\(u=[]∨o0 u=true)
 | .nam s=>o0 s=true
 | .neg a=>pg a
 | .bin _ a b=>pg a/\pg b
theorem Iw (e:Ex) (n:Nat):bK e n=xC (SE e) n (bK e 0):=by
 have h0:∀(lv:Nat) (t:List UInt8),xC lv 0 t=t:=fun lv t=>if_neg (Nat.not_lt_zero _)
 cases e<;>simp only[bK,SE,h0]
end Go.Proofs.YtnchbpoopnjghaaGreatDoor
