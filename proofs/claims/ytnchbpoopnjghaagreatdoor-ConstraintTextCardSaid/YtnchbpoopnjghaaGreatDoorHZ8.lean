/- Parts of a proof: contracts of the functions that the laws reach. -/
import Derived.Test.YtnchbpoopnjghaaGreatDoorHZ7
set_option maxHeartbeats 100000000
set_option linter.all false
open Go.Proofs.Tryz
namespace Go.Proofs.YtnchbpoopnjghaaGreatDoor
open Go.RowKit
theorem KJ {t:List UInt8} {q:Rat} (hl:t.length<=500) (h:jt t=some q):dO 510 q:=by
 by_cases hok:i6 false (gb t)
 ·rw[LK hok]at h
  have hpl:=IW t
  have hrl:(gb t).length+(lq t).length=t.length:=by
   have:=congrArg List.length (rB t);rw[List.length_append]at this;omega
  have sp:Sz (gb t).length (num (gb t):Int):=eR (qy t);generalize lq t=r at h hrl;generalize num (gb t)=n at h sp;cases r with
  |nil=>
   have:q=((n:Int):Rat):=by
    have h:some ((n:Int):Rat)=some q:=h;exact(Option.some.inj h).symm
   subst this;exact⟨sp.mono (by omega),(Sz.small (z:=1) (by decide)).mono (by decide)⟩
  |cons c b=>
   have hbl:(gb t).length+b.length<=499:=by simp at hrl;omega
   by_cases h46:c=46
   ·by_cases hb:b≠[]/\ ∀x∈b,eg x
    ·rw[P2 h46 hb]at h
     cases h
     have sN:Sz 510 ((n*10^b.length+num b:Nat):Int):=by
      have h1:Sz 501 ((n:Int)*10^b.length):=Sz.of_pow sp (by omega);have h2:=Sz.add h1 ((eR hb.2).mono (by omega));have h3:Sz 510 ((n:Int)*10^b.length+(num b:Int)):=Sz.mono h2 (by decide);rw[Int.natCast_add,Int.natCast_mul,Int.natCast_pow];exact h3
     have sD:Sz 510 ((10^b.length:Nat):Int):=QK (by omega);have:0<10^b.length:=Nat.pow_pos (by decide)
     exact .divInt sN sD (by omega)
    ·rw[Tr h46 hb]at h;cases h
   ·by_cases h47:c=47
    ·by_cases hb:i6 false b/\num b≠0/\num b≠1/\Nat.gcd n (num b)=1
     ·rw[Qn h47 hb]at h
      cases h;exact .divInt (sp.mono (by omega)) ((eR hb.1.2.1).mono (by omega)) (by have:=hb.2.1;omega)
     ·rw[TL h47 hb]at h;cases h
    ·rw[SJ h46 h47]at h;cases h
 ·unfold jt at h
  rw[if_neg hok]at h;cases h
theorem Bh {s:List UInt8} {q:Rat} (hl5:s.length<=500) (h:gJ s=some q):dO 510 q:=by
 unfold gJ at h
 split at h
 ·rename_i hl
  have hd:=qk s;cases hp:jt (oA s)with
  |none=>rw[hp]at h;simp at h
  |some r=>
   have hs:=KJ (by omega) hp;rw[hp]at h
   simp only at h
   split at h
   ·split at h
    ·cases h
    ·cases h;exact hs.neg
   ·cases h;exact hs
 ·cases h
theorem E3 (t u:Tk) (r:List Tk) (a:Int) (ht:t.1=2) (hT:fj (t::u::r)):Rd 281 (t::u::r) a (jB t (u::r)):=by
 have ht5:=hT.head.2 ht;have hw:fj (u::r):=hT.tail (by omega);cases hq:gJ t.2.1 with
 |none=>
  have hP:jB t (u::r)= .error (t.2.2,2):=by unfold jB;rw[hq]
  have cp:=yv hq;rw[hP];refine⟨by decide, .mk 0 false [] false [] [] [],t::u::r,?_,hT⟩;refine GA ?_;refine gL ?_;refine NT ?_;refine kD (j8 t (u::r) a 2) ?_;exact ju
 |some q=>
  have cp:=AT hq;obtain⟨tx,cd,_⟩:=iN (Bh ht5 hq) (by decide);cases hd:fg q with
  |none=>
   have hP:jB t (u::r)= .error (t.2.2,3):=by unfold jB;rw[hq];dsimp only;rw[hd]
   rw[hd]at cd;have cd:aa Tryz.prog 125 [dQ q] (.tup [dL tx,dB false]):=cd;rw[hP];refine⟨by decide, .mk 0 false [] false [] [] [],t::u::r,?_,hT⟩;refine GA ?_;refine gL ?_;refine NT ?_;refine kQ (cd) ?_;refine kD (j8 t (u::r) a 3) ?_;exact ju
  |some z=>
   rw[hd]at cd;have cd:aa Tryz.prog 125 [dQ q] (.tup [dL tx,dB true]):=cd
   by_cases h1:u.1=1
   ·have hP:jB t (u::r)= .ok (.num q u.2.1,r):=by unfold jB;rw[hq];dsimp only;rw[hd];dsimp only;rw[if_pos h1]
    rw[hP];refine⟨?_,hw.tail (by omega)⟩;refine Iv ?_;refine FN ?_;refine kD (jg u r a 0) ?_;exact ju
   ·have hP:jB t (u::r)= .ok (.num q [],u::r):=by unfold jB;rw[hq];dsimp only;rw[hd];dsimp only;rw[if_neg h1]
    rw[hP];refine⟨?_,hw⟩;refine Iv ?_;refine kO ?_;refine kE ?_;exact ju
def yD:Bool->List UInt8
 |false=>[43,45]
 |true=>[42,47]
def P4:Bool->List (Value × Value)
 |false=>[(.string ⟨#[43]⟩, .int .i64 4),(.string ⟨#[45]⟩, .int .i64 5)]
 |true=>[(.string ⟨#[42]⟩, .int .i64 6),(.string ⟨#[47]⟩, .int .i64 7)]
theorem J2 (a b c:UInt8):(0<=Lib.indexByte [a,b] c)↔(c=a∨c=b):=by
 rw[AY]
 simp
theorem Gm (a c:UInt8):(0<=Lib.indexByte [a] c)↔c=a:=by
 rw[AY]
 simp
theorem SM (two:Bool) (t:Tk) (r:List Tk):(decide (t.1=4) && Fc (yD two) t)=(fT two (t::r)).isSome:=by
 obtain⟨k,x,p⟩:=t
 by_cases h4:k=4
 ·subst h4
  match x with
  | []=>cases two<;>rfl
  |c::d::y=>cases two<;>rfl
  | [c]=>
   cases two
   ·show decide (0<=Lib.indexByte [43,45] c)=_
    by_cases h1:c=43
    ·subst h1;rfl
    ·by_cases h2:c=45
     ·subst h2;rfl
     ·rw[decide_eq_false (by rw[J2];simp[h1,h2])]
      simp[fT,tA,h1,h2]
   ·show decide (0<=Lib.indexByte [42,47] c)=_
    by_cases h1:c=42
    ·subst h1;rfl
    ·by_cases h2:c=47
     ·subst h2;rfl
     ·rw[decide_eq_false (by rw[J2];simp[h1,h2])]
      simp[fT,tA,h1,h2]
 ·simp[fT,h4]
theorem p9 {two:Bool} {t:Tk} {r r2:List Tk} {k:B4} (h:fT two (t::r)=some (k,r2)):r2=r/\t.1=4/\ ∃c,t.2.1=[c]/\Ue ⟨#[c]⟩ (P4 two)=some (.int .i64 k.code):=by
 obtain⟨k4,x,p⟩:=t
 simp only[fT]at h
 split at h
 ·rename_i h4
  split at h
  ·rename_i k' hk
   cases h;refine⟨rfl,h4,?_⟩
   match x,hk with
   | [],hk=>cases two<;>cases hk
   |c::d::y,hk=>cases two<;>cases hk
   | [c],hk=>
    cases two
    ·exact Pw
    ·exact Pw
  ·cases h
 ·cases h
theorem AW (c:UInt8) (t:Tk) (r:List Tk):(decide (t.1=4) && Fc [c] t)=(bJ c (t::r)).isSome:=by
 obtain⟨k,x,p⟩:=t
 by_cases h4:k=4
 ·subst h4
  match x with
  | []=>simp[Fc,bJ]
  |b::d::y=>simp[Fc,bJ]
  | [b]=>
   show decide (0<=Lib.indexByte [c] b)=_
   by_cases h:b=c
   ·subst h;rw[decide_eq_true ((Gm b b).2 rfl)];simp[bJ]
   ·rw[decide_eq_false (by rw[Gm];exact h)];simp[bJ,h]
 ·simp[bJ,h4]
theorem nS {c:UInt8} {t:Tk} {r r2:List Tk} (h:bJ c (t::r)=some r2):r2=r/\t.1=4:=by
 simp only[bJ]at h
 split at h
 ·rename_i h1;cases h;exact⟨rfl,h1.1⟩
 ·cases h
def SI (fid:FuncId) (ts:List Tk) (a:Int) (Y:Rx × List Tk):lN->Prop
 | .ok (e,r)=>aw Tryz.prog fid [.box 900 0] [(900,fF ts a 0)] (.v (.one (dE e))) [(900,fF r a 0)]/\fj r
 | .error (p,c)=>c≠0/\aw Tryz.prog fid [.box 900 0] [(900,fF ts a 0)] (.v (.one (dR Y.1))) [(900,fF Y.2 p c)]/\fj Y.2
theorem Fl {fid:FuncId} {a:Int} {g:List Tk->Option lN} (h:∀ts x,fj ts->g ts=some x->Rd fid ts a x):∃Y:List Tk->Rx × List Tk,∀ts x,fj ts->g ts=some x->SI fid ts a (Y ts) x:=by
 have:∀ts:List Tk,∃Y:Rx × List Tk,∀x,fj ts->g ts=some x->SI fid ts a Y x:=fun ts=>by
  by_cases hw:fj ts
  ·cases hg:g ts with
   |none=>exact⟨(.mk 0 false [] false [] [] [],[]),fun x _ hx=>by cases hx⟩
   |some x=>
    have hx:=h ts x hw hg;cases x with
    |ok y=>exact⟨(.mk 0 false [] false [] [] [],[]),fun x _ hx'=>by cases hx';exact hx⟩
    |error y=>
     obtain⟨hc,y1,ts1,h1,h2⟩:=hx;exact⟨(y1,ts1),fun x _ hx'=>by cases hx';exact⟨hc,h1,h2⟩⟩
  ·exact⟨(.mk 0 false [] false [] [] [],[]),fun x hw'=>absurd hw' hw⟩
 obtain⟨Y,hY⟩:=Classical.axiomOfChoice this;exact⟨Y,fun ts x hw hx=>hY ts x hw hx⟩
noncomputable def gB (two:Bool) (Y:List Tk->Rx × List Tk):Nat->Ex->List Tk->Rx × List Tk
 |0,e,ts=>(rx e,ts)
 |f+1,e,ts=>match fT two ts with
  |some (k,r)=>match pP f (jD two) r with
   |some (.ok (e2,r2))=>gB two Y f (.bin k e e2) r2
   |_=>(.mk k.code false [] false [] [] [rx e,(Y r).1],(Y r).2)
  |none=>(rx e,ts)
inductive LS where
 |run (f:Nat) (e:Ex) (ts:List Tk)
 |bad (y:Rx) (ts:List Tk) (p c:Int)
def LS.c1:LS->List AV
 | .run _ e _=>aE e
 | .bad y _ _ _=>aR y
def LS.c2 (a:Int):LS->List AV
 | .run _ _ ts=>fF ts a 0
 | .bad _ ts p c=>fF ts p c
def bS (two:Bool) (fop:FuncId) (c1 c2:List AV):AS:=⟨[(0, .box 900 0),(1, .d (dL (yD two))),(2, .mp (P4 two)),(3, .clo (.func fop) [.box 900 0] []),(8, .box 0 0),(9, .box 1002 0)],[(0,some (ab 0 false [] false [] [] 0 [])),(1002,some c1),(900,some c2)]⟩
abbrev Rn (two:Bool) (fop:FuncId):List TV:=[.box 900 0, .d (dL (yD two)), .mp (P4 two), .clo (.func fop) [.box 900 0] []]
def VR (two:Bool) (fop:FuncId) (ts:List Tk) (a:Int):lN->Prop
 | .ok (e,r)=>aw Tryz.prog 120 (Rn two fop) [(900,fF ts a 0)] (.v (.one (dE e))) [(900,fF r a 0)]/\fj r
 | .error (p,c)=>c≠0/\ ∃y ts',aw Tryz.prog 120 (Rn two fop) [(900,fF ts a 0)] (.v (.one (dR y))) [(900,fF ts' p c)]/\fj ts'
def LS.I (two:Bool) (Y:List Tk->Rx × List Tk) (f:Nat) (a:Int) (D:DV) (B:List AV):LS->Prop
 | .run f' e ts=>fj ts/\f'<=f/\ ∃x',pP f' (.more two e) ts=some x'/\(match x' with
  | .ok (e',r')=>D=dE e'/\B=fF r' a 0
  | .error (p,c)=>D=dR (gB two Y f' e ts).1/\B=fF (gB two Y f' e ts).2 p c)
 | .bad y ts p c=>fj ts/\c≠0/\D=dR y/\B=fF ts p c
def LS.mu:LS->Nat
 | .run f _ _=>f+1
 | .bad _ _ _ _=>0
theorem Ey (k:B4) (e:Ex) (y:Rx):aR (.mk k.code false [] false [] [] [rx e,y])=[.val (.int .i64 k.code)]++iP++[.val (vL []), .sl 2 (aE e++aR y)]:=by
 show [.val (.int .i64 k.code)]++Ab false [] false []++[.val (vL []), .sl 2 (aR (rx e)++(aR y++[]))]=_;rw[List.append_nil];rfl
theorem Pu (two:Bool) (fop:FuncId) (f:Nat) (a:Int) (Y:List Tk->Rx × List Tk) (hY:∀ts x,fj ts->pP f (jD two) ts=some x->SI fop ts a (Y ts) x) (ts:List Tk) (hT:fj ts) {e0:Ex} {r0:List Tk} (h0:pP f (jD two) ts=some (.ok (e0,r0)))
 {D:DV} {B:List AV} (hB:B.length=3) (hI:LS.I two Y f a D B (.run f e0 r0)):aw Tryz.prog 120 (Rn two fop) [(900,fF ts a 0)] (.v (.one D)) [(900,B)]:=by
 obtain⟨c0,hw0⟩:=hY ts _ hT h0;obtain⟨t,r,hr⟩:=hw0.ne;obtain⟨o1,na1,xs1,nb1,ys1,nm1,n1,cs1,hA⟩:=aY e0;have hE:dE e0= .agg (ab o1 na1 xs1 nb1 ys1 nm1 n1 cs1):=congrArg DV.agg hA;rw[hE]at c0;refine aS ah dq func120 rfl rfl rfl rfl rfl ((dp.one (Nat.le_of_eq hB.symm))) ?_;refine kW ?_;refine kZ (c0) ?_
 refine ay LS (LS.I two Y f a D B) (fun x=>bS two fop x.c1 (x.c2 a)) LS.mu (.run f e0 r0) hI (by
  refine Eq.mpr (congrArg (fun c=>aJ _ (bS two fop c (fF r0 a 0))) hA) ?_;exact weak ⟨rfl,rfl,rfl,rfl,rfl,rfl,trivial⟩ ⟨rfl,rfl,rfl,trivial⟩ rfl) ?_
 intro x hx;cases x with
 |bad y ts1 p c=>
  obtain⟨hw,hc,rfl,rfl⟩:=hx;obtain⟨t,r,rfl⟩:=hw.ne;obtain⟨o1,na1,xs1,nb1,ys1,nm1,n1,cs1,hA⟩:=aM y;have cis:=qA (yD two) t r p c hw.head.1;rw[decide_eq_false hc,Bool.false_and]at cis;rw[show dR y= .agg (ab o1 na1 xs1 nb1 ys1 nm1 n1 cs1) from congrArg DV.agg hA];show ff _ _ _ _ _ (bS two fop (aR y) (fF (t::r) p c));rw[hA];unfold bS;refine kW ?_;refine kD (cis) ?_;exact ju
 |run f' e ts1=>
  obtain⟨hw,hf,x',hx,hD⟩:=hx;obtain⟨t,r,rfl⟩:=hw.ne;obtain⟨o1,na1,xs1,nb1,ys1,nm1,n1,cs1,hA⟩:=aY e;have cis:=qA (yD two) t r a 0 hw.head.1;rw[decide_eq_true rfl,Bool.true_and,SM]at cis;show ff _ _ _ _ _ (bS two fop (aE e) (fF (t::r) a 0));rw[hA];cases f' with
  |zero=>cases hx
  |succ f'=>
  rw[eW]at hx;cases ho:fT two (t::r)with
  |none=>
   rw[ho]at hx cis;cases hx;obtain⟨rfl,rfl⟩:=hD;rw[show dE e= .agg (ab o1 na1 xs1 nb1 ys1 nm1 n1 cs1) from congrArg DV.agg hA];have cis:aw Tryz.prog 169 [.box 900 0, .d (dL (yD two))] [(900,fF (t::r) a 0)] (.v (.one (dB false))) [(900,fF (t::r) a 0)]:=cis;unfold bS;refine kW ?_;refine kD (cis) ?_;exact ju
  |some q=>
   obtain⟨k,r2⟩:=q;obtain⟨rfl,h4,c,hc,hl⟩:=p9 ho;rw[ho]at hx cis;have cis:aw Tryz.prog 169 [.box 900 0, .d (dL (yD two))] [(900,fF (t::r2) a 0)] (.v (.one (dB true))) [(900,fF (t::r2) a 0)]:=cis;have hw2:fj r2:=hw.tail (by omega);obtain⟨k4,tx,p0⟩:=t;dsimp only at h4 hc;subst h4 hc;dsimp only at hx;cases hy:pP f' (jD two) r2 with
   |none=>rw[hy]at hx;cases hx
   |some y=>
    have cy:=hY r2 y hw2 (jP (by omega) hy);rw[hy]at hx;cases y with
    |error z=>
     obtain⟨p,c1⟩:=z;cases hx;obtain⟨hc1,cy,hw3⟩:=cy
     have hg:gB two Y (f'+1) e ((4,[c],p0)::r2)=(.mk k.code false [] false [] [] [rx e,(Y r2).1],(Y r2).2):=by
      rw[gB,ho];dsimp only;rw[hy]
     rw[hg]at hD;obtain⟨o2,na2,xs2,nb2,ys2,nm2,n2,cs2,hA2⟩:=aM (Y r2).1;have hbad:=Ey k e (Y r2).1;rw[hA,hA2]at hbad;rw[show dR (Y r2).1= .agg (ab o2 na2 xs2 nb2 ys2 nm2 n2 cs2) from congrArg DV.agg hA2]at cy;generalize hY2:(Y r2).2=ts2 at *;unfold bS;refine Cg ?_;refine uw ?_;refine⟨.bad (.mk k.code false [] false [] [] [rx e,(Y r2).1]) ts2 p c1,⟨hw3,hc1,hD.1,hD.2⟩,Nat.succ_pos _,?_⟩;refine Eq.mpr (congrArg (fun c=>aJ _ (bS two fop c (fF ts2 p c1))) hbad) ?_;exact kw
    |ok z=>
     obtain⟨e2,r3⟩:=z;obtain⟨cy,hw3⟩:=cy;have hx:pP f' (.more two (.bin k e e2)) r3=some x':=hx
     have hg:gB two Y (f'+1) e ((4,[c],p0)::r2)=gB two Y f' (.bin k e e2) r3:=by
      rw[gB,ho];dsimp only;rw[hy]
     rw[hg]at hD;obtain⟨o2,na2,xs2,nb2,ys2,nm2,n2,cs2,hA2⟩:=aY e2;have hbin:=iY k e e2;rw[hA,hA2]at hbin;rw[show dE e2= .agg (ab o2 na2 xs2 nb2 ys2 nm2 n2 cs2) from congrArg DV.agg hA2]at cy;unfold bS;refine Cg ?_;refine uw ?_;refine⟨.run f' (.bin k e e2) r3,⟨hw3,by omega,x',hx,hD⟩,by show f'+1<f'+1+1;omega,?_⟩;refine Eq.mpr (congrArg (fun c=>aJ _ (bS two fop c (fF r3 a 0))) hbin) ?_;exact kw
theorem Gi {two:Bool} {fop:FuncId} {f:Nat} {a:Int} {Y:List Tk->Rx × List Tk} (hY:∀ts x,fj ts->pP f (jD two) ts=some x->SI fop ts a (Y ts) x):∀(f':Nat) (e:Ex) (ts:List Tk) (e':Ex) (r':List Tk),f'<=f->fj ts->pP f' (.more two e) ts=some (.ok (e',r'))->fj r'
 |0,_,_,_,_,_,_,h=>by cases h
 |f'+1,e,ts,e',r',hf,hw,h=>by
  rw[eW]at h;obtain⟨t,r,rfl⟩:=hw.ne;cases ho:fT two (t::r)with
  |none=>rw[ho]at h;cases h;exact hw
  |some q=>
   obtain⟨k,r2⟩:=q;obtain⟨rfl,h4,_⟩:=p9 ho;have hw2:fj r2:=hw.tail (by omega);rw[ho]at h;dsimp only at h ⊢;cases hy:pP f' (jD two) r2 with
   |none=>rw[hy]at h;cases h
   |some y=>
    have cy:=hY r2 y hw2 (jP (by omega) hy);rw[hy]at h;cases y with
    |error z=>cases h
    |ok z=>exact Gi hY f' _ _ e' r' (by omega) cy.2 h
theorem Dn {two:Bool} {fop:FuncId} {f:Nat} {a:Int} {Y:List Tk->Rx × List Tk} (hY:∀ts x,fj ts->pP f (jD two) ts=some x->SI fop ts a (Y ts) x):∀(f':Nat) (e:Ex) (ts:List Tk) (p:Nat) (c:Int),f'<=f->fj ts->pP f' (.more two e) ts=some (.error (p,c))->c≠0/\fj (gB two Y f' e ts).2
 |0,_,_,_,_,_,_,h=>by cases h
 |f'+1,e,ts,p,c,hf,hw,h=>by
  rw[eW]at h;rw[gB];obtain⟨t,r,rfl⟩:=hw.ne;cases ho:fT two (t::r)with
  |none=>rw[ho]at h;cases h
  |some q=>
   obtain⟨k,r2⟩:=q;obtain⟨rfl,h4,_⟩:=p9 ho;have hw2:fj r2:=hw.tail (by omega);rw[ho]at h;dsimp only at h ⊢;cases hy:pP f' (jD two) r2 with
   |none=>rw[hy]at h;cases h
   |some y=>
    have cy:=hY r2 y hw2 (jP (by omega) hy);rw[hy]at h;cases y with
    |error z=>cases h;exact⟨cy.1,cy.2.2⟩
    |ok z=>exact Dn hY f' _ _ p c (by omega) cy.2 h
theorem ve (two:Bool) (fop:FuncId) (f:Nat) (a:Int) (hop:∀ts x,fj ts->pP f (jD two) ts=some x->Rd fop ts a x) (ts:List Tk) (x:lN) (hT:fj ts) (hx:(match pP f (jD two) ts with
  |some (.ok (e,r))=>pP f (.more two e) r
  |y=>y)=some x):VR two fop ts a x:=by
 obtain⟨Y,hY⟩:=Fl hop;cases h0:pP f (jD two) ts with
 |none=>rw[h0]at hx;cases hx
 |some y0=>
  rw[h0]at hx;have c0:=hY ts y0 hT h0;cases y0 with
  |error z=>
   cases hx;obtain⟨p,c⟩:=z;obtain⟨hc,c0,hw⟩:=c0;refine⟨hc,(Y ts).1,(Y ts).2,?_,hw⟩;generalize(Y ts).1=y at *;generalize(Y ts).2=ts' at *;obtain⟨t,r,rfl⟩:=hw.ne;obtain⟨o1,na1,xs1,nb1,ys1,nm1,n1,cs1,hA⟩:=aM y;rw[show dR y= .agg (ab o1 na1 xs1 nb1 ys1 nm1 n1 cs1) from congrArg DV.agg hA]at c0 ⊢;have cis:=qA (yD two) t r p c hw.head.1;rw[decide_eq_false hc,Bool.false_and]at cis;refine aS ah dq func120 rfl rfl rfl rfl rfl (gA) ?_;refine kW ?_;refine kZ (c0) ?_;refine ay Unit (fun _=>True) (fun _=>bS two fop (ab o1 na1 xs1 nb1 ys1 nm1 n1 cs1) (fF (t::r) p c)) (fun _=>0) () trivial kw ?_;rintro _ _;unfold bS;refine kW ?_;refine kD (cis) ?_;exact ju
  |ok z=>
   obtain⟨e,r⟩:=z;have hx:pP f (.more two e) r=some x:=hx;cases x with
   |ok w=>
    obtain⟨e',r'⟩:=w;exact⟨Pu two fop f a Y hY ts hT h0 (B:=fF r' a 0) rfl ⟨c0.2,Nat.le_refl _,_,hx,rfl,rfl⟩,Gi hY f e r e' r' (Nat.le_refl _) c0.2 hx⟩
   |error w=>
    obtain⟨p,c⟩:=w;obtain⟨hc,hw⟩:=Dn hY f e r p c (Nat.le_refl _) c0.2 hx;exact⟨hc,_,_,Pu two fop f a Y hY ts hT h0 (B:=fF _ p c) rfl ⟨c0.2,Nat.le_refl _,_,hx,rfl,rfl⟩,hw⟩
structure Sg (f:Nat) (a:Int):Prop where
 sum:∀ts x,fj ts->pP f .sum ts=some x->Rd 78 ts a x
 prod:∀ts x,fj ts->pP f .prod ts=some x->Rd 121 ts a x
 un:∀ts x,fj ts->pP f .un ts=some x->Rd 171 ts a x
 prim:∀ts x,fj ts->pP f .prim ts=some x->Rd 229 ts a x
theorem P6 {f:Nat} {a:Int} (ih:∀ts x,fj ts->pP f .prod ts=some x->Rd 121 ts a x) (ts:List Tk) (x:lN) (hT:fj ts) (hx:pP (f+1) .sum ts=some x):Rd 78 ts a x:=by
 have h:=ve false 121 f a ih ts x hT (by rw[jL]at hx;exact hx);cases x with
 |ok z=>
  obtain⟨e,r⟩:=z;obtain⟨h,hw⟩:=h;refine⟨?_,hw⟩;obtain⟨o1,na1,xs1,nb1,ys1,nm1,n1,cs1,hA⟩:=aY e;rw[show dE e= .agg (ab o1 na1 xs1 nb1 ys1 nm1 n1 cs1) from congrArg DV.agg hA]at h ⊢;exact Oo
 |error z=>
  obtain⟨p,c⟩:=z;obtain⟨hc,y,ts',h,hw⟩:=h;refine⟨hc,y,ts',?_,hw⟩;obtain⟨o1,na1,xs1,nb1,ys1,nm1,n1,cs1,hA⟩:=aM y;rw[show dR y= .agg (ab o1 na1 xs1 nb1 ys1 nm1 n1 cs1) from congrArg DV.agg hA]at h ⊢;exact Oo
theorem LE {f:Nat} {a:Int} (ih:∀ts x,fj ts->pP f .un ts=some x->Rd 171 ts a x) (ts:List Tk) (x:lN) (hT:fj ts) (hx:pP (f+1) .prod ts=some x):Rd 121 ts a x:=by
 have h:=ve true 171 f a ih ts x hT (by rw[gZ]at hx;exact hx);cases x with
 |ok z=>
  obtain⟨e,r⟩:=z;obtain⟨h,hw⟩:=h;refine⟨?_,hw⟩;obtain⟨o1,na1,xs1,nb1,ys1,nm1,n1,cs1,hA⟩:=aY e;rw[show dE e= .agg (ab o1 na1 xs1 nb1 ys1 nm1 n1 cs1) from congrArg DV.agg hA]at h ⊢;exact Om
 |error z=>
  obtain⟨p,c⟩:=z;obtain⟨hc,y,ts',h,hw⟩:=h;refine⟨hc,y,ts',?_,hw⟩;obtain⟨o1,na1,xs1,nb1,ys1,nm1,n1,cs1,hA⟩:=aM y;rw[show dR y= .agg (ab o1 na1 xs1 nb1 ys1 nm1 n1 cs1) from congrArg DV.agg hA]at h ⊢;exact Om
theorem EF (y:Rx):aR (.mk 3 false [] false [] [] [y])=[.val (.int .i64 3)]++iP++[.val (vL []), .sl 1 (aR y)]:=by
 show [.val (.int .i64 3)]++Ab false [] false []++[.val (vL []), .sl 1 (aR y++[])]=_;rw[List.append_nil];rfl
theorem TZ {f:Nat} {a:Int} (ih:∀ts x,fj ts->pP f .un ts=some x->Rd 171 ts a x) (ih2:∀ts x,fj ts->pP f .prim ts=some x->Rd 229 ts a x) (ts:List Tk) (x:lN) (hT:fj ts) (hx:pP (f+1) .un ts=some x):Rd 171 ts a x:=by
 obtain⟨t,r,rfl⟩:=hT.ne;rw[kl]at hx;have cis:=qA [45] t r a 0 hT.head.1;rw[decide_eq_true rfl,Bool.true_and,AW]at cis;cases hs:bJ 45 (t::r)with
 |some r2=>
  obtain⟨rfl,h4⟩:=nS hs;rw[hs]at hx cis;have cis:aw Tryz.prog 169 [.box 900 0, .d (dL [45])] [(900,fF (t::r2) a 0)] (.v (.one (dB true))) [(900,fF (t::r2) a 0)]:=cis;have hw2:fj r2:=hT.tail (by omega);dsimp only at hx;cases hy:pP f .un r2 with
  |none=>rw[hy]at hx;cases hx
  |some y=>
   have cy:=ih r2 y hw2 hy;rw[hy]at hx;cases y with
   |ok z=>
    obtain⟨e,r3⟩:=z;cases hx;obtain⟨cy,hw3⟩:=cy;refine⟨?_,hw3⟩;obtain⟨o1,na1,xs1,nb1,ys1,nm1,n1,cs1,hA⟩:=aY e;rw[show dE (.neg e)= .agg ([.val (.int .i64 3)]++iP++[.val (vL []), .sl 1 (aE e)]) from congrArg DV.agg (n6 e),hA];rw[show dE e= .agg (ab o1 na1 xs1 nb1 ys1 nm1 n1 cs1) from congrArg DV.agg hA]at cy;exact N2
   |error z=>
    cases hx;obtain⟨p,c⟩:=z;obtain⟨hc,y,ts',cy,hw3⟩:=cy;refine⟨hc, .mk 3 false [] false [] [] [y],ts',?_,hw3⟩;obtain⟨o1,na1,xs1,nb1,ys1,nm1,n1,cs1,hA⟩:=aM y;rw[show dR (.mk 3 false [] false [] [] [y])= .agg ([.val (.int .i64 3)]++iP++[.val (vL []), .sl 1 (aR y)]) from congrArg DV.agg (EF y),hA];rw[show dR y= .agg (ab o1 na1 xs1 nb1 ys1 nm1 n1 cs1) from congrArg DV.agg hA]at cy;exact N2
 |none=>
  rw[hs]at hx cis;have cis:aw Tryz.prog 169 [.box 900 0, .d (dL [45])] [(900,fF (t::r) a 0)] (.v (.one (dB false))) [(900,fF (t::r) a 0)]:=cis;have cy:=ih2 (t::r) x hT hx;cases x with
  |ok z=>
   obtain⟨e,r3⟩:=z;obtain⟨cy,hw3⟩:=cy;refine⟨?_,hw3⟩;obtain⟨o1,na1,xs1,nb1,ys1,nm1,n1,cs1,hA⟩:=aY e;rw[show dE e= .agg (ab o1 na1 xs1 nb1 ys1 nm1 n1 cs1) from congrArg DV.agg hA]at cy ⊢;refine Dm ?_;refine Cg ?_;refine kD (cy) ?_;exact ju
  |error z=>
   obtain⟨p,c⟩:=z;obtain⟨hc,y,ts',cy,hw3⟩:=cy;refine⟨hc,y,ts',?_,hw3⟩;obtain⟨o1,na1,xs1,nb1,ys1,nm1,n1,cs1,hA⟩:=aM y;rw[show dR y= .agg (ab o1 na1 xs1 nb1 ys1 nm1 n1 cs1) from congrArg DV.agg hA]at cy ⊢;refine Dm ?_;refine Cg ?_;refine kD (cy) ?_;exact ju
def z7:Rx:= .mk 0 false [] false [] [] []
theorem Mc {f:Nat} {a:Int} (ih:∀ts x,fj ts->pP f .sum ts=some x->Rd 78 ts a x) (ts:List Tk) (x:lN) (hT:fj ts) (hx:pP (f+1) .prim ts=some x):Rd 229 ts a x:=by
 obtain⟨t,r,rfl⟩:=hT.ne;rw[fC]at hx;have cis:=qA [40] t r a 0 hT.head.1;rw[decide_eq_true rfl,Bool.true_and,AW]at cis;cases hs:bJ 40 (t::r)with
 |some r2=>
  obtain⟨rfl,h4⟩:=nS hs;rw[hs]at hx cis;have cis:aw Tryz.prog 169 [.box 900 0, .d (dL [40])] [(900,fF (t::r2) a 0)] (.v (.one (dB true))) [(900,fF (t::r2) a 0)]:=cis;have hw2:fj r2:=hT.tail (by omega);dsimp only at hx;cases hy:pP f .sum r2 with
  |none=>rw[hy]at hx;cases hx
  |some y=>
   have cy:=ih r2 y hw2 hy;rw[hy]at hx;cases y with
   |error z=>
    cases hx;obtain⟨p,c⟩:=z;obtain⟨hc,y,ts',cy,hw3⟩:=cy;refine⟨hc,z7,ts',?_,hw3⟩;obtain⟨u,r4,rfl⟩:=hw3.ne;obtain⟨o1,na1,xs1,nb1,ys1,nm1,n1,cs1,hA⟩:=aM y;rw[show dR y= .agg (ab o1 na1 xs1 nb1 ys1 nm1 n1 cs1) from congrArg DV.agg hA]at cy;have cis2:=qA [41] u r4 p c hw3.head.1;rw[decide_eq_false hc,Bool.false_and]at cis2;refine Pd ?_;refine kD (ze u r4 p c 2 hc) ?_;exact ju
   |ok z=>
    obtain⟨e,r3⟩:=z;obtain⟨cy,hw3⟩:=cy;obtain⟨u,r4,rfl⟩:=hw3.ne;obtain⟨o1,na1,xs1,nb1,ys1,nm1,n1,cs1,hA⟩:=aY e;rw[show dE e= .agg (ab o1 na1 xs1 nb1 ys1 nm1 n1 cs1) from congrArg DV.agg hA]at cy;have cis2:=qA [41] u r4 a 0 hw3.head.1;rw[decide_eq_true rfl,Bool.true_and,AW]at cis2;dsimp only at hx;cases hs2:bJ 41 (u::r4)with
    |some r5=>
     obtain⟨rfl,h4'⟩:=nS hs2;rw[hs2]at hx cis2;cases hx;refine⟨?_,hw3.tail (by omega)⟩;rw[show dE e= .agg (ab o1 na1 xs1 nb1 ys1 nm1 n1 cs1) from congrArg DV.agg hA];have cis2:aw Tryz.prog 169 [.box 900 0, .d (dL [41])] [(900,fF (u::r5) a 0)] (.v (.one (dB true))) [(900,fF (u::r5) a 0)]:=cis2;refine Pd ?_;refine kD (jg u r5 a 0) ?_;exact ju
    |none=>
     rw[hs2]at hx cis2;cases hx;refine⟨by decide,z7,u::r4,?_,hw3⟩;have cis2:aw Tryz.prog 169 [.box 900 0, .d (dL [41])] [(900,fF (u::r4) a 0)] (.v (.one (dB false))) [(900,fF (u::r4) a 0)]:=cis2;refine Pd ?_;refine kD (j8 u r4 a 2) ?_;exact ju
 |none=>
  rw[hs]at hx cis;dsimp only at hx;have cis:aw Tryz.prog 169 [.box 900 0, .d (dL [40])] [(900,fF (t::r) a 0)] (.v (.one (dB false))) [(900,fF (t::r) a 0)]:=cis
  by_cases h2:t.1=2
  ·rw[if_pos h2]at hx
   cases hx;obtain⟨u,r4,rfl⟩:=(hT.tail (by omega)).ne;have cn:=E3 t u r4 a h2 hT;cases hP:jB t (u::r4)with
   |ok z=>
    obtain⟨e,r3⟩:=z;rw[hP]at cn;obtain⟨cy,hw3⟩:=cn;refine⟨?_,hw3⟩;obtain⟨o1,na1,xs1,nb1,ys1,nm1,n1,cs1,hA⟩:=aY e;rw[show dE e= .agg (ab o1 na1 xs1 nb1 ys1 nm1 n1 cs1) from congrArg DV.agg hA]at cy ⊢;exact G2
   |error z=>
    obtain⟨p,c⟩:=z;rw[hP]at cn;obtain⟨hc,y,ts',cy,hw3⟩:=cn;refine⟨hc,y,ts',?_,hw3⟩;obtain⟨o1,na1,xs1,nb1,ys1,nm1,n1,cs1,hA⟩:=aM y;rw[show dR y= .agg (ab o1 na1 xs1 nb1 ys1 nm1 n1 cs1) from congrArg DV.agg hA]at cy ⊢;exact G2
  ·rw[if_neg h2]at hx
   by_cases h1:t.1=1
   ·rw[if_pos h1]at hx
    cases hx;refine⟨?_,hT.tail (by omega)⟩;refine K9 ?_;refine kD (dh t r a 0) ?_;refine ug ?_;refine kD (dh t r a 0) ?_;refine FN ?_;refine kD (jg t r a 0) ?_;exact ju
   ·rw[if_neg h1]at hx
    cases hx;refine⟨by decide,z7,t::r,?_,hT⟩;refine K9 ?_;refine kD (dh t r a 0) ?_;refine ug ?_;refine kD (dh t r a 0) ?_;refine ug ?_;refine kZ (cis) ?_;refine kD (j8 t r a 2) ?_;exact ju
theorem HI (a:Int):∀f,Sg f a
 |0=>⟨fun _ _ _ h=>(by cases h),fun _ _ _ h=>(by cases h),fun _ _ _ h=>(by cases h),fun _ _ _ h=>(by cases h)⟩
 |f+1=>by
  have ih:=HI a f;exact⟨fun ts x hT hx=>P6 ih.prod ts x hT hx,fun ts x hT hx=>LE ih.un ts x hT hx,fun ts x hT hx=>TZ ih.un ih.prim ts x hT hx,fun ts x hT hx=>Mc ih.sum ts x hT hx⟩
section
variable {P:Program} {T:TypeId->Option Ty} {n:Nat} {ops:Array Oper} {id:Nat} {draw:Bool} {K:AS->Prop} {s:AS} {k:Nat} {o:Oper} {os:List Oper} {fps:List FP}
theorem qz:∀(b c:BL),(∀x∈c,x∈b)->c7 b c=[]
 |_,[],_=>rfl
 |b,(j,cs)::r,h=>by
  rw[c7]
  have hj:(ak (av b) j).isSome:=by
   have hm:=h (j,cs) (by simp);clear h
   induction b with
   |nil=>cases hm
   |cons y l ih=>
    obtain⟨i,ci⟩:=y
    by_cases e:i=j
    ·subst e;rw[av,ai];rfl
    ·rw[av,ar _ _ e]
     rcases List.mem_cons.1 hm with h|h
     ·cases h;exact absurd rfl e
     ·exact ih h
  cases hl:ak (av b) j with
  |none=>rw[hl]at hj;cases hj
  |some x=>exact qz b r (fun x hx=>h x (List.mem_cons_of_mem _ hx))
theorem zu {s:AS}:∀{b:BL},qu s (av b)-> ∀j,ak (av b++s.b) j=ak s.b j
 | [],_,_=>rfl
 |(i,cs)::r,h,j=>by
  have h1:s.bx i=some cs:=h.1;have h2:qu s (av r):=h.2
  by_cases e:i=j
  ·subst e
   rw[av,List.cons_append,ai];unfold AS.bx at h1
   split at h1
   ·rename_i x hx;cases h1;exact hx.symm
   ·cases h1
  ·rw[av,List.cons_append,ar _ _ e];exact zu h2 j
theorem mJ {f:Operand} {fid:FuncId} {args:Array Operand} {tys:Array TypeId} {ts:List TV} {b:BL} {r:RT} (hc:aw P fid ts b r b) (h1:gd ops s o=some true) (ho:o.op= .call ⟨.value f,args,tys⟩) (hcl:vB s f args.toList=some (fid,ts)) (hone:tU s f=true)
 (hk:(DN (av b) (ts.flatMap dJ) && tp (av b) (av b))=true) (hb:qu s (av b)) (hcn:dz [] s.b=true) (hnew:lZ s b b=true) (h3:aL n o.dst=true) (h4:fh draw ops (aB ops o ⟨r.tv,none⟩ (b.map (·.1))) k fps=true)
 (h:au P T n ops id draw K (k+1) os (s.eff o.dst ⟨r.tv,none⟩) (aB ops o ⟨r.tv,none⟩ (b.map (·.1))::fps)):au P T n ops id draw K k (o::os) s fps:=by
 refine .run h1 (.genC (iz hcn) fun s2 hc2 ht hrb=>?_) h3 h4 h;have hf:s2.ev f=s.ev f:=ax ht (by rw[ho];simp[Op.operands,Call.operands]);have hcl2:=tc (s':=s2) (s:=s) (f:=f) (args:=args.toList) hf (fun x hx=>ax ht (by rw[ho];simp[Op.operands,Call.operands];exact .inr (by simpa using hx)));have hone2:tU s2 f=true:=by unfold tU at hone ⊢;rw[hf];exact hone
 have hb2:=ld hrb hb;have:=pH hc ho (hcl2.trans hcl) hone2 hk hb2 (fun j cs hj _=>hc2 j cs hj) ((ja hrb).trans hnew);intro n S0 w0 g a w K Q hM hd hK;refine this n S0 w0 g a w K Q hM hd fun g' a' w' hM'=>hK g' a' w' (hM'.ext (fun k=>?_) (fun j=>?_))
 ·cases o.dst<;>rfl
 ·rw[qz b b (fun _ h=>h),List.append_nil]
  exact(zu hb2 j).symm
end
def VK (E:Nat) (b:Int) (p:Nat) (c:Int):Int:=if p=E/\b≠0 then b else c
def Ve (E:Nat) (ts:List Tk):Prop:=∀t∈ts,(t.1=0->t.2.2=E)/\(t.1≠0->t.2.2<E)
theorem S6 {E:Nat} {p:Nat} {c:Int}:VK E 0 p c=c:=if_neg (fun e=>e.2 rfl)
theorem yo {two:Bool} {ts r:List Tk} {k:B4} (h:fT two ts=some (k,r)):∀t∈r,t∈ts:=by
 cases ts with
 |nil=>cases h
 |cons t r'=>
  simp only[fT]at h
  split at h
  ·exact Ih
  ·cases h
theorem gg {c:UInt8} {ts r:List Tk} (h:bJ c ts=some r):∀t∈r,t∈ts:=by
 cases ts with
 |nil=>cases h
 |cons t r'=>
  simp only[bJ]at h
  exact Ih
theorem x9 {t:Tk} {r r2:List Tk} {e:Ex} (h:jB t r= .ok (e,r2)):∃q u,e= .num q u/\(u=[]∨ ∃v∈r,u=v.2.1)/\ ∀x∈r2,x∈r:=by
 unfold jB at h
 split at h
 ·cases h
 ·rename_i q _
  split at h
  ·cases h
  ·split at h
   ·rename_i v r'
    split at h
    ·cases h;exact⟨q,_,rfl, .inr ⟨v,by simp,rfl⟩,fun x hx=>List.mem_cons_of_mem _ hx⟩
    ·cases h;exact⟨q,_,rfl, .inl rfl,fun x hx=>hx⟩
   ·cases h;exact⟨q,_,rfl, .inl rfl,fun x hx=>hx⟩
theorem ia:Wd []:=fun x hx=>by cases hx
theorem jR:∀(f:Nat) (m:Md) (ts:List Tk) (e:Ex) (r:List Tk),(∀t∈ts,t.2.1.length<=65536)->(∀two e0,m= .more two e0->ls (rx e0))->pP f m ts=some (.ok (e,r)) ->
 ls (rx e)/\(∀t∈r,t∈ts)/\fi (rx e)+r.length<=ts.length+(match m with| .more _ e0=>fi (rx e0)|_=>0)
 |0,_,_,_,_,_,_,h=>by cases h
 |f+1, .sum,ts,e,r,hs,hm,h=>by
  rw[jL]at h
  split at h
  ·rename_i e1 r1 h1
   exact N9
  ·exact LP
 |f+1, .prod,ts,e,r,hs,hm,h=>by
  rw[gZ]at h
  split at h
  ·rename_i e1 r1 h1
   exact N9
  ·exact LP
 |f+1, .more two e0,ts,e,r,hs,hm,h=>by
  rw[eW]at h
  split at h
  ·rename_i k r1 h0
   have hl:=sR h0;have hsub:=yo h0
   split at h
   ·rename_i e1 r2 h1
    have a:=jR f _ _ _ _ (fun t ht=>hs t (hsub t ht)) (fun _ _ h=>by cases two<;>cases h) h1
    have hb:ls (rx (.bin k e0 e1)):= .mk (by cases k<;>decide) (by cases k<;>decide) ia ia (by decide) (by simp) (fun x hx=>by
     rcases List.mem_cons.1 hx with rfl|hx
     ·exact hm two e0 rfl
     ·cases List.mem_singleton.1 hx;exact a.1)
    have b:=jR f _ _ _ _ (fun t ht=>hs t (hsub t (a.2.1 t ht))) (fun _ _ h=>by cases h;exact hb) h;refine⟨b.1,fun t ht=>hsub t (a.2.1 t (b.2.1 t ht)),?_⟩;have h1:=a.2.2;have h2:=b.2.2;have h3:fi (rx (.bin k e0 e1))=fi (rx e0)+fi (rx e1)+1:=by simp[rx,fi,dX]
    cases two<;>dsimp only[jD]at * <;>omega
   ·exact LP
  ·cases h;exact⟨hm two _ rfl,fun t ht=>ht,by dsimp only;omega⟩
 |f+1, .un,ts,e,r,hs,hm,h=>by
  rw[kl]at h
  split at h
  ·rename_i r1 h0
   have hl:=eJ h0;have hsub:=gg h0
   split at h
   ·rename_i e1 r2 h1
    have a:=jR f _ _ _ _ (fun t ht=>hs t (hsub t ht)) (fun _ _ h=>by cases h) h1;cases h;have h3:fi (rx (.neg e1))=fi (rx e1)+1:=by simp[rx,fi,dX]
    refine⟨.mk (by decide) (by decide) ia ia (by decide) (by simp) (fun x hx=>by cases List.mem_singleton.1 hx;exact a.1),fun t ht=>hsub t (a.2.1 t ht),?_⟩;have:=a.2.2;dsimp only at *;omega
   ·exact LP
  ·have a:=jR f _ _ _ _ hs (fun _ _ h=>by cases h) h
   exact a
 |f+1, .prim,ts,e,r,hs,hm,h=>by
  rw[fC]at h
  split at h
  ·rename_i r1 h0
   have hl:=eJ h0;have hsub:=gg h0
   split at h
   ·rename_i e1 r2 h1
    have a:=jR f _ _ _ _ (fun t ht=>hs t (hsub t ht)) (fun _ _ h=>by cases h) h1
    split at h
    ·rename_i r3 h2
     have b:=eJ h2;cases h;refine⟨a.1,fun t ht=>hsub t (a.2.1 t (gg h2 t ht)),?_⟩;have:=a.2.2;dsimp only at *;omega
    ·cases h
   ·exact LP
  ·split at h
   ·rename_i t r1 _
    split at h
    ·injection h with h
     have h2:=xX h;obtain⟨q,u,rfl,hu,hsub⟩:=x9 h;refine⟨.mk (by decide) (by decide) (ac _) (ac _) ?_ (by decide) (fun x hx=>by cases hx),fun t ht=>List.mem_cons_of_mem _ (hsub t ht),?_⟩
     ·rcases hu with rfl| ⟨v,hv,rfl⟩
      ·decide
      ·have:=hs v (List.mem_cons_of_mem _ hv);omega
     ·simp[rx,fi,dX];omega
    ·split at h
     ·cases h
      refine⟨.mk (by decide) (by decide) ia ia ?_ (by decide) (fun x hx=>by cases hx),fun t ht=>List.mem_cons_of_mem _ ht,?_⟩
      ·have:=hs t (by simp);omega
      ·simp[rx,fi,dX];omega
     ·cases h
   ·cases h
theorem bd {j i:Nat} {cs ci:List AV}:(sB [(j,cs)]).bx i=some ci↔i=j/\ci=cs:=by
 rw[bM]
 by_cases e:j=i
 ·subst e
  rw[av,ai]
  constructor
  ·intro h;cases h;exact⟨rfl,rfl⟩
  ·rintro⟨_,rfl⟩;rfl
 ·rw[av,ar _ _ e]
  constructor
  ·intro h;cases h
  ·rintro⟨h,_⟩;exact absurd h.symm e
theorem lf {S:Nat->Prop} {g:Nat->Nat} {j:Nat} {cs:List AV}:Own S g (sB [(j,cs)])=fun q=>S q∨g j=q:=by
 funext q
 unfold Own;refine propext ⟨?_,?_⟩
 ·rintro(h| ⟨i,ci,h,e⟩)
  ·exact .inl h
  ·obtain⟨rfl,_⟩:=bd.1 h;exact .inr e
 ·rintro(h|e)
  ·exact .inl h
  ·exact .inr ⟨j,cs,bd.2 ⟨rfl,rfl⟩,e⟩
theorem mg {g:Nat->Nat} {j:Nat} {cs:List AV}:BX g [(j,cs)]=fun q=>g j=q:=by
 funext q
 unfold BX;refine propext ⟨?_,?_⟩
 ·rintro⟨i,ci,h,e⟩
  obtain⟨rfl,_⟩:=bd.1 h;exact e
 ·intro e;exact⟨j,cs,bd.2 ⟨rfl,rfl⟩,e⟩
def sw (a b j:Nat):Nat:=if j=a then b else if j=b then a else j
theorem jQ (a b j:Nat):sw a b (sw a b j)=j:=by
 unfold sw
 split <;>split <;>(try split)<;>omega
theorem wG {a b i j:Nat} (h:sw a b i=sw a b j):i=j:=by
 have:=congrArg (sw a b) h
 rwa[jQ,jQ]at this
def RQ (a b:Nat):AV->AV
 | .ow j n k e=> .ow (sw a b j) n k e
 | .bp j o=> .bp (sw a b j) o
 |x=>x
def vi (a b j:Nat) (cs:List AV):List AV:=match b5 j with
 |true=>cs.map (RQ a b)
 |false=>cs
def nY (a b:Nat):BL->BL
 | []=>[]
 |(j,cs)::r=>(sw a b j,vi a b j cs)::nY a b r
def UB (a b:Nat):CV->CV
 | .val v=> .val v
 | .box j o=> .box (sw a b j) o
def Ra (a b:Nat):TV->TV
 | .box j o=> .box (sw a b j) o
 | .own j n k e=> .own (sw a b j) n k e
 | .vw j o n k=> .vw (sw a b j) o n k
 | .vs j o n c k e=> .vs (sw a b j) o n c k e
 | .clo fn fs cs=> .clo fn (fs.map (UB a b)) (cs.map (UB a b))
 |x=>x
def Tq (a b:Nat):RT->RT
 | .own j n k e=> .own (sw a b j) n k e
 | .v r=> .v r
theorem nA (a b j:Nat) (cs:List AV):(vi a b j cs).length=cs.length:=by
 unfold vi;split <;>simp
theorem Ry (a b:Nat) (r:RT):(Tq a b r).tv=Ra a b r.tv:=by
 cases r with
 |own=>rfl
 |v r=>cases r<;>rfl
theorem qi {a b:Nat}:∀(l:BL) (j:Nat),ak (av (nY a b l)) (sw a b j)=(ak (av l) j).map fun o=>o.map (vi a b j)
 | [],_=>rfl
 |(i,cs)::r,j=>by
  by_cases e:i=j
  ·subst e
   rw[nY,av,av,ai,ai];rfl
  ·rw[nY,av,av,ar _ _ e,ar _ _ (fun h=>e (wG h))]
   exact qi r j
theorem IG {a b:Nat} (l:BL) (j:Nat):ak (av (nY a b l)) j=(ak (av l) (sw a b j)).map fun o=>o.map (vi a b (sw a b j)):=by
 have:=qi (a:=a) (b:=b) l (sw a b j)
 rwa[jQ]at this
theorem po {a b:Nat} {l:BL} {j:Nat} {cs:List AV} (h:(sB l).bx j=some cs):(sB (nY a b l)).bx (sw a b j)=some (vi a b j cs):=by
 rw[bM]at h ⊢;rw[qi,h];rfl
theorem im {a b:Nat} {l:BL} {j:Nat} {cs:List AV} (h:(sB (nY a b l)).bx j=some cs):∃c0,(sB l).bx (sw a b j)=some c0/\cs=vi a b (sw a b j) c0:=by
 rw[bM,IG]at h;cases hl:ak (av l) (sw a b j)with
 |none=>rw[hl]at h;cases h
 |some o=>
  rw[hl]at h;cases o with
  |none=>cases h
  |some c0=>
   simp only[Option.map_some,Option.some.injEq]at h
   exact⟨c0,bM.2 hl,h.symm⟩
theorem uA {a b:Nat} {l:BL} {j:Nat}:(sB (nY a b l)).kn (sw a b j)↔(sB l).kn j:=by
 unfold AS.kn sB;dsimp only;rw[qi]
 constructor
 ·rintro⟨x,h⟩
  cases hl:ak (av l) j with
  |none=>rw[hl]at h;cases h
  |some o=>exact⟨o,rfl⟩
 ·rintro⟨x,h⟩
  rw[h];exact⟨_,rfl⟩
theorem nW {a b:Nat} {S:Nat->Prop} {g:Nat->Nat} {l:BL}:Own S g (sB (nY a b l))=Own S (fun j=>g (sw a b j)) (sB l):=by
 funext q
 refine propext ⟨?_,?_⟩
 ·rintro(h| ⟨j,cs,h,e⟩)
  ·exact .inl h
  ·obtain⟨c0,h0,_⟩:=im h
   exact .inr ⟨sw a b j,c0,h0,by dsimp only;rw[jQ];exact e⟩
 ·rintro(h| ⟨j,cs,h,e⟩)
  ·exact .inl h
  ·exact .inr ⟨sw a b j,_,po h,e⟩
theorem Eb {a b:Nat} {g:Nat->Nat} {l:BL}:BX g (nY a b l)=BX (fun j=>g (sw a b j)) l:=by
 funext q
 refine propext ⟨?_,?_⟩
 ·rintro⟨j,cs,h,e⟩
  obtain⟨c0,h0,_⟩:=im h;exact⟨sw a b j,c0,h0,by dsimp only;rw[jQ];exact e⟩
 ·rintro⟨j,cs,h,e⟩
  exact⟨sw a b j,_,po h,e⟩
section
variable {a b:Nat} {S:Nat->Prop} {g:Nat->Nat} {l:BL} {w:World}
theorem NH {x:CV} {v:Value}:CV.M g (sB (nY a b l)) (UB a b x) v↔CV.M (fun j=>g (sw a b j)) (sB l) x v:=by
 cases x with
 |val u=>exact Iff.rfl
 |box j o=>
  constructor
  ·rintro⟨h1,h2⟩
   exact⟨uA.1 h1,fun cs hc=>h2 _ (po hc)⟩
  ·rintro⟨h1,h2⟩
   refine⟨uA.2 h1,fun cs hc=>?_⟩;obtain⟨c0,h0,_⟩:=im hc;rw[jQ]at h0;exact h2 c0 h0
theorem rL:∀{xs:List CV} {vs:List Value},pJ g (sB (nY a b l)) (xs.map (UB a b)) vs↔pJ (fun j=>g (sw a b j)) (sB l) xs vs
 | [],[]=>Iff.rfl
 |x::xs,v::vs=>and_congr NH rL
 | [],_::_=>Iff.rfl
 |_::_,[]=>Iff.rfl
theorem CB {x:TV} {v:Value}:TV.M S g (sB (nY a b l)) w (Ra a b x) v↔TV.M S (fun j=>g (sw a b j)) (sB l) w x v:=by
 cases x with
 |d x=>exact Iff.rfl
 |tup ts=>exact Iff.rfl
 |box j o=>exact NH (x:= .box j o)
 |rp cs=>exact Iff.rfl
 |own j n k e=>
  exact DP
 |clo fn fs cs=>
  constructor
  ·rintro⟨us,vs,e,h1,h2⟩;exact⟨us,vs,e,rL.1 h1,rL.1 h2⟩
  ·rintro⟨us,vs,e,h1,h2⟩;exact⟨us,vs,e,rL.2 h1,rL.2 h2⟩
 |mp es=>exact Iff.rfl
 |nil=>exact Iff.rfl
 |und=>exact Iff.rfl
 |junk=>exact Iff.rfl
 |dfr f cs=>exact Iff.rfl
 |vw j o n k=>
  exact DP
 |vs j o n c k e=>
  constructor
  ·rintro⟨h1,h2⟩
   exact⟨uA.1 h1,fun cs hc=>h2 _ (po hc)⟩
  ·rintro⟨h1,h2⟩
   refine⟨uA.2 h1,fun cs hc=>?_⟩;obtain⟨c0,h0,rfl⟩:=im hc;rw[jQ]at h0;exact h2 c0 h0
theorem Ao:∀{xs:List TV} {vs:List Value},nK S g (sB (nY a b l)) w (xs.map (Ra a b)) vs↔nK S (fun j=>g (sw a b j)) (sB l) w xs vs
 | [],[]=>Iff.rfl
 |x::xs,v::vs=>and_congr CB Ao
 | [],_::_=>Iff.rfl
 |_::_,[]=>Iff.rfl
theorem Pa {x:AV} {v:Value}:xn S g (sB (nY a b l)) w (RQ a b x) v↔xn S (fun j=>g (sw a b j)) (sB l) w x v:=by
 cases x with
 |ow j n k e=>exact CB (S:=S) (w:=w) (x:= .own j n k e)
 |bp j o=>exact CB (S:=S) (w:=w) (x:= .box j o)
 |val=>exact Iff.rfl
 |sl=>exact Iff.rfl
 |nl=>exact Iff.rfl
theorem PJ {x:AV} {v:Value}:AV.M S w (RQ a b x) v↔AV.M S w x v:=by
 cases x with
 |ow j n k e=>constructor <;>(intro h;cases h;exact .ow (by assumption))
 |bp j o=>constructor <;>(intro h;cases h;exact .bp (by assumption))
 |val=>exact Iff.rfl
 |sl=>exact Iff.rfl
 |nl=>exact Iff.rfl
theorem D7 {j i:Nat} {cs:List AV} {x:AV} (h:(vi a b j cs)[i]? =some x):∃y,cs[i]? =some y/\ ∀(v:Value),(AV.M S w x v↔AV.M S w y v)/\(b5 j=true->x=RQ a b y):=by
 unfold vi at h
 split at h
 ·rw[List.getElem?_map]at h
  cases hc:cs[i]? with
  |none=>rw[hc]at h;cases h
  |some y=>
   rw[hc]at h;cases h;exact⟨y,rfl,fun v=>⟨PJ,fun _=>rfl⟩⟩
 ·rename_i hl
  exact⟨x,h,fun v=>⟨Iff.rfl,fun h=>by rw[hl]at h;cases h⟩⟩
theorem zX {j i:Nat} {cs:List AV} {y:AV} (h:cs[i]? =some y):∃x,(vi a b j cs)[i]? =some x/\ ∀(v:Value),(AV.M S w x v↔AV.M S w y v)/\(b5 j=true->x=RQ a b y):=by
 unfold vi
 split
 ·exact⟨RQ a b y,by rw[List.getElem?_map,h];rfl,fun v=>⟨PJ,fun _=>rfl⟩⟩
 ·rename_i hl
  exact⟨y,h,fun v=>⟨Iff.rfl,fun h=>by rw[hl]at h;cases h⟩⟩
theorem NC {j:Nat} {cs:List AV} {vs:List Value}:fA S w (vi a b j cs) vs↔fA S w cs vs:=by
 unfold fA;rw[nA]
 constructor
 ·rintro⟨h1,h2⟩
  refine⟨h1,fun i y v hy hv=>?_⟩;obtain⟨x,hx,h⟩:=zX (a:=a) (b:=b) (S:=S) (w:=w) (j:=j) hy;exact(h v).1.1 (h2 i x v hx hv)
 ·rintro⟨h1,h2⟩
  refine⟨h1,fun i x v hx hv=>?_⟩;obtain⟨y,hy,h⟩:=D7 (S:=S) (w:=w) hx;exact(h v).1.2 (h2 i y v hy hv)
theorem CY {j B:Nat} {cs:List AV} (hw:bG (sw a b j)=bG j) (hl:b5 (sw a b j)=b5 j) (ht:gN (sw a b j)=gN j):l6 S g (sB (nY a b l)) w (sw a b j) (vi a b j cs) B↔l6 S (fun j=>g (sw a b j)) (sB l) w j cs B:=by
 constructor
 ·rintro⟨arr,e,h1,h2,h3,h4,h5⟩
  refine⟨arr,e,h1,NC.1 h2,by rw[<- hw];exact h3,fun hj i y v hy hv=>?_,by rw[<- ht];exact h5⟩;obtain⟨x,hx,h⟩:=zX (a:=a) (b:=b) (S:=S) (w:=w) (j:=j) hy;have h6:=h4 (by rw[hl];exact hj) i x v hx hv;rw[(h v).2 hj]at h6;exact Pa.1 h6
 ·rintro⟨arr,e,h1,h2,h3,h4,h5⟩
  refine⟨arr,e,h1,NC.2 h2,by rw[hw];exact h3,fun hj i x v hx hv=>?_,by rw[ht];exact h5⟩;obtain⟨y,hy,h⟩:=D7 (S:=S) (w:=w) hx;rw[(h v).2 (by rw[<- hl];exact hj)];exact Pa.2 (h4 (by rw[<- hl];exact hj) i y v hy hv)
end
def nH (a b:Nat):Bool:=(bG a == bG b) && ((b5 a == b5 b) && (gN a == gN b))
theorem Cr {a b:Nat} (h:nH a b=true) (j:Nat):bG (sw a b j)=bG j/\b5 (sw a b j)=b5 j/\gN (sw a b j)=gN j:=by
 simp only[nH,Bool.and_eq_true,beq_iff_eq]at h
 unfold sw
 split
 ·rename_i e;subst e;exact⟨h.1.symm,h.2.1.symm,h.2.2.symm⟩
 ·split
  ·rename_i e;subst e;exact⟨h.1,h.2.1,h.2.2⟩
  ·exact⟨rfl,rfl,rfl⟩
section
variable {P:Program} {f:FuncId} {ts:List TV} {l l':BL} {r:RT} {a b:Nat}
theorem Kk (hab:nH a b=true) {S:Nat->Prop} {g:Nat->Nat} {w:World} (h:EW S g w (nY a b l)):EW S (fun j=>g (sw a b j)) w l:=by
 refine⟨?_,?_,?_,?_,?_⟩
 ·rw[<- Eb];exact h.tab
 ·rw[<- Eb];exact h.blk
 ·intro k cs hk
  have:=h.gl k cs hk;rw[nW]at this;exact this
 ·intro j cs hj
  have h1:=h.bm _ _ (po (a:=a) (b:=b) hj);obtain⟨k1,k2,k3⟩:=Cr hab j;rw[nW]at h1;exact(CY k1 k2 k3).1 h1
 ·intro i j ci cj hi hj e
  exact wG (h.inj _ _ _ _ (po (a:=a) (b:=b) hi) (po (a:=a) (b:=b) hj) e)
theorem G4 (hab:nH a b=true) {S:Nat->Prop} {g:Nat->Nat} {w w':World} {e:Ending} (h:wk S (fun j=>g (sw a b j)) l r l' w e w'):wk S g (nY a b l) (Tq a b r) (nY a b l') w e w':=by
 obtain⟨v,g',he,h1,h2,h3,h4,h5⟩:=h;have hg:(fun j=>(fun i=>g' (sw a b i)) (sw a b j))=g':=by funext j;dsimp only;rw[jQ]
 refine⟨v,fun i=>g' (sw a b i),he,?_,?_,?_,?_,?_⟩
 ·intro j cs cs' hj hj'
  obtain⟨c0,k1,rfl⟩:=im hj;obtain⟨c1,k2,rfl⟩:=im hj';obtain⟨k3,k4⟩:=h1 _ _ _ k1 k2;dsimp only at k3 ⊢;rw[jQ]at k3;rw[nA,nA];exact⟨k3,k4⟩
 ·intro j cs' hj
  obtain⟨c0,k1,rfl⟩:=im hj;obtain⟨k2,k3⟩:=h2 _ _ k1;rw[Eb];refine⟨k2,?_⟩;obtain⟨q1,q2,q3⟩:=Cr hab (sw a b j);have:=(CY (a:=a) (b:=b) (S:=Own S g' (sB l')) (g:=fun i=>g' (sw a b i)) (l:=l') (w:=w') (cs:=c0) (B:=g' (sw a b j)) q1 q2 q3).2 (by rw[hg];exact k3);rw[nW,hg];rw[jQ]at this;exact this
 ·intro i j ci cj hi hj e
  obtain⟨c0,k1,_⟩:=im hi;obtain⟨c1,k2,_⟩:=im hj;exact wG (h3 _ _ _ _ k1 k2 e)
 ·rw[Ry,nW,hg,CB,hg]
  exact h4
 ·rw[Eb];exact h5
theorem uj {fn:Func} {R R':Ending->World->Prop} (hR:∀e w,R e w->R' e w) {x:Exit} {a:Act} {w:World} (h:bodyPost P fn R x a w):bodyPost P fn R' x a w:=by
 cases x with
 |normal=>obtain⟨h1,v,h2,h3⟩:=h;exact⟨h1,v,h2,hR _ _ h3⟩
 |ret=>obtain⟨h1,v,h2,h3⟩:=h;exact⟨h1,v,h2,hR _ _ h3⟩
 |panic c=>exact⟨h.1,hR _ _ h.2⟩
 |outgrown=>exact hR _ _ h
 |exit i=>exact h
 |goto l=>exact h
theorem aw.swap (a b:Nat) (hab:nH a b=true) (h:aw P f ts l r l'):aw P f (ts.map (Ra a b)) (nY a b l) (Tq a b r) (nY a b l'):=by
 refine⟨h.enter,fun S g w vs hpre hv=>?_⟩;rw[nW,Ao]at hv;exact(h.calls S _ w vs (Kk hab hpre) hv).mono fun e w' hr=>G4 hab hr
theorem gH.swap (a b:Nat) (hab:nH a b=true) (h:gH P f ts l r l'):gH P f (ts.map (Ra a b)) (nY a b l) (Tq a b r) (nY a b l'):=by
 obtain⟨fn,c,h1,h2,h3⟩:=h.body;refine⟨h.enter,fn,c,h1,h2,fun S g w vs hpre hv=>?_⟩;rw[nW,Ao]at hv;exact wp_mono (h3 S _ w vs (Kk hab hpre) hv) fun e a w' hq=>uj (fun e w' hr=>G4 hab hr) hq
end
section
variable {P:Program} {T:TypeId->Option Ty} {n:Nat} {ops:Array Oper} {id:Nat} {draw:Bool} {K:AS->Prop} {s:AS} {k:Nat} {o:Oper} {os:List Oper} {fps:List FP}
end
theorem PD {S S':Nat->Prop} {g g':Nat->Nat} {s s':AS} {w:World} (hS:S=S'):∀{ds:List DV} {vs:List Value},nK S g s w (ds.map .d) vs->nK S' g' s' w (ds.map .d) vs
 | [],[],_=>trivial
 |d::ds,v::vs,h=>⟨by subst hS;exact h.1,PD hS h.2⟩
 | [],_::_,h=>h.elim
 |_::_,[],h=>h.elim
theorem aw.ren {P:Program} {f:FuncId} {j:Nat} {ds:List DV} {cs cs':List AV} {r:RV} (h:aw P f (.box j 0::ds.map .d) [(j,cs)] (.v r) [(j,cs')]) (j':Nat) (hw:bG j'=bG j) (hl:b5 j=false) (hl':b5 j'=false):aw P f (.box j' 0::ds.map .d) [(j',cs)] (.v r) [(j',cs')]:=by
 have ht:gN j'=false:=by
  cases e:gN j' with
  |false=>rfl
  |true=>rw[mV e]at hl';cases hl'
 have ht0:gN j=false:=by
  cases e:gN j with
  |false=>rfl
  |true=>rw[mV e]at hl;cases hl
 refine⟨h.enter,fun S g w vs hpre hv=>?_⟩;have hg:(fun i=>if i=j then g j' else g i) j=g j':=if_pos rfl;generalize hg1:(fun i=>if i=j then g j' else g i)=g1 at hg;have hO:Own S g1 (sB [(j,cs)])=Own S g (sB [(j',cs)]):=by rw[lf,lf,hg]
 have hX:BX g1 [(j,cs)]=BX g [(j',cs)]:=by rw[mg,mg,hg]
 have hpre1:EW S g1 w [(j,cs)]:=by
  refine⟨?_,?_,?_,?_,?_⟩
  ·rw[hX];exact hpre.tab
  ·rw[hX];exact hpre.blk
  ·rw[hO];exact hpre.gl
  ·intro i ci hi
   obtain⟨rfl,rfl⟩:=bd.1 hi;obtain⟨arr,e,h1,h2,h3,_,_⟩:=hpre.bm j' ci (bd.2 ⟨rfl,rfl⟩);rw[hO,hg];exact⟨arr,e,h1,h2,by rw[<- hw];exact h3,fun h=>(by rw[hl]at h;cases h),fun h=>(by rw[ht0]at h;cases h)⟩
  ·intro i i2 ci cj h1 h2 _
   rw[(bd.1 h1).1,(bd.1 h2).1]
 have hv1:nK (Own S g1 (sB [(j,cs)])) g1 (sB [(j,cs)]) w (.box j 0::ds.map .d) vs:=by
  cases vs with
  |nil=>exact hv.elim
  |cons v vs=>
   obtain⟨hb,hv⟩:=hv;refine⟨⟨⟨some cs,by rw[sB,av,ai]⟩,fun ci hi=>?_⟩,PD hO.symm hv⟩;rw[hg];exact hb.2 cs (bd.2 ⟨rfl,rfl⟩)
 refine(h.calls S g1 w vs hpre1 hv1).mono ?_;rintro e w' ⟨v,g',rfl,h1,h2,h3,h4,h5⟩;have hg2:(fun i=>if i=j' then g' j else g' i) j'=g' j:=if_pos rfl;generalize(fun i=>if i=j' then g' j else g' i)=g2 at hg2;have hO2:Own S g2 (sB [(j',cs')])=Own S g' (sB [(j,cs')]):=by rw[lf,lf,hg2]
 refine⟨v,g2,rfl,?_,?_,?_,?_,?_⟩
 ·intro i ci ci' hi hi'
  obtain⟨rfl,rfl⟩:=bd.1 hi;obtain⟨_,rfl⟩:=bd.1 hi';have:=h1 j ci ci' (bd.2 ⟨rfl,rfl⟩) (bd.2 ⟨rfl,rfl⟩);rw[hg2,this.1,hg];exact⟨rfl,this.2⟩
 ·intro i ci hi
  obtain⟨rfl,rfl⟩:=bd.1 hi;obtain⟨k1,arr,e,k2,k3,k4,_,_⟩:=h2 j ci (bd.2 ⟨rfl,rfl⟩);rw[hX]at k1;rw[hg2,hO2];exact⟨k1,arr,e,k2,k3,by rw[hw];exact k4,fun h=>(by rw[hl']at h;cases h),fun h=>(by rw[ht]at h;cases h)⟩
 ·intro i i2 ci cj k1 k2 _
  rw[(bd.1 k1).1,(bd.1 k2).1]
 ·rw[hO2]
  cases r with
  |one d=>exact h4
  |tup l=>exact h4
 ·rw[<- hX];exact h5
theorem l4:∀(x:Rx),ls x->fi x<=1000000->aa Tryz.prog 81 [dR x] (.one (dN .i64 (pO x))):=by
 refine ef fun op na xs nb ys nm args ih hx hs=>?_
 have hd0:=Is (.mk op na xs nb ys nm args);obtain⟨_,_,_,_,_,hlen,hargs⟩:=hx;rw[fi]at hs;rw[pO,fi]at hd0;refine Qe ?_;refine kV func81 ?_
 refine ay (Nat × Nat) (fun s=>s.1<=args.length/\s.2<=ll args/\max s.2 (ll (args.drop s.1))=ll args) (fun s=>⟨[(2, .d (dN .i64 0)),(3, .d (dN .i64 s.2)),(7, .d (.leaf (.sl args.length (dY args)))),(8, .d (dN .i64 args.length)),(9, .d (dN .i64 s.1))],[]⟩) (fun s=>args.length-s.1) (0,0) ⟨Nat.zero_le _,Nat.zero_le _,Nat.zero_max _⟩
  kw ?_
 rintro⟨i,d⟩ ⟨hi,h1,h2⟩;dsimp only at hi h1 h2 ⊢;refine kI ?_
 by_cases hlt:i<args.length
 ·refine kT ?_
  obtain⟨o1,na1,xs1,nb1,ys1,nm1,n1,cs1,hA⟩:=aM args[i];have hx:args[i]? =some args[i]:=by simp[hlt]
  have hat:∀(j:Nat) (a:AV),(ab o1 na1 xs1 nb1 ys1 nm1 n1 cs1)[j]? =some a->(dY args)[i*7+j]? =some a:=fun j a h=>dP args i args[i] hx j a (by rw[hA];exact h)
  have hm:=List.getElem_mem hlt;have hsz:=mU hm;have hdp:=wR hm;have c:=ih args[i] hm (hargs _ hm) (by omega);rw[show dR args[i]= .agg (ab o1 na1 xs1 nb1 ys1 nm1 n1 cs1) from congrArg DV.agg hA]at c;rw[List.drop_eq_getElem_cons hlt,ll]at h2;generalize pO args[i]=k at *;refine GL ?_;refine PT (a:=d) (b:=k) (m:=(max d k:Nat)) (by omega) rfl rfl rfl rfl rfl rfl ?_;refine kW ?_;exact⟨(i+1,max d k),⟨hlt,by dsimp only;omega,by dsimp only;omega⟩,by dsimp only;omega,weak ⟨rfl,rfl,rfl,rfl,an (by omega) (by omega),trivial⟩ trivial rfl⟩
 ·exact zM
theorem ii:∀(f:Nat) (m:Md) (ts:List Tk) (e:Ex) (r:List Tk),pP f m ts=some (.ok (e,r))-> ∀t∈r,t∈ts
 |0,_,_,_,_,h=>by cases h
 |f+1, .sum,ts,e,r,h=>by
  rw[jL]at h;exact G3
 |f+1, .prod,ts,e,r,h=>by
  rw[gZ]at h;exact G3
 |f+1, .more two e0,ts,e,r,h=>by
  rw[eW]at h
  split at h
  ·rename_i k r1 h0
   split at h
   ·rename_i e1 r2 h1
    exact fun t ht=>yo h0 t (ii f _ _ _ _ h1 t (ii f _ _ _ _ h t ht))
   ·exact LP
  ·cases h;exact fun t ht=>ht
 |f+1, .un,ts,e,r,h=>by
  rw[kl]at h
  split at h
  ·rename_i r1 h0
   split at h
   ·rename_i e1 r2 h1
    cases h;exact fun t ht=>gg h0 t (ii f _ _ _ _ h1 t ht)
   ·exact LP
  ·exact ii f _ _ _ _ h
 |f+1, .prim,ts,e,r,h=>by
  rw[fC]at h
  split at h
  ·rename_i r1 h0
   split at h
   ·rename_i e1 r2 h1
    split at h
    ·rename_i r3 h2
     cases h;exact fun t ht=>gg h0 t (ii f _ _ _ _ h1 t (gg h2 t ht))
    ·cases h
   ·exact LP
  ·split at h
   ·rename_i t r1 _
    split at h
    ·injection h with h
     obtain⟨q,u,_,_,hsub⟩:=x9 h;exact fun t ht=>List.mem_cons_of_mem _ (hsub t ht)
    ·exact Ih
   ·cases h
theorem fV {E:Nat}:∀(f:Nat) (m:Md) (ts:List Tk) (x:lN),fj ts->(∀t∈ts,t.2.2<=E)->pP f m ts=some x->(match x with
  | .ok (_,r)=>fj r
  | .error (p,c)=>p<=E/\c≠0)
 |0,_,_,_,_,_,h=>by cases h
 |f+1, .sum,ts,x,hw,hE,h=>by
  rw[jL]at h;exact Nv
 |f+1, .prod,ts,x,hw,hE,h=>by
  rw[gZ]at h;exact Nv
 |f+1, .more two e0,ts,x,hw,hE,h=>by
  rw[eW]at h;obtain⟨t,r,rfl⟩:=hw.ne
  split at h
  ·rename_i k r1 h0
   obtain⟨rfl,h4,_⟩:=p9 h0;have hw2:=hw.tail (by omega);have hE2:∀t∈r1,t.2.2<=E:=fun t ht=>hE t (List.mem_cons_of_mem _ ht)
   split at h
   ·rename_i e1 r2 h1
    have a:=fV f _ _ _ hw2 hE2 h1;have hsub:=ii f _ _ _ _ h1;exact fV f _ _ _ a (fun t ht=>hE2 t (hsub t ht)) h
   ·exact fV f _ _ _ hw2 hE2 h
  ·cases h;exact hw
 |f+1, .un,ts,x,hw,hE,h=>by
  rw[kl]at h;obtain⟨t,r,rfl⟩:=hw.ne
  split at h
  ·rename_i r1 h0
   obtain⟨rfl,h4⟩:=nS h0;have hw2:=hw.tail (by omega);have hE2:∀t∈r1,t.2.2<=E:=fun t ht=>hE t (List.mem_cons_of_mem _ ht)
   split at h
   ·rename_i e1 r2 h1
    have a:=fV f _ _ _ hw2 hE2 h1;cases h;exact a
   ·exact fV f _ _ _ hw2 hE2 h
  ·exact fV f _ _ _ hw hE h
 |f+1, .prim,ts,x,hw,hE,h=>by
  rw[fC]at h;obtain⟨t,r,rfl⟩:=hw.ne
  split at h
  ·rename_i r1 h0
   obtain⟨rfl,h4⟩:=nS h0;have hw2:=hw.tail (by omega);have hE2:∀t∈r1,t.2.2<=E:=fun t ht=>hE t (List.mem_cons_of_mem _ ht)
   split at h
   ·rename_i e1 r2 h1
    have a:=fV f _ _ _ hw2 hE2 h1;have a:fj r2:=a;have hsub:=ii f _ _ _ _ h1;obtain⟨u,r3,rfl⟩:=a.ne
    split at h
    ·rename_i r4 h2
     obtain⟨rfl,h5⟩:=nS h2;cases h;exact a.tail (by omega)
    ·cases h
     exact⟨hE2 _ (hsub u (by simp)),by decide⟩
   ·exact fV f _ _ _ hw2 hE2 h
  ·dsimp only at h
   have ht:=hE t (by simp)
   split at h
   ·rename_i h2
    have hw2:=hw.tail (by omega)
    injection h with h
    unfold jB at h
    split at h
    ·subst h;exact⟨ht,by decide⟩
    ·split at h
     ·subst h;exact⟨ht,by decide⟩
     ·split at h
      ·split at h
       ·subst h;exact hw2.tail (by omega)
       ·subst h;exact hw2
      ·subst h;exact hw2
   ·split at h
    ·cases h;exact hw.tail (by omega)
    ·cases h;exact⟨ht,by decide⟩
theorem aw.ren0 {P:Program} {f:FuncId} {j:Nat} {cs cs':List AV} {r:RV} (h:aw P f [.box j 0] [(j,cs)] (.v r) [(j,cs')]) (j':Nat) (hw:bG j'=bG j) (hl:b5 j=false) (hl':b5 j'=false):aw P f [.box j' 0] [(j',cs)] (.v r) [(j',cs')]:=aw.ren (ds:=[]) h j' hw hl hl'
theorem aw.ren1 {P:Program} {f:FuncId} {j:Nat} {d:DV} {cs cs':List AV} {r:RV} (h:aw P f [.box j 0, .d d] [(j,cs)] (.v r) [(j,cs')]) (j':Nat) (hw:bG j'=bG j) (hl:b5 j=false) (hl':b5 j'=false):aw P f [.box j' 0, .d d] [(j',cs)] (.v r) [(j',cs')]:=aw.ren (ds:=[d]) h j' hw hl hl'
noncomputable def Fj (T:List Tk) (b:Int) (E:Nat):Except (Nat × Int) Ex:=match pP (5*T.length+5) .sum T with
 |some (.ok (e,t::_))=>if t.1≠0 then .error (t.2.2,2)else if b≠0 then .error (E,b)else if pO (rx e)<=40 then .ok e else .error (J0 T,3)
 |some (.error (p,c))=> .error (p,VK E b p c)
 |_=> .error (0,2)
noncomputable def M2 (s:List UInt8):Except (Nat × Int) Ex:=match iU (s.length+1) s 0 []with
 | .ok T=>Fj T 0 s.length
 | .error (a,b)=>match iU ((s.take a).length+1) (s.take a) 0 []with
  | .ok T=>Fj T b a
  | .error _=> .error (0,2)
noncomputable def FR (x:Except (Nat × Int) Ex):RV:=match x with
 | .ok e=> .tup [dE e,dN .i64 0,dN .i64 0]
 | .error (p,c)=> .tup [dR z7,dN .i64 p,dN .i64 c]
structure Ia (T:List Tk) (E:Nat):Prop where
 w:fj T
 z:Ve E T
 s:∀t∈T,t.2.1.length<=65536
 l:T.length<=999999
theorem Ia.le {T:List Tk} {E:Nat} (h:Ia T E):∀t∈T,t.2.2<=E:=fun t ht=>by
 by_cases h0:t.1=0
 ·exact Nat.le_of_eq ((h.z t ht).1 h0)
 ·exact Nat.le_of_lt ((h.z t ht).2 h0)
theorem qY (T:List Tk):∃x,pP (5*T.length+5) .sum T=some x:=Rw _ .sum T (Nat.le_refl _)
theorem Lh {T:List Tk} {E:Nat} (hT:Ia T E) {e:Ex} {r:List Tk} {f:Nat} (h:pP f .sum T=some (.ok (e,r))):ls (rx e)/\fi (rx e)<=1000000/\fj r/\ ∀t∈r,t∈T:=by
 have a:=jR _ _ _ _ _ hT.s (fun _ _ h=>by cases h) h;have b:=fV (E:=E) _ _ _ _ hT.w hT.le h;have:=a.2.2;have:=hT.l;exact⟨a.1,by dsimp only at *;omega,b,a.2.1⟩
theorem yF (s:List UInt8) (T:List Tk) (cT:aa Tryz.prog 77 [dL s] (DD (.ok T))) (hT:Ia T s.length):aa Tryz.prog 35 [dL s] (FR (Fj T 0 s.length)):=by
 have cT:aa Tryz.prog 77 [dL s] (.tup [.leaf (.sl T.length (ga T)),dN .i64 0,dN .i64 0]):=cT;obtain⟨x,hx⟩:=qY T;have cs:=(HI 0 _).sum T x hT.w hx;unfold Fj;rw[hx];cases x with
 |ok z=>
  obtain⟨e,r⟩:=z;obtain⟨hwx,hsz,hwr,hsub⟩:=Lh hT hx;obtain⟨t,r,rfl⟩:=hwr.ne;have cs:=cs.1.ren0 4002 rfl rfl rfl;have cn:=(dh t r 0 0).ren0 4002 rfl rfl rfl;have cf:=(j8 t r 0 2).ren1 4002 rfl rfl rfl;have cd:=l4 (rx e) hwx hsz;dsimp only;obtain⟨o1,na1,xs1,nb1,ys1,nm1,n1,cs1,hA⟩:=aY e;rw[show dR (rx e)= .agg (ab o1 na1 xs1 nb1 ys1 nm1 n1 cs1) from congrArg DV.agg hA]at cd;have hE:dE e= .agg (ab o1 na1 xs1 nb1 ys1 nm1 n1 cs1):=congrArg DV.agg hA;rw[hE]at cs
  by_cases h0:t.1=0
  ·rw[if_neg (fun h=>h h0),if_neg (fun h=>h rfl)]
   by_cases hd:pO (rx e)<=40
   ·rw[if_pos hd]
    unfold FR;dsimp only;rw[hE];refine JN ?_;refine uk ?_;refine kW ?_;refine kC (cd) ?_;refine kE ?_;exact ap
   ·rw[if_neg hd]
    obtain⟨t0,r0,rfl⟩:=hT.w.ne;unfold FR;dsimp only;refine JN ?_;refine uk ?_;refine kW ?_;refine kC (cd) ?_;refine kX ?_
    refine aG (i:=0) (cs':=Bw t0) (Nat.zero_lt_succ _) (fun j a h=>by
     rw[Nat.zero_mul,Nat.zero_add];show(Bw t0++ga r0)[j]? =some a;rw[List.getElem?_append_left (List.getElem?_eq_some_iff.1 h).1];exact h) (Nat.zero_lt_succ 2) rfl rfl rfl rfl rfl rfl rfl rfl ?_
    exact ap
  ·rw[if_pos h0]
   unfold FR;dsimp only;refine JN ?_;refine pU ?_;refine kW ?_;refine kD (cf) ?_;exact ap
 |error z=>
  obtain⟨p,c⟩:=z;obtain⟨hc,y,ts',cs,hw⟩:=cs;obtain⟨t,r,rfl⟩:=hw.ne;have cs:=cs.ren0 4002 rfl rfl rfl;have cn:=(dh t r p c).ren0 4002 rfl rfl rfl;have cf:=(ze t r p c 2 hc).ren1 4002 rfl rfl rfl;obtain⟨o1,na1,xs1,nb1,ys1,nm1,n1,cs1,hA⟩:=aM y;rw[show dR y= .agg (ab o1 na1 xs1 nb1 ys1 nm1 n1 cs1) from congrArg DV.agg hA]at cs;dsimp only;rw[S6];unfold FR;dsimp only
  by_cases h0:t.1=0
  ·refine JN ?_
   refine uk ?_;refine kG ?_
   refine kO4 ?_
   refine kB true ?_ ?_
   ·exact(by simp[hc])
   exact ap
  ·refine JN ?_
   refine pU ?_;refine kW ?_;refine kD (cf) ?_;refine kG ?_
   refine kO4 ?_
   refine kB true ?_ ?_
   ·exact(by simp[hc])
   exact ap
theorem qT:∀(f:Nat) (r:List UInt8) (at_:Nat) (acc L:List Tk),iU f r at_ acc= .ok L->L.length<=acc.length+r.length+1
 |0,_,_,_,_,h=>by cases h
 |f+1,[],at_,acc,L,h=>by
  rw[iU]at h;cases h
  simp
 |f+1,c::r,at_,acc,L,h=>by
  rw[iU]at h
  split at h
  ·have:=qT f _ _ _ _ h
   simp only[List.length_cons];omega
  ·split at h
   ·cases h
   ·split at h
    ·cases h
    ·have:=qT f _ _ _ _ h
     have hl:=HO (c::r)
     simp only[List.length_append,List.length_cons,List.length_nil,List.length_drop]at this hl ⊢
     omega
end Go.Proofs.YtnchbpoopnjghaaGreatDoor
