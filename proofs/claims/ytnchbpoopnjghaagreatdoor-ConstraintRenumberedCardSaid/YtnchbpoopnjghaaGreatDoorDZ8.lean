/- Parts of a proof: contracts of the functions that the laws reach. -/
import Derived.Test.YtnchbpoopnjghaaGreatDoorDZ7
set_option maxHeartbeats 100000000
set_option linter.all false
open Go.Proofs.Tryz
namespace Go.Proofs.YtnchbpoopnjghaaGreatDoor
open Go.RowKit
theorem Fl {t:List UInt8} {q:Rat} (hl:t.length<=500) (h:iN t=some q):dA 510 q:=by
 by_cases hok:jy false (fJ t)
 ·rw[K5 hok]at h
  have hpl:=Jd t
  have hrl:(fJ t).length+(jz t).length=t.length:=by
   have:=congrArg List.length (r8 t);rw[List.length_append]at this;omega
  have sp:Sz (fJ t).length (num (fJ t):Int):=eX (rM t);generalize jz t=r at h hrl;generalize num (fJ t)=n at h sp;cases r with
  |nil=>
   have:q=((n:Int):Rat):=by
    have h:some ((n:Int):Rat)=some q:=h;exact(Option.some.inj h).symm
   subst this;exact⟨sp.mono (by omega),(Sz.small (z:=1) (by decide)).mono (by decide)⟩
  |cons c b=>
   have hbl:(fJ t).length+b.length<=499:=by simp at hrl;omega
   by_cases h46:c=46
   ·by_cases hb:b≠[]/\ ∀x∈b,gb x
    ·rw[PO h46 hb]at h
     cases h
     have sN:Sz 510 ((n*10^b.length+num b:Nat):Int):=by
      have h1:Sz 501 ((n:Int)*10^b.length):=Sz.of_pow sp (by omega);have h2:=Sz.add h1 ((eX hb.2).mono (by omega));have h3:Sz 510 ((n:Int)*10^b.length+(num b:Int)):=Sz.mono h2 (by decide);rw[Int.natCast_add,Int.natCast_mul,Int.natCast_pow];exact h3
     have sD:Sz 510 ((10^b.length:Nat):Int):=Qj (by omega);have:0<10^b.length:=Nat.pow_pos (by decide)
     exact .divInt sN sD (by omega)
    ·rw[SF h46 hb]at h;cases h
   ·by_cases h47:c=47
    ·by_cases hb:jy false b/\num b≠0/\num b≠1/\Nat.gcd n (num b)=1
     ·rw[OX h47 hb]at h
      cases h;exact .divInt (sp.mono (by omega)) ((eX hb.1.2.1).mono (by omega)) (by have:=hb.2.1;omega)
     ·rw[RZ h47 hb]at h;cases h
    ·rw[Rc h46 h47]at h;cases h
 ·unfold iN at h
  rw[if_neg hok]at h;cases h
theorem Ao {s:List UInt8} {q:Rat} (hl5:s.length<=500) (h:fS s=some q):dA 510 q:=by
 unfold fS at h
 split at h
 ·rename_i hl
  have hd:=pI s;cases hp:iN (mE s)with
  |none=>rw[hp]at h;simp at h
  |some r=>
   have hs:=Fl (by omega) hp;rw[hp]at h
   simp only at h
   split at h
   ·split at h
    ·cases h
    ·cases h;exact hs.neg
   ·cases h;exact hs
 ·cases h
theorem DW (t u:Tk) (r:List Tk) (a:Int) (ht:t.1=2) (hT:eZ (t::u::r)):Rd 281 (t::u::r) a (ic t (u::r)):=by
 have ht5:=hT.head.2 ht;have hw:eZ (u::r):=hT.tail (by omega);cases hq:fS t.2.1 with
 |none=>
  have hP:ic t (u::r)= .error (t.2.2,2):=by unfold ic;rw[hq]
  have cp:=yc hq;rw[hP];refine⟨by decide, .mk 0 false [] false [] [] [],t::u::r,?_,hT⟩;refine Jr ?_;refine gI ?_;refine Jm ?_;refine kD (j9 t (u::r) a 2) ?_;exact jt
 |some q=>
  have cp:=Ak hq;obtain⟨tx,cd,_⟩:=it (Ao ht5 hq) (by decide);cases hd:fT q with
  |none=>
   have hP:ic t (u::r)= .error (t.2.2,3):=by unfold ic;rw[hq];dsimp only;rw[hd]
   rw[hd]at cd;have cd:aa Tryz.prog 125 [dQ q] (.tup [dL tx,dB false]):=cd;rw[hP];refine⟨by decide, .mk 0 false [] false [] [] [],t::u::r,?_,hT⟩;refine Jr ?_;refine gI ?_;refine Jm ?_;refine kQ (cd) ?_;refine kD (j9 t (u::r) a 3) ?_;exact jt
  |some z=>
   rw[hd]at cd;have cd:aa Tryz.prog 125 [dQ q] (.tup [dL tx,dB true]):=cd
   by_cases h1:u.1=1
   ·have hP:ic t (u::r)= .ok (.num q u.2.1,r):=by unfold ic;rw[hq];dsimp only;rw[hd];dsimp only;rw[if_pos h1]
    rw[hP];refine⟨?_,hw.tail (by omega)⟩;refine Nn ?_;refine Em ?_;refine kD (jm u r a 0) ?_;exact jt
   ·have hP:ic t (u::r)= .ok (.num q [],u::r):=by unfold ic;rw[hq];dsimp only;rw[hd];dsimp only;rw[if_neg h1]
    rw[hP];refine⟨?_,hw⟩;refine Nn ?_;refine kO ?_;refine kE ?_;exact jt
def ya:Bool->List UInt8
 |false=>[43,45]
 |true=>[42,47]
def OM:Bool->List (Value × Value)
 |false=>[(.string ⟨#[43]⟩, .int .i64 4),(.string ⟨#[45]⟩, .int .i64 5)]
 |true=>[(.string ⟨#[42]⟩, .int .i64 6),(.string ⟨#[47]⟩, .int .i64 7)]
theorem IY (a b c:UInt8):(0<=Lib.indexByte [a,b] c)↔(c=a∨c=b):=by
 rw[zC]
 simp
theorem GA (a c:UInt8):(0<=Lib.indexByte [a] c)↔c=a:=by
 rw[zC]
 simp
theorem Sa (two:Bool) (t:Tk) (r:List Tk):(decide (t.1=4) && El (ya two) t)=(iL two (t::r)).isSome:=by
 obtain⟨k,x,p⟩:=t
 by_cases h4:k=4
 ·subst h4
  match x with
  | []=>cases two<;>rfl
  |c::d::y=>cases two<;>rfl
  | [c]=>
   cases two
   ·show decide (0<=Lib.indexByte [43,45] c)=_
    by_cases h1:c=43
    ·subst h1;rfl
    ·by_cases h2:c=45
     ·subst h2;rfl
     ·rw[decide_eq_false (by rw[IY];simp[h1,h2])]
      simp[iL,Ek,h1,h2]
   ·show decide (0<=Lib.indexByte [42,47] c)=_
    by_cases h1:c=42
    ·subst h1;rfl
    ·by_cases h2:c=47
     ·subst h2;rfl
     ·rw[decide_eq_false (by rw[IY];simp[h1,h2])]
      simp[iL,Ek,h1,h2]
 ·simp[iL,h4]
theorem p7 {two:Bool} {t:Tk} {r r2:List Tk} {k:B4} (h:iL two (t::r)=some (k,r2)):r2=r/\t.1=4/\ ∃c,t.2.1=[c]/\Sb ⟨#[c]⟩ (OM two)=some (.int .i64 k.code):=by
 obtain⟨k4,x,p⟩:=t
 simp only[iL]at h
 split at h
 ·rename_i h4
  split at h
  ·rename_i k' hk
   cases h;refine⟨rfl,h4,?_⟩
   match x,hk with
   | [],hk=>cases two<;>cases hk
   |c::d::y,hk=>cases two<;>cases hk
   | [c],hk=>
    cases two
    ·exact Mm
    ·exact Mm
  ·cases h
 ·cases h
theorem zV (c:UInt8) (t:Tk) (r:List Tk):(decide (t.1=4) && El [c] t)=(dj c (t::r)).isSome:=by
 obtain⟨k,x,p⟩:=t
 by_cases h4:k=4
 ·subst h4
  match x with
  | []=>simp[El,dj]
  |b::d::y=>simp[El,dj]
  | [b]=>
   show decide (0<=Lib.indexByte [c] b)=_
   by_cases h:b=c
   ·subst h;rw[decide_eq_true ((GA b b).2 rfl)];simp[dj]
   ·rw[decide_eq_false (by rw[GA];exact h)];simp[dj,h]
 ·simp[dj,h4]
theorem nR {c:UInt8} {t:Tk} {r r2:List Tk} (h:dj c (t::r)=some r2):r2=r/\t.1=4:=by
 simp only[dj]at h
 split at h
 ·rename_i h1;cases h;exact⟨rfl,h1.1⟩
 ·cases h
def Ri (fid:FuncId) (ts:List Tk) (a:Int) (Y:Rx × List Tk):my->Prop
 | .ok (e,r)=>au Tryz.prog fid [.box 900 0] [(900,fw ts a 0)] (.v (.one (dE e))) [(900,fw r a 0)]/\eZ r
 | .error (p,c)=>c≠0/\au Tryz.prog fid [.box 900 0] [(900,fw ts a 0)] (.v (.one (dR Y.1))) [(900,fw Y.2 p c)]/\eZ Y.2
theorem D7 {fid:FuncId} {a:Int} {g:List Tk->Option my} (h:∀ts x,eZ ts->g ts=some x->Rd fid ts a x):∃Y:List Tk->Rx × List Tk,∀ts x,eZ ts->g ts=some x->Ri fid ts a (Y ts) x:=by
 have:∀ts:List Tk,∃Y:Rx × List Tk,∀x,eZ ts->g ts=some x->Ri fid ts a Y x:=fun ts=>by
  by_cases hw:eZ ts
  ·cases hg:g ts with
   |none=>exact⟨(.mk 0 false [] false [] [] [],[]),fun x _ hx=>by cases hx⟩
   |some x=>
    have hx:=h ts x hw hg;cases x with
    |ok y=>exact⟨(.mk 0 false [] false [] [] [],[]),fun x _ hx'=>by cases hx';exact hx⟩
    |error y=>
     obtain⟨hc,y1,ts1,h1,h2⟩:=hx;exact⟨(y1,ts1),fun x _ hx'=>by cases hx';exact⟨hc,h1,h2⟩⟩
  ·exact⟨(.mk 0 false [] false [] [] [],[]),fun x hw'=>absurd hw' hw⟩
 obtain⟨Y,hY⟩:=Classical.axiomOfChoice this;exact⟨Y,fun ts x hw hx=>hY ts x hw hx⟩
noncomputable def gB (two:Bool) (Y:List Tk->Rx × List Tk):Nat->Ex->List Tk->Rx × List Tk
 |0,e,ts=>(rx e,ts)
 |f+1,e,ts=>match iL two ts with
  |some (k,r)=>match pP f (jl two) r with
   |some (.ok (e2,r2))=>gB two Y f (.bin k e e2) r2
   |_=>(.mk k.code false [] false [] [] [rx e,(Y r).1],(Y r).2)
  |none=>(rx e,ts)
inductive LS where
 |run (f:Nat) (e:Ex) (ts:List Tk)
 |bad (y:Rx) (ts:List Tk) (p c:Int)
def LS.c1:LS->List AV
 | .run _ e _=>aE e
 | .bad y _ _ _=>aR y
def LS.c2 (a:Int):LS->List AV
 | .run _ _ ts=>fw ts a 0
 | .bad _ ts p c=>fw ts p c
def bS (two:Bool) (fop:FuncId) (c1 c2:List AV):AS:=⟨[(0, .box 900 0),(1, .d (dL (ya two))),(2, .mp (OM two)),(3, .clo (.func fop) [.box 900 0] []),(8, .box 0 0),(9, .box 1002 0)],[(0,some (ab 0 false [] false [] [] 0 [])),(1002,some c1),(900,some c2)]⟩
abbrev OT (two:Bool) (fop:FuncId):List TV:=[.box 900 0, .d (dL (ya two)), .mp (OM two), .clo (.func fop) [.box 900 0] []]
def Uu (two:Bool) (fop:FuncId) (ts:List Tk) (a:Int):my->Prop
 | .ok (e,r)=>au Tryz.prog 120 (OT two fop) [(900,fw ts a 0)] (.v (.one (dE e))) [(900,fw r a 0)]/\eZ r
 | .error (p,c)=>c≠0/\ ∃y ts',au Tryz.prog 120 (OT two fop) [(900,fw ts a 0)] (.v (.one (dR y))) [(900,fw ts' p c)]/\eZ ts'
def LS.I (two:Bool) (Y:List Tk->Rx × List Tk) (f:Nat) (a:Int) (D:DV) (B:List AV):LS->Prop
 | .run f' e ts=>eZ ts/\f'<=f/\ ∃x',pP f' (.more two e) ts=some x'/\(match x' with
  | .ok (e',r')=>D=dE e'/\B=fw r' a 0
  | .error (p,c)=>D=dR (gB two Y f' e ts).1/\B=fw (gB two Y f' e ts).2 p c)
 | .bad y ts p c=>eZ ts/\c≠0/\D=dR y/\B=fw ts p c
def LS.mu:LS->Nat
 | .run f _ _=>f+1
 | .bad _ _ _ _=>0
theorem DD (k:B4) (e:Ex) (y:Rx):aR (.mk k.code false [] false [] [] [rx e,y])=[.val (.int .i64 k.code)]++jq++[.val (vL []), .sl 2 (aE e++aR y)]:=by
 show [.val (.int .i64 k.code)]++zc false [] false []++[.val (vL []), .sl 2 (aR (rx e)++(aR y++[]))]=_;rw[List.append_nil];rfl
theorem M8 (two:Bool) (fop:FuncId) (f:Nat) (a:Int) (Y:List Tk->Rx × List Tk) (hY:∀ts x,eZ ts->pP f (jl two) ts=some x->Ri fop ts a (Y ts) x) (ts:List Tk) (hT:eZ ts) {e0:Ex} {r0:List Tk} (h0:pP f (jl two) ts=some (.ok (e0,r0)))
 {D:DV} {B:List AV} (hB:B.length=3) (hI:LS.I two Y f a D B (.run f e0 r0)):au Tryz.prog 120 (OT two fop) [(900,fw ts a 0)] (.v (.one D)) [(900,B)]:=by
 obtain⟨c0,hw0⟩:=hY ts _ hT h0;obtain⟨t,r,hr⟩:=hw0.ne;obtain⟨o1,na1,xs1,nb1,ys1,nm1,n1,cs1,hA⟩:=bd e0;have hE:dE e0= .agg (ab o1 na1 xs1 nb1 ys1 nm1 n1 cs1):=congrArg DV.agg hA;rw[hE]at c0;refine aM ah cX func120 rfl rfl rfl rfl rfl ((di.one (Nat.le_of_eq hB.symm))) ?_;refine kW ?_;refine kZ (c0) ?_
 refine ax LS (LS.I two Y f a D B) (fun x=>bS two fop x.c1 (x.c2 a)) LS.mu (.run f e0 r0) hI (by
  refine Eq.mpr (congrArg (fun c=>aU _ (bS two fop c (fw r0 a 0))) hA) ?_;exact weak ⟨rfl,rfl,rfl,rfl,rfl,rfl,trivial⟩ ⟨rfl,rfl,rfl,trivial⟩ rfl) ?_
 intro x hx;cases x with
 |bad y ts1 p c=>
  obtain⟨hw,hc,rfl,rfl⟩:=hx;obtain⟨t,r,rfl⟩:=hw.ne;obtain⟨o1,na1,xs1,nb1,ys1,nm1,n1,cs1,hA⟩:=aN y;have cis:=rU (ya two) t r p c hw.head.1;rw[decide_eq_false hc,Bool.false_and]at cis;rw[show dR y= .agg (ab o1 na1 xs1 nb1 ys1 nm1 n1 cs1) from congrArg DV.agg hA];show fq _ _ _ _ _ (bS two fop (aR y) (fw (t::r) p c));rw[hA];unfold bS;refine kW ?_;refine kD (cis) ?_;exact jt
 |run f' e ts1=>
  obtain⟨hw,hf,x',hx,hD⟩:=hx;obtain⟨t,r,rfl⟩:=hw.ne;obtain⟨o1,na1,xs1,nb1,ys1,nm1,n1,cs1,hA⟩:=bd e;have cis:=rU (ya two) t r a 0 hw.head.1;rw[decide_eq_true rfl,Bool.true_and,Sa]at cis;show fq _ _ _ _ _ (bS two fop (aE e) (fw (t::r) a 0));rw[hA];cases f' with
  |zero=>cases hx
  |succ f'=>
  rw[eG]at hx;cases ho:iL two (t::r)with
  |none=>
   rw[ho]at hx cis;cases hx;obtain⟨rfl,rfl⟩:=hD;rw[show dE e= .agg (ab o1 na1 xs1 nb1 ys1 nm1 n1 cs1) from congrArg DV.agg hA];have cis:au Tryz.prog 169 [.box 900 0, .d (dL (ya two))] [(900,fw (t::r) a 0)] (.v (.one (dB false))) [(900,fw (t::r) a 0)]:=cis;unfold bS;refine kW ?_;refine kD (cis) ?_;exact jt
  |some q=>
   obtain⟨k,r2⟩:=q;obtain⟨rfl,h4,c,hc,hl⟩:=p7 ho;rw[ho]at hx cis;have cis:au Tryz.prog 169 [.box 900 0, .d (dL (ya two))] [(900,fw (t::r2) a 0)] (.v (.one (dB true))) [(900,fw (t::r2) a 0)]:=cis;have hw2:eZ r2:=hw.tail (by omega);obtain⟨k4,tx,p0⟩:=t;dsimp only at h4 hc;subst h4 hc;dsimp only at hx;cases hy:pP f' (jl two) r2 with
   |none=>rw[hy]at hx;cases hx
   |some y=>
    have cy:=hY r2 y hw2 (Fs (by omega) hy);rw[hy]at hx;cases y with
    |error z=>
     obtain⟨p,c1⟩:=z;cases hx;obtain⟨hc1,cy,hw3⟩:=cy
     have hg:gB two Y (f'+1) e ((4,[c],p0)::r2)=(.mk k.code false [] false [] [] [rx e,(Y r2).1],(Y r2).2):=by
      rw[gB,ho];dsimp only;rw[hy]
     rw[hg]at hD;obtain⟨o2,na2,xs2,nb2,ys2,nm2,n2,cs2,hA2⟩:=aN (Y r2).1;have hbad:=DD k e (Y r2).1;rw[hA,hA2]at hbad;rw[show dR (Y r2).1= .agg (ab o2 na2 xs2 nb2 ys2 nm2 n2 cs2) from congrArg DV.agg hA2]at cy;generalize hY2:(Y r2).2=ts2 at *;unfold bS;refine Hf ?_;refine ND ?_;refine⟨.bad (.mk k.code false [] false [] [] [rx e,(Y r2).1]) ts2 p c1,⟨hw3,hc1,hD.1,hD.2⟩,Nat.succ_pos _,?_⟩;refine Eq.mpr (congrArg (fun c=>aU _ (bS two fop c (fw ts2 p c1))) hbad) ?_;exact kw
    |ok z=>
     obtain⟨e2,r3⟩:=z;obtain⟨cy,hw3⟩:=cy;have hx:pP f' (.more two (.bin k e e2)) r3=some x':=hx
     have hg:gB two Y (f'+1) e ((4,[c],p0)::r2)=gB two Y f' (.bin k e e2) r3:=by
      rw[gB,ho];dsimp only;rw[hy]
     rw[hg]at hD;obtain⟨o2,na2,xs2,nb2,ys2,nm2,n2,cs2,hA2⟩:=bd e2;have hbin:=jV k e e2;rw[hA,hA2]at hbin;rw[show dE e2= .agg (ab o2 na2 xs2 nb2 ys2 nm2 n2 cs2) from congrArg DV.agg hA2]at cy;unfold bS;refine Hf ?_;refine ND ?_;refine⟨.run f' (.bin k e e2) r3,⟨hw3,by omega,x',hx,hD⟩,by show f'+1<f'+1+1;omega,?_⟩;refine Eq.mpr (congrArg (fun c=>aU _ (bS two fop c (fw r3 a 0))) hbin) ?_;exact kw
theorem FG {two:Bool} {fop:FuncId} {f:Nat} {a:Int} {Y:List Tk->Rx × List Tk} (hY:∀ts x,eZ ts->pP f (jl two) ts=some x->Ri fop ts a (Y ts) x):∀(f':Nat) (e:Ex) (ts:List Tk) (e':Ex) (r':List Tk),f'<=f->eZ ts->pP f' (.more two e) ts=some (.ok (e',r'))->eZ r'
 |0,_,_,_,_,_,_,h=>by cases h
 |f'+1,e,ts,e',r',hf,hw,h=>by
  rw[eG]at h;obtain⟨t,r,rfl⟩:=hw.ne;cases ho:iL two (t::r)with
  |none=>rw[ho]at h;cases h;exact hw
  |some q=>
   obtain⟨k,r2⟩:=q;obtain⟨rfl,h4,_⟩:=p7 ho;have hw2:eZ r2:=hw.tail (by omega);rw[ho]at h;dsimp only at h ⊢;cases hy:pP f' (jl two) r2 with
   |none=>rw[hy]at h;cases h
   |some y=>
    have cy:=hY r2 y hw2 (Fs (by omega) hy);rw[hy]at h;cases y with
    |error z=>cases h
    |ok z=>exact FG hY f' _ _ e' r' (by omega) cy.2 h
theorem BH {two:Bool} {fop:FuncId} {f:Nat} {a:Int} {Y:List Tk->Rx × List Tk} (hY:∀ts x,eZ ts->pP f (jl two) ts=some x->Ri fop ts a (Y ts) x):∀(f':Nat) (e:Ex) (ts:List Tk) (p:Nat) (c:Int),f'<=f->eZ ts->pP f' (.more two e) ts=some (.error (p,c))->c≠0/\eZ (gB two Y f' e ts).2
 |0,_,_,_,_,_,_,h=>by cases h
 |f'+1,e,ts,p,c,hf,hw,h=>by
  rw[eG]at h;rw[gB];obtain⟨t,r,rfl⟩:=hw.ne;cases ho:iL two (t::r)with
  |none=>rw[ho]at h;cases h
  |some q=>
   obtain⟨k,r2⟩:=q;obtain⟨rfl,h4,_⟩:=p7 ho;have hw2:eZ r2:=hw.tail (by omega);rw[ho]at h;dsimp only at h ⊢;cases hy:pP f' (jl two) r2 with
   |none=>rw[hy]at h;cases h
   |some y=>
    have cy:=hY r2 y hw2 (Fs (by omega) hy);rw[hy]at h;cases y with
    |error z=>cases h;exact⟨cy.1,cy.2.2⟩
    |ok z=>exact BH hY f' _ _ p c (by omega) cy.2 h
theorem uB (two:Bool) (fop:FuncId) (f:Nat) (a:Int) (hop:∀ts x,eZ ts->pP f (jl two) ts=some x->Rd fop ts a x) (ts:List Tk) (x:my) (hT:eZ ts) (hx:(match pP f (jl two) ts with
  |some (.ok (e,r))=>pP f (.more two e) r
  |y=>y)=some x):Uu two fop ts a x:=by
 obtain⟨Y,hY⟩:=D7 hop;cases h0:pP f (jl two) ts with
 |none=>rw[h0]at hx;cases hx
 |some y0=>
  rw[h0]at hx;have c0:=hY ts y0 hT h0;cases y0 with
  |error z=>
   cases hx;obtain⟨p,c⟩:=z;obtain⟨hc,c0,hw⟩:=c0;refine⟨hc,(Y ts).1,(Y ts).2,?_,hw⟩;generalize(Y ts).1=y at *;generalize(Y ts).2=ts' at *;obtain⟨t,r,rfl⟩:=hw.ne;obtain⟨o1,na1,xs1,nb1,ys1,nm1,n1,cs1,hA⟩:=aN y;rw[show dR y= .agg (ab o1 na1 xs1 nb1 ys1 nm1 n1 cs1) from congrArg DV.agg hA]at c0 ⊢;have cis:=rU (ya two) t r p c hw.head.1;rw[decide_eq_false hc,Bool.false_and]at cis;refine aM ah cX func120 rfl rfl rfl rfl rfl (fQ) ?_;refine kW ?_;refine kZ (c0) ?_;refine ax Unit (fun _=>True) (fun _=>bS two fop (ab o1 na1 xs1 nb1 ys1 nm1 n1 cs1) (fw (t::r) p c)) (fun _=>0) () trivial kw ?_;rintro _ _;unfold bS;refine kW ?_;refine kD (cis) ?_;exact jt
  |ok z=>
   obtain⟨e,r⟩:=z;have hx:pP f (.more two e) r=some x:=hx;cases x with
   |ok w=>
    obtain⟨e',r'⟩:=w;exact⟨M8 two fop f a Y hY ts hT h0 (B:=fw r' a 0) rfl ⟨c0.2,Nat.le_refl _,_,hx,rfl,rfl⟩,FG hY f e r e' r' (Nat.le_refl _) c0.2 hx⟩
   |error w=>
    obtain⟨p,c⟩:=w;obtain⟨hc,hw⟩:=BH hY f e r p c (Nat.le_refl _) c0.2 hx;exact⟨hc,_,_,M8 two fop f a Y hY ts hT h0 (B:=fw _ p c) rfl ⟨c0.2,Nat.le_refl _,_,hx,rfl,rfl⟩,hw⟩
structure QY (f:Nat) (a:Int):Prop where
 sum:∀ts x,eZ ts->pP f .sum ts=some x->Rd 78 ts a x
 prod:∀ts x,eZ ts->pP f .prod ts=some x->Rd 121 ts a x
 un:∀ts x,eZ ts->pP f .un ts=some x->Rd 171 ts a x
 prim:∀ts x,eZ ts->pP f .prim ts=some x->Rd 229 ts a x
theorem P1 {f:Nat} {a:Int} (ih:∀ts x,eZ ts->pP f .prod ts=some x->Rd 121 ts a x) (ts:List Tk) (x:my) (hT:eZ ts) (hx:pP (f+1) .sum ts=some x):Rd 78 ts a x:=by
 have h:=uB false 121 f a ih ts x hT (by rw[jf]at hx;exact hx);cases x with
 |ok z=>
  obtain⟨e,r⟩:=z;obtain⟨h,hw⟩:=h;refine⟨?_,hw⟩;obtain⟨o1,na1,xs1,nb1,ys1,nm1,n1,cs1,hA⟩:=bd e;rw[show dE e= .agg (ab o1 na1 xs1 nb1 ys1 nm1 n1 cs1) from congrArg DV.agg hA]at h ⊢;exact Nt
 |error z=>
  obtain⟨p,c⟩:=z;obtain⟨hc,y,ts',h,hw⟩:=h;refine⟨hc,y,ts',?_,hw⟩;obtain⟨o1,na1,xs1,nb1,ys1,nm1,n1,cs1,hA⟩:=aN y;rw[show dR y= .agg (ab o1 na1 xs1 nb1 ys1 nm1 n1 cs1) from congrArg DV.agg hA]at h ⊢;exact Nt
theorem KY {f:Nat} {a:Int} (ih:∀ts x,eZ ts->pP f .un ts=some x->Rd 171 ts a x) (ts:List Tk) (x:my) (hT:eZ ts) (hx:pP (f+1) .prod ts=some x):Rd 121 ts a x:=by
 have h:=uB true 171 f a ih ts x hT (by rw[gc]at hx;exact hx);cases x with
 |ok z=>
  obtain⟨e,r⟩:=z;obtain⟨h,hw⟩:=h;refine⟨?_,hw⟩;obtain⟨o1,na1,xs1,nb1,ys1,nm1,n1,cs1,hA⟩:=bd e;rw[show dE e= .agg (ab o1 na1 xs1 nb1 ys1 nm1 n1 cs1) from congrArg DV.agg hA]at h ⊢;exact NJ
 |error z=>
  obtain⟨p,c⟩:=z;obtain⟨hc,y,ts',h,hw⟩:=h;refine⟨hc,y,ts',?_,hw⟩;obtain⟨o1,na1,xs1,nb1,ys1,nm1,n1,cs1,hA⟩:=aN y;rw[show dR y= .agg (ab o1 na1 xs1 nb1 ys1 nm1 n1 cs1) from congrArg DV.agg hA]at h ⊢;exact NJ
theorem EO (y:Rx):aR (.mk 3 false [] false [] [] [y])=[.val (.int .i64 3)]++jq++[.val (vL []), .sl 1 (aR y)]:=by
 show [.val (.int .i64 3)]++zc false [] false []++[.val (vL []), .sl 1 (aR y++[])]=_;rw[List.append_nil];rfl
theorem Ss {f:Nat} {a:Int} (ih:∀ts x,eZ ts->pP f .un ts=some x->Rd 171 ts a x) (ih2:∀ts x,eZ ts->pP f .prim ts=some x->Rd 229 ts a x) (ts:List Tk) (x:my) (hT:eZ ts) (hx:pP (f+1) .un ts=some x):Rd 171 ts a x:=by
 obtain⟨t,r,rfl⟩:=hT.ne;rw[mD]at hx;have cis:=rU [45] t r a 0 hT.head.1;rw[decide_eq_true rfl,Bool.true_and,zV]at cis;cases hs:dj 45 (t::r)with
 |some r2=>
  obtain⟨rfl,h4⟩:=nR hs;rw[hs]at hx cis;have cis:au Tryz.prog 169 [.box 900 0, .d (dL [45])] [(900,fw (t::r2) a 0)] (.v (.one (dB true))) [(900,fw (t::r2) a 0)]:=cis;have hw2:eZ r2:=hT.tail (by omega);dsimp only at hx;cases hy:pP f .un r2 with
  |none=>rw[hy]at hx;cases hx
  |some y=>
   have cy:=ih r2 y hw2 hy;rw[hy]at hx;cases y with
   |ok z=>
    obtain⟨e,r3⟩:=z;cases hx;obtain⟨cy,hw3⟩:=cy;refine⟨?_,hw3⟩;obtain⟨o1,na1,xs1,nb1,ys1,nm1,n1,cs1,hA⟩:=bd e;rw[show dE (.neg e)= .agg ([.val (.int .i64 3)]++jq++[.val (vL []), .sl 1 (aE e)]) from congrArg DV.agg (nV e),hA];rw[show dE e= .agg (ab o1 na1 xs1 nb1 ys1 nm1 n1 cs1) from congrArg DV.agg hA]at cy;exact Oh
   |error z=>
    cases hx;obtain⟨p,c⟩:=z;obtain⟨hc,y,ts',cy,hw3⟩:=cy;refine⟨hc, .mk 3 false [] false [] [] [y],ts',?_,hw3⟩;obtain⟨o1,na1,xs1,nb1,ys1,nm1,n1,cs1,hA⟩:=aN y;rw[show dR (.mk 3 false [] false [] [] [y])= .agg ([.val (.int .i64 3)]++jq++[.val (vL []), .sl 1 (aR y)]) from congrArg DV.agg (EO y),hA];rw[show dR y= .agg (ab o1 na1 xs1 nb1 ys1 nm1 n1 cs1) from congrArg DV.agg hA]at cy;exact Oh
 |none=>
  rw[hs]at hx cis;have cis:au Tryz.prog 169 [.box 900 0, .d (dL [45])] [(900,fw (t::r) a 0)] (.v (.one (dB false))) [(900,fw (t::r) a 0)]:=cis;have cy:=ih2 (t::r) x hT hx;cases x with
  |ok z=>
   obtain⟨e,r3⟩:=z;obtain⟨cy,hw3⟩:=cy;refine⟨?_,hw3⟩;obtain⟨o1,na1,xs1,nb1,ys1,nm1,n1,cs1,hA⟩:=bd e;rw[show dE e= .agg (ab o1 na1 xs1 nb1 ys1 nm1 n1 cs1) from congrArg DV.agg hA]at cy ⊢;refine Je ?_;refine Hf ?_;refine kD (cy) ?_;exact jt
  |error z=>
   obtain⟨p,c⟩:=z;obtain⟨hc,y,ts',cy,hw3⟩:=cy;refine⟨hc,y,ts',?_,hw3⟩;obtain⟨o1,na1,xs1,nb1,ys1,nm1,n1,cs1,hA⟩:=aN y;rw[show dR y= .agg (ab o1 na1 xs1 nb1 ys1 nm1 n1 cs1) from congrArg DV.agg hA]at cy ⊢;refine Je ?_;refine Hf ?_;refine kD (cy) ?_;exact jt
def z7:Rx:= .mk 0 false [] false [] [] []
theorem L7 {f:Nat} {a:Int} (ih:∀ts x,eZ ts->pP f .sum ts=some x->Rd 78 ts a x) (ts:List Tk) (x:my) (hT:eZ ts) (hx:pP (f+1) .prim ts=some x):Rd 229 ts a x:=by
 obtain⟨t,r,rfl⟩:=hT.ne;rw[fZ]at hx;have cis:=rU [40] t r a 0 hT.head.1;rw[decide_eq_true rfl,Bool.true_and,zV]at cis;cases hs:dj 40 (t::r)with
 |some r2=>
  obtain⟨rfl,h4⟩:=nR hs;rw[hs]at hx cis;have cis:au Tryz.prog 169 [.box 900 0, .d (dL [40])] [(900,fw (t::r2) a 0)] (.v (.one (dB true))) [(900,fw (t::r2) a 0)]:=cis;have hw2:eZ r2:=hT.tail (by omega);dsimp only at hx;cases hy:pP f .sum r2 with
  |none=>rw[hy]at hx;cases hx
  |some y=>
   have cy:=ih r2 y hw2 hy;rw[hy]at hx;cases y with
   |error z=>
    cases hx;obtain⟨p,c⟩:=z;obtain⟨hc,y,ts',cy,hw3⟩:=cy;refine⟨hc,z7,ts',?_,hw3⟩;obtain⟨u,r4,rfl⟩:=hw3.ne;obtain⟨o1,na1,xs1,nb1,ys1,nm1,n1,cs1,hA⟩:=aN y;rw[show dR y= .agg (ab o1 na1 xs1 nb1 ys1 nm1 n1 cs1) from congrArg DV.agg hA]at cy;have cis2:=rU [41] u r4 p c hw3.head.1;rw[decide_eq_false hc,Bool.false_and]at cis2;refine Pc ?_;refine kD (xT u r4 p c 2 hc) ?_;exact jt
   |ok z=>
    obtain⟨e,r3⟩:=z;obtain⟨cy,hw3⟩:=cy;obtain⟨u,r4,rfl⟩:=hw3.ne;obtain⟨o1,na1,xs1,nb1,ys1,nm1,n1,cs1,hA⟩:=bd e;rw[show dE e= .agg (ab o1 na1 xs1 nb1 ys1 nm1 n1 cs1) from congrArg DV.agg hA]at cy;have cis2:=rU [41] u r4 a 0 hw3.head.1;rw[decide_eq_true rfl,Bool.true_and,zV]at cis2;dsimp only at hx;cases hs2:dj 41 (u::r4)with
    |some r5=>
     obtain⟨rfl,h4'⟩:=nR hs2;rw[hs2]at hx cis2;cases hx;refine⟨?_,hw3.tail (by omega)⟩;rw[show dE e= .agg (ab o1 na1 xs1 nb1 ys1 nm1 n1 cs1) from congrArg DV.agg hA];have cis2:au Tryz.prog 169 [.box 900 0, .d (dL [41])] [(900,fw (u::r5) a 0)] (.v (.one (dB true))) [(900,fw (u::r5) a 0)]:=cis2;refine Pc ?_;refine kD (jm u r5 a 0) ?_;exact jt
    |none=>
     rw[hs2]at hx cis2;cases hx;refine⟨by decide,z7,u::r4,?_,hw3⟩;have cis2:au Tryz.prog 169 [.box 900 0, .d (dL [41])] [(900,fw (u::r4) a 0)] (.v (.one (dB false))) [(900,fw (u::r4) a 0)]:=cis2;refine Pc ?_;refine kD (j9 u r4 a 2) ?_;exact jt
 |none=>
  rw[hs]at hx cis;dsimp only at hx;have cis:au Tryz.prog 169 [.box 900 0, .d (dL [40])] [(900,fw (t::r) a 0)] (.v (.one (dB false))) [(900,fw (t::r) a 0)]:=cis
  by_cases h2:t.1=2
  ·rw[if_pos h2]at hx
   cases hx;obtain⟨u,r4,rfl⟩:=(hT.tail (by omega)).ne;have cn:=DW t u r4 a h2 hT;cases hP:ic t (u::r4)with
   |ok z=>
    obtain⟨e,r3⟩:=z;rw[hP]at cn;obtain⟨cy,hw3⟩:=cn;refine⟨?_,hw3⟩;obtain⟨o1,na1,xs1,nb1,ys1,nm1,n1,cs1,hA⟩:=bd e;rw[show dE e= .agg (ab o1 na1 xs1 nb1 ys1 nm1 n1 cs1) from congrArg DV.agg hA]at cy ⊢;exact Nj
   |error z=>
    obtain⟨p,c⟩:=z;rw[hP]at cn;obtain⟨hc,y,ts',cy,hw3⟩:=cn;refine⟨hc,y,ts',?_,hw3⟩;obtain⟨o1,na1,xs1,nb1,ys1,nm1,n1,cs1,hA⟩:=aN y;rw[show dR y= .agg (ab o1 na1 xs1 nb1 ys1 nm1 n1 cs1) from congrArg DV.agg hA]at cy ⊢;exact Nj
  ·rw[if_neg h2]at hx
   by_cases h1:t.1=1
   ·rw[if_pos h1]at hx
    cases hx;refine⟨?_,hT.tail (by omega)⟩;refine PN ?_;refine kD (cZ t r a 0) ?_;refine Af ?_;refine kD (cZ t r a 0) ?_;refine Em ?_;refine kD (jm t r a 0) ?_;exact jt
   ·rw[if_neg h1]at hx
    cases hx;refine⟨by decide,z7,t::r,?_,hT⟩;refine PN ?_;refine kD (cZ t r a 0) ?_;refine Af ?_;refine kD (cZ t r a 0) ?_;refine Af ?_;refine kZ (cis) ?_;refine kD (j9 t r a 2) ?_;exact jt
theorem Hu (a:Int):∀f,QY f a
 |0=>⟨fun _ _ _ h=>(by cases h),fun _ _ _ h=>(by cases h),fun _ _ _ h=>(by cases h),fun _ _ _ h=>(by cases h)⟩
 |f+1=>by
  have ih:=Hu a f;exact⟨fun ts x hT hx=>P1 ih.prod ts x hT hx,fun ts x hT hx=>KY ih.un ts x hT hx,fun ts x hT hx=>Ss ih.un ih.prim ts x hT hx,fun ts x hT hx=>L7 ih.sum ts x hT hx⟩
section
variable {P:Program} {T:TypeId->Option Ty} {n:Nat} {ops:Array Oper} {id:Nat} {draw:Bool} {K:AS->Prop} {s:AS} {k:Nat} {o:Oper} {os:List Oper} {fps:List FP}
theorem rA:∀(b c:BL),(∀x∈c,x∈b)->cU b c=[]
 |_,[],_=>rfl
 |b,(j,cs)::r,h=>by
  rw[cU]
  have hj:(ak (ar b) j).isSome:=by
   have hm:=h (j,cs) (by simp);clear h
   induction b with
   |nil=>cases hm
   |cons y l ih=>
    obtain⟨i,ci⟩:=y
    by_cases e:i=j
    ·subst e;rw[ar,ai];rfl
    ·rw[ar,ap _ _ e]
     rcases List.mem_cons.1 hm with h|h
     ·cases h;exact absurd rfl e
     ·exact ih h
  cases hl:ak (ar b) j with
  |none=>rw[hl]at hj;cases hj
  |some x=>exact rA b r (fun x hx=>h x (List.mem_cons_of_mem _ hx))
theorem xj {s:AS}:∀{b:BL},p6 s (ar b)-> ∀j,ak (ar b++s.b) j=ak s.b j
 | [],_,_=>rfl
 |(i,cs)::r,h,j=>by
  have h1:s.bx i=some cs:=h.1;have h2:p6 s (ar r):=h.2
  by_cases e:i=j
  ·subst e
   rw[ar,List.cons_append,ai];unfold AS.bx at h1
   split at h1
   ·rename_i x hx;cases h1;exact hx.symm
   ·cases h1
  ·rw[ar,List.cons_append,ap _ _ e];exact xj h2 j
theorem me {f:Operand} {fid:FuncId} {args:Array Operand} {tys:Array TypeId} {ts:List TV} {b:BL} {r:RT} (hc:au P fid ts b r b) (h1:gd ops s o=some true) (ho:o.op= .call ⟨.value f,args,tys⟩) (hcl:vb s f args.toList=some (fid,ts)) (hone:tl s f=true)
 (hk:(BU (ar b) (ts.flatMap dw) && sI (ar b) (ar b))=true) (hb:p6 s (ar b)) (hcn:dt [] s.b=true) (hnew:lH s b b=true) (h3:aG n o.dst=true) (h4:eY draw ops (az ops o ⟨r.tv,none⟩ (b.map (·.1))) k fps=true)
 (h:aq P T n ops id draw K (k+1) os (s.eff o.dst ⟨r.tv,none⟩) (az ops o ⟨r.tv,none⟩ (b.map (·.1))::fps)):aq P T n ops id draw K k (o::os) s fps:=by
 refine .run h1 (.genC (iK hcn) fun s2 hc2 ht hrb=>?_) h3 h4 h;have hf:s2.ev f=s.ev f:=aw ht (by rw[ho];simp[Op.operands,Call.operands]);have hcl2:=rz (s':=s2) (s:=s) (f:=f) (args:=args.toList) hf (fun x hx=>aw ht (by rw[ho];simp[Op.operands,Call.operands];exact .inr (by simpa using hx)));have hone2:tl s2 f=true:=by unfold tl at hone ⊢;rw[hf];exact hone
 have hb2:=kH hrb hb;have:=oz hc ho (hcl2.trans hcl) hone2 hk hb2 (fun j cs hj _=>hc2 j cs hj) ((iM hrb).trans hnew);intro n S0 w0 g a w K Q hM hd hK;refine this n S0 w0 g a w K Q hM hd fun g' a' w' hM'=>hK g' a' w' (hM'.ext (fun k=>?_) (fun j=>?_))
 ·cases o.dst<;>rfl
 ·rw[rA b b (fun _ h=>h),List.append_nil]
  exact(xj hb2 j).symm
end
def Uo (E:Nat) (b:Int) (p:Nat) (c:Int):Int:=if p=E/\b≠0 then b else c
def Pe (E:Nat) (ts:List Tk):Prop:=∀t∈ts,(t.1=0->t.2.2=E)/\(t.1≠0->t.2.2<E)
theorem Ry {E:Nat} {p:Nat} {c:Int}:Uo E 0 p c=c:=if_neg (fun e=>e.2 rfl)
theorem wL {two:Bool} {ts r:List Tk} {k:B4} (h:iL two ts=some (k,r)):∀t∈r,t∈ts:=by
 cases ts with
 |nil=>cases h
 |cons t r'=>
  simp only[iL]at h
  split at h
  ·exact H0
  ·cases h
theorem gk {c:UInt8} {ts r:List Tk} (h:dj c ts=some r):∀t∈r,t∈ts:=by
 cases ts with
 |nil=>cases h
 |cons t r'=>
  simp only[dj]at h
  exact H0
theorem y4 {t:Tk} {r r2:List Tk} {e:Ex} (h:ic t r= .ok (e,r2)):∃q u,e= .num q u/\(u=[]∨ ∃v∈r,u=v.2.1)/\ ∀x∈r2,x∈r:=by
 unfold ic at h
 split at h
 ·cases h
 ·rename_i q _
  split at h
  ·cases h
  ·split at h
   ·rename_i v r'
    split at h
    ·cases h;exact⟨q,_,rfl, .inr ⟨v,by simp,rfl⟩,fun x hx=>List.mem_cons_of_mem _ hx⟩
    ·cases h;exact⟨q,_,rfl, .inl rfl,fun x hx=>hx⟩
   ·cases h;exact⟨q,_,rfl, .inl rfl,fun x hx=>hx⟩
theorem gW:Wd []:=fun x hx=>by cases hx
theorem jK:∀(f:Nat) (m:Md) (ts:List Tk) (e:Ex) (r:List Tk),(∀t∈ts,t.2.1.length<=65536)->(∀two e0,m= .more two e0->lV (rx e0))->pP f m ts=some (.ok (e,r)) ->
 lV (rx e)/\(∀t∈r,t∈ts)/\fW (rx e)+r.length<=ts.length+(match m with| .more _ e0=>fW (rx e0)|_=>0)
 |0,_,_,_,_,_,_,h=>by cases h
 |f+1, .sum,ts,e,r,hs,hm,h=>by
  rw[jf]at h
  split at h
  ·rename_i e1 r1 h1
   exact No
  ·exact mR
 |f+1, .prod,ts,e,r,hs,hm,h=>by
  rw[gc]at h
  split at h
  ·rename_i e1 r1 h1
   exact No
  ·exact mR
 |f+1, .more two e0,ts,e,r,hs,hm,h=>by
  rw[eG]at h
  split at h
  ·rename_i k r1 h0
   have hl:=q7 h0;have hsub:=wL h0
   split at h
   ·rename_i e1 r2 h1
    have a:=jK f _ _ _ _ (fun t ht=>hs t (hsub t ht)) (fun _ _ h=>by cases two<;>cases h) h1
    have hb:lV (rx (.bin k e0 e1)):= .mk (by cases k<;>decide) (by cases k<;>decide) gW gW (by decide) (by simp) (fun x hx=>by
     rcases List.mem_cons.1 hx with rfl|hx
     ·exact hm two e0 rfl
     ·cases List.mem_singleton.1 hx;exact a.1)
    have b:=jK f _ _ _ _ (fun t ht=>hs t (hsub t (a.2.1 t ht))) (fun _ _ h=>by cases h;exact hb) h;refine⟨b.1,fun t ht=>hsub t (a.2.1 t (b.2.1 t ht)),?_⟩;have h1:=a.2.2;have h2:=b.2.2;have h3:fW (rx (.bin k e0 e1))=fW (rx e0)+fW (rx e1)+1:=by simp[rx,fW,eg]
    cases two<;>dsimp only[jl]at * <;>omega
   ·exact mR
  ·cases h;exact⟨hm two _ rfl,fun t ht=>ht,by dsimp only;omega⟩
 |f+1, .un,ts,e,r,hs,hm,h=>by
  rw[mD]at h
  split at h
  ·rename_i r1 h0
   have hl:=eE h0;have hsub:=gk h0
   split at h
   ·rename_i e1 r2 h1
    have a:=jK f _ _ _ _ (fun t ht=>hs t (hsub t ht)) (fun _ _ h=>by cases h) h1;cases h;have h3:fW (rx (.neg e1))=fW (rx e1)+1:=by simp[rx,fW,eg]
    refine⟨.mk (by decide) (by decide) gW gW (by decide) (by simp) (fun x hx=>by cases List.mem_singleton.1 hx;exact a.1),fun t ht=>hsub t (a.2.1 t ht),?_⟩;have:=a.2.2;dsimp only at *;omega
   ·exact mR
  ·have a:=jK f _ _ _ _ hs (fun _ _ h=>by cases h) h
   exact a
 |f+1, .prim,ts,e,r,hs,hm,h=>by
  rw[fZ]at h
  split at h
  ·rename_i r1 h0
   have hl:=eE h0;have hsub:=gk h0
   split at h
   ·rename_i e1 r2 h1
    have a:=jK f _ _ _ _ (fun t ht=>hs t (hsub t ht)) (fun _ _ h=>by cases h) h1
    split at h
    ·rename_i r3 h2
     have b:=eE h2;cases h;refine⟨a.1,fun t ht=>hsub t (a.2.1 t (gk h2 t ht)),?_⟩;have:=a.2.2;dsimp only at *;omega
    ·cases h
   ·exact mR
  ·split at h
   ·rename_i t r1 _
    split at h
    ·injection h with h
     have h2:=xc h;obtain⟨q,u,rfl,hu,hsub⟩:=y4 h;refine⟨.mk (by decide) (by decide) (ac _) (ac _) ?_ (by decide) (fun x hx=>by cases hx),fun t ht=>List.mem_cons_of_mem _ (hsub t ht),?_⟩
     ·rcases hu with rfl| ⟨v,hv,rfl⟩
      ·decide
      ·have:=hs v (List.mem_cons_of_mem _ hv);omega
     ·simp[rx,fW,eg];omega
    ·split at h
     ·cases h
      refine⟨.mk (by decide) (by decide) gW gW ?_ (by decide) (fun x hx=>by cases hx),fun t ht=>List.mem_cons_of_mem _ ht,?_⟩
      ·have:=hs t (by simp);omega
      ·simp[rx,fW,eg];omega
     ·cases h
   ·cases h
theorem a8 {j i:Nat} {cs ci:List AV}:(sB [(j,cs)]).bx i=some ci↔i=j/\ci=cs:=by
 rw[bI]
 by_cases e:j=i
 ·subst e
  rw[ar,ai]
  constructor
  ·intro h;cases h;exact⟨rfl,rfl⟩
  ·rintro⟨_,rfl⟩;rfl
 ·rw[ar,ap _ _ e]
  constructor
  ·intro h;cases h
  ·rintro⟨h,_⟩;exact absurd h.symm e
theorem ks {S:Nat->Prop} {g:Nat->Nat} {j:Nat} {cs:List AV}:Own S g (sB [(j,cs)])=fun q=>S q∨g j=q:=by
 funext q
 unfold Own;refine propext ⟨?_,?_⟩
 ·rintro(h| ⟨i,ci,h,e⟩)
  ·exact .inl h
  ·obtain⟨rfl,_⟩:=a8.1 h;exact .inr e
 ·rintro(h|e)
  ·exact .inl h
  ·exact .inr ⟨j,cs,a8.2 ⟨rfl,rfl⟩,e⟩
theorem lP {g:Nat->Nat} {j:Nat} {cs:List AV}:BX g [(j,cs)]=fun q=>g j=q:=by
 funext q
 unfold BX;refine propext ⟨?_,?_⟩
 ·rintro⟨i,ci,h,e⟩
  obtain⟨rfl,_⟩:=a8.1 h;exact e
 ·intro e;exact⟨j,cs,a8.2 ⟨rfl,rfl⟩,e⟩
def sw (a b j:Nat):Nat:=if j=a then b else if j=b then a else j
theorem jS (a b j:Nat):sw a b (sw a b j)=j:=by
 unfold sw
 split <;>split <;>(try split)<;>omega
theorem u9 {a b i j:Nat} (h:sw a b i=sw a b j):i=j:=by
 have:=congrArg (sw a b) h
 rwa[jS,jS]at this
def Qv (a b:Nat):AV->AV
 | .ow j n k e=> .ow (sw a b j) n k e
 | .bp j o=> .bp (sw a b j) o
 |x=>x
def uk (a b j:Nat) (cs:List AV):List AV:=match bW j with
 |true=>cs.map (Qv a b)
 |false=>cs
def nO (a b:Nat):BL->BL
 | []=>[]
 |(j,cs)::r=>(sw a b j,uk a b j cs)::nO a b r
def Tn (a b:Nat):CV->CV
 | .val v=> .val v
 | .box j o=> .box (sw a b j) o
def Pj (a b:Nat):TV->TV
 | .box j o=> .box (sw a b j) o
 | .own j n k e=> .own (sw a b j) n k e
 | .vw j o n k=> .vw (sw a b j) o n k
 | .vs j o n c k e=> .vs (sw a b j) o n c k e
 | .clo fn fs cs=> .clo fn (fs.map (Tn a b)) (cs.map (Tn a b))
 |x=>x
def Tc (a b:Nat):RT->RT
 | .own j n k e=> .own (sw a b j) n k e
 | .v r=> .v r
theorem nh (a b j:Nat) (cs:List AV):(uk a b j cs).length=cs.length:=by
 unfold uk;split <;>simp
theorem OY (a b:Nat) (r:RT):(Tc a b r).tv=Pj a b r.tv:=by
 cases r with
 |own=>rfl
 |v r=>cases r<;>rfl
theorem pL {a b:Nat}:∀(l:BL) (j:Nat),ak (ar (nO a b l)) (sw a b j)=(ak (ar l) j).map fun o=>o.map (uk a b j)
 | [],_=>rfl
 |(i,cs)::r,j=>by
  by_cases e:i=j
  ·subst e
   rw[nO,ar,ar,ai,ai];rfl
  ·rw[nO,ar,ar,ap _ _ e,ap _ _ (fun h=>e (u9 h))]
   exact pL r j
theorem Gv {a b:Nat} (l:BL) (j:Nat):ak (ar (nO a b l)) j=(ak (ar l) (sw a b j)).map fun o=>o.map (uk a b (sw a b j)):=by
 have:=pL (a:=a) (b:=b) l (sw a b j)
 rwa[jS]at this
theorem oT {a b:Nat} {l:BL} {j:Nat} {cs:List AV} (h:(sB l).bx j=some cs):(sB (nO a b l)).bx (sw a b j)=some (uk a b j cs):=by
 rw[bI]at h ⊢;rw[pL,h];rfl
theorem ij {a b:Nat} {l:BL} {j:Nat} {cs:List AV} (h:(sB (nO a b l)).bx j=some cs):∃c0,(sB l).bx (sw a b j)=some c0/\cs=uk a b (sw a b j) c0:=by
 rw[bI,Gv]at h;cases hl:ak (ar l) (sw a b j)with
 |none=>rw[hl]at h;cases h
 |some o=>
  rw[hl]at h;cases o with
  |none=>cases h
  |some c0=>
   simp only[Option.map_some,Option.some.injEq]at h
   exact⟨c0,bI.2 hl,h.symm⟩
theorem uy {a b:Nat} {l:BL} {j:Nat}:(sB (nO a b l)).kn (sw a b j)↔(sB l).kn j:=by
 unfold AS.kn sB;dsimp only;rw[pL]
 constructor
 ·rintro⟨x,h⟩
  cases hl:ak (ar l) j with
  |none=>rw[hl]at h;cases h
  |some o=>exact⟨o,rfl⟩
 ·rintro⟨x,h⟩
  rw[h];exact⟨_,rfl⟩
theorem nK {a b:Nat} {S:Nat->Prop} {g:Nat->Nat} {l:BL}:Own S g (sB (nO a b l))=Own S (fun j=>g (sw a b j)) (sB l):=by
 funext q
 refine propext ⟨?_,?_⟩
 ·rintro(h| ⟨j,cs,h,e⟩)
  ·exact .inl h
  ·obtain⟨c0,h0,_⟩:=ij h
   exact .inr ⟨sw a b j,c0,h0,by dsimp only;rw[jS];exact e⟩
 ·rintro(h| ⟨j,cs,h,e⟩)
  ·exact .inl h
  ·exact .inr ⟨sw a b j,_,oT h,e⟩
theorem BD {a b:Nat} {g:Nat->Nat} {l:BL}:BX g (nO a b l)=BX (fun j=>g (sw a b j)) l:=by
 funext q
 refine propext ⟨?_,?_⟩
 ·rintro⟨j,cs,h,e⟩
  obtain⟨c0,h0,_⟩:=ij h;exact⟨sw a b j,c0,h0,by dsimp only;rw[jS];exact e⟩
 ·rintro⟨j,cs,h,e⟩
  exact⟨sw a b j,_,oT h,e⟩
section
variable {a b:Nat} {S:Nat->Prop} {g:Nat->Nat} {l:BL} {w:World}
theorem Ox {x:CV} {v:Value}:CV.M g (sB (nO a b l)) (Tn a b x) v↔CV.M (fun j=>g (sw a b j)) (sB l) x v:=by
 cases x with
 |val u=>exact Iff.rfl
 |box j o=>
  constructor
  ·rintro⟨h1,h2⟩
   exact⟨uy.1 h1,fun cs hc=>h2 _ (oT hc)⟩
  ·rintro⟨h1,h2⟩
   refine⟨uy.2 h1,fun cs hc=>?_⟩;obtain⟨c0,h0,_⟩:=ij hc;rw[jS]at h0;exact h2 c0 h0
theorem qf:∀{xs:List CV} {vs:List Value},pv g (sB (nO a b l)) (xs.map (Tn a b)) vs↔pv (fun j=>g (sw a b j)) (sB l) xs vs
 | [],[]=>Iff.rfl
 |x::xs,v::vs=>and_congr Ox qf
 | [],_::_=>Iff.rfl
 |_::_,[]=>Iff.rfl
theorem C4 {x:TV} {v:Value}:TV.M S g (sB (nO a b l)) w (Pj a b x) v↔TV.M S (fun j=>g (sw a b j)) (sB l) w x v:=by
 cases x with
 |d x=>exact Iff.rfl
 |tup ts=>exact Iff.rfl
 |box j o=>exact Ox (x:= .box j o)
 |rp cs=>exact Iff.rfl
 |own j n k e=>
  exact Mo
 |clo fn fs cs=>
  constructor
  ·rintro⟨us,vs,e,h1,h2⟩;exact⟨us,vs,e,qf.1 h1,qf.1 h2⟩
  ·rintro⟨us,vs,e,h1,h2⟩;exact⟨us,vs,e,qf.2 h1,qf.2 h2⟩
 |mp es=>exact Iff.rfl
 |nil=>exact Iff.rfl
 |und=>exact Iff.rfl
 |junk=>exact Iff.rfl
 |dfr f cs=>exact Iff.rfl
 |vw j o n k=>
  exact Mo
 |vs j o n c k e=>
  constructor
  ·rintro⟨h1,h2⟩
   exact⟨uy.1 h1,fun cs hc=>h2 _ (oT hc)⟩
  ·rintro⟨h1,h2⟩
   refine⟨uy.2 h1,fun cs hc=>?_⟩;obtain⟨c0,h0,rfl⟩:=ij hc;rw[jS]at h0;exact h2 c0 h0
theorem A6:∀{xs:List TV} {vs:List Value},ny S g (sB (nO a b l)) w (xs.map (Pj a b)) vs↔ny S (fun j=>g (sw a b j)) (sB l) w xs vs
 | [],[]=>Iff.rfl
 |x::xs,v::vs=>and_congr C4 A6
 | [],_::_=>Iff.rfl
 |_::_,[]=>Iff.rfl
theorem NA {x:AV} {v:Value}:wA S g (sB (nO a b l)) w (Qv a b x) v↔wA S (fun j=>g (sw a b j)) (sB l) w x v:=by
 cases x with
 |ow j n k e=>exact C4 (S:=S) (w:=w) (x:= .own j n k e)
 |bp j o=>exact C4 (S:=S) (w:=w) (x:= .box j o)
 |val=>exact Iff.rfl
 |sl=>exact Iff.rfl
 |nl=>exact Iff.rfl
theorem Nx {x:AV} {v:Value}:AV.M S w (Qv a b x) v↔AV.M S w x v:=by
 cases x with
 |ow j n k e=>constructor <;>(intro h;cases h;exact .ow (by assumption))
 |bp j o=>constructor <;>(intro h;cases h;exact .bp (by assumption))
 |val=>exact Iff.rfl
 |sl=>exact Iff.rfl
 |nl=>exact Iff.rfl
theorem CB {j i:Nat} {cs:List AV} {x:AV} (h:(uk a b j cs)[i]? =some x):∃y,cs[i]? =some y/\ ∀(v:Value),(AV.M S w x v↔AV.M S w y v)/\(bW j=true->x=Qv a b y):=by
 unfold uk at h
 split at h
 ·rw[List.getElem?_map]at h
  cases hc:cs[i]? with
  |none=>rw[hc]at h;cases h
  |some y=>
   rw[hc]at h;cases h;exact⟨y,rfl,fun v=>⟨Nx,fun _=>rfl⟩⟩
 ·rename_i hl
  exact⟨x,h,fun v=>⟨Iff.rfl,fun h=>by rw[hl]at h;cases h⟩⟩
theorem yI {j i:Nat} {cs:List AV} {y:AV} (h:cs[i]? =some y):∃x,(uk a b j cs)[i]? =some x/\ ∀(v:Value),(AV.M S w x v↔AV.M S w y v)/\(bW j=true->x=Qv a b y):=by
 unfold uk
 split
 ·exact⟨Qv a b y,by rw[List.getElem?_map,h];rfl,fun v=>⟨Nx,fun _=>rfl⟩⟩
 ·rename_i hl
  exact⟨y,h,fun v=>⟨Iff.rfl,fun h=>by rw[hl]at h;cases h⟩⟩
theorem NB {j:Nat} {cs:List AV} {vs:List Value}:ff S w (uk a b j cs) vs↔ff S w cs vs:=by
 unfold ff;rw[nh]
 constructor
 ·rintro⟨h1,h2⟩
  refine⟨h1,fun i y v hy hv=>?_⟩;obtain⟨x,hx,h⟩:=yI (a:=a) (b:=b) (S:=S) (w:=w) (j:=j) hy;exact(h v).1.1 (h2 i x v hx hv)
 ·rintro⟨h1,h2⟩
  refine⟨h1,fun i x v hx hv=>?_⟩;obtain⟨y,hy,h⟩:=CB (S:=S) (w:=w) hx;exact(h v).1.2 (h2 i y v hy hv)
theorem CI {j B:Nat} {cs:List AV} (hw:bD (sw a b j)=bD j) (hl:bW (sw a b j)=bW j) (ht:gH (sw a b j)=gH j):lJ S g (sB (nO a b l)) w (sw a b j) (uk a b j cs) B↔lJ S (fun j=>g (sw a b j)) (sB l) w j cs B:=by
 constructor
 ·rintro⟨arr,e,h1,h2,h3,h4,h5⟩
  refine⟨arr,e,h1,NB.1 h2,by rw[<- hw];exact h3,fun hj i y v hy hv=>?_,by rw[<- ht];exact h5⟩;obtain⟨x,hx,h⟩:=yI (a:=a) (b:=b) (S:=S) (w:=w) (j:=j) hy;have h6:=h4 (by rw[hl];exact hj) i x v hx hv;rw[(h v).2 hj]at h6;exact NA.1 h6
 ·rintro⟨arr,e,h1,h2,h3,h4,h5⟩
  refine⟨arr,e,h1,NB.2 h2,by rw[hw];exact h3,fun hj i x v hx hv=>?_,by rw[ht];exact h5⟩;obtain⟨y,hy,h⟩:=CB (S:=S) (w:=w) hx;rw[(h v).2 (by rw[<- hl];exact hj)];exact NA.2 (h4 (by rw[<- hl];exact hj) i y v hy hv)
end
def mA (a b:Nat):Bool:=(bD a == bD b) && ((bW a == bW b) && (gH a == gH b))
theorem C5 {a b:Nat} (h:mA a b=true) (j:Nat):bD (sw a b j)=bD j/\bW (sw a b j)=bW j/\gH (sw a b j)=gH j:=by
 simp only[mA,Bool.and_eq_true,beq_iff_eq]at h
 unfold sw
 split
 ·rename_i e;subst e;exact⟨h.1.symm,h.2.1.symm,h.2.2.symm⟩
 ·split
  ·rename_i e;subst e;exact⟨h.1,h.2.1,h.2.2⟩
  ·exact⟨rfl,rfl,rfl⟩
section
variable {P:Program} {f:FuncId} {ts:List TV} {l l':BL} {r:RT} {a b:Nat}
theorem Fz (hab:mA a b=true) {S:Nat->Prop} {g:Nat->Nat} {w:World} (h:EM S g w (nO a b l)):EM S (fun j=>g (sw a b j)) w l:=by
 refine⟨?_,?_,?_,?_,?_⟩
 ·rw[<- BD];exact h.tab
 ·rw[<- BD];exact h.blk
 ·intro k cs hk
  have:=h.gl k cs hk;rw[nK]at this;exact this
 ·intro j cs hj
  have h1:=h.bm _ _ (oT (a:=a) (b:=b) hj);obtain⟨k1,k2,k3⟩:=C5 hab j;rw[nK]at h1;exact(CI k1 k2 k3).1 h1
 ·intro i j ci cj hi hj e
  exact u9 (h.inj _ _ _ _ (oT (a:=a) (b:=b) hi) (oT (a:=a) (b:=b) hj) e)
theorem G7 (hab:mA a b=true) {S:Nat->Prop} {g:Nat->Nat} {w w':World} {e:Ending} (h:uR S (fun j=>g (sw a b j)) l r l' w e w'):uR S g (nO a b l) (Tc a b r) (nO a b l') w e w':=by
 obtain⟨v,g',he,h1,h2,h3,h4,h5⟩:=h;have hg:(fun j=>(fun i=>g' (sw a b i)) (sw a b j))=g':=by funext j;dsimp only;rw[jS]
 refine⟨v,fun i=>g' (sw a b i),he,?_,?_,?_,?_,?_⟩
 ·intro j cs cs' hj hj'
  obtain⟨c0,k1,rfl⟩:=ij hj;obtain⟨c1,k2,rfl⟩:=ij hj';obtain⟨k3,k4⟩:=h1 _ _ _ k1 k2;dsimp only at k3 ⊢;rw[jS]at k3;rw[nh,nh];exact⟨k3,k4⟩
 ·intro j cs' hj
  obtain⟨c0,k1,rfl⟩:=ij hj;obtain⟨k2,k3⟩:=h2 _ _ k1;rw[BD];refine⟨k2,?_⟩;obtain⟨q1,q2,q3⟩:=C5 hab (sw a b j);have:=(CI (a:=a) (b:=b) (S:=Own S g' (sB l')) (g:=fun i=>g' (sw a b i)) (l:=l') (w:=w') (cs:=c0) (B:=g' (sw a b j)) q1 q2 q3).2 (by rw[hg];exact k3);rw[nK,hg];rw[jS]at this;exact this
 ·intro i j ci cj hi hj e
  obtain⟨c0,k1,_⟩:=ij hi;obtain⟨c1,k2,_⟩:=ij hj;exact u9 (h3 _ _ _ _ k1 k2 e)
 ·rw[OY,nK,hg,C4,hg]
  exact h4
 ·rw[BD];exact h5
theorem tf {fn:Func} {R R':Ending->World->Prop} (hR:∀e w,R e w->R' e w) {x:Exit} {a:Act} {w:World} (h:bodyPost P fn R x a w):bodyPost P fn R' x a w:=by
 cases x with
 |normal=>obtain⟨h1,v,h2,h3⟩:=h;exact⟨h1,v,h2,hR _ _ h3⟩
 |ret=>obtain⟨h1,v,h2,h3⟩:=h;exact⟨h1,v,h2,hR _ _ h3⟩
 |panic c=>exact⟨h.1,hR _ _ h.2⟩
 |outgrown=>exact hR _ _ h
 |exit i=>exact h
 |goto l=>exact h
theorem au.swap (a b:Nat) (hab:mA a b=true) (h:au P f ts l r l'):au P f (ts.map (Pj a b)) (nO a b l) (Tc a b r) (nO a b l'):=by
 refine⟨h.enter,fun S g w vs hpre hv=>?_⟩;rw[nK,A6]at hv;exact(h.calls S _ w vs (Fz hab hpre) hv).mono fun e w' hr=>G7 hab hr
theorem gC.swap (a b:Nat) (hab:mA a b=true) (h:gC P f ts l r l'):gC P f (ts.map (Pj a b)) (nO a b l) (Tc a b r) (nO a b l'):=by
 obtain⟨fn,c,h1,h2,h3⟩:=h.body;refine⟨h.enter,fn,c,h1,h2,fun S g w vs hpre hv=>?_⟩;rw[nK,A6]at hv;exact wp_mono (h3 S _ w vs (Fz hab hpre) hv) fun e a w' hq=>tf (fun e w' hr=>G7 hab hr) hq
end
section
variable {P:Program} {T:TypeId->Option Ty} {n:Nat} {ops:Array Oper} {id:Nat} {draw:Bool} {K:AS->Prop} {s:AS} {k:Nat} {o:Oper} {os:List Oper} {fps:List FP}
end
theorem Nm {S S':Nat->Prop} {g g':Nat->Nat} {s s':AS} {w:World} (hS:S=S'):∀{ds:List DV} {vs:List Value},ny S g s w (ds.map .d) vs->ny S' g' s' w (ds.map .d) vs
 | [],[],_=>trivial
 |d::ds,v::vs,h=>⟨by subst hS;exact h.1,Nm hS h.2⟩
 | [],_::_,h=>h.elim
 |_::_,[],h=>h.elim
theorem au.ren {P:Program} {f:FuncId} {j:Nat} {ds:List DV} {cs cs':List AV} {r:RV} (h:au P f (.box j 0::ds.map .d) [(j,cs)] (.v r) [(j,cs')]) (j':Nat) (hw:bD j'=bD j) (hl:bW j=false) (hl':bW j'=false):au P f (.box j' 0::ds.map .d) [(j',cs)] (.v r) [(j',cs')]:=by
 have ht:gH j'=false:=by
  cases e:gH j' with
  |false=>rfl
  |true=>rw[mr e]at hl';cases hl'
 have ht0:gH j=false:=by
  cases e:gH j with
  |false=>rfl
  |true=>rw[mr e]at hl;cases hl
 refine⟨h.enter,fun S g w vs hpre hv=>?_⟩;have hg:(fun i=>if i=j then g j' else g i) j=g j':=if_pos rfl;generalize hg1:(fun i=>if i=j then g j' else g i)=g1 at hg;have hO:Own S g1 (sB [(j,cs)])=Own S g (sB [(j',cs)]):=by rw[ks,ks,hg]
 have hX:BX g1 [(j,cs)]=BX g [(j',cs)]:=by rw[lP,lP,hg]
 have hpre1:EM S g1 w [(j,cs)]:=by
  refine⟨?_,?_,?_,?_,?_⟩
  ·rw[hX];exact hpre.tab
  ·rw[hX];exact hpre.blk
  ·rw[hO];exact hpre.gl
  ·intro i ci hi
   obtain⟨rfl,rfl⟩:=a8.1 hi;obtain⟨arr,e,h1,h2,h3,_,_⟩:=hpre.bm j' ci (a8.2 ⟨rfl,rfl⟩);rw[hO,hg];exact⟨arr,e,h1,h2,by rw[<- hw];exact h3,fun h=>(by rw[hl]at h;cases h),fun h=>(by rw[ht0]at h;cases h)⟩
  ·intro i i2 ci cj h1 h2 _
   rw[(a8.1 h1).1,(a8.1 h2).1]
 have hv1:ny (Own S g1 (sB [(j,cs)])) g1 (sB [(j,cs)]) w (.box j 0::ds.map .d) vs:=by
  cases vs with
  |nil=>exact hv.elim
  |cons v vs=>
   obtain⟨hb,hv⟩:=hv;refine⟨⟨⟨some cs,by rw[sB,ar,ai]⟩,fun ci hi=>?_⟩,Nm hO.symm hv⟩;rw[hg];exact hb.2 cs (a8.2 ⟨rfl,rfl⟩)
 refine(h.calls S g1 w vs hpre1 hv1).mono ?_;rintro e w' ⟨v,g',rfl,h1,h2,h3,h4,h5⟩;have hg2:(fun i=>if i=j' then g' j else g' i) j'=g' j:=if_pos rfl;generalize(fun i=>if i=j' then g' j else g' i)=g2 at hg2;have hO2:Own S g2 (sB [(j',cs')])=Own S g' (sB [(j,cs')]):=by rw[ks,ks,hg2]
 refine⟨v,g2,rfl,?_,?_,?_,?_,?_⟩
 ·intro i ci ci' hi hi'
  obtain⟨rfl,rfl⟩:=a8.1 hi;obtain⟨_,rfl⟩:=a8.1 hi';have:=h1 j ci ci' (a8.2 ⟨rfl,rfl⟩) (a8.2 ⟨rfl,rfl⟩);rw[hg2,this.1,hg];exact⟨rfl,this.2⟩
 ·intro i ci hi
  obtain⟨rfl,rfl⟩:=a8.1 hi;obtain⟨k1,arr,e,k2,k3,k4,_,_⟩:=h2 j ci (a8.2 ⟨rfl,rfl⟩);rw[hX]at k1;rw[hg2,hO2];exact⟨k1,arr,e,k2,k3,by rw[hw];exact k4,fun h=>(by rw[hl']at h;cases h),fun h=>(by rw[ht]at h;cases h)⟩
 ·intro i i2 ci cj k1 k2 _
  rw[(a8.1 k1).1,(a8.1 k2).1]
 ·rw[hO2]
  cases r with
  |one d=>exact h4
  |tup l=>exact h4
 ·rw[<- hX];exact h5
theorem l5:∀(x:Rx),lV x->fW x<=1000000->aa Tryz.prog 81 [dR x] (.one (dN .i64 (s7 x))):=by
 refine dK fun op na xs nb ys nm args ih hx hs=>?_
 have hd0:=Gg (.mk op na xs nb ys nm args);obtain⟨_,_,_,_,_,hlen,hargs⟩:=hx;rw[fW]at hs;rw[s7,fW]at hd0;refine EA ?_;refine kV func81 ?_
 refine ax (Nat × Nat) (fun s=>s.1<=args.length/\s.2<=lh args/\max s.2 (lh (args.drop s.1))=lh args) (fun s=>⟨[(2, .d (dN .i64 0)),(3, .d (dN .i64 s.2)),(7, .d (.leaf (.sl args.length (d7 args)))),(8, .d (dN .i64 args.length)),(9, .d (dN .i64 s.1))],[]⟩) (fun s=>args.length-s.1) (0,0) ⟨Nat.zero_le _,Nat.zero_le _,Nat.zero_max _⟩
  kw ?_
 rintro⟨i,d⟩ ⟨hi,h1,h2⟩;dsimp only at hi h1 h2 ⊢;refine kI ?_
 by_cases hlt:i<args.length
 ·refine kT ?_
  obtain⟨o1,na1,xs1,nb1,ys1,nm1,n1,cs1,hA⟩:=aN args[i];have hx:args[i]? =some args[i]:=by simp[hlt]
  have hat:∀(j:Nat) (a:AV),(ab o1 na1 xs1 nb1 ys1 nm1 n1 cs1)[j]? =some a->(d7 args)[i*7+j]? =some a:=fun j a h=>dz args i args[i] hx j a (by rw[hA];exact h)
  have hm:=List.getElem_mem hlt;have hsz:=mL hm;have hdp:=vW hm;have c:=ih args[i] hm (hargs _ hm) (by omega);rw[show dR args[i]= .agg (ab o1 na1 xs1 nb1 ys1 nm1 n1 cs1) from congrArg DV.agg hA]at c;rw[List.drop_eq_getElem_cons hlt,lh]at h2;generalize s7 args[i]=k at *;refine rS ?_;refine kW ?_;refine kC (c) ?_;refine Mz (a:=d) (b:=k) (m:=(max d k:Nat)) (by omega) rfl rfl rfl rfl rfl rfl ?_;refine kW ?_;exact⟨(i+1,max d k),⟨hlt,by dsimp only;omega,by dsimp only;omega⟩,by dsimp only;omega,weak ⟨rfl,rfl,rfl,rfl,aA (by omega) (by omega),trivial⟩ trivial rfl⟩
 ·exact Mk
theorem gS:∀(f:Nat) (m:Md) (ts:List Tk) (e:Ex) (r:List Tk),pP f m ts=some (.ok (e,r))-> ∀t∈r,t∈ts
 |0,_,_,_,_,h=>by cases h
 |f+1, .sum,ts,e,r,h=>by
  rw[jf]at h;exact Nr
 |f+1, .prod,ts,e,r,h=>by
  rw[gc]at h;exact Nr
 |f+1, .more two e0,ts,e,r,h=>by
  rw[eG]at h
  split at h
  ·rename_i k r1 h0
   split at h
   ·rename_i e1 r2 h1
    exact fun t ht=>wL h0 t (gS f _ _ _ _ h1 t (gS f _ _ _ _ h t ht))
   ·exact mR
  ·cases h;exact fun t ht=>ht
 |f+1, .un,ts,e,r,h=>by
  rw[mD]at h
  split at h
  ·rename_i r1 h0
   split at h
   ·rename_i e1 r2 h1
    cases h;exact fun t ht=>gk h0 t (gS f _ _ _ _ h1 t ht)
   ·exact mR
  ·exact gS f _ _ _ _ h
 |f+1, .prim,ts,e,r,h=>by
  rw[fZ]at h
  split at h
  ·rename_i r1 h0
   split at h
   ·rename_i e1 r2 h1
    split at h
    ·rename_i r3 h2
     cases h;exact fun t ht=>gk h0 t (gS f _ _ _ _ h1 t (gk h2 t ht))
    ·cases h
   ·exact mR
  ·split at h
   ·rename_i t r1 _
    split at h
    ·injection h with h
     obtain⟨q,u,_,_,hsub⟩:=y4 h;exact fun t ht=>List.mem_cons_of_mem _ (hsub t ht)
    ·exact H0
   ·cases h
theorem fN {E:Nat}:∀(f:Nat) (m:Md) (ts:List Tk) (x:my),eZ ts->(∀t∈ts,t.2.2<=E)->pP f m ts=some x->(match x with
  | .ok (_,r)=>eZ r
  | .error (p,c)=>p<=E/\c≠0)
 |0,_,_,_,_,_,h=>by cases h
 |f+1, .sum,ts,x,hw,hE,h=>by
  rw[jf]at h;exact Nf
 |f+1, .prod,ts,x,hw,hE,h=>by
  rw[gc]at h;exact Nf
 |f+1, .more two e0,ts,x,hw,hE,h=>by
  rw[eG]at h;obtain⟨t,r,rfl⟩:=hw.ne
  split at h
  ·rename_i k r1 h0
   obtain⟨rfl,h4,_⟩:=p7 h0;have hw2:=hw.tail (by omega);have hE2:∀t∈r1,t.2.2<=E:=fun t ht=>hE t (List.mem_cons_of_mem _ ht)
   split at h
   ·rename_i e1 r2 h1
    have a:=fN f _ _ _ hw2 hE2 h1;have hsub:=gS f _ _ _ _ h1;exact fN f _ _ _ a (fun t ht=>hE2 t (hsub t ht)) h
   ·exact fN f _ _ _ hw2 hE2 h
  ·cases h;exact hw
 |f+1, .un,ts,x,hw,hE,h=>by
  rw[mD]at h;obtain⟨t,r,rfl⟩:=hw.ne
  split at h
  ·rename_i r1 h0
   obtain⟨rfl,h4⟩:=nR h0;have hw2:=hw.tail (by omega);have hE2:∀t∈r1,t.2.2<=E:=fun t ht=>hE t (List.mem_cons_of_mem _ ht)
   split at h
   ·rename_i e1 r2 h1
    have a:=fN f _ _ _ hw2 hE2 h1;cases h;exact a
   ·exact fN f _ _ _ hw2 hE2 h
  ·exact fN f _ _ _ hw hE h
 |f+1, .prim,ts,x,hw,hE,h=>by
  rw[fZ]at h;obtain⟨t,r,rfl⟩:=hw.ne
  split at h
  ·rename_i r1 h0
   obtain⟨rfl,h4⟩:=nR h0;have hw2:=hw.tail (by omega);have hE2:∀t∈r1,t.2.2<=E:=fun t ht=>hE t (List.mem_cons_of_mem _ ht)
   split at h
   ·rename_i e1 r2 h1
    have a:=fN f _ _ _ hw2 hE2 h1;have a:eZ r2:=a;have hsub:=gS f _ _ _ _ h1;obtain⟨u,r3,rfl⟩:=a.ne
    split at h
    ·rename_i r4 h2
     obtain⟨rfl,h5⟩:=nR h2;cases h;exact a.tail (by omega)
    ·cases h
     exact⟨hE2 _ (hsub u (by simp)),by decide⟩
   ·exact fN f _ _ _ hw2 hE2 h
  ·dsimp only at h
   have ht:=hE t (by simp)
   split at h
   ·rename_i h2
    have hw2:=hw.tail (by omega)
    injection h with h
    unfold ic at h
    split at h
    ·subst h;exact⟨ht,by decide⟩
    ·split at h
     ·subst h;exact⟨ht,by decide⟩
     ·split at h
      ·split at h
       ·subst h;exact hw2.tail (by omega)
       ·subst h;exact hw2
      ·subst h;exact hw2
   ·split at h
    ·cases h;exact hw.tail (by omega)
    ·cases h;exact⟨ht,by decide⟩
theorem au.ren0 {P:Program} {f:FuncId} {j:Nat} {cs cs':List AV} {r:RV} (h:au P f [.box j 0] [(j,cs)] (.v r) [(j,cs')]) (j':Nat) (hw:bD j'=bD j) (hl:bW j=false) (hl':bW j'=false):au P f [.box j' 0] [(j',cs)] (.v r) [(j',cs')]:=au.ren (ds:=[]) h j' hw hl hl'
theorem au.ren1 {P:Program} {f:FuncId} {j:Nat} {d:DV} {cs cs':List AV} {r:RV} (h:au P f [.box j 0, .d d] [(j,cs)] (.v r) [(j,cs')]) (j':Nat) (hw:bD j'=bD j) (hl:bW j=false) (hl':bW j'=false):au P f [.box j' 0, .d d] [(j',cs)] (.v r) [(j',cs')]:=au.ren (ds:=[d]) h j' hw hl hl'
noncomputable def EG (T:List Tk) (b:Int) (E:Nat):Except (Nat × Int) Ex:=match pP (5*T.length+5) .sum T with
 |some (.ok (e,t::_))=>if t.1≠0 then .error (t.2.2,2)else if b≠0 then .error (E,b)else if s7 (rx e)<=40 then .ok e else .error (Hi T,3)
 |some (.error (p,c))=> .error (p,Uo E b p c)
 |_=> .error (0,2)
noncomputable def Gt (x:Except (Nat × Int) Ex):RV:=match x with
 | .ok e=> .tup [dE e,dN .i64 0,dN .i64 0]
 | .error (p,c)=> .tup [dR z7,dN .i64 p,dN .i64 c]
structure J6 (T:List Tk) (E:Nat):Prop where
 w:eZ T
 z:Pe E T
 s:∀t∈T,t.2.1.length<=65536
 l:T.length<=999999
theorem J6.le {T:List Tk} {E:Nat} (h:J6 T E):∀t∈T,t.2.2<=E:=fun t ht=>by
 by_cases h0:t.1=0
 ·exact Nat.le_of_eq ((h.z t ht).1 h0)
 ·exact Nat.le_of_lt ((h.z t ht).2 h0)
theorem zN (T:List Tk):∃x,pP (5*T.length+5) .sum T=some x:=O7 _ .sum T (Nat.le_refl _)
theorem L0 {T:List Tk} {E:Nat} (hT:J6 T E) {e:Ex} {r:List Tk} {f:Nat} (h:pP f .sum T=some (.ok (e,r))):lV (rx e)/\fW (rx e)<=1000000/\eZ r/\ ∀t∈r,t∈T:=by
 have a:=jK _ _ _ _ _ hT.s (fun _ _ h=>by cases h) h;have b:=fN (E:=E) _ _ _ _ hT.w hT.le h;have:=a.2.2;have:=hT.l;exact⟨a.1,by dsimp only at *;omega,b,a.2.1⟩
theorem oD (s:List UInt8) (T:List Tk) (cT:aa Tryz.prog 77 [dL s] (Ct (.ok T))) (hT:J6 T s.length):aa Tryz.prog 35 [dL s] (Gt (EG T 0 s.length)):=by
 have cT:aa Tryz.prog 77 [dL s] (.tup [.leaf (.sl T.length (f9 T)),dN .i64 0,dN .i64 0]):=cT;obtain⟨x,hx⟩:=zN T;have cs:=(Hu 0 _).sum T x hT.w hx;unfold EG;rw[hx];cases x with
 |ok z=>
  obtain⟨e,r⟩:=z;obtain⟨hwx,hsz,hwr,hsub⟩:=L0 hT hx;obtain⟨t,r,rfl⟩:=hwr.ne;have cs:=cs.1.ren0 4002 rfl rfl rfl;have cn:=(cZ t r 0 0).ren0 4002 rfl rfl rfl;have cf:=(j9 t r 0 2).ren1 4002 rfl rfl rfl;have cd:=l5 (rx e) hwx hsz;dsimp only;obtain⟨o1,na1,xs1,nb1,ys1,nm1,n1,cs1,hA⟩:=bd e;rw[show dR (rx e)= .agg (ab o1 na1 xs1 nb1 ys1 nm1 n1 cs1) from congrArg DV.agg hA]at cd;have hE:dE e= .agg (ab o1 na1 xs1 nb1 ys1 nm1 n1 cs1):=congrArg DV.agg hA;rw[hE]at cs
  by_cases h0:t.1=0
  ·rw[if_neg (fun h=>h h0),if_neg (fun h=>h rfl)]
   by_cases hd:s7 (rx e)<=40
   ·rw[if_pos hd]
    unfold Gt;dsimp only;rw[hE];refine yL ?_;refine tH ?_;refine kW ?_;refine kC (cd) ?_;refine kE ?_;exact am
   ·rw[if_neg hd]
    obtain⟨t0,r0,rfl⟩:=hT.w.ne;unfold Gt;dsimp only;refine yL ?_;refine tH ?_;refine kW ?_;refine kC (cd) ?_;refine kX ?_
    refine aH (i:=0) (cs':=A2 t0) (Nat.zero_lt_succ _) (fun j a h=>by
     rw[Nat.zero_mul,Nat.zero_add];show(A2 t0++f9 r0)[j]? =some a;rw[List.getElem?_append_left (List.getElem?_eq_some_iff.1 h).1];exact h) (Nat.zero_lt_succ 2) rfl rfl rfl rfl rfl rfl rfl rfl ?_
    exact am
  ·rw[if_pos h0]
   unfold Gt;dsimp only;refine yL ?_;refine pA ?_;refine kW ?_;refine kD (cf) ?_;exact am
 |error z=>
  obtain⟨p,c⟩:=z;obtain⟨hc,y,ts',cs,hw⟩:=cs;obtain⟨t,r,rfl⟩:=hw.ne;have cs:=cs.ren0 4002 rfl rfl rfl;have cn:=(cZ t r p c).ren0 4002 rfl rfl rfl;have cf:=(xT t r p c 2 hc).ren1 4002 rfl rfl rfl;obtain⟨o1,na1,xs1,nb1,ys1,nm1,n1,cs1,hA⟩:=aN y;rw[show dR y= .agg (ab o1 na1 xs1 nb1 ys1 nm1 n1 cs1) from congrArg DV.agg hA]at cs;dsimp only;rw[Ry];unfold Gt;dsimp only
  by_cases h0:t.1=0
  ·refine yL ?_
   refine tH ?_;refine kG ?_
   refine kO4 ?_
   refine kB true ?_ ?_
   ·exact(by simp[hc])
   exact am
  ·refine yL ?_
   refine pA ?_;refine kW ?_;refine kD (cf) ?_;refine kG ?_
   refine kO4 ?_
   refine kB true ?_ ?_
   ·exact(by simp[hc])
   exact am
def eW:B4->Nat
 | .add=>1
 | .sub=>1
 | .mul=>2
 | .div=>2
def TI:Ex->Nat
 | .num _ _=>4
 | .nam _=>4
 | .neg _=>3
 | .bin k _ _=>eW k
def nw:B4->List UInt8
 | .add=>[32,43,32]
 | .sub=>[32,45,32]
 | .mul=>[32,42,32]
 | .div=>[32,47,32]
noncomputable def K7 (v:Rat):List UInt8:=(fT v).getD []
def qy (u:List UInt8):List UInt8:=if u=[]then []else 32::u
def xI (lv least:Nat) (t:List UInt8):List UInt8:=if lv<least then [40]++t++[41]else t
noncomputable def bU:Ex->Nat->List UInt8
 | .num v u,n=>xI 4 n (K7 v++qy u)
 | .nam s,n=>xI 4 n s
 | .neg a,n=>xI 3 n ([45]++bU a 3)
 | .bin k a b,n=>xI (eW k) n (bU a (eW k)++nw k++bU b (eW k+1))
def pu:Ex->Prop
 | .num v u=>(fT v).isSome=true/\dA 510 v/\(u=[]∨pB u=true)
 | .nam s=>pB s=true
 | .neg a=>pu a
 | .bin _ a b=>pu a/\pu b
theorem GL (e:Ex) (n:Nat):bU e n=xI (TI e) n (bU e 0):=by
 have h0:∀(lv:Nat) (t:List UInt8),xI lv 0 t=t:=fun lv t=>if_neg (Nat.not_lt_zero _)
 cases e<;>simp only[bU,TI,h0]
end Go.Proofs.YtnchbpoopnjghaaGreatDoor
