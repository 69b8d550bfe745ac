/- Parts of a proof: contracts of the functions that the laws reach. -/
import Derived.Test.YtnchbpoopnjghaaGreatDoorQZ7
set_option maxHeartbeats 100000000
set_option linter.all false
open Go.Proofs.Tryz
namespace Go.Proofs.YtnchbpoopnjghaaGreatDoor
open Go.RowKit
theorem QT (n:Nat):Lib.repeatL [48] n=List.replicate n 48:=by
 induction n with
 |zero=>rfl
 |succ n ih=>
  simp[Lib.repeatL,List.replicate_succ]at ih ⊢
  exact ih
theorem K0 (z:Int):0<(fmt z).length:=by
 rw[Gj]
 have:0<(BK z.natAbs).length:=by
  unfold BK
  split
  ·simp
  ·rename_i h
   obtain⟨c,r,e,_⟩:=JS h;rw[e]
   simp
 simp
 omega
theorem BA (n:Nat) (hn:n<=1000000):aa Tryz.prog 178 [dL [48],dN .i64 n] (.one (dL (List.replicate n 48))):=
 ⟨aG func178 rfl rfl,fun S w vs hS hv=>by
  match vs,hv with
  | [v,u],⟨h1,h2,_⟩=>
   obtain rfl:=bc h1;obtain rfl:=bc h2;refine(Tryz.strings_Repeat (Bs [48]) n w O_ (by rw[aJ];simp;omega)).mono ?_;rintro e w' ⟨rfl,hb⟩;exact⟨_,rfl,by rw[show(Bs [48]).data.toList=[48] from rfl,QT];exact AV.M.val rfl,hb⟩⟩
theorem iU {q:Rat} {n:Nat} (sq:b8 n q) (hn:n<=900):∃t,aa Tryz.prog 125 [dQ q] (.tup [dL t,dB (gg q).isSome])/\ ∀u,gg q=some u->t=u:=by
 have cv:aa Tryz.prog 173 [dQ q] (.one (dB true)):=yG q sq O_
 by_cases hneg:KQ q<0
 ·have h0:gg q=none:=by rw[gg,if_pos hneg]
  refine⟨[],?_,fun u h=>by rw[h0]at h;cases h⟩;rw[h0];refine kU func125 ?_;refine vH ?_;refine kC (oO q) ?_;refine kB true ?_ ?_
  ·exact T_ hneg
  exact aj
 ·obtain⟨K,k1,k2,k3⟩:=rj hneg
  have main:∀t b,(40<=K->t=[]/\b=false)->(K<40->t=lE K (fmt (pw q K).num)/\b=decide (t.length<=40))->aa Tryz.prog 125 [dQ q] (.tup [dL t,dB b]):=by
   intro t b g1 g2;refine kU func125 ?_;refine vH ?_;refine kC (oO q) ?_;refine kB false ?_ ?_
   ·exact F_ hneg
   refine kW ?_;refine ac (jD 10 D_ D_ (q:=((10:Int):Rat)) rfl) rfl rfl rfl rfl rfl rfl rfl ?_;refine kW ?_;refine ac (d7 1 D_ D_) rfl rfl rfl rfl rfl rfl rfl ?_;refine kW ?_
   refine aq Nat (fun k=>k<=K) (fun k=>⟨[(1, .box 0 0),(2, .d (dL [])),(3, .d (dB false)),(4, .box 3001 0),(5, .box 4001 0),(6, .d (dN .i64 k))],[(0,some (aQ (pw q k))),(3001,some (aQ ((10:Int):Rat))),(4001,some (aZ 1))]⟩) (fun k=>41-k) 0 (Nat.zero_le _)
    kw ?_
   intro k hk;have sk:=Kj sq k;refine kI ?_;refine kO ?_
   by_cases h40:k<40
   ·refine kT ?_
    refine kG ?_
    refine kO3 ?_
    have hcs:=Fr ((pw q k).den:Int) 1
    by_cases hd1:((pw q k).den:Int)=1
    ·have hkK:k=K:=by
      rcases Nat.lt_or_ge k K with h|h
      ·exact absurd hd1 (k2 k h)
      ·omega
     rw[show bQ ((pw q k).den:Int) 1=0 by rw[hd1];exact Dh 1]at hcs;obtain⟨rfl,rfl⟩:=g2 O_;subst hkK;refine kQ (hcs) ?_;have hlen:(fmt (pw q k).num).length<=10*(n+k)+2:=C0 sk.1;refine ac (xQ (V_ sk.1.digs O_)) rfl rfl rfl rfl rfl rfl rfl ?_;refine kG ?_;refine kO ?_;unfold lE uo;have hpos:0<(fmt (pw q k).num).length:=K0 _
     generalize fmt (pw q k).num=u at *;have hB:=aJ u
     by_cases hk0:0<k
     ·rw[if_pos hk0]
      refine kT ?_;refine kG ?_
      refine kO4 ?_
      refine cU (v':= .int .i64 ((k:Int)+1-u.length)) rfl rfl rfl rfl ?_ ?_
      ·exact congrArg (Value.int .i64) (by rw[IntWalk.i64_in ((k:Int)+1) O_,IntWalk.i64_in _ O_];omega)
      refine kG ?_;refine kO ?_
      by_cases hp:u.length<k+1
      ·refine kT ?_
       refine kG ?_;refine kO ?_;have cr:=BA (k+1-u.length) O_;rw[show(((k+1-u.length:Nat)):Int)=(k:Int)+1-u.length by omega]at cr;refine kC (cr) ?_;refine kO ?_;refine ax rfl rfl rfl rfl rfl rfl rfl (dG (a:=List.replicate (k+1-u.length) 48) (b:=u) (by simp;omega)) ?_;have hwl:(List.replicate (k+1-u.length) 48++u).length=k+1-u.length+u.length:=S_
       generalize hwd:List.replicate (k+1-u.length) 48++u=w at *;have hwB:=aJ w;exact QH
      ·refine kE ?_
       rw[show k+1-u.length=0 by omega,List.replicate_zero,List.nil_append];have hwl:u.length=u.length:=rfl;generalize hwd:u=w at *;exact QH
     ·obtain rfl:k=0:=O_
      rw[if_neg hk0];have hu1:0+1-u.length=0:=O_
      rw[hu1,List.replicate_zero,List.nil_append];refine kE ?_;refine kG ?_
      refine kO3 ?_
      refine cU (v':= .bool (decide (u.length<=40))) rfl rfl rfl rfl ?_ ?_
      ·exact IV
      exact aj
    ·have hne:bQ ((pw q k).den:Int) 1≠0:=by
      rcases Int.lt_trichotomy ((pw q k).den:Int) 1 with h|h|h
      ·rw[fR h];decide
      ·exact absurd h hd1
      ·rw[jv h];decide
     refine kC (hcs) ?_;refine kB true ?_ ?_
     ·exact(by simpa using hne)
     refine kW ?_;refine ac (mT sk (wR (n:=10) D_) O_ (q:=pw q (k+1)) rfl) rfl rfl rfl rfl rfl rfl rfl ?_;refine kW ?_
     exact⟨k+1,by
      rcases Nat.lt_or_ge k K with h|h
      ·exact h
      ·obtain rfl:k=K:=O_
       rcases k3 with⟨e,_⟩| ⟨_,k3,_⟩
       ·omega
       ·exact absurd k3 hd1,by omega,weak ⟨rfl,rfl,rfl,rfl,rfl,ai O_ O_,trivial⟩ ⟨rfl,rfl,rfl,trivial⟩ rfl⟩
   ·refine kE ?_
    obtain⟨rfl,rfl⟩:=g1 O_;exact aj
  rcases k3 with⟨e,h0⟩| ⟨e,h1,h2⟩
  ·exact Le
  ·by_cases h40:K=40
   ·have h0:gg q=none:=by
     rw[h2,if_neg];have:=Kf K (fmt (pw q K).num) O_;omega
    exact Le
   ·exact OY
section
variable {P:Program} {T:TypeId->Option Ty} {n:Nat} {ops:Array Oper} {id:Nat} {draw:Bool} {K:AS->Prop} {s:AS} {k:Nat} {o:Oper} {os:List Oper} {fps:List FP}
end
open Classical in
noncomputable def GU (n:Nat):List UInt8->Option Rat
 | []=>some ((n:Int):Rat)
 |c::b=>if c=46 then(if b≠[]/\(∀x∈b,gv x)then some (Rat.divInt ((n*10^b.length+num b:Nat):Int) ((10^b.length:Nat):Int))else none)else if c=47 then(if jN false b/\num b≠0/\num b≠1/\Nat.gcd n (num b)=1 then some (Rat.divInt (n:Int) (num b:Int))else none)else none
theorem Np {t:List UInt8} (h:jN false (fW t)):jr t=GU (num (fW t)) (jL t):=by
 unfold jr GU;rw[if_pos h];cases jL t<;>rfl
theorem Uh {n:Nat} {c:UInt8} {b:List UInt8} (hc:c=46) (h:¬(b≠[]/\(∀x∈b,gv x))):GU n (c::b)=none:=by subst hc;unfold GU;dsimp only;rw[if_pos rfl,if_neg h]
theorem RQ {n:Nat} {c:UInt8} {b:List UInt8} (hc:c=46) (h:b≠[]/\(∀x∈b,gv x)):GU n (c::b)=some (Rat.divInt ((n*10^b.length+num b:Nat):Int) ((10^b.length:Nat):Int)):=by subst hc;unfold GU;dsimp only;rw[if_pos rfl,if_pos h]
theorem Ua {n:Nat} {c:UInt8} {b:List UInt8} (hc:c=47) (h:¬(jN false b/\num b≠0/\num b≠1/\Nat.gcd n (num b)=1)):GU n (c::b)=none:=by subst hc;unfold GU;dsimp only;rw[if_neg D_,if_pos rfl,if_neg h]
theorem Q8 {n:Nat} {c:UInt8} {b:List UInt8} (hc:c=47) (h:jN false b/\num b≠0/\num b≠1/\Nat.gcd n (num b)=1):GU n (c::b)=some (Rat.divInt (n:Int) (num b:Int)):=by subst hc;unfold GU;dsimp only;rw[if_neg D_,if_pos rfl,if_pos h]
theorem US {n:Nat} {c:UInt8} {b:List UInt8} (h:c≠46) (h':c≠47):GU n (c::b)=none:=by unfold GU;dsimp only;rw[if_neg h,if_neg h']
theorem JN (t:List UInt8):(fW t).length<=t.length:=by
 have:=congrArg List.length (rV t);rw[L_]at this;omega
theorem RR {k j:Nat} (h:k<j):Sz j ((10^k:Nat):Int):=by
 unfold Sz;rw[b_];exact Nat.lt_of_le_of_lt (Nat.pow_le_pow_left D_ k) (Nat.pow_lt_pow_right D_ h)
theorem J8 {t:List UInt8} {q:Rat} (hl:t.length<=500) (h:jr t=some q):b8 510 q:=by
 by_cases hok:jN false (fW t)
 ·rw[Np hok]at h
  have hpl:=JN t
  have hrl:(fW t).length+(jL t).length=t.length:=by
   have:=congrArg List.length (rV t);rw[L_]at this;omega
  have sp:Sz (fW t).length (num (fW t):Int):=fi (sj t);generalize jL t=r at h hrl;generalize num (fW t)=n at h sp;cases r with
  |nil=>
   have:q=((n:Int):Rat):=by
    have h:some ((n:Int):Rat)=some q:=h;exact(Option.some.inj h).symm
   subst this;exact⟨sp.mono O_,(Sz.small (z:=1) D_).mono D_⟩
  |cons c b=>
   have hbl:(fW t).length+b.length<=499:=by simp at hrl;omega
   by_cases h46:c=46
   ·by_cases hb:b≠[]/\ ∀x∈b,gv x
    ·rw[RQ h46 hb]at h
     cases h
     have sN:Sz 510 ((n*10^b.length+num b:Nat):Int):=by
      have h1:Sz 501 ((n:Int)*10^b.length):=Sz.of_pow sp O_;have h2:=Sz.add h1 ((fi hb.2).mono O_);have h3:Sz 510 ((n:Int)*10^b.length+(num b:Int)):=Sz.mono h2 D_;rw[Int.natCast_add,Int.natCast_mul,Int.natCast_pow];exact h3
     have sD:Sz 510 ((10^b.length:Nat):Int):=RR O_;have:0<10^b.length:=Nat.pow_pos D_
     exact .divInt sN sD O_
    ·rw[Uh h46 hb]at h;cases h
   ·by_cases h47:c=47
    ·by_cases hb:jN false b/\num b≠0/\num b≠1/\Nat.gcd n (num b)=1
     ·rw[Q8 h47 hb]at h
      cases h;exact .divInt (sp.mono O_) ((fi hb.1.2.1).mono O_) (by have:=hb.2.1;omega)
     ·rw[Ua h47 hb]at h;cases h
    ·rw[US h46 h47]at h;cases h
 ·unfold jr at h
  rw[if_neg hok]at h;cases h
theorem BM {s:List UInt8} {q:Rat} (hl5:s.length<=500) (h:ge s=some q):b8 510 q:=by
 unfold ge at h
 split at h
 ·rename_i hl
  have hd:=q9 s;cases hp:jr (mK s)with
  |none=>rw[hp]at h;simp at h
  |some r=>
   have hs:=J8 O_ hp;rw[hp]at h
   simp only at h
   split at h
   ·split at h
    ·cases h
    ·cases h;exact hs.neg
   ·cases h;exact hs
 ·cases h
theorem Fj (t u:Tk) (r:List Tk) (a:Int) (ht:t.1=2) (hT:fI (t::u::r)):Rd 281 (t::u::r) a (iy t (u::r)):=by
 have ht5:=hT.head.2 ht;have hw:fI (u::r):=hT.tail O_;cases hq:ge t.2.1 with
 |none=>
  have hP:iy t (u::r)= .error (t.2.2,2):=by unfold iy;rw[hq]
  have cp:=z6 hq;rw[hP];refine⟨by decide, .mk 0 false [] false [] [] [],t::u::r,?_,hT⟩;refine I3 ?_;refine gy ?_;refine KT ?_;refine kD (ku t (u::r) a 2) ?_;exact d9
 |some q=>
  have cp:=Bf hq;obtain⟨tx,cd,_⟩:=iU (BM ht5 hq) D_;cases hd:gg q with
  |none=>
   have hP:iy t (u::r)= .error (t.2.2,3):=by unfold iy;rw[hq];dsimp only;rw[hd]
   rw[hd]at cd;have cd:aa Tryz.prog 125 [dQ q] (.tup [dL tx,dB false]):=cd;rw[hP];refine⟨by decide, .mk 0 false [] false [] [] [],t::u::r,?_,hT⟩;refine I3 ?_;refine gy ?_;refine KT ?_;refine kQ (cd) ?_;refine kD (ku t (u::r) a 3) ?_;exact d9
  |some z=>
   rw[hd]at cd;have cd:aa Tryz.prog 125 [dQ q] (.tup [dL tx,dB true]):=cd
   by_cases h1:u.1=1
   ·have hP:iy t (u::r)= .ok (.num q u.2.1,r):=by unfold iy;rw[hq];dsimp only;rw[hd];dsimp only;rw[if_pos h1]
    rw[hP];refine⟨?_,hw.tail O_⟩;refine N9 ?_;refine F6 ?_;refine kD (jk u r a 0) ?_;exact d9
   ·have hP:iy t (u::r)= .ok (.num q [],u::r):=by unfold iy;rw[hq];dsimp only;rw[hd];dsimp only;rw[if_neg h1]
    rw[hP];refine⟨?_,hw⟩;refine N9 ?_;refine kO ?_;refine kE ?_;exact d9
def yd:Bool->List UInt8
 |false=>[43,45]
 |true=>[42,47]
def Rc:Bool->List (Value × Value)
 |false=>[(.string ⟨#[43]⟩, .int .i64 4),(.string ⟨#[45]⟩, .int .i64 5)]
 |true=>[(.string ⟨#[42]⟩, .int .i64 6),(.string ⟨#[47]⟩, .int .i64 7)]
theorem KI (a b c:UInt8):(0<=Lib.indexByte [a,b] c)↔(c=a∨c=b):=by
 rw[Bj]
 simp
theorem Lf (a c:UInt8):(0<=Lib.indexByte [a] c)↔c=a:=by
 rw[Bj]
 simp
theorem Uf (two:Bool) (t:Tk) (r:List Tk):(decide (t.1=4) && Gc (yd two) t)=(i7 two (t::r)).isSome:=by
 obtain⟨k,x,p⟩:=t
 by_cases h4:k=4
 ·subst h4
  match x with
  | []=>cases two<;>rfl
  |c::d::y=>cases two<;>rfl
  | [c]=>
   cases two
   ·show decide (0<=Lib.indexByte [43,45] c)=_
    by_cases h1:c=43
    ·subst h1;rfl
    ·by_cases h2:c=45
     ·subst h2;rfl
     ·rw[F_ (by rw[KI];simp[h1,h2])]
      simp[i7,E8,h1,h2]
   ·show decide (0<=Lib.indexByte [42,47] c)=_
    by_cases h1:c=42
    ·subst h1;rfl
    ·by_cases h2:c=47
     ·subst h2;rfl
     ·rw[F_ (by rw[KI];simp[h1,h2])]
      simp[i7,E8,h1,h2]
 ·simp[i7,h4]
theorem qZ {two:Bool} {t:Tk} {r r2:List Tk} {k:B4} (h:i7 two (t::r)=some (k,r2)):r2=r/\t.1=4/\ ∃c,t.2.1=[c]/\Un ⟨#[c]⟩ (Rc two)=some (.int .i64 k.code):=by
 obtain⟨k4,x,p⟩:=t
 simp only[i7]at h
 split at h
 ·rename_i h4
  split at h
  ·rename_i k' hk
   cases h;refine⟨rfl,h4,?_⟩
   match x,hk with
   | [],hk=>cases two<;>cases hk
   |c::d::y,hk=>cases two<;>cases hk
   | [c],hk=>
    cases two
    ·exact QF
    ·exact QF
  ·cases h
 ·cases h
theorem By (c:UInt8) (t:Tk) (r:List Tk):(decide (t.1=4) && Gc [c] t)=(dD c (t::r)).isSome:=by
 obtain⟨k,x,p⟩:=t
 by_cases h4:k=4
 ·subst h4
  match x with
  | []=>simp[Gc,dD]
  |b::d::y=>simp[Gc,dD]
  | [b]=>
   show decide (0<=Lib.indexByte [c] b)=_
   by_cases h:b=c
   ·subst h;rw[T_ ((Lf b b).2 rfl)];simp[dD]
   ·rw[F_ (by rw[Lf];exact h)];simp[dD,h]
 ·simp[dD,h4]
theorem oC {c:UInt8} {t:Tk} {r r2:List Tk} (h:dD c (t::r)=some r2):r2=r/\t.1=4:=by
 simp only[dD]at h
 split at h
 ·rename_i h1;cases h;exact⟨rfl,h1.1⟩
 ·cases h
def To (fid:FuncId) (ts:List Tk) (a:Int) (Y:Rx × List Tk):oi->Prop
 | .ok (e,r)=>az Tryz.prog fid [.box 900 0] [(900,fS ts a 0)] (.v (.one (dE e))) [(900,fS r a 0)]/\fI r
 | .error (p,c)=>c≠0/\az Tryz.prog fid [.box 900 0] [(900,fS ts a 0)] (.v (.one (dR Y.1))) [(900,fS Y.2 p c)]/\fI Y.2
theorem FV {fid:FuncId} {a:Int} {g:List Tk->Option oi} (h:∀ts x,fI ts->g ts=some x->Rd fid ts a x):∃Y:List Tk->Rx × List Tk,∀ts x,fI ts->g ts=some x->To fid ts a (Y ts) x:=by
 have:∀ts:List Tk,∃Y:Rx × List Tk,∀x,fI ts->g ts=some x->To fid ts a Y x:=fun ts=>by
  by_cases hw:fI ts
  ·cases hg:g ts with
   |none=>exact⟨(.mk 0 false [] false [] [] [],[]),fun x _ hx=>by cases hx⟩
   |some x=>
    have hx:=h ts x hw hg;cases x with
    |ok y=>exact⟨(.mk 0 false [] false [] [] [],[]),fun x _ hx'=>by cases hx';exact hx⟩
    |error y=>
     obtain⟨hc,y1,ts1,h1,h2⟩:=hx;exact⟨(y1,ts1),fun x _ hx'=>by cases hx';exact⟨hc,h1,h2⟩⟩
  ·exact⟨(.mk 0 false [] false [] [] [],[]),fun x hw'=>absurd hw' hw⟩
 obtain⟨Y,hY⟩:=Classical.axiomOfChoice this;exact⟨Y,fun ts x hw hx=>hY ts x hw hx⟩
noncomputable def gB (two:Bool) (Y:List Tk->Rx × List Tk):Nat->Ex->List Tk->Rx × List Tk
 |0,e,ts=>(rx e,ts)
 |f+1,e,ts=>match i7 two ts with
  |some (k,r)=>match pP f (jh two) r with
   |some (.ok (e2,r2))=>gB two Y f (.bin k e e2) r2
   |_=>(.mk k.code false [] false [] [] [rx e,(Y r).1],(Y r).2)
  |none=>(rx e,ts)
inductive LS where
 |run (f:Nat) (e:Ex) (ts:List Tk)
 |bad (y:Rx) (ts:List Tk) (p c:Int)
def LS.c1:LS->List AV
 | .run _ e _=>aE e
 | .bad y _ _ _=>aR y
def LS.c2 (a:Int):LS->List AV
 | .run _ _ ts=>fS ts a 0
 | .bad _ ts p c=>fS ts p c
def bS (two:Bool) (fop:FuncId) (c1 c2:List AV):AS:=⟨[(0, .box 900 0),(1, .d (dL (yd two))),(2, .mp (Rc two)),(3, .clo (.func fop) [.box 900 0] []),(8, .box 0 0),(9, .box 1002 0)],[(0,some (ab 0 false [] false [] [] 0 [])),(1002,some c1),(900,some c2)]⟩
abbrev Sf (two:Bool) (fop:FuncId):List TV:=[.box 900 0, .d (dL (yd two)), .mp (Rc two), .clo (.func fop) [.box 900 0] []]
def WK (two:Bool) (fop:FuncId) (ts:List Tk) (a:Int):oi->Prop
 | .ok (e,r)=>az Tryz.prog 120 (Sf two fop) [(900,fS ts a 0)] (.v (.one (dE e))) [(900,fS r a 0)]/\fI r
 | .error (p,c)=>c≠0/\ ∃y ts',az Tryz.prog 120 (Sf two fop) [(900,fS ts a 0)] (.v (.one (dR y))) [(900,fS ts' p c)]/\fI ts'
def LS.I (two:Bool) (Y:List Tk->Rx × List Tk) (f:Nat) (a:Int) (D:DV) (B:List AV):LS->Prop
 | .run f' e ts=>fI ts/\f'<=f/\ ∃x',pP f' (.more two e) ts=some x'/\(match x' with
  | .ok (e',r')=>D=dE e'/\B=fS r' a 0
  | .error (p,c)=>D=dR (gB two Y f' e ts).1/\B=fS (gB two Y f' e ts).2 p c)
 | .bad y ts p c=>fI ts/\c≠0/\D=dR y/\B=fS ts p c
def LS.mu:LS->Nat
 | .run f _ _=>f+1
 | .bad _ _ _ _=>0
theorem GC (k:B4) (e:Ex) (y:Rx):aR (.mk k.code false [] false [] [] [rx e,y])=[.val (.int .i64 k.code)]++jq++[.val (vL []), .sl 2 (aE e++aR y)]:=by
 show [.val (.int .i64 k.code)]++ED false [] false []++[.val (vL []), .sl 2 (aR (rx e)++(aR y++[]))]=_;rw[c_];rfl
theorem O2 (two:Bool) (fop:FuncId) (f:Nat) (a:Int) (Y:List Tk->Rx × List Tk) (hY:∀ts x,fI ts->pP f (jh two) ts=some x->To fop ts a (Y ts) x) (ts:List Tk) (hT:fI ts) {e0:Ex} {r0:List Tk} (h0:pP f (jh two) ts=some (.ok (e0,r0)))
 {D:DV} {B:List AV} (hB:B.length=3) (hI:LS.I two Y f a D B (.run f e0 r0)):az Tryz.prog 120 (Sf two fop) [(900,fS ts a 0)] (.v (.one D)) [(900,B)]:=by
 obtain⟨c0,hw0⟩:=hY ts _ hT h0;obtain⟨t,r,hr⟩:=hw0.ne;obtain⟨o1,na1,xs1,nb1,ys1,nm1,n1,cs1,hA⟩:=aN e0;have hE:dE e0= .agg (ab o1 na1 xs1 nb1 ys1 nm1 n1 cs1):=congrArg DV.agg hA;rw[hE]at c0;refine aP af dx func120 rfl rfl rfl rfl rfl ((dJ.one (Nat.le_of_eq hB.symm))) ?_;refine kW ?_;refine kZ (c0) ?_
 refine aq LS (LS.I two Y f a D B) (fun x=>bS two fop x.c1 (x.c2 a)) LS.mu (.run f e0 r0) hI (by
  refine Eq.mpr (congrArg (fun c=>aM _ (bS two fop c (fS r0 a 0))) hA) ?_;exact weak ⟨rfl,rfl,rfl,rfl,rfl,rfl,trivial⟩ ⟨rfl,rfl,rfl,trivial⟩ rfl) ?_
 intro x hx;cases x with
 |bad y ts1 p c=>
  obtain⟨hw,hc,rfl,rfl⟩:=hx;obtain⟨t,r,rfl⟩:=hw.ne;obtain⟨o1,na1,xs1,nb1,ys1,nm1,n1,cs1,hA⟩:=aY y;have cis:=sd (yd two) t r p c hw.head.1;rw[F_ hc,Bool.false_and]at cis;rw[show dR y= .agg (ab o1 na1 xs1 nb1 ys1 nm1 n1 cs1) from congrArg DV.agg hA];show fP _ _ _ _ _ (bS two fop (aR y) (fS (t::r) p c));rw[hA];unfold bS;refine kW ?_;refine kD (cis) ?_;exact d9
 |run f' e ts1=>
  obtain⟨hw,hf,x',hx,hD⟩:=hx;obtain⟨t,r,rfl⟩:=hw.ne;obtain⟨o1,na1,xs1,nb1,ys1,nm1,n1,cs1,hA⟩:=aN e;have cis:=sd (yd two) t r a 0 hw.head.1;rw[T_ rfl,Bool.true_and,Uf]at cis;show fP _ _ _ _ _ (bS two fop (aE e) (fS (t::r) a 0));rw[hA];cases f' with
  |zero=>cases hx
  |succ f'=>
  rw[fo]at hx;cases ho:i7 two (t::r)with
  |none=>
   rw[ho]at hx cis;cases hx;obtain⟨rfl,rfl⟩:=hD;rw[show dE e= .agg (ab o1 na1 xs1 nb1 ys1 nm1 n1 cs1) from congrArg DV.agg hA];have cis:az Tryz.prog 169 [.box 900 0, .d (dL (yd two))] [(900,fS (t::r) a 0)] (.v (.one (dB false))) [(900,fS (t::r) a 0)]:=cis;unfold bS;refine kW ?_;refine kD (cis) ?_;exact d9
  |some q=>
   obtain⟨k,r2⟩:=q;obtain⟨rfl,h4,c,hc,hl⟩:=qZ ho;rw[ho]at hx cis;have cis:az Tryz.prog 169 [.box 900 0, .d (dL (yd two))] [(900,fS (t::r2) a 0)] (.v (.one (dB true))) [(900,fS (t::r2) a 0)]:=cis;have hw2:fI r2:=hw.tail O_;obtain⟨k4,tx,p0⟩:=t;dsimp only at h4 hc;subst h4 hc;dsimp only at hx;cases hy:pP f' (jh two) r2 with
   |none=>rw[hy]at hx;cases hx
   |some y=>
    have cy:=hY r2 y hw2 (K6 O_ hy);rw[hy]at hx;cases y with
    |error z=>
     obtain⟨p,c1⟩:=z;cases hx;obtain⟨hc1,cy,hw3⟩:=cy
     have hg:gB two Y (f'+1) e ((4,[c],p0)::r2)=(.mk k.code false [] false [] [] [rx e,(Y r2).1],(Y r2).2):=by
      rw[gB,ho];dsimp only;rw[hy]
     rw[hg]at hD;obtain⟨o2,na2,xs2,nb2,ys2,nm2,n2,cs2,hA2⟩:=aY (Y r2).1;have hbad:=GC k e (Y r2).1;rw[hA,hA2]at hbad;rw[show dR (Y r2).1= .agg (ab o2 na2 xs2 nb2 ys2 nm2 n2 cs2) from congrArg DV.agg hA2]at cy;generalize hY2:(Y r2).2=ts2 at *;unfold bS;refine K4 ?_;refine QJ ?_;refine⟨.bad (.mk k.code false [] false [] [] [rx e,(Y r2).1]) ts2 p c1,⟨hw3,hc1,hD.1,hD.2⟩,Nat.succ_pos _,?_⟩;refine Eq.mpr (congrArg (fun c=>aM _ (bS two fop c (fS ts2 p c1))) hbad) ?_;exact kw
    |ok z=>
     obtain⟨e2,r3⟩:=z;obtain⟨cy,hw3⟩:=cy;have hx:pP f' (.more two (.bin k e e2)) r3=some x':=hx
     have hg:gB two Y (f'+1) e ((4,[c],p0)::r2)=gB two Y f' (.bin k e e2) r3:=by
      rw[gB,ho];dsimp only;rw[hy]
     rw[hg]at hD;obtain⟨o2,na2,xs2,nb2,ys2,nm2,n2,cs2,hA2⟩:=aN e2;have hbin:=j0 k e e2;rw[hA,hA2]at hbin;rw[show dE e2= .agg (ab o2 na2 xs2 nb2 ys2 nm2 n2 cs2) from congrArg DV.agg hA2]at cy;unfold bS;refine K4 ?_;refine QJ ?_;refine⟨.run f' (.bin k e e2) r3,⟨hw3,by omega,x',hx,hD⟩,by show f'+1<f'+1+1;omega,?_⟩;refine Eq.mpr (congrArg (fun c=>aM _ (bS two fop c (fS r3 a 0))) hbin) ?_;exact kw
theorem Id {two:Bool} {fop:FuncId} {f:Nat} {a:Int} {Y:List Tk->Rx × List Tk} (hY:∀ts x,fI ts->pP f (jh two) ts=some x->To fop ts a (Y ts) x):∀(f':Nat) (e:Ex) (ts:List Tk) (e':Ex) (r':List Tk),f'<=f->fI ts->pP f' (.more two e) ts=some (.ok (e',r'))->fI r'
 |0,_,_,_,_,_,_,h=>by cases h
 |f'+1,e,ts,e',r',hf,hw,h=>by
  rw[fo]at h;obtain⟨t,r,rfl⟩:=hw.ne;cases ho:i7 two (t::r)with
  |none=>rw[ho]at h;cases h;exact hw
  |some q=>
   obtain⟨k,r2⟩:=q;obtain⟨rfl,h4,_⟩:=qZ ho;have hw2:fI r2:=hw.tail O_;rw[ho]at h;dsimp only at h ⊢;cases hy:pP f' (jh two) r2 with
   |none=>rw[hy]at h;cases h
   |some y=>
    have cy:=hY r2 y hw2 (K6 O_ hy);rw[hy]at h;cases y with
    |error z=>cases h
    |ok z=>exact Id hY f' _ _ e' r' O_ cy.2 h
theorem D8 {two:Bool} {fop:FuncId} {f:Nat} {a:Int} {Y:List Tk->Rx × List Tk} (hY:∀ts x,fI ts->pP f (jh two) ts=some x->To fop ts a (Y ts) x):∀(f':Nat) (e:Ex) (ts:List Tk) (p:Nat) (c:Int),f'<=f->fI ts->pP f' (.more two e) ts=some (.error (p,c))->c≠0/\fI (gB two Y f' e ts).2
 |0,_,_,_,_,_,_,h=>by cases h
 |f'+1,e,ts,p,c,hf,hw,h=>by
  rw[fo]at h;rw[gB];obtain⟨t,r,rfl⟩:=hw.ne;cases ho:i7 two (t::r)with
  |none=>rw[ho]at h;cases h
  |some q=>
   obtain⟨k,r2⟩:=q;obtain⟨rfl,h4,_⟩:=qZ ho;have hw2:fI r2:=hw.tail O_;rw[ho]at h;dsimp only at h ⊢;cases hy:pP f' (jh two) r2 with
   |none=>rw[hy]at h;cases h
   |some y=>
    have cy:=hY r2 y hw2 (K6 O_ hy);rw[hy]at h;cases y with
    |error z=>cases h;exact⟨cy.1,cy.2.2⟩
    |ok z=>exact D8 hY f' _ _ p c O_ cy.2 h
theorem vX (two:Bool) (fop:FuncId) (f:Nat) (a:Int) (hop:∀ts x,fI ts->pP f (jh two) ts=some x->Rd fop ts a x) (ts:List Tk) (x:oi) (hT:fI ts) (hx:(match pP f (jh two) ts with
  |some (.ok (e,r))=>pP f (.more two e) r
  |y=>y)=some x):WK two fop ts a x:=by
 obtain⟨Y,hY⟩:=FV hop;cases h0:pP f (jh two) ts with
 |none=>rw[h0]at hx;cases hx
 |some y0=>
  rw[h0]at hx;have c0:=hY ts y0 hT h0;cases y0 with
  |error z=>
   cases hx;obtain⟨p,c⟩:=z;obtain⟨hc,c0,hw⟩:=c0;refine⟨hc,(Y ts).1,(Y ts).2,?_,hw⟩;generalize(Y ts).1=y at *;generalize(Y ts).2=ts' at *;obtain⟨t,r,rfl⟩:=hw.ne;obtain⟨o1,na1,xs1,nb1,ys1,nm1,n1,cs1,hA⟩:=aY y;rw[show dR y= .agg (ab o1 na1 xs1 nb1 ys1 nm1 n1 cs1) from congrArg DV.agg hA]at c0 ⊢;have cis:=sd (yd two) t r p c hw.head.1;rw[F_ hc,Bool.false_and]at cis;refine aP af dx func120 rfl rfl rfl rfl rfl (gk) ?_;refine kW ?_;refine kZ (c0) ?_;refine aq Unit (fun _=>True) (fun _=>bS two fop (ab o1 na1 xs1 nb1 ys1 nm1 n1 cs1) (fS (t::r) p c)) (fun _=>0) () trivial kw ?_;rintro _ _;unfold bS;refine kW ?_;refine kD (cis) ?_;exact d9
  |ok z=>
   obtain⟨e,r⟩:=z;have hx:pP f (.more two e) r=some x:=hx;cases x with
   |ok w=>
    obtain⟨e',r'⟩:=w;exact⟨O2 two fop f a Y hY ts hT h0 (B:=fS r' a 0) rfl ⟨c0.2,l_ _,_,hx,rfl,rfl⟩,Id hY f e r e' r' (l_ _) c0.2 hx⟩
   |error w=>
    obtain⟨p,c⟩:=w;obtain⟨hc,hw⟩:=D8 hY f e r p c (l_ _) c0.2 hx;exact⟨hc,_,_,O2 two fop f a Y hY ts hT h0 (B:=fS _ p c) rfl ⟨c0.2,l_ _,_,hx,rfl,rfl⟩,hw⟩
structure Tf (f:Nat) (a:Int):Prop where
 sum:∀ts x,fI ts->pP f .sum ts=some x->Rd 78 ts a x
 prod:∀ts x,fI ts->pP f .prod ts=some x->Rd 121 ts a x
 un:∀ts x,fI ts->pP f .un ts=some x->Rd 171 ts a x
 prim:∀ts x,fI ts->pP f .prim ts=some x->Rd 229 ts a x
theorem RX {f:Nat} {a:Int} (ih:∀ts x,fI ts->pP f .prod ts=some x->Rd 121 ts a x) (ts:List Tk) (x:oi) (hT:fI ts) (hx:pP (f+1) .sum ts=some x):Rd 78 ts a x:=by
 have h:=vX false 121 f a ih ts x hT (by rw[je]at hx;exact hx);cases x with
 |ok z=>
  obtain⟨e,r⟩:=z;obtain⟨h,hw⟩:=h;refine⟨?_,hw⟩;obtain⟨o1,na1,xs1,nb1,ys1,nm1,n1,cs1,hA⟩:=aN e;rw[show dE e= .agg (ab o1 na1 xs1 nb1 ys1 nm1 n1 cs1) from congrArg DV.agg hA]at h ⊢;exact Of
 |error z=>
  obtain⟨p,c⟩:=z;obtain⟨hc,y,ts',h,hw⟩:=h;refine⟨hc,y,ts',?_,hw⟩;obtain⟨o1,na1,xs1,nb1,ys1,nm1,n1,cs1,hA⟩:=aY y;rw[show dR y= .agg (ab o1 na1 xs1 nb1 ys1 nm1 n1 cs1) from congrArg DV.agg hA]at h ⊢;exact Of
theorem Nd {f:Nat} {a:Int} (ih:∀ts x,fI ts->pP f .un ts=some x->Rd 171 ts a x) (ts:List Tk) (x:oi) (hT:fI ts) (hx:pP (f+1) .prod ts=some x):Rd 121 ts a x:=by
 have h:=vX true 171 f a ih ts x hT (by rw[gr]at hx;exact hx);cases x with
 |ok z=>
  obtain⟨e,r⟩:=z;obtain⟨h,hw⟩:=h;refine⟨?_,hw⟩;obtain⟨o1,na1,xs1,nb1,ys1,nm1,n1,cs1,hA⟩:=aN e;rw[show dE e= .agg (ab o1 na1 xs1 nb1 ys1 nm1 n1 cs1) from congrArg DV.agg hA]at h ⊢;exact Om
 |error z=>
  obtain⟨p,c⟩:=z;obtain⟨hc,y,ts',h,hw⟩:=h;refine⟨hc,y,ts',?_,hw⟩;obtain⟨o1,na1,xs1,nb1,ys1,nm1,n1,cs1,hA⟩:=aY y;rw[show dR y= .agg (ab o1 na1 xs1 nb1 ys1 nm1 n1 cs1) from congrArg DV.agg hA]at h ⊢;exact Om
theorem Fa (y:Rx):aR (.mk 3 false [] false [] [] [y])=[.val (.int .i64 3)]++jq++[.val (vL []), .sl 1 (aR y)]:=by
 show [.val (.int .i64 3)]++ED false [] false []++[.val (vL []), .sl 1 (aR y++[])]=_;rw[c_];rfl
theorem S6 {f:Nat} {a:Int} (ih:∀ts x,fI ts->pP f .un ts=some x->Rd 171 ts a x) (ih2:∀ts x,fI ts->pP f .prim ts=some x->Rd 229 ts a x) (ts:List Tk) (x:oi) (hT:fI ts) (hx:pP (f+1) .un ts=some x):Rd 171 ts a x:=by
 obtain⟨t,r,rfl⟩:=hT.ne;rw[mU]at hx;have cis:=sd [45] t r a 0 hT.head.1;rw[T_ rfl,Bool.true_and,By]at cis;cases hs:dD 45 (t::r)with
 |some r2=>
  obtain⟨rfl,h4⟩:=oC hs;rw[hs]at hx cis;have cis:az Tryz.prog 169 [.box 900 0, .d (dL [45])] [(900,fS (t::r2) a 0)] (.v (.one (dB true))) [(900,fS (t::r2) a 0)]:=cis;have hw2:fI r2:=hT.tail O_;dsimp only at hx;cases hy:pP f .un r2 with
  |none=>rw[hy]at hx;cases hx
  |some y=>
   have cy:=ih r2 y hw2 hy;rw[hy]at hx;cases y with
   |ok z=>
    obtain⟨e,r3⟩:=z;cases hx;obtain⟨cy,hw3⟩:=cy;refine⟨?_,hw3⟩;obtain⟨o1,na1,xs1,nb1,ys1,nm1,n1,cs1,hA⟩:=aN e;rw[show dE (.neg e)= .agg ([.val (.int .i64 3)]++jq++[.val (vL []), .sl 1 (aE e)]) from congrArg DV.agg (oI e),hA];rw[show dE e= .agg (ab o1 na1 xs1 nb1 ys1 nm1 n1 cs1) from congrArg DV.agg hA]at cy;exact P2
   |error z=>
    cases hx;obtain⟨p,c⟩:=z;obtain⟨hc,y,ts',cy,hw3⟩:=cy;refine⟨hc, .mk 3 false [] false [] [] [y],ts',?_,hw3⟩;obtain⟨o1,na1,xs1,nb1,ys1,nm1,n1,cs1,hA⟩:=aY y;rw[show dR (.mk 3 false [] false [] [] [y])= .agg ([.val (.int .i64 3)]++jq++[.val (vL []), .sl 1 (aR y)]) from congrArg DV.agg (Fa y),hA];rw[show dR y= .agg (ab o1 na1 xs1 nb1 ys1 nm1 n1 cs1) from congrArg DV.agg hA]at cy;exact P2
 |none=>
  rw[hs]at hx cis;have cis:az Tryz.prog 169 [.box 900 0, .d (dL [45])] [(900,fS (t::r) a 0)] (.v (.one (dB false))) [(900,fS (t::r) a 0)]:=cis;have cy:=ih2 (t::r) x hT hx;cases x with
  |ok z=>
   obtain⟨e,r3⟩:=z;obtain⟨cy,hw3⟩:=cy;refine⟨?_,hw3⟩;obtain⟨o1,na1,xs1,nb1,ys1,nm1,n1,cs1,hA⟩:=aN e;rw[show dE e= .agg (ab o1 na1 xs1 nb1 ys1 nm1 n1 cs1) from congrArg DV.agg hA]at cy ⊢;refine IE ?_;refine K4 ?_;refine kD (cy) ?_;exact d9
  |error z=>
   obtain⟨p,c⟩:=z;obtain⟨hc,y,ts',cy,hw3⟩:=cy;refine⟨hc,y,ts',?_,hw3⟩;obtain⟨o1,na1,xs1,nb1,ys1,nm1,n1,cs1,hA⟩:=aY y;rw[show dR y= .agg (ab o1 na1 xs1 nb1 ys1 nm1 n1 cs1) from congrArg DV.agg hA]at cy ⊢;refine IE ?_;refine K4 ?_;refine kD (cy) ?_;exact d9
def z7:Rx:= .mk 0 false [] false [] [] []
theorem MR {f:Nat} {a:Int} (ih:∀ts x,fI ts->pP f .sum ts=some x->Rd 78 ts a x) (ts:List Tk) (x:oi) (hT:fI ts) (hx:pP (f+1) .prim ts=some x):Rd 229 ts a x:=by
 obtain⟨t,r,rfl⟩:=hT.ne;rw[gt]at hx;have cis:=sd [40] t r a 0 hT.head.1;rw[T_ rfl,Bool.true_and,By]at cis;cases hs:dD 40 (t::r)with
 |some r2=>
  obtain⟨rfl,h4⟩:=oC hs;rw[hs]at hx cis;have cis:az Tryz.prog 169 [.box 900 0, .d (dL [40])] [(900,fS (t::r2) a 0)] (.v (.one (dB true))) [(900,fS (t::r2) a 0)]:=cis;have hw2:fI r2:=hT.tail O_;dsimp only at hx;cases hy:pP f .sum r2 with
  |none=>rw[hy]at hx;cases hx
  |some y=>
   have cy:=ih r2 y hw2 hy;rw[hy]at hx;cases y with
   |error z=>
    cases hx;obtain⟨p,c⟩:=z;obtain⟨hc,y,ts',cy,hw3⟩:=cy;refine⟨hc,z7,ts',?_,hw3⟩;obtain⟨u,r4,rfl⟩:=hw3.ne;obtain⟨o1,na1,xs1,nb1,ys1,nm1,n1,cs1,hA⟩:=aY y;rw[show dR y= .agg (ab o1 na1 xs1 nb1 ys1 nm1 n1 cs1) from congrArg DV.agg hA]at cy;have cis2:=sd [41] u r4 p c hw3.head.1;rw[F_ hc,Bool.false_and]at cis2;refine RH ?_;refine kD (x7 u r4 p c 2 hc) ?_;exact d9
   |ok z=>
    obtain⟨e,r3⟩:=z;obtain⟨cy,hw3⟩:=cy;obtain⟨u,r4,rfl⟩:=hw3.ne;obtain⟨o1,na1,xs1,nb1,ys1,nm1,n1,cs1,hA⟩:=aN e;rw[show dE e= .agg (ab o1 na1 xs1 nb1 ys1 nm1 n1 cs1) from congrArg DV.agg hA]at cy;have cis2:=sd [41] u r4 a 0 hw3.head.1;rw[T_ rfl,Bool.true_and,By]at cis2;dsimp only at hx;cases hs2:dD 41 (u::r4)with
    |some r5=>
     obtain⟨rfl,h4'⟩:=oC hs2;rw[hs2]at hx cis2;cases hx;refine⟨?_,hw3.tail O_⟩;rw[show dE e= .agg (ab o1 na1 xs1 nb1 ys1 nm1 n1 cs1) from congrArg DV.agg hA];have cis2:az Tryz.prog 169 [.box 900 0, .d (dL [41])] [(900,fS (u::r5) a 0)] (.v (.one (dB true))) [(900,fS (u::r5) a 0)]:=cis2;refine RH ?_;refine kD (jk u r5 a 0) ?_;exact d9
    |none=>
     rw[hs2]at hx cis2;cases hx;refine⟨by decide,z7,u::r4,?_,hw3⟩;have cis2:az Tryz.prog 169 [.box 900 0, .d (dL [41])] [(900,fS (u::r4) a 0)] (.v (.one (dB false))) [(900,fS (u::r4) a 0)]:=cis2;refine RH ?_;refine kD (ku u r4 a 2) ?_;exact d9
 |none=>
  rw[hs]at hx cis;dsimp only at hx;have cis:az Tryz.prog 169 [.box 900 0, .d (dL [40])] [(900,fS (t::r) a 0)] (.v (.one (dB false))) [(900,fS (t::r) a 0)]:=cis
  by_cases h2:t.1=2
  ·rw[if_pos h2]at hx
   cases hx;obtain⟨u,r4,rfl⟩:=(hT.tail O_).ne;have cn:=Fj t u r4 a h2 hT;cases hP:iy t (u::r4)with
   |ok z=>
    obtain⟨e,r3⟩:=z;rw[hP]at cn;obtain⟨cy,hw3⟩:=cn;refine⟨?_,hw3⟩;obtain⟨o1,na1,xs1,nb1,ys1,nm1,n1,cs1,hA⟩:=aN e;rw[show dE e= .agg (ab o1 na1 xs1 nb1 ys1 nm1 n1 cs1) from congrArg DV.agg hA]at cy ⊢;exact OA
   |error z=>
    obtain⟨p,c⟩:=z;rw[hP]at cn;obtain⟨hc,y,ts',cy,hw3⟩:=cn;refine⟨hc,y,ts',?_,hw3⟩;obtain⟨o1,na1,xs1,nb1,ys1,nm1,n1,cs1,hA⟩:=aY y;rw[show dR y= .agg (ab o1 na1 xs1 nb1 ys1 nm1 n1 cs1) from congrArg DV.agg hA]at cy ⊢;exact OA
  ·rw[if_neg h2]at hx
   by_cases h1:t.1=1
   ·rw[if_pos h1]at hx
    cases hx;refine⟨?_,hT.tail O_⟩;refine SC ?_;refine kD (dA t r a 0) ?_;refine Cy ?_;refine kD (dA t r a 0) ?_;refine F6 ?_;refine kD (jk t r a 0) ?_;exact d9
   ·rw[if_neg h1]at hx
    cases hx;refine⟨by decide,z7,t::r,?_,hT⟩;refine SC ?_;refine kD (dA t r a 0) ?_;refine Cy ?_;refine kD (dA t r a 0) ?_;refine Cy ?_;refine kZ (cis) ?_;refine kD (ku t r a 2) ?_;exact d9
theorem Jn (a:Int):∀f,Tf f a
 |0=>⟨fun _ _ _ h=>(by cases h),fun _ _ _ h=>(by cases h),fun _ _ _ h=>(by cases h),fun _ _ _ h=>(by cases h)⟩
 |f+1=>by
  have ih:=Jn a f;exact⟨fun ts x hT hx=>RX ih.prod ts x hT hx,fun ts x hT hx=>Nd ih.un ts x hT hx,fun ts x hT hx=>S6 ih.un ih.prim ts x hT hx,fun ts x hT hx=>MR ih.sum ts x hT hx⟩
section
variable {P:Program} {T:TypeId->Option Ty} {n:Nat} {ops:Array Oper} {id:Nat} {draw:Bool} {K:AS->Prop} {s:AS} {k:Nat} {o:Oper} {os:List Oper} {fps:List FP}
theorem rB:∀(b c:BL),(∀x∈c,x∈b)->dw b c=[]
 |_,[],_=>rfl
 |b,(j,cs)::r,h=>by
  rw[dw]
  have hj:(ap (ay b) j).isSome:=by
   have hm:=h (j,cs) S_;clear h
   induction b with
   |nil=>cases hm
   |cons y l ih=>
    obtain⟨i,ci⟩:=y
    by_cases e:i=j
    ·subst e;rw[ay,am];rfl
    ·rw[ay,au _ _ e]
     rcases f_.1 hm with h|h
     ·cases h;exact absurd rfl e
     ·exact ih h
  cases hl:ap (ay b) j with
  |none=>rw[hl]at hj;cases hj
  |some x=>exact rB b r (fun x hx=>h x (List.mem_cons_of_mem _ hx))
theorem yx {s:AS}:∀{b:BL},qQ s (ay b)-> ∀j,ap (ay b++s.b) j=ap s.b j
 | [],_,_=>rfl
 |(i,cs)::r,h,j=>by
  have h1:s.bx i=some cs:=h.1;have h2:qQ s (ay r):=h.2
  by_cases e:i=j
  ·subst e
   rw[ay,List.cons_append,am];unfold AS.bx at h1
   split at h1
   ·rename_i x hx;cases h1;exact hx.symm
   ·cases h1
  ·rw[ay,List.cons_append,au _ _ e];exact yx h2 j
theorem iT {f:Operand} {fid:FuncId} {args:Array Operand} {tys:Array TypeId} {ts:List TV} {b:BL} {r:RT} (hc:az P fid ts b r b) (h1:gd ops s o=some true) (ho:o.op= .call ⟨.value f,args,tys⟩) (hcl:xT s f args.toList=some (fid,ts)) (hone:uv s f=true)
 (hk:(EF (ay b) (ts.flatMap d8) && ui (ay b) (ay b))=true) (hb:qQ s (ay b)) (hcn:dY [] s.b=true) (hnew:md s b b=true) (h3:aL n o.dst=true) (h4:fg draw ops (aA ops o ⟨r.tv,none⟩ (b.map (·.1))) k fps=true)
 (h:ar P T n ops id draw K (k+1) os (s.eff o.dst ⟨r.tv,none⟩) (aA ops o ⟨r.tv,none⟩ (b.map (·.1))::fps)):ar P T n ops id draw K k (o::os) s fps:=by
 refine .run h1 (.genC (iZ hcn) fun s2 hc2 ht hrb=>?_) h3 h4 h;have hf:s2.ev f=s.ev f:=aw ht (by rw[ho];simp[Op.operands,Call.operands]);have hcl2:=rP (s':=s2) (s:=s) (f:=f) (args:=args.toList) hf (fun x hx=>aw ht (by rw[ho];simp[Op.operands,Call.operands];exact .inr (by simpa using hx)));have hone2:uv s2 f=true:=by unfold uv at hone ⊢;rw[hf];exact hone
 have hb2:=li hrb hb;have:=qj hc ho (hcl2.trans hcl) hone2 hk hb2 (fun j cs hj _=>hc2 j cs hj) ((jz hrb).trans hnew);intro n S0 w0 g a w K Q hM hd hK;refine this n S0 w0 g a w K Q hM hd fun g' a' w' hM'=>hK g' a' w' (hM'.ext (fun k=>?_) (fun j=>?_))
 ·cases o.dst<;>rfl
 ·rw[rB b b (fun _ h=>h),c_]
  exact(yx hb2 j).symm
end
def Wp (E:Nat) (b:Int) (p:Nat) (c:Int):Int:=if p=E/\b≠0 then b else c
def Rh (E:Nat) (ts:List Tk):Prop:=∀t∈ts,(t.1=0->t.2.2=E)/\(t.1≠0->t.2.2<E)
theorem TD {E:Nat} {p:Nat} {c:Int}:Wp E 0 p c=c:=if_neg (fun e=>e.2 rfl)
theorem zT {two:Bool} {ts r:List Tk} {k:B4} (h:i7 two ts=some (k,r)):∀t∈r,t∈ts:=by
 cases ts with
 |nil=>cases h
 |cons t r'=>
  simp only[i7]at h
  split at h
  ·exact IC
  ·cases h
theorem gF {c:UInt8} {ts r:List Tk} (h:dD c ts=some r):∀t∈r,t∈ts:=by
 cases ts with
 |nil=>cases h
 |cons t r'=>
  simp only[dD]at h
  exact IC
theorem zG {t:Tk} {r r2:List Tk} {e:Ex} (h:iy t r= .ok (e,r2)):∃q u,e= .num q u/\(u=[]∨ ∃v∈r,u=v.2.1)/\ ∀x∈r2,x∈r:=by
 unfold iy at h
 split at h
 ·cases h
 ·rename_i q _
  split at h
  ·cases h
  ·split at h
   ·rename_i v r'
    split at h
    ·cases h;exact⟨q,_,rfl, .inr ⟨v,by simp,rfl⟩,fun x hx=>List.mem_cons_of_mem _ hx⟩
    ·cases h;exact⟨q,_,rfl, .inl rfl,fun x hx=>hx⟩
   ·cases h;exact⟨q,_,rfl, .inl rfl,fun x hx=>hx⟩
theorem it:Wd []:=fun x hx=>by cases hx
theorem ka:∀(f:Nat) (m:Md) (ts:List Tk) (e:Ex) (r:List Tk),(∀t∈ts,t.2.1.length<=65536)->(∀two e0,m= .more two e0->j3 (rx e0))->pP f m ts=some (.ok (e,r)) ->
 j3 (rx e)/\(∀t∈r,t∈ts)/\f8 (rx e)+r.length<=ts.length+(match m with| .more _ e0=>f8 (rx e0)|_=>0)
 |0,_,_,_,_,_,_,h=>by cases h
 |f+1, .sum,ts,e,r,hs,hm,h=>by
  rw[je]at h
  split at h
  ·rename_i e1 r1 h1
   exact QA
  ·exact nI
 |f+1, .prod,ts,e,r,hs,hm,h=>by
  rw[gr]at h
  split at h
  ·rename_i e1 r1 h1
   exact QA
  ·exact nI
 |f+1, .more two e0,ts,e,r,hs,hm,h=>by
  rw[fo]at h
  split at h
  ·rename_i k r1 h0
   have hl:=rl h0;have hsub:=zT h0
   split at h
   ·rename_i e1 r2 h1
    have a:=ka f _ _ _ _ (fun t ht=>hs t (hsub t ht)) (fun _ _ h=>by cases two<;>cases h) h1
    have hb:j3 (rx (.bin k e0 e1)):= .mk (by cases k<;>decide) (by cases k<;>decide) it it D_ S_ (fun x hx=>by
     rcases f_.1 hx with rfl|hx
     ·exact hm two e0 rfl
     ·cases d_.1 hx;exact a.1)
    have b:=ka f _ _ _ _ (fun t ht=>hs t (hsub t (a.2.1 t ht))) (fun _ _ h=>by cases h;exact hb) h;refine⟨b.1,fun t ht=>hsub t (a.2.1 t (b.2.1 t ht)),?_⟩;have h1:=a.2.2;have h2:=b.2.2;have h3:f8 (rx (.bin k e0 e1))=f8 (rx e0)+f8 (rx e1)+1:=by simp[rx,f8,eQ]
    cases two<;>dsimp only[jh]at * <;>omega
   ·exact nI
  ·cases h;exact⟨hm two _ rfl,fun t ht=>ht,by dsimp only;omega⟩
 |f+1, .un,ts,e,r,hs,hm,h=>by
  rw[mU]at h
  split at h
  ·rename_i r1 h0
   have hl:=eZ h0;have hsub:=gF h0
   split at h
   ·rename_i e1 r2 h1
    have a:=ka f _ _ _ _ (fun t ht=>hs t (hsub t ht)) (fun _ _ h=>by cases h) h1;cases h;have h3:f8 (rx (.neg e1))=f8 (rx e1)+1:=by simp[rx,f8,eQ]
    refine⟨.mk D_ D_ it it D_ S_ (fun x hx=>by cases d_.1 hx;exact a.1),fun t ht=>hsub t (a.2.1 t ht),?_⟩;have:=a.2.2;dsimp only at *;omega
   ·exact nI
  ·have a:=ka f _ _ _ _ hs (fun _ _ h=>by cases h) h
   exact a
 |f+1, .prim,ts,e,r,hs,hm,h=>by
  rw[gt]at h
  split at h
  ·rename_i r1 h0
   have hl:=eZ h0;have hsub:=gF h0
   split at h
   ·rename_i e1 r2 h1
    have a:=ka f _ _ _ _ (fun t ht=>hs t (hsub t ht)) (fun _ _ h=>by cases h) h1
    split at h
    ·rename_i r3 h2
     have b:=eZ h2;cases h;refine⟨a.1,fun t ht=>hsub t (a.2.1 t (gF h2 t ht)),?_⟩;have:=a.2.2;dsimp only at *;omega
    ·cases h
   ·exact nI
  ·split at h
   ·rename_i t r1 _
    split at h
    ·injection h with h
     have h2:=Au h;obtain⟨q,u,rfl,hu,hsub⟩:=zG h;refine⟨.mk D_ D_ (ae _) (ae _) ?_ D_ (fun x hx=>by cases hx),fun t ht=>List.mem_cons_of_mem _ (hsub t ht),?_⟩
     ·rcases hu with rfl| ⟨v,hv,rfl⟩
      ·decide
      ·have:=hs v (List.mem_cons_of_mem _ hv);omega
     ·simp[rx,f8,eQ];omega
    ·split at h
     ·cases h
      refine⟨.mk D_ D_ it it ?_ D_ (fun x hx=>by cases hx),fun t ht=>List.mem_cons_of_mem _ ht,?_⟩
      ·have:=hs t S_;omega
      ·simp[rx,f8,eQ];omega
     ·cases h
   ·cases h
theorem bl {j i:Nat} {cs ci:List AV}:(sB [(j,cs)]).bx i=some ci↔i=j/\ci=cs:=by
 rw[bU]
 by_cases e:j=i
 ·subst e
  rw[ay,am]
  constructor
  ·intro h;cases h;exact⟨rfl,rfl⟩
  ·rintro⟨_,rfl⟩;rfl
 ·rw[ay,au _ _ e]
  constructor
  ·intro h;cases h
  ·rintro⟨h,_⟩;exact absurd h.symm e
theorem ln {S:Nat->Prop} {g:Nat->Nat} {j:Nat} {cs:List AV}:Own S g (sB [(j,cs)])=fun q=>S q∨g j=q:=by
 funext q
 unfold Own;refine propext ⟨?_,?_⟩
 ·rintro(h| ⟨i,ci,h,e⟩)
  ·exact .inl h
  ·obtain⟨rfl,_⟩:=bl.1 h;exact .inr e
 ·rintro(h|e)
  ·exact .inl h
  ·exact .inr ⟨j,cs,bl.2 ⟨rfl,rfl⟩,e⟩
theorem mg {g:Nat->Nat} {j:Nat} {cs:List AV}:BX g [(j,cs)]=fun q=>g j=q:=by
 funext q
 unfold BX;refine propext ⟨?_,?_⟩
 ·rintro⟨i,ci,h,e⟩
  obtain⟨rfl,_⟩:=bl.1 h;exact e
 ·intro e;exact⟨j,cs,bl.2 ⟨rfl,rfl⟩,e⟩
def sw (a b j:Nat):Nat:=if j=a then b else if j=b then a else j
theorem kA (a b j:Nat):sw a b (sw a b j)=j:=by
 unfold sw
 split <;>split <;>(try split)<;>omega
theorem xF {a b i j:Nat} (h:sw a b i=sw a b j):i=j:=by
 have:=congrArg (sw a b) h
 rwa[kA,kA]at this
def SX (a b:Nat):AV->AV
 | .ow j n k e=> .ow (sw a b j) n k e
 | .bp j o=> .bp (sw a b j) o
 |x=>x
def vK (a b j:Nat) (cs:List AV):List AV:=match cM j with
 |true=>cs.map (SX a b)
 |false=>cs
def oU (a b:Nat):BL->BL
 | []=>[]
 |(j,cs)::r=>(sw a b j,vK a b j cs)::oU a b r
def Vu (a b:Nat):CV->CV
 | .val v=> .val v
 | .box j o=> .box (sw a b j) o
def Q4 (a b:Nat):TV->TV
 | .box j o=> .box (sw a b j) o
 | .own j n k e=> .own (sw a b j) n k e
 | .vw j o n k=> .vw (sw a b j) o n k
 | .vs j o n c k e=> .vs (sw a b j) o n c k e
 | .clo fn fs cs=> .clo fn (fs.map (Vu a b)) (cs.map (Vu a b))
 |x=>x
def Te (a b:Nat):RT->RT
 | .own j n k e=> .own (sw a b j) n k e
 | .v r=> .v r
theorem m7 (a b j:Nat) (cs:List AV):(vK a b j cs).length=cs.length:=by
 unfold vK;split <;>simp
theorem RD (a b:Nat) (r:RT):(Te a b r).tv=Q4 a b r.tv:=by
 cases r with
 |own=>rfl
 |v r=>cases r<;>rfl
theorem rf {a b:Nat}:∀(l:BL) (j:Nat),ap (ay (oU a b l)) (sw a b j)=(ap (ay l) j).map fun o=>o.map (vK a b j)
 | [],_=>rfl
 |(i,cs)::r,j=>by
  by_cases e:i=j
  ·subst e
   rw[oU,ay,ay,am,am];rfl
  ·rw[oU,ay,ay,au _ _ e,au _ _ (fun h=>e (xF h))]
   exact rf r j
theorem Lg {a b:Nat} (l:BL) (j:Nat):ap (ay (oU a b l)) j=(ap (ay l) (sw a b j)).map fun o=>o.map (vK a b (sw a b j)):=by
 have:=rf (a:=a) (b:=b) l (sw a b j)
 rwa[kA]at this
theorem pL {a b:Nat} {l:BL} {j:Nat} {cs:List AV} (h:(sB l).bx j=some cs):(sB (oU a b l)).bx (sw a b j)=some (vK a b j cs):=by
 rw[bU]at h ⊢;rw[rf,h];rfl
theorem iv {a b:Nat} {l:BL} {j:Nat} {cs:List AV} (h:(sB (oU a b l)).bx j=some cs):∃c0,(sB l).bx (sw a b j)=some c0/\cs=vK a b (sw a b j) c0:=by
 rw[bU,Lg]at h;cases hl:ap (ay l) (sw a b j)with
 |none=>rw[hl]at h;cases h
 |some o=>
  rw[hl]at h;cases o with
  |none=>cases h
  |some c0=>
   simp only[Option.map_some,X_]at h
   exact⟨c0,bU.2 hl,h.symm⟩
theorem vE {a b:Nat} {l:BL} {j:Nat}:(sB (oU a b l)).kn (sw a b j)↔(sB l).kn j:=by
 unfold AS.kn sB;dsimp only;rw[rf]
 constructor
 ·rintro⟨x,h⟩
  cases hl:ap (ay l) j with
  |none=>rw[hl]at h;cases h
  |some o=>exact⟨o,rfl⟩
 ·rintro⟨x,h⟩
  rw[h];exact⟨_,rfl⟩
theorem oR {a b:Nat} {S:Nat->Prop} {g:Nat->Nat} {l:BL}:Own S g (sB (oU a b l))=Own S (fun j=>g (sw a b j)) (sB l):=by
 funext q
 refine propext ⟨?_,?_⟩
 ·rintro(h| ⟨j,cs,h,e⟩)
  ·exact .inl h
  ·obtain⟨c0,h0,_⟩:=iv h
   exact .inr ⟨sw a b j,c0,h0,by dsimp only;rw[kA];exact e⟩
 ·rintro(h| ⟨j,cs,h,e⟩)
  ·exact .inl h
  ·exact .inr ⟨sw a b j,_,pL h,e⟩
theorem ER {a b:Nat} {g:Nat->Nat} {l:BL}:BX g (oU a b l)=BX (fun j=>g (sw a b j)) l:=by
 funext q
 refine propext ⟨?_,?_⟩
 ·rintro⟨j,cs,h,e⟩
  obtain⟨c0,h0,_⟩:=iv h;exact⟨sw a b j,c0,h0,by dsimp only;rw[kA];exact e⟩
 ·rintro⟨j,cs,h,e⟩
  exact⟨sw a b j,_,pL h,e⟩
section
variable {a b:Nat} {S:Nat->Prop} {g:Nat->Nat} {l:BL} {w:World}
theorem QN {x:CV} {v:Value}:CV.M g (sB (oU a b l)) (Vu a b x) v↔CV.M (fun j=>g (sw a b j)) (sB l) x v:=by
 cases x with
 |val u=>exact Iff.rfl
 |box j o=>
  constructor
  ·rintro⟨h1,h2⟩
   exact⟨vE.1 h1,fun cs hc=>h2 _ (pL hc)⟩
  ·rintro⟨h1,h2⟩
   refine⟨vE.2 h1,fun cs hc=>?_⟩;obtain⟨c0,h0,_⟩:=iv hc;rw[kA]at h0;exact h2 c0 h0
theorem sH:∀{xs:List CV} {vs:List Value},qm g (sB (oU a b l)) (xs.map (Vu a b)) vs↔qm (fun j=>g (sw a b j)) (sB l) xs vs
 | [],[]=>Iff.rfl
 |x::xs,v::vs=>and_congr QN sH
 | [],_::_=>Iff.rfl
 |_::_,[]=>Iff.rfl
theorem Es {x:TV} {v:Value}:TV.M S g (sB (oU a b l)) w (Q4 a b x) v↔TV.M S (fun j=>g (sw a b j)) (sB l) w x v:=by
 cases x with
 |d x=>exact Iff.rfl
 |tup ts=>exact Iff.rfl
 |box j o=>exact QN (x:= .box j o)
 |rp cs=>exact Iff.rfl
 |own j n k e=>
  exact Pb
 |clo fn fs cs=>
  constructor
  ·rintro⟨us,vs,e,h1,h2⟩;exact⟨us,vs,e,sH.1 h1,sH.1 h2⟩
  ·rintro⟨us,vs,e,h1,h2⟩;exact⟨us,vs,e,sH.2 h1,sH.2 h2⟩
 |mp es=>exact Iff.rfl
 |nil=>exact Iff.rfl
 |und=>exact Iff.rfl
 |junk=>exact Iff.rfl
 |dfr f cs=>exact Iff.rfl
 |vw j o n k=>
  exact Pb
 |vs j o n c k e=>
  constructor
  ·rintro⟨h1,h2⟩
   exact⟨vE.1 h1,fun cs hc=>h2 _ (pL hc)⟩
  ·rintro⟨h1,h2⟩
   refine⟨vE.2 h1,fun cs hc=>?_⟩;obtain⟨c0,h0,rfl⟩:=iv hc;rw[kA]at h0;exact h2 c0 h0
theorem Ct:∀{xs:List TV} {vs:List Value},oq S g (sB (oU a b l)) w (xs.map (Q4 a b)) vs↔oq S (fun j=>g (sw a b j)) (sB l) w xs vs
 | [],[]=>Iff.rfl
 |x::xs,v::vs=>and_congr Es Ct
 | [],_::_=>Iff.rfl
 |_::_,[]=>Iff.rfl
theorem Ph {x:AV} {v:Value}:xY S g (sB (oU a b l)) w (SX a b x) v↔xY S (fun j=>g (sw a b j)) (sB l) w x v:=by
 cases x with
 |ow j n k e=>exact Es (S:=S) (w:=w) (x:= .own j n k e)
 |bp j o=>exact Es (S:=S) (w:=w) (x:= .box j o)
 |val=>exact Iff.rfl
 |sl=>exact Iff.rfl
 |nl=>exact Iff.rfl
theorem Qb {x:AV} {v:Value}:AV.M S w (SX a b x) v↔AV.M S w x v:=by
 cases x with
 |ow j n k e=>constructor <;>(intro h;cases h;exact .ow (by assumption))
 |bp j o=>constructor <;>(intro h;cases h;exact .bp (by assumption))
 |val=>exact Iff.rfl
 |sl=>exact Iff.rfl
 |nl=>exact Iff.rfl
theorem EJ {j i:Nat} {cs:List AV} {x:AV} (h:(vK a b j cs)[i]? =some x):∃y,cs[i]? =some y/\ ∀(v:Value),(AV.M S w x v↔AV.M S w y v)/\(cM j=true->x=SX a b y):=by
 unfold vK at h
 split at h
 ·rw[List.getElem?_map]at h
  cases hc:cs[i]? with
  |none=>rw[hc]at h;cases h
  |some y=>
   rw[hc]at h;cases h;exact⟨y,rfl,fun v=>⟨Qb,fun _=>rfl⟩⟩
 ·rename_i hl
  exact⟨x,h,fun v=>⟨Iff.rfl,fun h=>by rw[hl]at h;cases h⟩⟩
theorem yw {j i:Nat} {cs:List AV} {y:AV} (h:cs[i]? =some y):∃x,(vK a b j cs)[i]? =some x/\ ∀(v:Value),(AV.M S w x v↔AV.M S w y v)/\(cM j=true->x=SX a b y):=by
 unfold vK
 split
 ·exact⟨SX a b y,by rw[List.getElem?_map,h];rfl,fun v=>⟨Qb,fun _=>rfl⟩⟩
 ·rename_i hl
  exact⟨y,h,fun v=>⟨Iff.rfl,fun h=>by rw[hl]at h;cases h⟩⟩
theorem QK {j:Nat} {cs:List AV} {vs:List Value}:fK S w (vK a b j cs) vs↔fK S w cs vs:=by
 unfold fK;rw[m7]
 constructor
 ·rintro⟨h1,h2⟩
  refine⟨h1,fun i y v hy hv=>?_⟩;obtain⟨x,hx,h⟩:=yw (a:=a) (b:=b) (S:=S) (w:=w) (j:=j) hy;exact(h v).1.1 (h2 i x v hx hv)
 ·rintro⟨h1,h2⟩
  refine⟨h1,fun i x v hx hv=>?_⟩;obtain⟨y,hy,h⟩:=EJ (S:=S) (w:=w) hx;exact(h v).1.2 (h2 i y v hy hv)
theorem Ej {j B:Nat} {cs:List AV} (hw:bL (sw a b j)=bL j) (hl:cM (sw a b j)=cM j) (ht:ib (sw a b j)=ib j):mb S g (sB (oU a b l)) w (sw a b j) (vK a b j cs) B↔mb S (fun j=>g (sw a b j)) (sB l) w j cs B:=by
 constructor
 ·rintro⟨arr,e,h1,h2,h3,h4,h5⟩
  refine⟨arr,e,h1,QK.1 h2,by rw[<- hw];exact h3,fun hj i y v hy hv=>?_,by rw[<- ht];exact h5⟩;obtain⟨x,hx,h⟩:=yw (a:=a) (b:=b) (S:=S) (w:=w) (j:=j) hy;have h6:=h4 (by rw[hl];exact hj) i x v hx hv;rw[(h v).2 hj]at h6;exact Ph.1 h6
 ·rintro⟨arr,e,h1,h2,h3,h4,h5⟩
  refine⟨arr,e,h1,QK.2 h2,by rw[hw];exact h3,fun hj i x v hx hv=>?_,by rw[ht];exact h5⟩;obtain⟨y,hy,h⟩:=EJ (S:=S) (w:=w) hx;rw[(h v).2 (by rw[<- hl];exact hj)];exact Ph.2 (h4 (by rw[<- hl];exact hj) i y v hy hv)
end
def nN (a b:Nat):Bool:=(bL a == bL b) && ((cM a == cM b) && (ib a == ib b))
theorem EH {a b:Nat} (h:nN a b=true) (j:Nat):bL (sw a b j)=bL j/\cM (sw a b j)=cM j/\ib (sw a b j)=ib j:=by
 simp only[nN,B_,beq_iff_eq]at h
 unfold sw
 split
 ·rename_i e;subst e;exact⟨h.1.symm,h.2.1.symm,h.2.2.symm⟩
 ·split
  ·rename_i e;subst e;exact⟨h.1,h.2.1,h.2.2⟩
  ·exact⟨rfl,rfl,rfl⟩
section
variable {P:Program} {f:FuncId} {ts:List TV} {l l':BL} {r:RT} {a b:Nat}
theorem IB (hab:nN a b=true) {S:Nat->Prop} {g:Nat->Nat} {w:World} (h:Gi S g w (oU a b l)):Gi S (fun j=>g (sw a b j)) w l:=by
 refine⟨?_,?_,?_,?_,?_⟩
 ·rw[<- ER];exact h.tab
 ·rw[<- ER];exact h.blk
 ·intro k cs hk
  have:=h.gl k cs hk;rw[oR]at this;exact this
 ·intro j cs hj
  have h1:=h.bm _ _ (pL (a:=a) (b:=b) hj);obtain⟨k1,k2,k3⟩:=EH hab j;rw[oR]at h1;exact(Ej k1 k2 k3).1 h1
 ·intro i j ci cj hi hj e
  exact xF (h.inj _ _ _ _ (pL (a:=a) (b:=b) hi) (pL (a:=a) (b:=b) hj) e)
theorem Ia (hab:nN a b=true) {S:Nat->Prop} {g:Nat->Nat} {w w':World} {e:Ending} (h:xo S (fun j=>g (sw a b j)) l r l' w e w'):xo S g (oU a b l) (Te a b r) (oU a b l') w e w':=by
 obtain⟨v,g',he,h1,h2,h3,h4,h5⟩:=h;have hg:(fun j=>(fun i=>g' (sw a b i)) (sw a b j))=g':=by funext j;dsimp only;rw[kA]
 refine⟨v,fun i=>g' (sw a b i),he,?_,?_,?_,?_,?_⟩
 ·intro j cs cs' hj hj'
  obtain⟨c0,k1,rfl⟩:=iv hj;obtain⟨c1,k2,rfl⟩:=iv hj';obtain⟨k3,k4⟩:=h1 _ _ _ k1 k2;dsimp only at k3 ⊢;rw[kA]at k3;rw[m7,m7];exact⟨k3,k4⟩
 ·intro j cs' hj
  obtain⟨c0,k1,rfl⟩:=iv hj;obtain⟨k2,k3⟩:=h2 _ _ k1;rw[ER];refine⟨k2,?_⟩;obtain⟨q1,q2,q3⟩:=EH hab (sw a b j);have:=(Ej (a:=a) (b:=b) (S:=Own S g' (sB l')) (g:=fun i=>g' (sw a b i)) (l:=l') (w:=w') (cs:=c0) (B:=g' (sw a b j)) q1 q2 q3).2 (by rw[hg];exact k3);rw[oR,hg];rw[kA]at this;exact this
 ·intro i j ci cj hi hj e
  obtain⟨c0,k1,_⟩:=iv hi;obtain⟨c1,k2,_⟩:=iv hj;exact xF (h3 _ _ _ _ k1 k2 e)
 ·rw[RD,oR,hg,Es,hg]
  exact h4
 ·rw[ER];exact h5
theorem uQ {fn:Func} {R R':Ending->World->Prop} (hR:∀e w,R e w->R' e w) {x:Exit} {a:Act} {w:World} (h:bodyPost P fn R x a w):bodyPost P fn R' x a w:=by
 cases x with
 |normal=>obtain⟨h1,v,h2,h3⟩:=h;exact⟨h1,v,h2,hR _ _ h3⟩
 |ret=>obtain⟨h1,v,h2,h3⟩:=h;exact⟨h1,v,h2,hR _ _ h3⟩
 |panic c=>exact⟨h.1,hR _ _ h.2⟩
 |outgrown=>exact hR _ _ h
 |exit i=>exact h
 |goto l=>exact h
theorem az.swap (a b:Nat) (hab:nN a b=true) (h:az P f ts l r l'):az P f (ts.map (Q4 a b)) (oU a b l) (Te a b r) (oU a b l'):=by
 refine⟨h.enter,fun S g w vs hpre hv=>?_⟩;rw[oR,Ct]at hv;exact(h.calls S _ w vs (IB hab hpre) hv).mono fun e w' hr=>Ia hab hr
theorem gR.swap (a b:Nat) (hab:nN a b=true) (h:gR P f ts l r l'):gR P f (ts.map (Q4 a b)) (oU a b l) (Te a b r) (oU a b l'):=by
 obtain⟨fn,c,h1,h2,h3⟩:=h.body;refine⟨h.enter,fn,c,h1,h2,fun S g w vs hpre hv=>?_⟩;rw[oR,Ct]at hv;exact wp_mono (h3 S _ w vs (IB hab hpre) hv) fun e a w' hq=>uQ (fun e w' hr=>Ia hab hr) hq
end
section
variable {P:Program} {T:TypeId->Option Ty} {n:Nat} {ops:Array Oper} {id:Nat} {draw:Bool} {K:AS->Prop} {s:AS} {k:Nat} {o:Oper} {os:List Oper} {fps:List FP}
end
theorem PE {S S':Nat->Prop} {g g':Nat->Nat} {s s':AS} {w:World} (hS:S=S'):∀{ds:List DV} {vs:List Value},oq S g s w (ds.map .d) vs->oq S' g' s' w (ds.map .d) vs
 | [],[],_=>trivial
 |d::ds,v::vs,h=>⟨by subst hS;exact h.1,PE hS h.2⟩
 | [],_::_,h=>h.elim
 |_::_,[],h=>h.elim
theorem az.ren {P:Program} {f:FuncId} {j:Nat} {ds:List DV} {cs cs':List AV} {r:RV} (h:az P f (.box j 0::ds.map .d) [(j,cs)] (.v r) [(j,cs')]) (j':Nat) (hw:bL j'=bL j) (hl:cM j=false) (hl':cM j'=false):az P f (.box j' 0::ds.map .d) [(j',cs)] (.v r) [(j',cs')]:=by
 have ht:ib j'=false:=by
  cases e:ib j' with
  |false=>rfl
  |true=>rw[nB e]at hl';cases hl'
 have ht0:ib j=false:=by
  cases e:ib j with
  |false=>rfl
  |true=>rw[nB e]at hl;cases hl
 refine⟨h.enter,fun S g w vs hpre hv=>?_⟩;have hg:(fun i=>if i=j then g j' else g i) j=g j':=if_pos rfl;generalize hg1:(fun i=>if i=j then g j' else g i)=g1 at hg;have hO:Own S g1 (sB [(j,cs)])=Own S g (sB [(j',cs)]):=by rw[ln,ln,hg]
 have hX:BX g1 [(j,cs)]=BX g [(j',cs)]:=by rw[mg,mg,hg]
 have hpre1:Gi S g1 w [(j,cs)]:=by
  refine⟨?_,?_,?_,?_,?_⟩
  ·rw[hX];exact hpre.tab
  ·rw[hX];exact hpre.blk
  ·rw[hO];exact hpre.gl
  ·intro i ci hi
   obtain⟨rfl,rfl⟩:=bl.1 hi;obtain⟨arr,e,h1,h2,h3,_,_⟩:=hpre.bm j' ci (bl.2 ⟨rfl,rfl⟩);rw[hO,hg];exact⟨arr,e,h1,h2,by rw[<- hw];exact h3,fun h=>(by rw[hl]at h;cases h),fun h=>(by rw[ht0]at h;cases h)⟩
  ·intro i i2 ci cj h1 h2 _
   rw[(bl.1 h1).1,(bl.1 h2).1]
 have hv1:oq (Own S g1 (sB [(j,cs)])) g1 (sB [(j,cs)]) w (.box j 0::ds.map .d) vs:=by
  cases vs with
  |nil=>exact hv.elim
  |cons v vs=>
   obtain⟨hb,hv⟩:=hv;refine⟨⟨⟨some cs,by rw[sB,ay,am]⟩,fun ci hi=>?_⟩,PE hO.symm hv⟩;rw[hg];exact hb.2 cs (bl.2 ⟨rfl,rfl⟩)
 refine(h.calls S g1 w vs hpre1 hv1).mono ?_;rintro e w' ⟨v,g',rfl,h1,h2,h3,h4,h5⟩;have hg2:(fun i=>if i=j' then g' j else g' i) j'=g' j:=if_pos rfl;generalize(fun i=>if i=j' then g' j else g' i)=g2 at hg2;have hO2:Own S g2 (sB [(j',cs')])=Own S g' (sB [(j,cs')]):=by rw[ln,ln,hg2]
 refine⟨v,g2,rfl,?_,?_,?_,?_,?_⟩
 ·intro i ci ci' hi hi'
  obtain⟨rfl,rfl⟩:=bl.1 hi;obtain⟨_,rfl⟩:=bl.1 hi';have:=h1 j ci ci' (bl.2 ⟨rfl,rfl⟩) (bl.2 ⟨rfl,rfl⟩);rw[hg2,this.1,hg];exact⟨rfl,this.2⟩
 ·intro i ci hi
  obtain⟨rfl,rfl⟩:=bl.1 hi;obtain⟨k1,arr,e,k2,k3,k4,_,_⟩:=h2 j ci (bl.2 ⟨rfl,rfl⟩);rw[hX]at k1;rw[hg2,hO2];exact⟨k1,arr,e,k2,k3,by rw[hw];exact k4,fun h=>(by rw[hl']at h;cases h),fun h=>(by rw[ht]at h;cases h)⟩
 ·intro i i2 ci cj k1 k2 _
  rw[(bl.1 k1).1,(bl.1 k2).1]
 ·rw[hO2]
  cases r with
  |one d=>exact h4
  |tup l=>exact h4
 ·rw[<- hX];exact h5
theorem mo:∀(x:Rx),j3 x->f8 x<=1000000->aa Tryz.prog 81 [dR x] (.one (dN .i64 (uq x))):=by
 refine eM fun op na xs nb ys nm args ih hx hs=>?_
 have hd0:=Ix (.mk op na xs nb ys nm args);obtain⟨_,_,_,_,_,hlen,hargs⟩:=hx;rw[f8]at hs;rw[uq,f8]at hd0;refine BO ?_;refine kV func81 ?_
 refine aq (Nat × Nat) (fun s=>s.1<=args.length/\s.2<=lF args/\max s.2 (lF (args.drop s.1))=lF args) (fun s=>⟨[(2, .d (dN .i64 0)),(3, .d (dN .i64 s.2)),(7, .d (.leaf (.sl args.length (fG args)))),(8, .d (dN .i64 args.length)),(9, .d (dN .i64 s.1))],[]⟩) (fun s=>args.length-s.1) (0,0) ⟨Nat.zero_le _,Nat.zero_le _,Nat.zero_max _⟩
  kw ?_
 rintro⟨i,d⟩ ⟨hi,h1,h2⟩;dsimp only at hi h1 h2 ⊢;refine kI ?_
 by_cases hlt:i<args.length
 ·refine kT ?_
  obtain⟨o1,na1,xs1,nb1,ys1,nm1,n1,cs1,hA⟩:=aY args[i];have hx:args[i]? =some args[i]:=by simp[hlt]
  have hat:∀(j:Nat) (a:AV),(ab o1 na1 xs1 nb1 ys1 nm1 n1 cs1)[j]? =some a->(fG args)[i*7+j]? =some a:=fun j a h=>eX args i args[i] hx j a (by rw[hA];exact h)
  have hm:=List.getElem_mem hlt;have hsz:=lp hm;have hdp:=xp hm;have c:=ih args[i] hm (hargs _ hm) O_;rw[show dR args[i]= .agg (ab o1 na1 xs1 nb1 ys1 nm1 n1 cs1) from congrArg DV.agg hA]at c;rw[List.drop_eq_getElem_cons hlt,lF]at h2;generalize uq args[i]=k at *;refine np ?_;refine Ot (a:=d) (b:=k) (m:=(max d k:Nat)) O_ rfl rfl rfl rfl rfl rfl ?_;refine kW ?_;exact⟨(i+1,max d k),⟨hlt,by dsimp only;omega,by dsimp only;omega⟩,by dsimp only;omega,weak ⟨rfl,rfl,rfl,rfl,ai O_ O_,trivial⟩ trivial rfl⟩
 ·exact Pj
theorem iw:∀(f:Nat) (m:Md) (ts:List Tk) (e:Ex) (r:List Tk),pP f m ts=some (.ok (e,r))-> ∀t∈r,t∈ts
 |0,_,_,_,_,h=>by cases h
 |f+1, .sum,ts,e,r,h=>by
  rw[je]at h;exact OE
 |f+1, .prod,ts,e,r,h=>by
  rw[gr]at h;exact OE
 |f+1, .more two e0,ts,e,r,h=>by
  rw[fo]at h
  split at h
  ·rename_i k r1 h0
   split at h
   ·rename_i e1 r2 h1
    exact fun t ht=>zT h0 t (iw f _ _ _ _ h1 t (iw f _ _ _ _ h t ht))
   ·exact nI
  ·cases h;exact fun t ht=>ht
 |f+1, .un,ts,e,r,h=>by
  rw[mU]at h
  split at h
  ·rename_i r1 h0
   split at h
   ·rename_i e1 r2 h1
    cases h;exact fun t ht=>gF h0 t (iw f _ _ _ _ h1 t ht)
   ·exact nI
  ·exact iw f _ _ _ _ h
 |f+1, .prim,ts,e,r,h=>by
  rw[gt]at h
  split at h
  ·rename_i r1 h0
   split at h
   ·rename_i e1 r2 h1
    split at h
    ·rename_i r3 h2
     cases h;exact fun t ht=>gF h0 t (iw f _ _ _ _ h1 t (gF h2 t ht))
    ·cases h
   ·exact nI
  ·split at h
   ·rename_i t r1 _
    split at h
    ·injection h with h
     obtain⟨q,u,_,_,hsub⟩:=zG h;exact fun t ht=>List.mem_cons_of_mem _ (hsub t ht)
    ·exact IC
   ·cases h
theorem ga {E:Nat}:∀(f:Nat) (m:Md) (ts:List Tk) (x:oi),fI ts->(∀t∈ts,t.2.2<=E)->pP f m ts=some x->(match x with
  | .ok (_,r)=>fI r
  | .error (p,c)=>p<=E/\c≠0)
 |0,_,_,_,_,_,h=>by cases h
 |f+1, .sum,ts,x,hw,hE,h=>by
  rw[je]at h;exact P5
 |f+1, .prod,ts,x,hw,hE,h=>by
  rw[gr]at h;exact P5
 |f+1, .more two e0,ts,x,hw,hE,h=>by
  rw[fo]at h;obtain⟨t,r,rfl⟩:=hw.ne
  split at h
  ·rename_i k r1 h0
   obtain⟨rfl,h4,_⟩:=qZ h0;have hw2:=hw.tail O_;have hE2:∀t∈r1,t.2.2<=E:=fun t ht=>hE t (List.mem_cons_of_mem _ ht)
   split at h
   ·rename_i e1 r2 h1
    have a:=ga f _ _ _ hw2 hE2 h1;have hsub:=iw f _ _ _ _ h1;exact ga f _ _ _ a (fun t ht=>hE2 t (hsub t ht)) h
   ·exact ga f _ _ _ hw2 hE2 h
  ·cases h;exact hw
 |f+1, .un,ts,x,hw,hE,h=>by
  rw[mU]at h;obtain⟨t,r,rfl⟩:=hw.ne
  split at h
  ·rename_i r1 h0
   obtain⟨rfl,h4⟩:=oC h0;have hw2:=hw.tail O_;have hE2:∀t∈r1,t.2.2<=E:=fun t ht=>hE t (List.mem_cons_of_mem _ ht)
   split at h
   ·rename_i e1 r2 h1
    have a:=ga f _ _ _ hw2 hE2 h1;cases h;exact a
   ·exact ga f _ _ _ hw2 hE2 h
  ·exact ga f _ _ _ hw hE h
 |f+1, .prim,ts,x,hw,hE,h=>by
  rw[gt]at h;obtain⟨t,r,rfl⟩:=hw.ne
  split at h
  ·rename_i r1 h0
   obtain⟨rfl,h4⟩:=oC h0;have hw2:=hw.tail O_;have hE2:∀t∈r1,t.2.2<=E:=fun t ht=>hE t (List.mem_cons_of_mem _ ht)
   split at h
   ·rename_i e1 r2 h1
    have a:=ga f _ _ _ hw2 hE2 h1;have a:fI r2:=a;have hsub:=iw f _ _ _ _ h1;obtain⟨u,r3,rfl⟩:=a.ne
    split at h
    ·rename_i r4 h2
     obtain⟨rfl,h5⟩:=oC h2;cases h;exact a.tail O_
    ·cases h
     exact⟨hE2 _ (hsub u S_),by decide⟩
   ·exact ga f _ _ _ hw2 hE2 h
  ·dsimp only at h
   have ht:=hE t S_
   split at h
   ·rename_i h2
    have hw2:=hw.tail O_
    injection h with h
    unfold iy at h
    split at h
    ·subst h;exact⟨ht,by decide⟩
    ·split at h
     ·subst h;exact⟨ht,by decide⟩
     ·split at h
      ·split at h
       ·subst h;exact hw2.tail O_
       ·subst h;exact hw2
      ·subst h;exact hw2
   ·split at h
    ·cases h;exact hw.tail O_
    ·cases h;exact⟨ht,by decide⟩
end Go.Proofs.YtnchbpoopnjghaaGreatDoor
