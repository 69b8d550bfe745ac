/- back of the reference: a list shifted to the right. -/
import Derived.Test.YtnchbpoopnjghaaGreatDoorRAf
set_option maxHeartbeats 100000000
set_option linter.all false
open Go.Proofs.Tryz
namespace Go.Proofs.YtnchbpoopnjghaaGreatDoor
open Go.RowKit
def Jl(a x:Nat)(b:a<4294967296)(c:x<4294967296):bits BinOp.or IntKind.u64 (x:Int) ((a:Int)*4294967296)=((a*4294967296+x:Nat):Int):=by have h:=iE a x b c;have e:(a:Int)*4294967296=((a*4294967296:Nat):Int):=O_;rw[e,u64_or_nat _ _ O_ O_]at h ⊢;rw[Nat.or_comm];exact h
def F1(s x a:Nat)(c:s<=31)(i:x<4294967296):(a*4294967296+x)/2^s%4294967296=x/2^s+a%2^s*2^(32-s)/\x/2^s+a%2^s*2^(32-s)<4294967296:=by
 have b:=Ej s c;have d:a*4294967296+x=x+2^s*(a*2^(32-s)):=by
  have:a*4294967296=a*(2^s*2^(32-s)):=by rw[b]
  rw[this];grind
 rw[d,Nat.add_mul_div_left _ _ (Nat.two_pow_pos s)];have g:=Nat.div_add_mod a (2^s);have h:=Nat.mod_lt a (Nat.two_pow_pos s);have j:x/2^s<2^(32-s):=by rw[Nat.div_lt_iff_lt_mul (Nat.two_pow_pos s),Nat.mul_comm,b];exact i
 have f:(a%2^s+1)*2^(32-s)<=2^s*2^(32-s):=P_ _ h;rw[b,Nat.add_mul,Nat.one_mul]at f;have e:a*2^(32-s)=4294967296*(a/2^s)+a%2^s*2^(32-s):=by
  conv=>lhs;rw[<- g]
  rw[<- b];grind
 rw[e];generalize a%2^s*2^(32-s)=M at *;generalize x/2^s=D at *;generalize a/2^s=H at *;exact⟨by omega,by omega⟩
def LL(A:Option Addr)(n c s:Nat)(xs:List Nat)(w:World)(H:a7 w A n c xs)(Z:n<=4294967296)(v:s<=31):
 Calls prog 310 #[.slice A n c, .int .i64 s] w (jo (fun m=>m=digs (val xs/2^s)) w):=by
 have W:=H.cap;have X:=H.lim;have u:=Lib.hid H;clear H;have hmk:=eD n n rfl O_;have a:=dp w (ax n);have z:Below w.heap.size w (w.alloc (de (ax n))):=(Below.refl _ _).alloc (l_ _) _;have Hrow:=Lib.hid a;have Hb0:=Lib.hid z;clear a z
 go_enter func310,ntmps310
 go_wp2_with fail
 go_loopw [6] (fun i wr=>∃(k:Nat)(m:List Nat),k<=n/\i= .int .i64 k /\
  (Wd m/\m.length=n/\(∀j,k<=j->m.getD j 0=0)/\val m*2^s+xs.getD 0 0%2^s=val (xs.take k)+4294967296^k*(xs.getD k 0%2^s))/\eK wr w.heap.size m/\Below w.heap.size w wr)
  (fun i _=>n-(intOf i).toNat)
 case atStart=>exact⟨0,ax n,Nat.zero_le _,rfl,⟨b6 _,aN _,fun j _=>aV _ _,by unfold ax;rw[bf];simp[val]⟩,Hrow.out,Hb0.out⟩
 case round=>
  obtain⟨k,m,Y,rfl,f,a,r⟩:=hrel;by_cases C:k<n
  ·have D:(k:Int)<n:=O_;obtain⟨Q,R,rfl,o,hc1⟩:=u.out.at O_;have B:=(r.cell (p:=⟨Q,R+k,none⟩) o).trans (hc1 k C);have V:=a.frozen k;have U:=a.cell k (by rw[f.2.1];omega);have t:=u.out.wd.getD k;obtain⟨x,l⟩:∃x,xs.getD k 0=x:=⟨_,rfl⟩;obtain⟨g,b⟩:∃g,xs.getD (k+1) 0=g:=⟨_,rfl⟩;have G:=u.out.wd.getD (k+1);rw[b]at G;rw[l]at B t;obtain⟨N,O⟩:=F1 s x g v t;have h:=tO v (by rw[f.2.1];exact C) (f.2.2.1 k (l_ _)) f.2.2.2;rw[l,b]at h;have HR:=Lib.hid (a.set k (x/2^s+g%2^s*2^(32-s)));have HB:=Lib.hid (r.setCell (p:=⟨w.heap.size,k,none⟩) (l_ _) (bP (x/2^s+g%2^s*2^(32-s))));have Hv:=Lib.hid f;have Hst:=Lib.hid h;have Hq:=Lib.hid (And.intro N O);have Hxx2:=Lib.hid b;by_cases J:k+1<n
   ·have I:=(r.cell (p:=⟨Q,R+(k+1),none⟩) o).trans (hc1 (k+1) J);rw[b]at I;have E:(k:Int)+1<n:=O_;have K:=Jl g x G t;obtain⟨y,L⟩:∃y,g*4294967296+x=y:=⟨_,rfl⟩;rw[L]at K;have T:=Lib.hid L;clear hc1 hmk f h N O a r L l b
    go_wp2_with fail
    have e1:(y:Int)/2^s%4294967296=((x/2^s+g%2^s*2^(32-s):Nat):Int):=by rw[<- Hq.out.1,T.out,Int.natCast_emod,Int.natCast_ediv,Int.natCast_pow];rfl
    exact SQ
   ·have E:¬(k:Int)+1<n:=O_;have q:g=0:=by rw[<- b,H_,List.getElem?_eq_none (by rw[u.out.len];omega)];rfl
    have Hx20:=Lib.hid q;clear hc1 hmk f h N O a r l b q
    go_wp2_with fail
    have e1:(x:Int)/2^s%4294967296=((x/2^s+g%2^s*2^(32-s):Nat):Int):=by rw[<- Hq.out.1,Hx20.out,Int.natCast_emod,Int.natCast_ediv,Int.natCast_pow,Nat.zero_mul,J_];rfl
    exact SQ
  ·obtain rfl:k=n:=O_;have D:¬(k:Int)<k:=O_;have F:xs.getD k 0=0:=by rw[H_,List.getElem?_eq_none (by rw[u.out.len];omega)];rfl
   have d:=f.2.2.2;rw[F,Nat.zero_mod,Nat.mul_zero,Nat.add_zero,K_ (by rw[u.out.len];exact l_ _)]at d;have d:=DG (Nat.mod_lt _ (Nat.two_pow_pos s)) d;have P:=Lib.hid (a.wrd' f.1 f.2.1 O_);have Hval:=Lib.hid d;have S:=Lib.hid r;clear d F f a r hmk
   go_wp2_with (go_at_call 172;(with_reducible refine(dm _ _ _ m _ P.out).mono ?_);rintro e w' ⟨rfl,rfl⟩)
   go_ret
   refine⟨_,_,_,_,rfl,P.out.trim,?_,S.out⟩;unfold trim;rw[Hval.out]
end Go.Proofs.YtnchbpoopnjghaaGreatDoor
