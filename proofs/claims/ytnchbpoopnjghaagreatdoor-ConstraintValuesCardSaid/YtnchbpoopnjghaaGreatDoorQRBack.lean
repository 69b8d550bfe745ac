/- back of the reference: a list shifted to the right. -/
import Derived.Test.YtnchbpoopnjghaaGreatDoorQAf
set_option maxHeartbeats 100000000
set_option linter.all false
open Go.Proofs.Tryz
namespace Go.Proofs.YtnchbpoopnjghaaGreatDoor
open Go.RowKit
theorem JZ (a x:Nat) (ha:a<4294967296) (hx:x<4294967296):bits BinOp.or IntKind.u64 (x:Int) ((a:Int)*4294967296)=((a*4294967296+x:Nat):Int):=by
 have h:=ij a x ha hx;have e:(a:Int)*4294967296=((a*4294967296:Nat):Int):=O_
 rw[e,u64_or_nat _ _ O_ O_]at h ⊢;rw[Nat.or_comm];exact h
theorem FT (s x x2:Nat) (h31:s<=31) (hx:x<4294967296):(x2*4294967296+x)/2^s%4294967296=x/2^s+x2%2^s*2^(32-s)/\x/2^s+x2%2^s*2^(32-s)<4294967296:=by
 have hp:=Dp s h31
 have e1:x2*4294967296+x=x+2^s*(x2*2^(32-s)):=by
  have:x2*4294967296=x2*(2^s*2^(32-s)):=by rw[hp]
  rw[this];grind
 rw[e1,Nat.add_mul_div_left _ _ (Nat.two_pow_pos s)];have hd:=Nat.div_add_mod x2 (2^s);have hm:=Nat.mod_lt x2 (Nat.two_pow_pos s)
 have hq:x/2^s<2^(32-s):=by
  rw[Nat.div_lt_iff_lt_mul (Nat.two_pow_pos s),Nat.mul_comm,hp];exact hx
 have h1:(x2%2^s+1)*2^(32-s)<=2^s*2^(32-s):=P_ _ hm;rw[hp,Nat.add_mul,Nat.one_mul]at h1
 have e2:x2*2^(32-s)=4294967296*(x2/2^s)+x2%2^s*2^(32-s):=by
  conv=>lhs;rw[<- hd]
  rw[<- hp];grind
 rw[e2];generalize x2%2^s*2^(32-s)=M at *;generalize x/2^s=D at *;generalize x2/2^s=H at *;exact⟨by omega,by omega⟩
theorem LN (A:Option Addr) (n c s:Nat) (xs:List Nat) (w:World) (hx:bi w A n c xs) (hs:n<=4294967296) (h31:s<=31):
 Calls Tryz.prog 310 #[.slice A n c, .int .i64 s] w (js (fun zs=>zs=digs (val xs/2^s)) w):=by
 have hnc:=hx.cap;have hc:=hx.lim;have Hx:=Lib.hid hx;clear hx;have hmk:=eJ n n rfl O_;have hrow:=dy w (aF n);have hb0:Below w.heap.size w (w.alloc (du (aF n))):=(Below.refl _ _).alloc (l_ _) _;have Hrow:=Lib.hid hrow;have Hb0:=Lib.hid hb0;clear hrow hb0
 go_enter func310,ntmps310
 go_wp2_with fail
 go_loopw [6] (fun i wr=>∃(k:Nat) (zs:List Nat),k<=n/\i= .int .i64 k /\
  (Wd zs/\zs.length=n/\(∀j,k<=j->zs.getD j 0=0)/\val zs*2^s+xs.getD 0 0%2^s=val (xs.take k)+4294967296^k*(xs.getD k 0%2^s))/\eS wr w.heap.size zs/\Below w.heap.size w wr)
  (fun i _=>n-(intOf i).toNat)
 case atStart=>exact⟨0,aF n,Nat.zero_le _,rfl,⟨cH _,aO _,fun j _=>a6 _ _,by unfold aF;rw[bv];simp[val]⟩,Hrow.out,Hb0.out⟩
 case round=>
  obtain⟨k,zs,hk,rfl,hv,hrow,hb⟩:=hrel
  by_cases hkn:k<n
  ·have hkn':(k:Int)<n:=O_
   obtain⟨b1,o1,rfl,hbb1,hc1⟩:=Hx.out.at O_;have hc1k:=(hb.cell (p:=⟨b1,o1+k,none⟩) hbb1).trans (hc1 k hkn);have hfr:=hrow.frozen k;have hcz:=hrow.cell k (by rw[hv.2.1];omega);have hx1:=Hx.out.wd.getD k;obtain⟨x,hxx⟩:∃x,xs.getD k 0=x:=⟨_,rfl⟩;obtain⟨x2,hxx2⟩:∃x2,xs.getD (k+1) 0=x2:=⟨_,rfl⟩;have hx2:=Hx.out.wd.getD (k+1);rw[hxx2]at hx2;rw[hxx]at hc1k hx1;obtain⟨q1,q2⟩:=FT s x x2 h31 hx1;have hst:=sI h31 (by rw[hv.2.1];exact hkn) (hv.2.2.1 k (l_ _)) hv.2.2.2;rw[hxx,hxx2]at hst;have HR:=Lib.hid (hrow.set k (x/2^s+x2%2^s*2^(32-s)));have HB:=Lib.hid (hb.setCell (p:=⟨w.heap.size,k,none⟩) (l_ _) (bZ (x/2^s+x2%2^s*2^(32-s))));have Hv:=Lib.hid hv;have Hst:=Lib.hid hst;have Hq:=Lib.hid (And.intro q1 q2);have Hxx2:=Lib.hid hxx2
   by_cases hk1:k+1<n
   ·have hc2:=(hb.cell (p:=⟨b1,o1+(k+1),none⟩) hbb1).trans (hc1 (k+1) hk1)
    rw[hxx2]at hc2;have hkn2:(k:Int)+1<n:=O_
    have hor:=JZ x2 x hx2 hx1;obtain⟨y,hy⟩:∃y,x2*4294967296+x=y:=⟨_,rfl⟩;rw[hy]at hor;have Hy:=Lib.hid hy;clear hc1 hmk hv hst q1 q2 hrow hb hy hxx hxx2
    go_wp2_with fail
    have e1:(y:Int)/2^s%4294967296=((x/2^s+x2%2^s*2^(32-s):Nat):Int):=by
     rw[<- Hq.out.1,Hy.out,Int.natCast_emod,Int.natCast_ediv,Int.natCast_pow];rfl
    exact UC
   ·have hkn2:¬(k:Int)+1<n:=O_
    have hx20:x2=0:=by rw[<- hxx2,H_,List.getElem?_eq_none (by rw[Hx.out.len];omega)];rfl
    have Hx20:=Lib.hid hx20;clear hc1 hmk hv hst q1 q2 hrow hb hxx hxx2 hx20
    go_wp2_with fail
    have e1:(x:Int)/2^s%4294967296=((x/2^s+x2%2^s*2^(32-s):Nat):Int):=by
     rw[<- Hq.out.1,Hx20.out,Int.natCast_emod,Int.natCast_ediv,Int.natCast_pow,Nat.zero_mul,J_];rfl
    exact UC
  ·obtain rfl:k=n:=O_
   have hkn':¬(k:Int)<k:=O_
   have hx0:xs.getD k 0=0:=by rw[H_,List.getElem?_eq_none (by rw[Hx.out.len];omega)];rfl
   have hval:=hv.2.2.2;rw[hx0,Nat.zero_mod,Nat.mul_zero,Nat.add_zero,K_ (by rw[Hx.out.len];exact l_ _)]at hval;have hval:=CX (Nat.mod_lt _ (Nat.two_pow_pos s)) hval;have Hw:=Lib.hid (hrow.wrd' hv.1 hv.2.1 O_);have Hval:=Lib.hid hval;have Hb:=Lib.hid hb;clear hval hx0 hv hrow hb hmk
   go_wp2_with (go_at_call 172;(with_reducible refine(dz _ _ _ zs _ Hw.out).mono ?_);rintro e w' ⟨rfl,rfl⟩)
   go_ret
   refine⟨_,_,_,_,rfl,Hw.out.trim,?_,Hb.out⟩;unfold trim;rw[Hval.out]
end Go.Proofs.YtnchbpoopnjghaaGreatDoor
