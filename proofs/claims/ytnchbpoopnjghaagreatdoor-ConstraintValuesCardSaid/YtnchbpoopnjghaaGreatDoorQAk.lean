/- Pow of the reference. Valid, Int64 and Bits of both packages. Int64 of both packages. Bits of the reference. -/
import Derived.Test.YtnchbpoopnjghaaGreatDoorQAj
set_option maxHeartbeats 100000000
set_option linter.all false
open Go.Proofs.Tryz
namespace Go.Proofs.YtnchbpoopnjghaaGreatDoor
open Go.RowKit
section
attribute [local go_sem ↓] Go.wp_at_zero Go.wp_at_succ
def eV (na:Bool) (xs:List Nat):Bool:=decide ((trim xs).length=xs.length) && (!na || decide (0<xs.length))
theorem Ji {xs:List Nat} (hw:Wd xs) (h:0<xs.length):(trim xs).length=xs.length↔xs.getD (xs.length-1) 0≠0:=by
 constructor
 ·intro h1 h2
  have h3:=ko (xs:=xs) (k:=xs.length) (l_ _) h h2;rw[List.take_length]at h3;have h4:=bR (xs:=xs.take (xs.length-1)) (hw.take _);rw[h3,h1,U_]at h4;omega
 ·intro h1
  have h2:=gS hw (k:=xs.length) (l_ _) (.inr h1);rw[List.take_length]at h2;rw[h2]
end
theorem Ag {y:Nat} (h:0<y):bitLen y=bitLen (y/2)+1:=by
 by_cases h1:y/2=0
 ·have:y=1:=O_
  subst this;decide
 ·have:=bitLen_shift y 1 h1
  simp only[Nat.pow_one]at this
  omega
theorem E1 (A:Option Addr) (n c v:Nat) (w:World) (hx:bi w A n c (digs v)) (hs:n<=4294967296):
 Calls Tryz.prog 307 #[.slice A n c] w fun e w'=>e= .returned (.int .i64 (bitLen v:Int))/\w=w':=by
 by_cases h0:n=0
 ·have hv:v=0:=by
   have:=hx.len;rw[h0]at this;exact fU.1 (E_ this)
  have hb:bitLen v=0:=by rw[hv];rfl
  rw[hb];subst h0;clear hx hv hb
  go_enter func307,ntmps307
  go_wp2
  go_ret
  exact⟨rfl,rfl⟩
 ·have h0':((n:Int) == 0)=false:=by simp;omega
  obtain⟨b1,o1,rfl,_,hc1⟩:=hx.at O_;have hc2:=hc1 (n-1) O_;clear hc1;have hx1:=hx.wd.getD (n-1);obtain⟨k,hk⟩:∃k,n=k+1:=⟨n-1,by omega⟩;have hb:=sC hx.wd (wm _) k (by rw[hx.len,hk]);rw[ah]at hb;rw[show n-1=k by omega]at hc2 hx1;generalize(digs v).getD k 0=x at hc2 hx1 hb;have hb32:=qb x hx1;have Hb:=Lib.hid hb.2;have Hk:=Lib.hid hk;have g1:(0:Int)<=(n:Int)-1:=O_
  have g2:(n:Int)-1<n:=O_
  have hc3:w.cell? ⟨b1,o1+(n-1),none⟩=some (bZ x):=by rw[show n-1=k by omega];exact hc2
  clear hx hb hk hc2
  go_enter func307,ntmps307
  go_wp2
  go_loop [3,4] (fun a i=>∃(j y:Nat),a= .int .i64 j/\i= .int .u32 y/\j+bitLen y=bitLen x/\y<4294967296) (fun _ i=>(intOf i).toNat)
  case atStart=>exact⟨0,x,rfl,rfl,by omega,hx1⟩
  case round=>
   obtain⟨j,y,rfl,rfl,hjy,hy⟩:=hrel;have hj32:j<=32:=O_
   by_cases hy0:0<y
   ·have hh:=Ag hy0
    have t0:(0:Int)<y:=O_
    have Hjy:=Lib.hid hjy;have Hh:=Lib.hid hh;clear hjy hh
    go_wp2
    go_round
    case rel=>exact⟨j+1,y/2,by go_num,by go_num,by have:=Hjy.out;have:=Hh.out;omega,by omega⟩
    case measure=>simp[intOf];omega
   ·have hy1:y=0:=O_
    subst hy1;have hj:j=bitLen x:=by rw[show bitLen 0=0 from rfl]at hjy;omega
    have Hj:=Lib.hid hj;clear hjy hj
    go_wp2
    go_ret
    refine⟨Qt ?_,rfl⟩;have h1:=Hj.out;have h2:=Hb.out;have h3:=Hk.out
    first|omega|(rw[IntWalk.i64_in _ O_];omega)|(rw[Cx O_];omega)
end Go.Proofs.YtnchbpoopnjghaaGreatDoor
