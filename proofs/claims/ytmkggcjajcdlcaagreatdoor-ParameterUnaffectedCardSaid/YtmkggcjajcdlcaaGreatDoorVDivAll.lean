/- divide of the program, every case. -/
import Derived.Test.YtmkggcjajcdlcaaGreatDoorVDivB
import Derived.Test.YtmkggcjajcdlcaaGreatDoorVAg
set_option maxHeartbeats 100000000
set_option linter.all false
open Go.Proofs.Tryz
namespace Go.Proofs.YtmkggcjajcdlcaaGreatDoor
open Go.RowKit
section
attribute [local go_sem ↓] Go.wp_at_zero Go.wp_at_succ
set_option maxRecDepth 100000 in
theorem uP (A B:Option Addr) (n c m d a b:Nat) (w:World) (hx:aC w A n c (digs a)) (hy:aC w B m d (digs b)) (hab:b<=a) (hm:m=1) (hn3:3<=n) (hs:n<=2147483648):
 Calls Tryz.prog 215 #[.slice A n c, .slice B m d] w (gR (a/b) (a%b) w):=by
 subst hm;obtain⟨x,hxx⟩:∃x,(digs b).getD 0 0=x:=⟨_,rfl⟩
 have hxb:x=b:=by
  exact PO
 have hx32:x<4294967296:=by rw[<- hxx];exact hy.wd.getD _
 have hx0:0<x:=by
  exact Rh
 obtain⟨o,ho⟩:∃o,bL (a:Int) b=o:=⟨_,rfl⟩;have hcmp:=PU ho w hx hy;have ho1:¬o<0:=by have:=gx (a:=(a:Int)) (b:=b) (by omega);omega
 obtain⟨b1,o1,hB1,hbb1,hc1⟩:=hy.at (by omega);have hc2:=hc1 0 (by omega);rw[Nat.add_zero]at hc2;rw[hxx]at hc2;have hdw:=fun W' h=>uN A n c x (digs a) W' h (by omega) hx0 hx32
 rw[ae,hxb]at hdw;rw[hxb]at hc2;have Hx:=Lib.hid hx;have Hcmp:=Lib.hid hcmp;have Hdw:=Lib.hid hdw;have Hc2:=Lib.hid hc2;have t0:¬(n:Int)<=2:=by omega
 clear hx hy hcmp hc1 hc2 ho hxx hdw hxb hx32 hx0;subst hB1
 go_enter func215,ntmps215
 go_wp2_with fail
 ((with_reducible refine Hcmp.out.mono ?_);rintro e w1 ⟨rfl,hb1⟩;have hE1:aK w w1:=hb1;have c1:=Sd Hc2.out hE1)
 go_wp2_with fail
 ((with_reducible refine(Hdw.out _ (Hx.out.ext hE1)).mono ?_);rintro e w2 ⟨A1,n1,c1,B1,m1,d1,rfl,h1,h2,hb2⟩)
 go_wp2_with fail
 refine bodyPost_ret (v:= .tuple #[.slice A1 n1 c1, .slice B1 m1 d1]) (by simp[results,results215,go_sem]) rfl ?_;exact⟨_,_,_,_,_,_,rfl,h1,h2,hE1.more hb2⟩
theorem LA {a b:Nat} (ha:(digs a).length<=2147483648) (hb:0<b):xk a b:=by
 intro A n c B m d w hx hy;have hn:=hx.len;have hm:=hy.len
 have hm0:m≠0:=by
  exact Qv
 by_cases h:a<b
 ·exact yo A B n c m d a b w hx hy h (by omega)
 ·by_cases h2:n<=2
  ·exact uV A B n c m d a b w hx hy (by omega) hb h2
  ·by_cases h1:m=1
   ·exact uP A B n c m d a b w hx hy (by omega) h1 (by omega) (by omega)
   ·exact vt A B n c m d a b w hx hy (by omega) (by omega) (by omega) (by omega)
end
end Go.Proofs.YtmkggcjajcdlcaaGreatDoor
