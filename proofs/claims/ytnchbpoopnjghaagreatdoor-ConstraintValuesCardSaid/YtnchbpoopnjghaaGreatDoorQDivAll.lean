/- divide of the program, every case. -/
import Derived.Test.YtnchbpoopnjghaaGreatDoorQDivB
import Derived.Test.YtnchbpoopnjghaaGreatDoorQAg
set_option maxHeartbeats 100000000
set_option linter.all false
open Go.Proofs.Tryz
namespace Go.Proofs.YtnchbpoopnjghaaGreatDoor
open Go.RowKit
section
attribute [local go_sem ↓] Go.wp_at_zero Go.wp_at_succ
set_option maxRecDepth 100000 in
theorem wY (A B:Option Addr) (n c m d a b:Nat) (w:World) (hx:bi w A n c (digs a)) (hy:bi w B m d (digs b)) (hab:b<=a) (hm:m=1) (hn3:3<=n) (hs:n<=2147483648):
 Calls Tryz.prog 282 #[.slice A n c, .slice B m d] w (jG (a/b) (a%b) w):=by
 subst hm;obtain⟨x,hxx⟩:∃x,(digs b).getD 0 0=x:=⟨_,rfl⟩
 have hxb:x=b:=by
  exact TE
 have hx32:x<4294967296:=by rw[<- hxx];exact hy.wd.getD _
 have hx0:0<x:=by
  exact TY
 obtain⟨o,ho⟩:∃o,bQ (a:Int) b=o:=⟨_,rfl⟩;have hcmp:=Ub ho w hx hy;have ho1:¬o<0:=by have:=jn (a:=(a:Int)) (b:=b) O_;omega
 obtain⟨b1,o1,hB1,hbb1,hc1⟩:=hy.at O_;have hc2:=hc1 0 O_;rw[Nat.add_zero]at hc2;rw[hxx]at hc2;have hdw:=fun W' h=>xz A n c x (digs a) W' h O_ hx0 hx32
 rw[ah,hxb]at hdw;rw[hxb]at hc2;have Hx:=Lib.hid hx;have Hcmp:=Lib.hid hcmp;have Hdw:=Lib.hid hdw;have Hc2:=Lib.hid hc2;have t0:¬(n:Int)<=2:=O_
 clear hx hy hcmp hc1 hc2 ho hxx hdw hxb hx32 hx0;subst hB1
 go_enter func282,ntmps282
 go_wp2_with fail
 ((with_reducible refine Hcmp.out.mono ?_);rintro e w1 ⟨rfl,hb1⟩;have hE1:f9 w w1:=hb1;have c1:=Vl Hc2.out hE1)
 go_wp2_with fail
 ((with_reducible refine(Hdw.out _ (Hx.out.ext hE1)).mono ?_);rintro e w2 ⟨A1,n1,c1,B1,m1,d1,rfl,h1,h2,hb2⟩)
 go_wp2_with fail
 refine bodyPost_ret (v:= .tuple #[.slice A1 n1 c1, .slice B1 m1 d1]) (by simp[results,results282,go_sem]) rfl ?_;exact⟨_,_,_,_,_,_,rfl,h1,h2,hE1.more hb2⟩
theorem Vc {a b:Nat} (ha:(digs a).length<=2147483648) (hb:0<b):UV a b:=by
 intro A n c B m d w hx hy;have hn:=hx.len;have hm:=hy.len
 have hm0:m≠0:=by
  exact Ve
 by_cases h:a<b
 ·exact zB A B n c m d a b w hx hy h O_
 ·by_cases h2:n<=2
  ·exact wD A B n c m d a b w hx hy O_ hb h2
  ·by_cases h1:m=1
   ·exact wY A B n c m d a b w hx hy O_ h1 O_ O_
   ·exact xU A B n c m d a b w hx hy O_ O_ O_ O_
end
end Go.Proofs.YtnchbpoopnjghaaGreatDoor
