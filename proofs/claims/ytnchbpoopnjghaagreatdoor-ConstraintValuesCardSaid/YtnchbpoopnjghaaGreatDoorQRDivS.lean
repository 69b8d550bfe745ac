/- divide of the reference where the quotient is 0, the dividend has at most two words, or the divisor has one. -/
import Derived.Test.YtnchbpoopnjghaaGreatDoorQRDig
set_option maxHeartbeats 100000000
set_option linter.all false
open Go.Proofs.Tryz
namespace Go.Proofs.YtnchbpoopnjghaaGreatDoor
open Go.RowKit
set_option maxRecDepth 100000 in
theorem xn (A B:Option Addr) (n c m d a b:Nat) (w:World) (hx:bi w A n c (digs a)) (hy:bi w B m d (digs b)) (hab:a<b):
 Calls Tryz.prog 277 #[.slice A n c, .slice B m d] w (jG (a/b) (a%b) w):=by
 have e1:a/b=0:=Nat.div_eq_of_lt hab;have e2:a%b=a:=Nat.mod_eq_of_lt hab;rw[e1,e2];have hcmp:=HZ (fR (a:=(a:Int)) (b:=b) O_) w hx hy;have Hx:=Lib.hid hx;have Hc:=Lib.hid hcmp;clear hx hy hcmp e1 e2
 go_enter func277,ntmps277
 go_wp2_with (go_at_call 222;(with_reducible refine Hc.out.mono ?_);rintro e w1 ⟨rfl,hb1⟩)
 refine bodyPost_ret (v:= .tuple #[.slice none 0 0, .slice A n c]) (by simp[results,results277,go_sem]) rfl ?_;exact⟨none,0,0,A,n,c,rfl,by rw[aK];exact bi.nil _,Hx.out.below hb1,hb1⟩
set_option maxRecDepth 100000 in
theorem uP (A B:Option Addr) (n c m d a b:Nat) (w:World) (hx:bi w A n c (digs a)) (hy:bi w B m d (digs b)) (hab:b<=a) (hb0:0<b) (hs:n<=2):
 Calls Tryz.prog 277 #[.slice A n c, .slice B m d] w (jG (a/b) (a%b) w):=by
 obtain⟨o,hoo⟩:∃o,bQ (a:Int) b=o:=⟨_,rfl⟩;have hcmp:=HZ hoo w hx hy;have ho:0<=o:=by rw[<- hoo];exact jn O_
 clear hoo;have h64:=Ac hx.len hs;have hb64:b<18446744073709551616:=O_
 have hm2:m<=2:=by rw[<- hy.len];exact aS O_
 have ha:=zL A n c (digs a);have hb:=zL B m d (digs b);rw[ah]at ha hb;have Ha:=Lib.hid (fun W hW=>ha W hW hs);have Hb:=Lib.hid (fun W hW=>hb W hW hm2);have Hx:=Lib.hid hx;have Hy:=Lib.hid hy;have Hc:=Lib.hid hcmp;obtain⟨q0,hq0⟩:∃q0,q0=a/b:=⟨_,rfl⟩;obtain⟨r0,hr0⟩:∃r0,r0=a%b:=⟨_,rfl⟩;have hq:q0<18446744073709551616:=by rw[hq0];exact Nat.lt_of_le_of_lt (Nat.div_le_self _ _) h64
 have hr:r0<18446744073709551616:=by rw[hr0];exact Nat.lt_of_le_of_lt (Nat.mod_le _ _) h64
 have eq1:(a:Int)/b=q0:=by rw[hq0,Int.natCast_ediv]
 have er1:(a:Int)%b=r0:=by rw[hr0,Int.natCast_emod]
 have hn1:¬b=0:=O_
 have eq2:Int.tdiv (a:Int) b=q0:=by rw[Int.tdiv_eq_ediv_of_nonneg O_,eq1]
 have er2:Int.tmod (a:Int) b=r0:=by rw[Int.tmod_eq_emod_of_nonneg O_,er1]
 have eq3:IntKind.u64.wrap (q0:Int)=q0:=by rw[IntKind.wrap_u64];omega
 have er3:IntKind.u64.wrap (r0:Int)=r0:=by rw[IntKind.wrap_u64];omega
 rw[<- hq0,<- hr0];have Hq0:=Lib.hid hq0;have Hr0:=Lib.hid hr0;clear hq0 hr0;have hs':(n:Int)<=2:=O_
 have ho':¬o<0:=O_
 clear hx hy hcmp ha hb hab hb0 ho
 go_enter func277,ntmps277
 go_wp2_with (first
  |(go_at_call 222;(with_reducible refine Hc.out.mono ?_);rintro e w0 ⟨rfl,hb0⟩;have hE0:f9 w w0:=hb0)
  |(go_at_call 306;(with_reducible refine(Ha.out _ (Hx.out.ext hE0)).mono ?_);rintro e w' ⟨rfl,rfl⟩)
  |(go_at_call 306;(with_reducible refine(Hb.out _ (Hy.out.ext hE0)).mono ?_);rintro e w' ⟨rfl,rfl⟩))
 clear Ha Hb Hc Hx Hy hs';have hE2:f9 w0 w0.drew:=(f9.refl w0).drew
 go_region_held3 (fun w'=>f9 w0 w')
  (first|exact hE2|assumption|exact f9.more (by assumption) (by assumption))
  (first
  |((go_at_call 123;(with_reducible refine(n6 q0 hq _).mono ?_);rintro e w3 ⟨A3,n3,c3,zs3,rfl,hw3,rfl,hb3⟩))
  |((go_at_call 123;(with_reducible refine(n6 r0 hr _).mono ?_);rintro e w4 ⟨A4,n4,c4,zs4,rfl,hw4,rfl,hb4⟩)))
 all_goals(
  go_wp2_with fail
  refine bodyPost_ret (v:= .tuple #[.slice A3 n3 c3, .slice A4 n4 c4]) (by simp[results,results277,go_sem]) rfl ?_
  first
   |exact⟨A3,n3,c3,A4,n4,c4,rfl,hw3.below hb4,hw4,hE0.trans (by assumption)⟩
   |exact⟨A3,n3,c3,A4,n4,c4,rfl,hw3,hw4.below hb3,hE0.trans (by assumption)⟩)
set_option maxRecDepth 100000 in
theorem u3 (A B:Option Addr) (n c m d a b:Nat) (w:World) (hx:bi w A n c (digs a)) (hy:bi w B m d (digs b)) (hab:b<=a) (hm:m=1) (hn3:3<=n) (hs:n<=2147483648):
 Calls Tryz.prog 277 #[.slice A n c, .slice B m d] w (jG (a/b) (a%b) w):=by
 subst hm;obtain⟨x,hxx⟩:∃x,(digs b).getD 0 0=x:=⟨_,rfl⟩
 have hxb:x=b:=by
  exact TE
 have hx32:x<4294967296:=by rw[<- hxx];exact hy.wd.getD _
 have hx0:0<x:=by
  exact TY
 obtain⟨o,ho⟩:∃o,bQ (a:Int) b=o:=⟨_,rfl⟩;have hcmp:=HZ ho w hx hy;have ho1:¬o<0:=by have:=jn (a:=(a:Int)) (b:=b) O_;omega
 obtain⟨b1,o1,hB1,hbb1,hc1⟩:=hy.at O_;have hc2:=hc1 0 O_;rw[Nat.add_zero]at hc2;rw[hxx]at hc2;have hdw:=fun W' h=>Od A n c x (digs a) W' h O_ hx0 hx32
 rw[ah,hxb]at hdw;rw[hxb]at hc2 hx32 hx0;obtain⟨r,hr⟩:∃r,a%b=r:=⟨_,rfl⟩;have hr32:r<4294967296:=by rw[<- hr];have:=Nat.mod_lt a hx0;omega
 rw[hr]at hdw ⊢;have Hx:=Lib.hid hx;have Hcmp:=Lib.hid hcmp;have Hdw:=Lib.hid hdw;have Hc2:=Lib.hid hc2;have t0:¬(n:Int)<=2:=O_
 clear hx hy hcmp hc1 hc2 ho hxx hdw hxb hx32 hx0 hr;subst hB1
 go_enter func277,ntmps277
 go_wp2_with fail
 ((with_reducible refine Hcmp.out.mono ?_);rintro e w1 ⟨rfl,hb1⟩;have hE1:f9 w w1:=hb1;have c1:=Vl Hc2.out hE1)
 go_wp2_with fail
 ((with_reducible refine(Hdw.out _ (Hx.out.ext hE1)).mono ?_);rintro e w2 ⟨A1,n1,c1,rfl,h1,hb2⟩)
 go_wp2_with fail
 ((with_reducible refine(n6 r O_ _).mono ?_);rintro e w3 ⟨A3,n3,c3,zs3,rfl,hw3,rfl,hb3⟩)
 go_wp2_with fail
 refine bodyPost_ret (v:= .tuple #[.slice A1 n1 c1, .slice A3 n3 c3]) (by simp[results,results277,go_sem]) rfl ?_;exact⟨_,_,_,_,_,_,rfl,h1.below hb3,hw3,(hE1.more hb2).more hb3⟩
end Go.Proofs.YtnchbpoopnjghaaGreatDoor
