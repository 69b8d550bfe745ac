/- divide of the program, every case. -/
import Derived.Test.YtnchbpoopnjghaaGreatDoorRDivB
import Derived.Test.YtnchbpoopnjghaaGreatDoorRAg
set_option maxHeartbeats 100000000
set_option linter.all false
open Go.Proofs.Tryz
namespace Go.Proofs.YtnchbpoopnjghaaGreatDoor
open Go.RowKit
section
attribute [local go_sem ↓] Go.wp_at_zero Go.wp_at_succ
set_option maxRecDepth 100000 in
def xD(A B:Option Addr)(n c m d a b:Nat)(w:World)(u:a7 w A n c (digs a))(hy:a7 w B m d (digs b))(I:b<=a)(J:m=1)(K:3<=n)(R:n<=2147483648):
 Calls prog 282 #[.slice A n c, .slice B m d] w (j2 (a/b) (a%b) w):=by
 subst J;obtain⟨x,hxx⟩:∃x,(digs b).getD 0 0=x:=⟨_,rfl⟩;have l:x=b:=by exact Uf
 have i:x<4294967296:=by rw[<- hxx];exact hy.wd.getD _
 have q:0<x:=by exact Uy
 obtain⟨o,C⟩:∃o,bG (a:Int) b=o:=⟨_,rfl⟩;have g:=TS C w u hy;have L:¬o<0:=by have:=jA (a:=(a:Int)) (b:=b) O_;omega
 obtain⟨Q,S,r,z,hc1⟩:=hy.at O_;have f:=hc1 0 O_;rw[Nat.add_zero]at f;rw[hxx]at f;have k:=fun G h=>xy A n c x (digs a) G h O_ q i;rw[ae,l]at k;rw[l]at f;have F:=Lib.hid u;have Hcmp:=Lib.hid g;have Hdw:=Lib.hid k;have Hc2:=Lib.hid f;have T:¬(n:Int)<=2:=O_;clear u hy g hc1 f C hxx k l i q;subst r
 go_enter func282,ntmps282
 go_wp2_with fail
 ((with_reducible refine Hcmp.out.mono ?_);rintro e P ⟨rfl,s⟩;have j:gi w P:=s;have y:=UU Hc2.out j)
 go_wp2_with fail
 ((with_reducible refine(Hdw.out _ (F.out.ext j)).mono ?_);rintro e U ⟨D,O,y,E,N,H,rfl,h1,h2,t⟩)
 go_wp2_with fail
 refine bodyPost_ret (v:= .tuple #[.slice D O y, .slice E N H]) (by simp[results,results282,go_sem]) rfl ?_;exact⟨_,_,_,_,_,_,rfl,h1,h2,j.more t⟩
def Td{a b:Nat}(o:(digs a).length<=2147483648)(k:0<b):SD a b:=by
 intro A n c B m d w f g;have q:=f.len;have hm:=g.len;have l:m≠0:=by exact Ti
 by_cases h:a<b
 ·exact Ak A B n c m d a b w f g h O_
 ·by_cases j:n<=2
  ·exact wA A B n c m d a b w f g O_ k j
  ·by_cases i:m=1
   ·exact xD A B n c m d a b w f g O_ i O_ O_
   ·exact wf A B n c m d a b w f g O_ O_ O_ O_
end
end Go.Proofs.YtnchbpoopnjghaaGreatDoor
