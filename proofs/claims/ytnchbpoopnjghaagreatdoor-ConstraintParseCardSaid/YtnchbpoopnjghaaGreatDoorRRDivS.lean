/- divide of the reference where the quotient is 0, the dividend has at most two words, or the divisor has one. -/
import Derived.Test.YtnchbpoopnjghaaGreatDoorRRDig
set_option maxHeartbeats 100000000
set_option linter.all false
open Go.Proofs.Tryz
namespace Go.Proofs.YtnchbpoopnjghaaGreatDoor
open Go.RowKit
set_option maxRecDepth 100000 in
def wZ(A B:Option Addr)(n c m d a b:Nat)(w:World)(i:a7 w A n c (digs a))(l:a7 w B m d (digs b))(g:a<b):
 Calls prog 277 #[.slice A n c, .slice B m d] w (j2 (a/b) (a%b) w):=by
 have j:a/b=0:=Nat.div_eq_of_lt g;have k:a%b=a:=Nat.mod_eq_of_lt g;rw[j,k];have f:=KU (fU (a:=(a:Int)) (b:=b) O_) w i l;have p:=Lib.hid i;have o:=Lib.hid f;clear i l f j k
 go_enter func277,ntmps277
 go_wp2_with (go_at_call 222;(with_reducible refine o.out.mono ?_);rintro e q ⟨rfl,h⟩)
 refine bodyPost_ret (v:= .tuple #[.slice none 0 0, .slice A n c]) (by simp[results,results277,go_sem]) rfl ?_;exact⟨none,0,0,A,n,c,rfl,by rw[aG];exact a7.nil _,p.out.below h,h⟩
set_option maxRecDepth 100000 in
def uS(A B:Option Addr)(n c m d a b:Nat)(w:World)(t:a7 w A n c (digs a))(u:a7 w B m d (digs b))(H:b<=a)(k:0<b)(X:n<=2):
 Calls prog 277 #[.slice A n c, .slice B m d] w (j2 (a/b) (a%b) w):=by
 obtain⟨o,l⟩:∃o,bG (a:Int) b=o:=⟨_,rfl⟩;have h:=KU l w t u;have ho:0<=o:=by rw[<- l];exact jA O_
 clear l;have p:=yV t.len X;have V:b<18446744073709551616:=O_;have L:m<=2:=by rw[<- u.len];exact aL O_
 have G:=Aw A n c (digs a);have I:=Aw B m d (digs b);rw[ae]at G I;have Q:=Lib.hid (fun W hW=>G W hW X);have R:=Lib.hid (fun W hW=>I W hW L);have T:=Lib.hid t;have U:=Lib.hid u;have S:=Lib.hid h;obtain⟨i,f⟩:∃i,i=a/b:=⟨_,rfl⟩;obtain⟨j,hr0⟩:∃j,j=a%b:=⟨_,rfl⟩;have hq:i<18446744073709551616:=by rw[f];exact Nat.lt_of_le_of_lt (Nat.div_le_self _ _) p
 have hr:j<18446744073709551616:=by rw[hr0];exact Nat.lt_of_le_of_lt (Nat.mod_le _ _) p
 have D:(a:Int)/b=i:=by rw[f,Int.natCast_ediv]
 have E:(a:Int)%b=j:=by rw[hr0,Int.natCast_emod]
 have al:¬b=0:=O_;have Y:Int.tdiv (a:Int) b=i:=by rw[Int.tdiv_eq_ediv_of_nonneg O_,D]
 have ad:Int.tmod (a:Int) b=j:=by rw[Int.tmod_eq_emod_of_nonneg O_,E]
 have Z:IntKind.u64.wrap (i:Int)=i:=by rw[IntKind.wrap_u64];omega
 have ag:IntKind.u64.wrap (j:Int)=j:=by rw[IntKind.wrap_u64];omega
 rw[<- f,<- hr0];have Hq0:=Lib.hid f;have Hr0:=Lib.hid hr0;clear f hr0;have N:(n:Int)<=2:=O_;have ao:¬o<0:=O_;clear t u h G I H k ho
 go_enter func277,ntmps277
 go_wp2_with (first
  |(go_at_call 222;(with_reducible refine S.out.mono ?_);rintro e s ⟨rfl,k⟩;have g:gi w s:=k)
  |(go_at_call 306;(with_reducible refine(Q.out _ (T.out.ext g)).mono ?_);rintro e w' ⟨rfl,rfl⟩)
  |(go_at_call 306;(with_reducible refine(R.out _ (U.out.ext g)).mono ?_);rintro e w' ⟨rfl,rfl⟩))
 clear Q R S T U N;have F:gi s s.drew:=(gi.refl s).drew
 go_region_held3 (fun w'=>gi s w')
  (first|exact F|assumption|exact gi.more (by assumption) (by assumption))
  (first
  |((go_at_call 123;(with_reducible refine(nJ i hq _).mono ?_);rintro e w3 ⟨x,O,z,a0,rfl,q,rfl,J⟩))
  |((go_at_call 123;(with_reducible refine(nJ j hr _).mono ?_);rintro e w4 ⟨y,P,C,a1,rfl,r,rfl,K⟩)))
 all_goals(
  go_wp2_with fail
  refine bodyPost_ret (v:= .tuple #[.slice x O z, .slice y P C]) (by simp[results,results277,go_sem]) rfl ?_;first
   |exact⟨x,O,z,y,P,C,rfl,q.below K,r,g.trans (by assumption)⟩
   |exact⟨x,O,z,y,P,C,rfl,q,r.below J,g.trans (by assumption)⟩)
set_option maxRecDepth 100000 in
def uz(A B:Option Addr)(n c m d a b:Nat)(w:World)(D:a7 w A n c (digs a))(hy:a7 w B m d (digs b))(O:b<=a)(P:m=1)(Q:3<=n)(X:n<=2147483648):
 Calls prog 277 #[.slice A n c, .slice B m d] w (j2 (a/b) (a%b) w):=by
 subst P;obtain⟨x,hxx⟩:∃x,(digs b).getD 0 0=x:=⟨_,rfl⟩;have q:x=b:=by exact Uf
 have g:x<4294967296:=by rw[<- hxx];exact hy.wd.getD _
 have j:0<x:=by exact Uy
 obtain⟨o,G⟩:∃o,bG (a:Int) b=o:=⟨_,rfl⟩;have k:=KU G w D hy;have R:¬o<0:=by have:=jA (a:=(a:Int)) (b:=b) O_;omega
 obtain⟨W,Y,t,F,hc1⟩:=hy.at O_;have f:=hc1 0 O_;rw[Nat.add_zero]at f;rw[hxx]at f;have i:=fun L h=>N4 A n c x (digs a) L h O_ j g;rw[ae,q]at i;rw[q]at f g j;obtain⟨r,z⟩:∃r,a%b=r:=⟨_,rfl⟩;have H:r<4294967296:=by rw[<- z];have:=Nat.mod_lt a j;omega
 rw[z]at i ⊢;have K:=Lib.hid D;have Hcmp:=Lib.hid k;have Hdw:=Lib.hid i;have Hc2:=Lib.hid f;have Z:¬(n:Int)<=2:=O_;clear D hy k hc1 f G hxx i q g j z;subst t
 go_enter func277,ntmps277
 go_wp2_with fail
 ((with_reducible refine Hcmp.out.mono ?_);rintro e U ⟨rfl,u⟩;have l:gi w U:=u;have E:=UU Hc2.out l)
 go_wp2_with fail
 ((with_reducible refine(Hdw.out _ (K.out.ext l)).mono ?_);rintro e w2 ⟨I,S,E,rfl,h1,y⟩)
 go_wp2_with fail
 ((with_reducible refine(nJ r O_ _).mono ?_);rintro e w3 ⟨J,T,N,V,rfl,C,rfl,s⟩)
 go_wp2_with fail
 refine bodyPost_ret (v:= .tuple #[.slice I S E, .slice J T N]) (by simp[results,results277,go_sem]) rfl ?_;exact⟨_,_,_,_,_,_,rfl,h1.below s,C,(l.more y).more s⟩
end Go.Proofs.YtnchbpoopnjghaaGreatDoor
