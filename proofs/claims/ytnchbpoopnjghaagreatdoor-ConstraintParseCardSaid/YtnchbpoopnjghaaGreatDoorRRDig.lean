/- digit of the reference. -/
import Derived.Test.YtnchbpoopnjghaaGreatDoorRAl
import Derived.Test.YtnchbpoopnjghaaGreatDoorRRBack
import Derived.Test.YtnchbpoopnjghaaGreatDoorRRFresh
import Derived.Test.YtnchbpoopnjghaaGreatDoorRAj
set_option maxHeartbeats 100000000
set_option linter.all false
open Go.Proofs.Tryz
namespace Go.Proofs.YtnchbpoopnjghaaGreatDoor
open Go.RowKit
section
attribute [local go_sem ↓] Go.wp_at_zero Go.wp_at_succ
def Q0(q P:Nat)(w:World)(e:Ending)(w':World):Prop:=∃(g n c:Nat),e= .returned (.tuple #[.int .u32 q, .slice (some ⟨g,0,none⟩) n c])/\w.heap.size<=g/\a7 w' (some ⟨g,0,none⟩) n c (digs P)/\Below w.heap.size w w'
def SL(w:World)(x:Nat)(c:x<4294967296)(t:TypeId):a7 (w.alloc (.cells #[.int .u32 x] t)) (some ⟨w.heap.size,0,none⟩) 1 1 [x]:=by
 refine⟨rfl,l_ _,by decide,by intro y b;simp at b;omega, .inr ⟨_,_,rfl,fun i v a=>?_⟩,fun h=>by cases h⟩
 match i,a with
 |0,a=>simp at a;subst a;simp[go_sem]
 |i+1,a=>simp at a
set_option maxRecDepth 100000 in
def IS(A B:Option Addr)(m n1 cA P:Nat)(i z:List Nat)(V q O nx u2 u1 u0 W lu lv:Nat)(w:World)(hx:a7 w A n1 cA i)(bq:n1=m+1)(hy:a7 w B m P z)(hV:z=digs V)(f:AN (val i) V q O nx u2 u1 u0 W lu lv)(h2:i.getD m 0=u2)(h1:i.getD (m-1) 0=u1)(hh:z.getD (m-1) 0=O)(hm:2<=m)(hs:m<=2147483648):
 Calls prog 309 #[.slice A n1 cA, .slice B m P] w (Q0 q (V*q) w):=by
 subst bq;obtain⟨b1,o1,rfl,bN,hc1⟩:=hx.at O_;obtain⟨b2,o2,rfl,b0,U⟩:=hy.at O_;have c2:=hc1 m O_;have c1:=hc1 (m-1) O_;have d1:=U (m-1) O_;rw[h2]at c2;rw[h1]at c1;rw[hh]at d1;have b9:=f.u2le;have ao:=f.hu1;have bk:=f.hhi;have bm:=f.hhi2;have a0:u2<4294967296:=O_;have ag:=iE u2 u1 a0 ao;obtain⟨y,N⟩:∃y,u2*4294967296+u1=y:=⟨_,rfl⟩;rw[N]at ag;have a3:y<18446744073709551616:=O_;obtain⟨g,C⟩:∃g,y/O=g:=⟨_,rfl⟩;have s:=f.begin;rw[N,C]at s;have bx:g<18446744073709551616:=by rw[<- C];exact Nat.lt_of_le_of_lt (Nat.div_le_self _ _) a3
 have Q:(y:Int)/O=g:=by rw[<- C,Int.natCast_ediv]
 have a4:Int.tdiv (y:Int) O=g:=by rw[Int.tdiv_eq_ediv_of_nonneg O_,Q]
 have a5:IntKind.u64.wrap (g:Int)=g:=by rw[IntKind.wrap_u64];omega
 have cb:¬O=0:=O_;have k1:IntKind.i64.wrap ((m:Int)-1)=m-1:=IntWalk.i64_in _ O_;have k2:((m:Int)-1).toNat=m-1:=O_;have k3:(0:Int)<=(m:Int)-1:=O_;have k4:(m:Int)-1<m:=O_;have k5:(m:Int)-1<m+1:=O_;have k6:(m:Int)<m+1:=O_;have b4:=f.qlt;have S:=f.vpos;have hq:=f.hq;have a1:val z=V:=by rw[hV,ae]
 obtain⟨D,hD⟩:∃D,D=if 4294967295<g then 4294967295 else g:=⟨_,rfl⟩;have K:q<=D/\D<4294967296:=by rw[hD];split <;>omega
 have ca:m<=P:=hy.cap;have bo:=hy.lim;have Hx:=Lib.hid hx;have Hy:=Lib.hid hy;have Hq:=Lib.hid hq;have HV:=Lib.hid (And.intro a1 hV);have HD:=Lib.hid hD;have Hbeg:=Lib.hid s;clear hx hy f h2 h1 hh N C s hq a1 hV hD hc1 U
 go_enter func309,ntmps309
 go_wp2_with fail
 go_quiet (fail)
 have E:gi w (w.drewN nq):=jg _ _;generalize w.drewN nq=W1 at *
 go_upto_if 32 with(fail)
 go_cut [7] (fun v7 wx=>v7= .int .u64 (D:Int)/\wx=W1)
 case first=>
  by_cases hc:4294967295<g
  ·have t0:(4294967295:Int)<g:=O_;have X:(D:Int)=4294967295:=by have:=HD.out;rw[if_pos hc]at this;omega
   have Hd:=Lib.hid X;clear X
   go_wp2_with fail
   go_meet
   exact⟨by rw[Hd.out],rfl⟩
  ·have t0:¬(4294967295:Int)<g:=O_;have X:(D:Int)=g:=by have:=HD.out;rw[if_neg hc]at this;omega
   have Hd:=Lib.hid X;clear X
   go_wp2_with fail
   go_meet
   exact⟨by rw[Hd.out],rfl⟩
 case rest=>
  obtain⟨rfl,rfl⟩:=hcut;have H:=K.2;have ht:=fun W' A' G(h:a7 W' A' 1 G [D])(h':a7 W' (some ⟨b2,o2,none⟩) m P z)=>FT _ _ m 1 _ _ z [D] W' h' h O_ D_;rw[show val z*val [D]=V*D by rw[HV.out.1];simp[val]]at ht;have Ht:=Lib.hid ht;have Hdq:=Lib.hid K.1;clear ht K c1 c2 d1 Q a4 a5 ag k1 k2 k3 k4 k5 k6
  go_wp2_with fail
  ((with_reducible refine(Ht.out _ _ _ (SL _ D H _) (Hy.out.ext (E.alloc _))).mono ?_);rintro e w2 ⟨g2,n2,c2,rfl,be,a2,T⟩;have Z:w.heap.size<=g2:=V_ ((E.alloc (.cells #[.int .u32 (D:Int)] 135)):Below _ _ _).size (by simpa using be);have R:gi w w2:=(E.alloc _).more T)
  have Hw2:=Lib.hid a2;clear a2 T
  go_wp2_with fail
  go_loopw [7,8] (fun a p wr=>∃(d J I G:Nat),a= .int .u64 d/\p= .slice (some ⟨J,0,none⟩) I G/\w.heap.size<=J/\a7 wr (some ⟨J,0,none⟩) I G (digs (V*d))/\q<=d/\d<4294967296/\gi w wr) (fun a _ _=>(intOf a).toNat)
  case atStart=>exact⟨D,_,_,_,rfl,rfl,Z,Hw2.out,Hdq.out,H,R⟩
  case round=>
   obtain⟨d,J,I,G,rfl,rfl,bb,F,cc,b3,j⟩:=hrel;clear Hw2 R E Ht;have Hw':=Lib.hid F;have al:=Lib.hid (Hx.out.trim.ext j);obtain⟨o,ho⟩:∃o,bG (val i:Int) ((V*d:Nat):Int)=o:=⟨_,rfl⟩;have t:=KU (A:=some ⟨b1,o1,none⟩) (B:=some ⟨J,0,none⟩) (n:=(trim i).length) (m:=I) (c:=cA) (d:=G) (a:=val i) (b:=V*d) ho;have Hcmp:=Lib.hid t;have bp:I<=4294967296:=by
    have h1:=F.len;have h2:V*d<4294967296^(m+1):=by
     have h3:=bE (n:=V) (k:=m) (by rw[<- HV.out.2,Hy.out.len];exact l_ _);rw[aY]
     calc V*d<=V*4294967296:=Nat.mul_le_mul_left _ O_
      _=4294967296*V:=Nat.mul_comm _ _
      _<4294967296*4294967296^m:=Nat.mul_lt_mul_of_pos_left h3 D_
    have h4:=aL h2;omega
   by_cases L:val i<V*d
   ·have br:o<0:=by have:=fU (a:=(val i:Int)) (b:=((V*d:Nat):Int)) O_;omega
    have x:q<d:=by rw[Hq.out];exact(Nat.div_lt_iff_lt_mul S).2 (by rw[Nat.mul_comm];exact L)
    have t3:(1:Int)<=d:=O_;have u:=fun W'(h:a7 W' (some ⟨J,0,none⟩) I G (digs (V*d)))(h':a7 W' (some ⟨b2,o2,none⟩) m P z)=>vp _ _ I m _ _ (digs (V*d)) z W' h h' (by rw[ae,HV.out.1];exact Nat.le_mul_of_pos_right V O_) bp;have Y:val (digs (V*d))-val z=V*(d-1):=by rw[ae,HV.out.1];obtain⟨e,rfl⟩:∃e,d=e+1:=⟨d-1,by omega⟩;rw[Nat.add_sub_cancel,Nat.mul_add,o_,Nat.add_sub_cancel]
    rw[Y]at u;have Hmin:=Lib.hid u;clear u Y t ho L F
    go_wp2_with (first
     |(go_at_call 172;(with_reducible refine(dm _ _ _ i _ (Hx.out.ext j)).mono ?_);rintro e w' ⟨rfl,rfl⟩)
     |(go_at_call 222;(with_reducible refine(Hcmp.out _ al.out Hw'.out).mono ?_);rintro e w3 ⟨rfl,r⟩;have l:gi w w3:=j.more r)
     |(go_at_call 301;(with_reducible refine(Hmin.out _ (Hw'.out.below r) (Hy.out.ext l)).mono ?_);rintro e w4 ⟨g4,n4,c4,rfl,bj,bs,a9⟩;have ad:w.heap.size<=g4:=V_ (l:Below _ _ _).size bj))
    go_roundw
    case rel=>exact⟨d-1,_,_,_,by go_num,rfl,ad,bs,by omega,by omega,l.more a9⟩
    case measure=>simp[intOf];omega
   ·have br:¬o<0:=by have:=jA (a:=(val i:Int)) (b:=((V*d:Nat):Int)) O_;omega
    have x:d=q:=by
     have h1:d<=q:=by rw[Hq.out];exact(Nat.le_div_iff_mul_le S).2 (by rw[Nat.mul_comm];omega)
     omega
    have Hqd:=Lib.hid x;clear t ho L F x
    go_wp2_with (first
     |(go_at_call 172;(with_reducible refine(dm _ _ _ i _ (Hx.out.ext j)).mono ?_);rintro e w' ⟨rfl,rfl⟩)
     |(go_at_call 222;(with_reducible refine(Hcmp.out _ al.out Hw'.out).mono ?_);rintro e w3 ⟨rfl,r⟩;have l:gi w w3:=j.more r))
    refine bodyPost_ret (v:= .tuple #[.int .u32 d,(.slice (some ⟨J,0,none⟩) I G)]) (by simp[results,results309,go_sem]) rfl ?_;rw[<- Hqd.out];exact⟨_,_,_,rfl,bb,Hw'.out.below r,l⟩
end
end Go.Proofs.YtnchbpoopnjghaaGreatDoor
