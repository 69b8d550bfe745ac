/- digit of the reference. -/
import Derived.Test.YtnchbpoopnjghaaGreatDoorQAl
import Derived.Test.YtnchbpoopnjghaaGreatDoorQRBack
import Derived.Test.YtnchbpoopnjghaaGreatDoorQRFresh
import Derived.Test.YtnchbpoopnjghaaGreatDoorQAj
set_option maxHeartbeats 100000000
set_option linter.all false
open Go.Proofs.Tryz
namespace Go.Proofs.YtnchbpoopnjghaaGreatDoor
open Go.RowKit
section
attribute [local go_sem ↓] Go.wp_at_zero Go.wp_at_succ
def RC (q P:Nat) (w:World) (e:Ending) (w':World):Prop:=∃(g n c:Nat),e= .returned (.tuple #[.int .u32 q, .slice (some ⟨g,0,none⟩) n c])/\w.heap.size<=g/\bi w' (some ⟨g,0,none⟩) n c (digs P)/\Below w.heap.size w w'
theorem Uc (w:World) (x:Nat) (hx:x<4294967296) (t:TypeId):bi (w.alloc (.cells #[.int .u32 x] t)) (some ⟨w.heap.size,0,none⟩) 1 1 [x]:=by
 refine⟨rfl,l_ _,by decide,by intro y hy;simp at hy;omega, .inr ⟨_,_,rfl,fun i v hv=>?_⟩,fun h=>by cases h⟩
 match i,hv with
 |0,hv=>simp at hv;subst hv;simp[go_sem]
 |i+1,hv=>simp at hv
set_option maxRecDepth 100000 in
theorem Kl (A B:Option Addr) (m n1 cA cB:Nat) (us vs:List Nat) (V q hi nx u2 u1 u0 W lu lv:Nat) (w:World) (hx:bi w A n1 cA us) (hn1:n1=m+1) (hy:bi w B m cB vs) (hV:vs=digs V) (hest:AL (val us) V q hi nx u2 u1 u0 W lu lv)
 (h2:us.getD m 0=u2) (h1:us.getD (m-1) 0=u1) (hh:vs.getD (m-1) 0=hi) (hm:2<=m) (hs:m<=2147483648):
 Calls Tryz.prog 309 #[.slice A n1 cA, .slice B m cB] w (RC q (V*q) w):=by
 subst hn1;obtain⟨b1,o1,rfl,hbb1,hc1⟩:=hx.at O_;obtain⟨b2,o2,rfl,hbb2,hc2⟩:=hy.at O_;have c2:=hc1 m O_;have c1:=hc1 (m-1) O_;have d1:=hc2 (m-1) O_;rw[h2]at c2;rw[h1]at c1;rw[hh]at d1;have hu2b:=hest.u2le;have hu1b:=hest.hu1;have hhi31:=hest.hhi;have hhi32:=hest.hhi2;have hu2c:u2<4294967296:=O_
 have hor:=ij u2 u1 hu2c hu1b;obtain⟨y,hyy⟩:∃y,u2*4294967296+u1=y:=⟨_,rfl⟩;rw[hyy]at hor;have hy64:y<18446744073709551616:=O_
 obtain⟨D0,hD0⟩:∃D0,y/hi=D0:=⟨_,rfl⟩;have hbeg:=hest.begin;rw[hyy,hD0]at hbeg;have hD0b:D0<18446744073709551616:=by rw[<- hD0];exact Nat.lt_of_le_of_lt (Nat.div_le_self _ _) hy64
 have eq1:(y:Int)/hi=D0:=by rw[<- hD0,Int.natCast_ediv]
 have eq2:Int.tdiv (y:Int) hi=D0:=by rw[Int.tdiv_eq_ediv_of_nonneg O_,eq1]
 have eq3:IntKind.u64.wrap (D0:Int)=D0:=by rw[IntKind.wrap_u64];omega
 have hnz:¬hi=0:=O_
 have k1:IntKind.i64.wrap ((m:Int)-1)=m-1:=IntWalk.i64_in _ O_;have k2:((m:Int)-1).toNat=m-1:=O_
 have k3:(0:Int)<=(m:Int)-1:=O_
 have k4:(m:Int)-1<m:=O_
 have k5:(m:Int)-1<m+1:=O_
 have k6:(m:Int)<m+1:=O_
 have hqlt:=hest.qlt;have hVp:=hest.vpos;have hq:=hest.hq;have hvv:val vs=V:=by rw[hV,ah]
 obtain⟨D,hD⟩:∃D,D=if 4294967295<D0 then 4294967295 else D0:=⟨_,rfl⟩
 have hDq:q<=D/\D<4294967296:=by rw[hD];split <;>omega
 have hml:m<=cB:=hy.cap;have hmlim:=hy.lim;have Hx:=Lib.hid hx;have Hy:=Lib.hid hy;have Hq:=Lib.hid hq;have HV:=Lib.hid (And.intro hvv hV);have HD:=Lib.hid hD;have Hbeg:=Lib.hid hbeg;clear hx hy hest h2 h1 hh hyy hD0 hbeg hq hvv hV hD hc1 hc2
 go_enter func309,ntmps309
 go_wp2_with fail
 go_quiet (fail)
 have hE1:f9 w (w.drewN nq):=iV _ _;generalize w.drewN nq=W1 at *
 go_upto_if 32 with(fail)
 go_cut [7] (fun v7 wx=>v7= .int .u64 (D:Int)/\wx=W1)
 case first=>
  by_cases hc:4294967295<D0
  ·have t0:(4294967295:Int)<D0:=O_
   have hd:(D:Int)=4294967295:=by have:=HD.out;rw[if_pos hc]at this;omega
   have Hd:=Lib.hid hd;clear hd
   go_wp2_with fail
   go_meet
   exact⟨by rw[Hd.out],rfl⟩
  ·have t0:¬(4294967295:Int)<D0:=O_
   have hd:(D:Int)=D0:=by have:=HD.out;rw[if_neg hc]at this;omega
   have Hd:=Lib.hid hd;clear hd
   go_wp2_with fail
   go_meet
   exact⟨by rw[Hd.out],rfl⟩
 case rest=>
  obtain⟨rfl,rfl⟩:=hcut;have hD32:=hDq.2;have ht:=fun W' A' c' (h:bi W' A' 1 c' [D]) (h':bi W' (some ⟨b2,o2,none⟩) m cB vs)=>Gv _ _ m 1 _ _ vs [D] W' h' h O_ D_
  rw[show val vs*val [D]=V*D by rw[HV.out.1];simp[val]]at ht;have Ht:=Lib.hid ht;have Hdq:=Lib.hid hDq.1;clear ht hDq c1 c2 d1 eq1 eq2 eq3 hor k1 k2 k3 k4 k5 k6
  go_wp2_with fail
  ((with_reducible refine(Ht.out _ _ _ (Uc _ D hD32 _) (Hy.out.ext (hE1.alloc _))).mono ?_);rintro e w2 ⟨g2,n2,c2,rfl,hg2,hw2,hb2⟩;have hg2':w.heap.size<=g2:=V_ ((hE1.alloc (.cells #[.int .u32 (D:Int)] 135)):Below _ _ _).size (by simpa using hg2);have hE2:f9 w w2:=(hE1.alloc _).more hb2)
  have Hw2:=Lib.hid hw2;clear hw2 hb2
  go_wp2_with fail
  go_loopw [7,8] (fun a p wr=>∃(d g' n' c':Nat),a= .int .u64 d/\p= .slice (some ⟨g',0,none⟩) n' c'/\w.heap.size<=g'/\bi wr (some ⟨g',0,none⟩) n' c' (digs (V*d))/\q<=d/\d<4294967296/\f9 w wr) (fun a _ _=>(intOf a).toNat)
  case atStart=>exact⟨D,_,_,_,rfl,rfl,hg2',Hw2.out,Hdq.out,hD32,hE2⟩
  case round=>
   obtain⟨d,g',n',c',rfl,rfl,hg',hw',hqd,hd32,hE'⟩:=hrel;clear Hw2 hE2 hE1 Ht;have Hw':=Lib.hid hw';have htx:=Lib.hid (Hx.out.trim.ext hE');obtain⟨o,ho⟩:∃o,bQ (val us:Int) ((V*d:Nat):Int)=o:=⟨_,rfl⟩;have hcmp:=HZ (A:=some ⟨b1,o1,none⟩) (B:=some ⟨g',0,none⟩) (n:=(trim us).length) (m:=n') (c:=cA) (d:=c') (a:=val us) (b:=V*d) ho;have Hcmp:=Lib.hid hcmp
   have hn':n'<=4294967296:=by
    have h1:=hw'.len
    have h2:V*d<4294967296^(m+1):=by
     have h3:=bX (n:=V) (k:=m) (by rw[<- HV.out.2,Hy.out.len];exact l_ _);rw[bh]
     calc V*d<=V*4294967296:=Nat.mul_le_mul_left _ O_
      _=4294967296*V:=Nat.mul_comm _ _
      _<4294967296*4294967296^m:=Nat.mul_lt_mul_of_pos_left h3 D_
    have h4:=aS h2;omega
   by_cases hlt:val us<V*d
   ·have ho1:o<0:=by have:=fR (a:=(val us:Int)) (b:=((V*d:Nat):Int)) O_;omega
    have hqd':q<d:=by rw[Hq.out];exact(Nat.div_lt_iff_lt_mul hVp).2 (by rw[Nat.mul_comm];exact hlt)
    have t3:(1:Int)<=d:=O_
    have hmin:=fun W' (h:bi W' (some ⟨g',0,none⟩) n' c' (digs (V*d))) (h':bi W' (some ⟨b2,o2,none⟩) m cB vs)=>vO _ _ n' m _ _ (digs (V*d)) vs W' h h' (by rw[ah,HV.out.1];exact Nat.le_mul_of_pos_right V O_) hn'
    have hdm:val (digs (V*d))-val vs=V*(d-1):=by
     rw[ah,HV.out.1];obtain⟨e,rfl⟩:∃e,d=e+1:=⟨d-1,by omega⟩;rw[Nat.add_sub_cancel,Nat.mul_add,o_,Nat.add_sub_cancel]
    rw[hdm]at hmin;have Hmin:=Lib.hid hmin;clear hmin hdm hcmp ho hlt hw'
    go_wp2_with (first
     |(go_at_call 172;(with_reducible refine(dz _ _ _ us _ (Hx.out.ext hE')).mono ?_);rintro e w' ⟨rfl,rfl⟩)
     |(go_at_call 222;(with_reducible refine(Hcmp.out _ htx.out Hw'.out).mono ?_);rintro e w3 ⟨rfl,hb3⟩;have hE3:f9 w w3:=hE'.more hb3)
     |(go_at_call 301;(with_reducible refine(Hmin.out _ (Hw'.out.below hb3) (Hy.out.ext hE3)).mono ?_);rintro e w4 ⟨g4,n4,c4,rfl,hg4,hw4,hb4⟩;have hg4':w.heap.size<=g4:=V_ (hE3:Below _ _ _).size hg4))
    go_roundw
    case rel=>exact⟨d-1,_,_,_,by go_num,rfl,hg4',hw4,by omega,by omega,hE3.more hb4⟩
    case measure=>simp[intOf];omega
   ·have ho1:¬o<0:=by have:=jn (a:=(val us:Int)) (b:=((V*d:Nat):Int)) O_;omega
    have hqd':d=q:=by
     have h1:d<=q:=by rw[Hq.out];exact(Nat.le_div_iff_mul_le hVp).2 (by rw[Nat.mul_comm];omega)
     omega
    have Hqd:=Lib.hid hqd';clear hcmp ho hlt hw' hqd'
    go_wp2_with (first
     |(go_at_call 172;(with_reducible refine(dz _ _ _ us _ (Hx.out.ext hE')).mono ?_);rintro e w' ⟨rfl,rfl⟩)
     |(go_at_call 222;(with_reducible refine(Hcmp.out _ htx.out Hw'.out).mono ?_);rintro e w3 ⟨rfl,hb3⟩;have hE3:f9 w w3:=hE'.more hb3))
    refine bodyPost_ret (v:= .tuple #[.int .u32 d,(.slice (some ⟨g',0,none⟩) n' c')]) (by simp[results,results309,go_sem]) rfl ?_;rw[<- Hqd.out];exact⟨_,_,_,rfl,hg',Hw'.out.below hb3,hE3⟩
end
end Go.Proofs.YtnchbpoopnjghaaGreatDoor
