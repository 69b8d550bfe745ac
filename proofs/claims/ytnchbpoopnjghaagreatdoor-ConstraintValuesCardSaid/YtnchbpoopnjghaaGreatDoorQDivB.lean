/- divide of the program where the divisor has two words or more. -/
import Derived.Test.YtnchbpoopnjghaaGreatDoorQAl
set_option maxHeartbeats 100000000
set_option linter.all false
open Go.Proofs.Tryz
namespace Go.Proofs.YtnchbpoopnjghaaGreatDoor
open Go.RowKit
section
attribute [local go_sem ↓] Go.wp_at_zero Go.wp_at_succ
def Dn (L V:Nat) (w:World) (e:Ending) (w':World):Prop:=∃g zs,e= .returned (.slice (some ⟨g,0,none⟩) L L)/\w.heap.size<=g/\eS w' g zs/\Wd zs/\zs.length=L/\val zs=V/\Below w.heap.size w w'
theorem zZ {A:Option Addr} {n c s:Nat} {xs:List Nat} {V:Nat} (hV:val xs*2^s=V) (hs:n<=4294967296) (h31:s<=31) (w:World) (hx:bi w A n c xs):
 Calls Tryz.prog 316 #[.slice A n c, .int .i64 s] w (Dn (n+1) V w):=by
 refine(yZ A n c s xs w hx hs h31).mono ?_;rintro e w' ⟨g,zs,rfl,h1,h2,h3,⟨h4,h5⟩,h6⟩;exact⟨g,zs,by rw[h5],h1,h2,h3,h5,by rw[h4,hV],h6⟩
theorem MO {x s:Nat} (hx:x<4294967296) (hb:bitLen x<=32) (hs:s=32-bitLen x) (w:World):Calls Tryz.prog 315 #[.int .u32 x] w fun e w'=>e= .returned (.int .i64 s)/\w=w':=by
 refine(Tryz.bits_LeadingZeros32 x w O_ O_).mono ?_;rintro e w' ⟨rfl,rfl⟩;refine⟨Qt ?_,rfl⟩;rw[Int.toNat_natCast,Cf x hx,hs];omega
theorem Ub {o:Int} {A B:Option Addr} {n m c d a b:Nat} (ho:bQ a b=o) (w:World) (h1:bi w A n c (digs a)) (h2:bi w B m d (digs b)):Calls Tryz.prog 235 #[.slice A n c, .slice B m d] w (Tq o w):=by
 have:=lf A B n m c d (digs a) (digs b) w h1 h2;exact S7
structure KS (w:World) (g1 g2 gq m:Nat) (zs vs qs:List Nat) (wr:World):Prop where
 r1:eS wr g1 zs
 wv:bi wr (some ⟨g2,0,none⟩) m (m+1) vs
 rq:eS wr gq qs
 be:Below w.heap.size w wr
 n1:w.heap.size<=g1
 nq:w.heap.size<=gq
 d12:g2≠g1
 dq1:gq≠g1
 d2q:g2≠gq
section
variable {w:World} {g1 g2 gq m:Nat} {zs vs qs:List Nat} {wr w2:World}
theorem KS.drewN (h:KS w g1 g2 gq m zs vs qs wr) (k:Nat):KS w g1 g2 gq m zs vs qs (wr.drewN k):=
 ⟨h.r1,h.wv.drewN k,h.rq,Below.drewN h.be k,h.n1,h.nq,h.d12,h.dq1,h.d2q⟩
theorem KS.only1 {zs':List Nat} (h:KS w g1 g2 gq m zs vs qs wr) (ho:fY g1 wr w2) (hr:eS w2 g1 zs'):KS w g1 g2 gq m zs' vs qs w2:=
 ⟨hr,h.wv.only ho (fun b o e=>by simp only[X_,Addr.mk.injEq]at e;rw[<- e.1];exact h.d12),h.rq.only ho h.dq1,ho.below h.be h.n1,h.n1,h.nq,h.d12,h.dq1,h.d2q⟩
theorem KS.setq (h:KS w g1 g2 gq m zs vs qs wr) (i x:Nat):KS w g1 g2 gq m zs vs (qs.set i x) (wr.setCell ⟨gq,i,none⟩ (bZ x)):=
 ⟨h.r1.only ((fY.refl gq wr).setCell i _) (Ne.symm h.dq1),h.wv.only ((fY.refl gq wr).setCell i _) (fun b o e=>by simp only[X_,Addr.mk.injEq]at e;rw[<- e.1];exact h.d2q),h.rq.set i x,((fY.refl gq wr).setCell i _).below h.be h.nq,h.n1,h.nq,h.d12,h.dq1,h.d2q⟩
theorem KS.vcell (h:KS w g1 g2 gq m zs vs qs wr) (i:Nat) (hi:i<m):wr.cell? ⟨g2,i,none⟩=some (bZ (vs.getD i 0)):=by
 obtain⟨b,off,e,_,hc⟩:=h.wv.at O_
 simp only[X_,Addr.mk.injEq]at e
 obtain⟨rfl,rfl,-⟩:=e;have:=hc i hi
 rwa[J_]at this
end
theorem rQ {U V q:Nat} (hq:q=U/V):¬U<V*q:=by
 have h1:=Nat.mul_div_le U V;rw[<- hq]at h1;omega
theorem Hf {U V q:Nat} (hV:0<V) (hq:q=U/V):U<V*(q+1):=by
 have h1:=Nat.lt_mul_div_succ U hV;rw[<- hq]at h1;exact h1
theorem GF {U V q x x2 t M:Nat} (hV:0<V) (hq:q=U/V) (h1:x+V*(q+1)=U+M) (h2:x2+t*M=x+V) (hx2:x2<M) (hVM:V<M):x2=U-V*q:=by
 have h3:=rQ hq;have h4:=Hf hV hq;rw[Nat.mul_add,o_]at h1 h4
 have ht:t=1:=by
  rcases Nat.lt_or_ge t 1 with h|h
  ·have:t=0:=O_
   subst this;omega
  ·rcases Nat.lt_or_ge 1 t with h'|h'
   ·exfalso
    have:=P_ M h';omega
   ·omega
 subst ht;omega
def V6 (q:Nat) (v:Value) (wx w6:World):Prop:=∃d:Nat,v= .int .u64 d/\d<4294967296/\(d=q∨d=q+1)/\wx=w6
set_option maxRecDepth 100000 in
theorem xU (A B:Option Addr) (n c m d a b:Nat) (w:World) (hx:bi w A n c (digs a)) (hy:bi w B m d (digs b)) (hab:b<=a) (hm:2<=m) (hn3:3<=n) (hs:n<=2147483648):
 Calls Tryz.prog 282 #[.slice A n c, .slice B m d] w (jG (a/b) (a%b) w):=by
 have hmn:m<=n:=by
  exact Ug
 obtain⟨x,hxx⟩:∃x,(digs b).getD (m-1) 0=x:=⟨_,rfl⟩;obtain⟨s,hss⟩:∃s,s=32-bitLen x:=⟨_,rfl⟩;obtain⟨h31,hb32,hvl,hvh⟩:=rS O_ hy.len hxx hss;have hU:=DT hx.len O_ hmn hvl hvh h31;have hx32:x<4294967296:=by rw[<- hxx];exact hy.wd.getD _
 have hlz:=MO hx32 hb32 hss;obtain⟨o,ho⟩:∃o,bQ (a:Int) b=o:=⟨_,rfl⟩;have hcmp:=Ub ho w hx hy;have ho1:¬o<0:=by have:=jn (a:=(a:Int)) (b:=b) O_;omega
 obtain⟨b1,o1,hB1,hbb1,hc1⟩:=hy.at O_;have hc2:=hc1 (m-1) O_;rw[hxx]at hc2;have hsd:=v6 a b s;have Hx:=Lib.hid hx;have Hy:=Lib.hid hy;have Hcmp:=Lib.hid hcmp;have Hlz:=Lib.hid hlz;have Hsd:=Lib.hid hsd;have HU:=Lib.hid hU;have Hvl:=Lib.hid hvl;have Hvh:=Lib.hid hvh;have Hc2:=Lib.hid hc2;have t0:¬(n:Int)<=2:=O_
 have t1:((m:Int) == 1)=false:=by simp;omega
 have g1:(0:Int)<=(m:Int)-1:=O_
 have g2:(m:Int)-1<m:=O_
 have hA:=zZ (A:=A) (n:=n) (c:=c) (s:=s) (xs:=digs a) (V:=a*2^s) (by rw[ah]) O_ h31;have hB:=zZ (A:=B) (n:=m) (c:=d) (s:=s) (xs:=digs b) (V:=b*2^s) (by rw[ah]) O_ h31;have HA:=Lib.hid hA;have HB:=Lib.hid hB;have hmcap:=hy.cap;have hmlim:=hy.lim;clear hx hy hcmp hlz hsd hU hvl hvh hc1 hc2 hA hB ho hxx hss;subst hB1
 go_enter func282,ntmps282
 go_wp2_with fail
 ((with_reducible refine Hcmp.out.mono ?_);rintro e w1 ⟨rfl,hb1⟩;have hE1:f9 w w1:=hb1;have c1:=Vl Hc2.out hE1)
 go_wp2_with fail
 ((with_reducible refine(Hlz.out _).mono ?_);rintro e w' ⟨rfl,rfl⟩)
 go_wp2_with fail
 ((with_reducible refine(HA.out _ (Hx.out.ext hE1)).mono ?_);rintro e w2 ⟨g1,zs,rfl,hg1,hr1,hwz,hzl,hzv,hb2⟩;have hE2:f9 w w2:=hE1.more hb2)
 go_wp2_with fail
 ((with_reducible refine(HB.out _ (Hy.out.ext hE2)).mono ?_);rintro e w3 ⟨g2,zs2,rfl,hg2,hr2,hwz2,hzl2,hzv2,hb3⟩;have hE3:f9 w w3:=hE2.more hb3)
 go_wp2_with fail
 have hw2:bi w3 (some ⟨g2,0,none⟩) (m+1) (m+1) zs2:=hr2.wrd' hwz2 hzl2 O_;have htl:(trim zs2).length=m:=by unfold trim;rw[hzv2];exact Hvl.out
 have hw3:=hw2.trim;rw[htl]at hw3;have hvv:trim zs2=digs (b*2^s):=by unfold trim;rw[hzv2]
 rw[hvv]at hw3;have Hw3:=Lib.hid hw3;have Hw2:=Lib.hid hw2
 ((with_reducible refine(gi _ _ _ zs2 _ Hw2.out).mono ?_);rw[htl];rintro e w' ⟨rfl,rfl⟩)
 obtain⟨Q,hQ⟩:∃Q,Q=n+1-m:=⟨_,rfl⟩;have hQ1:Q<=n:=O_
 have hQ2:Q+m=n+1:=O_
 have hmk:=eJ Q ((n:Int)+1-m) O_ O_;have hd21:g2≠g1:=by have:=hr1.lt;omega
 have hK:KS w g1 g2 w3.heap.size m zs (digs (b*2^s)) (aF Q) (w3.alloc (du (aF Q))):=
  ⟨(hr1.below hb3 hr1.lt).alloc _,hw3.alloc _,dy w3 _,hE3.alloc _,V_ hE1.size O_,hE3.size,hd21,by have:=(hr1.below hb3 hr1.lt).lt;omega,by have:=hr2.lt;omega⟩
 have v1:=hK.vcell (m-1) O_;have v2:=hK.vcell (m-2) O_;generalize digs (b*2^s)=vs at *;obtain⟨hi,hhi⟩:∃hi,vs.getD (m-1) 0=hi:=⟨_,rfl⟩;obtain⟨nx,hnx⟩:∃nx,vs.getD (m-2) 0=nx:=⟨_,rfl⟩;have hhi32:hi<4294967296:=by rw[<- hhi];exact hw3.wd.getD _
 have hnx32:nx<4294967296:=by rw[<- hnx];exact hw3.wd.getD _
 rw[hhi]at v1 Hvh;rw[hnx]at v2;have hhi31:2147483648<=hi:=Hvh.out;have HK:=Lib.hid hK;have Hhi:=Lib.hid hhi;have Hnx:=Lib.hid hnx;have Hzv:=Lib.hid hzv;have Hzl:=Lib.hid hzl;have Hwz:=Lib.hid hwz;have Hwv:=Lib.hid hw3.wd;have Hvl2:Hid (vs.length=m):=hw3.len;have HVal:Hid (val vs=b*2^s):=by rw[<- hvv];unfold Hid;rw[dm];exact hzv2
 clear hK hhi hnx hzv hzl hwz hw3 hw2 Hw2 Hw3 hvv htl hr1 hr2 hwz2 hzl2 hzv2 hb1 hb2 hb3 c1 Hcmp HA HB Hlz Hc2 hE1 hE2 hQ hg1 hg2;have g3:(0:Int)<=(m:Int)-2:=O_
 have g4:(m:Int)-2<m:=O_
 have g5:(0:Int)<=(n:Int)+1-m:=O_
 go_wp2_with fail
 obtain⟨W4,hW4⟩:∃W4,W4=w3.alloc (du (aF Q)):=⟨_,rfl⟩;rw[<- hW4]at HK v1 v2 ⊢;clear hW4;obtain⟨gq,hgq⟩:∃gq,gq=w3.heap.size:=⟨_,rfl⟩;rw[<- hgq]at HK ⊢;have hm1:((m:Int)-1).toNat=m-1:=O_
 have hm2:((m:Int)-2).toNat=m-2:=O_
 go_quiet (fail)
 have HK5:=Lib.hid (HK.out.drewN nq);generalize W4.drewN nq=W5 at *;clear HK v1 v2 hgq
 go_wp2_with fail
 obtain⟨V,hVd⟩:∃V,V=val vs:=⟨_,rfl⟩;obtain⟨U0,hU0⟩:∃U0,U0=a*2^s:=⟨_,rfl⟩
 have hKD0:KD n m Q Q V U0 zs (aF Q):=by
  exact UB
 have hV1:V<4294967296^m:=by rw[hVd];have:=fq Hwv.out;rwa[Hvl2.out]at this
 have hV0:0<V:=by
  rcases Nat.eq_zero_or_pos V with h|h
  ·rw[h]at hKD0;have:=hKD0.lt;omega
  ·exact h
 have HVd:=Lib.hid hVd;have HU0:=Lib.hid hU0;have HV1:=Lib.hid hV1;have HKD0:=Lib.hid hKD0;clear hVd hU0 hV1 hKD0 hmk Hzv HU Hzl Hwz Hvh
 go_loopw [15] (fun i wr=>∃(k:Nat) (zs qs:List Nat),k<=Q/\i= .int .i64 ((k:Int)-1)/\KD n m Q k V U0 zs qs/\KS w g1 g2 gq m zs vs qs wr) (fun i _=>(intOf i+1).toNat)
 case atStart=>exact⟨Q,zs,aF Q,l_ _,rfl,HKD0.out,HK5.out⟩
 case round=>
  obtain⟨k,zs,qs,hk,rfl,hD,hS⟩:=hrel;clear HKD0 HK5
  by_cases h0:0<k
  ·obtain⟨j,rfl⟩:∃j,k=j+1:=⟨k-1,by omega⟩
   rw[show((j+1:Nat):Int)-1=(j:Int) by omega];obtain⟨e1,l1,l2,w1,w2,hp0,hplt⟩:=hD.parts hQ2 O_;obtain⟨mm,hmm⟩:∃mm,m=mm+2:=⟨m-2,by omega⟩;have hest:=vJ (us:=part zs j m) (vs:=vs) (k:=mm) (by rw[l2,hmm]) (by rw[Hvl2.out,hmm]) w2 Hwv.out (by rw[<- HVd.out];exact hplt) (by rw[show mm+1=m-1 by omega,Hhi.out];exact hhi31);rw[xb zs j m _ O_,xb zs j m _ O_,xb zs j m _ O_,show mm+1=m-1 by omega,show mm=m-2 by omega,Hhi.out,Hnx.out,<- HVd.out]at hest;have c2:=hS.r1.cell (j+m) (by rw[hD.zl];omega);have c1:=hS.r1.cell (j+(m-1)) (by rw[hD.zl];omega);have c0:=hS.r1.cell (j+(m-2)) (by rw[hD.zl];omega);rw[show m-2+2=m by omega]at hest;obtain⟨u2,hu2⟩:∃u2,zs.getD (j+m) 0=u2:=⟨_,rfl⟩
   obtain⟨u1,hu1⟩:∃u1,zs.getD (j+(m-1)) 0=u1:=⟨_,rfl⟩;obtain⟨u0,hu0⟩:∃u0,zs.getD (j+(m-2)) 0=u0:=⟨_,rfl⟩;obtain⟨q,hq⟩:∃q,q=val (part zs j m)/V:=⟨_,rfl⟩;rw[hu2]at c2 hest;rw[hu1]at c1 hest;rw[hu0]at c0 hest;rw[<- hq]at hest;have hu2b:=hest.u2le;have hu1b:=hest.hu1;have hu0b:=hest.hu0;have hu2c:u2<4294967296:=O_
   have hor:=ij u2 u1 hu2c hu1b;obtain⟨y,hy⟩:∃y,u2*4294967296+u1=y:=⟨_,rfl⟩;rw[hy]at hor;have hy64:y<18446744073709551616:=O_
   obtain⟨D0,hD0⟩:∃D0,y/hi=D0:=⟨_,rfl⟩;obtain⟨R0,hR0⟩:∃R0,y%hi=R0:=⟨_,rfl⟩;have hbeg:=hest.begin;rw[hy,hD0]at hbeg;have hdm:=Nat.div_add_mod y hi;rw[hD0,hR0]at hdm;have hR0b:R0<hi:=by rw[<- hR0];exact Nat.mod_lt _ O_
   have hD0b:D0<18446744073709551616:=by rw[<- hD0];exact Nat.lt_of_le_of_lt (Nat.div_le_self _ _) hy64
   have eq1:(y:Int)/hi=D0:=by rw[<- hD0,Int.natCast_ediv]
   have er1:(y:Int)%hi=R0:=by rw[<- hR0,Int.natCast_emod]
   have eq2:Int.tdiv (y:Int) hi=D0:=by rw[Int.tdiv_eq_ediv_of_nonneg O_,eq1]
   have er2:Int.tmod (y:Int) hi=R0:=by rw[Int.tmod_eq_emod_of_nonneg O_,er1]
   have eq3:IntKind.u64.wrap (D0:Int)=D0:=by rw[IntKind.wrap_u64];omega
   have er3:IntKind.u64.wrap (R0:Int)=R0:=by rw[IntKind.wrap_u64];omega
   have hnz:¬hi=0:=O_
   have k1:IntKind.i64.wrap ((j:Int)+m)=j+m:=IntWalk.i64_in _ O_;have k2:IntKind.i64.wrap ((j:Int)+m-1)=j+m-1:=IntWalk.i64_in _ O_;have k3:((j:Int)+m).toNat=j+m:=O_
   have k4:((j:Int)+m-1).toNat=j+(m-1):=O_
   have k5:(0:Int)<=(j:Int)+m:=O_
   have k6:(j:Int)+m<n+1:=O_
   have k7:(0:Int)<=(j:Int)+m-1:=O_
   have k8:(j:Int)+m-1<n+1:=O_
   have Hest:=Lib.hid hest;have He1:=Lib.hid e1;have Hl:=Lib.hid (And.intro l1 (And.intro l2 (And.intro w1 (And.intro w2 hp0))));have HD:=Lib.hid hD;have HS:=Lib.hid hS;have Hq:=Lib.hid hq;have Hy:=Lib.hid hy;have Hdm:=Lib.hid hdm;have Hmm:=Lib.hid hmm;have Hbeg:=Lib.hid hbeg;clear hest e1 l1 l2 w1 w2 hp0 hD hS hq hy hdm hmm hu2 hu1 hu0 hD0 hR0 hplt hbeg
   go_wp2_with fail
   go_quiet (fail)
   have HS5:=Lib.hid (HS.out.drewN nq);have c0':(wr.drewN nq).cell? ⟨g1,j+(m-2),none⟩=some (bZ u0):=c0;generalize wr.drewN nq=W5' at *
   go_wp2_with fail
   go_quiet (fail)
   have HS6:=Lib.hid (HS5.out.drewN nq);have c06:(W5'.drewN nq).cell? ⟨g1,j+(m-2),none⟩=some (bZ u0):=c0';generalize W5'.drewN nq=W6 at *;clear c0 c1 c2 c0' HS HS5 hor eq1 er1 eq2 er2 eq3 er3 k7 k8 k2 k4
   go_upto_block 3 with(fail)
   go_cut [17,18] (fun v17 _ wx=>V6 q v17 wx W6)
   case first=>
    have k2:IntKind.i64.wrap ((j:Int)+m-2)=j+m-2:=IntWalk.i64_in _ O_;have k4:((j:Int)+m-2).toNat=j+(m-2):=O_
    have k7:(0:Int)<=(j:Int)+m-2:=O_
    have k8:(j:Int)+m-2<n+1:=O_
    have hR0c:R0<4294967296:=O_
    clear HS6 Hq HD Hl He1
    go_wp2_with fail
    go_loop [17,18] (fun a rr=>∃d r:Nat,a= .int .u64 d/\rr= .int .u64 r/\(d*hi+r=u2*4294967296+u1/\q<=d)/\r<4294967296/\d<18446744073709551616) (fun a _=>(intOf a).toNat)
    case atStart=>exact⟨D0,R0,rfl,rfl,⟨by rw[Nat.mul_comm,Hdm.out,Hy.out],Hbeg.out⟩,hR0c,hD0b⟩
    case round=>
     obtain⟨d,r,rfl,rfl,hd,hr,hd64⟩:=hrel;have Hd:=Lib.hid hd;clear hd hD0b hR0b hR0c Hbeg Hdm
     by_cases hd1:4294967296<=d
     ·have hlt:=Hest.out.less Hd.out.1 (.inl hd1)
      have t2:(4294967296:Int)<=d:=O_
      have t3:(1:Int)<=d:=O_
      have hnew:Hid ((d-1)*hi+(r+hi)=u2*4294967296+u1):=by
       exact UG
      exact Ww
     ·have t2:¬(4294967296:Int)<=d:=O_
      have hor:=ij r u0 hr hu0b;obtain⟨T,hT⟩:∃T,r*4294967296+u0=T:=⟨_,rfl⟩;rw[hT]at hor;obtain⟨P,hP⟩:∃P,d*nx=P:=⟨_,rfl⟩;have hP1:(d:Int)*(nx:Int)=(P:Int):=by rw[<- hP,Int.natCast_mul]
      have hPb:P<18446744073709551616:=by
       rw[<- hP];exact Nat.lt_of_le_of_lt (Nat.mul_le_mul (show d<=4294967295 by omega) (show nx<=4294967295 by omega)) D_
      by_cases hc:T<P
      ·have hlt:=Hest.out.less Hd.out.1 (.inr (by rw[hT,hP];exact hc))
       have t3:(1:Int)<=d:=O_
       have t5:(T:Int)<P:=O_
       have hnew:Hid ((d-1)*hi+(r+hi)=u2*4294967296+u1):=by
        exact UG
       clear hT hP;exact Ww
      ·have t5:¬(T:Int)<P:=O_
       have hclose:=Hest.out.close Hd.out.1 O_ Hd.out.2 (by rw[hT,hP];omega);have HF:=Lib.hid hclose;clear hclose hT hP
       go_wp2_with fail
       go_meet
       exact⟨d,rfl,by omega,HF.out,rfl⟩
   case rest=>
    obtain⟨d,rfl,hd32,hdq,rfl⟩:=hcut;have k2:IntKind.i64.wrap ((j:Int)+m+1)=j+m+1:=IntWalk.i64_in _ O_;have k4:((j:Int)+m+1).toNat=j+m+1:=O_
    have k7:(0:Int)<=(j:Int)+m+1:=O_
    have k8:(j:Int)+m+1<=n+1:=O_
    have hS:=HS6.out
    have hsub:Calls Tryz.prog 317 #[.slice (some ⟨g1,j,none⟩) (j+m+1-j) (n+1-j), .slice (some ⟨g2,0,none⟩) m (m+1), .int .u64 d] wc (IL g1 (pre zs j) (part zs j m) (post zs j m) vs d wc):=by
     have h:=Bh g1 m (n+1-j) (j+m+1-j) d (some ⟨g2,0,none⟩) (m+1) (pre zs j) (part zs j m) (post zs j m) vs wc (by rw[<- He1.out];exact hS.r1) Hl.out.2.2.2.1 Hl.out.2.1 hS.wv (fun b o e=>by simp only[X_,Addr.mk.injEq]at e;rw[<- e.1];exact hS.d12) hd32 O_ O_ O_;rw[Hl.out.1]at h;exact h
    have hD:=HD.out;have hnb:=rQ Hq.out;have hbo:=Hf hV0 Hq.out;have Hsub:=Lib.hid hsub;have Hnb:=Lib.hid hnb;have Hbo:=Lib.hid hbo;have gj1:(j:Int)<Q:=O_
    clear c06 hD0b hR0b Hbeg Hdm hS hsub hD hnb hbo;rcases hdq with hdq|hdq
    ·subst hdq
     go_wp2_with fail
     ((with_reducible refine Hsub.out.mono ?_);rintro e w7 ⟨us',rfl,hl',hw',hv',hr',ho'⟩;rw[<- HVd.out,if_neg Hnb.out]at hv';rw[<- HVd.out,F_ Hnb.out];have hS7:=HS6.out.only1 ho' hr';have q0:=hS7.rq.cell j (by rw[HD.out.ql];omega);have q1:=hS7.rq.frozen j;have HS7:=Lib.hid (hS7.setq j d);have HN:=Lib.hid (HD.out.next hQ2 O_ hV0 HV1.out Hq.out hd32 (hl'.trans Hl.out.2.1) hw' O_);clear hl' hw' hv' hr' ho' hS7)
     go_wp2_with fail
     go_roundw
     case rel=>exact⟨j,_,_,by omega,rfl,HN.out,HS7.out⟩
     case measure=>simp[intOf]
    ·have hq32:=Hest.out.qlt
     have hdec:decide (val (part zs j m)<val vs*d)=true:=by rw[<- HVd.out,hdq];exact T_ Hbo.out
     have hlast:(d:Int)-1=q:=O_
     have td:(1:Int)<=d:=O_
     have Hdec:=Lib.hid hdec;have Hdq:=Lib.hid hdq;have Hlast:=Lib.hid hlast;clear hdec hdq hlast
     go_wp2_with fail
     ((with_reducible refine Hsub.out.mono ?_);rintro e w7 ⟨us',rfl,hl',hw',hv',hr',ho'⟩;rw[<- HVd.out,Hdq.out,if_pos Hbo.out]at hv';rw[Hdec.out];have hS7:=HS6.out.only1 ho' hr';have hres:=GL g1 m (n+1-j) (j+m+1-j) (some ⟨g2,0,none⟩) (m+1) (pre zs j) us' (post zs j m) vs w7 hr' hw' (hl'.trans Hl.out.2.1) hS7.wv (fun b o e=>by simp only[X_,Addr.mk.injEq]at e;rw[<- e.1];exact hS7.d12) O_ O_ O_;rw[Hl.out.1]at hres;have Hres:=Lib.hid hres;have HS7:=Lib.hid hS7;have Hv':=Lib.hid hv';have Hl':=Lib.hid (hl'.trans Hl.out.2.1);clear hl' hw' hv' hr' ho' hS7 hres)
     go_wp2_with fail
     ((with_reducible refine Hres.out.mono ?_);rintro e w8 ⟨us2,t,rfl,hl2,hw2,hv2,hr2,ho2⟩;rw[<- HVd.out,Hl'.out]at hv2;have hS8:=HS7.out.only1 ho2 hr2;have q0:=hS8.rq.cell j (by rw[HD.out.ql];omega);have q1:=hS8.rq.frozen j;have HS8:=Lib.hid (hS8.setq j q);have hM:=HV1.out;have hvl:=fq hw2;rw[hl2,Hl'.out]at hvl;have hv1:=Hv'.out;rw[Hl.out.2.1]at hv1;have HN:=Lib.hid (HD.out.next hQ2 O_ hV0 HV1.out Hq.out hq32 (hl2.trans Hl'.out) hw2 (GF hV0 Hq.out hv1 hv2 hvl (by rw[bh];omega)));clear hl2 hw2 hv2 hr2 ho2 hS8 hM hvl hv1)
     go_wp2_with fail
     rw[Hlast.out]
     go_roundw
     case rel=>exact⟨j,_,_,by omega,rfl,HN.out,HS8.out⟩
     case measure=>simp[intOf]
  ·obtain rfl:k=0:=O_
   have hlt:=hD.lt;have hsum:=hD.sum;rw[Nat.pow_zero,o_]at hlt hsum;rw[List.drop_zero]at hsum
   have hqv:val qs=a/b/\val zs=(a%b)*2^s:=by
    exact S4
   have hzt:val (zs.take m)=val zs:=kz (Nat.lt_trans hlt HV1.out);have hwq:=hS.rq.wrd' hD.qw hD.ql O_;have hwu:=(hS.r1.wrd' hD.zw hD.zl O_).take (k:=m) O_
   have hsr:∀W' (A':Option Addr) (n' c':Nat),bi W' A' n' c' (trim (zs.take m))->n'<=4294967296->Calls Tryz.prog 319 #[.slice A' n' c', .int .i64 s] W' (js (fun xs=>val xs=a%b) W'):=by
    intro W' A' n' c' h hn';refine(wn A' n' c' s _ W' h hn' h31).mono ?_;rintro e w' ⟨A1,n1,c1,xs,rfl,h1,⟨h2,_⟩,h3⟩;refine⟨A1,n1,c1,xs,rfl,h1,?_,h3⟩;show val xs=a%b;rw[h2,dm,hzt,hqv.2,Nat.mul_div_cancel _ (Nat.two_pow_pos s)]
   have htl2:(trim (zs.take m)).length<=4294967296:=by
    have:=bR hwu.wd;rw[hwu.len]at this;omega
   have hdq:trim qs=digs (a/b):=by unfold trim;rw[hqv.1]
   have Hwq:=Lib.hid hwq;have Hwu:=Lib.hid hwu;have Hsr:=Lib.hid hsr;have Hdq:=Lib.hid hdq;have Hbe:=Lib.hid hS.be;have k1:(0:Int)<=(m:Int):=O_
   have k2:(m:Int)<=n+1:=O_
   have hE:f9 wr wr.drew:=(f9.refl wr).drew;clear hlt hsum hqv hzt hwq hwu hsr hdq hS hD
   go_wp2_with fail
   go_region_held3 (fun w'=>f9 wr w')
    (with_reducible first|exact hE|assumption|exact f9.more (by assumption) (by assumption))
    (first
     |((go_at_call 194;(with_reducible refine(gi _ _ _ qs _ (Hwq.out.ext (by assumption))).mono ?_);rintro e w' ⟨rfl,rfl⟩))
     |((go_at_call 194;(with_reducible refine(gi _ _ _ (zs.take m) _ (Hwu.out.ext (by assumption))).mono ?_);rintro e w' ⟨rfl,rfl⟩))
     |((go_at_call 319;(with_reducible refine(Hsr.out _ _ _ _ (Hwu.out.trim.ext (by assumption)) htl2).mono ?_);rintro e w9 ⟨A9,n9,c9,xs9,rfl,hw9,hv9,hb9⟩;have hE9:f9 wr w9:=f9.more (by with_reducible assumption) hb9))
     |((go_at_call 194;(with_reducible refine(gi _ _ _ xs9 _ hw9).mono ?_);rintro e w' ⟨rfl,rfl⟩)))
   go_wp2_with fail
   refine bodyPost_ret (v:= .tuple #[.slice (some ⟨gq,0,none⟩) (trim qs).length Q, .slice A9 (trim xs9).length c9]) (by simp[results,results282,go_sem]) rfl ?_;have h1:=Hwq.out.trim.ext hE9;rw[Hdq.out]at h1;have h2:=hw9.trim;have e9:trim xs9=digs (a%b):=by unfold trim;rw[hv9]
   rw[e9]at h2;rw[Hdq.out,e9];exact⟨_,_,_,_,_,_,rfl,h1,h2,Hbe.out.trans (hE9.mono Hbe.out.size)⟩
end
end Go.Proofs.YtnchbpoopnjghaaGreatDoor
