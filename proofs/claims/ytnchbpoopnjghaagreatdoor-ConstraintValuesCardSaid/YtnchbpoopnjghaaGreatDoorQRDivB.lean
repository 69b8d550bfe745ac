/- divide of the reference, every case. -/
import Derived.Test.YtnchbpoopnjghaaGreatDoorQRDivS
import Derived.Test.YtnchbpoopnjghaaGreatDoorQDivB
import Derived.Test.YtnchbpoopnjghaaGreatDoorQAk
set_option maxHeartbeats 100000000
set_option linter.all false
open Go.Proofs.Tryz
namespace Go.Proofs.YtnchbpoopnjghaaGreatDoor
open Go.RowKit
section
attribute [local go_sem ↓] Go.wp_at_zero Go.wp_at_succ
theorem vM {A:Option Addr} {n c s:Nat} {xs:List Nat} {V:Nat} (hV:val xs*2^s=V) (hs:n<=4294967296) (h31:s<=31) (w:World) (hx:bi w A n c xs):
 Calls Tryz.prog 308 #[.slice A n c, .int .i64 s] w (Dn (n+1) V w):=by
 refine(Be A n c s xs w hx hs h31).mono ?_;rintro e w' ⟨g,zs,rfl,h1,h2,h3,⟨h4,h5⟩,h6⟩;exact⟨g,zs,by rw[h5],h1,h2,h3,h5,by rw[h4,hV],h6⟩
theorem KS.more {w:World} {g1 g2 gq m:Nat} {zs vs qs:List Nat} {wr w2:World} (h:KS w g1 g2 gq m zs vs qs wr) (hb:Below wr.heap.size wr w2):KS w g1 g2 gq m zs vs qs w2:=
 ⟨h.r1.below hb h.r1.lt,h.wv.below hb,h.rq.below hb h.rq.lt,Below.trans h.be (hb.mono h.be.size),h.n1,h.nq,h.d12,h.dq1,h.d2q⟩
theorem Al {n Q:Nat} (h:Q<=n):aF n=aF Q++aF (n-Q):=by
 unfold aF;rw[List.replicate_append_replicate];congr 1;omega
theorem LA {qs:List Nat} {j x:Nat} (zs:List Nat) (h:j<qs.length):(qs++zs).set j x=qs.set j x++zs:=List.set_append_left _ _ h
theorem I6 (qs:List Nat) (k:Nat):trim (qs++aF k)=digs (val qs):=by
 unfold trim aF;rw[cu,bv,Nat.mul_zero,Nat.add_zero]
theorem Bx {b m x s:Nat} (hm:0<m) (hl:(digs b).length=m) (hx:(digs b).getD (m-1) 0=x) (hb:bitLen x<=32) (hs:s=32-bitLen x):32*m=bitLen b+s:=by
 obtain⟨k,rfl⟩:∃k,m=k+1:=⟨m-1,by omega⟩;rw[Nat.add_sub_cancel]at hx;have:=(sC (ae b) (wm b) k hl).2;rw[ah,hx]at this;omega
theorem CW:∀(a b:List Nat),(∀j,a.getD j 0=b.getD j 0)->val a=val b
 | [],b,h=>by
  have:val b=0:=kh (fun j=>by rw[<- h j];simp);rw[this];rfl
 |x::xs,[],h=>kh (fun j=>by rw[h j];simp)
 |x::xs,y::ys,h=>by
  have h0:x=y:=by simpa using h 0
  have h1:=CW xs ys (fun j=>by simpa using h (j+1))
  simp only[val,h0,h1]
theorem KS.part {w:World} {g1 g2 gq m:Nat} {p us t vs qs:List Nat} {wr:World} {j k:Nat} (h:KS w g1 g2 gq m (p++us++t) vs qs wr) (hj:p.length=j) (hk:k<us.length) (x:Nat):
 KS w g1 g2 gq m (p++us.set k x++t) vs qs (wr.setCell ⟨g1,j+k,none⟩ (bZ x)):=by
 have hr:=h.r1.set (j+k) x;rw[<- hj,kg p us t k x hk,hj]at hr;exact h.only1 ((fY.refl g1 wr).setCell _ _) hr
theorem rG (us:List Nat) (k x y:Nat):(us.set k x).set k y=us.set k y:=List.set_set ..
theorem FC {a b:List Nat} (ha:Wd a) (hb:Wd b):Wd (a++b):=by
 intro x hx;rcases List.mem_append.1 hx with h|h
 ·exact ha x h
 ·exact hb x h
structure CP (k:Nat) (us ds:List Nat) (m:Nat):Prop where
 l:us.length=m
 wd:Wd us
 eq:∀j,j<k->us.getD j 0=ds.getD j 0
theorem CP.step {k m x:Nat} {us ds:List Nat} (h:CP k us ds m) (hk:k<m) (hx:x<4294967296) (he:ds.getD k 0=x):CP (k+1) (us.set k x) ds m:=by
 refine⟨by rw[List.length_set];exact h.l,dr h.wd k x hx,fun j hj=>?_⟩;rcases Nat.lt_or_ge j k with h1|h1
 ·rw[H_,List.getElem?_set_ne O_,<- H_]
  exact h.eq j h1
 ·obtain rfl:j=k:=O_
  have:=h.l;rw[H_,List.getElem?_set_self O_,he];rfl
theorem CP.fin {m:Nat} {us ds:List Nat} (h:CP m us ds m) (hd:ds.length<=m):val us=val ds:=by
 refine CW _ _ (fun j=>?_);rcases Nat.lt_or_ge j m with h1|h1
 ·exact h.eq j h1
 ·have:=h.l
  rw[H_,H_,List.getElem?_eq_none O_,List.getElem?_eq_none O_]
set_option maxRecDepth 100000 in
theorem u4 (A B:Option Addr) (n c m d a b:Nat) (w:World) (hx:bi w A n c (digs a)) (hy:bi w B m d (digs b)) (hab:b<=a) (hm:2<=m) (hn3:3<=n) (hs:n<=2147483648):
 Calls Tryz.prog 277 #[.slice A n c, .slice B m d] w (jG (a/b) (a%b) w):=by
 have hmn:m<=n:=by
  exact Ug
 obtain⟨x,hxx⟩:∃x,(digs b).getD (m-1) 0=x:=⟨_,rfl⟩;obtain⟨s,hss⟩:∃s,s=32-bitLen x:=⟨_,rfl⟩;obtain⟨h31,hb32,hvl,hvh⟩:=rS O_ hy.len hxx hss;have hU:=DT hx.len O_ hmn hvl hvh h31;have hx32:x<4294967296:=by rw[<- hxx];exact hy.wd.getD _
 have hlz:=fun W' h=>E1 B m d b W' h O_
 have hL:=Bx O_ hy.len hxx hb32 hss;obtain⟨L,hLd⟩:∃L,bitLen b=L:=⟨_,rfl⟩;rw[hLd]at hlz hL;have hsx:((s:Nat):Int)=32*(m:Int)-L:=O_
 obtain⟨o,ho⟩:∃o,bQ (a:Int) b=o:=⟨_,rfl⟩;have hcmp:=HZ ho w hx hy;have ho1:¬o<0:=by have:=jn (a:=(a:Int)) (b:=b) O_;omega
 obtain⟨b1,o1,hB1,hbb1,hc1⟩:=hy.at O_;have hc2:=hc1 (m-1) O_;rw[hxx]at hc2;have hsd:=v6 a b s;have Hx:=Lib.hid hx;have Hy:=Lib.hid hy;have Hcmp:=Lib.hid hcmp;have Hlz:=Lib.hid hlz;have Hsd:=Lib.hid hsd;have HU:=Lib.hid hU;have Hvl:=Lib.hid hvl;have Hvh:=Lib.hid hvh;have Hc2:=Lib.hid hc2;have t0:¬(n:Int)<=2:=O_
 have t1:((m:Int) == 1)=false:=by simp;omega
 have g1:(0:Int)<=(m:Int)-1:=O_
 have g2:(m:Int)-1<m:=O_
 have hA:=vM (A:=A) (n:=n) (c:=c) (s:=s) (xs:=digs a) (V:=a*2^s) (by rw[ah]) O_ h31;have hB:=vM (A:=B) (n:=m) (c:=d) (s:=s) (xs:=digs b) (V:=b*2^s) (by rw[ah]) O_ h31;rw[hsx]at hA hB;have hbk:=fun(A':Option Addr) (n' c':Nat) (xs:List Nat) (W':World) (h:bi W' A' n' c' xs) (h':n'<=4294967296)=>LN A' n' c' s xs W' h h' h31
 rw[hsx]at hbk;have Hbk:=Lib.hid hbk;have HA:=Lib.hid hA;have HB:=Lib.hid hB;have hmcap:=hy.cap;have hmlim:=hy.lim;have g5:32*(m:Int)-L<=9223372036854775807:=O_
 have g6:(L:Int)<=32*(m:Int):=O_
 clear hx hy hcmp hlz hsd hU hvl hvh hc1 hc2 hA hB ho hxx hss hL hLd hsx hbk;subst hB1
 go_enter func277,ntmps277
 go_wp2_with fail
 ((with_reducible refine Hcmp.out.mono ?_);rintro e w1 ⟨rfl,hb1⟩;have hE1:f9 w w1:=hb1;have c1:=Vl Hc2.out hE1)
 go_wp2_with fail
 ((with_reducible refine(Hlz.out _ (Hy.out.ext hE1)).mono ?_);rintro e w' ⟨rfl,rfl⟩)
 go_wp2_with fail
 ((with_reducible refine(HA.out _ (Hx.out.ext hE1)).mono ?_);rintro e w2 ⟨g1,zs,rfl,hg1,hr1,hwz,hzl,hzv,hb2⟩;have hE2:f9 w w2:=hE1.more hb2)
 go_wp2_with fail
 ((with_reducible refine(HB.out _ (Hy.out.ext hE2)).mono ?_);rintro e w3 ⟨g2,zs2,rfl,hg2,hr2,hwz2,hzl2,hzv2,hb3⟩;have hE3:f9 w w3:=hE2.more hb3)
 go_wp2_with fail
 have hw2:bi w3 (some ⟨g2,0,none⟩) (m+1) (m+1) zs2:=hr2.wrd' hwz2 hzl2 O_;have htl:(trim zs2).length=m:=by unfold trim;rw[hzv2];exact Hvl.out
 have hw3:=hw2.trim;rw[htl]at hw3;have hvv:trim zs2=digs (b*2^s):=by unfold trim;rw[hzv2]
 rw[hvv]at hw3;have Hw3:=Lib.hid hw3;have Hw2:=Lib.hid hw2
 ((with_reducible refine(dz _ _ _ zs2 _ Hw2.out).mono ?_);rw[htl];rintro e w' ⟨rfl,rfl⟩)
 obtain⟨Q,hQ⟩:∃Q,Q=n+1-m:=⟨_,rfl⟩;have hQ1:Q<=n:=O_
 have hQ2:Q+m=n+1:=O_
 have hmk:=eJ n n rfl O_;have hd21:g2≠g1:=by have:=hr1.lt;omega
 have hK:KS w g1 g2 w3.heap.size m zs (digs (b*2^s)) (aF n) (w3.alloc (du (aF n))):=
  ⟨(hr1.below hb3 hr1.lt).alloc _,hw3.alloc _,dy w3 _,hE3.alloc _,V_ hE1.size O_,hE3.size,hd21,by have:=(hr1.below hb3 hr1.lt).lt;omega,by have:=hr2.lt;omega⟩
 have hvs0:digs (b*2^s)=digs (val (digs (b*2^s))):=by rw[ah]
 generalize digs (b*2^s)=vs at *;obtain⟨hi,hhi⟩:∃hi,vs.getD (m-1) 0=hi:=⟨_,rfl⟩;obtain⟨nx,hnx⟩:∃nx,vs.getD (m-2) 0=nx:=⟨_,rfl⟩;have hhi32:hi<4294967296:=by rw[<- hhi];exact hw3.wd.getD _
 have hnx32:nx<4294967296:=by rw[<- hnx];exact hw3.wd.getD _
 rw[hhi]at Hvh;have hhi31:2147483648<=hi:=Hvh.out;have HK:=Lib.hid hK;have Hhi:=Lib.hid hhi;have Hnx:=Lib.hid hnx;have Hzv:=Lib.hid hzv;have Hzl:=Lib.hid hzl;have Hwz:=Lib.hid hwz;have Hwv:=Lib.hid hw3.wd;have Hvl2:Hid (vs.length=m):=hw3.len;have HVs:Hid (vs=digs (val vs)):=hvs0;have HVal:Hid (val vs=b*2^s):=by rw[<- hvv];unfold Hid;rw[dm];exact hzv2
 clear hK hhi hnx hzv hzl hwz hw3 hw2 Hw2 Hw3 hvv htl hr1 hr2 hwz2 hzl2 hzv2 hb1 hb2 hb3 c1 Hcmp HA HB Hlz Hc2 hE1 hE2 hQ hg1 hg2;have g3:(0:Int)<=(m:Int)-2:=O_
 have g4:(m:Int)-2<m:=O_
 have g5:(0:Int)<=(n:Int)+1-m:=O_
 go_wp2_with fail
 obtain⟨W4,hW4⟩:∃W4,W4=w3.alloc (du (aF n)):=⟨_,rfl⟩;rw[<- hW4]at HK ⊢;clear hW4;obtain⟨gq,hgq⟩:∃gq,gq=w3.heap.size:=⟨_,rfl⟩;rw[<- hgq]at HK ⊢;clear hgq;have HK5:=HK;clear HK;obtain⟨V,hVd⟩:∃V,V=val vs:=⟨_,rfl⟩;obtain⟨U0,hU0⟩:∃U0,U0=a*2^s:=⟨_,rfl⟩
 have hKD0:KD n m Q Q V U0 zs (aF Q):=by
  exact UB
 have hV1:V<4294967296^m:=by rw[hVd];have:=fq Hwv.out;rwa[Hvl2.out]at this
 have hV0:0<V:=by
  rcases Nat.eq_zero_or_pos V with h|h
  ·rw[h]at hKD0;have:=hKD0.lt;omega
  ·exact h
 have HVd:=Lib.hid hVd;have HU0:=Lib.hid hU0;have HV1:=Lib.hid hV1;have HKD0:=Lib.hid hKD0;rw[Al hQ1]at HK5;clear hVd hU0 hV1 hKD0 hmk Hzv HU Hzl Hwz Hvh
 go_loopw [14] (fun i wr=>∃(k:Nat) (zs qs:List Nat),k<=Q/\i= .int .i64 ((k:Int)-1)/\KD n m Q k V U0 zs qs/\KS w g1 g2 gq m zs vs (qs++aF (n-Q)) wr) (fun i _=>(intOf i+1).toNat)
 case atStart=>exact⟨Q,zs,aF Q,l_ _,congrArg (Value.int .i64) O_,HKD0.out,HK5.out⟩
 case round=>
  obtain⟨k,zs,qs,hk,rfl,hD,hS⟩:=hrel;clear HKD0 HK5
  by_cases h0:0<k
  ·obtain⟨j,rfl⟩:∃j,k=j+1:=⟨k-1,by omega⟩
   rw[show((j+1:Nat):Int)-1=(j:Int) by omega];obtain⟨e1,l1,l2,w1,w2,hp0,hplt⟩:=hD.parts hQ2 O_;obtain⟨mm,hmm⟩:∃mm,m=mm+2:=⟨m-2,by omega⟩;have hest:=vJ (us:=part zs j m) (vs:=vs) (k:=mm) (by rw[l2,hmm]) (by rw[Hvl2.out,hmm]) w2 Hwv.out (by rw[<- HVd.out];exact hplt) (by rw[show mm+1=m-1 by omega,Hhi.out];exact hhi31);rw[<- HVd.out,show mm+1=m-1 by omega,show mm+2=m by omega,Hhi.out]at hest;obtain⟨q,hq⟩:∃q,q=val (part zs j m)/V:=⟨_,rfl⟩;rw[<- hq]at hest;have hq32:=hest.qlt;have hvs:vs=digs V:=by rw[HVd.out];exact HVs.out
   have k1:IntKind.i64.wrap ((j:Int)+m)=j+m:=IntWalk.i64_in _ O_;have k2:IntKind.i64.wrap ((j:Int)+m+1)=j+m+1:=IntWalk.i64_in _ O_;have k4:((j:Int)+m+1).toNat=j+m+1:=O_
   have k7:(0:Int)<=(j:Int)+m+1:=O_
   have k8:(j:Int)+m+1<=n+1:=O_
   have k9:(j:Int)<n:=O_
   have k10:(j:Int)<=j+m+1:=O_
   have hzl:=hD.zl
   have hpw:∀W',eS W' g1 zs->bi W' (some ⟨g1,j,none⟩) (j+m+1-j) (n+1-j) (part zs j m):=by
    intro W' hr;have:=hr.part hD.zw j (m+1) (n+1-j) O_ O_ O_;rw[show j+m+1-j=m+1 by omega];exact this
   have hdig:=Kl (some ⟨g1,j,none⟩) (some ⟨g2,0,none⟩) m (j+m+1-j) (n+1-j) (m+1) (part zs j m) vs V q hi _ _ _ _ _ _ _ wr (hpw _ hS.r1) O_ hS.wv hvs hest rfl rfl Hhi.out hm O_;have Hdig:=Lib.hid hdig;have Hpw:=Lib.hid hpw;have He1:=Lib.hid e1;have Hl:=Lib.hid (And.intro l1 (And.intro l2 (And.intro w1 (And.intro w2 hp0))));have HD:=Lib.hid hD;have HS:=Lib.hid hS;have Hq:=Lib.hid hq;have Hmm:=Lib.hid hmm;have Hvs:=Lib.hid hvs;clear hest e1 l1 l2 w1 w2 hp0 hD hS hq hmm hplt hdig hpw hvs
   go_wp2_with fail
   ((with_reducible refine Hdig.out.mono ?_);rintro e w7 ⟨gp,pn,pc,rfl,hgp,hwp,hb7⟩;have hS7:=HS.out.more hb7;have q0:=hS7.rq.cell j (by rw[L_,HD.out.ql];omega);have q1:=hS7.rq.frozen j;have hS8:=hS7.setq j q;have hpq:gp≠gq:=(by have:=HS.out.rq.lt;omega);have hwp8:=hwp.only ((fY.refl gq w7).setCell j (bZ q)) (fun b o e=>by simp only[X_,Addr.mk.injEq]at e;rw[<- e.1];exact hpq);have HS8:=Lib.hid hS8;have Hwp:=Lib.hid hwp8;clear hS7 hS8 hwp8 hwp hb7 hpq hgp)
   have hptr:bi (w7.setCell ⟨gq,j,none⟩ (bZ q)) (some ⟨g1,j,none⟩) (j+m+1-j) (n+1-j) (part zs j m):=Hpw.out _ HS8.out.r1;have Hptr:=Lib.hid hptr;have hW:Below w.heap.size w (w7.setCell ⟨gq,j,none⟩ (bZ q)):=HS8.out.be;have HW:=Lib.hid hW;clear hptr hW
   go_wp2_with fail
   clear q0 q1;obtain⟨W8,hW8⟩:∃W8,W8=w7.setCell ⟨gq,j,none⟩ (bZ q):=⟨_,rfl⟩;have hW8':w7.setCell ⟨gq,j,none⟩ (.int .u32 q)=W8:=hW8.symm;rw[<- hW8]at HS8 Hwp Hptr HW;rw[hW8'];clear hW8 hW8';have hqV:V*q<=val (part zs j m):=by rw[Hq.out];exact Nat.mul_div_le _ _
   have hmin:=vO (some ⟨g1,j,none⟩) (some ⟨gp,0,none⟩) (trim (part zs j m)).length pn (n+1-j) pc (trim (part zs j m)) (digs (V*q)) W8 Hptr.out.trim Hwp.out (by rw[dm,ah];exact hqV) (by have:=bR Hl.out.2.2.2.1;have:=Hl.out.2.1;omega);rw[dm,ah]at hmin;have Hmin:=Lib.hid hmin;have HqV:=Lib.hid hqV;clear hmin hqV
   ((with_reducible refine(dz _ _ _ (part zs j m) _ Hptr.out).mono ?_);rintro e w' ⟨rfl,rfl⟩)
   go_wp2_with fail
   ((with_reducible refine Hmin.out.mono ?_);rintro e w9 ⟨gd,dn,dc,rfl,hgd,hwd,hb9⟩;have hS9:=HS8.out.more hb9;have hd1:gd≠g1:=(by have:=HS8.out.r1.lt;omega);have HS9:=Lib.hid hS9;have Hwd:=Lib.hid hwd;clear hS9 hwd hb9 hgd)
   obtain⟨ds,hds⟩:∃ds,ds=digs (val (part zs j m)-V*q):=⟨_,rfl⟩;rw[<- hds]at Hwd
   have hdl:dn<=m+1:=by
    rw[<- Hwd.out.len,hds];refine aS (Nat.lt_of_le_of_lt (Nat.sub_le _ _) ?_);have:=fq Hl.out.2.2.2.1
    rwa[Hl.out.2.1]at this
   have hdv:val ds=val (part zs j m)-V*q:=by rw[hds,ah]
   have hdw:Wd ds:=Hwd.out.wd;have Hdv:=Lib.hid hdv;have Hdw:=Lib.hid hdw;have hmj:((j+m+1-j:Nat):Int)=m+1:=O_
   have Hmj:=Lib.hid hmj;have hcp:CP 0 (part zs j m) ds (m+1):=⟨Hl.out.2.1,Hl.out.2.2.2.1,fun j hj=>by omega⟩;have hks:KS w g1 g2 gq m (pre zs j++part zs j m++post zs j m) vs ((qs++aF (n-Q)).set j q) w9:=by rw[<- He1.out];exact HS9.out
   have Hcp:=Lib.hid hcp;have Hks:=Lib.hid hks;clear hds hdv hdw hmj hcp hks HS9 HS8 HW Hptr Hmin Hdig HS Hpw
   go_wp2_with fail
   go_loopw [19] (fun a wy=>∃(t:Nat) (us:List Nat),a= .int .i64 t/\t<=m+1/\CP t us ds (m+1)/\KS w g1 g2 gq m (pre zs j++us++post zs j m) vs ((qs++aF (n-Q)).set j q) wy/\bi wy (some ⟨gd,0,none⟩) dn dc ds) (fun a _=>m+1-(intOf a).toNat)
   case atStart=>exact⟨0,_,rfl,Nat.zero_le _,Hcp.out,Hks.out,Hwd.out⟩
   case round=>
    obtain⟨t,us,rfl,ht,hC,hK,hD9⟩:=hrel;clear Hcp Hks Hwd
    by_cases htm:t<m+1
    ·have hu:=hC.l
     have r0:=hK.r1.cell (j+t) (by simp only[L_,Hl.out.1];omega);have r1:=hK.r1.frozen (j+t);have hK1:=hK.part Hl.out.1 (by rw[hu];exact htm) 0 (k:=t);have n1:(t:Int)<((j+m+1-j:Nat):Int):=O_
     have n2:(t:Int)<m+1:=O_
     by_cases htd:t<dn
     ·have n3:(t:Int)<dn:=O_
      have hD1:=hD9.only ((fY.refl g1 _).setCell (j+t) (bZ 0)) (fun b o e=>by simp only[X_,Addr.mk.injEq]at e;rw[<- e.1];exact hd1);obtain⟨b9,o9,e9,_,hc9⟩:=hD9.at O_
      simp only[X_,Addr.mk.injEq]at e9
      obtain⟨rfl,rfl,-⟩:=e9;have r2:=hc9 t htd;obtain⟨y,hy⟩:∃y,ds.getD t 0=y:=⟨_,rfl⟩;rw[J_,hy]at r2;have hy32:y<4294967296:=by rw[<- hy];exact Hdw.out.getD _
      have r3:=hK1.r1.cell (j+t) (by simp only[L_,List.length_set,Hl.out.1];omega);have r4:=hK1.r1.frozen (j+t);have HC:=Lib.hid (hC.step htm (x:=y) hy32 hy);have hK2:=hK1.part (k:=t) Hl.out.1 (by rw[List.length_set,hu];exact htm) y;rw[rG]at hK2;have HK2:=Lib.hid hK2;have HD9:=Lib.hid (hD1.only ((fY.refl g1 _).setCell (j+t) (bZ y)) (fun b o e=>by simp only[X_,Addr.mk.injEq]at e;rw[<- e.1];exact hd1));clear hC hK hK1 hK2 hD9 hD1 hu hc9 hy
      go_wp2_with fail
      go_roundw
      case rel=>exact⟨t+1,_,by go_num,by omega,HC.out,HK2.out,HD9.out⟩
      case measure=>simp[intOf];omega
     ·have n3:¬(t:Int)<dn:=O_
      have HC:=Lib.hid (hC.step htm (x:=0) D_ (by rw[H_,List.getElem?_eq_none (by rw[hD9.len];omega)];rfl));have HK1:=Lib.hid hK1;have HD9:=Lib.hid (hD9.only ((fY.refl g1 _).setCell (j+t) (bZ 0)) (fun b o e=>by simp only[X_,Addr.mk.injEq]at e;rw[<- e.1];exact hd1));clear hC hK hK1 hD9 hu
      go_wp2_with fail
      go_roundw
      case rel=>exact⟨t+1,_,by go_num,by omega,HC.out,HK1.out,HD9.out⟩
      case measure=>simp[intOf];omega
    ·obtain rfl:t=m+1:=O_
     have hdv2:=hC.fin (by rw[hD9.len];exact hdl);rw[Hdv.out]at hdv2;have HN:=Lib.hid (HD.out.next hQ2 O_ hV0 HV1.out Hq.out hq32 hC.l hC.wd hdv2);rw[LA _ (by rw[HD.out.ql];omega)]at hK;have HK:=Lib.hid hK;clear hC hK hD9 hdv2
     go_wp2_with fail
     go_roundw
     case rel=>exact⟨j,_,_,by omega,rfl,HN.out,HK.out⟩
     case measure=>simp[intOf]
  ·obtain rfl:k=0:=O_
   have hlt:=hD.lt;have hsum:=hD.sum;rw[Nat.pow_zero,o_]at hlt hsum;rw[List.drop_zero]at hsum
   have hqv:val qs=a/b/\val zs=(a%b)*2^s:=by
    exact S4
   have hwq:bi wr (some ⟨gq,0,none⟩) n n (qs++aF (n-Q)):=hS.rq.wrd' (FC hD.qw (cH _)) (by rw[L_,aO,hD.ql];omega) O_;have hwu:bi wr (some ⟨g1,0,none⟩) (n+1) (n+1) zs:=hS.r1.wrd' hD.zw hD.zl O_;have hdq:trim (qs++aF (n-Q))=digs (a/b):=by rw[I6,hqv.1]
   have hsr:∀W' (A':Option Addr) (n' c':Nat),bi W' A' n' c' (trim zs)->n'<=4294967296->Calls Tryz.prog 310 #[.slice A' n' c', .int .i64 (32*(m:Int)-L)] W' (js (fun xs=>xs=digs (a%b)) W'):=by
    intro W' A' n' c' h hn';have:=Hbk.out A' n' c' _ W' h hn'
    rwa[dm,hqv.2,Nat.mul_div_cancel _ (Nat.two_pow_pos s)]at this
   have htl2:(trim zs).length<=4294967296:=by
    have:=bR hwu.wd;rw[hwu.len]at this;omega
   have Hwq:=Lib.hid hwq;have Hwu:=Lib.hid hwu;have Hsr:=Lib.hid hsr;have Hdq:=Lib.hid hdq;have Hbe:=Lib.hid hS.be;clear hlt hsum hqv hwq hwu hsr hdq hS hD Hbk
   go_wp2_with fail
   ((with_reducible refine(dz _ _ _ (qs++aF (n-Q)) _ Hwq.out).mono ?_);rintro e w' ⟨rfl,rfl⟩)
   go_wp2_with fail
   ((with_reducible refine(dz _ _ _ zs _ Hwu.out).mono ?_);rintro e w' ⟨rfl,rfl⟩)
   go_wp2_with fail
   ((with_reducible refine(Hsr.out _ _ _ _ Hwu.out.trim htl2).mono ?_);rintro e w9 ⟨A9,n9,c9,xs9,rfl,hw9,hv9,hb9⟩;have hE9:f9 wr w9:=hb9)
   go_wp2_with fail
   refine bodyPost_ret (v:= .tuple #[.slice (some ⟨gq,0,none⟩) (trim (qs++aF (n-Q))).length n, .slice A9 n9 c9]) (by simp[results,results277,go_sem]) rfl ?_;have h1:=Hwq.out.trim.ext hE9;rw[Hdq.out]at h1 ⊢;rw[hv9]at hw9;exact⟨_,_,_,_,_,_,rfl,h1,hw9,Hbe.out.trans (hE9.mono Hbe.out.size)⟩
def Sj (a b:Nat):Prop:=∀(A:Option Addr) (n c:Nat) (B:Option Addr) (m d:Nat) (w:World),bi w A n c (digs a)->bi w B m d (digs b)->Calls Tryz.prog 277 #[.slice A n c, .slice B m d] w (jG (a/b) (a%b) w)
theorem R8 {a b:Nat} (ha:(digs a).length<=2147483648) (hb:0<b):Sj a b:=by
 intro A n c B m d w hx hy;have hn:=hx.len;have hm:=hy.len
 have hm0:m≠0:=by
  exact Ve
 by_cases h:a<b
 ·exact xn A B n c m d a b w hx hy h
 ·by_cases h2:n<=2
  ·exact uP A B n c m d a b w hx hy O_ hb h2
  ·by_cases h1:m=1
   ·exact u3 A B n c m d a b w hx hy O_ h1 O_ O_
   ·exact u4 A B n c m d a b w hx hy O_ O_ O_ O_
end
end Go.Proofs.YtnchbpoopnjghaaGreatDoor
