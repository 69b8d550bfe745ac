/- divide of the program where the divisor has two words or more. -/
import Derived.Test.YtnchbpoopnjghaaGreatDoorRAl
set_option maxHeartbeats 100000000
set_option linter.all false
open Go.Proofs.Tryz
namespace Go.Proofs.YtnchbpoopnjghaaGreatDoor
open Go.RowKit
section
attribute [local go_sem ↓] Go.wp_at_zero Go.wp_at_succ
def Ew(L V:Nat)(w:World)(e:Ending)(w':World):Prop:=∃g zs,e= .returned (.slice (some ⟨g,0,none⟩) L L)/\w.heap.size<=g/\eK w' g zs/\Wd zs/\zs.length=L/\val zs=V/\Below w.heap.size w w'
def yA{A:Option Addr}{n c s:Nat}{xs:List Nat}{V:Nat}(k:val xs*2^s=V)(l:n<=4294967296)(a:s<=31)(w:World)(o:a7 w A n c xs):
 Calls prog 316 #[.slice A n c, .int .i64 s] w (Ew (n+1) V w):=by
 refine(zk A n c s xs w o l a).mono ?_;rintro e p ⟨g,zs,rfl,d,f,h,⟨i,b⟩,j⟩;exact⟨g,zs,by rw[b],d,f,h,b,by rw[i,k],j⟩
def L4{x s:Nat}(c:x<4294967296)(d:bitLen x<=32)(b:s=32-bitLen x)(w:World):Calls prog 315 #[.int .u32 x] w fun e a=>e= .returned (.int .i64 s)/\w=a:=by refine(Tryz.bits_LeadingZeros32 x w O_ O_).mono ?_;rintro e a ⟨rfl,rfl⟩;refine⟨Oj ?_,rfl⟩;rw[Int.toNat_natCast,Ct x c,b];omega
def TS{o:Int}{A B:Option Addr}{n m c d a b:Nat}(ho:bG a b=o)(w:World)(f:a7 w A n c (digs a))(g:a7 w B m d (digs b)):Calls prog 235 #[.slice A n c, .slice B m d] w (Tj o w):=by have:=lE A B n m c d (digs a) (digs b) w f g;exact TH
structure KS (w:World) (g1 g2 gq m:Nat) (zs vs qs:List Nat) (wr:World):Prop where
 r1:eK wr g1 zs
 wv:a7 wr (some ⟨g2,0,none⟩) m (m+1) vs
 rq:eK wr gq qs
 be:Below w.heap.size w wr
 n1:w.heap.size<=g1
 nq:w.heap.size<=gq
 d12:g2≠g1
 dq1:gq≠g1
 d2q:g2≠gq
section
variable {w:World}{g1 g2 gq m:Nat}{zs vs qs:List Nat}{wr w2:World}
def KS.drewN(h:KS w g1 g2 gq m zs vs qs wr)(k:Nat):KS w g1 g2 gq m zs vs qs (wr.drewN k):=
 ⟨h.r1,h.wv.drewN k,h.rq,Below.drewN h.be k,h.n1,h.nq,h.d12,h.dq1,h.d2q⟩
def KS.only1{a:List Nat}(h:KS w g1 g2 gq m zs vs qs wr)(c:gh g1 wr w2)(d:eK w2 g1 a):KS w g1 g2 gq m a vs qs w2:=
 ⟨d,h.wv.only c (fun b o e=>by simp only[X_,Addr.mk.injEq]at e;rw[<- e.1];exact h.d12),h.rq.only c h.dq1,c.below h.be h.n1,h.n1,h.nq,h.d12,h.dq1,h.d2q⟩
def KS.setq(h:KS w g1 g2 gq m zs vs qs wr)(i x:Nat):KS w g1 g2 gq m zs vs (qs.set i x) (wr.setCell ⟨gq,i,none⟩ (bP x)):=
 ⟨h.r1.only ((gh.refl gq wr).setCell i _) (Ne.symm h.dq1),h.wv.only ((gh.refl gq wr).setCell i _) (fun b o e=>by simp only[X_,Addr.mk.injEq]at e;rw[<- e.1];exact h.d2q),h.rq.set i x,((gh.refl gq wr).setCell i _).below h.be h.nq,h.n1,h.nq,h.d12,h.dq1,h.d2q⟩
def KS.vcell(h:KS w g1 g2 gq m zs vs qs wr)(i:Nat)(c:i<m):wr.cell? ⟨g2,i,none⟩=some (bP (vs.getD i 0)):=by obtain⟨b,d,e,_,a⟩:=h.wv.at O_;simp only[X_,Addr.mk.injEq]at e;obtain⟨rfl,rfl,-⟩:=e;have:=a i c;rwa[J_]at this
end
def tj{U V q:Nat}(b:q=U/V):¬U<V*q:=by have a:=Nat.mul_div_le U V;rw[<- b]at a;omega
def J5{U V q:Nat}(b:0<V)(c:q=U/V):U<V*(q+1):=by have a:=Nat.lt_mul_div_succ U b;rw[<- c]at a;exact a
def EN{U V q x a t M:Nat}(f:0<V)(c:q=U/V)(d:x+V*(q+1)=U+M)(k:a+t*M=x+V)(j:a<M)(g:V<M):a=U-V*q:=by
 have l:=tj c;have e:=J5 f c;rw[Nat.mul_add,o_]at d e;have i:t=1:=by
  rcases Nat.lt_or_ge t 1 with h|h
  ·have:t=0:=O_;subst this;omega
  ·rcases Nat.lt_or_ge 1 t with b|b
   ·exfalso;have:=P_ M b;omega
   ·omega
 subst i;omega
def U4(q:Nat)(v:Value)(b a:World):Prop:=∃d:Nat,v= .int .u64 d/\d<4294967296/\(d=q∨d=q+1)/\b=a
set_option maxRecDepth 100000 in
def wf(A B:Option Addr)(n c m d a b:Nat)(w:World)(hx:a7 w A n c (digs a))(hy:a7 w B m d (digs b))(hab:b<=a)(hm:2<=m)(ew:3<=n)(hs:n<=2147483648):
 Calls prog 282 #[.slice A n c, .slice B m d] w (j2 (a/b) (a%b) w):=by
 have eb:m<=n:=by exact T1
 obtain⟨x,a5⟩:∃x,(digs b).getD (m-1) 0=x:=⟨_,rfl⟩;obtain⟨s,b4⟩:∃s,s=32-bitLen x:=⟨_,rfl⟩;obtain⟨ad,cs,C,cc⟩:=uc O_ hy.len a5 b4;have hU:=Dk hx.len O_ eb C cc ad;have cU:x<4294967296:=by rw[<- a5];exact hy.wd.getD _
 have cz:=L4 cU cs b4;obtain⟨o,ho⟩:∃o,bG (a:Int) b=o:=⟨_,rfl⟩;have bk:=TS ho w hx hy;have eF:¬o<0:=by have:=jA (a:=(a:Int)) (b:=b) O_;omega
 obtain⟨b1,o1,d0,ei,hc1⟩:=hy.at O_;have bx:=hc1 (m-1) O_;rw[a5]at bx;have cF:=vX a b s;have Hx:=Lib.hid hx;have Hy:=Lib.hid hy;have Hcmp:=Lib.hid bk;have Hlz:=Lib.hid cz;have Hsd:=Lib.hid cF;have HU:=Lib.hid hU;have Hvl:=Lib.hid C;have Hvh:=Lib.hid cc;have Hc2:=Lib.hid bx;have t0:¬(n:Int)<=2:=O_;have t1:((m:Int) == 1)=false:=by simp;omega
 have g1:(0:Int)<=(m:Int)-1:=O_;have g2:(m:Int)-1<m:=O_;have hA:=yA (A:=A) (n:=n) (c:=c) (s:=s) (xs:=digs a) (V:=a*2^s) (by rw[ae]) O_ ad;have hB:=yA (A:=B) (n:=m) (c:=d) (s:=s) (xs:=digs b) (V:=b*2^s) (by rw[ae]) O_ ad;have HA:=Lib.hid hA;have HB:=Lib.hid hB;have d6:=hy.cap;have ea:=hy.lim;clear hx hy bk cz cF hU C cc hc1 bx hA hB ho a5 b4;subst d0
 go_enter func282,ntmps282
 go_wp2_with fail
 ((with_reducible refine Hcmp.out.mono ?_);rintro e w1 ⟨rfl,cq⟩;have R:gi w w1:=cq;have c1:=UU Hc2.out R)
 go_wp2_with fail
 ((with_reducible refine(Hlz.out _).mono ?_);rintro e w' ⟨rfl,rfl⟩)
 go_wp2_with fail
 ((with_reducible refine(HA.out _ (Hx.out.ext R)).mono ?_);rintro e w2 ⟨g1,zs,rfl,d3,J,cT,cW,c4,cr⟩;have bs:gi w w2:=R.more cr)
 go_wp2_with fail
 ((with_reducible refine(HB.out _ (Hy.out.ext bs)).mono ?_);rintro e w3 ⟨g2,a9,rfl,d4,K,bq,br,G,ao⟩;have cl:gi w w3:=bs.more ao)
 go_wp2_with fail
 have D:a7 w3 (some ⟨g2,0,none⟩) (m+1) (m+1) a9:=K.wrd' bq br O_;have b9:(trim a9).length=m:=by unfold trim;rw[G];exact Hvl.out
 have u:=D.trim;rw[b9]at u;have cd:trim a9=digs (b*2^s):=by unfold trim;rw[G]
 rw[cd]at u;have Hw3:=Lib.hid u;have Hw2:=Lib.hid D
 ((with_reducible refine(gk _ _ _ a9 _ Hw2.out).mono ?_);rw[b9];rintro e w' ⟨rfl,rfl⟩)
 obtain⟨Q,hQ⟩:∃Q,Q=n+1-m:=⟨_,rfl⟩;have es:Q<=n:=O_;have hQ2:Q+m=n+1:=O_;have hmk:=eD Q ((n:Int)+1-m) O_ O_;have cw:g2≠g1:=by have:=J.lt;omega
 have hK:KS w g1 g2 w3.heap.size m zs (digs (b*2^s)) (ax Q) (w3.alloc (de (ax Q))):=
  ⟨(J.below ao J.lt).alloc _,u.alloc _,dp w3 _,cl.alloc _,V_ R.size O_,cl.size,cw,by have:=(J.below ao J.lt).lt;omega,by have:=K.lt;omega⟩
 have v1:=hK.vcell (m-1) O_;have v2:=hK.vcell (m-2) O_;generalize digs (b*2^s)=vs at *;obtain⟨hi,a0⟩:∃hi,vs.getD (m-1) 0=hi:=⟨_,rfl⟩;obtain⟨nx,a2⟩:∃nx,vs.getD (m-2) 0=nx:=⟨_,rfl⟩;have d5:hi<4294967296:=by rw[<- a0];exact u.wd.getD _
 have ed:nx<4294967296:=by rw[<- a2];exact u.wd.getD _
 rw[a0]at v1 Hvh;rw[a2]at v2;have b0:2147483648<=hi:=Hvh.out;have HK:=Lib.hid hK;have Hhi:=Lib.hid a0;have Hnx:=Lib.hid a2;have Hzv:=Lib.hid c4;have Hzl:=Lib.hid cW;have Hwz:=Lib.hid cT;have Hwv:=Lib.hid u.wd;have Hvl2:Hid (vs.length=m):=u.len;have HVal:Hid (val vs=b*2^s):=by rw[<- cd];unfold Hid;rw[c6];exact G
 clear hK a0 a2 c4 cW cT u D Hw2 Hw3 cd b9 J K bq br G cq cr ao c1 Hcmp HA HB Hlz Hc2 R bs hQ d3 d4;have g3:(0:Int)<=(m:Int)-2:=O_;have g4:(m:Int)-2<m:=O_;have g5:(0:Int)<=(n:Int)+1-m:=O_
 go_wp2_with fail
 obtain⟨W4,cp⟩:∃W4,W4=w3.alloc (de (ax Q)):=⟨_,rfl⟩;rw[<- cp]at HK v1 v2 ⊢;clear cp;obtain⟨gq,cy⟩:∃gq,gq=w3.heap.size:=⟨_,rfl⟩;rw[<- cy]at HK ⊢;have et:((m:Int)-1).toNat=m-1:=O_;have ev:((m:Int)-2).toNat=m-2:=O_
 go_quiet (fail)
 have HK5:=Lib.hid (HK.out.drewN nq);generalize W4.drewN nq=W5 at *;clear HK v1 v2 cy
 go_wp2_with fail
 obtain⟨V,hVd⟩:∃V,V=val vs:=⟨_,rfl⟩;obtain⟨U0,hU0⟩:∃U0,U0=a*2^s:=⟨_,rfl⟩;have E:KD n m Q Q V U0 zs (ax Q):=by exact Uv
 have cn:V<4294967296^m:=by rw[hVd];have:=fQ Hwv.out;rwa[Hvl2.out]at this
 have hV0:0<V:=by
  rcases Nat.eq_zero_or_pos V with h|h
  ·rw[h]at E;have:=E.lt;omega
  ·exact h
 have HVd:=Lib.hid hVd;have HU0:=Lib.hid hU0;have HV1:=Lib.hid cn;have HKD0:=Lib.hid E;clear hVd hU0 cn E hmk Hzv HU Hzl Hwz Hvh
 go_loopw [15] (fun i wr=>∃(k:Nat)(zs qs:List Nat),k<=Q/\i= .int .i64 ((k:Int)-1)/\KD n m Q k V U0 zs qs/\KS w g1 g2 gq m zs vs qs wr) (fun i _=>(intOf i+1).toNat)
 case atStart=>exact⟨Q,zs,ax Q,l_ _,rfl,HKD0.out,HK5.out⟩
 case round=>
  obtain⟨k,zs,qs,hk,rfl,z,F⟩:=hrel;clear HKD0 HK5;by_cases h0:0<k
  ·obtain⟨j,rfl⟩:∃j,k=j+1:=⟨k-1,by omega⟩;rw[show((j+1:Nat):Int)-1=(j:Int) by omega];obtain⟨e1,l1,l2,w1,w2,cD,bo⟩:=z.parts hQ2 O_;obtain⟨mm,a1⟩:∃mm,m=mm+2:=⟨m-2,by omega⟩;have f:=vO (us:=part zs j m) (vs:=vs) (k:=mm) (by rw[l2,a1]) (by rw[Hvl2.out,a1]) w2 Hwv.out (by rw[<- HVd.out];exact bo) (by rw[show mm+1=m-1 by omega,Hhi.out];exact b0);rw[xS zs j m _ O_,xS zs j m _ O_,xS zs j m _ O_,show mm+1=m-1 by omega,show mm=m-2 by omega,Hhi.out,Hnx.out,<- HVd.out]at f;have c2:=F.r1.cell (j+m) (by rw[z.zl];omega);have c1:=F.r1.cell (j+(m-1)) (by rw[z.zl];omega);have c0:=F.r1.cell (j+(m-2)) (by rw[z.zl];omega);rw[show m-2+2=m by omega]at f;obtain⟨u2,cP⟩:∃u2,zs.getD (j+m) 0=u2:=⟨_,rfl⟩;obtain⟨u1,cN⟩:∃u1,zs.getD (j+(m-1)) 0=u1:=⟨_,rfl⟩;obtain⟨u0,cJ⟩:∃u0,zs.getD (j+(m-2)) 0=u0:=⟨_,rfl⟩;obtain⟨q,hq⟩:∃q,q=val (part zs j m)/V:=⟨_,rfl⟩;rw[cP]at c2 f;rw[cN]at c1 f;rw[cJ]at c0 f;rw[<- hq]at f;have en:=f.u2le;have cO:=f.hu1;have cK:=f.hu0;have cQ:u2<4294967296:=O_;have a3:=iE u2 u1 cQ cO;obtain⟨y,hy⟩:∃y,u2*4294967296+u1=y:=⟨_,rfl⟩;rw[hy]at a3;have cV:y<18446744073709551616:=O_;obtain⟨D0,N⟩:∃D0,y/hi=D0:=⟨_,rfl⟩;obtain⟨R0,ag⟩:∃R0,y%hi=R0:=⟨_,rfl⟩;have S:=f.begin;rw[hy,N]at S;have bN:=Nat.div_add_mod y hi;rw[N,ag]at bN;have bb:R0<hi:=by rw[<- ag];exact Nat.mod_lt _ O_
   have O:D0<18446744073709551616:=by rw[<- N];exact Nat.lt_of_le_of_lt (Nat.div_le_self _ _) cV
   have cj:(y:Int)/hi=D0:=by rw[<- N,Int.natCast_ediv]
   have ck:(y:Int)%hi=R0:=by rw[<- ag,Int.natCast_emod]
   have df:Int.tdiv (y:Int) hi=D0:=by rw[Int.tdiv_eq_ediv_of_nonneg O_,cj]
   have ds:Int.tmod (y:Int) hi=R0:=by rw[Int.tmod_eq_emod_of_nonneg O_,ck]
   have dn:IntKind.u64.wrap (D0:Int)=D0:=by rw[IntKind.wrap_u64];omega
   have dP:IntKind.u64.wrap (R0:Int)=R0:=by rw[IntKind.wrap_u64];omega
   have ex:¬hi=0:=O_;have k1:IntKind.i64.wrap ((j:Int)+m)=j+m:=IntWalk.i64_in _ O_;have k2:IntKind.i64.wrap ((j:Int)+m-1)=j+m-1:=IntWalk.i64_in _ O_;have k3:((j:Int)+m).toNat=j+m:=O_;have k4:((j:Int)+m-1).toNat=j+(m-1):=O_;have k5:(0:Int)<=(j:Int)+m:=O_;have k6:(j:Int)+m<n+1:=O_;have k7:(0:Int)<=(j:Int)+m-1:=O_;have k8:(j:Int)+m-1<n+1:=O_;have Hest:=Lib.hid f;have He1:=Lib.hid e1;have Z:=Lib.hid (And.intro l1 (And.intro l2 (And.intro w1 (And.intro w2 cD))));have HD:=Lib.hid z;have HS:=Lib.hid F;have Hq:=Lib.hid hq;have Hy:=Lib.hid hy;have Hdm:=Lib.hid bN;have Hmm:=Lib.hid a1;have Hbeg:=Lib.hid S;clear f e1 l1 l2 w1 w2 cD z F hq hy bN a1 cP cN cJ N ag bo S
   go_wp2_with fail
   go_quiet (fail)
   have HS5:=Lib.hid (HS.out.drewN nq);have ci:(wr.drewN nq).cell? ⟨g1,j+(m-2),none⟩=some (bP u0):=c0;generalize wr.drewN nq=W5' at *
   go_wp2_with fail
   go_quiet (fail)
   have HS6:=Lib.hid (HS5.out.drewN nq);have dc:(W5'.drewN nq).cell? ⟨g1,j+(m-2),none⟩=some (bP u0):=ci;generalize W5'.drewN nq=W6 at *;clear c0 c1 c2 ci HS HS5 a3 cj ck df ds dn dP k7 k8 k2 k4
   go_upto_block 3 with(fail)
   go_cut [17,18] (fun v17 _ wx=>U4 q v17 wx W6)
   case first=>
    have k2:IntKind.i64.wrap ((j:Int)+m-2)=j+m-2:=IntWalk.i64_in _ O_;have k4:((j:Int)+m-2).toNat=j+(m-2):=O_;have k7:(0:Int)<=(j:Int)+m-2:=O_;have k8:(j:Int)+m-2<n+1:=O_;have bj:R0<4294967296:=O_;clear HS6 Hq HD Z He1
    go_wp2_with fail
    go_loop [17,18] (fun a rr=>∃d r:Nat,a= .int .u64 d/\rr= .int .u64 r/\(d*hi+r=u2*4294967296+u1/\q<=d)/\r<4294967296/\d<18446744073709551616) (fun a _=>(intOf a).toNat)
    case atStart=>exact⟨D0,R0,rfl,rfl,⟨by rw[Nat.mul_comm,Hdm.out,Hy.out],Hbeg.out⟩,bj,O⟩
    case round=>
     obtain⟨d,r,rfl,rfl,hd,hr,em⟩:=hrel;have Hd:=Lib.hid hd;clear hd O bb bj Hbeg Hdm;by_cases d2:4294967296<=d
     ·have hlt:=Hest.out.less Hd.out.1 (.inl d2);have t2:(4294967296:Int)<=d:=O_;have t3:(1:Int)<=d:=O_;have hnew:Hid ((d-1)*hi+(r+hi)=u2*4294967296+u1):=by exact Th
      exact Vy
     ·have t2:¬(4294967296:Int)<=d:=O_;have a3:=iE r u0 hr cK;obtain⟨T,hT⟩:∃T,r*4294967296+u0=T:=⟨_,rfl⟩;rw[hT]at a3;obtain⟨P,hP⟩:∃P,d*nx=P:=⟨_,rfl⟩;have eq:(d:Int)*(nx:Int)=(P:Int):=by rw[<- hP,Int.natCast_mul]
      have er:P<18446744073709551616:=by rw[<- hP];exact Nat.lt_of_le_of_lt (Nat.mul_le_mul (show d<=4294967295 by omega) (show nx<=4294967295 by omega)) D_
      by_cases hc:T<P
      ·have hlt:=Hest.out.less Hd.out.1 (.inr (by rw[hT,hP];exact hc));have t3:(1:Int)<=d:=O_;have t5:(T:Int)<P:=O_;have hnew:Hid ((d-1)*hi+(r+hi)=u2*4294967296+u1):=by exact Th
       clear hT hP;exact Vy
      ·have t5:¬(T:Int)<P:=O_;have hclose:=Hest.out.close Hd.out.1 O_ Hd.out.2 (by rw[hT,hP];omega);have HF:=Lib.hid hclose;clear hclose hT hP
       go_wp2_with fail
       go_meet
       exact⟨d,rfl,by omega,HF.out,rfl⟩
   case rest=>
    obtain⟨d,rfl,bm,g,rfl⟩:=hcut;have k2:IntKind.i64.wrap ((j:Int)+m+1)=j+m+1:=IntWalk.i64_in _ O_;have k4:((j:Int)+m+1).toNat=j+m+1:=O_;have k7:(0:Int)<=(j:Int)+m+1:=O_;have k8:(j:Int)+m+1<=n+1:=O_;have F:=HS6.out;have bp:Calls prog 317 #[.slice (some ⟨g1,j,none⟩) (j+m+1-j) (n+1-j), .slice (some ⟨g2,0,none⟩) m (m+1), .int .u64 d] wc (Jd g1 (pre zs j) (part zs j m) (post zs j m) vs d wc):=by have h:=Cz g1 m (n+1-j) (j+m+1-j) d (some ⟨g2,0,none⟩) (m+1) (pre zs j) (part zs j m) (post zs j m) vs wc (by rw[<- He1.out];exact F.r1) Z.out.2.2.2.1 Z.out.2.1 F.wv (fun b o e=>by simp only[X_,Addr.mk.injEq]at e;rw[<- e.1];exact F.d12) bm O_ O_ O_;rw[Z.out.1]at h;exact h
    have z:=HD.out;have cA:=tj Hq.out;have cv:=J5 hV0 Hq.out;have Hsub:=Lib.hid bp;have Hnb:=Lib.hid cA;have Hbo:=Lib.hid cv;have eo:(j:Int)<Q:=O_;clear dc O bb Hbeg Hdm F bp z cA cv;rcases g with g|g
    ·subst g
     go_wp2_with fail
     ((with_reducible refine Hsub.out.mono ?_);rintro e w7 ⟨c5,rfl,H,Y,L,I,W⟩;rw[<- HVd.out,if_neg Hnb.out]at L;rw[<- HVd.out,F_ Hnb.out];have l:=HS6.out.only1 W I;have q0:=l.rq.cell j (by rw[HD.out.ql];omega);have q1:=l.rq.frozen j;have HS7:=Lib.hid (l.setq j d);have HN:=Lib.hid (HD.out.next hQ2 O_ hV0 HV1.out Hq.out bm (H.trans Z.out.2.1) Y O_);clear H Y L I W l)
     go_wp2_with fail
     go_roundw
     case rel=>exact⟨j,_,_,by omega,rfl,HN.out,HS7.out⟩
     case measure=>simp[intOf]
    ·have cE:=Hest.out.qlt;have hdec:decide (val (part zs j m)<val vs*d)=true:=by rw[<- HVd.out,g];exact T_ Hbo.out
     have U:(d:Int)-1=q:=O_;have td:(1:Int)<=d:=O_;have Hdec:=Lib.hid hdec;have Hdq:=Lib.hid g;have Hlast:=Lib.hid U;clear hdec g U
     go_wp2_with fail
     ((with_reducible refine Hsub.out.mono ?_);rintro e w7 ⟨c5,rfl,H,Y,L,I,W⟩;rw[<- HVd.out,Hdq.out,if_pos Hbo.out]at L;rw[Hdec.out];have l:=HS6.out.only1 W I;have X:=F4 g1 m (n+1-j) (j+m+1-j) (some ⟨g2,0,none⟩) (m+1) (pre zs j) c5 (post zs j m) vs w7 I Y (H.trans Z.out.2.1) l.wv (fun b o e=>by simp only[X_,Addr.mk.injEq]at e;rw[<- e.1];exact l.d12) O_ O_ O_;rw[Z.out.1]at X;have Hres:=Lib.hid X;have HS7:=Lib.hid l;have Hv':=Lib.hid L;have Hl':=Lib.hid (H.trans Z.out.2.1);clear H Y L I W l X)
     go_wp2_with fail
     ((with_reducible refine Hres.out.mono ?_);rintro e w8 ⟨eO,t,rfl,b2,D,cb,K,cB⟩;rw[<- HVd.out,Hl'.out]at cb;have al:=HS7.out.only1 cB K;have q0:=al.rq.cell j (by rw[HD.out.ql];omega);have q1:=al.rq.frozen j;have HS8:=Lib.hid (al.setq j q);have hM:=HV1.out;have C:=fQ D;rw[b2,Hl'.out]at C;have ca:=Hv'.out;rw[Z.out.2.1]at ca;have HN:=Lib.hid (HD.out.next hQ2 O_ hV0 HV1.out Hq.out cE (b2.trans Hl'.out) D (EN hV0 Hq.out ca cb C (by rw[aY];omega)));clear b2 D cb K cB al hM C ca)
     go_wp2_with fail
     rw[Hlast.out]
     go_roundw
     case rel=>exact⟨j,_,_,by omega,rfl,HN.out,HS8.out⟩
     case measure=>simp[intOf]
  ·obtain rfl:k=0:=O_;have hlt:=z.lt;have hsum:=z.sum;rw[Nat.pow_zero,o_]at hlt hsum;rw[List.drop_zero]at hsum;have b3:val qs=a/b/\val zs=(a%b)*2^s:=by exact T4
   have c3:val (zs.take m)=val zs:=kq (Nat.lt_trans hlt HV1.out);have cS:=F.rq.wrd' z.qw z.ql O_;have a4:=(F.r1.wrd' z.zw z.zl O_).take (k:=m) O_;have cG:∀W'(A':Option Addr)(n' c':Nat),a7 W' A' n' c' (trim (zs.take m))->n'<=4294967296->Calls prog 319 #[.slice A' n' c', .int .i64 s] W' (jo (fun xs=>val xs=a%b) W'):=by intro W' A' n' c' h ec;refine(xd A' n' c' s _ W' h ec ad).mono ?_;rintro e w' ⟨A1,n1,c1,xs,rfl,h1,⟨h2,_⟩,h3⟩;refine⟨A1,n1,c1,xs,rfl,h1,?_,h3⟩;show val xs=a%b;rw[h2,c6,c3,b3.2,Nat.mul_div_cancel _ (Nat.two_pow_pos s)]
   have cI:(trim (zs.take m)).length<=4294967296:=by have:=bJ a4.wd;rw[a4.len]at this;omega
   have g:trim qs=digs (a/b):=by unfold trim;rw[b3.1]
   have Hwq:=Lib.hid cS;have Hwu:=Lib.hid a4;have Hsr:=Lib.hid cG;have Hdq:=Lib.hid g;have Hbe:=Lib.hid F.be;have k1:(0:Int)<=(m:Int):=O_;have k2:(m:Int)<=n+1:=O_;have hE:gi wr wr.drew:=(gi.refl wr).drew;clear hlt hsum b3 c3 cS a4 cG g F z
   go_wp2_with fail
   go_region_held3 (fun w'=>gi wr w')
    (with_reducible first|exact hE|assumption|exact gi.more (by assumption) (by assumption))
    (first
     |((go_at_call 194;(with_reducible refine(gk _ _ _ qs _ (Hwq.out.ext (by assumption))).mono ?_);rintro e w' ⟨rfl,rfl⟩))
     |((go_at_call 194;(with_reducible refine(gk _ _ _ (zs.take m) _ (Hwu.out.ext (by assumption))).mono ?_);rintro e w' ⟨rfl,rfl⟩))
     |((go_at_call 319;(with_reducible refine(Hsr.out _ _ _ _ (Hwu.out.trim.ext (by assumption)) cI).mono ?_);rintro e w9 ⟨A9,n9,c9,cf,rfl,cR,ef,d1⟩;have cm:gi wr w9:=gi.more (by with_reducible assumption) d1))
     |((go_at_call 194;(with_reducible refine(gk _ _ _ cf _ cR).mono ?_);rintro e w' ⟨rfl,rfl⟩)))
   go_wp2_with fail
   refine bodyPost_ret (v:= .tuple #[.slice (some ⟨gq,0,none⟩) (trim qs).length Q, .slice A9 (trim cf).length c9]) (by simp[results,results282,go_sem]) rfl ?_;have h1:=Hwq.out.trim.ext cm;rw[Hdq.out]at h1;have h2:=cR.trim;have e9:trim cf=digs (a%b):=by unfold trim;rw[ef]
   rw[e9]at h2;rw[Hdq.out,e9];exact⟨_,_,_,_,_,_,rfl,h1,h2,Hbe.out.trans (cm.mono Hbe.out.size)⟩
end
end Go.Proofs.YtnchbpoopnjghaaGreatDoor
