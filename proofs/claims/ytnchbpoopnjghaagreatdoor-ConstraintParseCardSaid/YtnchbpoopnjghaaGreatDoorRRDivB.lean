/- divide of the reference, every case. -/
import Derived.Test.YtnchbpoopnjghaaGreatDoorRRDivS
import Derived.Test.YtnchbpoopnjghaaGreatDoorRDivB
import Derived.Test.YtnchbpoopnjghaaGreatDoorRAk
set_option maxHeartbeats 100000000
set_option linter.all false
open Go.Proofs.Tryz
namespace Go.Proofs.YtnchbpoopnjghaaGreatDoor
open Go.RowKit
section
attribute [local go_sem ↓] Go.wp_at_zero Go.wp_at_succ
def vr{A:Option Addr}{n c s:Nat}{xs:List Nat}{V:Nat}(k:val xs*2^s=V)(l:n<=4294967296)(a:s<=31)(w:World)(m:a7 w A n c xs):
 Calls prog 308 #[.slice A n c, .int .i64 s] w (Ew (n+1) V w):=by
 refine(Bc A n c s xs w m l a).mono ?_;rintro e p ⟨g,o,rfl,d,f,h,⟨i,b⟩,j⟩;exact⟨g,o,by rw[b],d,f,h,b,by rw[i,k],j⟩
def KS.more{w:World}{c d e m:Nat}{zs vs qs:List Nat}{b f:World}(h:KS w c d e m zs vs qs b)(a:Below b.heap.size b f):KS w c d e m zs vs qs f:=
 ⟨h.r1.below a h.r1.lt,h.wv.below a,h.rq.below a h.rq.lt,Below.trans h.be (a.mono h.be.size),h.n1,h.nq,h.d12,h.dq1,h.d2q⟩
def yf{n Q:Nat}(h:Q<=n):ax n=ax Q++ax (n-Q):=by unfold ax;rw[List.replicate_append_replicate];congr 1;omega
def Ln{qs:List Nat}{j x:Nat}(zs:List Nat)(h:j<qs.length):(qs++zs).set j x=qs.set j x++zs:=List.set_append_left _ _ h
def G4(qs:List Nat)(k:Nat):trim (qs++ax k)=digs (val qs):=by unfold trim ax;rw[bV,bf,Nat.mul_zero,Nat.add_zero]
def Cu{b m x s:Nat}(e:0<m)(c:(digs b).length=m)(a:(digs b).getD (m-1) 0=x)(d:bitLen x<=32)(f:s=32-bitLen x):32*m=bitLen b+s:=by obtain⟨k,rfl⟩:∃k,m=k+1:=⟨m-1,by omega⟩;rw[Nat.add_sub_cancel]at a;have:=(r9 (ab b) (wY b) k c).2;rw[ae,a]at this;omega
def DR:∀(a b:List Nat),(∀j,a.getD j 0=b.getD j 0)->val a=val b
 | [],b,h=>by have:val b=0:=ly (fun j=>by rw[<- h j];simp);rw[this];rfl
 |x::c,[],h=>ly (fun j=>by rw[h j];simp)
 |x::c,y::e,h=>by
  have h0:x=y:=by simpa using h 0
  have d:=DR c e (fun j=>by simpa using h (j+1));simp only[val,h0,d]
def KS.part{w:World}{a c d m:Nat}{p us t vs qs:List Nat}{b:World}{j k:Nat}(h:KS w a c d m (p++us++t) vs qs b)(e:p.length=j)(g:k<us.length)(x:Nat):
 KS w a c d m (p++us.set k x++t) vs qs (b.setCell ⟨a,j+k,none⟩ (bP x)):=by
 have f:=h.r1.set (j+k) x;rw[<- e,kA p us t k x g,e]at f;exact h.only1 ((gh.refl a b).setCell _ _) f
def tk(us:List Nat)(k x y:Nat):(us.set k x).set k y=us.set k y:=List.set_set ..
def EM{a b:List Nat}(c:Wd a)(d:Wd b):Wd (a++b):=by
 intro x e;rcases List.mem_append.1 e with h|h
 ·exact c x h
 ·exact d x h
structure CP (k:Nat) (us ds:List Nat) (m:Nat):Prop where
 l:us.length=m
 wd:Wd us
 eq:∀j,j<k->us.getD j 0=ds.getD j 0
def CP.step{k m x:Nat}{us ds:List Nat}(h:CP k us ds m)(d:k<m)(c:x<4294967296)(b:ds.getD k 0=x):CP (k+1) (us.set k x) ds m:=by
 refine⟨by rw[List.length_set];exact h.l,di h.wd k x c,fun j hj=>?_⟩;rcases Nat.lt_or_ge j k with a|a
 ·rw[H_,List.getElem?_set_ne O_,<- H_];exact h.eq j a
 ·obtain rfl:j=k:=O_;have:=h.l;rw[H_,List.getElem?_set_self O_,b];rfl
def CP.fin{m:Nat}{us ds:List Nat}(h:CP m us ds m)(b:ds.length<=m):val us=val ds:=by
 refine DR _ _ (fun j=>?_);rcases Nat.lt_or_ge j m with a|a
 ·exact h.eq j a
 ·have:=h.l;rw[H_,H_,List.getElem?_eq_none O_,List.getElem?_eq_none O_]
set_option maxRecDepth 100000 in
def uy(A B:Option Addr)(n c m d a b:Nat)(w:World)(hx:a7 w A n c (digs a))(hy:a7 w B m d (digs b))(hab:b<=a)(hm:2<=m)(eo:3<=n)(hs:n<=2147483648):
 Calls prog 277 #[.slice A n c, .slice B m d] w (j2 (a/b) (a%b) w):=by
 have eb:m<=n:=by exact T1
 obtain⟨x,P⟩:∃x,(digs b).getD (m-1) 0=x:=⟨_,rfl⟩;obtain⟨s,ca⟩:∃s,s=32-bitLen x:=⟨_,rfl⟩;obtain⟨T,cA,cf,cd⟩:=uc O_ hy.len P ca;have hU:=Dk hx.len O_ eb cf cd T;have en:x<4294967296:=by rw[<- P];exact hy.wd.getD _
 have bx:=fun C h=>EV B m d b C h O_;have hL:=Cu O_ hy.len P cA ca;obtain⟨L,cq⟩:∃L,bitLen b=L:=⟨_,rfl⟩;rw[cq]at bx hL;have cb:((s:Nat):Int)=32*(m:Int)-L:=O_;obtain⟨o,ho⟩:∃o,bG (a:Int) b=o:=⟨_,rfl⟩;have a2:=KU ho w hx hy;have eq:¬o<0:=by have:=jA (a:=(a:Int)) (b:=b) O_;omega
 obtain⟨b1,o1,dP,em,hc1⟩:=hy.at O_;have bq:=hc1 (m-1) O_;rw[P]at bq;have cS:=vX a b s;have Hx:=Lib.hid hx;have Hy:=Lib.hid hy;have Hcmp:=Lib.hid a2;have Hlz:=Lib.hid bx;have Hsd:=Lib.hid cS;have HU:=Lib.hid hU;have Hvl:=Lib.hid cf;have Hvh:=Lib.hid cd;have Hc2:=Lib.hid bq;have t0:¬(n:Int)<=2:=O_;have t1:((m:Int) == 1)=false:=by simp;omega
 have z:(0:Int)<=(m:Int)-1:=O_;have g2:(m:Int)-1<m:=O_;have hA:=vr (A:=A) (n:=n) (c:=c) (s:=s) (xs:=digs a) (V:=a*2^s) (by rw[ae]) O_ T;have hB:=vr (A:=B) (n:=m) (c:=d) (s:=s) (xs:=digs b) (V:=b*2^s) (by rw[ae]) O_ T;rw[cb]at hA hB;have bp:=fun(A':Option Addr)(n' c':Nat)(xs:List Nat)(C:World)(h:a7 C A' n' c' xs)(h':n'<=4294967296)=>LL A' n' c' s xs C h h' T;rw[cb]at bp;have Hbk:=Lib.hid bp;have HA:=Lib.hid hA;have HB:=Lib.hid hB;have d6:=hy.cap;have ea:=hy.lim;have g5:32*(m:Int)-L<=9223372036854775807:=O_;have g6:(L:Int)<=32*(m:Int):=O_;clear hx hy a2 bx cS hU cf cd hc1 bq hA hB ho P ca hL cq cb bp;subst dP
 go_enter func277,ntmps277
 go_wp2_with fail
 ((with_reducible refine Hcmp.out.mono ?_);rintro e w1 ⟨rfl,cy⟩;have G:gi w w1:=cy;have c1:=UU Hc2.out G)
 go_wp2_with fail
 ((with_reducible refine(Hlz.out _ (Hy.out.ext G)).mono ?_);rintro e w' ⟨rfl,rfl⟩)
 go_wp2_with fail
 ((with_reducible refine(HA.out _ (Hx.out.ext G)).mono ?_);rintro e w2 ⟨z,f,rfl,d2,I,c4,cl,df,cz⟩;have bk:gi w w2:=G.more cz)
 go_wp2_with fail
 ((with_reducible refine(HB.out _ (Hy.out.ext bk)).mono ?_);rintro e w3 ⟨g2,a0,rfl,d3,b4,bb,bj,E,X⟩;have cn:gi w w3:=bk.more X)
 go_wp2_with fail
 have ck:a7 w3 (some ⟨g2,0,none⟩) (m+1) (m+1) a0:=b4.wrd' bb bj O_;have cc:(trim a0).length=m:=by unfold trim;rw[E];exact Hvl.out
 have g:=ck.trim;rw[cc]at g;have cj:trim a0=digs (b*2^s):=by unfold trim;rw[E]
 rw[cj]at g;have Hw3:=Lib.hid g;have Hw2:=Lib.hid ck
 ((with_reducible refine(dm _ _ _ a0 _ Hw2.out).mono ?_);rw[cc];rintro e w' ⟨rfl,rfl⟩)
 obtain⟨Q,hQ⟩:∃Q,Q=n+1-m:=⟨_,rfl⟩;have d0:Q<=n:=O_;have hQ2:Q+m=n+1:=O_;have hmk:=eD n n rfl O_;have cF:g2≠z:=by have:=I.lt;omega
 have K:KS w z g2 w3.heap.size m f (digs (b*2^s)) (ax n) (w3.alloc (de (ax n))):=
  ⟨(I.below X I.lt).alloc _,g.alloc _,dp w3 _,cn.alloc _,V_ G.size O_,cn.size,cF,by have:=(I.below X I.lt).lt;omega,by have:=b4.lt;omega⟩
 have cV:digs (b*2^s)=digs (val (digs (b*2^s))):=by rw[ae]
 generalize digs (b*2^s)=vs at *;obtain⟨hi,ad⟩:∃hi,vs.getD (m-1) 0=hi:=⟨_,rfl⟩;obtain⟨nx,bN⟩:∃nx,vs.getD (m-2) 0=nx:=⟨_,rfl⟩;have d5:hi<4294967296:=by rw[<- ad];exact g.wd.getD _
 have ed:nx<4294967296:=by rw[<- bN];exact g.wd.getD _
 rw[ad]at Hvh;have bs:2147483648<=hi:=Hvh.out;have HK:=Lib.hid K;have Hhi:=Lib.hid ad;have Hnx:=Lib.hid bN;have Hzv:=Lib.hid df;have Hzl:=Lib.hid cl;have Hwz:=Lib.hid c4;have Hwv:=Lib.hid g.wd;have Hvl2:Hid (vs.length=m):=g.len;have HVs:Hid (vs=digs (val vs)):=cV;have HVal:Hid (val vs=b*2^s):=by rw[<- cj];unfold Hid;rw[c6];exact E
 clear K ad bN df cl c4 g ck Hw2 Hw3 cj cc I b4 bb bj E cy cz X c1 Hcmp HA HB Hlz Hc2 G bk hQ d2 d3;have g3:(0:Int)<=(m:Int)-2:=O_;have g4:(m:Int)-2<m:=O_;have g5:(0:Int)<=(n:Int)+1-m:=O_
 go_wp2_with fail
 obtain⟨W4,cw⟩:∃W4,W4=w3.alloc (de (ax n)):=⟨_,rfl⟩;rw[<- cw]at HK ⊢;clear cw;obtain⟨F,cK⟩:∃F,F=w3.heap.size:=⟨_,rfl⟩;rw[<- cK]at HK ⊢;clear cK;have HK5:=HK;clear HK;obtain⟨V,hVd⟩:∃V,V=val vs:=⟨_,rfl⟩;obtain⟨U0,hU0⟩:∃U0,U0=a*2^s:=⟨_,rfl⟩;have D:KD n m Q Q V U0 f (ax Q):=by exact Uv
 have cv:V<4294967296^m:=by rw[hVd];have:=fQ Hwv.out;rwa[Hvl2.out]at this
 have hV0:0<V:=by
  rcases Nat.eq_zero_or_pos V with h|h
  ·rw[h]at D;have:=D.lt;omega
  ·exact h
 have HVd:=Lib.hid hVd;have HU0:=Lib.hid hU0;have HV1:=Lib.hid cv;have HKD0:=Lib.hid D;rw[yf d0]at HK5;clear hVd hU0 cv D hmk Hzv HU Hzl Hwz Hvh
 go_loopw [14] (fun i wr=>∃(k:Nat)(f S:List Nat),k<=Q/\i= .int .i64 ((k:Int)-1)/\KD n m Q k V U0 f S/\KS w z g2 F m f vs (S++ax (n-Q)) wr) (fun i _=>(intOf i+1).toNat)
 case atStart=>exact⟨Q,f,ax Q,l_ _,congrArg (Value.int .i64) O_,HKD0.out,HK5.out⟩
 case round=>
  obtain⟨k,f,S,hk,rfl,J,hS⟩:=hrel;clear HKD0 HK5;by_cases h0:0<k
  ·obtain⟨j,rfl⟩:∃j,k=j+1:=⟨k-1,by omega⟩;rw[show((j+1:Nat):Int)-1=(j:Int) by omega];obtain⟨e1,l1,l2,w1,w2,cP,a4⟩:=J.parts hQ2 O_;obtain⟨mm,ag⟩:∃mm,m=mm+2:=⟨m-2,by omega⟩;have u:=vO (us:=part f j m) (vs:=vs) (k:=mm) (by rw[l2,ag]) (by rw[Hvl2.out,ag]) w2 Hwv.out (by rw[<- HVd.out];exact a4) (by rw[show mm+1=m-1 by omega,Hhi.out];exact bs);rw[<- HVd.out,show mm+1=m-1 by omega,show mm+2=m by omega,Hhi.out]at u;obtain⟨q,hq⟩:∃q,q=val (part f j m)/V:=⟨_,rfl⟩;rw[<- hq]at u;have cR:=u.qlt;have ci:vs=digs V:=by rw[HVd.out];exact HVs.out
   have k1:IntKind.i64.wrap ((j:Int)+m)=j+m:=IntWalk.i64_in _ O_;have k2:IntKind.i64.wrap ((j:Int)+m+1)=j+m+1:=IntWalk.i64_in _ O_;have k4:((j:Int)+m+1).toNat=j+m+1:=O_;have k7:(0:Int)<=(j:Int)+m+1:=O_;have k8:(j:Int)+m+1<=n+1:=O_;have k9:(j:Int)<n:=O_;have er:(j:Int)<=j+m+1:=O_;have cl:=J.zl;have b0:∀C,eK C z f->a7 C (some ⟨z,j,none⟩) (j+m+1-j) (n+1-j) (part f j m):=by intro C hr;have:=hr.part J.zw j (m+1) (n+1-j) O_ O_ O_;rw[show j+m+1-j=m+1 by omega];exact this
   have a3:=IS (some ⟨z,j,none⟩) (some ⟨g2,0,none⟩) m (j+m+1-j) (n+1-j) (m+1) (part f j m) vs V q hi _ _ _ _ _ _ _ wr (b0 _ hS.r1) O_ hS.wv ci u rfl rfl Hhi.out hm O_;have Hdig:=Lib.hid a3;have Hpw:=Lib.hid b0;have He1:=Lib.hid e1;have R:=Lib.hid (And.intro l1 (And.intro l2 (And.intro w1 (And.intro w2 cP))));have HD:=Lib.hid J;have HS:=Lib.hid hS;have Hq:=Lib.hid hq;have Hmm:=Lib.hid ag;have Hvs:=Lib.hid ci;clear u e1 l1 l2 w1 w2 cP J hS hq ag a4 a3 b0 ci
   go_wp2_with fail
   ((with_reducible refine Hdig.out.mono ?_);rintro e w7 ⟨gp,pn,pc,rfl,d4,c2,cB⟩;have W:=HS.out.more cB;have q0:=W.rq.cell j (by rw[L_,HD.out.ql];omega);have q1:=W.rq.frozen j;have cr:=W.setq j q;have cQ:gp≠F:=(by have:=HS.out.rq.lt;omega);have a9:=c2.only ((gh.refl F w7).setCell j (bP q)) (fun b o e=>by simp only[X_,Addr.mk.injEq]at e;rw[<- e.1];exact cQ);have HS8:=Lib.hid cr;have Hwp:=Lib.hid a9;clear W cr a9 c2 cB cQ d4)
   have a5:a7 (w7.setCell ⟨F,j,none⟩ (bP q)) (some ⟨z,j,none⟩) (j+m+1-j) (n+1-j) (part f j m):=Hpw.out _ HS8.out.r1;have Hptr:=Lib.hid a5;have hW:Below w.heap.size w (w7.setCell ⟨F,j,none⟩ (bP q)):=HS8.out.be;have HW:=Lib.hid hW;clear a5 hW
   go_wp2_with fail
   clear q0 q1;obtain⟨W8,bo⟩:∃W8,W8=w7.setCell ⟨F,j,none⟩ (bP q):=⟨_,rfl⟩;have a1:w7.setCell ⟨F,j,none⟩ (.int .u32 q)=W8:=bo.symm;rw[<- bo]at HS8 Hwp Hptr HW;rw[a1];clear bo a1;have b2:V*q<=val (part f j m):=by rw[Hq.out];exact Nat.mul_div_le _ _
   have O:=vp (some ⟨z,j,none⟩) (some ⟨gp,0,none⟩) (trim (part f j m)).length pn (n+1-j) pc (trim (part f j m)) (digs (V*q)) W8 Hptr.out.trim Hwp.out (by rw[c6,ae];exact b2) (by have:=bJ R.out.2.2.2.1;have:=R.out.2.1;omega);rw[c6,ae]at O;have Hmin:=Lib.hid O;have HqV:=Lib.hid b2;clear O b2
   ((with_reducible refine(dm _ _ _ (part f j m) _ Hptr.out).mono ?_);rintro e w' ⟨rfl,rfl⟩)
   go_wp2_with fail
   ((with_reducible refine Hmin.out.mono ?_);rintro e w9 ⟨gd,dn,dc,rfl,hgd,c0,Y⟩;have cs:=HS8.out.more Y;have br:gd≠z:=(by have:=HS8.out.r1.lt;omega);have HS9:=Lib.hid cs;have Hwd:=Lib.hid c0;clear cs c0 Y hgd)
   obtain⟨ds,Z⟩:∃ds,ds=digs (val (part f j m)-V*q):=⟨_,rfl⟩;rw[<- Z]at Hwd;have d1:dn<=m+1:=by rw[<- Hwd.out.len,Z];refine aL (Nat.lt_of_le_of_lt (Nat.sub_le _ _) ?_);have:=fQ R.out.2.2.2.1;rwa[R.out.2.1]at this
   have cI:val ds=val (part f j m)-V*q:=by rw[Z,ae]
   have cJ:Wd ds:=Hwd.out.wd;have Hdv:=Lib.hid cI;have Hdw:=Lib.hid cJ;have cO:((j+m+1-j:Nat):Int)=m+1:=O_;have Hmj:=Lib.hid cO;have cE:CP 0 (part f j m) ds (m+1):=⟨R.out.2.1,R.out.2.2.2.1,fun j hj=>by omega⟩;have cN:KS w z g2 F m (pre f j++part f j m++post f j m) vs ((S++ax (n-Q)).set j q) w9:=by rw[<- He1.out];exact HS9.out
   have Hcp:=Lib.hid cE;have Hks:=Lib.hid cN;clear Z cI cJ cO cE cN HS9 HS8 HW Hptr Hmin Hdig HS Hpw
   go_wp2_with fail
   go_loopw [19] (fun a wy=>∃(t:Nat)(us:List Nat),a= .int .i64 t/\t<=m+1/\CP t us ds (m+1)/\KS w z g2 F m (pre f j++us++post f j m) vs ((S++ax (n-Q)).set j q) wy/\a7 wy (some ⟨gd,0,none⟩) dn dc ds) (fun a _=>m+1-(intOf a).toNat)
   case atStart=>exact⟨0,_,rfl,Nat.zero_le _,Hcp.out,Hks.out,Hwd.out⟩
   case round=>
    obtain⟨t,us,rfl,ht,U,K,r⟩:=hrel;clear Hcp Hks Hwd;by_cases al:t<m+1
    ·have hu:=U.l;have r0:=K.r1.cell (j+t) (by simp only[L_,R.out.1];omega);have r1:=K.r1.frozen (j+t);have H:=K.part R.out.1 (by rw[hu];exact al) 0 (k:=t);have n1:(t:Int)<((j+m+1-j:Nat):Int):=O_;have n2:(t:Int)<m+1:=O_;by_cases ef:t<dn
     ·have n3:(t:Int)<dn:=O_;have cm:=r.only ((gh.refl z _).setCell (j+t) (bP 0)) (fun b o e=>by simp only[X_,Addr.mk.injEq]at e;rw[<- e.1];exact br);obtain⟨b9,o9,e9,_,cD⟩:=r.at O_;simp only[X_,Addr.mk.injEq]at e9;obtain⟨rfl,rfl,-⟩:=e9;have r2:=cD t ef;obtain⟨y,hy⟩:∃y,ds.getD t 0=y:=⟨_,rfl⟩;rw[J_,hy]at r2;have c5:y<4294967296:=by rw[<- hy];exact Hdw.out.getD _
      have r3:=H.r1.cell (j+t) (by simp only[L_,List.length_set,R.out.1];omega);have r4:=H.r1.frozen (j+t);have HC:=Lib.hid (U.step al (x:=y) c5 hy);have bm:=H.part (k:=t) R.out.1 (by rw[List.length_set,hu];exact al) y;rw[tk]at bm;have HK2:=Lib.hid bm;have HD9:=Lib.hid (cm.only ((gh.refl z _).setCell (j+t) (bP y)) (fun b o e=>by simp only[X_,Addr.mk.injEq]at e;rw[<- e.1];exact br));clear U K H bm r cm hu cD hy
      go_wp2_with fail
      go_roundw
      case rel=>exact⟨t+1,_,by go_num,by omega,HC.out,HK2.out,HD9.out⟩
      case measure=>simp[intOf];omega
     ·have n3:¬(t:Int)<dn:=O_;have HC:=Lib.hid (U.step al (x:=0) D_ (by rw[H_,List.getElem?_eq_none (by rw[r.len];omega)];rfl));have HK1:=Lib.hid H;have HD9:=Lib.hid (r.only ((gh.refl z _).setCell (j+t) (bP 0)) (fun b o e=>by simp only[X_,Addr.mk.injEq]at e;rw[<- e.1];exact br));clear U K H r hu
      go_wp2_with fail
      go_roundw
      case rel=>exact⟨t+1,_,by go_num,by omega,HC.out,HK1.out,HD9.out⟩
      case measure=>simp[intOf];omega
    ·obtain rfl:t=m+1:=O_;have N:=U.fin (by rw[r.len];exact d1);rw[Hdv.out]at N;have HN:=Lib.hid (HD.out.next hQ2 O_ hV0 HV1.out Hq.out cR U.l U.wd N);rw[Ln _ (by rw[HD.out.ql];omega)]at K;have HK:=Lib.hid K;clear U K r N
     go_wp2_with fail
     go_roundw
     case rel=>exact⟨j,_,_,by omega,rfl,HN.out,HK.out⟩
     case measure=>simp[intOf]
  ·obtain rfl:k=0:=O_;have hlt:=J.lt;have hsum:=J.sum;rw[Nat.pow_zero,o_]at hlt hsum;rw[List.drop_zero]at hsum;have b3:val S=a/b/\val f=(a%b)*2^s:=by exact T4
   have c3:a7 wr (some ⟨F,0,none⟩) n n (S++ax (n-Q)):=hS.rq.wrd' (EM J.qw (b6 _)) (by rw[L_,aN,J.ql];omega) O_;have ao:a7 wr (some ⟨z,0,none⟩) (n+1) (n+1) f:=hS.r1.wrd' J.zw J.zl O_;have cG:trim (S++ax (n-Q))=digs (a/b):=by rw[G4,b3.1]
   have cT:∀C(A':Option Addr)(n' c':Nat),a7 C A' n' c' (trim f)->n'<=4294967296->Calls prog 310 #[.slice A' n' c', .int .i64 (32*(m:Int)-L)] C (jo (fun xs=>xs=digs (a%b)) C):=by intro C A' n' c' h ec;have:=Hbk.out A' n' c' _ C h ec;rwa[c6,b3.2,Nat.mul_div_cancel _ (Nat.two_pow_pos s)]at this
   have cU:(trim f).length<=4294967296:=by have:=bJ ao.wd;rw[ao.len]at this;omega
   have Hwq:=Lib.hid c3;have Hwu:=Lib.hid ao;have Hsr:=Lib.hid cT;have Hdq:=Lib.hid cG;have Hbe:=Lib.hid hS.be;clear hlt hsum b3 c3 ao cT cG hS J Hbk
   go_wp2_with fail
   ((with_reducible refine(dm _ _ _ (S++ax (n-Q)) _ Hwq.out).mono ?_);rintro e w' ⟨rfl,rfl⟩)
   go_wp2_with fail
   ((with_reducible refine(dm _ _ _ f _ Hwu.out).mono ?_);rintro e w' ⟨rfl,rfl⟩)
   go_wp2_with fail
   ((with_reducible refine(Hsr.out _ _ _ _ Hwu.out.trim cU).mono ?_);rintro e w9 ⟨A9,n9,c9,es,rfl,cW,ei,Y⟩;have cp:gi wr w9:=Y)
   go_wp2_with fail
   refine bodyPost_ret (v:= .tuple #[.slice (some ⟨F,0,none⟩) (trim (S++ax (n-Q))).length n, .slice A9 n9 c9]) (by simp[results,results277,go_sem]) rfl ?_;have h1:=Hwq.out.trim.ext cp;rw[Hdq.out]at h1 ⊢;rw[ei]at cW;exact⟨_,_,_,_,_,_,rfl,h1,cW,Hbe.out.trans (cp.mono Hbe.out.size)⟩
def QA(a b:Nat):Prop:=∀(A:Option Addr)(n c:Nat)(B:Option Addr)(m d:Nat)(w:World),a7 w A n c (digs a)->a7 w B m d (digs b)->Calls prog 277 #[.slice A n c, .slice B m d] w (j2 (a/b) (a%b) w)
def Q3{a b:Nat}(o:(digs a).length<=2147483648)(k:0<b):QA a b:=by
 intro A n c B m d w f g;have q:=f.len;have hm:=g.len;have l:m≠0:=by exact Ti
 by_cases h:a<b
 ·exact wZ A B n c m d a b w f g h
 ·by_cases j:n<=2
  ·exact uS A B n c m d a b w f g O_ k j
  ·by_cases i:m=1
   ·exact uz A B n c m d a b w f g O_ i O_ O_
   ·exact uy A B n c m d a b w f g O_ O_ O_ O_
end
end Go.Proofs.YtnchbpoopnjghaaGreatDoor
