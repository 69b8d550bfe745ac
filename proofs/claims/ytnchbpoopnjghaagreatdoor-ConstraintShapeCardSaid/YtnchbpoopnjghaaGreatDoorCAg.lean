/- DivMod of the program, leaning on what divide gives at these numbers. DivMod of the program, where the quotient is rounded down. DivMod of the program: the quotient rounded down, and the remainder. -/
import Derived.Test.YtnchbpoopnjghaaGreatDoorCAf
set_option maxHeartbeats 100000000
set_option maxRecDepth 100000
set_option linter.all false
open Go.Proofs.Tryz
namespace Go.Proofs.YtnchbpoopnjghaaGreatDoor
open Go.RowKit
section
attribute [local go_sem ↓] Go.wp_at_zero Go.wp_at_succ
def xT (a b:Nat):Prop:=∀(A:Option Addr) (n c:Nat) (B:Option Addr) (m d:Nat) (w:World),bc w A n c (digs a)->bc w B m d (digs b) ->
 Calls Tryz.prog 282 #[.slice A n c, .slice B m d] w (lh (a/b) (a%b) w)
def Bg (q r:Int) (w:World) (e:Ending) (w':World):Prop:=∃v1 v2,e= .returned (.tuple #[v1,v2, .int .i64 0])/\dr w' v1 q/\dr w' v2 r/\Below w.heap.size w w'
theorem lS (w:World) (a0 a1 b0 b1 r0 r1 s0 s1:Value) (t:TypeId) (W:World) (hW:W=(((w.alloc (.cells #[a0,a1] t)).alloc (.cells #[b0,b1] t)).alloc (.cells #[r0,r1] t)).alloc (.cells #[s0,s1] t)):
 (W.cell? ⟨w.heap.size,0,none⟩=some a0/\W.cell? ⟨w.heap.size,1,none⟩=some a1/\W.cell? ⟨w.heap.size+1,0,none⟩=some b0/\W.cell? ⟨w.heap.size+1,1,none⟩=some b1) /\
 (W.cell? ⟨w.heap.size+1+1,0,none⟩=some r0/\W.cell? ⟨w.heap.size+1+1,1,none⟩=some r1/\W.frozen? ⟨w.heap.size+1+1,0,none⟩=false/\W.frozen? ⟨w.heap.size+1+1,1,none⟩=false) /\
 (W.cell? ⟨w.heap.size+1+1+1,0,none⟩=some s0/\W.cell? ⟨w.heap.size+1+1+1,1,none⟩=some s1/\W.frozen? ⟨w.heap.size+1+1+1,0,none⟩=false/\W.frozen? ⟨w.heap.size+1+1+1,1,none⟩=false)/\bw w W:=by
 have h0:bw w W:=by rw[hW];exact((((bw.refl w).alloc _).alloc _).alloc _).alloc _
 refine⟨?_,?_,?_,h0⟩
 ·subst hW;simp[go_sem]
 ·subst hW;simp[go_sem]
 ·subst hW;simp[go_sem]
def bB (w:World) (r:Nat):Prop:=∃u0 u1,w.cell? ⟨r,0,none⟩=some u0/\w.cell? ⟨r,1,none⟩=some u1/\w.frozen? ⟨r,0,none⟩=false/\w.frozen? ⟨r,1,none⟩=false/\(∀x,u0≠bU x)/\(∀x,u1≠bU x)
theorem bB.mk {w:World} {r n c:Nat} {b:Bool} {A:Option Addr} (h0:w.cell? ⟨r,0,none⟩=some (.bool b)) (h1:w.cell? ⟨r,1,none⟩=some (.slice A n c)) (f0:w.frozen? ⟨r,0,none⟩=false) (f1:w.frozen? ⟨r,1,none⟩=false):bB w r:=
 ⟨_,_,h0,h1,f0,f1,by intro x;simp,by intro x;simp⟩
theorem bB.below {w w':World} {r:Nat} (h:bB w r) (hb:Below w.heap.size w w'):bB w' r:=by
 obtain⟨u0,u1,h0,h1,f0,f1,n0,n1⟩:=h;exact⟨u0,u1,kc h0 hb,kc h1 hb,kf h0 f0 hb,kf h1 f1 hb,n0,n1⟩
theorem bB.cells {w:World} {r:Nat} (h:bB w r) (b:Bool) (A:Option Addr) (n c:Nat):
 ((w.setCell ⟨r,0,none⟩ (.bool b)).setCell ⟨r,1,none⟩ (.slice A n c)).cell? ⟨r,0,none⟩=some (.bool b)/\((w.setCell ⟨r,0,none⟩ (.bool b)).setCell ⟨r,1,none⟩ (.slice A n c)).cell? ⟨r,1,none⟩=some (.slice A n c):=by
 obtain⟨u0,u1,h0,h1,f0,f1,n0,n1⟩:=h;refine⟨gu (World.cell?_setCell_same' _ _ _ (by rw[h0];rfl)) (by simp),World.cell?_setCell_same' _ _ _ ?_⟩;rw[gu h1 (by simp)];rfl
theorem bB.same {w:World} {r:Nat} (h:bB w r) (b:Bool) (A:Option Addr) (n c:Nat):bB ((w.setCell ⟨r,0,none⟩ (.bool b)).setCell ⟨r,1,none⟩ (.slice A n c)) r:=by
 obtain⟨c0,c1⟩:=h.cells b A n c;obtain⟨u0,u1,h0,h1,f0,f1,n0,n1⟩:=h;exact bB.mk c0 c1 (by rw[World.frozen?_setCell,World.frozen?_setCell];exact f0) (by rw[World.frozen?_setCell,World.frozen?_setCell];exact f1)
theorem bB.far {w:World} {r r':Nat} (h:bB w r) (hr:r≠r') (u v:Value):bB ((w.setCell ⟨r',0,none⟩ u).setCell ⟨r',1,none⟩ v) r:=by
 obtain⟨u0,u1,h0,h1,f0,f1,n0,n1⟩:=h;exact⟨u0,u1,bD h0 hr,bD h1 hr,by rw[World.frozen?_setCell,World.frozen?_setCell];exact f0,by rw[World.frozen?_setCell,World.frozen?_setCell];exact f1,n0,n1⟩
theorem bc.set2 {w:World} {A:Option Addr} {n c r:Nat} {xs:List Nat} (h:bc w A n c xs) (hs:bB w r) (u v:Value):bc ((w.setCell ⟨r,0,none⟩ u).setCell ⟨r,1,none⟩ v) A n c xs:=by
 obtain⟨u0,u1,h0,h1,f0,f1,n0,n1⟩:=hs;exact(h.store h0 n0 _).store (gu h1 (by simp)) n1 _
theorem bw.set2 {w w':World} {r:Nat} (h:bw w w') (hr:w.heap.size<=r) (u v:Value):bw w ((w'.setCell ⟨r,0,none⟩ u).setCell ⟨r,1,none⟩ v):=(h.set (p:=⟨r,0,none⟩) hr _).set (p:=⟨r,1,none⟩) hr _
def fb (w:World) (r:Nat) (z:Int):Prop:=∃A n c,w.cell? ⟨r,0,none⟩=some (.bool (decide (z<0)))/\w.cell? ⟨r,1,none⟩=some (.slice A n c)/\bc w A n c (digs z.natAbs)
theorem fb.intro {w:World} {r n c:Nat} {z:Int} {A:Option Addr} (h:bc w A n c (digs z.natAbs)) (hs:bB w r):fb ((w.setCell ⟨r,0,none⟩ (.bool (decide (z<0)))).setCell ⟨r,1,none⟩ (.slice A n c)) r z:=
 ⟨A,n,c,(hs.cells _ _ _ _).1,(hs.cells _ _ _ _).2,h.set2 hs _ _⟩
theorem fb.far {w:World} {r r':Nat} {z:Int} (h:fb w r z) (hs:bB w r') (hr:r≠r') (u v:Value):fb ((w.setCell ⟨r',0,none⟩ u).setCell ⟨r',1,none⟩ v) r z:=by
 obtain⟨A,n,c,h0,h1,h2⟩:=h;exact⟨A,n,c,bD h0 hr,bD h1 hr,h2.set2 hs _ _⟩
theorem fb.below {w w':World} {r:Nat} {z:Int} (h:fb w r z) (hb:Below w.heap.size w w'):fb w' r z:=by
 obtain⟨A,n,c,h0,h1,h2⟩:=h;exact⟨A,n,c,kc h0 hb,kc h1 hb,h2.below hb⟩
section
variable {X Y:World} {A B:Option Addr} {n c m d rq rr:Nat} {q r:Int}
theorem Cg (hq:bc X A n c (digs q.natAbs)) (hr:bc X B m d (digs r.natAbs)) (hs:bB X rq/\bB X rr) (hne:rq≠rr):
 fb ((((X.setCell ⟨rq,0,none⟩ (.bool (decide (q<0)))).setCell ⟨rq,1,none⟩ (.slice A n c)).setCell ⟨rr,0,none⟩ (.bool (decide (r<0)))).setCell ⟨rr,1,none⟩ (.slice B m d)) rq q /\
 fb ((((X.setCell ⟨rq,0,none⟩ (.bool (decide (q<0)))).setCell ⟨rq,1,none⟩ (.slice A n c)).setCell ⟨rr,0,none⟩ (.bool (decide (r<0)))).setCell ⟨rr,1,none⟩ (.slice B m d)) rr r:=
 ⟨(fb.intro hq hs.1).far (hs.2.far (fun e=>hne e.symm) _ _) hne _ _,fb.intro (hr.set2 hs.1 _ _) (hs.2.far (fun e=>hne e.symm) _ _)⟩
theorem Gw (hq:bc X A n c (digs q.natAbs)) (hs:bB X rq/\bB X rr)
 (hb:Below ((X.setCell ⟨rq,0,none⟩ (.bool (decide (q<0)))).setCell ⟨rq,1,none⟩ (.slice A n c)).heap.size ((X.setCell ⟨rq,0,none⟩ (.bool (decide (q<0)))).setCell ⟨rq,1,none⟩ (.slice A n c)) Y)
 (hr:bc Y B m d (digs r.natAbs)) (hs':bB Y rq/\bB Y rr) (hne:rq≠rr):
 fb ((Y.setCell ⟨rr,0,none⟩ (.bool (decide (r<0)))).setCell ⟨rr,1,none⟩ (.slice B m d)) rq q /\
 fb ((Y.setCell ⟨rr,0,none⟩ (.bool (decide (r<0)))).setCell ⟨rr,1,none⟩ (.slice B m d)) rr r:=
 ⟨((fb.intro hq hs.1).below hb).far hs'.2 hne _ _,fb.intro hr hs'.2⟩
theorem jd (h:bB X rq/\bB X rr):bB X rr/\bB X rq:=⟨h.2,h.1⟩
theorem nT (h:fb X rr r/\fb X rq q):fb X rq q/\fb X rr r:=⟨h.2,h.1⟩
end
theorem rS {P:Program} {f:Func} {Post:Ending->World->Prop} {a:Act} {F:World} {rq rr:Nat} {q r:Int} (h:fb F rq q/\fb F rr r)
 (k:∀(A:Option Addr) (n c:Nat) (B:Option Addr) (m d:Nat),F.cell? ⟨rq,0,none⟩=some (.bool (decide (q<0)))->F.cell? ⟨rq,1,none⟩=some (.slice A n c)->bc F A n c (digs q.natAbs) ->
  F.cell? ⟨rr,0,none⟩=some (.bool (decide (r<0)))->F.cell? ⟨rr,1,none⟩=some (.slice B m d)->bc F B m d (digs r.natAbs)->bodyPost P f Post .ret a F):bodyPost P f Post .ret a F:=by
 obtain⟨⟨A,n,c,h0,h1,h2⟩,⟨B,m,d,k0,k1,k2⟩⟩:=h;exact k A n c B m d h0 h1 h2 k0 k1 k2
def eX (w:World) (A1:Option Addr) (n1 c1:Nat) (qs:List Nat) (B1:Option Addr) (m1 d1:Nat) (rs:List Nat) (w':World):Prop:=
 bc w' A1 n1 c1 qs/\bc w' B1 m1 d1 rs/\bB w' (w.heap.size+1+1)/\bB w' (w.heap.size+1+1+1)/\bw w w'
def nK (w:World) (na nb:Bool) (A1:Option Addr) (n1 c1:Nat) (qs:List Nat) (B1:Option Addr) (m1 d1:Nat) (rs:List Nat) (w':World):Prop:=
 w'.cell? ⟨w.heap.size,0,none⟩=some (.bool na)/\w'.cell? ⟨w.heap.size+1,0,none⟩=some (.bool nb)/\eX w A1 n1 c1 qs B1 m1 d1 rs w'
section
variable {w w' w2:World} {na nb:Bool} {A1 B1:Option Addr} {n1 c1 m1 d1:Nat} {qs rs:List Nat}
theorem di (h:w'.cell? ⟨w.heap.size,0,none⟩=some (.bool na)/\w'.cell? ⟨w.heap.size+1,0,none⟩=some (.bool nb)/\eX w A1 n1 c1 qs B1 m1 d1 rs w') (hb:Below w'.heap.size w' w2):
 w2.cell? ⟨w.heap.size,0,none⟩=some (.bool na)/\w2.cell? ⟨w.heap.size+1,0,none⟩=some (.bool nb)/\eX w A1 n1 c1 qs B1 m1 d1 rs w2:=
 ⟨kc h.1 hb,kc h.2.1 hb,h.2.2.1.below hb,h.2.2.2.1.below hb,h.2.2.2.2.1.below hb,h.2.2.2.2.2.1.below hb,h.2.2.2.2.2.2.more hb⟩
theorem vO (h:w'.cell? ⟨w.heap.size,0,none⟩=some (.bool na)/\w'.cell? ⟨w.heap.size+1,0,none⟩=some (.bool nb)/\eX w A1 n1 c1 qs B1 m1 d1 rs w') (b:Bool) (A:Option Addr) (n c:Nat):
 ((w'.setCell ⟨w.heap.size+1+1,0,none⟩ (.bool b)).setCell ⟨w.heap.size+1+1,1,none⟩ (.slice A n c)).cell? ⟨w.heap.size,0,none⟩=some (.bool na)/\((w'.setCell ⟨w.heap.size+1+1,0,none⟩ (.bool b)).setCell ⟨w.heap.size+1+1,1,none⟩ (.slice A n c)).cell? ⟨w.heap.size+1,0,none⟩=some (.bool nb)/\eX w A1 n1 c1 qs B1 m1 d1 rs ((w'.setCell ⟨w.heap.size+1+1,0,none⟩ (.bool b)).setCell ⟨w.heap.size+1+1,1,none⟩ (.slice A n c)):=
 ⟨bD h.1 (by dsimp only;omega),bD h.2.1 (by dsimp only;omega),h.2.2.1.set2 h.2.2.2.2.1 _ _,h.2.2.2.1.set2 h.2.2.2.2.1 _ _,h.2.2.2.2.1.same _ _ _ _,h.2.2.2.2.2.1.far (by omega) _ _,h.2.2.2.2.2.2.set2 (by omega) _ _⟩
theorem uF (h:w'.cell? ⟨w.heap.size,0,none⟩=some (.bool na)/\w'.cell? ⟨w.heap.size+1,0,none⟩=some (.bool nb)/\eX w A1 n1 c1 qs B1 m1 d1 rs w') (b:Bool) (A:Option Addr) (n c:Nat):
 ((w'.setCell ⟨w.heap.size+1+1+1,0,none⟩ (.bool b)).setCell ⟨w.heap.size+1+1+1,1,none⟩ (.slice A n c)).cell? ⟨w.heap.size,0,none⟩=some (.bool na)/\((w'.setCell ⟨w.heap.size+1+1+1,0,none⟩ (.bool b)).setCell ⟨w.heap.size+1+1+1,1,none⟩ (.slice A n c)).cell? ⟨w.heap.size+1,0,none⟩=some (.bool nb)/\eX w A1 n1 c1 qs B1 m1 d1 rs ((w'.setCell ⟨w.heap.size+1+1+1,0,none⟩ (.bool b)).setCell ⟨w.heap.size+1+1+1,1,none⟩ (.slice A n c)):=
 ⟨bD h.1 (by dsimp only;omega),bD h.2.1 (by dsimp only;omega),h.2.2.1.set2 h.2.2.2.2.2.1 _ _,h.2.2.2.1.set2 h.2.2.2.2.2.1 _ _,h.2.2.2.2.1.far (by omega) _ _,h.2.2.2.2.2.1.same _ _ _ _,h.2.2.2.2.2.2.set2 (by omega) _ _⟩
theorem NL (h:w'.cell? ⟨w.heap.size,0,none⟩=some (.bool na)/\w'.cell? ⟨w.heap.size+1,0,none⟩=some (.bool nb)/\eX w A1 n1 c1 qs B1 m1 d1 rs w'):bc w' A1 n1 c1 qs:=h.2.2.1
theorem Pi (h:w'.cell? ⟨w.heap.size,0,none⟩=some (.bool na)/\w'.cell? ⟨w.heap.size+1,0,none⟩=some (.bool nb)/\eX w A1 n1 c1 qs B1 m1 d1 rs w'):bc w' B1 m1 d1 rs:=h.2.2.2.1
theorem b5 (h:w'.cell? ⟨w.heap.size,0,none⟩=some (.bool na)/\w'.cell? ⟨w.heap.size+1,0,none⟩=some (.bool nb)/\eX w A1 n1 c1 qs B1 m1 d1 rs w'):bB w' (w.heap.size+1+1)/\bB w' (w.heap.size+1+1+1):=⟨h.2.2.2.2.1,h.2.2.2.2.2.1⟩
theorem zP (h:w'.cell? ⟨w.heap.size,0,none⟩=some (.bool na)/\w'.cell? ⟨w.heap.size+1,0,none⟩=some (.bool nb)/\eX w A1 n1 c1 qs B1 m1 d1 rs w'):bw w w':=h.2.2.2.2.2.2
end
theorem He {w:World} {A:Option Addr} {n c k:Nat} (h:bc w A n c (digs k)) (hk:k=0):n=0:=by rw[<- h.len,hk,ay];rfl
theorem JM {w:World} {A:Option Addr} {n c k:Nat} (h:bc w A n c (digs k)) (hk:k≠0):0<n:=by
 rcases Nat.eq_zero_or_pos n with h0|h0
 ·exact absurd (fF.1 (List.eq_nil_of_length_eq_zero (by rw[h.len,h0]))) hk
 ·exact h0
theorem yz (va vb:Value) (na nb:Bool) (xs ys:List Nat) (w:World) (ha:dh w va na xs) (hb:dh w vb nb ys)
 (hok:xT (val xs) (val ys)) (hy0:val ys≠0) (hn:na=nb) (q r:Int) (hq:aN false (digs (val xs/val ys))=q) (hr:aN nb (digs (val xs%val ys))=r):
 Calls Tryz.prog 299 #[va,vb] w (Bg q r w):=by
 obtain⟨A,n,c,rfl,hx⟩:=ha;obtain⟨B,m,d,rfl,hy⟩:=hb;obtain⟨W,hW⟩:∃W,W=(((w.alloc (.cells #[.bool na, .slice A n c] 36)).alloc (.cells #[.bool nb, .slice B m d] 36)).alloc (.cells #[.bool false, .slice none 0 0] 36)).alloc (.cells #[.bool false, .slice none 0 0] 36):=⟨_,rfl⟩;obtain⟨⟨ca0,ca1,cb0,cb1⟩,⟨cq0,cq1,fq0,fq1⟩,⟨cr0,cr1,fr0,fr1⟩,hbW⟩:=lS w _ _ _ _ _ _ _ _ _ W hW;have hyl:(trim ys).length≠0:=fun e=>hy0 (by rw[<- aJ ys,List.eq_nil_of_length_eq_zero e];rfl)
 obtain⟨m1,hm1⟩:∃m1,m1=(trim ys).length:=⟨_,rfl⟩;have hm0:((m1:Int) == 0)=false:=by simp;omega
 have Hx:=Lib.hid (hx.ext hbW);have Hy:=Lib.hid (hy.ext hbW);have Hm1:=Lib.hid hm1;have hcall:Calls Tryz.prog 282 #[.slice A (trim xs).length c, .slice B m1 d] W (lh (val xs/val ys) (val xs%val ys) W):=hok _ _ _ _ _ _ W (hx.ext hbW).trim (hm1 ▸ (hy.ext hbW).trim);have Hcall:=Lib.hid hcall;have Hq:=Lib.hid hq;have Hr:=Lib.hid hr
 skip
 clear hx hy hok hq hr hm1 hyl hcall;subst hn
 go_enter func299,ntmps299
 go_wp2_with fail
 rw[<- hW];clear hW
 go_wp2_with (first
  |(go_at_call 194;(with_reducible refine(bv B m d ys _ Hy.out).mono ?_);rw[<- Hm1.out];rintro e w' ⟨rfl,rfl⟩)
  |(go_at_call 194;(with_reducible refine(bv A n c xs _ Hx.out).mono ?_);rintro e w' ⟨rfl,rfl⟩)
  |(go_at_call 282;(with_reducible refine Hcall.out.mono ?_);rintro e w1 ⟨A1,n1,c1,B1,m2,d1,rfl,hw1,hw2,hb1⟩;skip;have xa0:=kc ca0 hb1;have xb0:=kc cb0 hb1;have xq0:=kc cq0 hb1;have xq1:=kc cq1 hb1;have xr0:=kc cr0 hb1;have xr1:=kc cr1 hb1;have gq0:=kf cq0 fq0 hb1;have gq1:=kf cq1 fq1 hb1;have gr0:=kf cr0 fr0 hb1;have gr1:=kf cr1 fr1 hb1))
 have hH:=(⟨xa0,xb0,hw1,hw2,bB.mk xq0 xq1 gq0 gq1,bB.mk xr0 xr1 gr0 gr1,hbW.trans hb1⟩:nK w na na A1 n1 c1 (digs (val xs/val ys)) B1 m2 d1 (digs (val xs%val ys)) w1);unfold nK at hH;have hH:=di hH (Below.drew (Below.refl _ _));clear hw1 hw2 hb1 hbW ca0 ca1 cb0 cb1 cq0 cq1 fq0 fq1 cr0 cr1 fr0 fr1 Hx Hy Hcall;generalize digs (val xs/val ys)=qs at *;generalize digs (val xs%val ys)=rs at *
 go_region_held3 (fun w'=>w'.cell? ⟨w.heap.size,0,none⟩=some (.bool na)/\w'.cell? ⟨w.heap.size+1,0,none⟩=some (.bool na)/\eX w A1 n1 c1 qs B1 m2 d1 rs w')
  (with_reducible first|assumption|exact di (by assumption) (by assumption)|exact vO (by assumption) _ _ _ _|exact uF (by assumption) _ _ _ _)
  (first
   |((go_at_call 232;(with_reducible refine(bu (xs:=qs) (NL (by assumption)) Hq.out).mono ?_);rintro e w2 ⟨v2,rfl,⟨A2,n2,c2,rfl,hw2⟩,hb2⟩;have hq2:=di (by with_reducible assumption) hb2;obtain⟨⟨uq0,uq1,su0,su1,su2,su3,sn0,sn1⟩,⟨ur0,ur1,sv0,sv1,sv2,sv3,sn2,sn3⟩⟩:=b5 hq2;clear sn0 sn1 sn2 sn3))
   |((go_at_call 232;(with_reducible refine(bu (xs:=rs) (Pi (by assumption)) Hr.out).mono ?_);rintro e w3 ⟨v3,rfl,⟨A3,n3,c3,rfl,hw3⟩,hb3⟩;have hr3:=di (by with_reducible assumption) hb3;obtain⟨⟨vq0,vq1,tu0,tu1,tu2,tu3,tn0,tn1⟩,⟨vr0,vr1,tv0,tv1,tv2,tv3,tn2,tn3⟩⟩:=b5 hr3;clear tn0 tn1 tn2 tn3)))
 all_goals(
  have hE:bw w _:=zP (by with_reducible assumption)
  go_wp2_with fail
  refine rS (rq:=w.heap.size+1+1) (rr:=w.heap.size+1+1+1) (q:=q) (r:=r) ?_ ?_
  ·exact ST
  ·intro A5 n5 c5 B5 m5 d5 x0 x1 x2 y0 y1 y2
   exact bodyPost_ret (v:= .tuple #[.agg #[.bool (decide (q<0)), .slice A5 n5 c5], .agg #[.bool (decide (r<0)), .slice B5 m5 d5], .int .i64 0]) (by simp[results,results299,go_sem,x0,x1,y0,y1]) rfl ⟨_,_,rfl,⟨_,_,_,rfl,x2⟩,⟨_,_,_,rfl,y2⟩,hE⟩)
theorem yB (va vb:Value) (na nb:Bool) (xs ys:List Nat) (w:World) (ha:dh w va na xs) (hb:dh w vb nb ys)
 (hok:xT (val xs) (val ys)) (hy0:val ys≠0) (hn:nb=!na) (hr0:val xs%val ys=0) (q r:Int) (hq:aN true (digs (val xs/val ys))=q) (hr:aN nb (digs (val xs%val ys))=r):
 Calls Tryz.prog 299 #[va,vb] w (Bg q r w):=by
 obtain⟨A,n,c,rfl,hx⟩:=ha;obtain⟨B,m,d,rfl,hy⟩:=hb;obtain⟨W,hW⟩:∃W,W=(((w.alloc (.cells #[.bool na, .slice A n c] 36)).alloc (.cells #[.bool nb, .slice B m d] 36)).alloc (.cells #[.bool false, .slice none 0 0] 36)).alloc (.cells #[.bool false, .slice none 0 0] 36):=⟨_,rfl⟩;obtain⟨⟨ca0,ca1,cb0,cb1⟩,⟨cq0,cq1,fq0,fq1⟩,⟨cr0,cr1,fr0,fr1⟩,hbW⟩:=lS w _ _ _ _ _ _ _ _ _ W hW;have hyl:(trim ys).length≠0:=fun e=>hy0 (by rw[<- aJ ys,List.eq_nil_of_length_eq_zero e];rfl)
 obtain⟨m1,hm1⟩:∃m1,m1=(trim ys).length:=⟨_,rfl⟩;have hm0:((m1:Int) == 0)=false:=by simp;omega
 have Hx:=Lib.hid (hx.ext hbW);have Hy:=Lib.hid (hy.ext hbW);have Hm1:=Lib.hid hm1;have hcall:Calls Tryz.prog 282 #[.slice A (trim xs).length c, .slice B m1 d] W (lh (val xs/val ys) (val xs%val ys) W):=hok _ _ _ _ _ _ W (hx.ext hbW).trim (hm1 ▸ (hy.ext hbW).trim);have Hcall:=Lib.hid hcall;have Hq:=Lib.hid hq;have Hr:=Lib.hid hr;have Hr0:=Lib.hid hr0;clear hx hy hok hq hr hm1 hyl hcall;subst hn
 go_enter func299,ntmps299
 go_wp2_with fail
 rw[<- hW];clear hW
 go_wp2_with (first
  |(go_at_call 194;(with_reducible refine(bv B m d ys _ Hy.out).mono ?_);rw[<- Hm1.out];rintro e w' ⟨rfl,rfl⟩)
  |(go_at_call 194;(with_reducible refine(bv A n c xs _ Hx.out).mono ?_);rintro e w' ⟨rfl,rfl⟩)
  |(go_at_call 282;(with_reducible refine Hcall.out.mono ?_);rintro e w1 ⟨A1,n1,c1,B1,m2,d1,rfl,hw1,hw2,hb1⟩;obtain rfl:=He hw2 Hr0.out;have xa0:=kc ca0 hb1;have xb0:=kc cb0 hb1;have xq0:=kc cq0 hb1;have xq1:=kc cq1 hb1;have xr0:=kc cr0 hb1;have xr1:=kc cr1 hb1;have gq0:=kf cq0 fq0 hb1;have gq1:=kf cq1 fq1 hb1;have gr0:=kf cr0 fr0 hb1;have gr1:=kf cr1 fr1 hb1))
 have hH:=(⟨xa0,xb0,hw1,hw2,bB.mk xq0 xq1 gq0 gq1,bB.mk xr0 xr1 gr0 gr1,hbW.trans hb1⟩:nK w na (!na) A1 n1 c1 (digs (val xs/val ys)) B1 0 d1 (digs (val xs%val ys)) w1);unfold nK at hH;have hH:=di hH (Below.drew (Below.refl _ _));clear hw1 hw2 hb1 hbW ca0 ca1 cb0 cb1 cq0 cq1 fq0 fq1 cr0 cr1 fr0 fr1 Hx Hy Hcall;generalize digs (val xs/val ys)=qs at *;generalize digs (val xs%val ys)=rs at *
 go_region_held3 (fun w'=>w'.cell? ⟨w.heap.size,0,none⟩=some (.bool na)/\w'.cell? ⟨w.heap.size+1,0,none⟩=some (.bool (!na))/\eX w A1 n1 c1 qs B1 0 d1 rs w')
  (with_reducible first|assumption|exact di (by assumption) (by assumption)|exact vO (by assumption) _ _ _ _|exact uF (by assumption) _ _ _ _)
  (first
   |((go_at_call 232;(with_reducible refine(bu (xs:=qs) (NL (by assumption)) Hq.out).mono ?_);rintro e w2 ⟨v2,rfl,⟨A2,n2,c2,rfl,hw2⟩,hb2⟩;have hq2:=di (by with_reducible assumption) hb2;obtain⟨⟨uq0,uq1,su0,su1,su2,su3,sn0,sn1⟩,⟨ur0,ur1,sv0,sv1,sv2,sv3,sn2,sn3⟩⟩:=b5 hq2;clear sn0 sn1 sn2 sn3))
   |((go_at_call 232;(with_reducible refine(bu (xs:=rs) (Pi (by assumption)) Hr.out).mono ?_);rintro e w3 ⟨v3,rfl,⟨A3,n3,c3,rfl,hw3⟩,hb3⟩;have hr3:=di (by with_reducible assumption) hb3;obtain⟨⟨vq0,vq1,tu0,tu1,tu2,tu3,tn0,tn1⟩,⟨vr0,vr1,tv0,tv1,tv2,tv3,tn2,tn3⟩⟩:=b5 hr3;clear tn0 tn1 tn2 tn3)))
 all_goals(
  have hE:bw w _:=zP (by with_reducible assumption)
  go_wp2_with fail
  refine rS (rq:=w.heap.size+1+1) (rr:=w.heap.size+1+1+1) (q:=q) (r:=r) ?_ ?_
  ·exact ST
  ·intro A5 n5 c5 B5 m5 d5 x0 x1 x2 y0 y1 y2
   exact bodyPost_ret (v:= .tuple #[.agg #[.bool (decide (q<0)), .slice A5 n5 c5], .agg #[.bool (decide (r<0)), .slice B5 m5 d5], .int .i64 0]) (by simp[results,results299,go_sem,x0,x1,y0,y1]) rfl ⟨_,_,rfl,⟨_,_,_,rfl,x2⟩,⟨_,_,_,rfl,y2⟩,hE⟩)
end
section
attribute [local go_sem ↓] Go.wp_at_zero Go.wp_at_succ
theorem FH (w:World):bc (w.alloc (.cells #[.int .u32 1] 135)) (some ⟨w.heap.size,0,none⟩) 1 1 [1]:=by
 have hr:fL (w.alloc (.cells #[.int .u32 1] 135)) w.heap.size [1]:=by
  have:=heap_alloc_new w (.cells #[.int .u32 1] 135);unfold fL;rw[this]
  simp
 exact hr.wrd' (n:=1) (Wd.cons (by decide) Wd.nil) rfl (by decide)
theorem u7 (va vb:Value) (na nb:Bool) (xs ys:List Nat) (w:World) (ha:dh w va na xs) (hb:dh w vb nb ys)
 (hok:xT (val xs) (val ys)) (hy0:val ys≠0) (hn:nb=!na) (hr0:val xs%val ys≠0) (h1:xs.length<=2147483648) (h2:ys.length<=2147483648) (q r:Int) (hq:aN true (digs (val xs/val ys+1))=q) (hr:aN nb (digs (val ys-val xs%val ys))=r):
 Calls Tryz.prog 299 #[va,vb] w (Bg q r w):=by
 obtain⟨A,n,c,rfl,hx⟩:=ha;obtain⟨B,m,d,rfl,hy⟩:=hb;obtain⟨W,hW⟩:∃W,W=(((w.alloc (.cells #[.bool na, .slice A n c] 36)).alloc (.cells #[.bool nb, .slice B m d] 36)).alloc (.cells #[.bool false, .slice none 0 0] 36)).alloc (.cells #[.bool false, .slice none 0 0] 36):=⟨_,rfl⟩;obtain⟨⟨ca0,ca1,cb0,cb1⟩,⟨cq0,cq1,fq0,fq1⟩,⟨cr0,cr1,fr0,fr1⟩,hbW⟩:=lS w _ _ _ _ _ _ _ _ _ W hW;have hyl:(trim ys).length≠0:=fun e=>hy0 (by rw[<- aJ ys,List.eq_nil_of_length_eq_zero e];rfl)
 obtain⟨m1,hm1⟩:∃m1,m1=(trim ys).length:=⟨_,rfl⟩;have hm0:((m1:Int) == 0)=false:=by simp;omega
 have Hx:=Lib.hid (hx.ext hbW);have Hy:=Lib.hid (hy.ext hbW);have Hm1:=Lib.hid hm1;have Hyt:=Lib.hid (show bc W B m1 d (trim ys) from hm1 ▸ (hy.ext hbW).trim);have hcall:Calls Tryz.prog 282 #[.slice A (trim xs).length c, .slice B m1 d] W (lh (val xs/val ys) (val xs%val ys) W):=hok _ _ _ _ _ _ W (hx.ext hbW).trim (hm1 ▸ (hy.ext hbW).trim);have Hcall:=Lib.hid hcall;have Hq:=Lib.hid hq;have Hr:=Lib.hid hr;have Hr0:=Lib.hid hr0;have hm1':m1<=4294967296:=by rw[hm1];exact dG hy.wd h2
 have hqb:(digs (val xs/val ys)).length<=4294967296:=by
  have h3:=a8 (Nat.lt_of_le_of_lt (Nat.div_le_self (val xs) (val ys)) (fK hx.wd));omega
 have hle:val (digs (val xs%val ys))<=val (trim ys):=by rw[az,aJ];exact Nat.le_of_lt (Nat.mod_lt _ (by omega))
 have Hle:=Lib.hid hle;clear hle;clear hx hy hok hq hr hm1 hyl hcall;subst hn
 go_enter func299,ntmps299
 go_wp2_with fail
 rw[<- hW];clear hW
 go_wp2_with (first
  |(go_at_call 194;(with_reducible refine(bv B m d ys _ Hy.out).mono ?_);rw[<- Hm1.out];rintro e w' ⟨rfl,rfl⟩)
  |(go_at_call 194;(with_reducible refine(bv A n c xs _ Hx.out).mono ?_);rintro e w' ⟨rfl,rfl⟩)
  |(go_at_call 282;(with_reducible refine Hcall.out.mono ?_);rintro e w1 ⟨A1,n1,c1,B1,m2,d1,rfl,hw1,hw2,hb1⟩;have hEb:bw W w1:=hb1;have ya0:=kc ca0 hb1;have yb0:=kc cb0 hb1;have hm2:0<m2:=JM hw2 Hr0.out;have hm2':(0:Int)<m2:=by omega)
  |(go_at_call 257;(with_reducible refine(Ix A1 (some ⟨w1.heap.size,0,none⟩) n1 1 c1 1 (digs (val xs/val ys)) [1] _ (hw1.ext ((bw.refl w1).alloc _)) (FH w1) (by rw[<- hw1.len];exact hqb) (by decide)).mono ?_);rintro e w4 ⟨A4,n4,c4,zs,rfl,hw4,⟨hv4,_⟩,hb4⟩;have hE4:=((bw.refl w1).alloc (.cells #[.int .u32 1] 135)).more hb4)
  |(go_at_call 258;(with_reducible refine(ux B B1 m1 m2 d d1 (trim ys) (digs (val xs%val ys)) _ (Hyt.out.ext (bw.trans hEb hE4)) (hw2.ext hE4) Hle.out hm1').mono ?_);rintro e w5 ⟨A5,n5,c5,rs,rfl,hw5,hrs,hb5⟩;have hE5:=bw.trans hb1 (hE4.more hb5);have xa0:=kc ca0 hE5;have xb0:=kc cb0 hE5;have xq0:=kc cq0 hE5;have xq1:=kc cq1 hE5;have xr0:=kc cr0 hE5;have xr1:=kc cr1 hE5;have gq0:=kf cq0 fq0 hE5;have gq1:=kf cq1 fq1 hE5;have gr0:=kf cr0 fr0 hE5;have gr1:=kf cr1 fr1 hE5))
 have hH:=(⟨xa0,xb0,hw4.below hb5,hw5,bB.mk xq0 xq1 gq0 gq1,bB.mk xr0 xr1 gr0 gr1,hbW.trans hE5⟩:nK w na (!na) A4 n4 c4 zs A5 n5 c5 rs w5);unfold nK at hH;have hH:=di hH (Below.drew (Below.refl _ _));have hq1:aN true zs=q:=by rw[<- Hq.out];unfold aN;rw[az,hv4,az];rfl
 have hr1:aN (!na) rs=r:=by rw[<- Hr.out,hrs,az,aJ]
 have Hq:=Lib.hid hq1;have Hr:=Lib.hid hr1;clear hEb ya0 yb0 hw4 hw5 hE5 hE4 hb4 hb5 hrs hv4 Hle Hr0 Hyt hq1 hr1 hw1 hw2 hb1 hbW ca0 ca1 cb0 cb1 cq0 cq1 fq0 fq1 cr0 cr1 fr0 fr1 Hx Hy Hcall
 go_region_held3 (fun w'=>w'.cell? ⟨w.heap.size,0,none⟩=some (.bool na)/\w'.cell? ⟨w.heap.size+1,0,none⟩=some (.bool (!na))/\eX w A4 n4 c4 zs A5 n5 c5 rs w')
  (with_reducible first|assumption|exact di (by assumption) (by assumption)|exact vO (by assumption) _ _ _ _|exact uF (by assumption) _ _ _ _)
  (first
   |((go_at_call 232;(with_reducible refine(bu (xs:=zs) (NL (by assumption)) Hq.out).mono ?_);rintro e w6 ⟨v2,rfl,⟨A2,n2,c2,rfl,hw6⟩,hb6⟩;have hq2:=di (by with_reducible assumption) hb6;obtain⟨⟨uq0,uq1,su0,su1,su2,su3,sn0,sn1⟩,⟨ur0,ur1,sv0,sv1,sv2,sv3,sn2,sn3⟩⟩:=b5 hq2;clear sn0 sn1 sn2 sn3))
   |((go_at_call 232;(with_reducible refine(bu (xs:=rs) (Pi (by assumption)) Hr.out).mono ?_);rintro e w3 ⟨v3,rfl,⟨A3,n3,c3,rfl,hw3⟩,hb3⟩;have hr3:=di (by with_reducible assumption) hb3;obtain⟨⟨vq0,vq1,tu0,tu1,tu2,tu3,tn0,tn1⟩,⟨vr0,vr1,tv0,tv1,tv2,tv3,tn2,tn3⟩⟩:=b5 hr3;clear tn0 tn1 tn2 tn3)))
 all_goals(
  have hE:bw w _:=zP (by with_reducible assumption)
  go_wp2_with fail
  refine rS (rq:=w.heap.size+1+1) (rr:=w.heap.size+1+1+1) (q:=q) (r:=r) ?_ ?_
  ·exact ST
  ·intro A8 n8 c8 B8 m8 d8 x0 x1 x2 y0 y1 y2
   exact bodyPost_ret (v:= .tuple #[.agg #[.bool (decide (q<0)), .slice A8 n8 c8], .agg #[.bool (decide (r<0)), .slice B8 m8 d8], .int .i64 0]) (by simp[results,results299,go_sem,x0,x1,y0,y1]) rfl ⟨_,_,rfl,⟨_,_,_,rfl,x2⟩,⟨_,_,_,rfl,y2⟩,hE⟩)
end
theorem mJ (s:Bool) (k:Nat):aN s (digs k)=if s then -(k:Int)else k:=by unfold aN;rw[az]
theorem fd {x y q r:Int} (h:x=q*y+r) (hr:(0<=r/\r<y)∨(y<r/\r<=0)):x.fdiv y=q/\x.fmod y=r:=by
 rcases hr with⟨h0,h1⟩| ⟨h0,h1⟩
 ·exact(Int.fdiv_fmod_unique (by omega)).2 ⟨by rw[h,Int.mul_comm];omega,h0,h1⟩
 ·exact(Int.fdiv_fmod_unique' (by omega)).2 ⟨by rw[h,Int.mul_comm];omega,h0,h1⟩
theorem F0 (va vb:Value) (na nb:Bool) (xs ys:List Nat) (w:World) (ha:dh w va na xs) (hb:dh w vb nb ys) (h1:xs.length<=2147483648) (h2:ys.length<=2147483648)
 (hok:xT (val xs) (val ys)) (hy0:val ys≠0):
 Calls Tryz.prog 299 #[va,vb] w (Bg ((aN na xs).fdiv (aN nb ys)) ((aN na xs).fmod (aN nb ys)) w):=by
 have hd:=Nat.div_add_mod (val xs) (val ys);have hm:=Nat.mod_lt (val xs) (Nat.pos_of_ne_zero hy0);have hd':(val xs:Int)=(val ys:Int)*(val xs/val ys:Nat)+(val xs%val ys:Nat):=by exact_mod_cast hd.symm
 by_cases hn:na=nb
 ·have hf:(aN na xs).fdiv (aN nb ys)=aN false (digs (val xs/val ys))/\(aN na xs).fmod (aN nb ys)=aN nb (digs (val xs%val ys)):=by
   rw[mJ,mJ];unfold aN;subst hn;generalize val xs/val ys=Q at *;generalize val xs%val ys=R at *;cases na
   ·exact fd (by simp only[Bool.false_eq_true,if_false];rw[hd',Int.mul_comm]) (.inl (by simp;omega))
   ·exact fd (by simp only[Bool.false_eq_true,if_true,if_false];rw[hd',Int.mul_neg,Int.mul_comm];omega) (.inr (by simp;omega))
  exact yz va vb na nb xs ys w ha hb hok hy0 hn _ _ hf.1.symm hf.2.symm
 ·have hn':nb=!na:=by cases na<;>cases nb<;>simp_all
  by_cases hr0:val xs%val ys=0
  ·have hf:(aN na xs).fdiv (aN nb ys)=aN true (digs (val xs/val ys))/\(aN na xs).fmod (aN nb ys)=aN nb (digs (val xs%val ys)):=by
    rw[mJ,mJ];unfold aN;subst hn';rw[hr0]at hd' ⊢;generalize val xs/val ys=Q at *;cases na
    ·exact fd (by simp only[Bool.false_eq_true,if_true,if_false,Bool.not_false];rw[hd',Int.neg_mul_neg,Int.mul_comm];simp) (.inr (by simp;omega))
    ·exact fd (by simp only[Bool.false_eq_true,if_true,if_false,Bool.not_true];rw[hd',Int.neg_mul,Int.mul_comm];simp) (.inl (by simp;omega))
   exact yB va vb na nb xs ys w ha hb hok hy0 hn' hr0 _ _ hf.1.symm hf.2.symm
  ·have hf:(aN na xs).fdiv (aN nb ys)=aN true (digs (val xs/val ys+1))/\(aN na xs).fmod (aN nb ys)=aN nb (digs (val ys-val xs%val ys)):=by
    rw[mJ,mJ];unfold aN;subst hn';generalize val xs/val ys=Q at *;generalize val xs%val ys=R at *;generalize val ys=b at *;have e:((b-R:Nat):Int)=(b:Int)-R:=by omega
    have e1:((Q+1:Nat):Int)=(Q:Int)+1:=by omega
    rw[e,e1];have e2:((Q:Int)+1)*b=b*Q+b:=by rw[Int.add_mul,Int.one_mul,Int.mul_comm]
    cases na
    ·exact fd (by simp only[Bool.false_eq_true,if_true,if_false,Bool.not_false];rw[hd',Int.neg_mul_neg,e2];omega) (.inr (by simp;omega))
    ·exact fd (by simp only[Bool.false_eq_true,if_true,if_false,Bool.not_true];rw[hd',Int.neg_mul,e2];omega) (.inl (by simp;omega))
   exact u7 va vb na nb xs ys w ha hb hok hy0 hn' hr0 h1 h2 _ _ hf.1.symm hf.2.symm
end Go.Proofs.YtnchbpoopnjghaaGreatDoor
