/- cmp.Compare at int and uint32; compare of both packages. plus of both packages. plus of the reference. minus of both packages. -/
import Derived.Test.YtnchbpoopnjghaaGreatDoorQAb
set_option maxHeartbeats 100000000
set_option linter.all false
open Go.Proofs.Tryz
namespace Go.Proofs.YtnchbpoopnjghaaGreatDoor
open Go.RowKit
theorem p9 (a b:Int) (w:World):Calls Tryz.prog 234 #[.int .i64 a, .int .i64 b] w fun e w'=>e= .returned (.int .i64 (bQ a b))/\w=w':=by
 have ha:(a != a)=false:=S_
 have hb:(b != b)=false:=S_
 by_cases h1:a<b
 ·have fin:bQ a b= -1:=by unfold bQ;rw[if_pos h1]
  exact Sx
 ·by_cases h2:b<a
  ·have fin:bQ a b=1:=by unfold bQ;rw[if_neg h1,if_pos h2]
   exact Sx
  ·have fin:bQ a b=0:=by unfold bQ;rw[if_neg h1,if_neg h2]
   exact Sx
theorem rF (a b:Int) (w:World):Calls Tryz.prog 285 #[.int .u32 a, .int .u32 b] w fun e w'=>e= .returned (.int .i64 (bQ a b))/\w=w':=by
 have ha:(a != a)=false:=S_
 have hb:(b != b)=false:=S_
 by_cases h1:a<b
 ·have fin:bQ a b= -1:=by unfold bQ;rw[if_pos h1]
  exact Q9
 ·by_cases h2:b<a
  ·have fin:bQ a b=1:=by unfold bQ;rw[if_neg h1,if_pos h2]
   exact Q9
  ·have fin:bQ a b=0:=by unfold bQ;rw[if_neg h1,if_neg h2]
   exact Q9
def UF (z:Int) (w:World) (e:Ending) (w':World):Prop:=e= .returned (.int .i64 z)/\ ∃n,w'=w.drewN n
theorem kv {xs ys:List Nat} (h:xs.length≠ys.length):iB xs ys=bQ xs.length ys.length:=by unfold iB;rw[if_neg h]
theorem j4 {xs ys:List Nat} (h:xs.length=ys.length):iB xs ys=bQ (val xs) (val ys):=by unfold iB;rw[if_pos h]
theorem lf (A B:Option Addr) (n m c d:Nat) (xs ys:List Nat) (w:World) (hx:bi w A n c xs) (hy:bi w B m d ys):
 Calls Tryz.prog 235 #[.slice A n c, .slice B m d] w (UF (iB xs ys) w):=by
 have hnc:=hx.cap;have hc:=hx.lim;have hmd:=hy.cap;have hd:=hy.lim;have Hx:=Lib.hid hx;have Hy:=Lib.hid hy;clear hx hy
 by_cases hnm:n=m
 ·subst hnm
  have hne:((n:Int) != n)=false:=S_
  have hge:∀k:Nat,decide ((k:Int)-1>=0)=decide (0<k):=fun k=>by simp;omega
  clear hge
  go_enter func235,ntmps235
  go_wp2
  go_loopw [5] (fun i wr=>∃k:Nat,k<=n/\i= .int .i64 ((k:Int)-1)/\xs.drop k=ys.drop k/\ ∃q,wr=w.drewN q) (fun i _=>(intOf i+1).toNat)
  case atStart=>exact⟨n,l_ _,rfl,by rw[List.drop_of_length_le (by rw[Hx.out.len];exact l_ _),List.drop_of_length_le (by rw[Hy.out.len];exact l_ _)],0,rfl⟩
  case round=>
   obtain⟨k,hk,rfl,hdr,q,rfl⟩:=hrel;have Hdr:=Lib.hid hdr;clear hdr
   by_cases h0:0<k
   ·obtain⟨b1,o1,rfl,_,hc1⟩:=Hx.out.at O_
    obtain⟨b2,o2,rfl,_,hc2⟩:=Hy.out.at O_;have hc1:=hc1 (k-1) O_;have hc2:=hc2 (k-1) O_;have g1:(0:Int)<=(k:Int)-1:=O_
    have g2:(k:Int)-1<n:=O_
    obtain⟨x,hxx⟩:∃x,x=xs.getD (k-1) 0:=⟨_,rfl⟩;obtain⟨y,hyy⟩:∃y,y=ys.getD (k-1) 0:=⟨_,rfl⟩;rw[<- hxx]at hc1;rw[<- hyy]at hc2;have Hxx:=Lib.hid hxx;have Hyy:=Lib.hid hyy;clear hxx hyy
    by_cases hxy:x=y
    ·subst hxy
     have hne2:((x:Int) != x)=false:=S_
     go_wp2
     go_quiet (fail)
     go_wp2
     go_roundw
     case rel=>exact⟨k-1,by omega,by go_num,by rw[cg xs k h0 (by rw[Hx.out.len];exact hk),cg ys k h0 (by rw[Hy.out.len];exact hk),Hdr.out,<- Hxx.out,<- Hyy.out],_,rfl⟩
     case measure=>simp[intOf];omega
    ·have hne2:((x:Int) != y)=true:=by rw[bne_iff_ne];omega
     have fin:bQ x y=iB xs ys:=by
      rw[j4 (by rw[Hx.out.len,Hy.out.len])];rcases Nat.lt_or_gt_of_ne hxy with h|h
      ·rw[fR O_,fR]
       exact Ta
      ·rw[jv O_,jv]
       exact T2
     have Hfin:=Lib.hid fin;clear fin
     go_wp2
     go_quiet (fail)
     go_wp2
     go_quiet ((go_at_call 285;exact r7 (rF _ _ _)))
     go_wp2
     go_ret
     exact⟨by rw[<- Hfin.out];rfl,_,V4 _ _ _ _⟩
   ·exact S5
 ·have hne:((n:Int) != m)=true:=by rw[bne_iff_ne];omega
  have fin:bQ n m=iB xs ys:=by rw[kv (by rw[Hx.out.len,Hy.out.len];exact hnm),Hx.out.len,Hy.out.len]
  have Hfin:=Lib.hid fin;clear fin
  go_enter func235,ntmps235
  go_wp2_with (go_at_call 234;refine(p9 _ _ _).mono ?_;rintro e w' ⟨rfl,rfl⟩)
  go_ret
  exact⟨by rw[<- Hfin.out];rfl,0,rfl⟩
theorem rT (A B:Option Addr) (n m c d:Nat) (xs ys:List Nat) (w:World) (hx:bi w A n c xs) (hy:bi w B m d ys):
 Calls Tryz.prog 222 #[.slice A n c, .slice B m d] w (UF (iB xs ys) w):=by
 have hnc:=hx.cap;have hc:=hx.lim;have hmd:=hy.cap;have hd:=hy.lim;have Hx:=Lib.hid hx;have Hy:=Lib.hid hy;clear hx hy
 by_cases hnm:n=m
 ·subst hnm
  have hne:((n:Int) != n)=false:=S_
  have hge:∀k:Nat,decide ((k:Int)-1>=0)=decide (0<k):=fun k=>by simp;omega
  clear hge
  go_enter func222,ntmps222
  go_wp2
  go_loopw [5] (fun i wr=>∃k:Nat,k<=n/\i= .int .i64 ((k:Int)-1)/\xs.drop k=ys.drop k/\ ∃q,wr=w.drewN q) (fun i _=>(intOf i+1).toNat)
  case atStart=>exact⟨n,l_ _,rfl,by rw[List.drop_of_length_le (by rw[Hx.out.len];exact l_ _),List.drop_of_length_le (by rw[Hy.out.len];exact l_ _)],0,rfl⟩
  case round=>
   obtain⟨k,hk,rfl,hdr,q,rfl⟩:=hrel;have Hdr:=Lib.hid hdr;clear hdr
   by_cases h0:0<k
   ·obtain⟨b1,o1,rfl,_,hc1⟩:=Hx.out.at O_
    obtain⟨b2,o2,rfl,_,hc2⟩:=Hy.out.at O_;have hc1:=hc1 (k-1) O_;have hc2:=hc2 (k-1) O_;have g1:(0:Int)<=(k:Int)-1:=O_
    have g2:(k:Int)-1<n:=O_
    obtain⟨x,hxx⟩:∃x,x=xs.getD (k-1) 0:=⟨_,rfl⟩;obtain⟨y,hyy⟩:∃y,y=ys.getD (k-1) 0:=⟨_,rfl⟩;rw[<- hxx]at hc1;rw[<- hyy]at hc2;have Hxx:=Lib.hid hxx;have Hyy:=Lib.hid hyy;clear hxx hyy
    by_cases hxy:x=y
    ·subst hxy
     have hne2:¬(x:Int)<x:=O_
     go_wp2
     go_quiet (fail)
     go_wp2
     go_quiet (fail)
     go_wp2
     go_roundw
     case rel=>exact⟨k-1,by omega,by go_num,by rw[cg xs k h0 (by rw[Hx.out.len];exact hk),cg ys k h0 (by rw[Hy.out.len];exact hk),Hdr.out,<- Hxx.out,<- Hyy.out],_,by first|exact V4 _ _ _ _|rfl⟩
     case measure=>simp[intOf];omega
    ·rcases Nat.lt_or_gt_of_ne hxy with h|h
     ·have fin:iB xs ys= -1:=by
       rw[j4 (by rw[Hx.out.len,Hy.out.len]),fR];exact Ta
      have Hfin:=Lib.hid fin;clear fin;have h':(x:Int)<y:=O_
      go_wp2
      go_quiet (fail)
      go_wp2
      go_ret
      exact⟨by rw[Hfin.out];rfl,_,WO _ _ _⟩
     ·have fin:iB xs ys=1:=by
       rw[j4 (by rw[Hx.out.len,Hy.out.len]),jv];exact T2
      have Hfin:=Lib.hid fin;clear fin;have h':(y:Int)<x:=O_
      have h'':¬(x:Int)<y:=O_
      go_wp2
      go_quiet (fail)
      go_wp2
      go_quiet (fail)
      go_wp2
      go_ret
      exact⟨by rw[Hfin.out];rfl,_,V4 _ _ _ _⟩
   ·exact S5
 ·have hne:((n:Int) != m)=true:=by rw[bne_iff_ne];omega
  rcases Nat.lt_or_gt_of_ne hnm with h|h
  ·have fin:iB xs ys= -1:=by rw[kv (by rw[Hx.out.len,Hy.out.len];exact hnm),Hx.out.len,Hy.out.len,fR O_]
   have Hfin:=Lib.hid fin;clear fin;have h':(n:Int)<m:=O_
   go_enter func222,ntmps222
   go_wp2
   go_ret
   exact⟨by rw[Hfin.out];rfl,0,rfl⟩
  ·have fin:iB xs ys=1:=by rw[kv (by rw[Hx.out.len,Hy.out.len];exact hnm),Hx.out.len,Hy.out.len,jv O_]
   have Hfin:=Lib.hid fin;clear fin;have h':¬(n:Int)<m:=O_
   go_enter func222,ntmps222
   go_wp2
   go_ret
   exact⟨by rw[Hfin.out];rfl,0,rfl⟩
def js (Φ:List Nat->Prop) (w:World) (e:Ending) (w':World):Prop:=∃A n c zs,e= .returned (.slice A n c)/\bi w' A n c zs/\Φ zs/\Below w.heap.size w w'
theorem gQ {w:World} {base g n cap:Nat} {zs:List Nat} (h:w.ownsRow base 135 1 (.slice (some ⟨g,0,none⟩) n cap) n (zs.map bZ)) (hw:Wd zs) (hn:n<=cap) (hc:cap<=9223372036854775807):
 bi w (some ⟨g,0,none⟩) n cap zs:=by
 have hl:zs.length=n:=by have:=h.1;simpa using this
 refine⟨hl,hn,hc,hw, .inr ⟨g,0,rfl,fun i v hv=>?_⟩,fun h=>by cases h⟩
 have hi:i<n:=by
  have:=(G_.1 hv).1;rw[j_,hl]at this;exact this
 rw[J_,h.cellAt i O_];exact hv
theorem F9 (A B:Option Addr) (n m c d:Nat) (xs ys:List Nat) (w:World) (hx:bi w A n c xs) (hy:bi w B m d ys) (hnm:m<=n) (hs:n<=4294967296):
 Calls Tryz.prog 257 #[.slice A n c, .slice B m d] w (js (fun zs=>val zs=val xs+val ys/\zs.length<=n+1/\(zs.length=n+1->4294967296^n<=val zs)) w):=by
 obtain⟨i0,hi,hz0,hz1,hz2⟩:=info_parts Tryz.infoU32;have hnc:=hx.cap;have hc:=hx.lim;have hmd:=hy.cap;have hd:=hy.lim;have Hx:=Lib.hid hx;have Hy:=Lib.hid hy;clear hx hy;have hlt:¬(n:Int)<m:=O_
 go_enter func257,ntmps257
 go_wp2_with (at_make;refine wpList_make_own _ rfl _ _ 34 rfl w.heap.size 135 i0 (.int .u32 0) 1 underlying34 hi hz0 hz1 .i64 .i64 _ (n+1) rfl rfl O_ (by rw[hz2];omega) (by simp only[maxLen];omega) (l_ _) ?_;intro w1 hown1 hg1)
 have hb1:Below w.heap.size w w1:=(Below.refl _ _).grown hg1 (l_ _) S_;have Hb1:=Lib.hid hb1;clear hb1 hg1
 go_loopw [5,6,22] (fun v cr i wr=>∃(k cy:Nat) (zs:List Nat),k<=n/\i= .int .i64 k/\v= .slice (some ⟨w.heap.size,0,none⟩) k (n+1)/\cr= .int .u64 cy/\cy<2 /\
  (Wd zs/\val zs+4294967296^k*cy=val (xs.take k)+val (ys.take k))/\wr.ownsRow w.heap.size 135 1 (.slice (some ⟨w.heap.size,0,none⟩) k (n+1)) k (zs.map bZ)/\Below w.heap.size w wr)
  (fun _ _ i _=>n-(intOf i).toNat)
 case atStart=>exact⟨0,0,[],Nat.zero_le _,rfl,rfl,rfl,by omega,⟨Wd.nil,by simp[val]⟩,hown1,Hb1.out⟩
 case round=>
  exact Wo
theorem GG (A B:Option Addr) (n m c d:Nat) (xs ys:List Nat) (w:World) (hx:bi w A n c xs) (hy:bi w B m d ys) (hnm:m<n) (hs:n<=4294967296):
 Calls Tryz.prog 257 #[.slice B m d, .slice A n c] w (js (fun zs=>val zs=val xs+val ys/\zs.length<=n+1/\(zs.length=n+1->4294967296^n<=val zs)) w):=by
 obtain⟨i0,hi,hz0,hz1,hz2⟩:=info_parts Tryz.infoU32;have hnc:=hx.cap;have hc:=hx.lim;have hmd:=hy.cap;have hd:=hy.lim;have Hx:=Lib.hid hx;have Hy:=Lib.hid hy;clear hx hy;have hlt:(m:Int)<n:=O_
 go_enter func257,ntmps257
 go_wp2_with (at_make;refine wpList_make_own _ rfl _ _ 34 rfl w.heap.size 135 i0 (.int .u32 0) 1 underlying34 hi hz0 hz1 .i64 .i64 _ (n+1) rfl rfl O_ (by rw[hz2];omega) (by simp only[maxLen];omega) (l_ _) ?_;intro w1 hown1 hg1)
 have hb1:Below w.heap.size w w1:=(Below.refl _ _).grown hg1 (l_ _) S_;have Hb1:=Lib.hid hb1;clear hb1 hg1
 go_loopw [5,6,22] (fun v cr i wr=>∃(k cy:Nat) (zs:List Nat),k<=n/\i= .int .i64 k/\v= .slice (some ⟨w.heap.size,0,none⟩) k (n+1)/\cr= .int .u64 cy/\cy<2 /\
  (Wd zs/\val zs+4294967296^k*cy=val (xs.take k)+val (ys.take k))/\wr.ownsRow w.heap.size 135 1 (.slice (some ⟨w.heap.size,0,none⟩) k (n+1)) k (zs.map bZ)/\Below w.heap.size w wr)
  (fun _ _ i _=>n-(intOf i).toNat)
 case atStart=>exact⟨0,0,[],Nat.zero_le _,rfl,rfl,rfl,by omega,⟨Wd.nil,by simp[val]⟩,hown1,Hb1.out⟩
 case round=>
  exact Wo
theorem DS {zs:List Nat} (hw:Wd zs) {k:Nat} (hk:zs.length<=k+1) (h1:zs.length=k+1->4294967296^k<=val zs) (h2:zs.length<=k->zs.length<=(digs (val zs)).length):zs=digs (val zs):=by
 have hl:(digs (val zs)).length<=zs.length:=aS (fq hw);refine Dy hw (ae _) (Nat.le_antisymm ?_ hl) (ah _).symm;rcases Nat.lt_or_ge k zs.length with h|h
 ·refine Nat.le_of_not_lt fun h3=>?_
  have h4:=bX (n:=val zs) (k:=k) O_;have:=h1 O_;omega
 ·exact h2 h
theorem lq {a b:Nat} (h:a<=b):(digs a).length<=(digs b).length:=aS (Nat.lt_of_le_of_lt h (bX (l_ _)))
theorem NI (A B:Option Addr) (n m c d:Nat) (a b:Nat) (w:World) (hx:bi w A n c (digs a)) (hy:bi w B m d (digs b)) (h1:n<=4294967296) (h2:m<=4294967296):
 Calls Tryz.prog 257 #[.slice A n c, .slice B m d] w (js (fun zs=>zs=digs (a+b)) w):=by
 have e1:=hx.len;have e2:=hy.len;rcases Nat.lt_or_ge n m with h|h
 ·refine(GG B A m n d c _ _ w hy hx h h2).mono ?_
  rintro e w' ⟨A',n',c',zs,rfl,hw,⟨h3,h4,h5⟩,hb⟩;rw[ah,ah,Nat.add_comm]at h3;refine⟨A',n',c',zs,rfl,hw,?_,hb⟩;rw[<- h3];exact DS hw.wd h4 h5 fun h6=>V_ h6 (by rw[h3,<- e2];exact lq (Nat.le_add_left _ _))
 ·refine(F9 A B n m c d _ _ w hx hy h h1).mono ?_
  rintro e w' ⟨A',n',c',zs,rfl,hw,⟨h3,h4,h5⟩,hb⟩;rw[ah,ah]at h3;refine⟨A',n',c',zs,rfl,hw,?_,hb⟩;rw[<- h3];exact DS hw.wd h4 h5 fun h6=>V_ h6 (by rw[h3,<- e1];exact lq (Nat.le_add_right _ _))
theorem eS.wrd' {w:World} {g n:Nat} {zs:List Nat} (h:eS w g zs) (hw:Wd zs) (hl:zs.length=n) (hn:n<=9223372036854775807):bi w (some ⟨g,0,none⟩) n n zs:=by
 subst hl;exact h.wrd hw hn
theorem BD (A B:Option Addr) (n m c d:Nat) (xs ys:List Nat) (w:World) (hx:bi w A n c xs) (hy:bi w B m d ys) (hnm:m<=n) (hs:n<=4294967296):
 Calls Tryz.prog 300 #[.slice A n c, .slice B m d] w (js (fun zs=>zs=digs (val xs+val ys)) w):=by
 have hnc:=hx.cap;have hc:=hx.lim;have hmd:=hy.cap;have hd:=hy.lim;have Hx:=Lib.hid hx;have Hy:=Lib.hid hy;clear hx hy;have hlt:¬(n:Int)<m:=O_
 have hmk:=eJ (n+1) ((n:Int)+1) O_ O_;have hrow:=dy w (aF (n+1));have hb0:Below w.heap.size w (w.alloc (du (aF (n+1)))):=(Below.refl _ _).alloc (l_ _) _;have Hrow:=Lib.hid hrow;have Hb0:=Lib.hid hb0;clear hrow hb0
 go_enter func300,ntmps300
 go_wp2_with fail
 go_loopw [6,7] (fun cr i wr=>∃(k cy:Nat) (zs:List Nat),k<=n/\i= .int .i64 k/\cr= .int .u64 cy/\cy<2 /\
  (Wd zs/\zs.length=n+1/\(∀j,k<=j->zs.getD j 0=0)/\val zs+4294967296^k*cy=val (xs.take k)+val (ys.take k))/\eS wr w.heap.size zs/\Below w.heap.size w wr)
  (fun _ i _=>n-(intOf i).toNat)
 case atStart=>exact⟨0,0,aF (n+1),Nat.zero_le _,rfl,rfl,by omega,⟨cH _,aO _,fun j _=>a6 _ _,by simp[val,aF,bv]⟩,Hrow.out,Hb0.out⟩
 case round=>
  exact Wx
theorem A0 (A B:Option Addr) (n m c d:Nat) (xs ys:List Nat) (w:World) (hx:bi w A n c xs) (hy:bi w B m d ys) (hnm:m<n) (hs:n<=4294967296):
 Calls Tryz.prog 300 #[.slice B m d, .slice A n c] w (js (fun zs=>zs=digs (val xs+val ys)) w):=by
 have hnc:=hx.cap;have hc:=hx.lim;have hmd:=hy.cap;have hd:=hy.lim;have Hx:=Lib.hid hx;have Hy:=Lib.hid hy;clear hx hy;have hlt:(m:Int)<n:=O_
 have hmk:=eJ (n+1) ((n:Int)+1) O_ O_;have hrow:=dy w (aF (n+1));have hb0:Below w.heap.size w (w.alloc (du (aF (n+1)))):=(Below.refl _ _).alloc (l_ _) _;have Hrow:=Lib.hid hrow;have Hb0:=Lib.hid hb0;clear hrow hb0
 go_enter func300,ntmps300
 go_wp2_with fail
 go_loopw [6,7] (fun cr i wr=>∃(k cy:Nat) (zs:List Nat),k<=n/\i= .int .i64 k/\cr= .int .u64 cy/\cy<2 /\
  (Wd zs/\zs.length=n+1/\(∀j,k<=j->zs.getD j 0=0)/\val zs+4294967296^k*cy=val (xs.take k)+val (ys.take k))/\eS wr w.heap.size zs/\Below w.heap.size w wr)
  (fun _ i _=>n-(intOf i).toNat)
 case atStart=>exact⟨0,0,aF (n+1),Nat.zero_le _,rfl,rfl,by omega,⟨cH _,aO _,fun j _=>a6 _ _,by simp[val,aF,bv]⟩,Hrow.out,Hb0.out⟩
 case round=>
  exact Wx
theorem Mo (A B:Option Addr) (n m c d:Nat) (xs ys:List Nat) (w:World) (hx:bi w A n c xs) (hy:bi w B m d ys) (h1:n<=4294967296) (h2:m<=4294967296):
 Calls Tryz.prog 300 #[.slice A n c, .slice B m d] w (js (fun zs=>zs=digs (val xs+val ys)) w):=by
 rcases Nat.lt_or_ge n m with h|h
 ·have:=A0 B A m n d c ys xs w hy hx h h2
  rw[Nat.add_comm]at this;exact this
 ·exact BD A B n m c d xs ys w hx hy h h1
theorem La (x y cy:Nat) (hx:x<4294967296) (hy:y<4294967296) (hc:cy<2):
 ∃d b:Nat,d<4294967296/\b<2/\IntKind.u64.wrap (IntKind.u64.wrap ((x:Int)-cy)-y)/9223372036854775808=b/\IntKind.u64.wrap (IntKind.u64.wrap ((x:Int)-cy)-y)%4294967296=d/\d+y+cy=x+4294967296*b:=by
 rw[IntKind.wrap_u64,IntKind.wrap_u64]
 by_cases h:y+cy<=x
 ·exact⟨x-y-cy,0,by omega,by omega,by omega,by omega,by omega⟩
 ·exact⟨x+4294967296-y-cy,1,by omega,by omega,by omega,by omega,by omega⟩
theorem Gm (x cy:Nat) (hx:x<4294967296) (hc:cy<2):
 ∃d b:Nat,d<4294967296/\b<2/\IntKind.u64.wrap ((x:Int)-cy)/9223372036854775808=b/\IntKind.u64.wrap ((x:Int)-cy)%4294967296=d/\d+0+cy=x+4294967296*b:=by
 rw[IntKind.wrap_u64]
 by_cases h:cy<=x
 ·exact⟨x-cy,0,by omega,by omega,by omega,by omega,by omega⟩
 ·exact⟨x+4294967296-cy,1,by omega,by omega,by omega,by omega,by omega⟩
theorem vt (x y cy:Nat) (hx:x<4294967296) (hy:y<4294967296) (hc:cy<2):
 ∃d b:Nat,d<4294967296/\b<2/\(1:Int)-((x:Int)+4294967296-y-cy)/4294967296=b/\((x:Int)+4294967296-y-cy)%4294967296=d/\d+y+cy=x+4294967296*b:=by
 by_cases h:y+cy<=x
 ·exact⟨x-y-cy,0,by omega,by omega,by omega,by omega,by omega⟩
 ·exact⟨x+4294967296-y-cy,1,by omega,by omega,by omega,by omega,by omega⟩
theorem MW (A B:Option Addr) (n m c d:Nat) (xs ys:List Nat) (w:World) (hx:bi w A n c xs) (hy:bi w B m d ys) (hle:val ys<=val xs) (hs:n<=4294967296):
 Calls Tryz.prog 258 #[.slice A n c, .slice B m d] w (js (fun zs=>zs=digs (val xs-val ys)) w):=by
 have hnc:=hx.cap;have hc:=hx.lim;have hmd:=hy.cap;have hd:=hy.lim;have Hx:=Lib.hid hx;have Hy:=Lib.hid hy;have Hle:=Lib.hid hle;clear hx hy hle;have hmk:=eJ n n rfl O_;have hrow:=dy w (aF n);have hb0:Below w.heap.size w (w.alloc (du (aF n))):=(Below.refl _ _).alloc (l_ _) _;have Hrow:=Lib.hid hrow;have Hb0:=Lib.hid hb0;clear hrow hb0
 go_enter func258,ntmps258
 go_wp2_with fail
 go_loopw [6,15] (fun cr i wr=>∃(k cy:Nat) (zs:List Nat),k<=n/\i= .int .i64 k/\cr= .int .u64 cy/\cy<2 /\
  (Wd zs/\zs.length=n/\(∀j,k<=j->zs.getD j 0=0)/\val zs+val (ys.take k)=val (xs.take k)+4294967296^k*cy)/\eS wr w.heap.size zs/\Below w.heap.size w wr)
  (fun _ i _=>n-(intOf i).toNat)
 case atStart=>exact⟨0,0,aF n,Nat.zero_le _,rfl,rfl,by omega,⟨cH _,aO _,fun j _=>a6 _ _,by simp[val,aF,bv]⟩,Hrow.out,Hb0.out⟩
 case round=>
  obtain⟨k,cy,zs,hk,rfl,rfl,hcy,hv,hrow,hb⟩:=hrel;have hfr:=hrow.frozen k;have Hv:=Lib.hid hv;have Hb:=Lib.hid hb;have Hr:=Lib.hid hrow;clear hv hb hrow hmk
  by_cases hkn:k<n
  ·have hcell:=Hr.out.cell k (by rw[Hv.out.2.1];omega)
   obtain⟨b1,o1,rfl,hbb1,hc1⟩:=Hx.out.at O_;have hc1:=(Hb.out.cell (p:=⟨b1,o1+k,none⟩) hbb1).trans (hc1 k hkn);have hx1:=Hx.out.wd.getD k;generalize hxx:xs.getD k 0=x at hc1 hx1;have Hxx:=Lib.hid hxx;clear hxx;have hkn':(k:Int)<n:=O_
   by_cases hkm:k<m
   ·obtain⟨b2,o2,rfl,hbb2,hc2⟩:=Hy.out.at O_
    have hc2:=(Hb.out.cell (p:=⟨b2,o2+k,none⟩) hbb2).trans (hc2 k hkm);have hy1:=Hy.out.wd.getD k;generalize hyy:ys.getD k 0=y at hc2 hy1;have Hyy:=Lib.hid hyy;clear hyy;have hkm':(k:Int)<m:=O_
    clear hbb1 hbb2
    go_wp2_with fail
    go_roundw
    case rel=>
     obtain⟨dd,bb,g1,g2,g3,g4,g5⟩:=La x y cy hx1 hy1 hcy;exact Wv
    case measure=>simp[intOf];omega
   ·have hkm':¬(k:Int)<m:=O_
    have hyy:ys.getD k 0=0:=by rw[H_,List.getElem?_eq_none (by rw[Hy.out.len];omega)];rfl
    have Hyy:=Lib.hid hyy;clear hyy hbb1
    go_wp2_with fail
    go_roundw
    case rel=>
     obtain⟨dd,bb,g1,g2,g3,g4,g5⟩:=Gm x cy hx1 hcy;exact Wv
    case measure=>simp[intOf];omega
  ·obtain rfl:k=n:=O_
   have hkn':¬(k:Int)<k:=O_
   have hval:val zs=val xs-val ys:=pk Hv.out.1 Hv.out.2.1 Hx.out.len Hle.out Hx.out.wd Hv.out.2.2.2;have hw2:bi wr (some ⟨w.heap.size,0,none⟩) k k zs:=Hr.out.wrd' Hv.out.1 Hv.out.2.1 O_;have htr:trim zs=digs (val xs-val ys):=by unfold trim;rw[hval]
   have hw3:=hw2.trim;rw[htr]at hw3;have Hw2:=Lib.hid hw2;have Hw3:=Lib.hid hw3;have Htr:=Lib.hid htr;clear hval hw2 htr hw3;exact UP
theorem Kv (A B:Option Addr) (n m c d:Nat) (xs ys:List Nat) (w:World) (hx:bi w A n c xs) (hy:bi w B m d ys) (hle:val ys<=val xs) (hs:n<=4294967296):
 Calls Tryz.prog 301 #[.slice A n c, .slice B m d] w (js (fun zs=>zs=digs (val xs-val ys)) w):=by
 have hnc:=hx.cap;have hc:=hx.lim;have hmd:=hy.cap;have hd:=hy.lim;have Hx:=Lib.hid hx;have Hy:=Lib.hid hy;have Hle:=Lib.hid hle;clear hx hy hle;have hmk:=eJ n n rfl O_;have hrow:=dy w (aF n);have hb0:Below w.heap.size w (w.alloc (du (aF n))):=(Below.refl _ _).alloc (l_ _) _;have Hrow:=Lib.hid hrow;have Hb0:=Lib.hid hb0;clear hrow hb0
 go_enter func301,ntmps301
 go_wp2_with fail
 go_loopw [6,7] (fun cr i wr=>∃(k cy:Nat) (zs:List Nat),k<=n/\i= .int .i64 k/\cr= .int .u64 cy/\cy<2 /\
  (Wd zs/\zs.length=n/\(∀j,k<=j->zs.getD j 0=0)/\val zs+val (ys.take k)=val (xs.take k)+4294967296^k*cy)/\eS wr w.heap.size zs/\Below w.heap.size w wr)
  (fun _ i _=>n-(intOf i).toNat)
 case atStart=>exact⟨0,0,aF n,Nat.zero_le _,rfl,rfl,by omega,⟨cH _,aO _,fun j _=>a6 _ _,by simp[val,aF,bv]⟩,Hrow.out,Hb0.out⟩
 case round=>
  obtain⟨k,cy,zs,hk,rfl,rfl,hcy,hv,hrow,hb⟩:=hrel;have hfr:=hrow.frozen k;have Hv:=Lib.hid hv;have Hb:=Lib.hid hb;have Hr:=Lib.hid hrow;clear hv hb hrow hmk
  by_cases hkn:k<n
  ·exact Wl
  ·obtain rfl:k=n:=O_
   have hkn':¬(k:Int)<k:=O_
   have hval:val zs=val xs-val ys:=pk Hv.out.1 Hv.out.2.1 Hx.out.len Hle.out Hx.out.wd Hv.out.2.2.2;have hw2:bi wr (some ⟨w.heap.size,0,none⟩) k k zs:=Hr.out.wrd' Hv.out.1 Hv.out.2.1 O_;have htr:trim zs=digs (val xs-val ys):=by unfold trim;rw[hval]
   have hw3:=hw2.trim;rw[htr]at hw3;have Hw2:=Lib.hid hw2;have Hw3:=Lib.hid hw3;have Htr:=Lib.hid htr;clear hval hw2 htr hw3;exact UU
end Go.Proofs.YtnchbpoopnjghaaGreatDoor
