/- cmp.Compare at int and uint32; compare of both packages. plus of both packages. plus of the reference. minus of both packages. -/
import Derived.Test.YtnchbpoopnjghaaGreatDoorHAb
set_option maxHeartbeats 100000000
set_option linter.all false
open Go.Proofs.Tryz
namespace Go.Proofs.YtnchbpoopnjghaaGreatDoor
open Go.RowKit
theorem o8 (a b:Int) (w:World):Calls Tryz.prog 234 #[.int .i64 a, .int .i64 b] w fun e w'=>e= .returned (.int .i64 (bI a b))/\w=w':=by
 have ha:(a != a)=false:=by simp
 have hb:(b != b)=false:=by simp
 by_cases h1:a<b
 ·have fin:bI a b= -1:=by unfold bI;rw[if_pos h1]
  exact QH
 ·by_cases h2:b<a
  ·have fin:bI a b=1:=by unfold bI;rw[if_neg h1,if_pos h2]
   exact QH
  ·have fin:bI a b=0:=by unfold bI;rw[if_neg h1,if_neg h2]
   exact QH
theorem qM (a b:Int) (w:World):Calls Tryz.prog 285 #[.int .u32 a, .int .u32 b] w fun e w'=>e= .returned (.int .i64 (bI a b))/\w=w':=by
 have ha:(a != a)=false:=by simp
 have hb:(b != b)=false:=by simp
 by_cases h1:a<b
 ·have fin:bI a b= -1:=by unfold bI;rw[if_pos h1]
  exact RE
 ·by_cases h2:b<a
  ·have fin:bI a b=1:=by unfold bI;rw[if_neg h1,if_pos h2]
   exact RE
  ·have fin:bI a b=0:=by unfold bI;rw[if_neg h1,if_neg h2]
   exact RE
def Us (z:Int) (w:World) (e:Ending) (w':World):Prop:=e= .returned (.int .i64 z)/\ ∃n,w'=w.drewN n
theorem j4 {xs ys:List Nat} (h:xs.length≠ys.length):ig xs ys=bI xs.length ys.length:=by unfold ig;rw[if_neg h]
theorem j7 {xs ys:List Nat} (h:xs.length=ys.length):ig xs ys=bI (val xs) (val ys):=by unfold ig;rw[if_pos h]
theorem kM (A B:Option Addr) (n m c d:Nat) (xs ys:List Nat) (w:World) (hx:ba w A n c xs) (hy:ba w B m d ys):
 Calls Tryz.prog 235 #[.slice A n c, .slice B m d] w (Us (ig xs ys) w):=by
 have hnc:=hx.cap;have hc:=hx.lim;have hmd:=hy.cap;have hd:=hy.lim;have Hx:=Lib.hid hx;have Hy:=Lib.hid hy;clear hx hy
 by_cases hnm:n=m
 ·subst hnm
  have hne:((n:Int) != n)=false:=by simp
  have hge:∀k:Nat,decide ((k:Int)-1>=0)=decide (0<k):=fun k=>by simp;omega
  clear hge
  go_enter func235,ntmps235
  go_wp2
  go_loopw [5] (fun i wr=>∃k:Nat,k<=n/\i= .int .i64 ((k:Int)-1)/\xs.drop k=ys.drop k/\ ∃q,wr=w.drewN q) (fun i _=>(intOf i+1).toNat)
  case atStart=>exact⟨n,Nat.le_refl _,rfl,by rw[List.drop_of_length_le (by rw[Hx.out.len];exact Nat.le_refl _),List.drop_of_length_le (by rw[Hy.out.len];exact Nat.le_refl _)],0,rfl⟩
  case round=>
   obtain⟨k,hk,rfl,hdr,q,rfl⟩:=hrel;have Hdr:=Lib.hid hdr;clear hdr
   by_cases h0:0<k
   ·obtain⟨b1,o1,rfl,_,hc1⟩:=Hx.out.at (by omega)
    obtain⟨b2,o2,rfl,_,hc2⟩:=Hy.out.at (by omega);have hc1:=hc1 (k-1) (by omega);have hc2:=hc2 (k-1) (by omega);have g1:(0:Int)<=(k:Int)-1:=by omega
    have g2:(k:Int)-1<n:=by omega
    obtain⟨x,hxx⟩:∃x,x=xs.getD (k-1) 0:=⟨_,rfl⟩;obtain⟨y,hyy⟩:∃y,y=ys.getD (k-1) 0:=⟨_,rfl⟩;rw[<- hxx]at hc1;rw[<- hyy]at hc2;have Hxx:=Lib.hid hxx;have Hyy:=Lib.hid hyy;clear hxx hyy
    by_cases hxy:x=y
    ·subst hxy
     have hne2:((x:Int) != x)=false:=by simp
     go_wp2
     go_quiet (fail)
     go_wp2
     go_roundw
     case rel=>exact⟨k-1,by omega,by go_num,by rw[bX xs k h0 (by rw[Hx.out.len];exact hk),bX ys k h0 (by rw[Hy.out.len];exact hk),Hdr.out,<- Hxx.out,<- Hyy.out],_,rfl⟩
     case measure=>simp[intOf];omega
    ·have hne2:((x:Int) != y)=true:=by rw[bne_iff_ne];omega
     have fin:bI x y=ig xs ys:=by
      rw[j7 (by rw[Hx.out.len,Hy.out.len])];rcases Nat.lt_or_gt_of_ne hxy with h|h
      ·rw[fG (by omega),fG]
       exact S4
      ·rw[jo (by omega),jo]
       exact SR
     have Hfin:=Lib.hid fin;clear fin
     go_wp2
     go_quiet (fail)
     go_wp2
     go_quiet ((go_at_call 285;exact re (qM _ _ _)))
     go_wp2
     go_ret
     exact⟨by rw[<- Hfin.out];rfl,_,Vh _ _ _ _⟩
   ·exact Tl
 ·have hne:((n:Int) != m)=true:=by rw[bne_iff_ne];omega
  have fin:bI n m=ig xs ys:=by rw[j4 (by rw[Hx.out.len,Hy.out.len];exact hnm),Hx.out.len,Hy.out.len]
  have Hfin:=Lib.hid fin;clear fin
  go_enter func235,ntmps235
  go_wp2_with (go_at_call 234;refine(o8 _ _ _).mono ?_;rintro e w' ⟨rfl,rfl⟩)
  go_ret
  exact⟨by rw[<- Hfin.out];rfl,0,rfl⟩
theorem rZ (A B:Option Addr) (n m c d:Nat) (xs ys:List Nat) (w:World) (hx:ba w A n c xs) (hy:ba w B m d ys):
 Calls Tryz.prog 222 #[.slice A n c, .slice B m d] w (Us (ig xs ys) w):=by
 have hnc:=hx.cap;have hc:=hx.lim;have hmd:=hy.cap;have hd:=hy.lim;have Hx:=Lib.hid hx;have Hy:=Lib.hid hy;clear hx hy
 by_cases hnm:n=m
 ·subst hnm
  have hne:((n:Int) != n)=false:=by simp
  have hge:∀k:Nat,decide ((k:Int)-1>=0)=decide (0<k):=fun k=>by simp;omega
  clear hge
  go_enter func222,ntmps222
  go_wp2
  go_loopw [5] (fun i wr=>∃k:Nat,k<=n/\i= .int .i64 ((k:Int)-1)/\xs.drop k=ys.drop k/\ ∃q,wr=w.drewN q) (fun i _=>(intOf i+1).toNat)
  case atStart=>exact⟨n,Nat.le_refl _,rfl,by rw[List.drop_of_length_le (by rw[Hx.out.len];exact Nat.le_refl _),List.drop_of_length_le (by rw[Hy.out.len];exact Nat.le_refl _)],0,rfl⟩
  case round=>
   obtain⟨k,hk,rfl,hdr,q,rfl⟩:=hrel;have Hdr:=Lib.hid hdr;clear hdr
   by_cases h0:0<k
   ·obtain⟨b1,o1,rfl,_,hc1⟩:=Hx.out.at (by omega)
    obtain⟨b2,o2,rfl,_,hc2⟩:=Hy.out.at (by omega);have hc1:=hc1 (k-1) (by omega);have hc2:=hc2 (k-1) (by omega);have g1:(0:Int)<=(k:Int)-1:=by omega
    have g2:(k:Int)-1<n:=by omega
    obtain⟨x,hxx⟩:∃x,x=xs.getD (k-1) 0:=⟨_,rfl⟩;obtain⟨y,hyy⟩:∃y,y=ys.getD (k-1) 0:=⟨_,rfl⟩;rw[<- hxx]at hc1;rw[<- hyy]at hc2;have Hxx:=Lib.hid hxx;have Hyy:=Lib.hid hyy;clear hxx hyy
    by_cases hxy:x=y
    ·subst hxy
     have hne2:¬(x:Int)<x:=by omega
     go_wp2
     go_quiet (fail)
     go_wp2
     go_quiet (fail)
     go_wp2
     go_roundw
     case rel=>exact⟨k-1,by omega,by go_num,by rw[bX xs k h0 (by rw[Hx.out.len];exact hk),bX ys k h0 (by rw[Hy.out.len];exact hk),Hdr.out,<- Hxx.out,<- Hyy.out],_,by first|exact Vh _ _ _ _|rfl⟩
     case measure=>simp[intOf];omega
    ·rcases Nat.lt_or_gt_of_ne hxy with h|h
     ·have fin:ig xs ys= -1:=by
       rw[j7 (by rw[Hx.out.len,Hy.out.len]),fG];exact S4
      have Hfin:=Lib.hid fin;clear fin;have h':(x:Int)<y:=by omega
      go_wp2
      go_quiet (fail)
      go_wp2
      go_ret
      exact⟨by rw[Hfin.out];rfl,_,VT _ _ _⟩
     ·have fin:ig xs ys=1:=by
       rw[j7 (by rw[Hx.out.len,Hy.out.len]),jo];exact SR
      have Hfin:=Lib.hid fin;clear fin;have h':(y:Int)<x:=by omega
      have h'':¬(x:Int)<y:=by omega
      go_wp2
      go_quiet (fail)
      go_wp2
      go_quiet (fail)
      go_wp2
      go_ret
      exact⟨by rw[Hfin.out];rfl,_,Vh _ _ _ _⟩
   ·exact Tl
 ·have hne:((n:Int) != m)=true:=by rw[bne_iff_ne];omega
  rcases Nat.lt_or_gt_of_ne hnm with h|h
  ·have fin:ig xs ys= -1:=by rw[j4 (by rw[Hx.out.len,Hy.out.len];exact hnm),Hx.out.len,Hy.out.len,fG (by omega)]
   have Hfin:=Lib.hid fin;clear fin;have h':(n:Int)<m:=by omega
   go_enter func222,ntmps222
   go_wp2
   go_ret
   exact⟨by rw[Hfin.out];rfl,0,rfl⟩
  ·have fin:ig xs ys=1:=by rw[j4 (by rw[Hx.out.len,Hy.out.len];exact hnm),Hx.out.len,Hy.out.len,jo (by omega)]
   have Hfin:=Lib.hid fin;clear fin;have h':¬(n:Int)<m:=by omega
   go_enter func222,ntmps222
   go_wp2
   go_ret
   exact⟨by rw[Hfin.out];rfl,0,rfl⟩
def iV (Φ:List Nat->Prop) (w:World) (e:Ending) (w':World):Prop:=∃A n c zs,e= .returned (.slice A n c)/\ba w' A n c zs/\Φ zs/\Below w.heap.size w w'
theorem gF {w:World} {base g n cap:Nat} {zs:List Nat} (h:w.ownsRow base 135 1 (.slice (some ⟨g,0,none⟩) n cap) n (zs.map bR)) (hw:Wd zs) (hn:n<=cap) (hc:cap<=9223372036854775807):
 ba w (some ⟨g,0,none⟩) n cap zs:=by
 have hl:zs.length=n:=by have:=h.1;simpa using this
 refine⟨hl,hn,hc,hw, .inr ⟨g,0,rfl,fun i v hv=>?_⟩,fun h=>by cases h⟩
 have hi:i<n:=by
  have:=(List.getElem?_eq_some_iff.1 hv).1;rw[List.length_map,hl]at this;exact this
 rw[Nat.zero_add,h.cellAt i (by omega)];exact hv
theorem FK (A B:Option Addr) (n m c d:Nat) (xs ys:List Nat) (w:World) (hx:ba w A n c xs) (hy:ba w B m d ys) (hnm:m<=n) (hs:n<=4294967296):
 Calls Tryz.prog 257 #[.slice A n c, .slice B m d] w (iV (fun zs=>val zs=val xs+val ys/\zs.length<=n+1/\(zs.length=n+1->4294967296^n<=val zs)) w):=by
 obtain⟨i0,hi,hz0,hz1,hz2⟩:=info_parts Tryz.infoU32;have hnc:=hx.cap;have hc:=hx.lim;have hmd:=hy.cap;have hd:=hy.lim;have Hx:=Lib.hid hx;have Hy:=Lib.hid hy;clear hx hy;have hlt:¬(n:Int)<m:=by omega
 go_enter func257,ntmps257
 go_wp2_with (at_make;refine wpList_make_own _ rfl _ _ 34 rfl w.heap.size 135 i0 (.int .u32 0) 1 underlying34 hi hz0 hz1 .i64 .i64 _ (n+1) rfl rfl (by omega) (by rw[hz2];omega) (by simp only[maxLen];omega) (Nat.le_refl _) ?_;intro w1 hown1 hg1)
 have hb1:Below w.heap.size w w1:=(Below.refl _ _).grown hg1 (Nat.le_refl _) (by simp);have Hb1:=Lib.hid hb1;clear hb1 hg1
 go_loopw [5,6,22] (fun v cr i wr=>∃(k cy:Nat) (zs:List Nat),k<=n/\i= .int .i64 k/\v= .slice (some ⟨w.heap.size,0,none⟩) k (n+1)/\cr= .int .u64 cy/\cy<2 /\
  (Wd zs/\val zs+4294967296^k*cy=val (xs.take k)+val (ys.take k))/\wr.ownsRow w.heap.size 135 1 (.slice (some ⟨w.heap.size,0,none⟩) k (n+1)) k (zs.map bR)/\Below w.heap.size w wr)
  (fun _ _ i _=>n-(intOf i).toNat)
 case atStart=>exact⟨0,0,[],Nat.zero_le _,rfl,rfl,rfl,by omega,⟨Wd.nil,by simp[val]⟩,hown1,Hb1.out⟩
 case round=>
  exact Vx
theorem EP (A B:Option Addr) (n m c d:Nat) (xs ys:List Nat) (w:World) (hx:ba w A n c xs) (hy:ba w B m d ys) (hnm:m<n) (hs:n<=4294967296):
 Calls Tryz.prog 257 #[.slice B m d, .slice A n c] w (iV (fun zs=>val zs=val xs+val ys/\zs.length<=n+1/\(zs.length=n+1->4294967296^n<=val zs)) w):=by
 obtain⟨i0,hi,hz0,hz1,hz2⟩:=info_parts Tryz.infoU32;have hnc:=hx.cap;have hc:=hx.lim;have hmd:=hy.cap;have hd:=hy.lim;have Hx:=Lib.hid hx;have Hy:=Lib.hid hy;clear hx hy;have hlt:(m:Int)<n:=by omega
 go_enter func257,ntmps257
 go_wp2_with (at_make;refine wpList_make_own _ rfl _ _ 34 rfl w.heap.size 135 i0 (.int .u32 0) 1 underlying34 hi hz0 hz1 .i64 .i64 _ (n+1) rfl rfl (by omega) (by rw[hz2];omega) (by simp only[maxLen];omega) (Nat.le_refl _) ?_;intro w1 hown1 hg1)
 have hb1:Below w.heap.size w w1:=(Below.refl _ _).grown hg1 (Nat.le_refl _) (by simp);have Hb1:=Lib.hid hb1;clear hb1 hg1
 go_loopw [5,6,22] (fun v cr i wr=>∃(k cy:Nat) (zs:List Nat),k<=n/\i= .int .i64 k/\v= .slice (some ⟨w.heap.size,0,none⟩) k (n+1)/\cr= .int .u64 cy/\cy<2 /\
  (Wd zs/\val zs+4294967296^k*cy=val (xs.take k)+val (ys.take k))/\wr.ownsRow w.heap.size 135 1 (.slice (some ⟨w.heap.size,0,none⟩) k (n+1)) k (zs.map bR)/\Below w.heap.size w wr)
  (fun _ _ i _=>n-(intOf i).toNat)
 case atStart=>exact⟨0,0,[],Nat.zero_le _,rfl,rfl,rfl,by omega,⟨Wd.nil,by simp[val]⟩,hown1,Hb1.out⟩
 case round=>
  exact Vx
theorem Cl {zs:List Nat} (hw:Wd zs) {k:Nat} (hk:zs.length<=k+1) (h1:zs.length=k+1->4294967296^k<=val zs) (h2:zs.length<=k->zs.length<=(digs (val zs)).length):zs=digs (val zs):=by
 have hl:(digs (val zs)).length<=zs.length:=aP (eP hw);refine D5 hw (ac _) (Nat.le_antisymm ?_ hl) (af _).symm;rcases Nat.lt_or_ge k zs.length with h|h
 ·refine Nat.le_of_not_lt fun h3=>?_
  have h4:=bP (n:=val zs) (k:=k) (by omega);have:=h1 (by omega);omega
 ·exact h2 h
theorem kr {a b:Nat} (h:a<=b):(digs a).length<=(digs b).length:=aP (Nat.lt_of_le_of_lt h (bP (Nat.le_refl _)))
theorem Nf (A B:Option Addr) (n m c d:Nat) (a b:Nat) (w:World) (hx:ba w A n c (digs a)) (hy:ba w B m d (digs b)) (h1:n<=4294967296) (h2:m<=4294967296):
 Calls Tryz.prog 257 #[.slice A n c, .slice B m d] w (iV (fun zs=>zs=digs (a+b)) w):=by
 have e1:=hx.len;have e2:=hy.len;rcases Nat.lt_or_ge n m with h|h
 ·refine(EP B A m n d c _ _ w hy hx h h2).mono ?_
  rintro e w' ⟨A',n',c',zs,rfl,hw,⟨h3,h4,h5⟩,hb⟩;rw[af,af,Nat.add_comm]at h3;refine⟨A',n',c',zs,rfl,hw,?_,hb⟩;rw[<- h3];exact Cl hw.wd h4 h5 fun h6=>Nat.le_trans h6 (by rw[h3,<- e2];exact kr (Nat.le_add_left _ _))
 ·refine(FK A B n m c d _ _ w hx hy h h1).mono ?_
  rintro e w' ⟨A',n',c',zs,rfl,hw,⟨h3,h4,h5⟩,hb⟩;rw[af,af]at h3;refine⟨A',n',c',zs,rfl,hw,?_,hb⟩;rw[<- h3];exact Cl hw.wd h4 h5 fun h6=>Nat.le_trans h6 (by rw[h3,<- e1];exact kr (Nat.le_add_right _ _))
theorem ek.wrd' {w:World} {g n:Nat} {zs:List Nat} (h:ek w g zs) (hw:Wd zs) (hl:zs.length=n) (hn:n<=9223372036854775807):ba w (some ⟨g,0,none⟩) n n zs:=by
 subst hl;exact h.wrd hw hn
theorem By (A B:Option Addr) (n m c d:Nat) (xs ys:List Nat) (w:World) (hx:ba w A n c xs) (hy:ba w B m d ys) (hnm:m<=n) (hs:n<=4294967296):
 Calls Tryz.prog 300 #[.slice A n c, .slice B m d] w (iV (fun zs=>zs=digs (val xs+val ys)) w):=by
 have hnc:=hx.cap;have hc:=hx.lim;have hmd:=hy.cap;have hd:=hy.lim;have Hx:=Lib.hid hx;have Hy:=Lib.hid hy;clear hx hy;have hlt:¬(n:Int)<m:=by omega
 have hmk:=eh (n+1) ((n:Int)+1) (by omega) (by omega);have hrow:=db w (az (n+1));have hb0:Below w.heap.size w (w.alloc (cY (az (n+1)))):=(Below.refl _ _).alloc (Nat.le_refl _) _;have Hrow:=Lib.hid hrow;have Hb0:=Lib.hid hb0;clear hrow hb0
 go_enter func300,ntmps300
 go_wp2_with fail
 go_loopw [6,7] (fun cr i wr=>∃(k cy:Nat) (zs:List Nat),k<=n/\i= .int .i64 k/\cr= .int .u64 cy/\cy<2 /\
  (Wd zs/\zs.length=n+1/\(∀j,k<=j->zs.getD j 0=0)/\val zs+4294967296^k*cy=val (xs.take k)+val (ys.take k))/\ek wr w.heap.size zs/\Below w.heap.size w wr)
  (fun _ i _=>n-(intOf i).toNat)
 case atStart=>exact⟨0,0,az (n+1),Nat.zero_le _,rfl,rfl,by omega,⟨b6 _,aN _,fun j _=>aX _ _,by simp[val,az,bi]⟩,Hrow.out,Hb0.out⟩
 case round=>
  exact VE
theorem Bl (A B:Option Addr) (n m c d:Nat) (xs ys:List Nat) (w:World) (hx:ba w A n c xs) (hy:ba w B m d ys) (hnm:m<n) (hs:n<=4294967296):
 Calls Tryz.prog 300 #[.slice B m d, .slice A n c] w (iV (fun zs=>zs=digs (val xs+val ys)) w):=by
 have hnc:=hx.cap;have hc:=hx.lim;have hmd:=hy.cap;have hd:=hy.lim;have Hx:=Lib.hid hx;have Hy:=Lib.hid hy;clear hx hy;have hlt:(m:Int)<n:=by omega
 have hmk:=eh (n+1) ((n:Int)+1) (by omega) (by omega);have hrow:=db w (az (n+1));have hb0:Below w.heap.size w (w.alloc (cY (az (n+1)))):=(Below.refl _ _).alloc (Nat.le_refl _) _;have Hrow:=Lib.hid hrow;have Hb0:=Lib.hid hb0;clear hrow hb0
 go_enter func300,ntmps300
 go_wp2_with fail
 go_loopw [6,7] (fun cr i wr=>∃(k cy:Nat) (zs:List Nat),k<=n/\i= .int .i64 k/\cr= .int .u64 cy/\cy<2 /\
  (Wd zs/\zs.length=n+1/\(∀j,k<=j->zs.getD j 0=0)/\val zs+4294967296^k*cy=val (xs.take k)+val (ys.take k))/\ek wr w.heap.size zs/\Below w.heap.size w wr)
  (fun _ i _=>n-(intOf i).toNat)
 case atStart=>exact⟨0,0,az (n+1),Nat.zero_le _,rfl,rfl,by omega,⟨b6 _,aN _,fun j _=>aX _ _,by simp[val,az,bi]⟩,Hrow.out,Hb0.out⟩
 case round=>
  exact VE
theorem K6 (A B:Option Addr) (n m c d:Nat) (xs ys:List Nat) (w:World) (hx:ba w A n c xs) (hy:ba w B m d ys) (h1:n<=4294967296) (h2:m<=4294967296):
 Calls Tryz.prog 300 #[.slice A n c, .slice B m d] w (iV (fun zs=>zs=digs (val xs+val ys)) w):=by
 rcases Nat.lt_or_ge n m with h|h
 ·have:=Bl B A m n d c ys xs w hy hx h h2
  rw[Nat.add_comm]at this;exact this
 ·exact By A B n m c d xs ys w hx hy h h1
theorem Kr (x y cy:Nat) (hx:x<4294967296) (hy:y<4294967296) (hc:cy<2):
 ∃d b:Nat,d<4294967296/\b<2/\IntKind.u64.wrap (IntKind.u64.wrap ((x:Int)-cy)-y)/9223372036854775808=b/\IntKind.u64.wrap (IntKind.u64.wrap ((x:Int)-cy)-y)%4294967296=d/\d+y+cy=x+4294967296*b:=by
 rw[IntKind.wrap_u64,IntKind.wrap_u64]
 by_cases h:y+cy<=x
 ·exact⟨x-y-cy,0,by omega,by omega,by omega,by omega,by omega⟩
 ·exact⟨x+4294967296-y-cy,1,by omega,by omega,by omega,by omega,by omega⟩
theorem FX (x cy:Nat) (hx:x<4294967296) (hc:cy<2):
 ∃d b:Nat,d<4294967296/\b<2/\IntKind.u64.wrap ((x:Int)-cy)/9223372036854775808=b/\IntKind.u64.wrap ((x:Int)-cy)%4294967296=d/\d+0+cy=x+4294967296*b:=by
 rw[IntKind.wrap_u64]
 by_cases h:cy<=x
 ·exact⟨x-cy,0,by omega,by omega,by omega,by omega,by omega⟩
 ·exact⟨x+4294967296-cy,1,by omega,by omega,by omega,by omega,by omega⟩
theorem uQ (x y cy:Nat) (hx:x<4294967296) (hy:y<4294967296) (hc:cy<2):
 ∃d b:Nat,d<4294967296/\b<2/\(1:Int)-((x:Int)+4294967296-y-cy)/4294967296=b/\((x:Int)+4294967296-y-cy)%4294967296=d/\d+y+cy=x+4294967296*b:=by
 by_cases h:y+cy<=x
 ·exact⟨x-y-cy,0,by omega,by omega,by omega,by omega,by omega⟩
 ·exact⟨x+4294967296-y-cy,1,by omega,by omega,by omega,by omega,by omega⟩
theorem M7 (A B:Option Addr) (n m c d:Nat) (xs ys:List Nat) (w:World) (hx:ba w A n c xs) (hy:ba w B m d ys) (hle:val ys<=val xs) (hs:n<=4294967296):
 Calls Tryz.prog 258 #[.slice A n c, .slice B m d] w (iV (fun zs=>zs=digs (val xs-val ys)) w):=by
 have hnc:=hx.cap;have hc:=hx.lim;have hmd:=hy.cap;have hd:=hy.lim;have Hx:=Lib.hid hx;have Hy:=Lib.hid hy;have Hle:=Lib.hid hle;clear hx hy hle;have hmk:=eh n n rfl (by omega);have hrow:=db w (az n);have hb0:Below w.heap.size w (w.alloc (cY (az n))):=(Below.refl _ _).alloc (Nat.le_refl _) _;have Hrow:=Lib.hid hrow;have Hb0:=Lib.hid hb0;clear hrow hb0
 go_enter func258,ntmps258
 go_wp2_with fail
 go_loopw [6,15] (fun cr i wr=>∃(k cy:Nat) (zs:List Nat),k<=n/\i= .int .i64 k/\cr= .int .u64 cy/\cy<2 /\
  (Wd zs/\zs.length=n/\(∀j,k<=j->zs.getD j 0=0)/\val zs+val (ys.take k)=val (xs.take k)+4294967296^k*cy)/\ek wr w.heap.size zs/\Below w.heap.size w wr)
  (fun _ i _=>n-(intOf i).toNat)
 case atStart=>exact⟨0,0,az n,Nat.zero_le _,rfl,rfl,by omega,⟨b6 _,aN _,fun j _=>aX _ _,by simp[val,az,bi]⟩,Hrow.out,Hb0.out⟩
 case round=>
  obtain⟨k,cy,zs,hk,rfl,rfl,hcy,hv,hrow,hb⟩:=hrel;have hfr:=hrow.frozen k;have Hv:=Lib.hid hv;have Hb:=Lib.hid hb;have Hr:=Lib.hid hrow;clear hv hb hrow hmk
  by_cases hkn:k<n
  ·have hcell:=Hr.out.cell k (by rw[Hv.out.2.1];omega)
   obtain⟨b1,o1,rfl,hbb1,hc1⟩:=Hx.out.at (by omega);have hc1:=(Hb.out.cell (p:=⟨b1,o1+k,none⟩) hbb1).trans (hc1 k hkn);have hx1:=Hx.out.wd.getD k;generalize hxx:xs.getD k 0=x at hc1 hx1;have Hxx:=Lib.hid hxx;clear hxx;have hkn':(k:Int)<n:=by omega
   by_cases hkm:k<m
   ·obtain⟨b2,o2,rfl,hbb2,hc2⟩:=Hy.out.at (by omega)
    have hc2:=(Hb.out.cell (p:=⟨b2,o2+k,none⟩) hbb2).trans (hc2 k hkm);have hy1:=Hy.out.wd.getD k;generalize hyy:ys.getD k 0=y at hc2 hy1;have Hyy:=Lib.hid hyy;clear hyy;have hkm':(k:Int)<m:=by omega
    clear hbb1 hbb2
    go_wp2_with fail
    go_roundw
    case rel=>
     obtain⟨dd,bb,g1,g2,g3,g4,g5⟩:=Kr x y cy hx1 hy1 hcy;exact VP
    case measure=>simp[intOf];omega
   ·have hkm':¬(k:Int)<m:=by omega
    have hyy:ys.getD k 0=0:=by rw[List.getD_eq_getElem?_getD,List.getElem?_eq_none (by rw[Hy.out.len];omega)];rfl
    have Hyy:=Lib.hid hyy;clear hyy hbb1
    go_wp2_with fail
    go_roundw
    case rel=>
     obtain⟨dd,bb,g1,g2,g3,g4,g5⟩:=FX x cy hx1 hcy;exact VP
    case measure=>simp[intOf];omega
  ·obtain rfl:k=n:=by omega
   have hkn':¬(k:Int)<k:=by omega
   have hval:val zs=val xs-val ys:=oq Hv.out.1 Hv.out.2.1 Hx.out.len Hle.out Hx.out.wd Hv.out.2.2.2;have hw2:ba wr (some ⟨w.heap.size,0,none⟩) k k zs:=Hr.out.wrd' Hv.out.1 Hv.out.2.1 (by omega);have htr:trim zs=digs (val xs-val ys):=by unfold trim;rw[hval]
   have hw3:=hw2.trim;rw[htr]at hw3;have Hw2:=Lib.hid hw2;have Hw3:=Lib.hid hw3;have Htr:=Lib.hid htr;clear hval hw2 htr hw3;exact SU
theorem G9 (A B:Option Addr) (n m c d:Nat) (xs ys:List Nat) (w:World) (hx:ba w A n c xs) (hy:ba w B m d ys) (hle:val ys<=val xs) (hs:n<=4294967296):
 Calls Tryz.prog 301 #[.slice A n c, .slice B m d] w (iV (fun zs=>zs=digs (val xs-val ys)) w):=by
 have hnc:=hx.cap;have hc:=hx.lim;have hmd:=hy.cap;have hd:=hy.lim;have Hx:=Lib.hid hx;have Hy:=Lib.hid hy;have Hle:=Lib.hid hle;clear hx hy hle;have hmk:=eh n n rfl (by omega);have hrow:=db w (az n);have hb0:Below w.heap.size w (w.alloc (cY (az n))):=(Below.refl _ _).alloc (Nat.le_refl _) _;have Hrow:=Lib.hid hrow;have Hb0:=Lib.hid hb0;clear hrow hb0
 go_enter func301,ntmps301
 go_wp2_with fail
 go_loopw [6,7] (fun cr i wr=>∃(k cy:Nat) (zs:List Nat),k<=n/\i= .int .i64 k/\cr= .int .u64 cy/\cy<2 /\
  (Wd zs/\zs.length=n/\(∀j,k<=j->zs.getD j 0=0)/\val zs+val (ys.take k)=val (xs.take k)+4294967296^k*cy)/\ek wr w.heap.size zs/\Below w.heap.size w wr)
  (fun _ i _=>n-(intOf i).toNat)
 case atStart=>exact⟨0,0,az n,Nat.zero_le _,rfl,rfl,by omega,⟨b6 _,aN _,fun j _=>aX _ _,by simp[val,az,bi]⟩,Hrow.out,Hb0.out⟩
 case round=>
  obtain⟨k,cy,zs,hk,rfl,rfl,hcy,hv,hrow,hb⟩:=hrel;have hfr:=hrow.frozen k;have Hv:=Lib.hid hv;have Hb:=Lib.hid hb;have Hr:=Lib.hid hrow;clear hv hb hrow hmk
  by_cases hkn:k<n
  ·exact VJ
  ·obtain rfl:k=n:=by omega
   have hkn':¬(k:Int)<k:=by omega
   have hval:val zs=val xs-val ys:=oq Hv.out.1 Hv.out.2.1 Hx.out.len Hle.out Hx.out.wd Hv.out.2.2.2;have hw2:ba wr (some ⟨w.heap.size,0,none⟩) k k zs:=Hr.out.wrd' Hv.out.1 Hv.out.2.1 (by omega);have htr:trim zs=digs (val xs-val ys):=by unfold trim;rw[hval]
   have hw3:=hw2.trim;rw[htr]at hw3;have Hw2:=Lib.hid hw2;have Hw3:=Lib.hid hw3;have Htr:=Lib.hid htr;clear hval hw2 htr hw3;exact T3
end Go.Proofs.YtnchbpoopnjghaaGreatDoor
