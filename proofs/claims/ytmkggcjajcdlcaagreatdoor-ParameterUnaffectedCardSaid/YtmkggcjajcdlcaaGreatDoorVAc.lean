/- cmp.Compare at int and uint32; compare of both packages. plus of both packages. plus of the reference. minus of both packages. -/
import Derived.Test.YtmkggcjajcdlcaaGreatDoorVAb
set_option maxHeartbeats 100000000
set_option linter.all false
open Go.Proofs.Tryz
namespace Go.Proofs.YtmkggcjajcdlcaaGreatDoor
open Go.RowKit
theorem oK (a b:Int) (w:World):Calls Tryz.prog 226 #[.int .i64 a, .int .i64 b] w fun e w'=>e= .returned (.int .i64 (bL a b))/\w=w':=by
 have ha:(a != a)=false:=by simp
 have hb:(b != b)=false:=by simp
 by_cases h1:a<b
 ·have fin:bL a b= -1:=by unfold bL;rw[if_pos h1]
  exact OS
 ·by_cases h2:b<a
  ·have fin:bL a b=1:=by unfold bL;rw[if_neg h1,if_pos h2]
   exact OS
  ·have fin:bL a b=0:=by unfold bL;rw[if_neg h1,if_neg h2]
   exact OS
theorem qA (a b:Int) (w:World):Calls Tryz.prog 253 #[.int .u32 a, .int .u32 b] w fun e w'=>e= .returned (.int .i64 (bL a b))/\w=w':=by
 have ha:(a != a)=false:=by simp
 have hb:(b != b)=false:=by simp
 by_cases h1:a<b
 ·have fin:bL a b= -1:=by unfold bL;rw[if_pos h1]
  exact Ov
 ·by_cases h2:b<a
  ·have fin:bL a b=1:=by unfold bL;rw[if_neg h1,if_pos h2]
   exact Ov
  ·have fin:bL a b=0:=by unfold bL;rw[if_neg h1,if_neg h2]
   exact Ov
def QQ (z:Int) (w:World) (e:Ending) (w':World):Prop:=e= .returned (.int .i64 z)/\ ∃n,w'=w.drewN n
theorem jJ {xs ys:List Nat} (h:xs.length≠ys.length):ic xs ys=bL xs.length ys.length:=by unfold ic;rw[if_neg h]
theorem kg {xs ys:List Nat} (h:xs.length=ys.length):ic xs ys=bL (val xs) (val ys):=by unfold ic;rw[if_pos h]
theorem fR (A B:Option Addr) (n m c d:Nat) (xs ys:List Nat) (w:World) (hx:aC w A n c xs) (hy:aC w B m d ys):
 Calls Tryz.prog 202 #[.slice A n c, .slice B m d] w (QQ (ic xs ys) w):=by
 have hnc:=hx.cap;have hc:=hx.lim;have hmd:=hy.cap;have hd:=hy.lim;have Hx:=Lib.hid hx;have Hy:=Lib.hid hy;clear hx hy
 by_cases hnm:n=m
 ·subst hnm
  have hne:((n:Int) != n)=false:=by simp
  have hge:∀k:Nat,decide ((k:Int)-1>=0)=decide (0<k):=fun k=>by simp;omega
  clear hge
  go_enter func202,ntmps202
  go_wp2
  go_loopw [5] (fun i wr=>∃k:Nat,k<=n/\i= .int .i64 ((k:Int)-1)/\xs.drop k=ys.drop k/\ ∃q,wr=w.drewN q) (fun i _=>(intOf i+1).toNat)
  case atStart=>exact⟨n,Nat.le_refl _,rfl,by rw[List.drop_of_length_le (by rw[Hx.out.len];exact Nat.le_refl _),List.drop_of_length_le (by rw[Hy.out.len];exact Nat.le_refl _)],0,rfl⟩
  case round=>
   obtain⟨k,hk,rfl,hdr,q,rfl⟩:=hrel;have Hdr:=Lib.hid hdr;clear hdr
   by_cases h0:0<k
   ·obtain⟨b1,o1,rfl,_,hc1⟩:=Hx.out.at (by omega)
    obtain⟨b2,o2,rfl,_,hc2⟩:=Hy.out.at (by omega);have hc1:=hc1 (k-1) (by omega);have hc2:=hc2 (k-1) (by omega);have g1:(0:Int)<=(k:Int)-1:=by omega
    have g2:(k:Int)-1<n:=by omega
    obtain⟨x,hxx⟩:∃x,x=xs.getD (k-1) 0:=⟨_,rfl⟩;obtain⟨y,hyy⟩:∃y,y=ys.getD (k-1) 0:=⟨_,rfl⟩;rw[<- hxx]at hc1;rw[<- hyy]at hc2;have Hxx:=Lib.hid hxx;have Hyy:=Lib.hid hyy;clear hxx hyy
    by_cases hxy:x=y
    ·subst hxy
     have hne2:((x:Int) != x)=false:=by simp
     go_wp2
     go_quiet (fail)
     go_wp2
     go_roundw
     case rel=>exact⟨k-1,by omega,by go_num,by rw[cH xs k h0 (by rw[Hx.out.len];exact hk),cH ys k h0 (by rw[Hy.out.len];exact hk),Hdr.out,<- Hxx.out,<- Hyy.out],_,rfl⟩
     case measure=>simp[intOf];omega
    ·have hne2:((x:Int) != y)=true:=by rw[bne_iff_ne];omega
     have fin:bL x y=ic xs ys:=by
      rw[kg (by rw[Hx.out.len,Hy.out.len])];rcases Nat.lt_or_gt_of_ne hxy with h|h
      ·rw[eV (by omega),eV]
       exact Qy
      ·rw[jf (by omega),jf]
       exact RW
     have Hfin:=Lib.hid fin;clear fin
     go_wp2
     go_quiet (fail)
     go_wp2
     go_quiet ((go_at_call 253;exact rR (qA _ _ _)))
     go_wp2
     go_ret
     exact⟨by rw[<- Hfin.out];rfl,_,SM _ _ _ _⟩
   ·exact Rg
 ·have hne:((n:Int) != m)=true:=by rw[bne_iff_ne];omega
  have fin:bL n m=ic xs ys:=by rw[jJ (by rw[Hx.out.len,Hy.out.len];exact hnm),Hx.out.len,Hy.out.len]
  have Hfin:=Lib.hid fin;clear fin
  go_enter func202,ntmps202
  go_wp2_with (go_at_call 226;refine(oK _ _ _).mono ?_;rintro e w' ⟨rfl,rfl⟩)
  go_ret
  exact⟨by rw[<- Hfin.out];rfl,0,rfl⟩
theorem l8 (A B:Option Addr) (n m c d:Nat) (xs ys:List Nat) (w:World) (hx:aC w A n c xs) (hy:aC w B m d ys):
 Calls Tryz.prog 160 #[.slice A n c, .slice B m d] w (QQ (ic xs ys) w):=by
 have hnc:=hx.cap;have hc:=hx.lim;have hmd:=hy.cap;have hd:=hy.lim;have Hx:=Lib.hid hx;have Hy:=Lib.hid hy;clear hx hy
 by_cases hnm:n=m
 ·subst hnm
  have hne:((n:Int) != n)=false:=by simp
  have hge:∀k:Nat,decide ((k:Int)-1>=0)=decide (0<k):=fun k=>by simp;omega
  clear hge
  go_enter func160,ntmps160
  go_wp2
  go_loopw [5] (fun i wr=>∃k:Nat,k<=n/\i= .int .i64 ((k:Int)-1)/\xs.drop k=ys.drop k/\ ∃q,wr=w.drewN q) (fun i _=>(intOf i+1).toNat)
  case atStart=>exact⟨n,Nat.le_refl _,rfl,by rw[List.drop_of_length_le (by rw[Hx.out.len];exact Nat.le_refl _),List.drop_of_length_le (by rw[Hy.out.len];exact Nat.le_refl _)],0,rfl⟩
  case round=>
   obtain⟨k,hk,rfl,hdr,q,rfl⟩:=hrel;have Hdr:=Lib.hid hdr;clear hdr
   by_cases h0:0<k
   ·obtain⟨b1,o1,rfl,_,hc1⟩:=Hx.out.at (by omega)
    obtain⟨b2,o2,rfl,_,hc2⟩:=Hy.out.at (by omega);have hc1:=hc1 (k-1) (by omega);have hc2:=hc2 (k-1) (by omega);have g1:(0:Int)<=(k:Int)-1:=by omega
    have g2:(k:Int)-1<n:=by omega
    obtain⟨x,hxx⟩:∃x,x=xs.getD (k-1) 0:=⟨_,rfl⟩;obtain⟨y,hyy⟩:∃y,y=ys.getD (k-1) 0:=⟨_,rfl⟩;rw[<- hxx]at hc1;rw[<- hyy]at hc2;have Hxx:=Lib.hid hxx;have Hyy:=Lib.hid hyy;clear hxx hyy
    by_cases hxy:x=y
    ·subst hxy
     have hne2:¬(x:Int)<x:=by omega
     go_wp2
     go_quiet (fail)
     go_wp2
     go_quiet (fail)
     go_wp2
     go_roundw
     case rel=>exact⟨k-1,by omega,by go_num,by rw[cH xs k h0 (by rw[Hx.out.len];exact hk),cH ys k h0 (by rw[Hy.out.len];exact hk),Hdr.out,<- Hxx.out,<- Hyy.out],_,by first|exact SM _ _ _ _|rfl⟩
     case measure=>simp[intOf];omega
    ·rcases Nat.lt_or_gt_of_ne hxy with h|h
     ·have fin:ic xs ys= -1:=by
       rw[kg (by rw[Hx.out.len,Hy.out.len]),eV];exact Qy
      have Hfin:=Lib.hid fin;clear fin;have h':(x:Int)<y:=by omega
      go_wp2
      go_quiet (fail)
      go_wp2
      go_ret
      exact⟨by rw[Hfin.out];rfl,_,Th _ _ _⟩
     ·have fin:ic xs ys=1:=by
       rw[kg (by rw[Hx.out.len,Hy.out.len]),jf];exact RW
      have Hfin:=Lib.hid fin;clear fin;have h':(y:Int)<x:=by omega
      have h'':¬(x:Int)<y:=by omega
      go_wp2
      go_quiet (fail)
      go_wp2
      go_quiet (fail)
      go_wp2
      go_ret
      exact⟨by rw[Hfin.out];rfl,_,SM _ _ _ _⟩
   ·exact Rg
 ·have hne:((n:Int) != m)=true:=by rw[bne_iff_ne];omega
  rcases Nat.lt_or_gt_of_ne hnm with h|h
  ·have fin:ic xs ys= -1:=by rw[jJ (by rw[Hx.out.len,Hy.out.len];exact hnm),Hx.out.len,Hy.out.len,eV (by omega)]
   have Hfin:=Lib.hid fin;clear fin;have h':(n:Int)<m:=by omega
   go_enter func160,ntmps160
   go_wp2
   go_ret
   exact⟨by rw[Hfin.out];rfl,0,rfl⟩
  ·have fin:ic xs ys=1:=by rw[jJ (by rw[Hx.out.len,Hy.out.len];exact hnm),Hx.out.len,Hy.out.len,jf (by omega)]
   have Hfin:=Lib.hid fin;clear fin;have h':¬(n:Int)<m:=by omega
   go_enter func160,ntmps160
   go_wp2
   go_ret
   exact⟨by rw[Hfin.out];rfl,0,rfl⟩
def jz (Φ:List Nat->Prop) (w:World) (e:Ending) (w':World):Prop:=∃A n c zs,e= .returned (.slice A n c)/\aC w' A n c zs/\Φ zs/\Below w.heap.size w w'
theorem g8 {w:World} {base g n cap:Nat} {zs:List Nat} (h:w.ownsRow base 133 1 (.slice (some ⟨g,0,none⟩) n cap) n (zs.map dh)) (hw:Wd zs) (hn:n<=cap) (hc:cap<=9223372036854775807):
 aC w (some ⟨g,0,none⟩) n cap zs:=by
 have hl:zs.length=n:=by have:=h.1;simpa using this
 refine⟨hl,hn,hc,hw, .inr ⟨g,0,rfl,fun i v hv=>?_⟩,fun h=>by cases h⟩
 have hi:i<n:=by
  have:=(List.getElem?_eq_some_iff.1 hv).1;rw[List.length_map,hl]at this;exact this
 rw[Nat.zero_add,h.cellAt i (by omega)];exact hv
theorem DI (A B:Option Addr) (n m c d:Nat) (xs ys:List Nat) (w:World) (hx:aC w A n c xs) (hy:aC w B m d ys) (hnm:m<=n) (hs:n<=4294967296):
 Calls Tryz.prog 201 #[.slice A n c, .slice B m d] w (jz (fun zs=>val zs=val xs+val ys/\zs.length<=n+1) w):=by
 obtain⟨i0,hi,hz0,hz1,hz2⟩:=info_parts Tryz.infoU32;have hnc:=hx.cap;have hc:=hx.lim;have hmd:=hy.cap;have hd:=hy.lim;have Hx:=Lib.hid hx;have Hy:=Lib.hid hy;clear hx hy;have hlt:¬(n:Int)<m:=by omega
 go_enter func201,ntmps201
 go_wp2_with (at_make;refine wpList_make_own _ rfl _ _ 34 rfl w.heap.size 133 i0 (.int .u32 0) 1 underlying34 hi hz0 hz1 .i64 .i64 _ (n+1) rfl rfl (by omega) (by rw[hz2];omega) (by simp only[maxLen];omega) (Nat.le_refl _) ?_;intro w1 hown1 hg1)
 have hb1:Below w.heap.size w w1:=(Below.refl _ _).grown hg1 (Nat.le_refl _) (by simp);have Hb1:=Lib.hid hb1;clear hb1 hg1
 go_loopw [5,6,22] (fun v cr i wr=>∃(k cy:Nat) (zs:List Nat),k<=n/\i= .int .i64 k/\v= .slice (some ⟨w.heap.size,0,none⟩) k (n+1)/\cr= .int .u64 cy/\cy<2 /\
  (Wd zs/\val zs+4294967296^k*cy=val (xs.take k)+val (ys.take k))/\wr.ownsRow w.heap.size 133 1 (.slice (some ⟨w.heap.size,0,none⟩) k (n+1)) k (zs.map dh)/\Below w.heap.size w wr)
  (fun _ _ i _=>n-(intOf i).toNat)
 case atStart=>exact⟨0,0,[],Nat.zero_le _,rfl,rfl,rfl,by omega,⟨Wd.nil,by simp[val]⟩,hown1,Hb1.out⟩
 case round=>
  exact Tf
theorem ED (A B:Option Addr) (n m c d:Nat) (xs ys:List Nat) (w:World) (hx:aC w A n c xs) (hy:aC w B m d ys) (hnm:m<n) (hs:n<=4294967296):
 Calls Tryz.prog 201 #[.slice B m d, .slice A n c] w (jz (fun zs=>val zs=val xs+val ys/\zs.length<=n+1) w):=by
 obtain⟨i0,hi,hz0,hz1,hz2⟩:=info_parts Tryz.infoU32;have hnc:=hx.cap;have hc:=hx.lim;have hmd:=hy.cap;have hd:=hy.lim;have Hx:=Lib.hid hx;have Hy:=Lib.hid hy;clear hx hy;have hlt:(m:Int)<n:=by omega
 go_enter func201,ntmps201
 go_wp2_with (at_make;refine wpList_make_own _ rfl _ _ 34 rfl w.heap.size 133 i0 (.int .u32 0) 1 underlying34 hi hz0 hz1 .i64 .i64 _ (n+1) rfl rfl (by omega) (by rw[hz2];omega) (by simp only[maxLen];omega) (Nat.le_refl _) ?_;intro w1 hown1 hg1)
 have hb1:Below w.heap.size w w1:=(Below.refl _ _).grown hg1 (Nat.le_refl _) (by simp);have Hb1:=Lib.hid hb1;clear hb1 hg1
 go_loopw [5,6,22] (fun v cr i wr=>∃(k cy:Nat) (zs:List Nat),k<=n/\i= .int .i64 k/\v= .slice (some ⟨w.heap.size,0,none⟩) k (n+1)/\cr= .int .u64 cy/\cy<2 /\
  (Wd zs/\val zs+4294967296^k*cy=val (xs.take k)+val (ys.take k))/\wr.ownsRow w.heap.size 133 1 (.slice (some ⟨w.heap.size,0,none⟩) k (n+1)) k (zs.map dh)/\Below w.heap.size w wr)
  (fun _ _ i _=>n-(intOf i).toNat)
 case atStart=>exact⟨0,0,[],Nat.zero_le _,rfl,rfl,rfl,by omega,⟨Wd.nil,by simp[val]⟩,hown1,Hb1.out⟩
 case round=>
  exact Tf
theorem G0 (A B:Option Addr) (n m c d:Nat) (xs ys:List Nat) (w:World) (hx:aC w A n c xs) (hy:aC w B m d ys) (h1:n<=4294967296) (h2:m<=4294967296):
 Calls Tryz.prog 201 #[.slice A n c, .slice B m d] w (jz (fun zs=>val zs=val xs+val ys/\zs.length<=max n m+1) w):=by
 rcases Nat.lt_or_ge n m with h|h
 ·refine(ED B A m n d c ys xs w hy hx h h2).mono ?_
  exact Rl
 ·refine(DI A B n m c d xs ys w hx hy h h1).mono ?_
  exact Rl
theorem eJ.wrd' {w:World} {g n:Nat} {zs:List Nat} (h:eJ w g zs) (hw:Wd zs) (hl:zs.length=n) (hn:n<=9223372036854775807):aC w (some ⟨g,0,none⟩) n n zs:=by
 subst hl;exact h.wrd hw hn
theorem zD (A B:Option Addr) (n m c d:Nat) (xs ys:List Nat) (w:World) (hx:aC w A n c xs) (hy:aC w B m d ys) (hnm:m<=n) (hs:n<=4294967296):
 Calls Tryz.prog 252 #[.slice A n c, .slice B m d] w (jz (fun zs=>zs=digs (val xs+val ys)) w):=by
 have hnc:=hx.cap;have hc:=hx.lim;have hmd:=hy.cap;have hd:=hy.lim;have Hx:=Lib.hid hx;have Hy:=Lib.hid hy;clear hx hy;have hlt:¬(n:Int)<m:=by omega
 have hmk:=eI (n+1) ((n:Int)+1) (by omega) (by omega);have hrow:=dA w (az (n+1));have hb0:Below w.heap.size w (w.alloc (dt (az (n+1)))):=(Below.refl _ _).alloc (Nat.le_refl _) _;have Hrow:=Lib.hid hrow;have Hb0:=Lib.hid hb0;clear hrow hb0
 go_enter func252,ntmps252
 go_wp2_with fail
 go_loopw [6,7] (fun cr i wr=>∃(k cy:Nat) (zs:List Nat),k<=n/\i= .int .i64 k/\cr= .int .u64 cy/\cy<2 /\
  (Wd zs/\zs.length=n+1/\(∀j,k<=j->zs.getD j 0=0)/\val zs+4294967296^k*cy=val (xs.take k)+val (ys.take k))/\eJ wr w.heap.size zs/\Below w.heap.size w wr)
  (fun _ i _=>n-(intOf i).toNat)
 case atStart=>exact⟨0,0,az (n+1),Nat.zero_le _,rfl,rfl,by omega,⟨cJ _,aS _,fun j _=>a6 _ _,by simp[val,az,bn]⟩,Hrow.out,Hb0.out⟩
 case round=>
  exact SX
theorem zJ (A B:Option Addr) (n m c d:Nat) (xs ys:List Nat) (w:World) (hx:aC w A n c xs) (hy:aC w B m d ys) (hnm:m<n) (hs:n<=4294967296):
 Calls Tryz.prog 252 #[.slice B m d, .slice A n c] w (jz (fun zs=>zs=digs (val xs+val ys)) w):=by
 have hnc:=hx.cap;have hc:=hx.lim;have hmd:=hy.cap;have hd:=hy.lim;have Hx:=Lib.hid hx;have Hy:=Lib.hid hy;clear hx hy;have hlt:(m:Int)<n:=by omega
 have hmk:=eI (n+1) ((n:Int)+1) (by omega) (by omega);have hrow:=dA w (az (n+1));have hb0:Below w.heap.size w (w.alloc (dt (az (n+1)))):=(Below.refl _ _).alloc (Nat.le_refl _) _;have Hrow:=Lib.hid hrow;have Hb0:=Lib.hid hb0;clear hrow hb0
 go_enter func252,ntmps252
 go_wp2_with fail
 go_loopw [6,7] (fun cr i wr=>∃(k cy:Nat) (zs:List Nat),k<=n/\i= .int .i64 k/\cr= .int .u64 cy/\cy<2 /\
  (Wd zs/\zs.length=n+1/\(∀j,k<=j->zs.getD j 0=0)/\val zs+4294967296^k*cy=val (xs.take k)+val (ys.take k))/\eJ wr w.heap.size zs/\Below w.heap.size w wr)
  (fun _ i _=>n-(intOf i).toNat)
 case atStart=>exact⟨0,0,az (n+1),Nat.zero_le _,rfl,rfl,by omega,⟨cJ _,aS _,fun j _=>a6 _ _,by simp[val,az,bn]⟩,Hrow.out,Hb0.out⟩
 case round=>
  exact SX
theorem KV (A B:Option Addr) (n m c d:Nat) (xs ys:List Nat) (w:World) (hx:aC w A n c xs) (hy:aC w B m d ys) (h1:n<=4294967296) (h2:m<=4294967296):
 Calls Tryz.prog 252 #[.slice A n c, .slice B m d] w (jz (fun zs=>zs=digs (val xs+val ys)) w):=by
 rcases Nat.lt_or_ge n m with h|h
 ·have:=zJ B A m n d c ys xs w hy hx h h2
  rw[Nat.add_comm]at this;exact this
 ·exact zD A B n m c d xs ys w hx hy h h1
theorem F3 (x y cy:Nat) (hx:x<4294967296) (hy:y<4294967296) (hc:cy<2):
 ∃d b:Nat,d<4294967296/\b<2/\IntKind.u64.wrap (IntKind.u64.wrap ((x:Int)-cy)-y)/9223372036854775808=b/\IntKind.u64.wrap (IntKind.u64.wrap ((x:Int)-cy)-y)%4294967296=d/\d+y+cy=x+4294967296*b:=by
 rw[IntKind.wrap_u64,IntKind.wrap_u64]
 by_cases h:y+cy<=x
 ·exact⟨x-y-cy,0,by omega,by omega,by omega,by omega,by omega⟩
 ·exact⟨x+4294967296-y-cy,1,by omega,by omega,by omega,by omega,by omega⟩
theorem EW (x cy:Nat) (hx:x<4294967296) (hc:cy<2):
 ∃d b:Nat,d<4294967296/\b<2/\IntKind.u64.wrap ((x:Int)-cy)/9223372036854775808=b/\IntKind.u64.wrap ((x:Int)-cy)%4294967296=d/\d+0+cy=x+4294967296*b:=by
 rw[IntKind.wrap_u64]
 by_cases h:cy<=x
 ·exact⟨x-cy,0,by omega,by omega,by omega,by omega,by omega⟩
 ·exact⟨x+4294967296-cy,1,by omega,by omega,by omega,by omega,by omega⟩
theorem ua (x y cy:Nat) (hx:x<4294967296) (hy:y<4294967296) (hc:cy<2):
 ∃d b:Nat,d<4294967296/\b<2/\(1:Int)-((x:Int)+4294967296-y-cy)/4294967296=b/\((x:Int)+4294967296-y-cy)%4294967296=d/\d+y+cy=x+4294967296*b:=by
 by_cases h:y+cy<=x
 ·exact⟨x-y-cy,0,by omega,by omega,by omega,by omega,by omega⟩
 ·exact⟨x+4294967296-y-cy,1,by omega,by omega,by omega,by omega,by omega⟩
theorem vE (A B:Option Addr) (n m c d:Nat) (xs ys:List Nat) (w:World) (hx:aC w A n c xs) (hy:aC w B m d ys) (hle:val ys<=val xs) (hs:n<=4294967296):
 Calls Tryz.prog 203 #[.slice A n c, .slice B m d] w (jz (fun zs=>zs=digs (val xs-val ys)) w):=by
 have hnc:=hx.cap;have hc:=hx.lim;have hmd:=hy.cap;have hd:=hy.lim;have Hx:=Lib.hid hx;have Hy:=Lib.hid hy;have Hle:=Lib.hid hle;clear hx hy hle;have hmk:=eI n n rfl (by omega);have hrow:=dA w (az n);have hb0:Below w.heap.size w (w.alloc (dt (az n))):=(Below.refl _ _).alloc (Nat.le_refl _) _;have Hrow:=Lib.hid hrow;have Hb0:=Lib.hid hb0;clear hrow hb0
 go_enter func203,ntmps203
 go_wp2_with fail
 go_loopw [6,15] (fun cr i wr=>∃(k cy:Nat) (zs:List Nat),k<=n/\i= .int .i64 k/\cr= .int .u64 cy/\cy<2 /\
  (Wd zs/\zs.length=n/\(∀j,k<=j->zs.getD j 0=0)/\val zs+val (ys.take k)=val (xs.take k)+4294967296^k*cy)/\eJ wr w.heap.size zs/\Below w.heap.size w wr)
  (fun _ i _=>n-(intOf i).toNat)
 case atStart=>exact⟨0,0,az n,Nat.zero_le _,rfl,rfl,by omega,⟨cJ _,aS _,fun j _=>a6 _ _,by simp[val,az,bn]⟩,Hrow.out,Hb0.out⟩
 case round=>
  obtain⟨k,cy,zs,hk,rfl,rfl,hcy,hv,hrow,hb⟩:=hrel;have hfr:=hrow.frozen k;have Hv:=Lib.hid hv;have Hb:=Lib.hid hb;have Hr:=Lib.hid hrow;clear hv hb hrow hmk
  by_cases hkn:k<n
  ·have hcell:=Hr.out.cell k (by rw[Hv.out.2.1];omega)
   obtain⟨b1,o1,rfl,hbb1,hc1⟩:=Hx.out.at (by omega);have hc1:=(Hb.out.cell (p:=⟨b1,o1+k,none⟩) hbb1).trans (hc1 k hkn);have hx1:=Hx.out.wd.getD k;generalize hxx:xs.getD k 0=x at hc1 hx1;have Hxx:=Lib.hid hxx;clear hxx;have hkn':(k:Int)<n:=by omega
   by_cases hkm:k<m
   ·obtain⟨b2,o2,rfl,hbb2,hc2⟩:=Hy.out.at (by omega)
    have hc2:=(Hb.out.cell (p:=⟨b2,o2+k,none⟩) hbb2).trans (hc2 k hkm);have hy1:=Hy.out.wd.getD k;generalize hyy:ys.getD k 0=y at hc2 hy1;have Hyy:=Lib.hid hyy;clear hyy;have hkm':(k:Int)<m:=by omega
    clear hbb1 hbb2
    go_wp2_with fail
    go_roundw
    case rel=>
     obtain⟨dd,bb,g1,g2,g3,g4,g5⟩:=F3 x y cy hx1 hy1 hcy;exact S7
    case measure=>simp[intOf];omega
   ·have hkm':¬(k:Int)<m:=by omega
    have hyy:ys.getD k 0=0:=by rw[List.getD_eq_getElem?_getD,List.getElem?_eq_none (by rw[Hy.out.len];omega)];rfl
    have Hyy:=Lib.hid hyy;clear hyy hbb1
    go_wp2_with fail
    go_roundw
    case rel=>
     obtain⟨dd,bb,g1,g2,g3,g4,g5⟩:=EW x cy hx1 hcy;exact S7
    case measure=>simp[intOf];omega
  ·obtain rfl:k=n:=by omega
   have hkn':¬(k:Int)<k:=by omega
   have hval:val zs=val xs-val ys:=ox Hv.out.1 Hv.out.2.1 Hx.out.len Hle.out Hx.out.wd Hv.out.2.2.2;have hw2:aC wr (some ⟨w.heap.size,0,none⟩) k k zs:=Hr.out.wrd' Hv.out.1 Hv.out.2.1 (by omega);have htr:trim zs=digs (val xs-val ys):=by unfold trim;rw[hval]
   have hw3:=hw2.trim;rw[htr]at hw3;have Hw2:=Lib.hid hw2;have Hw3:=Lib.hid hw3;have Htr:=Lib.hid htr;clear hval hw2 htr hw3;exact QY
theorem yB (A B:Option Addr) (n m c d:Nat) (xs ys:List Nat) (w:World) (hx:aC w A n c xs) (hy:aC w B m d ys) (hle:val ys<=val xs) (hs:n<=4294967296):
 Calls Tryz.prog 232 #[.slice A n c, .slice B m d] w (jz (fun zs=>zs=digs (val xs-val ys)) w):=by
 have hnc:=hx.cap;have hc:=hx.lim;have hmd:=hy.cap;have hd:=hy.lim;have Hx:=Lib.hid hx;have Hy:=Lib.hid hy;have Hle:=Lib.hid hle;clear hx hy hle;have hmk:=eI n n rfl (by omega);have hrow:=dA w (az n);have hb0:Below w.heap.size w (w.alloc (dt (az n))):=(Below.refl _ _).alloc (Nat.le_refl _) _;have Hrow:=Lib.hid hrow;have Hb0:=Lib.hid hb0;clear hrow hb0
 go_enter func232,ntmps232
 go_wp2_with fail
 go_loopw [6,7] (fun cr i wr=>∃(k cy:Nat) (zs:List Nat),k<=n/\i= .int .i64 k/\cr= .int .u64 cy/\cy<2 /\
  (Wd zs/\zs.length=n/\(∀j,k<=j->zs.getD j 0=0)/\val zs+val (ys.take k)=val (xs.take k)+4294967296^k*cy)/\eJ wr w.heap.size zs/\Below w.heap.size w wr)
  (fun _ i _=>n-(intOf i).toNat)
 case atStart=>exact⟨0,0,az n,Nat.zero_le _,rfl,rfl,by omega,⟨cJ _,aS _,fun j _=>a6 _ _,by simp[val,az,bn]⟩,Hrow.out,Hb0.out⟩
 case round=>
  obtain⟨k,cy,zs,hk,rfl,rfl,hcy,hv,hrow,hb⟩:=hrel;have hfr:=hrow.frozen k;have Hv:=Lib.hid hv;have Hb:=Lib.hid hb;have Hr:=Lib.hid hrow;clear hv hb hrow hmk
  by_cases hkn:k<n
  ·exact S9
  ·obtain rfl:k=n:=by omega
   have hkn':¬(k:Int)<k:=by omega
   have hval:val zs=val xs-val ys:=ox Hv.out.1 Hv.out.2.1 Hx.out.len Hle.out Hx.out.wd Hv.out.2.2.2;have hw2:aC wr (some ⟨w.heap.size,0,none⟩) k k zs:=Hr.out.wrd' Hv.out.1 Hv.out.2.1 (by omega);have htr:trim zs=digs (val xs-val ys):=by unfold trim;rw[hval]
   have hw3:=hw2.trim;rw[htr]at hw3;have Hw2:=Lib.hid hw2;have Hw3:=Lib.hid hw3;have Htr:=Lib.hid htr;clear hval hw2 htr hw3;exact PN
end Go.Proofs.YtmkggcjajcdlcaaGreatDoor
