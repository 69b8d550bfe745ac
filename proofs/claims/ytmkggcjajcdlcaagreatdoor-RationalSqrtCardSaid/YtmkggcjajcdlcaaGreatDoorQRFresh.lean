/- times and minus of the reference once more: what they return is new memory. -/
import Derived.Test.YtmkggcjajcdlcaaGreatDoorQAd
import Derived.Test.YtmkggcjajcdlcaaGreatDoorQAc
set_option maxHeartbeats 100000000
set_option linter.all false
open Go.Proofs.Tryz
namespace Go.Proofs.YtmkggcjajcdlcaaGreatDoor
open Go.RowKit
def wI (zs:List Nat) (w:World) (e:Ending) (w':World):Prop:=∃(g n c:Nat),e= .returned (.slice (some ⟨g,0,none⟩) n c)∧w.heap.size≤g∧aj w' (some ⟨g,0,none⟩) n c zs∧Below w.heap.size w w'
theorem mw (A B:Option Addr) (n m c d:Nat) (xs ys:List Nat) (w:World) (hx:aj w A n c xs) (hy:aj w B m d ys) (hle:val ys≤val xs) (hs:n≤4294967296):
 Calls Tryz.prog 232 #[.slice A n c, .slice B m d] w (wI (digs (val xs-val ys)) w):=by
 have hnc:=hx.cap;have hc:=hx.lim;have hmd:=hy.cap;have hd:=hy.lim;have Hx:=Lib.hid hx;have Hy:=Lib.hid hy;have Hle:=Lib.hid hle;clear hx hy hle;have hmk:=cg n n rfl (by omega);have hrow:=bI w (ah n);have hb0:Below w.heap.size w (w.alloc (bG (ah n))):=(Below.refl _ _).alloc (Nat.le_refl _) _;have Hrow:=Lib.hid hrow;have Hb0:=Lib.hid hb0;clear hrow hb0
 go_enter func232,ntmps232
 go_wp2_with fail
 go_loopw [6,7] (fun cr i wr=>∃(k cy:Nat) (zs:List Nat),k≤n∧i= .int .i64 k∧cr= .int .u64 cy∧cy<2 ∧
  (Wd zs∧zs.length=n∧(∀j,k≤j→zs.getD j 0=0)∧val zs+val (ys.take k)=val (xs.take k)+4294967296^k*cy)∧cf wr w.heap.size zs∧Below w.heap.size w wr)
  (fun _ i _=>n-(intOf i).toNat)
 case atStart=>exact⟨0,0,ah n,Nat.zero_le _,rfl,rfl,by omega,⟨bd _,am _,fun j _=>aB _ _,by simp[val,ah,aD]⟩,Hrow.out,Hb0.out⟩
 case round=>
  obtain⟨k,cy,zs,hk,rfl,rfl,hcy,hv,hrow,hb⟩:=hrel;have hfr:=hrow.frozen k;have Hv:=Lib.hid hv;have Hb:=Lib.hid hb;have Hr:=Lib.hid hrow;clear hv hb hrow hmk
  by_cases hkn:k<n
  ·have hcell:=Hr.out.cell k (by rw[Hv.out.2.1];omega)
   obtain⟨b1,o1,rfl,hbb1,hc1⟩:=Hx.out.at (by omega);have hc1:=(Hb.out.cell (p:=⟨b1,o1+k,none⟩) hbb1).trans (hc1 k hkn);have hx1:=Hx.out.wd.getD k;generalize hxx:xs.getD k 0=x at hc1 hx1;have Hxx:=Lib.hid hxx;clear hxx;have hkn':(k:Int)<n:=by omega
   by_cases hkm:k<m
   ·obtain⟨b2,o2,rfl,hbb2,hc2⟩:=Hy.out.at (by omega)
    have hc2:=(Hb.out.cell (p:=⟨b2,o2+k,none⟩) hbb2).trans (hc2 k hkm);have hy1:=Hy.out.wd.getD k;generalize hyy:ys.getD k 0=y at hc2 hy1;have Hyy:=Lib.hid hyy;clear hyy;have hkm':(k:Int)<m:=by omega
    clear hbb1 hbb2
    go_wp2_with fail
    go_roundw
    case rel=>
     obtain⟨dd,bb,g1,g2,g3,g4,g5⟩:=gA x y cy hx1 hy1 hcy;rw[g3,g4]
     refine⟨k+1,bb,zs.set k dd,by omega,by go_num,rfl,g2,
      ⟨aJ Hv.out.1 _ _ g1,by rw[List.length_set];exact Hv.out.2.1,fun j hj=>by rw[getD_set_ne (by omega)];exact Hv.out.2.2.1 j (by omega),?_⟩,Hr.out.set _ _,Hb.out.setCell (Nat.le_refl _) _⟩
     exact dq (by rw[Hv.out.2.1];omega) (Hv.out.2.2.1 k (Nat.le_refl _)) Hv.out.2.2.2 (by rw[Hxx.out,Hyy.out];exact g5)
    case measure=>simp[intOf];omega
   ·have hkm':¬(k:Int)<m:=by omega
    have hyy:ys.getD k 0=0:=by rw[List.getD_eq_getElem?_getD,List.getElem?_eq_none (by rw[Hy.out.len];omega)];rfl
    have Hyy:=Lib.hid hyy;clear hyy hbb1
    go_wp2_with fail
    go_roundw
    case rel=>
     obtain⟨dd,bb,g1,g2,g3,g4,g5⟩:=gA x 0 cy hx1 (by omega) hcy;have e0:((x:Int)+4294967296-((0:Nat):Int)-cy)=(x:Int)+4294967296-cy:=by omega
     rw[e0]at g3 g4;rw[g3,g4]
     refine⟨k+1,bb,zs.set k dd,by omega,by go_num,rfl,g2,
      ⟨aJ Hv.out.1 _ _ g1,by rw[List.length_set];exact Hv.out.2.1,fun j hj=>by rw[getD_set_ne (by omega)];exact Hv.out.2.2.1 j (by omega),?_⟩,Hr.out.set _ _,Hb.out.setCell (Nat.le_refl _) _⟩
     exact dq (by rw[Hv.out.2.1];omega) (Hv.out.2.2.1 k (Nat.le_refl _)) Hv.out.2.2.2 (by rw[Hxx.out,Hyy.out];exact g5)
    case measure=>simp[intOf];omega
  ·obtain rfl:k=n:=by omega
   have hkn':¬(k:Int)<k:=by omega
   have hval:val zs=val xs-val ys:=i8 Hv.out.1 Hv.out.2.1 Hx.out.len Hle.out Hx.out.wd Hv.out.2.2.2;have hw2:aj wr (some ⟨w.heap.size,0,none⟩) k k zs:=Hr.out.wrd' Hv.out.1 Hv.out.2.1 (by omega);have htr:trim zs=digs (val xs-val ys):=by unfold trim;rw[hval]
   have hw3:=hw2.trim;rw[htr]at hw3;have Hw2:=Lib.hid hw2;have Hw3:=Lib.hid hw3;have Htr:=Lib.hid htr;clear hval hw2 htr hw3
   go_wp2_with (go_at_call 162;refine(aX _ _ _ _ _ Hw2.out).mono ?_;rw[Htr.out];rintro e w' ⟨rfl,rfl⟩)
   go_ret
   exact⟨_,_,_,rfl,Nat.le_refl _,Hw3.out,Hb.out⟩
theorem sV (A B:Option Addr) (n m c d:Nat) (xs ys:List Nat) (w:World) (hx:aj w A n c xs) (hy:aj w B m d ys) (hs:n≤4294967296) (hs2:m≤4294967296):
 Calls Tryz.prog 161 #[.slice A n c, .slice B m d] w (wI (digs (val xs*val ys)) w):=by
 have hnc:=hx.cap;have hc:=hx.lim;have hmd:=hy.cap;have hd:=hy.lim;have Hx:=Lib.hid hx;have Hy:=Lib.hid hy;clear hx hy;have hmk:=cg (n+m) ((n:Int)+m) (by omega) (by omega);have hrow:=bI w (ah (n+m));have hb0:Below w.heap.size w (w.alloc (bG (ah (n+m)))):=(Below.refl _ _).alloc (Nat.le_refl _) _;have Hrow:=Lib.hid hrow;have Hb0:=Lib.hid hb0;clear hrow hb0
 go_enter func161,ntmps161
 go_wp2_with fail
 clear hmk
 go_loopw [6] (fun i wr=>∃(i':Nat) (zs:List Nat),i'≤n∧i= .int .i64 i'∧(Wd zs∧zs.length=n+m∧(∀j,i'+m≤j→zs.getD j 0=0)∧val zs=val (xs.take i')*val ys)∧cf wr w.heap.size zs∧Below w.heap.size w wr)
  (fun i _=>n-(intOf i).toNat)
 case atStart=>exact⟨0,ah (n+m),Nat.zero_le _,rfl,⟨bd _,am _,fun j _=>aB _ _,by simp[val,ah,aD]⟩,Hrow.out,Hb0.out⟩
 case round=>
  obtain⟨i,zs,hi,rfl,hv,hrow,hb⟩:=hrel;have Hv:=Lib.hid hv;have Hb:=Lib.hid hb;have Hr:=Lib.hid hrow;clear hv hb hrow;obtain⟨wo,rfl⟩:∃wo:World,wo=wr:=⟨_,rfl⟩
  by_cases hin:i<n
  ·have hin':(i:Int)<n:=by omega
   have hx1:=Hx.out.wd.getD i;obtain⟨b1,o1,rfl,hbb1,hc1⟩:=Hx.out.at (by omega);have Hc1:=Lib.hid hc1;clear hc1;have hcx:True:=trivial;generalize hxx:xs.getD i 0=x at hx1;have Hxx:=Lib.hid hxx;clear hxx
   go_wp2_with fail
   go_loopw [7,8] (fun cr k wr=>∃(k' cy:Nat) (us:List Nat),k'≤m∧k= .int .i64 k'∧cr= .int .u64 cy∧cy<4294967296 ∧
    (Wd us∧us.length=n+m∧(∀j,i+m≤j→us.getD j 0=0)∧val us+4294967296^(i+k')*cy=val (xs.take i)*val ys+4294967296^i*(x*val (ys.take k')))∧cf wr w.heap.size us∧Below w.heap.size w wr)
    (fun _ k _=>m-(intOf k).toNat)
   case atStart=>exact⟨0,0,zs,Nat.zero_le _,rfl,rfl,by omega,⟨Hv.out.1,Hv.out.2.1,Hv.out.2.2.1,by rw[Hv.out.2.2.2];simp[val]⟩,Hr.out,Hb.out⟩
   case round=>
    obtain⟨k,cy,us,hk,rfl,rfl,hcy,hv2,hrow2,hb2⟩:=hrel;have hfr:=fun j=>hrow2.frozen j
    have hfr1:=hfr (i+k);have hfr2:=hfr (i+m);have Hv2:=Lib.hid hv2;have Hb2:=Lib.hid hb2;have Hr2:=Lib.hid hrow2;clear hv2 hb2 hrow2 hfr hcx
    by_cases hkm:k<m
    ·have hkm':(k:Int)<m:=by omega
     have hy1:=Hy.out.wd.getD k;have hz1:=Hv2.out.1.getD (i+k);obtain⟨b2,o2,rfl,hbb2,hc2⟩:=Hy.out.at (by omega);have Hc2:=Lib.hid hc2;clear hc2;have hcx:=(Hb2.out.cell (p:=⟨b1,o1+i,none⟩) hbb1).trans (Hc1.out i hin);rw[Hxx.out]at hcx;have hcy1:=(Hb2.out.cell (p:=⟨b2,o2+k,none⟩) hbb2).trans (Hc2.out k hkm);have hcz:=Hr2.out.cell (i+k) (by rw[Hv2.out.2.1];omega);generalize hyy:ys.getD k 0=y at hcy1 hy1;generalize hzz:us.getD (i+k) 0=z at hcz hz1;have Hyy:=Lib.hid hyy;have Hzz:=Lib.hid hzz;have hmul:=jc x y hx1 hy1;have hmul1:=hmul.1;have hmul2:=hmul.2;clear hyy hzz hmul hfr2;have hw1:IntKind.i64.wrap ((i:Int)+k)=(i:Int)+k:=IntWalk.i64_in _ (by omega);have hw2:((i:Int)+k).toNat=i+k:=by omega
     have hw3:(0:Int)≤(i:Int)+k:=by omega
     have hw4:(i:Int)+k<(n:Int)+m:=by omega
     go_wp2_with fail
     go_quiet (fail)
     clear hw1 hw2
     go_wp2_with fail
     go_roundw
     case rel=>
      have e:((cy:Int)+z+(x:Int)*y)=((cy+x*y+z:Nat):Int):=by push_cast;omega
      have hmc:=jb hx1 hy1 hz1 hcy;have hst:=fR (by rw[Hv2.out.2.1];omega) Hv2.out.2.2.2;rw[Hyy.out,Hzz.out]at hst;generalize ht:cy+x*y+z=t at e hmc hst;rw[e];have e1:Value.int .u32 ((t:Int)%4294967296)=aS (t%4294967296):=by unfold aS;go_num
      rw[e1]
      exact⟨k+1,t/4294967296,us.set (i+k) (t%4294967296),by omega,by go_num,by go_num,hmc.2,
       ⟨aJ Hv2.out.1 _ _ (by omega),by rw[List.length_set];exact Hv2.out.2.1,fun j hj=>by rw[getD_set_ne (by omega)];exact Hv2.out.2.2.1 j hj,hst⟩,(Hr2.out.drewN _).set _ _,(Below.drewN Hb2.out _).setCell (Nat.le_refl _) _⟩
     case measure=>simp[intOf];omega
    ·obtain rfl:k=m:=by omega
     have hkm':¬(k:Int)<k:=by omega
     have hcz:=Hr2.out.cell (i+k) (by rw[Hv2.out.2.1];omega);clear hfr1
     go_wp2_with fail
     go_roundw
     case rel=>
      have e1:Value.int .u32 ((cy:Int)%4294967296)=aS cy:=by unfold aS;go_num
      have e2:Value.int .u32 (cy:Int)=aS cy:=rfl
      first|rw[e1]|rw[e2]
      have hst:=ga (xs:=xs) (ys:=ys) (zs:=us) (i:=i) (c:=cy) (by rw[Hv2.out.2.1,Hy.out.len];omega) (by rw[Hy.out.len];exact Hv2.out.2.2.1 _ (by omega)) (by rw[Hy.out.len,Hxx.out];exact Hv2.out.2.2.2);rw[Hy.out.len]at hst
      exact⟨i+1,us.set (i+k) cy,by omega,by go_num,
       ⟨aJ Hv2.out.1 _ _ hcy,by rw[List.length_set];exact Hv2.out.2.1,fun j hj=>by rw[getD_set_ne (by omega)];exact Hv2.out.2.2.1 j (by omega),hst⟩,Hr2.out.set _ _,Hb2.out.setCell (Nat.le_refl _) _⟩
     case measure=>simp[intOf];omega
  ·obtain rfl:i=n:=by omega
   have hin':¬(i:Int)<i:=by omega
   have hxt:xs.take i=xs:=List.take_of_length_le (by rw[Hx.out.len];exact Nat.le_refl _);have hw2:aj wo (some ⟨w.heap.size,0,none⟩) (i+m) (i+m) zs:=Hr.out.wrd' Hv.out.1 Hv.out.2.1 (by omega);have htr:trim zs=digs (val xs*val ys):=by unfold trim;rw[Hv.out.2.2.2,hxt]
   have hw3:=hw2.trim;rw[htr]at hw3;have Hw2:=Lib.hid hw2;have Hw3:=Lib.hid hw3;have Htr:=Lib.hid htr;clear hxt hw2 htr hw3
   go_wp2_with (go_at_call 162;refine(aX _ _ _ _ _ Hw2.out).mono ?_;rw[Htr.out];rintro e w' ⟨rfl,rfl⟩)
   go_ret
   exact⟨_,_,_,rfl,Nat.le_refl _,Hw3.out,Hb.out⟩
end Go.Proofs.YtmkggcjajcdlcaaGreatDoor
