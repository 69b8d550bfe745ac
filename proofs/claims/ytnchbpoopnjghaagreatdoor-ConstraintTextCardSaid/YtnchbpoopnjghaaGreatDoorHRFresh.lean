/- times and minus of the reference once more: what they return is new memory. -/
import Derived.Test.YtnchbpoopnjghaaGreatDoorHAd
set_option maxHeartbeats 100000000
set_option linter.all false
open Go.Proofs.Tryz
namespace Go.Proofs.YtnchbpoopnjghaaGreatDoor
open Go.RowKit
def OQ (zs:List Nat) (w:World) (e:Ending) (w':World):Prop:=∃(g n c:Nat),e= .returned (.slice (some ⟨g,0,none⟩) n c)/\w.heap.size<=g/\ba w' (some ⟨g,0,none⟩) n c zs/\Below w.heap.size w w'
theorem vc (A B:Option Addr) (n m c d:Nat) (xs ys:List Nat) (w:World) (hx:ba w A n c xs) (hy:ba w B m d ys) (hle:val ys<=val xs) (hs:n<=4294967296):
 Calls Tryz.prog 301 #[.slice A n c, .slice B m d] w (OQ (digs (val xs-val ys)) w):=by
 have hnc:=hx.cap;have hc:=hx.lim;have hmd:=hy.cap;have hd:=hy.lim;have Hx:=Lib.hid hx;have Hy:=Lib.hid hy;have Hle:=Lib.hid hle;clear hx hy hle;have hmk:=eh n n rfl (by omega);have hrow:=db w (az n);have hb0:Below w.heap.size w (w.alloc (cY (az n))):=(Below.refl _ _).alloc (Nat.le_refl _) _;have Hrow:=Lib.hid hrow;have Hb0:=Lib.hid hb0;clear hrow hb0
 go_enter func301,ntmps301
 go_wp2_with fail
 go_loopw [6,7] (fun cr i wr=>∃(k cy:Nat) (zs:List Nat),k<=n/\i= .int .i64 k/\cr= .int .u64 cy/\cy<2 /\
  (Wd zs/\zs.length=n/\(∀j,k<=j->zs.getD j 0=0)/\val zs+val (ys.take k)=val (xs.take k)+4294967296^k*cy)/\ek wr w.heap.size zs/\Below w.heap.size w wr)
  (fun _ i _=>n-(intOf i).toNat)
 case atStart=>exact⟨0,0,az n,Nat.zero_le _,rfl,rfl,by omega,⟨b6 _,aN _,fun j _=>aX _ _,by simp[val,az,bi]⟩,Hrow.out,Hb0.out⟩
 case round=>
  obtain⟨k,cy,zs,hk,rfl,rfl,hcy,hv,hrow,hb⟩:=hrel;have hfr:=hrow.frozen k;have Hv:=Lib.hid hv;have Hb:=Lib.hid hb;have Hr:=Lib.hid hrow;clear hv hb hrow hmk
  by_cases hkn:k<n
  ·exact VJ
  ·obtain rfl:k=n:=by omega
   have hkn':¬(k:Int)<k:=by omega
   have hval:val zs=val xs-val ys:=oq Hv.out.1 Hv.out.2.1 Hx.out.len Hle.out Hx.out.wd Hv.out.2.2.2;have hw2:ba wr (some ⟨w.heap.size,0,none⟩) k k zs:=Hr.out.wrd' Hv.out.1 Hv.out.2.1 (by omega);have htr:trim zs=digs (val xs-val ys):=by unfold trim;rw[hval]
   have hw3:=hw2.trim;rw[htr]at hw3;have Hw2:=Lib.hid hw2;have Hw3:=Lib.hid hw3;have Htr:=Lib.hid htr;clear hval hw2 htr hw3;exact TY
theorem Ew (A B:Option Addr) (n m c d:Nat) (xs ys:List Nat) (w:World) (hx:ba w A n c xs) (hy:ba w B m d ys) (hs:n<=4294967296) (hs2:m<=4294967296):
 Calls Tryz.prog 278 #[.slice A n c, .slice B m d] w (OQ (digs (val xs*val ys)) w):=by
 have hnc:=hx.cap;have hc:=hx.lim;have hmd:=hy.cap;have hd:=hy.lim;have Hx:=Lib.hid hx;have Hy:=Lib.hid hy;clear hx hy;have hmk:=eh (n+m) ((n:Int)+m) (by omega) (by omega);have hrow:=db w (az (n+m));have hb0:Below w.heap.size w (w.alloc (cY (az (n+m)))):=(Below.refl _ _).alloc (Nat.le_refl _) _;have Hrow:=Lib.hid hrow;have Hb0:=Lib.hid hb0;clear hrow hb0
 go_enter func278,ntmps278
 go_wp2_with fail
 clear hmk
 go_loopw [6] (fun i wr=>∃(i':Nat) (zs:List Nat),i'<=n/\i= .int .i64 i'/\(Wd zs/\zs.length=n+m/\(∀j,i'+m<=j->zs.getD j 0=0)/\val zs=val (xs.take i')*val ys)/\ek wr w.heap.size zs/\Below w.heap.size w wr)
  (fun i _=>n-(intOf i).toNat)
 case atStart=>exact⟨0,az (n+m),Nat.zero_le _,rfl,⟨b6 _,aN _,fun j _=>aX _ _,by simp[val,az,bi]⟩,Hrow.out,Hb0.out⟩
 case round=>
  obtain⟨i,zs,hi,rfl,hv,hrow,hb⟩:=hrel;have Hv:=Lib.hid hv;have Hb:=Lib.hid hb;have Hr:=Lib.hid hrow;clear hv hb hrow;obtain⟨wo,rfl⟩:∃wo:World,wo=wr:=⟨_,rfl⟩
  by_cases hin:i<n
  ·exact VG
  ·obtain rfl:i=n:=by omega
   have hin':¬(i:Int)<i:=by omega
   have hxt:xs.take i=xs:=List.take_of_length_le (by rw[Hx.out.len];exact Nat.le_refl _);have hw2:ba wo (some ⟨w.heap.size,0,none⟩) (i+m) (i+m) zs:=Hr.out.wrd' Hv.out.1 Hv.out.2.1 (by omega);have htr:trim zs=digs (val xs*val ys):=by unfold trim;rw[Hv.out.2.2.2,hxt]
   have hw3:=hw2.trim;rw[htr]at hw3;have Hw2:=Lib.hid hw2;have Hw3:=Lib.hid hw3;have Htr:=Lib.hid htr;clear hxt hw2 htr hw3;exact TY
end Go.Proofs.YtnchbpoopnjghaaGreatDoor
