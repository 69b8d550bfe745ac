/- times and minus of the reference once more: what they return is new memory. -/
import Derived.Test.YtnchbpoopnjghaaGreatDoorQAd
set_option maxHeartbeats 100000000
set_option linter.all false
open Go.Proofs.Tryz
namespace Go.Proofs.YtnchbpoopnjghaaGreatDoor
open Go.RowKit
def Po (zs:List Nat) (w:World) (e:Ending) (w':World):Prop:=∃(g n c:Nat),e= .returned (.slice (some ⟨g,0,none⟩) n c)/\w.heap.size<=g/\bi w' (some ⟨g,0,none⟩) n c zs/\Below w.heap.size w w'
theorem vO (A B:Option Addr) (n m c d:Nat) (xs ys:List Nat) (w:World) (hx:bi w A n c xs) (hy:bi w B m d ys) (hle:val ys<=val xs) (hs:n<=4294967296):
 Calls Tryz.prog 301 #[.slice A n c, .slice B m d] w (Po (digs (val xs-val ys)) w):=by
 have hnc:=hx.cap;have hc:=hx.lim;have hmd:=hy.cap;have hd:=hy.lim;have Hx:=Lib.hid hx;have Hy:=Lib.hid hy;have Hle:=Lib.hid hle;clear hx hy hle;have hmk:=eJ n n rfl O_;have hrow:=dy w (aF n);have hb0:Below w.heap.size w (w.alloc (du (aF n))):=(Below.refl _ _).alloc (l_ _) _;have Hrow:=Lib.hid hrow;have Hb0:=Lib.hid hb0;clear hrow hb0
 go_enter func301,ntmps301
 go_wp2_with fail
 go_loopw [6,7] (fun cr i wr=>∃(k cy:Nat) (zs:List Nat),k<=n/\i= .int .i64 k/\cr= .int .u64 cy/\cy<2 /\
  (Wd zs/\zs.length=n/\(∀j,k<=j->zs.getD j 0=0)/\val zs+val (ys.take k)=val (xs.take k)+4294967296^k*cy)/\eS wr w.heap.size zs/\Below w.heap.size w wr)
  (fun _ i _=>n-(intOf i).toNat)
 case atStart=>exact⟨0,0,aF n,Nat.zero_le _,rfl,rfl,by omega,⟨cH _,aO _,fun j _=>a6 _ _,by simp[val,aF,bv]⟩,Hrow.out,Hb0.out⟩
 case round=>
  obtain⟨k,cy,zs,hk,rfl,rfl,hcy,hv,hrow,hb⟩:=hrel;have hfr:=hrow.frozen k;have Hv:=Lib.hid hv;have Hb:=Lib.hid hb;have Hr:=Lib.hid hrow;clear hv hb hrow hmk
  by_cases hkn:k<n
  ·exact Wl
  ·obtain rfl:k=n:=O_
   have hkn':¬(k:Int)<k:=O_
   have hval:val zs=val xs-val ys:=pk Hv.out.1 Hv.out.2.1 Hx.out.len Hle.out Hx.out.wd Hv.out.2.2.2;have hw2:bi wr (some ⟨w.heap.size,0,none⟩) k k zs:=Hr.out.wrd' Hv.out.1 Hv.out.2.1 O_;have htr:trim zs=digs (val xs-val ys):=by unfold trim;rw[hval]
   have hw3:=hw2.trim;rw[htr]at hw3;have Hw2:=Lib.hid hw2;have Hw3:=Lib.hid hw3;have Htr:=Lib.hid htr;clear hval hw2 htr hw3;exact TJ
theorem Gv (A B:Option Addr) (n m c d:Nat) (xs ys:List Nat) (w:World) (hx:bi w A n c xs) (hy:bi w B m d ys) (hs:n<=4294967296) (hs2:m<=4294967296):
 Calls Tryz.prog 278 #[.slice A n c, .slice B m d] w (Po (digs (val xs*val ys)) w):=by
 have hnc:=hx.cap;have hc:=hx.lim;have hmd:=hy.cap;have hd:=hy.lim;have Hx:=Lib.hid hx;have Hy:=Lib.hid hy;clear hx hy;have hmk:=eJ (n+m) ((n:Int)+m) O_ O_;have hrow:=dy w (aF (n+m));have hb0:Below w.heap.size w (w.alloc (du (aF (n+m)))):=(Below.refl _ _).alloc (l_ _) _;have Hrow:=Lib.hid hrow;have Hb0:=Lib.hid hb0;clear hrow hb0
 go_enter func278,ntmps278
 go_wp2_with fail
 clear hmk
 go_loopw [6] (fun i wr=>∃(i':Nat) (zs:List Nat),i'<=n/\i= .int .i64 i'/\(Wd zs/\zs.length=n+m/\(∀j,i'+m<=j->zs.getD j 0=0)/\val zs=val (xs.take i')*val ys)/\eS wr w.heap.size zs/\Below w.heap.size w wr)
  (fun i _=>n-(intOf i).toNat)
 case atStart=>exact⟨0,aF (n+m),Nat.zero_le _,rfl,⟨cH _,aO _,fun j _=>a6 _ _,by simp[val,aF,bv]⟩,Hrow.out,Hb0.out⟩
 case round=>
  obtain⟨i,zs,hi,rfl,hv,hrow,hb⟩:=hrel;have Hv:=Lib.hid hv;have Hb:=Lib.hid hb;have Hr:=Lib.hid hrow;clear hv hb hrow;obtain⟨wo,rfl⟩:∃wo:World,wo=wr:=⟨_,rfl⟩
  by_cases hin:i<n
  ·exact Wr
  ·obtain rfl:i=n:=O_
   have hin':¬(i:Int)<i:=O_
   have hxt:xs.take i=xs:=K_ (by rw[Hx.out.len];exact l_ _);have hw2:bi wo (some ⟨w.heap.size,0,none⟩) (i+m) (i+m) zs:=Hr.out.wrd' Hv.out.1 Hv.out.2.1 O_;have htr:trim zs=digs (val xs*val ys):=by unfold trim;rw[Hv.out.2.2.2,hxt]
   have hw3:=hw2.trim;rw[htr]at hw3;have Hw2:=Lib.hid hw2;have Hw3:=Lib.hid hw3;have Htr:=Lib.hid htr;clear hxt hw2 htr hw3;exact TJ
end Go.Proofs.YtnchbpoopnjghaaGreatDoor
