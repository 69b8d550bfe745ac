/- times and minus of the reference once more: what they return is new memory. -/
import Derived.Test.YtnchbpoopnjghaaGreatDoorRAd
set_option maxHeartbeats 100000000
set_option linter.all false
open Go.Proofs.Tryz
namespace Go.Proofs.YtnchbpoopnjghaaGreatDoor
open Go.RowKit
def Pp(zs:List Nat)(w:World)(e:Ending)(w':World):Prop:=∃(g n c:Nat),e= .returned (.slice (some ⟨g,0,none⟩) n c)/\w.heap.size<=g/\a7 w' (some ⟨g,0,none⟩) n c zs/\Below w.heap.size w w'
def vp(A B:Option Addr)(n m c d:Nat)(xs ys:List Nat)(w:World)(q:a7 w A n c xs)(r:a7 w B m d ys)(o:val ys<=val xs)(F:n<=4294967296):
 Calls prog 301 #[.slice A n c, .slice B m d] w (Pp (digs (val xs-val ys)) w):=by
 have z:=q.cap;have C:=q.lim;have v:=r.cap;have D:=r.lim;have Hx:=Lib.hid q;have Hy:=Lib.hid r;have Hle:=Lib.hid o;clear q r o;have hmk:=eD n n rfl O_;have a:=dp w (ax n);have l:Below w.heap.size w (w.alloc (de (ax n))):=(Below.refl _ _).alloc (l_ _) _;have Hrow:=Lib.hid a;have Hb0:=Lib.hid l;clear a l
 go_enter func301,ntmps301
 go_wp2_with fail
 go_loopw [6,7] (fun cr i wr=>∃(k cy:Nat)(zs:List Nat),k<=n/\i= .int .i64 k/\cr= .int .u64 cy/\cy<2 /\
  (Wd zs/\zs.length=n/\(∀j,k<=j->zs.getD j 0=0)/\val zs+val (ys.take k)=val (xs.take k)+4294967296^k*cy)/\eK wr w.heap.size zs/\Below w.heap.size w wr)
  (fun _ i _=>n-(intOf i).toNat)
 case atStart=>exact⟨0,0,ax n,Nat.zero_le _,rfl,rfl,by omega,⟨b6 _,aN _,fun j _=>aV _ _,by simp[val,ax,bf]⟩,Hrow.out,Hb0.out⟩
 case round=>
  obtain⟨k,cy,zs,E,rfl,rfl,hcy,t,a,s⟩:=hrel;have u:=a.frozen k;have Hv:=Lib.hid t;have Hb:=Lib.hid s;have Hr:=Lib.hid a;clear t s a hmk;by_cases hkn:k<n
  ·exact VN
  ·obtain rfl:k=n:=O_;have hkn':¬(k:Int)<k:=O_;have b:val zs=val xs-val ys:=pM Hv.out.1 Hv.out.2.1 Hx.out.len Hle.out Hx.out.wd Hv.out.2.2.2;have g:a7 wr (some ⟨w.heap.size,0,none⟩) k k zs:=Hr.out.wrd' Hv.out.1 Hv.out.2.1 O_;have f:trim zs=digs (val xs-val ys):=by unfold trim;rw[b]
   have h:=g.trim;rw[f]at h;have Hw2:=Lib.hid g;have Hw3:=Lib.hid h;have Htr:=Lib.hid f;clear b g f h;exact TE
def FT(A B:Option Addr)(n m c d:Nat)(xs ys:List Nat)(w:World)(h:a7 w A n c xs)(l:a7 w B m d ys)(G:n<=4294967296)(C:m<=4294967296):
 Calls prog 278 #[.slice A n c, .slice B m d] w (Pp (digs (val xs*val ys)) w):=by
 have v:=h.cap;have D:=h.lim;have u:=l.cap;have E:=l.lim;have Hx:=Lib.hid h;have Hy:=Lib.hid l;clear h l;have hmk:=eD (n+m) ((n:Int)+m) O_ O_;have a:=dp w (ax (n+m));have f:Below w.heap.size w (w.alloc (de (ax (n+m)))):=(Below.refl _ _).alloc (l_ _) _;have Hrow:=Lib.hid a;have Hb0:=Lib.hid f;clear a f
 go_enter func278,ntmps278
 go_wp2_with fail
 clear hmk
 go_loopw [6] (fun i wr=>∃(o:Nat)(zs:List Nat),o<=n/\i= .int .i64 o/\(Wd zs/\zs.length=n+m/\(∀j,o+m<=j->zs.getD j 0=0)/\val zs=val (xs.take o)*val ys)/\eK wr w.heap.size zs/\Below w.heap.size w wr)
  (fun i _=>n-(intOf i).toNat)
 case atStart=>exact⟨0,ax (n+m),Nat.zero_le _,rfl,⟨b6 _,aN _,fun j _=>aV _ _,by simp[val,ax,bf]⟩,Hrow.out,Hb0.out⟩
 case round=>
  obtain⟨i,zs,F,rfl,s,a,r⟩:=hrel;have Hv:=Lib.hid s;have Hb:=Lib.hid r;have Hr:=Lib.hid a;clear s r a;obtain⟨q,rfl⟩:∃q:World,q=wr:=⟨_,rfl⟩;by_cases hin:i<n
  ·exact VF
  ·obtain rfl:i=n:=O_;have hin':¬(i:Int)<i:=O_;have g:xs.take i=xs:=K_ (by rw[Hx.out.len];exact l_ _);have hw2:a7 q (some ⟨w.heap.size,0,none⟩) (i+m) (i+m) zs:=Hr.out.wrd' Hv.out.1 Hv.out.2.1 O_;have b:trim zs=digs (val xs*val ys):=by unfold trim;rw[Hv.out.2.2.2,g]
   have hw3:=hw2.trim;rw[b]at hw3;have Hw2:=Lib.hid hw2;have Hw3:=Lib.hid hw3;have Htr:=Lib.hid b;clear g hw2 b hw3;exact TE
end Go.Proofs.YtnchbpoopnjghaaGreatDoor
