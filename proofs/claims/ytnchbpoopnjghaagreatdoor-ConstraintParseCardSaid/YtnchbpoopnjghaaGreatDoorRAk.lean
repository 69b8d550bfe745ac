/- Pow of the reference. Valid, Int64 and Bits of both packages. Int64 of both packages. Bits of the reference. -/
import Derived.Test.YtnchbpoopnjghaaGreatDoorRAj
set_option maxHeartbeats 100000000
set_option linter.all false
open Go.Proofs.Tryz
namespace Go.Proofs.YtnchbpoopnjghaaGreatDoor
open Go.RowKit
section
attribute [local go_sem ↓] Go.wp_at_zero Go.wp_at_succ
def eV(na:Bool)(xs:List Nat):Bool:=decide ((trim xs).length=xs.length) && (!na || decide (0<xs.length))
def HZ{xs:List Nat}(d:Wd xs)(h:0<xs.length):(trim xs).length=xs.length↔xs.getD (xs.length-1) 0≠0:=by
 constructor
 ·intro b a;have c:=lr (xs:=xs) (k:=xs.length) (l_ _) h a;rw[List.take_length]at c;have e:=bJ (xs:=xs.take (xs.length-1)) (d.take _);rw[c,b,U_]at e;omega
 ·intro b;have a:=ig d (k:=xs.length) (l_ _) (.inr b);rw[List.take_length]at a;rw[a]
end
def zC{y:Nat}(h:0<y):bitLen y=bitLen (y/2)+1:=by
 by_cases a:y/2=0
 ·have:y=1:=O_;subst this;decide
 ·have:=bitLen_shift y 1 a;simp only[Nat.pow_one]at this;omega
def EV(A:Option Addr)(n c v:Nat)(w:World)(h:a7 w A n c (digs v))(O:n<=4294967296):
 Calls prog 307 #[.slice A n c] w fun e H=>e= .returned (.int .i64 (bitLen v:Int))/\w=H:=by
 by_cases h0:n=0
 ·have t:v=0:=by have:=h.len;rw[h0]at this;exact ga.1 (E_ this)
  have g:bitLen v=0:=by rw[t];rfl
  rw[g];subst h0;clear h t g
  go_enter func307,ntmps307
  go_wp2
  go_ret
  exact⟨rfl,rfl⟩
 ·have E:((n:Int) == 0)=false:=by simp;omega
  obtain⟨D,G,rfl,_,hc1⟩:=h.at O_;have b:=hc1 (n-1) O_;clear hc1;have f:=h.wd.getD (n-1);obtain⟨k,l⟩:∃k,n=k+1:=⟨n-1,by omega⟩;have g:=r9 h.wd (wY _) k (by rw[h.len,l]);rw[ae]at g;rw[show n-1=k by omega]at b f;generalize(digs v).getD k 0=x at b f g;have p:=qg x f;have u:=Lib.hid g.2;have C:=Lib.hid l;have I:(0:Int)<=(n:Int)-1:=O_;have J:(n:Int)-1<n:=O_;have F:w.cell? ⟨D,G+(n-1),none⟩=some (bP x):=by rw[show n-1=k by omega];exact b
  clear h g l b
  go_enter func307,ntmps307
  go_wp2
  go_loop [3,4] (fun a i=>∃(j y:Nat),a= .int .i64 j/\i= .int .u32 y/\j+bitLen y=bitLen x/\y<4294967296) (fun _ i=>(intOf i).toNat)
  case atStart=>exact⟨0,x,rfl,rfl,by omega,f⟩
  case round=>
   obtain⟨j,y,rfl,rfl,d,P⟩:=hrel;have s:j<=32:=O_;by_cases m:0<y
   ·have q:=zC m;have Q:(0:Int)<y:=O_;have Hjy:=Lib.hid d;have z:=Lib.hid q;clear d q
    go_wp2
    go_round
    case rel=>exact⟨j+1,y/2,by go_num,by go_num,by have:=Hjy.out;have:=z.out;omega,by omega⟩
    case measure=>simp[intOf];omega
   ·have o:y=0:=O_;subst o;have r:j=bitLen x:=by rw[show bitLen 0=0 from rfl]at d;omega
    have B:=Lib.hid r;clear d r
    go_wp2
    go_ret
    refine⟨Oj ?_,rfl⟩;have K:=B.out;have L:=u.out;have N:=C.out;first|omega|(rw[IntWalk.i64_in _ O_];omega)|(rw[AY O_];omega)
end Go.Proofs.YtnchbpoopnjghaaGreatDoor
