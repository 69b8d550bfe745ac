/- cmp.Compare at int and uint32; compare of both packages. plus of both packages. plus of the reference. minus of both packages. -/
import Derived.Test.YtnchbpoopnjghaaGreatDoorRAb
set_option maxHeartbeats 100000000
set_option linter.all false
open Go.Proofs.Tryz
namespace Go.Proofs.YtnchbpoopnjghaaGreatDoor
open Go.RowKit
def qx(a b:Int)(w:World):Calls prog 234 #[.int .i64 a, .int .i64 b] w fun e f=>e= .returned (.int .i64 (bG a b))/\w=f:=by
 have g:(a != a)=false:=S_;have h:(b != b)=false:=S_;by_cases c:a<b
 ·have fin:bG a b= -1:=by unfold bG;rw[if_pos c]
  exact RK
 ·by_cases d:b<a
  ·have fin:bG a b=1:=by unfold bG;rw[if_neg c,if_pos d]
   exact RK
  ·have fin:bG a b=0:=by unfold bG;rw[if_neg c,if_neg d]
   exact RK
def sC(a b:Int)(w:World):Calls prog 285 #[.int .u32 a, .int .u32 b] w fun e f=>e= .returned (.int .i64 (bG a b))/\w=f:=by
 have g:(a != a)=false:=S_;have h:(b != b)=false:=S_;by_cases c:a<b
 ·have fin:bG a b= -1:=by unfold bG;rw[if_pos c]
  exact Qx
 ·by_cases d:b<a
  ·have fin:bG a b=1:=by unfold bG;rw[if_neg c,if_pos d]
   exact Qx
  ·have fin:bG a b=0:=by unfold bG;rw[if_neg c,if_neg d]
   exact Qx
def St(z:Int)(w:World)(e:Ending)(w':World):Prop:=e= .returned (.int .i64 z)/\ ∃n,w'=w.drewN n
def km{xs ys:List Nat}(h:xs.length≠ys.length):iQ xs ys=bG xs.length ys.length:=by unfold iQ;rw[if_neg h]
def kL{xs ys:List Nat}(h:xs.length=ys.length):iQ xs ys=bG (val xs) (val ys):=by unfold iQ;rw[if_pos h]
def lE(A B:Option Addr)(n m c d:Nat)(xs ys:List Nat)(w:World)(r:a7 w A n c xs)(s:a7 w B m d ys):
 Calls prog 235 #[.slice A n c, .slice B m d] w (St (iQ xs ys) w):=by
 have z:=r.cap;have G:=r.lim;have v:=s.cap;have H:=s.lim;have Hx:=Lib.hid r;have Hy:=Lib.hid s;clear r s;by_cases l:n=m
 ·subst l;have u:((n:Int) != n)=false:=S_;have t:∀k:Nat,decide ((k:Int)-1>=0)=decide (0<k):=fun k=>by simp;omega
  clear t
  go_enter func235,ntmps235
  go_wp2
  go_loopw [5] (fun i wr=>∃k:Nat,k<=n/\i= .int .i64 ((k:Int)-1)/\xs.drop k=ys.drop k/\ ∃q,wr=w.drewN q) (fun i _=>(intOf i+1).toNat)
  case atStart=>exact⟨n,l_ _,rfl,by rw[List.drop_of_length_le (by rw[Hx.out.len];exact l_ _),List.drop_of_length_le (by rw[Hy.out.len];exact l_ _)],0,rfl⟩
  case round=>
   obtain⟨k,hk,rfl,g,q,rfl⟩:=hrel;have Hdr:=Lib.hid g;clear g;by_cases h0:0<k
   ·obtain⟨C,I,rfl,_,hc1⟩:=Hx.out.at O_;obtain⟨D,J,rfl,_,a⟩:=Hy.out.at O_;have hc1:=hc1 (k-1) O_;have a:=a (k-1) O_;have E:(0:Int)<=(k:Int)-1:=O_;have F:(k:Int)-1<n:=O_;obtain⟨x,b⟩:∃x,x=xs.getD (k-1) 0:=⟨_,rfl⟩;obtain⟨y,f⟩:∃y,y=ys.getD (k-1) 0:=⟨_,rfl⟩;rw[<- b]at hc1;rw[<- f]at a;have Hxx:=Lib.hid b;have Hyy:=Lib.hid f;clear b f;by_cases o:x=y
    ·subst o;have j:((x:Int) != x)=false:=S_
     go_wp2
     go_quiet (fail)
     go_wp2
     go_roundw
     case rel=>exact⟨k-1,by omega,by go_num,by rw[bQ xs k h0 (by rw[Hx.out.len];exact hk),bQ ys k h0 (by rw[Hy.out.len];exact hk),Hdr.out,<- Hxx.out,<- Hyy.out],_,rfl⟩
     case measure=>simp[intOf];omega
    ·have j:((x:Int) != y)=true:=by rw[bne_iff_ne];omega
     have fin:bG x y=iQ xs ys:=by
      rw[kL (by rw[Hx.out.len,Hy.out.len])];rcases Nat.lt_or_gt_of_ne o with h|h
      ·rw[fU O_,fU];exact SG
      ·rw[j0 O_,j0];exact Ua
     have Hfin:=Lib.hid fin;clear fin
     go_wp2
     go_quiet (fail)
     go_wp2
     go_quiet ((go_at_call 285;exact rP (sC _ _ _)))
     go_wp2
     go_ret
     exact⟨by rw[<- Hfin.out];rfl,_,U2 _ _ _ _⟩
   ·exact T2
 ·have u:((n:Int) != m)=true:=by rw[bne_iff_ne];omega
  have fin:bG n m=iQ xs ys:=by rw[km (by rw[Hx.out.len,Hy.out.len];exact l),Hx.out.len,Hy.out.len]
  have Hfin:=Lib.hid fin;clear fin
  go_enter func235,ntmps235
  go_wp2_with (go_at_call 234;refine(qx _ _ _).mono ?_;rintro e K ⟨rfl,rfl⟩)
  go_ret
  exact⟨by rw[<- Hfin.out];rfl,0,rfl⟩
def tG(A B:Option Addr)(n m c d:Nat)(xs ys:List Nat)(w:World)(o:a7 w A n c xs)(r:a7 w B m d ys):
 Calls prog 222 #[.slice A n c, .slice B m d] w (St (iQ xs ys) w):=by
 have D:=o.cap;have I:=o.lim;have C:=r.cap;have J:=r.lim;have Hx:=Lib.hid o;have Hy:=Lib.hid r;clear o r;by_cases a:n=m
 ·subst a;have u:((n:Int) != n)=false:=S_;have t:∀k:Nat,decide ((k:Int)-1>=0)=decide (0<k):=fun k=>by simp;omega
  clear t
  go_enter func222,ntmps222
  go_wp2
  go_loopw [5] (fun i wr=>∃k:Nat,k<=n/\i= .int .i64 ((k:Int)-1)/\xs.drop k=ys.drop k/\ ∃q,wr=w.drewN q) (fun i _=>(intOf i+1).toNat)
  case atStart=>exact⟨n,l_ _,rfl,by rw[List.drop_of_length_le (by rw[Hx.out.len];exact l_ _),List.drop_of_length_le (by rw[Hy.out.len];exact l_ _)],0,rfl⟩
  case round=>
   obtain⟨k,hk,rfl,j,q,rfl⟩:=hrel;have Hdr:=Lib.hid j;clear j;by_cases h0:0<k
   ·obtain⟨E,K,rfl,_,hc1⟩:=Hx.out.at O_;obtain⟨F,L,rfl,_,b⟩:=Hy.out.at O_;have hc1:=hc1 (k-1) O_;have b:=b (k-1) O_;have G:(0:Int)<=(k:Int)-1:=O_;have H:(k:Int)-1<n:=O_;obtain⟨x,f⟩:∃x,x=xs.getD (k-1) 0:=⟨_,rfl⟩;obtain⟨y,g⟩:∃y,y=ys.getD (k-1) 0:=⟨_,rfl⟩;rw[<- f]at hc1;rw[<- g]at b;have Hxx:=Lib.hid f;have Hyy:=Lib.hid g;clear f g;by_cases l:x=y
    ·subst l;have v:¬(x:Int)<x:=O_
     go_wp2
     go_quiet (fail)
     go_wp2
     go_quiet (fail)
     go_wp2
     go_roundw
     case rel=>exact⟨k-1,by omega,by go_num,by rw[bQ xs k h0 (by rw[Hx.out.len];exact hk),bQ ys k h0 (by rw[Hy.out.len];exact hk),Hdr.out,<- Hxx.out,<- Hyy.out],_,by first|exact U2 _ _ _ _|rfl⟩
     case measure=>simp[intOf];omega
    ·rcases Nat.lt_or_gt_of_ne l with h|h
     ·have fin:iQ xs ys= -1:=by rw[kL (by rw[Hx.out.len,Hy.out.len]),fU];exact SG
      have Hfin:=Lib.hid fin;clear fin;have s:(x:Int)<y:=O_
      go_wp2
      go_quiet (fail)
      go_wp2
      go_ret
      exact⟨by rw[Hfin.out];rfl,_,V1 _ _ _⟩
     ·have fin:iQ xs ys=1:=by rw[kL (by rw[Hx.out.len,Hy.out.len]),j0];exact Ua
      have Hfin:=Lib.hid fin;clear fin;have s:(y:Int)<x:=O_;have z:¬(x:Int)<y:=O_
      go_wp2
      go_quiet (fail)
      go_wp2
      go_quiet (fail)
      go_wp2
      go_ret
      exact⟨by rw[Hfin.out];rfl,_,U2 _ _ _ _⟩
   ·exact T2
 ·have u:((n:Int) != m)=true:=by rw[bne_iff_ne];omega
  rcases Nat.lt_or_gt_of_ne a with h|h
  ·have fin:iQ xs ys= -1:=by rw[km (by rw[Hx.out.len,Hy.out.len];exact a),Hx.out.len,Hy.out.len,fU O_]
   have Hfin:=Lib.hid fin;clear fin;have s:(n:Int)<m:=O_
   go_enter func222,ntmps222
   go_wp2
   go_ret
   exact⟨by rw[Hfin.out];rfl,0,rfl⟩
  ·have fin:iQ xs ys=1:=by rw[km (by rw[Hx.out.len,Hy.out.len];exact a),Hx.out.len,Hy.out.len,j0 O_]
   have Hfin:=Lib.hid fin;clear fin;have s:¬(n:Int)<m:=O_
   go_enter func222,ntmps222
   go_wp2
   go_ret
   exact⟨by rw[Hfin.out];rfl,0,rfl⟩
def jo(Φ:List Nat->Prop)(w:World)(e:Ending)(w':World):Prop:=∃A n c a,e= .returned (.slice A n c)/\a7 w' A n c a/\Φ a/\Below w.heap.size w w'
def ia{w:World}{a g n cap:Nat}{zs:List Nat}(h:w.ownsRow a 135 1 (.slice (some ⟨g,0,none⟩) n cap) n (zs.map bP))(f:Wd zs)(e:n<=cap)(d:cap<=9223372036854775807):
 a7 w (some ⟨g,0,none⟩) n cap zs:=by
 have b:zs.length=n:=by have:=h.1;simpa using this
 refine⟨b,e,d,f, .inr ⟨g,0,rfl,fun i v c=>?_⟩,fun h=>by cases h⟩;have j:i<n:=by have:=(G_.1 c).1;rw[j_,b]at this;exact this
 rw[J_,h.cellAt i O_];exact c
def F8(A B:Option Addr)(n m c d:Nat)(xs ys:List Nat)(w:World)(f:a7 w A n c xs)(g:a7 w B m d ys)(t:m<=n)(D:n<=4294967296):
 Calls prog 257 #[.slice A n c, .slice B m d] w (jo (fun zs=>val zs=val xs+val ys/\zs.length<=n+1/\(zs.length=n+1->4294967296^n<=val zs)) w):=by
 obtain⟨i0,hi,l,hz1,o⟩:=info_parts Tryz.infoU32;have s:=f.cap;have z:=f.lim;have r:=g.cap;have C:=g.lim;have Hx:=Lib.hid f;have Hy:=Lib.hid g;clear f g;have q:¬(n:Int)<m:=O_
 go_enter func257,ntmps257
 go_wp2_with (at_make;refine wpList_make_own _ rfl _ _ 34 rfl w.heap.size 135 i0 (.int .u32 0) 1 underlying34 hi l hz1 .i64 .i64 _ (n+1) rfl rfl O_ (by rw[o];omega) (by simp only[maxLen];omega) (l_ _) ?_;intro u hown1 b)
 have a:Below w.heap.size w u:=(Below.refl _ _).grown b (l_ _) S_;have Hb1:=Lib.hid a;clear a b
 go_loopw [5,6,22] (fun v cr i wr=>∃(k cy:Nat)(zs:List Nat),k<=n/\i= .int .i64 k/\v= .slice (some ⟨w.heap.size,0,none⟩) k (n+1)/\cr= .int .u64 cy/\cy<2 /\
  (Wd zs/\val zs+4294967296^k*cy=val (xs.take k)+val (ys.take k))/\wr.ownsRow w.heap.size 135 1 (.slice (some ⟨w.heap.size,0,none⟩) k (n+1)) k (zs.map bP)/\Below w.heap.size w wr)
  (fun _ _ i _=>n-(intOf i).toNat)
 case atStart=>exact⟨0,0,[],Nat.zero_le _,rfl,rfl,rfl,by omega,⟨Wd.nil,by simp[val]⟩,hown1,Hb1.out⟩
 case round=>exact VA
def F6(A B:Option Addr)(n m c d:Nat)(xs ys:List Nat)(w:World)(f:a7 w A n c xs)(g:a7 w B m d ys)(t:m<n)(D:n<=4294967296):
 Calls prog 257 #[.slice B m d, .slice A n c] w (jo (fun zs=>val zs=val xs+val ys/\zs.length<=n+1/\(zs.length=n+1->4294967296^n<=val zs)) w):=by
 obtain⟨i0,hi,l,hz1,o⟩:=info_parts Tryz.infoU32;have s:=f.cap;have z:=f.lim;have r:=g.cap;have C:=g.lim;have Hx:=Lib.hid f;have Hy:=Lib.hid g;clear f g;have q:(m:Int)<n:=O_
 go_enter func257,ntmps257
 go_wp2_with (at_make;refine wpList_make_own _ rfl _ _ 34 rfl w.heap.size 135 i0 (.int .u32 0) 1 underlying34 hi l hz1 .i64 .i64 _ (n+1) rfl rfl O_ (by rw[o];omega) (by simp only[maxLen];omega) (l_ _) ?_;intro u hown1 b)
 have a:Below w.heap.size w u:=(Below.refl _ _).grown b (l_ _) S_;have Hb1:=Lib.hid a;clear a b
 go_loopw [5,6,22] (fun v cr i wr=>∃(k cy:Nat)(zs:List Nat),k<=n/\i= .int .i64 k/\v= .slice (some ⟨w.heap.size,0,none⟩) k (n+1)/\cr= .int .u64 cy/\cy<2 /\
  (Wd zs/\val zs+4294967296^k*cy=val (xs.take k)+val (ys.take k))/\wr.ownsRow w.heap.size 135 1 (.slice (some ⟨w.heap.size,0,none⟩) k (n+1)) k (zs.map bP)/\Below w.heap.size w wr)
  (fun _ _ i _=>n-(intOf i).toNat)
 case atStart=>exact⟨0,0,[],Nat.zero_le _,rfl,rfl,rfl,by omega,⟨Wd.nil,by simp[val]⟩,hown1,Hb1.out⟩
 case round=>exact VA
def EB{zs:List Nat}(a:Wd zs){k:Nat}(f:zs.length<=k+1)(b:zs.length=k+1->4294967296^k<=val zs)(c:zs.length<=k->zs.length<=(digs (val zs)).length):zs=digs (val zs):=by
 have d:(digs (val zs)).length<=zs.length:=aL (fQ a);refine Ea a (ab _) (Nat.le_antisymm ?_ d) (ae _).symm;rcases Nat.lt_or_ge k zs.length with h|h
 ·refine Nat.le_of_not_lt fun h3=>?_;have e:=bE (n:=val zs) (k:=k) O_;have:=b O_;omega
 ·exact c h
def lA{a b:Nat}(h:a<=b):(digs a).length<=(digs b).length:=aL (Nat.lt_of_le_of_lt h (bE (l_ _)))
def Nh(A B:Option Addr)(n m c d:Nat)(a b:Nat)(w:World)(q:a7 w A n c (digs a))(r:a7 w B m d (digs b))(v:n<=4294967296)(x:m<=4294967296):
 Calls prog 257 #[.slice A n c, .slice B m d] w (jo (fun i=>i=digs (a+b)) w):=by
 have t:=q.len;have u:=r.len;rcases Nat.lt_or_ge n m with h|h
 ·refine(F6 B A m n d c _ _ w r q h x).mono ?_;rintro e y ⟨j,s,k,i,rfl,g,⟨f,l,o⟩,p⟩;rw[ae,ae,Nat.add_comm]at f;refine⟨j,s,k,i,rfl,g,?_,p⟩;rw[<- f];exact EB g.wd l o fun h6=>V_ h6 (by rw[f,<- u];exact lA (Nat.le_add_left _ _))
 ·refine(F8 A B n m c d _ _ w q r h v).mono ?_;rintro e y ⟨j,s,k,i,rfl,g,⟨f,l,o⟩,p⟩;rw[ae,ae]at f;refine⟨j,s,k,i,rfl,g,?_,p⟩;rw[<- f];exact EB g.wd l o fun h6=>V_ h6 (by rw[f,<- t];exact lA (Nat.le_add_right _ _))
def eK.wrd'{w:World}{g n:Nat}{zs:List Nat}(h:eK w g zs)(c:Wd zs)(a:zs.length=n)(b:n<=9223372036854775807):a7 w (some ⟨g,0,none⟩) n n zs:=by subst a;exact h.wrd c b
def CC(A B:Option Addr)(n m c d:Nat)(xs ys:List Nat)(w:World)(b:a7 w A n c xs)(f:a7 w B m d ys)(o:m<=n)(s:n<=4294967296):
 Calls prog 300 #[.slice A n c, .slice B m d] w (jo (fun zs=>zs=digs (val xs+val ys)) w):=by
 have l:=b.cap;have q:=b.lim;have h:=f.cap;have r:=f.lim;have Hx:=Lib.hid b;have Hy:=Lib.hid f;clear b f;have g:¬(n:Int)<m:=O_;have hmk:=eD (n+1) ((n:Int)+1) O_ O_;have hrow:=dp w (ax (n+1));have a:Below w.heap.size w (w.alloc (de (ax (n+1)))):=(Below.refl _ _).alloc (l_ _) _;have Hrow:=Lib.hid hrow;have Hb0:=Lib.hid a;clear hrow a
 go_enter func300,ntmps300
 go_wp2_with fail
 go_loopw [6,7] (fun cr i wr=>∃(k cy:Nat)(zs:List Nat),k<=n/\i= .int .i64 k/\cr= .int .u64 cy/\cy<2 /\
  (Wd zs/\zs.length=n+1/\(∀j,k<=j->zs.getD j 0=0)/\val zs+4294967296^k*cy=val (xs.take k)+val (ys.take k))/\eK wr w.heap.size zs/\Below w.heap.size w wr)
  (fun _ i _=>n-(intOf i).toNat)
 case atStart=>exact⟨0,0,ax (n+1),Nat.zero_le _,rfl,rfl,by omega,⟨b6 _,aN _,fun j _=>aV _ _,by simp[val,ax,bf]⟩,Hrow.out,Hb0.out⟩
 case round=>exact VK
def CB(A B:Option Addr)(n m c d:Nat)(xs ys:List Nat)(w:World)(b:a7 w A n c xs)(f:a7 w B m d ys)(o:m<n)(s:n<=4294967296):
 Calls prog 300 #[.slice B m d, .slice A n c] w (jo (fun zs=>zs=digs (val xs+val ys)) w):=by
 have l:=b.cap;have q:=b.lim;have h:=f.cap;have r:=f.lim;have Hx:=Lib.hid b;have Hy:=Lib.hid f;clear b f;have g:(m:Int)<n:=O_;have hmk:=eD (n+1) ((n:Int)+1) O_ O_;have hrow:=dp w (ax (n+1));have a:Below w.heap.size w (w.alloc (de (ax (n+1)))):=(Below.refl _ _).alloc (l_ _) _;have Hrow:=Lib.hid hrow;have Hb0:=Lib.hid a;clear hrow a
 go_enter func300,ntmps300
 go_wp2_with fail
 go_loopw [6,7] (fun cr i wr=>∃(k cy:Nat)(zs:List Nat),k<=n/\i= .int .i64 k/\cr= .int .u64 cy/\cy<2 /\
  (Wd zs/\zs.length=n+1/\(∀j,k<=j->zs.getD j 0=0)/\val zs+4294967296^k*cy=val (xs.take k)+val (ys.take k))/\eK wr w.heap.size zs/\Below w.heap.size w wr)
  (fun _ i _=>n-(intOf i).toNat)
 case atStart=>exact⟨0,0,ax (n+1),Nat.zero_le _,rfl,rfl,by omega,⟨b6 _,aN _,fun j _=>aV _ _,by simp[val,ax,bf]⟩,Hrow.out,Hb0.out⟩
 case round=>exact VK
def MW(A B:Option Addr)(n m c d:Nat)(xs ys:List Nat)(w:World)(a:a7 w A n c xs)(b:a7 w B m d ys)(e:n<=4294967296)(f:m<=4294967296):
 Calls prog 300 #[.slice A n c, .slice B m d] w (jo (fun g=>g=digs (val xs+val ys)) w):=by
 rcases Nat.lt_or_ge n m with h|h
 ·have:=CB B A m n d c ys xs w b a h f;rw[Nat.add_comm]at this;exact this
 ·exact CC A B n m c d xs ys w a b h e
def IC(x y a:Nat)(e:x<4294967296)(f:y<4294967296)(c:a<2):
 ∃d b:Nat,d<4294967296/\b<2/\IntKind.u64.wrap (IntKind.u64.wrap ((x:Int)-a)-y)/9223372036854775808=b/\IntKind.u64.wrap (IntKind.u64.wrap ((x:Int)-a)-y)%4294967296=d/\d+y+a=x+4294967296*b:=by
 rw[IntKind.wrap_u64,IntKind.wrap_u64];by_cases h:y+a<=x
 ·exact⟨x-y-a,0,by omega,by omega,by omega,by omega,by omega⟩
 ·exact⟨x+4294967296-y-a,1,by omega,by omega,by omega,by omega,by omega⟩
def Fe(x a:Nat)(e:x<4294967296)(c:a<2):
 ∃d b:Nat,d<4294967296/\b<2/\IntKind.u64.wrap ((x:Int)-a)/9223372036854775808=b/\IntKind.u64.wrap ((x:Int)-a)%4294967296=d/\d+0+a=x+4294967296*b:=by
 rw[IntKind.wrap_u64];by_cases h:a<=x
 ·exact⟨x-a,0,by omega,by omega,by omega,by omega,by omega⟩
 ·exact⟨x+4294967296-a,1,by omega,by omega,by omega,by omega,by omega⟩
def vx(x y a:Nat)(e:x<4294967296)(f:y<4294967296)(c:a<2):
 ∃d b:Nat,d<4294967296/\b<2/\(1:Int)-((x:Int)+4294967296-y-a)/4294967296=b/\((x:Int)+4294967296-y-a)%4294967296=d/\d+y+a=x+4294967296*b:=by
 by_cases h:y+a<=x
 ·exact⟨x-y-a,0,by omega,by omega,by omega,by omega,by omega⟩
 ·exact⟨x+4294967296-y-a,1,by omega,by omega,by omega,by omega,by omega⟩
def Mt(A B:Option Addr)(n m c d:Nat)(xs ys:List Nat)(w:World)(H:a7 w A n c xs)(I:a7 w B m d ys)(D:val ys<=val xs)(hs:n<=4294967296):
 Calls prog 258 #[.slice A n c, .slice B m d] w (jo (fun zs=>zs=digs (val xs-val ys)) w):=by
 have U:=H.cap;have X:=H.lim;have T:=I.cap;have Y:=I.lim;have G:=Lib.hid H;have J:=Lib.hid I;have Hle:=Lib.hid D;clear H I D;have hmk:=eD n n rfl O_;have a:=dp w (ax n);have u:Below w.heap.size w (w.alloc (de (ax n))):=(Below.refl _ _).alloc (l_ _) _;have Hrow:=Lib.hid a;have Hb0:=Lib.hid u;clear a u
 go_enter func258,ntmps258
 go_wp2_with fail
 go_loopw [6,15] (fun cr i wr=>∃(k t:Nat)(zs:List Nat),k<=n/\i= .int .i64 k/\cr= .int .u64 t/\t<2 /\
  (Wd zs/\zs.length=n/\(∀j,k<=j->zs.getD j 0=0)/\val zs+val (ys.take k)=val (xs.take k)+4294967296^k*t)/\eK wr w.heap.size zs/\Below w.heap.size w wr)
  (fun _ i _=>n-(intOf i).toNat)
 case atStart=>exact⟨0,0,ax n,Nat.zero_le _,rfl,rfl,by omega,⟨b6 _,aN _,fun j _=>aV _ _,by simp[val,ax,bf]⟩,Hrow.out,Hb0.out⟩
 case round=>
  obtain⟨k,t,zs,Z,rfl,rfl,v,P,a,O⟩:=hrel;have S:=a.frozen k;have Hv:=Lib.hid P;have Hb:=Lib.hid O;have Hr:=Lib.hid a;clear P O a hmk;by_cases N:k<n
  ·have K:=Hr.out.cell k (by rw[Hv.out.2.1];omega);obtain⟨Q,V,rfl,b,hc1⟩:=G.out.at O_;have hc1:=(Hb.out.cell (p:=⟨Q,V+k,none⟩) b).trans (hc1 k N);have s:=G.out.wd.getD k;generalize E:xs.getD k 0=x at hc1 s;have Hxx:=Lib.hid E;clear E;have C:(k:Int)<n:=O_;by_cases L:k<m
   ·obtain⟨R,W,rfl,g,l⟩:=J.out.at O_;have l:=(Hb.out.cell (p:=⟨R,W+k,none⟩) g).trans (l k L);have F:=J.out.wd.getD k;generalize f:ys.getD k 0=y at l F;have Hyy:=Lib.hid f;clear f;have z:(k:Int)<m:=O_;clear b g
    go_wp2_with fail
    go_roundw
    case rel=>obtain⟨dd,bb,g1,g2,g3,g4,g5⟩:=IC x y t s F v;exact Vz
    case measure=>simp[intOf];omega
   ·have z:¬(k:Int)<m:=O_;have f:ys.getD k 0=0:=by rw[H_,List.getElem?_eq_none (by rw[J.out.len];omega)];rfl
    have Hyy:=Lib.hid f;clear f b
    go_wp2_with fail
    go_roundw
    case rel=>obtain⟨dd,bb,g1,g2,g3,g4,g5⟩:=Fe x t s v;exact Vz
    case measure=>simp[intOf];omega
  ·obtain rfl:k=n:=O_;have C:¬(k:Int)<k:=O_;have h:val zs=val xs-val ys:=pM Hv.out.1 Hv.out.2.1 G.out.len Hle.out G.out.wd Hv.out.2.2.2;have q:a7 wr (some ⟨w.heap.size,0,none⟩) k k zs:=Hr.out.wrd' Hv.out.1 Hv.out.2.1 O_;have o:trim zs=digs (val xs-val ys):=by unfold trim;rw[h]
   have r:=q.trim;rw[o]at r;have Hw2:=Lib.hid q;have Hw3:=Lib.hid r;have Htr:=Lib.hid o;clear h q o r;exact Ui
def I8(A B:Option Addr)(n m c d:Nat)(xs ys:List Nat)(w:World)(q:a7 w A n c xs)(r:a7 w B m d ys)(o:val ys<=val xs)(F:n<=4294967296):
 Calls prog 301 #[.slice A n c, .slice B m d] w (jo (fun zs=>zs=digs (val xs-val ys)) w):=by
 have z:=q.cap;have C:=q.lim;have v:=r.cap;have D:=r.lim;have Hx:=Lib.hid q;have Hy:=Lib.hid r;have Hle:=Lib.hid o;clear q r o;have hmk:=eD n n rfl O_;have a:=dp w (ax n);have l:Below w.heap.size w (w.alloc (de (ax n))):=(Below.refl _ _).alloc (l_ _) _;have Hrow:=Lib.hid a;have Hb0:=Lib.hid l;clear a l
 go_enter func301,ntmps301
 go_wp2_with fail
 go_loopw [6,7] (fun cr i wr=>∃(k cy:Nat)(zs:List Nat),k<=n/\i= .int .i64 k/\cr= .int .u64 cy/\cy<2 /\
  (Wd zs/\zs.length=n/\(∀j,k<=j->zs.getD j 0=0)/\val zs+val (ys.take k)=val (xs.take k)+4294967296^k*cy)/\eK wr w.heap.size zs/\Below w.heap.size w wr)
  (fun _ i _=>n-(intOf i).toNat)
 case atStart=>exact⟨0,0,ax n,Nat.zero_le _,rfl,rfl,by omega,⟨b6 _,aN _,fun j _=>aV _ _,by simp[val,ax,bf]⟩,Hrow.out,Hb0.out⟩
 case round=>
  obtain⟨k,cy,zs,E,rfl,rfl,hcy,t,a,s⟩:=hrel;have u:=a.frozen k;have Hv:=Lib.hid t;have Hb:=Lib.hid s;have Hr:=Lib.hid a;clear t s a hmk;by_cases hkn:k<n
  ·exact VN
  ·obtain rfl:k=n:=O_;have hkn':¬(k:Int)<k:=O_;have b:val zs=val xs-val ys:=pM Hv.out.1 Hv.out.2.1 Hx.out.len Hle.out Hx.out.wd Hv.out.2.2.2;have g:a7 wr (some ⟨w.heap.size,0,none⟩) k k zs:=Hr.out.wrd' Hv.out.1 Hv.out.2.1 O_;have f:trim zs=digs (val xs-val ys):=by unfold trim;rw[b]
   have h:=g.trim;rw[f]at h;have Hw2:=Lib.hid g;have Hw3:=Lib.hid h;have Htr:=Lib.hid f;clear b g f h;exact TW
end Go.Proofs.YtnchbpoopnjghaaGreatDoor
