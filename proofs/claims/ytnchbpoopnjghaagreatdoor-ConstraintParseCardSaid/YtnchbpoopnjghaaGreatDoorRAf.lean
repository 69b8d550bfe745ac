/- Sign, Bits and shifted of the program. shiftRight and half of the program. divide of the program where the quotient is 0 or the dividend has at most two words. -/
import Derived.Test.YtnchbpoopnjghaaGreatDoorRAe
import Derived.Test.YtnchbpoopnjghaaGreatDoorRShelf
set_option maxHeartbeats 100000000
set_option linter.all false
open Go.Proofs.Tryz
namespace Go.Proofs.YtnchbpoopnjghaaGreatDoor
open Go.RowKit
def Tj(z:Int)(w:World)(e:Ending)(w':World):Prop:=e= .returned (.int .i64 z)/\Below w.heap.size w w'
def Dd(neg:Bool)(xs:List Nat):Int:=if val xs=0 then 0 else if neg then -1 else 1
def Ao(neg:Bool)(xs:List Nat):Dd neg xs=(bv neg xs).sign:=by
 unfold Dd bv;cases neg
 ·by_cases h:val xs=0
  ·simp[h]
  ·simp only[h,if_false];exact(Int.sign_eq_one_of_pos (by simp;omega)).symm
 ·by_cases h:val xs=0
  ·simp[h]
  ·simp only[h,if_false,if_true];exact(Int.sign_eq_neg_one_of_neg O_).symm
def r9{zs:List Nat}(g:Wd zs)(i:Nz zs)(k:Nat)(j:zs.length=k+1):zs.getD k 0≠0/\bitLen (val zs)=32*k+bitLen (zs.getD k 0):=by
 have d:=bQ zs (k+1) (Nat.succ_pos k) O_;rw[Nat.add_sub_cancel,show zs.drop (k+1)=[] from List.drop_of_length_le O_]at d;have c:zs=zs.take k++[zs.getD k 0]:=by rw[<- d,List.take_append_drop]
 have h0:zs.getD k 0≠0:=by intro h;rw[h]at c;exact i (by rw[c,List.getLast?_concat])
 generalize zs.getD k 0=x at *
 have f:val zs=val (zs.take k)+4294967296^k*x:=by
  conv=>lhs;rw[c]
  rw[bV,U_,Nat.min_eq_left O_];simp only[val];rw[Nat.mul_zero,Nat.add_zero]
 have b:=ff g k;have e:(4294967296:Nat)^k=2^(32*k):=by rw[Nat.pow_mul,show(2:Nat)^32=4294967296 by decide]
 have a:val zs/2^(32*k)=x:=by rw[f,<- e,Nat.add_mul_div_left _ _ (Nat.pow_pos O_),Nat.div_eq_of_lt b,J_]
 exact⟨h0,by rw[bitLen_shift (val zs) (32*k) (by rw[a];exact h0),a]⟩
def qg(x:Nat)(h:x<4294967296):bitLen x<=32:=by
 unfold bitLen;split
 ·omega
 ·rename_i h0;have:=(Nat.log2_lt h0).2 (show x<2^32 by rw[show(2:Nat)^32=4294967296 by decide];exact h);omega
def xa(f n:Nat)(h:n<2^f):Lib.bitLenAux f n=bitLen n:=by
 induction f generalizing n with
 |zero=>have:n=0:=O_;subst this;rfl
 |succ f b=>
  unfold Lib.bitLenAux;by_cases h0:n=0
  ·subst h0;rfl
  ·rw[if_neg h0,b _ (by rw[Nat.pow_succ]at h;omega)];by_cases a:n/2=0
   ·have:n=1:=O_;subst this;decide
   ·exact(bitLen_shift n 1 a).symm
def AY{z:Int}(h: -9223372036854775808<=z/\z<=9223372036854775807):wrap64 z=z:=by unfold wrap64;omega
def Ct(n:Nat)(h:n<4294967296):Lib.bitLen n=bitLen n:=xa 64 n (k_ h D_)
def Ej(s:Nat)(h:s<=31):2^s*2^(32-s)=4294967296:=by rw[<- Nat.pow_add,show s+(32-s)=32 by omega]
def IY(s x a:Nat)(h:s<=31)(m:x<4294967296)(_hx2:a<4294967296):
 x/2^s+a%2^s*2^(32-s)<4294967296 /\
 bits BinOp.or IntKind.u32 ((x/2^s:Nat):Int) (IntKind.u64.wrap ((a:Int)*2^(32-s))%4294967296)=((x/2^s+a%2^s*2^(32-s):Nat):Int):=by
 have f:=Ej s h;have c:0<2^s:=Nat.two_pow_pos s;have n:x/2^s<2^(32-s):=by rw[Nat.div_lt_iff_lt_mul c,Nat.mul_comm,f];exact m
 have l:a%2^s<2^s:=Nat.mod_lt _ c;have e:(a%2^s+1)*2^(32-s)<=2^s*2^(32-s):=P_ _ l;rw[Nat.succ_mul,f]at e;have g:IntKind.u64.wrap ((a:Int)*2^(32-s))%4294967296=((a%2^s*2^(32-s):Nat):Int):=by
  have j:(2:Int)^(32-s)=((2^(32-s):Nat):Int):=by rw[Int.natCast_pow];rfl
  have k:a*2^(32-s)%4294967296=a%2^s*2^(32-s):=by rw[<- f,Nat.mul_mod_mul_right]
  rw[IntKind.wrap_u64,j,<- Int.natCast_mul];rw[<- k];generalize a*2^(32-s)=z;omega
 rw[g];have d:=Nat.shiftLeft_add_eq_or_of_lt (i:=32-s) (b:=x/2^s) n (a%2^s);rw[Nat.shiftLeft_eq]at d;generalize x/2^s=y at *;generalize a%2^s*2^(32-s)=z at *;refine⟨by omega,?_⟩;rw[u32_or_nat _ _ O_ O_,Nat.or_comm,<- d,Nat.add_comm]
def tO{xs zs:List Nat}{s k c:Nat}(a:s<=31)(g:k<zs.length)(l:zs.getD k 0=0)(h:val zs*2^s+c=val (xs.take k)+4294967296^k*(xs.getD k 0%2^s)):
 val (zs.set k (xs.getD k 0/2^s+xs.getD (k+1) 0%2^s*2^(32-s)))*2^s+c=val (xs.take (k+1))+4294967296^(k+1)*(xs.getD (k+1) 0%2^s):=by
 have b:=iK zs k (xs.getD k 0/2^s+xs.getD (k+1) 0%2^s*2^(32-s)) g;rw[l,Nat.mul_zero,Nat.add_zero]at b;rw[b,ai,aY];have j:=Ej s a;have d:=Nat.div_add_mod (xs.getD k 0) (2^s);generalize xs.getD (k+1) 0%2^s=m2 at *;generalize f:xs.getD k 0/2^s=d1 at *;generalize i:xs.getD k 0%2^s=m1 at *;rw[<- d];generalize 4294967296^k=B at *;have e:(val zs+B*(d1+m2*2^(32-s)))*2^s=val zs*2^s+B*(d1*2^s+m2*(2^s*2^(32-s))):=by grind
 rw[e,j]
 grind
def DG{v b s a:Nat}(h0:b<2^s)(h:v*2^s+b=a):v=a/2^s:=by subst h;rw[Nat.mul_comm,Nat.mul_add_div (Nat.two_pow_pos s),Nat.div_eq_of_lt h0,Nat.add_zero]
def xd(A:Option Addr)(n c s:Nat)(xs:List Nat)(w:World)(P:a7 w A n c xs)(hs:n<=4294967296)(u:s<=31):
 Calls prog 319 #[.slice A n c, .int .i64 s] w (jo (fun f=>val f=val xs/2^s/\f.length=n) w):=by
 have ad:=P.cap;have hc:=P.lim;have z:=Lib.hid P;clear P;have hmk:=eD n n rfl O_;have a:=dp w (ax n);have D:Below w.heap.size w (w.alloc (de (ax n))):=(Below.refl _ _).alloc (l_ _) _;have Hrow:=Lib.hid a;have Hb0:=Lib.hid D;clear a D
 go_enter func319,ntmps319
 go_wp2_with fail
 go_loopw [13] (fun i wr=>∃(k:Nat)(f:List Nat),k<=n/\i= .int .i64 k /\
  (Wd f/\f.length=n/\(∀j,k<=j->f.getD j 0=0)/\val f*2^s+xs.getD 0 0%2^s=val (xs.take k)+4294967296^k*(xs.getD k 0%2^s))/\eK wr w.heap.size f/\Below w.heap.size w wr)
  (fun i _=>n-(intOf i).toNat)
 case atStart=>exact⟨0,ax n,Nat.zero_le _,rfl,⟨b6 _,aN _,fun j _=>aV _ _,by unfold ax;rw[bf];simp[val]⟩,Hrow.out,Hb0.out⟩
 case round=>
  obtain⟨k,f,hk,rfl,t,a,B⟩:=hrel;have T:=a.frozen k;by_cases h:k<n
  ·have S:=a.cell k (by rw[t.2.1];omega);obtain⟨X,Z,rfl,r,hc1⟩:=z.out.at O_;have F:=(B.cell (p:=⟨X,Z+k,none⟩) r).trans (hc1 k h);have v:=z.out.wd.getD k;have l:=fun y=>a.set k y;have E:=fun y=>B.setCell (p:=⟨w.heap.size,k,none⟩) (l_ _) (bP y);have d:=Lib.hid t;have N:=Lib.hid B;have V:=Lib.hid a;clear t B a hmk;generalize K:xs.getD k 0=x at F v;have Hxx:=Lib.hid K;clear K;have H:(k:Int)<n:=O_;by_cases U:k+1<n
   ·have G:=hc1 (k+1) U;have I:(k:Int)+1<n:=O_;clear hc1 l E
    go_wp2_with fail
    have O:(x:Int)/2^s=((x/2^s:Nat):Int):=by rw[Int.natCast_ediv,Int.natCast_pow];rfl
    rw[O];obtain⟨W,g⟩:∃W,W=wr.setCell ⟨w.heap.size,k,none⟩ (bP (x/2^s)):=⟨_,rfl⟩;have e:=V.out.set k (x/2^s);have q:=N.out.setCell (p:=⟨w.heap.size,k,none⟩) (l_ _) (bP (x/2^s));have L:k<(f.set k (x/2^s)).length:=by rw[List.length_set,d.out.2.1];exact h
    rw[<- g]at e q;have Y:=e.cell k L;rw[eg (by rw[d.out.2.1];exact h)]at Y;have d2:=e.frozen k;have d3:=(q.cell (p:=⟨X,Z+(k+1),none⟩) r).trans G;have J:=z.out.wd.getD (k+1);obtain⟨R,o⟩:∃R,R=xs.getD (k+1) 0:=⟨_,rfl⟩;rw[<- o]at d3 J;obtain⟨y,Q⟩:∃y,y=x/2^s:=⟨_,rfl⟩;rw[<- Q]at Y e g;unfold bP at g;rw[<- Q,<- g];have C:=Lib.hid (And.intro e (And.intro q (And.intro o Q)));clear g e q L o Q O G
    go_region
    rw[C.out.2.2.2];obtain⟨q1,q2⟩:=IY s x R u v J;rw[q2]
    go_wp2
    go_roundw
    case rel=>refine⟨k+1,(f.set k y).set k (x/2^s+R%2^s*2^(32-s)),by omega,by go_num,?_,(C.out.1.set _ _).drew,(C.out.2.1.setCell (l_ _) _).drew⟩;rw[List.set_set];refine⟨di d.out.1 _ _ q1,by rw[List.length_set];exact d.out.2.1,fun j hj=>by rw[getD_set_ne O_];exact d.out.2.2.1 j O_,?_⟩;have:=tO u (by rw[d.out.2.1];exact h) (d.out.2.2.1 k (l_ _)) d.out.2.2.2;rw[Hxx.out,<- C.out.2.2.1]at this;rw[<- C.out.2.2.1];exact this
    case measure=>simp[intOf];omega
   ·have I:¬(k:Int)+1<n:=O_;clear hc1 l E
    go_wp2_with fail
    go_roundw
    case rel=>
     have O:(x:Int)/2^s=((x/2^s:Nat):Int):=by rw[Int.natCast_ediv,Int.natCast_pow];rfl
     have m:xs.getD (k+1) 0=0:=by rw[H_,List.getElem?_eq_none (by rw[z.out.len];omega)];rfl
     rw[O];refine⟨k+1,f.set k (x/2^s),by omega,by go_num,?_,V.out.set _ _,N.out.setCell (l_ _) _⟩;have:=tO u (by rw[d.out.2.1];exact h) (d.out.2.2.1 k (l_ _)) d.out.2.2.2;rw[Hxx.out,m,Nat.zero_mod,Nat.zero_mul,Nat.add_zero]at this;rw[m,Nat.zero_mod];exact⟨di d.out.1 _ _ (Nat.lt_of_le_of_lt (Nat.div_le_self _ _) v),by rw[List.length_set];exact d.out.2.1,fun j hj=>by rw[getD_set_ne O_];exact d.out.2.2.1 j O_,this⟩
    case measure=>simp[intOf];omega
  ·obtain rfl:k=n:=O_;have H:¬(k:Int)<k:=O_;have m:xs.getD k 0=0:=by rw[H_,List.getElem?_eq_none (by rw[z.out.len];omega)];rfl
   have b:=t.2.2.2;rw[m,Nat.zero_mod,Nat.mul_zero,Nat.add_zero,K_ (by rw[z.out.len];exact l_ _)]at b;have b:=DG (Nat.mod_lt _ (Nat.two_pow_pos s)) b;have Hw:=Lib.hid (a.wrd' t.1 t.2.1 O_);have Hval:=Lib.hid b;have N:=Lib.hid B;have d:=Lib.hid t.2.1;clear b m t a B hmk T
   go_wp2_with fail
   go_ret
   exact⟨_,_,_,_,rfl,Hw.out,⟨Hval.out,d.out⟩,N.out⟩
def j2(q r:Nat)(w:World)(e:Ending)(w':World):Prop:=∃(A:Option Addr)(n c:Nat)(B:Option Addr)(m d:Nat),
 e= .returned (.tuple #[.slice A n c, .slice B m d])/\a7 w' A n c (digs q)/\a7 w' B m d (digs r)/\Below w.heap.size w w'
def jA{a b:Int}(h:¬a<b):0<=bG a b:=by unfold bG;rw[if_neg h];split <;>decide
def jg(w:World)(q:Nat):gi w (w.drewN q):=⟨rfl,rfl,rfl,l_ _,fun _ _=>rfl⟩
set_option maxRecDepth 100000 in
def Ak(A B:Option Addr)(n c m d a b:Nat)(w:World)(h:a7 w A n c (digs a))(r:a7 w B m d (digs b))(g:a<b)(y:n<=4294967296):
 Calls prog 282 #[.slice A n c, .slice B m d] w (j2 (a/b) (a%b) w):=by
 have o:a/b=0:=Nat.div_eq_of_lt g;have p:a%b=a:=Nat.mod_eq_of_lt g;rw[o,p];have f:=lE A B n m c d (digs a) (digs b) w h r;rw[gV,fU O_]at f;have hlen:=h.len;have u:=Lib.hid h;have t:=Lib.hid f;have x:=Lib.hid hlen;clear h r f o p hlen
 go_enter func282,ntmps282
 go_wp2_with (first
  |(go_at_call 235;(with_reducible refine t.out.mono ?_);rintro e z ⟨rfl,q,rfl⟩)
  |(go_at_call 236;(with_reducible refine(oS A n c (digs a) _ (u.out.drewN _) O_).mono ?_);rintro e C ⟨k,s,l,D,rfl,j,rfl,i⟩))
 refine bodyPost_ret (v:= .tuple #[.slice none 0 0, .slice k s l]) (by simp[results,results282,go_sem]) rfl ?_;exact⟨none,0,0,k,s,l,rfl,by rw[aG];exact a7.nil _,j,(jg w q).trans i⟩
def yV{a n:Nat}(h:(digs a).length=n)(b:n<=2):a<18446744073709551616:=by have:=bE (n:=a) (k:=2) O_;omega
set_option maxRecDepth 100000 in
def wA(A B:Option Addr)(n c m d a b:Nat)(w:World)(t:a7 w A n c (digs a))(u:a7 w B m d (digs b))(J:b<=a)(L:0<b)(hs:n<=2):
 Calls prog 282 #[.slice A n c, .slice B m d] w (j2 (a/b) (a%b) w):=by
 have f:=lE A B n m c d (digs a) (digs b) w t u;rw[gV]at f;have ho:=jA (a:=(a:Int)) (b:=b) O_;have k:=yV t.len hs;have ad:b<18446744073709551616:=O_;have P:m<=2:=by rw[<- u.len];exact aL O_
 have I:=n5 A n c (digs a);have K:=n5 B m d (digs b);rw[ae]at I K;have U:=Lib.hid (fun W hW=>I W hW hs);have V:=Lib.hid (fun W hW=>K W hW P);have Y:=Lib.hid t;have Z:=Lib.hid u;have X:=Lib.hid f;generalize bG a b=o at *;obtain⟨h,g⟩:∃h,h=a/b:=⟨_,rfl⟩;obtain⟨i,hr0⟩:∃i,i=a%b:=⟨_,rfl⟩;have hq:h<18446744073709551616:=by rw[g];exact Nat.lt_of_le_of_lt (Nat.div_le_self _ _) k
 have hr:i<18446744073709551616:=by rw[hr0];exact Nat.lt_of_le_of_lt (Nat.mod_le _ _) k
 have E:(a:Int)/b=h:=by rw[g,Int.natCast_ediv]
 have F:(a:Int)%b=i:=by rw[hr0,Int.natCast_emod]
 have a1:¬b=0:=O_;have ag:Int.tdiv (a:Int) b=h:=by rw[Int.tdiv_eq_ediv_of_nonneg O_,E]
 have ao:Int.tmod (a:Int) b=i:=by rw[Int.tmod_eq_emod_of_nonneg O_,F]
 have al:IntKind.u64.wrap (h:Int)=h:=by rw[IntKind.wrap_u64];omega
 have a0:IntKind.u64.wrap (i:Int)=i:=by rw[IntKind.wrap_u64];omega
 rw[<- g,<- hr0];have Hq0:=Lib.hid g;have Hr0:=Lib.hid hr0;clear g hr0;have R:(n:Int)<=2:=O_;have a2:¬o<0:=O_;clear t u f I K J L ho
 go_enter func282,ntmps282
 go_wp2_with (first
  |(go_at_call 235;(with_reducible refine X.out.mono ?_);rintro e w' ⟨rfl,q,rfl⟩)
  |(go_at_call 283;(with_reducible refine(U.out _ (Y.out.drewN _)).mono ?_);rintro e w1 ⟨rfl,j⟩)
  |(go_at_call 283;(with_reducible refine(V.out _ ((Z.out.drewN _).below j)).mono ?_);rintro e x ⟨rfl,p⟩))
 rename_i K1 H Q K2 l;clear H Q;have HK2:=Lib.hid l;clear l U V X Y Z R;have G:gi x x.drew:=(gi.refl x).drew
 go_region_held3 (fun w'=>gi x w')
  (first|exact G|assumption|exact gi.more (by assumption) (by assumption))
  (first
  |((go_at_call 233;(with_reducible refine(jS h hq _).mono ?_);rintro e w3 ⟨y,S,C,a3,rfl,r,rfl,N⟩))
  |((go_at_call 233;(with_reducible refine(jS i hr _).mono ?_);rintro e w4 ⟨z,T,D,a4,rfl,s,rfl,O⟩)))
 all_goals(
  refine HK2.out _ _ ?_
  go_wp2
  refine bodyPost_ret (v:= .tuple #[.slice y S C, .slice z T D]) (by simp[results,results282,go_sem]) rfl ?_;first
   |exact⟨y,S,C,z,T,D,rfl,r.below O,s,(((jg w q).more j).more p).trans (by assumption)⟩
   |exact⟨y,S,C,z,T,D,rfl,r,s.below N,(((jg w q).more j).more p).trans (by assumption)⟩)
end Go.Proofs.YtnchbpoopnjghaaGreatDoor
