/- Sign, Bits and shifted of the program. shiftRight and half of the program. divide of the program where the quotient is 0 or the dividend has at most two words. -/
import Derived.Test.YtnchbpoopnjghaaGreatDoorQAe
import Derived.Test.YtnchbpoopnjghaaGreatDoorQShelf
set_option maxHeartbeats 100000000
set_option linter.all false
open Go.Proofs.Tryz
namespace Go.Proofs.YtnchbpoopnjghaaGreatDoor
open Go.RowKit
def Tq (z:Int) (w:World) (e:Ending) (w':World):Prop:=e= .returned (.int .i64 z)/\Below w.heap.size w w'
def EP (neg:Bool) (xs:List Nat):Int:=if val xs=0 then 0 else if neg then -1 else 1
theorem zd (neg:Bool) (xs:List Nat):EP neg xs=(bI neg xs).sign:=by
 unfold EP bI;cases neg
 ·by_cases h:val xs=0
  ·simp[h]
  ·simp only[h,if_false];exact(Int.sign_eq_one_of_pos (by simp;omega)).symm
 ·by_cases h:val xs=0
  ·simp[h]
  ·simp only[h,if_false,if_true];exact(Int.sign_eq_neg_one_of_neg O_).symm
theorem sC {zs:List Nat} (hw:Wd zs) (hz:Nz zs) (k:Nat) (hl:zs.length=k+1):zs.getD k 0≠0/\bitLen (val zs)=32*k+bitLen (zs.getD k 0):=by
 have hd:=cg zs (k+1) (Nat.succ_pos k) O_;rw[Nat.add_sub_cancel,show zs.drop (k+1)=[] from List.drop_of_length_le O_]at hd;have ht:zs=zs.take k++[zs.getD k 0]:=by rw[<- hd,List.take_append_drop]
 have h0:zs.getD k 0≠0:=by
  intro h;rw[h]at ht;exact hz (by rw[ht,List.getLast?_concat])
 generalize zs.getD k 0=x at *
 have hv:val zs=val (zs.take k)+4294967296^k*x:=by
  conv=>lhs;rw[ht]
  rw[cu,U_,Nat.min_eq_left O_];simp only[val];rw[Nat.mul_zero,Nat.add_zero]
 have hlt:=fc hw k;have hp:(4294967296:Nat)^k=2^(32*k):=by rw[Nat.pow_mul,show(2:Nat)^32=4294967296 by decide]
 have hdv:val zs/2^(32*k)=x:=by
  rw[hv,<- hp,Nat.add_mul_div_left _ _ (Nat.pow_pos O_),Nat.div_eq_of_lt hlt,J_]
 exact⟨h0,by rw[bitLen_shift (val zs) (32*k) (by rw[hdv];exact h0),hdv]⟩
theorem qb (x:Nat) (h:x<4294967296):bitLen x<=32:=by
 unfold bitLen
 split
 ·omega
 ·rename_i h0
  have:=(Nat.log2_lt h0).2 (show x<2^32 by rw[show(2:Nat)^32=4294967296 by decide];exact h);omega
theorem xH (f n:Nat) (h:n<2^f):Lib.bitLenAux f n=bitLen n:=by
 induction f generalizing n with
 |zero=>
  have:n=0:=O_
  subst this;rfl
 |succ f ih=>
  unfold Lib.bitLenAux
  by_cases h0:n=0
  ·subst h0;rfl
  ·rw[if_neg h0,ih _ (by rw[Nat.pow_succ]at h;omega)]
   by_cases h1:n/2=0
   ·have:n=1:=O_
    subst this;decide
   ·exact(bitLen_shift n 1 h1).symm
theorem Cx {z:Int} (h: -9223372036854775808<=z/\z<=9223372036854775807):wrap64 z=z:=by unfold wrap64;omega
theorem Cf (n:Nat) (h:n<4294967296):Lib.bitLen n=bitLen n:=xH 64 n (k_ h D_)
theorem Dp (s:Nat) (h:s<=31):2^s*2^(32-s)=4294967296:=by
 rw[<- Nat.pow_add,show s+(32-s)=32 by omega]
theorem JK (s x x2:Nat) (h:s<=31) (hx:x<4294967296) (_hx2:x2<4294967296):
 x/2^s+x2%2^s*2^(32-s)<4294967296 /\
 bits BinOp.or IntKind.u32 ((x/2^s:Nat):Int) (IntKind.u64.wrap ((x2:Int)*2^(32-s))%4294967296)=((x/2^s+x2%2^s*2^(32-s):Nat):Int):=by
 have hp:=Dp s h;have hs0:0<2^s:=Nat.two_pow_pos s
 have hy:x/2^s<2^(32-s):=by rw[Nat.div_lt_iff_lt_mul hs0,Nat.mul_comm,hp];exact hx
 have hm:x2%2^s<2^s:=Nat.mod_lt _ hs0
 have hm1:(x2%2^s+1)*2^(32-s)<=2^s*2^(32-s):=P_ _ hm;rw[Nat.succ_mul,hp]at hm1
 have e1:IntKind.u64.wrap ((x2:Int)*2^(32-s))%4294967296=((x2%2^s*2^(32-s):Nat):Int):=by
  have e2:(2:Int)^(32-s)=((2^(32-s):Nat):Int):=by rw[Int.natCast_pow];rfl
  have e3:x2*2^(32-s)%4294967296=x2%2^s*2^(32-s):=by
   rw[<- hp,Nat.mul_mod_mul_right]
  rw[IntKind.wrap_u64,e2,<- Int.natCast_mul];rw[<- e3];generalize x2*2^(32-s)=z;omega
 rw[e1];have hsh:=Nat.shiftLeft_add_eq_or_of_lt (i:=32-s) (b:=x/2^s) hy (x2%2^s);rw[Nat.shiftLeft_eq]at hsh;generalize x/2^s=y at *;generalize x2%2^s*2^(32-s)=z at *;refine⟨by omega,?_⟩;rw[u32_or_nat _ _ O_ O_,Nat.or_comm,<- hsh,Nat.add_comm]
theorem sI {xs zs:List Nat} {s k x0:Nat} (h31:s<=31) (hk:k<zs.length) (hz:zs.getD k 0=0)
 (h:val zs*2^s+x0=val (xs.take k)+4294967296^k*(xs.getD k 0%2^s)):
 val (zs.set k (xs.getD k 0/2^s+xs.getD (k+1) 0%2^s*2^(32-s)))*2^s+x0=val (xs.take (k+1))+4294967296^(k+1)*(xs.getD (k+1) 0%2^s):=by
 have hv:=ie zs k (xs.getD k 0/2^s+xs.getD (k+1) 0%2^s*2^(32-s)) hk;rw[hz,Nat.mul_zero,Nat.add_zero]at hv;rw[hv,an,bh];have hp:=Dp s h31;have hd:=Nat.div_add_mod (xs.getD k 0) (2^s);generalize xs.getD (k+1) 0%2^s=m2 at *;generalize hd1:xs.getD k 0/2^s=d1 at *;generalize hm1:xs.getD k 0%2^s=m1 at *;rw[<- hd];generalize 4294967296^k=B at *;have e:(val zs+B*(d1+m2*2^(32-s)))*2^s=val zs*2^s+B*(d1*2^s+m2*(2^s*2^(32-s))):=by grind
 rw[e,hp]
 grind
theorem CX {v x0 s a:Nat} (h0:x0<2^s) (h:v*2^s+x0=a):v=a/2^s:=by
 subst h;rw[Nat.mul_comm,Nat.mul_add_div (Nat.two_pow_pos s),Nat.div_eq_of_lt h0,Nat.add_zero]
theorem wn (A:Option Addr) (n c s:Nat) (xs:List Nat) (w:World) (hx:bi w A n c xs) (hs:n<=4294967296) (h31:s<=31):
 Calls Tryz.prog 319 #[.slice A n c, .int .i64 s] w (js (fun zs=>val zs=val xs/2^s/\zs.length=n) w):=by
 have hnc:=hx.cap;have hc:=hx.lim;have Hx:=Lib.hid hx;clear hx;have hmk:=eJ n n rfl O_;have hrow:=dy w (aF n);have hb0:Below w.heap.size w (w.alloc (du (aF n))):=(Below.refl _ _).alloc (l_ _) _;have Hrow:=Lib.hid hrow;have Hb0:=Lib.hid hb0;clear hrow hb0
 go_enter func319,ntmps319
 go_wp2_with fail
 go_loopw [13] (fun i wr=>∃(k:Nat) (zs:List Nat),k<=n/\i= .int .i64 k /\
  (Wd zs/\zs.length=n/\(∀j,k<=j->zs.getD j 0=0)/\val zs*2^s+xs.getD 0 0%2^s=val (xs.take k)+4294967296^k*(xs.getD k 0%2^s))/\eS wr w.heap.size zs/\Below w.heap.size w wr)
  (fun i _=>n-(intOf i).toNat)
 case atStart=>exact⟨0,aF n,Nat.zero_le _,rfl,⟨cH _,aO _,fun j _=>a6 _ _,by unfold aF;rw[bv];simp[val]⟩,Hrow.out,Hb0.out⟩
 case round=>
  obtain⟨k,zs,hk,rfl,hv,hrow,hb⟩:=hrel;have hfr:=hrow.frozen k
  by_cases hkn:k<n
  ·have hcell:=hrow.cell k (by rw[hv.2.1];omega)
   obtain⟨b1,o1,rfl,hbb1,hc1⟩:=Hx.out.at O_;have hc1k:=(hb.cell (p:=⟨b1,o1+k,none⟩) hbb1).trans (hc1 k hkn);have hx1:=Hx.out.wd.getD k;have hrow2:=fun y=>hrow.set k y
   have hb2:=fun y=>hb.setCell (p:=⟨w.heap.size,k,none⟩) (l_ _) (bZ y)
   have Hv:=Lib.hid hv;have Hb:=Lib.hid hb;have Hr:=Lib.hid hrow;clear hv hb hrow hmk;generalize hxx:xs.getD k 0=x at hc1k hx1;have Hxx:=Lib.hid hxx;clear hxx;have hkn':(k:Int)<n:=O_
   by_cases hk1:k+1<n
   ·have hc2:=hc1 (k+1) hk1
    have hkn2:(k:Int)+1<n:=O_
    clear hc1 hrow2 hb2
    go_wp2_with fail
    have e1:(x:Int)/2^s=((x/2^s:Nat):Int):=by rw[Int.natCast_ediv,Int.natCast_pow];rfl
    rw[e1];obtain⟨W1,hW1⟩:∃W1,W1=wr.setCell ⟨w.heap.size,k,none⟩ (bZ (x/2^s)):=⟨_,rfl⟩;have rW1:=Hr.out.set k (x/2^s);have bW1:=Hb.out.setCell (p:=⟨w.heap.size,k,none⟩) (l_ _) (bZ (x/2^s));have hzl:k<(zs.set k (x/2^s)).length:=by rw[List.length_set,Hv.out.2.1];exact hkn
    rw[<- hW1]at rW1 bW1;have d1:=rW1.cell k hzl;rw[eC (by rw[Hv.out.2.1];exact hkn)]at d1;have d2:=rW1.frozen k;have d3:=(bW1.cell (p:=⟨b1,o1+(k+1),none⟩) hbb1).trans hc2;have hx2:=Hx.out.wd.getD (k+1);obtain⟨x2,hxx2⟩:∃x2,x2=xs.getD (k+1) 0:=⟨_,rfl⟩;rw[<- hxx2]at d3 hx2;obtain⟨y,hy⟩:∃y,y=x/2^s:=⟨_,rfl⟩;rw[<- hy]at d1 rW1 hW1;unfold bZ at hW1;rw[<- hy,<- hW1];have HW:=Lib.hid (And.intro rW1 (And.intro bW1 (And.intro hxx2 hy)));clear hW1 rW1 bW1 hzl hxx2 hy e1 hc2
    go_region
    rw[HW.out.2.2.2];obtain⟨q1,q2⟩:=JK s x x2 h31 hx1 hx2;rw[q2]
    go_wp2
    go_roundw
    case rel=>
     refine⟨k+1,(zs.set k y).set k (x/2^s+x2%2^s*2^(32-s)),by omega,by go_num,?_,(HW.out.1.set _ _).drew,(HW.out.2.1.setCell (l_ _) _).drew⟩;rw[List.set_set];refine⟨dr Hv.out.1 _ _ q1,by rw[List.length_set];exact Hv.out.2.1,fun j hj=>by rw[getD_set_ne O_];exact Hv.out.2.2.1 j O_,?_⟩;have:=sI h31 (by rw[Hv.out.2.1];exact hkn) (Hv.out.2.2.1 k (l_ _)) Hv.out.2.2.2;rw[Hxx.out,<- HW.out.2.2.1]at this;rw[<- HW.out.2.2.1];exact this
    case measure=>simp[intOf];omega
   ·have hkn2:¬(k:Int)+1<n:=O_
    clear hc1 hrow2 hb2
    go_wp2_with fail
    go_roundw
    case rel=>
     have e1:(x:Int)/2^s=((x/2^s:Nat):Int):=by rw[Int.natCast_ediv,Int.natCast_pow];rfl
     have hx0:xs.getD (k+1) 0=0:=by rw[H_,List.getElem?_eq_none (by rw[Hx.out.len];omega)];rfl
     rw[e1];refine⟨k+1,zs.set k (x/2^s),by omega,by go_num,?_,Hr.out.set _ _,Hb.out.setCell (l_ _) _⟩;have:=sI h31 (by rw[Hv.out.2.1];exact hkn) (Hv.out.2.2.1 k (l_ _)) Hv.out.2.2.2;rw[Hxx.out,hx0,Nat.zero_mod,Nat.zero_mul,Nat.add_zero]at this;rw[hx0,Nat.zero_mod];exact⟨dr Hv.out.1 _ _ (Nat.lt_of_le_of_lt (Nat.div_le_self _ _) hx1),by rw[List.length_set];exact Hv.out.2.1,fun j hj=>by rw[getD_set_ne O_];exact Hv.out.2.2.1 j O_,this⟩
    case measure=>simp[intOf];omega
  ·obtain rfl:k=n:=O_
   have hkn':¬(k:Int)<k:=O_
   have hx0:xs.getD k 0=0:=by rw[H_,List.getElem?_eq_none (by rw[Hx.out.len];omega)];rfl
   have hval:=hv.2.2.2;rw[hx0,Nat.zero_mod,Nat.mul_zero,Nat.add_zero,K_ (by rw[Hx.out.len];exact l_ _)]at hval;have hval:=CX (Nat.mod_lt _ (Nat.two_pow_pos s)) hval;have Hw:=Lib.hid (hrow.wrd' hv.1 hv.2.1 O_);have Hval:=Lib.hid hval;have Hb:=Lib.hid hb;have Hv:=Lib.hid hv.2.1;clear hval hx0 hv hrow hb hmk hfr
   go_wp2_with fail
   go_ret
   exact⟨_,_,_,_,rfl,Hw.out,⟨Hval.out,Hv.out⟩,Hb.out⟩
def jG (q r:Nat) (w:World) (e:Ending) (w':World):Prop:=∃(A:Option Addr) (n c:Nat) (B:Option Addr) (m d:Nat),
 e= .returned (.tuple #[.slice A n c, .slice B m d])/\bi w' A n c (digs q)/\bi w' B m d (digs r)/\Below w.heap.size w w'
theorem jn {a b:Int} (h:¬a<b):0<=bQ a b:=by unfold bQ;rw[if_neg h];split <;>decide
theorem iV (w:World) (q:Nat):f9 w (w.drewN q):=⟨rfl,rfl,rfl,l_ _,fun _ _=>rfl⟩
set_option maxRecDepth 100000 in
theorem zB (A B:Option Addr) (n c m d a b:Nat) (w:World) (hx:bi w A n c (digs a)) (hy:bi w B m d (digs b)) (hab:a<b) (hs:n<=4294967296):
 Calls Tryz.prog 282 #[.slice A n c, .slice B m d] w (jG (a/b) (a%b) w):=by
 have e1:a/b=0:=Nat.div_eq_of_lt hab;have e2:a%b=a:=Nat.mod_eq_of_lt hab;rw[e1,e2];have hcmp:=lf A B n m c d (digs a) (digs b) w hx hy;rw[gD,fR O_]at hcmp;have hlen:=hx.len;have Hx:=Lib.hid hx;have Hc:=Lib.hid hcmp;have Hl:=Lib.hid hlen;clear hx hy hcmp e1 e2 hlen
 go_enter func282,ntmps282
 go_wp2_with (first
  |(go_at_call 235;(with_reducible refine Hc.out.mono ?_);rintro e w' ⟨rfl,q,rfl⟩)
  |(go_at_call 236;(with_reducible refine(oA A n c (digs a) _ (Hx.out.drewN _) O_).mono ?_);rintro e w1 ⟨A1,n1,c1,zs,rfl,hw1,rfl,hb1⟩))
 refine bodyPost_ret (v:= .tuple #[.slice none 0 0, .slice A1 n1 c1]) (by simp[results,results282,go_sem]) rfl ?_;exact⟨none,0,0,A1,n1,c1,rfl,by rw[aK];exact bi.nil _,hw1,(iV w q).trans hb1⟩
theorem Ac {a n:Nat} (h:(digs a).length=n) (h2:n<=2):a<18446744073709551616:=by
 have:=bX (n:=a) (k:=2) O_;omega
set_option maxRecDepth 100000 in
theorem wD (A B:Option Addr) (n c m d a b:Nat) (w:World) (hx:bi w A n c (digs a)) (hy:bi w B m d (digs b)) (hab:b<=a) (hb0:0<b) (hs:n<=2):
 Calls Tryz.prog 282 #[.slice A n c, .slice B m d] w (jG (a/b) (a%b) w):=by
 have hcmp:=lf A B n m c d (digs a) (digs b) w hx hy;rw[gD]at hcmp;have ho:=jn (a:=(a:Int)) (b:=b) O_;have h64:=Ac hx.len hs;have hb64:b<18446744073709551616:=O_
 have hm2:m<=2:=by rw[<- hy.len];exact aS O_
 have ha:=sA A n c (digs a);have hb:=sA B m d (digs b);rw[ah]at ha hb;have Ha:=Lib.hid (fun W hW=>ha W hW hs);have Hb:=Lib.hid (fun W hW=>hb W hW hm2);have Hx:=Lib.hid hx;have Hy:=Lib.hid hy;have Hc:=Lib.hid hcmp;generalize bQ a b=o at *;obtain⟨q0,hq0⟩:∃q0,q0=a/b:=⟨_,rfl⟩;obtain⟨r0,hr0⟩:∃r0,r0=a%b:=⟨_,rfl⟩;have hq:q0<18446744073709551616:=by rw[hq0];exact Nat.lt_of_le_of_lt (Nat.div_le_self _ _) h64
 have hr:r0<18446744073709551616:=by rw[hr0];exact Nat.lt_of_le_of_lt (Nat.mod_le _ _) h64
 have eq1:(a:Int)/b=q0:=by rw[hq0,Int.natCast_ediv]
 have er1:(a:Int)%b=r0:=by rw[hr0,Int.natCast_emod]
 have hn1:¬b=0:=O_
 have eq2:Int.tdiv (a:Int) b=q0:=by rw[Int.tdiv_eq_ediv_of_nonneg O_,eq1]
 have er2:Int.tmod (a:Int) b=r0:=by rw[Int.tmod_eq_emod_of_nonneg O_,er1]
 have eq3:IntKind.u64.wrap (q0:Int)=q0:=by rw[IntKind.wrap_u64];omega
 have er3:IntKind.u64.wrap (r0:Int)=r0:=by rw[IntKind.wrap_u64];omega
 rw[<- hq0,<- hr0];have Hq0:=Lib.hid hq0;have Hr0:=Lib.hid hr0;clear hq0 hr0;have hs':(n:Int)<=2:=O_
 have ho':¬o<0:=O_
 clear hx hy hcmp ha hb hab hb0 ho
 go_enter func282,ntmps282
 go_wp2_with (first
  |(go_at_call 235;(with_reducible refine Hc.out.mono ?_);rintro e w' ⟨rfl,q,rfl⟩)
  |(go_at_call 283;(with_reducible refine(Ha.out _ (Hx.out.drewN _)).mono ?_);rintro e w1 ⟨rfl,hb1⟩)
  |(go_at_call 283;(with_reducible refine(Hb.out _ ((Hy.out.drewN _).below hb1)).mono ?_);rintro e w2 ⟨rfl,hb2⟩))
 rename_i K1 hK1 ho2 K2 hK2
 clear hK1 ho2;have HK2:=Lib.hid hK2;clear hK2 Ha Hb Hc Hx Hy hs';have hE2:f9 w2 w2.drew:=(f9.refl w2).drew
 go_region_held3 (fun w'=>f9 w2 w')
  (first|exact hE2|assumption|exact f9.more (by assumption) (by assumption))
  (first
  |((go_at_call 233;(with_reducible refine(jg q0 hq _).mono ?_);rintro e w3 ⟨A3,n3,c3,zs3,rfl,hw3,rfl,hb3⟩))
  |((go_at_call 233;(with_reducible refine(jg r0 hr _).mono ?_);rintro e w4 ⟨A4,n4,c4,zs4,rfl,hw4,rfl,hb4⟩)))
 all_goals(
  refine HK2.out _ _ ?_
  go_wp2
  refine bodyPost_ret (v:= .tuple #[.slice A3 n3 c3, .slice A4 n4 c4]) (by simp[results,results282,go_sem]) rfl ?_
  first
   |exact⟨A3,n3,c3,A4,n4,c4,rfl,hw3.below hb4,hw4,(((iV w q).more hb1).more hb2).trans (by assumption)⟩
   |exact⟨A3,n3,c3,A4,n4,c4,rfl,hw3,hw4.below hb3,(((iV w q).more hb1).more hb2).trans (by assumption)⟩)
end Go.Proofs.YtnchbpoopnjghaaGreatDoor
