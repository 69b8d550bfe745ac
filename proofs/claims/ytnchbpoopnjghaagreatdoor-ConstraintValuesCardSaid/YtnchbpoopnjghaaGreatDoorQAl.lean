/- The division of long numbers: the words that the estimate looks at; the shift. The division of long numbers: what holds from round to round. A list divided by one word, both packages. A list shifted to the left, both packages. subtract and restore of the program: they write into a part of a row. -/
import Derived.Test.YtnchbpoopnjghaaGreatDoorQAf
set_option maxHeartbeats 100000000
set_option linter.all false
open Go.Proofs.Tryz
namespace Go.Proofs.YtnchbpoopnjghaaGreatDoor
open Go.RowKit
theorem Rk (l:List Nat) (k:Nat) (h:l.length=k+2):val l=val (l.take k)+4294967296^k*(l.getD k 0+4294967296*l.getD (k+1) 0):=by
 have h1:=an l k;have h2:=an l (k+1);rw[K_ O_,h1,bh]at h2;rw[h2,Nat.mul_add];have:4294967296^k*(4294967296*l.getD (k+1) 0)=4294967296*4294967296^k*l.getD (k+1) 0:=by grind
 omega
theorem Ra (l:List Nat) (k:Nat) (h:l.length=k+3):val l=val (l.take k)+4294967296^k*(l.getD k 0+4294967296*l.getD (k+1) 0+18446744073709551616*l.getD (k+2) 0):=by
 have h1:=an l k;have h2:=an l (k+1);have h3:=an l (k+1+1);rw[K_ O_,h2,h1,bh (k+1),bh k]at h3;rw[h3];clear h1 h2 h3;generalize 4294967296^k=B;generalize l.getD k 0=x;generalize l.getD (k+1) 0=y;generalize l.getD (k+2) 0=z;have e:4294967296*(4294967296*B)*z=B*(18446744073709551616*z):=by grind
 have e2:4294967296*B*y=B*(4294967296*y):=by grind
 rw[Nat.mul_add,Nat.mul_add];omega
theorem vJ {us vs:List Nat} {k:Nat} (hu:us.length=k+3) (hv:vs.length=k+2) (hwu:Wd us) (hwv:Wd vs) (hlt:val us<val vs*4294967296) (hhi:2147483648<=vs.getD (k+1) 0):
 AL (val us) (val vs) (val us/val vs) (vs.getD (k+1) 0) (vs.getD k 0) (us.getD (k+2) 0) (us.getD (k+1) 0) (us.getD k 0) (4294967296^k) (val (us.take k)) (val (vs.take k)):=
 ⟨Ra us k hu,Rk vs k hv,fc hwu k,fc hwv k,rfl,hlt,hhi,hwv.getD _,hwv.getD _,hwu.getD _,hwu.getD _⟩
theorem rS {b m x s:Nat} (hm:0<m) (hl:(digs b).length=m) (hx:(digs b).getD (m-1) 0=x) (hs:s=32-bitLen x):
 s<=31/\bitLen x<=32/\(digs (b*2^s)).length=m/\2147483648<=(digs (b*2^s)).getD (m-1) 0:=by
 obtain⟨k,rfl⟩:∃k,m=k+1:=⟨m-1,by omega⟩;rw[Nat.add_sub_cancel]at *;have hx0:=(sC (ae b) (wm b) k hl).1;rw[hx]at hx0;have hx32:x<4294967296:=by rw[<- hx];exact(ae b).getD k
 have hb32:=qb x hx32;have hsp:=bitLen_spec x;have hb1:=hsp.2 O_;have hb2:=hsp.1
 have hbp:0<bitLen x:=by
  rcases Nat.eq_zero_or_pos (bitLen x)with h|h
  ·rw[h]at hb2;omega
  ·exact h
 have hv:b=val ((digs b).take k)+4294967296^k*x:=by
  have:=an (digs b) k;rw[K_ O_,ah,hx]at this;exact this
 have hlow:=fc (ae b) k;generalize val ((digs b).take k)=lo at *;have hp:2^bitLen x*2^s=4294967296:=by rw[<- Nat.pow_add,show bitLen x+s=32 by omega]
 have hp2:2^(bitLen x-1)*2^s=2147483648:=by rw[<- Nat.pow_add,show bitLen x-1+s=31 by omega]
 have h1:2147483648<=x*2^s:=by rw[<- hp2];exact P_ _ hb1
 have h2:x*2^s+2^s<=4294967296:=by
  rw[<- hp];have:=P_ (2^s) (show x+1<=2^bitLen x from hb2);rw[Nat.add_mul,Nat.one_mul]at this;exact this
 have e1:b*2^s=lo*2^s+4294967296^k*(x*2^s):=by rw[hv];grind
 have h3:lo*2^s<4294967296^k*2^s:=Nat.mul_lt_mul_of_pos_right hlow (Nat.two_pow_pos s)
 have h4:b*2^s<4294967296^(k+1):=by
  have h5:=Nat.mul_le_mul_left (4294967296^k) h2;rw[Nat.mul_add]at h5;rw[bh,e1];omega
 have h6:4294967296^k*2147483648<=b*2^s:=by
  have:=Nat.mul_le_mul_left (4294967296^k) h1;omega
 have hle:=aS h4
 have hge:¬(digs (b*2^s)).length<=k:=by
  intro h;have:=bX h;have hpos:0<4294967296^k:=Nat.pow_pos D_
  omega
 have hlen:(digs (b*2^s)).length=k+1:=O_
 refine⟨by omega,hb32,hlen,?_⟩;have h7:=an (digs (b*2^s)) k;rw[K_ O_,ah]at h7;have h8:=fc (ae (b*2^s)) k;rcases Nat.lt_or_ge ((digs (b*2^s)).getD k 0) 2147483648 with h9|h9
 ·exfalso
  have h10:4294967296^k*((digs (b*2^s)).getD k 0+1)<=4294967296^k*2147483648:=Nat.mul_le_mul_left _ h9;rw[Nat.mul_add,o_]at h10;omega
 ·exact h9
theorem DT {a b n m s:Nat} (hn:(digs a).length=n) (hm:0<m) (hmn:m<=n) (hl:(digs (b*2^s)).length=m) (hhi:2147483648<=(digs (b*2^s)).getD (m-1) 0) (h31:s<=31):
 a*2^s<(b*2^s)*4294967296^(n+1-m):=by
 have ha:=bX (n:=a) (k:=n) O_;have h1:=an (digs (b*2^s)) (m-1);rw[show m-1+1=m by omega,K_ O_,ah]at h1
 have h2:4294967296^(m-1)*2147483648<=b*2^s:=by
  have:=Nat.mul_le_mul_left (4294967296^(m-1)) hhi;omega
 have h3:2^s<=2147483648:=by
  have:2^s<=2^31:=Nat.pow_le_pow_right D_ h31;omega
 have h4:4294967296^(m-1)*2147483648*4294967296^(n+1-m)=4294967296^n*2147483648:=by
  have e:(4294967296:Nat)^n=4294967296^(m-1)*4294967296^(n+1-m):=by rw[<- Nat.pow_add];congr 1;omega
  rw[e];generalize(4294967296:Nat)^(m-1)=P;generalize(4294967296:Nat)^(n+1-m)=Q
  grind
 have h5:=P_ (4294967296^(n+1-m)) h2;rw[h4]at h5
 have h6:a*2^s<4294967296^n*2147483648:=by
  have h7:a*2^s<=a*2147483648:=Nat.mul_le_mul_left _ h3;have h8:a*2147483648<4294967296^n*2147483648:=Nat.mul_lt_mul_of_pos_right ha D_
  omega
 omega
theorem v6 (a b s:Nat):(a*2^s)/(b*2^s)=a/b/\(a*2^s)%(b*2^s)=(a%b)*2^s:=
 ⟨Nat.mul_div_mul_right a b (Nat.two_pow_pos s),Nat.mul_mod_mul_right _ _ _⟩
structure KD (n m Q k V U0:Nat) (zs qs:List Nat):Prop where
 zl:zs.length=n+1
 zw:Wd zs
 ql:qs.length=Q
 qw:Wd qs
 hi0:∀j,k+m<=j->zs.getD j 0=0
 lt:val zs<V*4294967296^k
 sum:val zs+V*4294967296^k*val (qs.drop k)=U0
theorem kh {l:List Nat} (h:∀j,l.getD j 0=0):val l=0:=by
 induction l with
 |nil=>rfl
 |cons x xs ih=>
  have h0:x=0:=by simpa using h 0
  have h1:val xs=0:=ih (fun j=>by simpa using h (j+1))
  simp only[val,h0,h1]
theorem KD.start {n m Q V U0:Nat} {zs:List Nat} (hQ:Q+m=n+1) (hl:zs.length=n+1) (hw:Wd zs) (hv:val zs=U0) (hlt:U0<V*4294967296^Q):KD n m Q Q V U0 zs (aF Q):=
 ⟨hl,hw,aO _,cH _,fun j hj=>by rw[H_,List.getElem?_eq_none O_];rfl,by rw[hv];exact hlt,by rw[List.drop_of_length_le (by rw[aO];exact l_ _)];simp[val,hv]⟩
section
variable {n m Q i V U0:Nat} {zs qs:List Nat}
def pre (zs:List Nat) (i:Nat):List Nat:=zs.take i
def part (zs:List Nat) (i m:Nat):List Nat:=(zs.drop i).take (m+1)
def post (zs:List Nat) (i m:Nat):List Nat:=zs.drop (i+m+1)
theorem KD.parts (h:KD n m Q (i+1) V U0 zs qs) (hQ:Q+m=n+1) (hi:i<Q):
 zs=pre zs i++part zs i m++post zs i m/\(pre zs i).length=i/\(part zs i m).length=m+1/\Wd (pre zs i)/\Wd (part zs i m)/\val (post zs i m)=0/\val (part zs i m)<V*4294967296:=by
 have hl:=h.zl
 have e1:zs=pre zs i++part zs i m++post zs i m:=by
  unfold pre part post;rw[e_,show i+m+1=i+(m+1) by omega,<- List.drop_drop,List.take_append_drop,List.take_append_drop]
 have l1:(pre zs i).length=i:=by unfold pre;rw[U_];omega
 have l2:(part zs i m).length=m+1:=by unfold part;rw[U_,n_];omega
 have hp:val (post zs i m)=0:=by
  refine kh (fun j=>?_);have:=h.hi0 (i+m+1+j) O_;unfold post;rw[H_,List.getElem?_drop]
  rwa[H_]at this
 refine⟨e1,l1,l2,h.zw.take _,(h.zw.drop _).take _,hp,?_⟩;refine CA (pre:=pre zs i) (post:=post zs i m) hp ?_;rw[<- e1,l1];exact h.lt
theorem xb (zs:List Nat) (i m j:Nat) (hj:j<m+1):(part zs i m).getD j 0=zs.getD (i+j) 0:=by
 unfold part;rw[H_,List.getElem?_take,if_pos hj,List.getElem?_drop,H_]
theorem KD.next (h:KD n m Q (i+1) V U0 zs qs) (hQ:Q+m=n+1) (hi:i<Q) (hV:0<V) (hVm:V<4294967296^m) {us':List Nat} {q:Nat} (hq:q=val (part zs i m)/V) (hq32:q<4294967296)
 (hl:us'.length=m+1) (hw:Wd us') (hv:val us'=val (part zs i m)-V*q):KD n m Q i V U0 (pre zs i++us'++post zs i m) (qs.set i q):=by
 obtain⟨e1,l1,l2,w1,w2,hp,hlt⟩:=h.parts hQ hi;have hsum:=h.sum;have hpl:(post zs i m).length=n-i-m:=by unfold post;rw[n_,h.zl];omega
 rw[e1]at hsum;rw[<- l1]at hsum;have hr:=yE (pre:=pre zs i) (us:=part zs i m) (us':=us') (post:=post zs i m) (qs:=qs) (V:=V) (U0:=U0) (q:=q) w1 hp hq hV (by rw[l1,h.ql];exact hi) (by rw[l1]at hsum ⊢;exact hsum) hv;rw[l1]at hr
 have hmod:val us'<V:=by
  rw[hv,hq];have h1:=Nat.div_add_mod (val (part zs i m)) V;have h2:=Nat.mod_lt (val (part zs i m)) hV;generalize V*(val (part zs i m)/V)=X at *;generalize val (part zs i m)%V=Y at *;omega
 have htop:us'.getD m 0=0:=by
  have h1:=an us' m;rw[K_ O_]at h1;rcases Nat.eq_zero_or_pos (us'.getD m 0)with h2|h2
  ·exact h2
  ·exfalso
   have h3:=Nat.mul_le_mul_left (4294967296^m) h2;rw[o_]at h3;omega
 refine⟨by simp only[L_,l1,hl,hpl];omega,(w1.append hw).append (h.zw.drop _),by rw[List.length_set];exact h.ql,dr h.qw _ _ hq32,fun j hj=>?_,hr.1,hr.2⟩
 by_cases hjm:j=i+m
 ·subst hjm
  rw[e_,H_,g_ O_,l1,Nat.add_sub_cancel_left,List.getElem?_append_left O_,<- H_];exact htop
 ·rw[H_,g_ (by simp only[L_,l1,hl];omega)]
  have h1:=h.hi0 j O_;rw[H_]at h1
  simp only[L_,l1,hl]
  unfold post;rw[List.getElem?_drop,show i+m+1+(j-(i+(m+1)))=j by omega];exact h1
end
def Td (q r:Nat) (w:World) (e:Ending) (w':World):Prop:=∃(A:Option Addr) (n c:Nat),
 e= .returned (.tuple #[.slice A n c, .int .u32 r])/\bi w' A n c (digs q)/\Below w.heap.size w w'
theorem Gk {xs zs:List Nat} {b k r x:Nat} (hb:0<b) (hk:k+1<=xs.length) (hz:k<zs.length) (hx:xs.getD k 0=x)
 (h1:val (zs.drop (k+1))=val (xs.drop (k+1))/b) (h2:r=val (xs.drop (k+1))%b):
 val ((zs.set k ((r*4294967296+x)/b)).drop k)=val (xs.drop k)/b/\(r*4294967296+x)%b=val (xs.drop k)%b:=by
 have e1:=cg xs (k+1) (Nat.succ_pos k) hk;have e2:=cg (zs.set k ((r*4294967296+x)/b)) (k+1) (Nat.succ_pos k) (by rw[List.length_set];omega);rw[Nat.add_sub_cancel]at e1 e2;rw[e1,e2,hx,eC hz,List.drop_set_of_lt O_]
 simp only[val]
 rw[h1,h2];generalize val (xs.drop (k+1))=V;have hd:=Nat.div_add_mod V b;generalize V/b=Q at *;generalize V%b=R at *;subst hd;have e3:x+4294967296*(b*Q+R)=(R*4294967296+x)+b*(4294967296*Q):=by grind
 rw[e3,Nat.add_mul_div_left _ _ hb,Nat.add_mul_mod_self_left];exact⟨by omega,rfl⟩
theorem xz (A:Option Addr) (n c b:Nat) (xs:List Nat) (w:World) (hx:bi w A n c xs) (hs:n<=4294967296) (hb0:0<b) (hb1:b<4294967296):
 Calls Tryz.prog 314 #[.slice A n c, .int .u32 b] w (jG (val xs/b) (val xs%b) w):=by
 have hnc:=hx.cap;have hc:=hx.lim;have Hx:=Lib.hid hx;have Hb0:=Lib.hid hb0;clear hx;have hmk:=eJ n n rfl O_;have hrow:=dy w (aF n);have hbb:Below w.heap.size w (w.alloc (du (aF n))):=(Below.refl _ _).alloc (l_ _) _;have Hrow:=Lib.hid hrow;have Hbb:=Lib.hid hbb;clear hrow hbb;have hn1:¬b=0:=O_
 go_enter func314,ntmps314
 go_wp2_with fail
 go_loopw [7,8] (fun a i wr=>∃(k r:Nat) (zs:List Nat),k<=n/\i= .int .i64 ((k:Int)-1)/\a= .int .u64 r /\
  (Wd zs/\zs.length=n/\val (zs.drop k)=val (xs.drop k)/b/\r=val (xs.drop k)%b)/\eS wr w.heap.size zs/\Below w.heap.size w wr)
  (fun _ i _=>(intOf i+1).toNat)
 case atStart=>exact⟨n,0,aF n,l_ _,rfl,rfl,⟨cH _,aO _,by rw[List.drop_of_length_le (by rw[aO];exact l_ _),List.drop_of_length_le (by rw[Hx.out.len];exact l_ _)];simp[val],by rw[List.drop_of_length_le (by rw[Hx.out.len];exact l_ _)];simp[val]⟩,Hrow.out,Hbb.out⟩
 case round=>
  obtain⟨k,r,zs,hk,rfl,rfl,hv,hrow,hb⟩:=hrel;have hrb:r<b:=by rw[hv.2.2.2];exact Nat.mod_lt _ hb0
  by_cases h0:0<k
  ·exact Ws
  ·obtain rfl:k=0:=O_
   have hv3:=hv.2.2.1;have hv4:=hv.2.2.2;rw[List.drop_zero,List.drop_zero]at hv3;rw[List.drop_zero]at hv4;have hr4:r<4294967296:=O_
   have Hw:=Lib.hid (hrow.wrd' hv.1 hv.2.1 O_);have Hv3:=Lib.hid hv3;have Hv4:=Lib.hid hv4;have Hb:=Lib.hid hb;clear hv hv3 hv4 hrow hb hmk
   go_wp2_with (first
    |(go_at_call 194;(with_reducible refine(gi _ _ _ zs _ Hw.out).mono ?_);rintro e w' ⟨rfl,rfl⟩)
    |(go_at_call 233;(with_reducible refine(jg r O_ _).mono ?_);rintro e w3 ⟨A3,n3,c3,zs3,rfl,hw3,rfl,hb3⟩))
   refine bodyPost_ret (v:= .tuple #[.slice _ _ _, .slice A3 n3 c3]) (by simp[results,results314,go_sem];exact⟨rfl,rfl,rfl⟩) rfl ?_;refine⟨_,_,_,A3,n3,c3,rfl,?_,Hv4.out ▸ hw3,Hb.out.trans (hb3.mono (Hb.out.size))⟩;have h:=Hw.out.trim.below hb3;unfold trim at h;rw[Hv3.out]at h;unfold trim;rw[Hv3.out];exact h
theorem Od (A:Option Addr) (n c b:Nat) (xs:List Nat) (w:World) (hx:bi w A n c xs) (hs:n<=4294967296) (hb0:0<b) (hb1:b<4294967296):
 Calls Tryz.prog 223 #[.slice A n c, .int .u32 b] w (Td (val xs/b) (val xs%b) w):=by
 have hnc:=hx.cap;have hc:=hx.lim;have Hx:=Lib.hid hx;have Hb0:=Lib.hid hb0;clear hx;have hmk:=eJ n n rfl O_;have hrow:=dy w (aF n);have hbb:Below w.heap.size w (w.alloc (du (aF n))):=(Below.refl _ _).alloc (l_ _) _;have Hrow:=Lib.hid hrow;have Hbb:=Lib.hid hbb;clear hrow hbb;have hn1:¬b=0:=O_
 go_enter func223,ntmps223
 go_wp2_with fail
 go_loopw [7,8] (fun a i wr=>∃(k r:Nat) (zs:List Nat),k<=n/\i= .int .i64 ((k:Int)-1)/\a= .int .u64 r /\
  (Wd zs/\zs.length=n/\val (zs.drop k)=val (xs.drop k)/b/\r=val (xs.drop k)%b)/\eS wr w.heap.size zs/\Below w.heap.size w wr)
  (fun _ i _=>(intOf i+1).toNat)
 case atStart=>exact⟨n,0,aF n,l_ _,rfl,rfl,⟨cH _,aO _,by rw[List.drop_of_length_le (by rw[aO];exact l_ _),List.drop_of_length_le (by rw[Hx.out.len];exact l_ _)];simp[val],by rw[List.drop_of_length_le (by rw[Hx.out.len];exact l_ _)];simp[val]⟩,Hrow.out,Hbb.out⟩
 case round=>
  obtain⟨k,r,zs,hk,rfl,rfl,hv,hrow,hb⟩:=hrel;have hrb:r<b:=by rw[hv.2.2.2];exact Nat.mod_lt _ hb0
  by_cases h0:0<k
  ·exact Ws
  ·obtain rfl:k=0:=O_
   have hv3:=hv.2.2.1;have hv4:=hv.2.2.2;rw[List.drop_zero,List.drop_zero]at hv3;rw[List.drop_zero]at hv4;have hr4:r<4294967296:=O_
   have Hw:=Lib.hid (hrow.wrd' hv.1 hv.2.1 O_);have Hv3:=Lib.hid hv3;have Hv4:=Lib.hid hv4;have Hb:=Lib.hid hb;clear hv hv3 hv4 hrow hb hmk
   go_wp2_with (go_at_call 172;(with_reducible refine(dz _ _ _ zs _ Hw.out).mono ?_);rintro e w' ⟨rfl,rfl⟩)
   refine bodyPost_ret (v:= .tuple #[.slice _ _ _, .int .u32 r]) (by simp[results,results223,go_sem];exact⟨rfl,rfl,rfl⟩) rfl ?_;refine⟨_,_,_,by rw[<- Hv4.out],?_,Hb.out⟩;have h:=Hw.out.trim;unfold trim at h;rw[Hv3.out]at h;unfold trim;rw[Hv3.out];exact h
def Jy (Φ:List Nat->Prop) (w:World) (e:Ending) (w':World):Prop:=∃g zs,e= .returned (.slice (some ⟨g,0,none⟩) zs.length zs.length)/\w.heap.size<=g/\eS w' g zs/\Wd zs/\Φ zs/\Below w.heap.size w w'
theorem Lp (s x z:Nat) (h31:s<=31) (hx:x<4294967296) (hz:z<2^s):
 bits BinOp.or IntKind.u32 (z:Int) (IntKind.u64.wrap ((x:Int)*2^s)%4294967296)=((z+x*2^s%4294967296:Nat):Int)/\IntKind.u64.wrap ((x:Int)*2^s)/4294967296%4294967296=((x*2^s/4294967296:Nat):Int) /\
 z+x*2^s%4294967296<4294967296/\x*2^s/4294967296<2^s:=by
 have hp:=Dp s h31
 have hs:2^s<=2147483648:=by
  have:2^s<=2^31:=Nat.pow_le_pow_right D_ h31;omega
 have hP:x*2^s<9223372036854775808:=by
  have:x*2^s<=4294967295*2147483648:=Nat.mul_le_mul O_ hs;omega
 have hlt:x*2^s<4294967296*2^s:=Nat.mul_lt_mul_of_pos_right hx (Nat.two_pow_pos s)
 have e1:((x:Int)*2^s)=((x*2^s:Nat):Int):=by rw[Int.natCast_mul,Int.natCast_pow];rfl
 have e2:IntKind.u64.wrap ((x*2^s:Nat):Int)=((x*2^s:Nat):Int):=by rw[IntKind.wrap_u64];omega
 have hlo:x*2^s%4294967296=(x%2^(32-s))*2^s:=by
  rw[<- hp,Nat.mul_comm x,Nat.mul_mod_mul_left,Nat.mul_comm]
 have hlo2:(x%2^(32-s))*2^s+2^s<=4294967296:=by
  have h1:x%2^(32-s)+1<=2^(32-s):=Nat.mod_lt _ (Nat.two_pow_pos _);have h2:=P_ (2^s) h1;rw[Nat.add_mul,Nat.one_mul,Nat.mul_comm (2^(32-s)),hp]at h2;exact h2
 have hor:z |||(x*2^s%4294967296)=z+x*2^s%4294967296:=by
  have h:=Nat.shiftLeft_add_eq_or_of_lt (i:=s) (b:=z) hz (x%2^(32-s));rw[Nat.shiftLeft_eq]at h;rw[hlo,Nat.or_comm,<- h,Nat.add_comm]
 rw[e1,e2];generalize x*2^s=P at *;refine⟨?_,by omega,by omega,by omega⟩;rw[show((P:Int)%4294967296)=((P%4294967296:Nat):Int) by omega,u32_or_nat _ _ O_ O_,hor]
theorem J1 {xs zs:List Nat} {s k x z:Nat} (hk:k+1<zs.length) (hx:xs.getD k 0=x) (hz:zs.getD k 0=z) (h0:zs.getD (k+1) 0=0) (h:val zs=val (xs.take k)*2^s):
 val ((zs.set k (z+x*2^s%4294967296)).set (k+1) (x*2^s/4294967296))=val (xs.take (k+1))*2^s:=by
 have h1:=ie zs k (z+x*2^s%4294967296) O_;have h2:=ie (zs.set k (z+x*2^s%4294967296)) (k+1) (x*2^s/4294967296) (by rw[List.length_set];omega);rw[getD_set_ne O_,h0,Nat.mul_zero,Nat.add_zero]at h2;rw[hz]at h1;rw[h2,an,hx,bh];have hd:=Nat.div_add_mod (x*2^s) 4294967296;generalize hL:x*2^s%4294967296=L at *;generalize hH:x*2^s/4294967296=H at *;generalize 4294967296^k=B at *;rw[Nat.add_mul,<- h];have e:B*x*2^s=B*(x*2^s):=Nat.mul_assoc _ _ _;rw[e,<- hd];have e3:B*(4294967296*H+L)=4294967296*B*H+B*L:=by grind
 rw[e3];have e4:B*(z+L)=B*z+B*L:=Nat.mul_add _ _ _;omega
theorem yZ (A:Option Addr) (n c s:Nat) (xs:List Nat) (w:World) (hx:bi w A n c xs) (hs:n<=4294967296) (h31:s<=31):
 Calls Tryz.prog 316 #[.slice A n c, .int .i64 s] w (Jy (fun zs=>val zs=val xs*2^s/\zs.length=n+1) w):=by
 have hnc:=hx.cap;have hc:=hx.lim;have Hx:=Lib.hid hx;clear hx;have hmk:=eJ (n+1) ((n:Int)+1) O_ O_;have hrow:=dy w (aF (n+1));have hbb:Below w.heap.size w (w.alloc (du (aF (n+1)))):=(Below.refl _ _).alloc (l_ _) _;have Hrow:=Lib.hid hrow;have Hbb:=Lib.hid hbb;clear hrow hbb
 go_enter func316,ntmps316
 go_wp2_with fail
 go_loopw [15] (fun i wr=>∃(k:Nat) (zs:List Nat),k<=n/\i= .int .i64 k /\
  (Wd zs/\zs.length=n+1/\(∀j,k<j->zs.getD j 0=0)/\zs.getD k 0<2^s/\val zs=val (xs.take k)*2^s)/\eS wr w.heap.size zs/\Below w.heap.size w wr)
  (fun i _=>n-(intOf i).toNat)
 case atStart=>exact⟨0,aF (n+1),Nat.zero_le _,rfl,⟨cH _,aO _,fun j _=>a6 _ _,by unfold aF;rw[a6];exact Nat.two_pow_pos s,by unfold aF;rw[bv];simp[val]⟩,Hrow.out,Hbb.out⟩
 case round=>
  exact Wy
theorem Be (A:Option Addr) (n c s:Nat) (xs:List Nat) (w:World) (hx:bi w A n c xs) (hs:n<=4294967296) (h31:s<=31):
 Calls Tryz.prog 308 #[.slice A n c, .int .i64 s] w (Jy (fun zs=>val zs=val xs*2^s/\zs.length=n+1) w):=by
 have hnc:=hx.cap;have hc:=hx.lim;have Hx:=Lib.hid hx;clear hx;have hmk:=eJ (n+1) ((n:Int)+1) O_ O_;have hrow:=dy w (aF (n+1));have hbb:Below w.heap.size w (w.alloc (du (aF (n+1)))):=(Below.refl _ _).alloc (l_ _) _;have Hrow:=Lib.hid hrow;have Hbb:=Lib.hid hbb;clear hrow hbb
 go_enter func308,ntmps308
 go_wp2_with fail
 go_loopw [6] (fun i wr=>∃(k:Nat) (zs:List Nat),k<=n/\i= .int .i64 k /\
  (Wd zs/\zs.length=n+1/\(∀j,k<j->zs.getD j 0=0)/\zs.getD k 0<2^s/\val zs=val (xs.take k)*2^s)/\eS wr w.heap.size zs/\Below w.heap.size w wr)
  (fun i _=>n-(intOf i).toNat)
 case atStart=>exact⟨0,aF (n+1),Nat.zero_le _,rfl,⟨cH _,aO _,fun j _=>a6 _ _,by unfold aF;rw[a6];exact Nat.two_pow_pos s,by unfold aF;rw[bv];simp[val]⟩,Hrow.out,Hbb.out⟩
 case round=>
  exact Wy
structure fY (g:Nat) (w w':World):Prop where
 os:w'.os=w.os
 tape:w'.tape=w.tape
 output:w'.output=w.output
 size:w'.heap.size=w.heap.size
 block:∀b,b≠g->w'.heap[b]? =w.heap[b]?
theorem fY.refl (g:Nat) (w:World):fY g w w:=⟨rfl,rfl,rfl,rfl,fun _ _=>rfl⟩
theorem fY.cell {g:Nat} {w w':World} (h:fY g w w') {b o:Nat} (hb:b≠g):w'.cell? ⟨b,o,none⟩=w.cell? ⟨b,o,none⟩:=World.cell?_of_block (a:=⟨b,o,none⟩) (h.block b hb)
theorem fY.setCell {g:Nat} {w w':World} (h:fY g w w') (i:Nat) (v:Value):fY g w (w'.setCell ⟨g,i,none⟩ v):=by
 refine⟨h.os,h.tape,h.output,?_,fun b hb=>?_⟩
 ·simp[h.size]
 ·rw[<- h.block b hb]
  simp[World.setCell,Array.getElem?_modify,Ne.symm hb]
theorem fY.below {g N:Nat} {W w w':World} (h:fY g w w') (hb:Below N W w) (hg:N<=g):Below N W w':=
 ⟨h.os.trans hb.os,h.tape.trans hb.tape,h.output.trans hb.output,by rw[h.size];exact hb.size,fun i hi=>(h.block i O_).trans (hb.block i hi)⟩
theorem bi.only {g:Nat} {w w':World} {A:Option Addr} {n c:Nat} {xs:List Nat} (h:bi w A n c xs) (ho:fY g w w') (hA:∀b o,A=some ⟨b,o,none⟩->b≠g):bi w' A n c xs:=by
 refine⟨h.len,h.cap,h.lim,h.wd,?_,h.isnil⟩;rcases h.cells with h0| ⟨b,off,e,hc⟩
 ·exact .inl h0
 ·exact .inr ⟨b,off,e,fun i v hv=>(ho.cell (hA b off e)).trans (hc i v hv)⟩
theorem eS.only {g k:Nat} {w w':World} {zs:List Nat} (h:eS w k zs) (ho:fY g w w') (hk:k≠g):eS w' k zs:=(ho.block k hk).trans h
theorem tz (pre us post:List Nat) (i:Nat) (hi:i<us.length):(pre++us++post).getD (pre.length+i) 0=us.getD i 0:=by
 rw[e_,H_,g_ O_,Nat.add_sub_cancel_left,List.getElem?_append_left hi,H_]
theorem kg (pre us post:List Nat) (i x:Nat) (hi:i<us.length):(pre++us++post).set (pre.length+i) x=pre++us.set i x++post:=by
 rw[e_,List.set_append_right _ _ O_,Nat.add_sub_cancel_left,List.set_append_left _ _ hi,e_]
theorem sX (pre us post:List Nat) (i:Nat) (hi:i<us.length):pre.length+i<(pre++us++post).length:=by simp;omega
theorem Fp (u P bo:Nat) (hu:u<4294967296) (hbo:bo<4294967296) (hP:P<=18446744065119617025):
 ∃dd b:Nat,dd<4294967296/\b<4294967296/\IntKind.u64.wrap (((P:Int)+bo)/4294967296+IntKind.u64.wrap ((u:Int)-((P:Int)+bo)%4294967296)/9223372036854775808)=b /\
  IntKind.u64.wrap ((u:Int)-((P:Int)+bo)%4294967296)%4294967296=dd/\dd+(P+bo)=u+4294967296*b:=by
 rw[IntKind.wrap_u64,IntKind.wrap_u64]
 by_cases h:(P+bo)%4294967296<=u
 ·exact⟨u-(P+bo)%4294967296,(P+bo)/4294967296,by omega,by omega,by omega,by omega,by omega⟩
 ·exact⟨u+4294967296-(P+bo)%4294967296,(P+bo)/4294967296+1,by omega,by omega,by omega,by omega,by omega⟩
theorem JB (u bo:Nat) (hu:u<4294967296) (hbo:bo<4294967296):
 ∃dd:Nat,dd<4294967296/\IntKind.u64.wrap ((u:Int)-bo)%4294967296=dd/\(IntKind.u64.wrap ((u:Int)-bo)/9223372036854775808 == 1)=decide (u<bo)/\dd+bo=u+(if u<bo then 4294967296 else 0):=by
 rw[IntKind.wrap_u64]
 by_cases h:u<bo
 ·exact⟨u+4294967296-bo,by omega,by omega,by rw[T_ h];simp;omega,by rw[if_pos h];omega⟩
 ·exact⟨u-bo,by omega,by omega,by rw[F_ h];simp;omega,by rw[if_neg h];omega⟩
theorem ip (vs:List Nat) (k x:Nat):(vs.set k x).take k=vs.take k:=by
 rw[List.take_set,List.set_eq_of_length_le (by simp;omega)]
theorem Lo {us vs ys:List Nat} {k d bo y u P dd b:Nat} (hk:k<vs.length) (hy:ys.getD k 0=y) (hu:us.getD k 0=u) (hP:y*d=P)
 (h:val (vs.take k)+val (ys.take k)*d=val (us.take k)+4294967296^k*bo) (he:dd+(P+bo)=u+4294967296*b):
 val ((vs.set k dd).take (k+1))+val (ys.take (k+1))*d=val (us.take (k+1))+4294967296^(k+1)*b:=by
 rw[an,an,an,ip,eC hk,hy,hu,bh];generalize 4294967296^k=B at *;have e1:(val (ys.take k)+B*y)*d=val (ys.take k)*d+B*P:=by rw[Nat.add_mul,Nat.mul_assoc,hP]
 rw[e1];have e2:B*dd+B*(P+bo)=B*u+B*(4294967296*b):=by rw[<- Nat.mul_add,<- Nat.mul_add,he]
 rw[Nat.mul_add]at e2;have e3:B*(4294967296*b)=4294967296*B*b:=by grind
 omega
theorem MS {us vs ys:List Nat} {m d bo u dd:Nat} (hwv:Wd vs) (hv:vs.length=m+1) (hu:us.length=m+1) (hy:ys.length=m) (huu:us.getD m 0=u) (hdd:dd<4294967296)
 (h:val (vs.take m)+val (ys.take m)*d=val (us.take m)+4294967296^m*bo) (he:dd+bo=u+(if u<bo then 4294967296 else 0)):
 decide (u<bo)=decide (val us<val ys*d)/\val (vs.set m dd)+val ys*d=val us+(if val us<val ys*d then 4294967296^us.length else 0):=by
 have e1:val us=val (us.take m)+4294967296^m*u:=by
  have:=an us m;rw[K_ O_,huu]at this;exact this
 have e2:val (vs.set m dd)=val (vs.take m)+4294967296^m*dd:=by
  exact UY
 have e3:ys.take m=ys:=K_ O_;rw[e3]at h;have hlt:=fq (dr hwv m dd hdd);rw[List.length_set,hv,bh]at hlt;rw[hu,bh];generalize 4294967296^m=B at *;generalize val (us.take m)=U0 at *;generalize val (vs.take m)=V0 at *;generalize val ys*d=Y at *;generalize val (vs.set m dd)=V at *
 have e4:B*dd+B*bo=B*u+(if u<bo then 4294967296*B else 0):=by
  rw[<- Nat.mul_add,he,Nat.mul_add]
  split
  ·rw[Nat.mul_comm B 4294967296]
  ·rfl
 by_cases hb:u<bo
 ·rw[if_pos hb]at e4
  have h1:val us<Y:=O_
  rw[if_pos h1];exact⟨by rw[T_ hb,T_ h1],by omega⟩
 ·rw[if_neg hb]at e4
  have h1:¬val us<Y:=O_
  rw[if_neg h1];exact⟨by rw[F_ hb,F_ h1],by omega⟩
def IL (g:Nat) (pre us post ys:List Nat) (d:Nat) (w:World) (e:Ending) (w':World):Prop:=∃us',e= .returned (.bool (decide (val us<val ys*d)))/\us'.length=us.length/\Wd us' /\
 val us'+val ys*d=val us+(if val us<val ys*d then 4294967296^us.length else 0)/\eS w' g (pre++us'++post)/\fY g w w'
theorem Bh (g m c2 n2 d:Nat) (B:Option Addr) (c:Nat) (pre us post ys:List Nat) (w:World) (hr:eS w g (pre++us++post)) (hu:Wd us) (hl:us.length=m+1) (hy:bi w B m c ys) (hB:∀b o,B=some ⟨b,o,none⟩->b≠g)
 (hd:d<4294967296) (hn:n2=m+1) (hc2:n2<=c2) (hs:m<=4294967296):
 Calls Tryz.prog 317 #[.slice (some ⟨g,pre.length,none⟩) n2 c2, .slice B m c, .int .u64 d] w (IL g pre us post ys d w):=by
 subst hn;have Hy:=Lib.hid hy;have Hr:=Lib.hid hr;have HB:=Lib.hid hB;have hlim:=hy.cap;have hlim2:=hy.lim;clear hr hy hB
 go_enter func317,ntmps317
 go_wp2_with fail
 go_loopw [7,15] (fun a i wr=>∃(k bo:Nat) (vs:List Nat),k<=m/\i= .int .i64 k/\a= .int .u64 bo /\
  (bo<4294967296/\Wd vs/\vs.length=m+1/\(∀j,k<=j->vs.getD j 0=us.getD j 0)/\val (vs.take k)+val (ys.take k)*d=val (us.take k)+4294967296^k*bo)/\eS wr g (pre++vs++post)/\fY g w wr)
  (fun _ i _=>m-(intOf i).toNat)
 case atStart=>exact⟨0,0,us,Nat.zero_le _,rfl,rfl,⟨by decide,hu,hl,fun _ _=>rfl,by simp[val]⟩,Hr.out,fY.refl _ _⟩
 case round=>
  obtain⟨k,bo,vs,hk,rfl,rfl,hv,hrow,ho⟩:=hrel
  by_cases hkn:k<m
  ·have hkn':(k:Int)<m:=O_
   obtain⟨b1,o1,rfl,hbb1,hc1⟩:=Hy.out.at O_;have hc2':=(ho.cell (o:=o1+k) (HB.out b1 o1 rfl)).trans (hc1 k hkn);have hfr:=hrow.frozen (pre.length+k);have hcz:=hrow.cell (pre.length+k) (sX _ _ _ _ (by rw[hv.2.2.1];omega));rw[tz _ _ _ _ (by rw[hv.2.2.1];omega)]at hcz;have hy1:=Hy.out.wd.getD k;have hu1:=hv.2.1.getD k;obtain⟨y,hyy⟩:∃y,ys.getD k 0=y:=⟨_,rfl⟩;obtain⟨u,huu⟩:∃u,vs.getD k 0=u:=⟨_,rfl⟩;obtain⟨P,hP⟩:∃P,y*d=P:=⟨_,rfl⟩;rw[hyy]at hc2' hy1;rw[huu]at hcz hu1;have hP1:(y:Int)*(d:Int)=(P:Int):=by rw[<- hP,Int.natCast_mul]
   have hPb:P<=18446744065119617025:=by
    rw[<- hP];exact V_ (Nat.mul_le_mul (Nat.le_of_lt_succ hy1) (Nat.le_of_lt_succ hd)) D_
   have hbo:bo<4294967296:=hv.1
   clear hc1;have Hv:=Lib.hid hv;have Hyy:=Lib.hid hyy;have Huu:=Lib.hid huu;have HP:=Lib.hid hP;have Hrow:=Lib.hid hrow;have Ho:=Lib.hid ho;clear hv hyy huu hP hrow ho;obtain⟨dd,b',q1,q2,q3,q4,q5⟩:=Fp u P bo hu1 hbo hPb;have Hq:=Lib.hid (And.intro q1 (And.intro q2 (And.intro q3 (And.intro q4 q5))));clear q1 q2 q3 q4 q5
   go_wp2_with fail
   rw[Hq.out.2.2.1,Hq.out.2.2.2.1]
   go_roundw
   case rel=>
    have hv:=Hv.out;refine⟨k+1,b',vs.set k dd,by omega,by go_num,rfl,⟨Hq.out.2.1,dr hv.2.1 _ _ Hq.out.1,by rw[List.length_set];exact hv.2.2.1,fun j hj=>by rw[getD_set_ne O_];exact hv.2.2.2.1 j O_,?_⟩,?_,Ho.out.setCell _ _⟩
    ·exact Lo (by rw[hv.2.2.1];omega) Hyy.out (by rw[<- hv.2.2.2.1 k (l_ _)];exact Huu.out) HP.out hv.2.2.2.2 Hq.out.2.2.2.2
    ·have h:=Hrow.out.set (pre.length+k) dd
     rw[kg _ _ _ _ _ (by rw[hv.2.2.1];omega)]at h;exact h
   case measure=>simp[intOf];omega
  ·obtain rfl:k=m:=O_
   have hkn':¬(k:Int)<k:=O_
   have hfr:=hrow.frozen (pre.length+k);have hcz:=hrow.cell (pre.length+k) (sX _ _ _ _ (by rw[hv.2.2.1];omega));rw[tz _ _ _ _ (by rw[hv.2.2.1];omega)]at hcz;have hu1:=hv.2.1.getD k;have hbo:bo<4294967296:=hv.1
   obtain⟨u,huu⟩:∃u,vs.getD k 0=u:=⟨_,rfl⟩;rw[huu]at hcz hu1;obtain⟨dd,q1,q2,q3,q4⟩:=JB u bo hu1 hbo;have hend:=MS hv.2.1 hv.2.2.1 hl Hy.out.len (by rw[<- hv.2.2.2.1 k (l_ _)];exact huu) q1 hv.2.2.2.2 q4;have hset:=hrow.set (pre.length+k) dd;rw[kg _ _ _ _ _ (by rw[hv.2.2.1];omega)]at hset;have Hset:=Lib.hid hset;have Hend:=Lib.hid hend;have Hq:=Lib.hid (And.intro q1 (And.intro q2 q3));have Hv:=Lib.hid hv;have Ho:=Lib.hid (ho.setCell (pre.length+k) (bZ dd));clear hv huu hrow ho hset hend q1 q2 q3 q4
   go_wp2_with fail
   rw[Hq.out.2.1]
   go_ret
   exact⟨vs.set k dd,TH (by rw[<- Hend.out.1,<- Hq.out.2.2]),by rw[List.length_set,Hv.out.2.2.1,hl],dr Hv.out.2.1 _ _ Hq.out.1,Hend.out.2,Hset.out,Ho.out⟩
def Sb (g:Nat) (pre us post ys:List Nat) (w:World) (e:Ending) (w':World):Prop:=∃us' t,e= .returned (.tuple #[])/\us'.length=us.length/\Wd us' /\
 val us'+t*4294967296^us.length=val us+val ys/\eS w' g (pre++us'++post)/\fY g w w'
theorem IM {us vs ys:List Nat} {k cy y u dd b:Nat} (hk:k<vs.length) (hy:ys.getD k 0=y) (hu:us.getD k 0=u)
 (h:val (vs.take k)+4294967296^k*cy=val (us.take k)+val (ys.take k)) (he:dd+4294967296*b=cy+(u+y)):
 val ((vs.set k dd).take (k+1))+4294967296^(k+1)*b=val (us.take (k+1))+val (ys.take (k+1)):=by
 rw[an,an,an,ip,eC hk,hy,hu,bh];generalize 4294967296^k=B at *;have e2:B*dd+B*(4294967296*b)=B*cy+B*(u+y):=by rw[<- Nat.mul_add,he,Nat.mul_add]
 rw[Nat.mul_add B u y]at e2;have e3:B*(4294967296*b)=4294967296*B*b:=by grind
 omega
theorem MV {us vs ys:List Nat} {m cy u dd t:Nat} (hv:vs.length=m+1) (hu:us.length=m+1) (hy:ys.length=m) (huu:us.getD m 0=u)
 (h:val (vs.take m)+4294967296^m*cy=val (us.take m)+val (ys.take m)) (he:dd+4294967296*t=u+cy):
 val (vs.set m dd)+t*4294967296^us.length=val us+val ys:=by
 have e1:val us=val (us.take m)+4294967296^m*u:=by
  have:=an us m;rw[K_ O_,huu]at this;exact this
 have e2:val (vs.set m dd)=val (vs.take m)+4294967296^m*dd:=by
  exact UY
 rw[K_ (show ys.length<=m by omega)]at h;rw[hu,bh];generalize 4294967296^m=B at *;have e4:B*dd+B*(4294967296*t)=B*u+B*cy:=by rw[<- Nat.mul_add,he,Nat.mul_add]
 have e5:t*(4294967296*B)=B*(4294967296*t):=by grind
 omega
theorem GL (g m c2 n2:Nat) (B:Option Addr) (c:Nat) (pre us post ys:List Nat) (w:World) (hr:eS w g (pre++us++post)) (hu:Wd us) (hl:us.length=m+1) (hy:bi w B m c ys) (hB:∀b o,B=some ⟨b,o,none⟩->b≠g)
 (hn:n2=m+1) (hc2:n2<=c2) (hs:m<=4294967296):
 Calls Tryz.prog 318 #[.slice (some ⟨g,pre.length,none⟩) n2 c2, .slice B m c] w (Sb g pre us post ys w):=by
 subst hn;have Hy:=Lib.hid hy;have Hr:=Lib.hid hr;have HB:=Lib.hid hB;have hlim:=hy.cap;have hlim2:=hy.lim;clear hr hy hB
 go_enter func318,ntmps318
 go_wp2_with fail
 go_loopw [4,9] (fun a i wr=>∃(k cy:Nat) (vs:List Nat),k<=m/\i= .int .i64 k/\a= .int .u64 cy /\
  (cy<2/\Wd vs/\vs.length=m+1/\(∀j,k<=j->vs.getD j 0=us.getD j 0)/\val (vs.take k)+4294967296^k*cy=val (us.take k)+val (ys.take k))/\eS wr g (pre++vs++post)/\fY g w wr)
  (fun _ i _=>m-(intOf i).toNat)
 case atStart=>exact⟨0,0,us,Nat.zero_le _,rfl,rfl,⟨by decide,hu,hl,fun _ _=>rfl,by simp[val]⟩,Hr.out,fY.refl _ _⟩
 case round=>
  obtain⟨k,cy,vs,hk,rfl,rfl,hv,hrow,ho⟩:=hrel;have hcy:cy<2:=hv.1
  have hfr:=hrow.frozen (pre.length+k);have hcz:=hrow.cell (pre.length+k) (sX _ _ _ _ (by rw[hv.2.2.1];omega));rw[tz _ _ _ _ (by rw[hv.2.2.1];omega)]at hcz;have hu1:=hv.2.1.getD k;obtain⟨u,huu⟩:∃u,vs.getD k 0=u:=⟨_,rfl⟩;rw[huu]at hcz hu1
  by_cases hkn:k<m
  ·have hkn':(k:Int)<m:=O_
   obtain⟨b1,o1,rfl,hbb1,hc1⟩:=Hy.out.at O_;have hc2':=(ho.cell (o:=o1+k) (HB.out b1 o1 rfl)).trans (hc1 k hkn);have hy1:=Hy.out.wd.getD k;obtain⟨y,hyy⟩:∃y,ys.getD k 0=y:=⟨_,rfl⟩;rw[hyy]at hc2' hy1;clear hc1;have Hv:=Lib.hid hv;have Hyy:=Lib.hid hyy;have Huu:=Lib.hid huu;have Hrow:=Lib.hid hrow;have Ho:=Lib.hid ho;clear hv hyy huu hrow ho
   go_wp2_with fail
   have e1:((cy:Int)+(u+y))%4294967296=(((cy+(u+y))%4294967296:Nat):Int):=O_
   have e2:((cy:Int)+(u+y))/4294967296=(((cy+(u+y))/4294967296:Nat):Int):=O_
   rw[e1,e2]
   go_roundw
   case rel=>
    have hv:=Hv.out;refine⟨k+1,(cy+(u+y))/4294967296,vs.set k ((cy+(u+y))%4294967296),by omega,by go_num,rfl,⟨by omega,dr hv.2.1 _ _ O_,by rw[List.length_set];exact hv.2.2.1,fun j hj=>by rw[getD_set_ne O_];exact hv.2.2.2.1 j O_,?_⟩,?_,Ho.out.setCell _ _⟩
    ·exact IM (u:=u) (y:=y) (by rw[hv.2.2.1];omega) Hyy.out (by rw[<- hv.2.2.2.1 k (l_ _)];exact Huu.out) hv.2.2.2.2 O_
    ·have h:=Hrow.out.set (pre.length+k) ((cy+(u+y))%4294967296)
     rw[kg _ _ _ _ _ (by rw[hv.2.2.1];omega)]at h;exact h
   case measure=>simp[intOf];omega
  ·obtain rfl:k=m:=O_
   have hkn':¬(k:Int)<k:=O_
   have hend:=MV (u:=u) (dd:=(u+cy)%4294967296) (t:=(u+cy)/4294967296) hv.2.2.1 hl Hy.out.len (by rw[<- hv.2.2.2.1 k (l_ _)];exact huu) hv.2.2.2.2 O_;have hset:=hrow.set (pre.length+k) ((u+cy)%4294967296);rw[kg _ _ _ _ _ (by rw[hv.2.2.1];omega)]at hset;have Hset:=Lib.hid hset;have Hend:=Lib.hid hend;have Hv:=Lib.hid hv;have Ho:=Lib.hid (ho.setCell (pre.length+k) (bZ ((u+cy)%4294967296)));clear hv huu hrow ho hset hend
   go_wp2_with fail
   go_end0
   exact⟨vs.set k _,_,rfl,by rw[List.length_set,Hv.out.2.2.1,hl],dr Hv.out.2.1 _ _ O_,Hend.out,Hset.out,Ho.out⟩
end Go.Proofs.YtnchbpoopnjghaaGreatDoor
