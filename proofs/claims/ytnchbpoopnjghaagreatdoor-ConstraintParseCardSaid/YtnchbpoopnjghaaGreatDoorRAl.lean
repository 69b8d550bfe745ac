/- The division of long numbers: the words that the estimate looks at; the shift. The division of long numbers: what holds from round to round. A list divided by one word, both packages. A list shifted to the left, both packages. subtract and restore of the program: they write into a part of a row. -/
import Derived.Test.YtnchbpoopnjghaaGreatDoorRAf
set_option maxHeartbeats 100000000
set_option linter.all false
open Go.Proofs.Tryz
namespace Go.Proofs.YtnchbpoopnjghaaGreatDoor
open Go.RowKit
def Ru(l:List Nat)(k:Nat)(h:l.length=k+2):val l=val (l.take k)+4294967296^k*(l.getD k 0+4294967296*l.getD (k+1) 0):=by
 have b:=ai l k;have a:=ai l (k+1);rw[K_ O_,b,aY]at a;rw[a,Nat.mul_add];have:4294967296^k*(4294967296*l.getD (k+1) 0)=4294967296*4294967296^k*l.getD (k+1) 0:=by grind
 omega
def Rh(l:List Nat)(k:Nat)(h:l.length=k+3):val l=val (l.take k)+4294967296^k*(l.getD k 0+4294967296*l.getD (k+1) 0+18446744073709551616*l.getD (k+2) 0):=by
 have b:=ai l k;have c:=ai l (k+1);have a:=ai l (k+1+1);rw[K_ O_,c,b,aY (k+1),aY k]at a;rw[a];clear b c a;generalize 4294967296^k=B;generalize l.getD k 0=x;generalize l.getD (k+1) 0=y;generalize l.getD (k+2) 0=z;have e:4294967296*(4294967296*B)*z=B*(18446744073709551616*z):=by grind
 have d:4294967296*B*y=B*(4294967296*y):=by grind
 rw[Nat.mul_add,Nat.mul_add];omega
def vO{us vs:List Nat}{k:Nat}(e:us.length=k+3)(f:vs.length=k+2)(a:Wd us)(b:Wd vs)(d:val us<val vs*4294967296)(c:2147483648<=vs.getD (k+1) 0):
 AN (val us) (val vs) (val us/val vs) (vs.getD (k+1) 0) (vs.getD k 0) (us.getD (k+2) 0) (us.getD (k+1) 0) (us.getD k 0) (4294967296^k) (val (us.take k)) (val (vs.take k)):=
 ⟨Rh us k e,Ru vs k f,ff a k,ff b k,rfl,d,c,b.getD _,b.getD _,a.getD _,a.getD _⟩
def uc{b m x s:Nat}(J:0<m)(C:(digs b).length=m)(p:(digs b).getD (m-1) 0=x)(K:s=32-bitLen x):
 s<=31/\bitLen x<=32/\(digs (b*2^s)).length=m/\2147483648<=(digs (b*2^s)).getD (m-1) 0:=by
 obtain⟨k,rfl⟩:∃k,m=k+1:=⟨m-1,by omega⟩;rw[Nat.add_sub_cancel]at *;have q:=(r9 (ab b) (wY b) k C).1;rw[p]at q;have f:x<4294967296:=by rw[<- p];exact(ab b).getD k
 have c:=qg x f;have e:=bitLen_spec x;have l:=e.2 O_;have a:=e.1;have A:0<bitLen x:=by
  rcases Nat.eq_zero_or_pos (bitLen x)with h|h
  ·rw[h]at a;omega
  ·exact h
 have F:b=val ((digs b).take k)+4294967296^k*x:=by have:=ai (digs b) k;rw[K_ O_,ae,p]at this;exact this
 have d:=ff (ab b) k;generalize val ((digs b).take k)=lo at *;have E:2^bitLen x*2^s=4294967296:=by rw[<- Nat.pow_add,show bitLen x+s=32 by omega]
 have o:2^(bitLen x-1)*2^s=2147483648:=by rw[<- Nat.pow_add,show bitLen x-1+s=31 by omega]
 have u:2147483648<=x*2^s:=by rw[<- o];exact P_ _ l
 have v:x*2^s+2^s<=4294967296:=by rw[<- E];have:=P_ (2^s) (show x+1<=2^bitLen x from a);rw[Nat.add_mul,Nat.one_mul]at this;exact this
 have t:b*2^s=lo*2^s+4294967296^k*(x*2^s):=by rw[F];grind
 have G:lo*2^s<4294967296^k*2^s:=Nat.mul_lt_mul_of_pos_right d (Nat.two_pow_pos s);have w:b*2^s<4294967296^(k+1):=by have y:=Nat.mul_le_mul_left (4294967296^k) v;rw[Nat.mul_add]at y;rw[aY,t];omega
 have H:4294967296^k*2147483648<=b*2^s:=by have:=Nat.mul_le_mul_left (4294967296^k) u;omega
 have D:=aL w;have B:¬(digs (b*2^s)).length<=k:=by intro h;have:=bE h;have r:0<4294967296^k:=Nat.pow_pos D_;omega
 have hlen:(digs (b*2^s)).length=k+1:=O_;refine⟨by omega,c,hlen,?_⟩;have z:=ai (digs (b*2^s)) k;rw[K_ O_,ae]at z;have I:=ff (ab (b*2^s)) k;rcases Nat.lt_or_ge ((digs (b*2^s)).getD k 0) 2147483648 with j|j
 ·exfalso;have g:4294967296^k*((digs (b*2^s)).getD k 0+1)<=4294967296^k*2147483648:=Nat.mul_le_mul_left _ j;rw[Nat.mul_add,o_]at g;omega
 ·exact j
def Dk{a b n m s:Nat}(w:(digs a).length=n)(v:0<m)(p:m<=n)(u:(digs (b*2^s)).length=m)(d:2147483648<=(digs (b*2^s)).getD (m-1) 0)(c:s<=31):
 a*2^s<(b*2^s)*4294967296^(n+1-m):=by
 have o:=bE (n:=a) (k:=n) O_;have f:=ai (digs (b*2^s)) (m-1);rw[show m-1+1=m by omega,K_ O_,ae]at f;have g:4294967296^(m-1)*2147483648<=b*2^s:=by have:=Nat.mul_le_mul_left (4294967296^(m-1)) d;omega
 have h:2^s<=2147483648:=by have:2^s<=2^31:=Nat.pow_le_pow_right D_ c;omega
 have j:4294967296^(m-1)*2147483648*4294967296^(n+1-m)=4294967296^n*2147483648:=by
  have e:(4294967296:Nat)^n=4294967296^(m-1)*4294967296^(n+1-m):=by rw[<- Nat.pow_add];congr 1;omega
  rw[e];generalize(4294967296:Nat)^(m-1)=P;generalize(4294967296:Nat)^(n+1-m)=Q
  grind
 have l:=P_ (4294967296^(n+1-m)) g;rw[j]at l;have q:a*2^s<4294967296^n*2147483648:=by have r:a*2^s<=a*2147483648:=Nat.mul_le_mul_left _ h;have t:a*2147483648<4294967296^n*2147483648:=Nat.mul_lt_mul_of_pos_right o D_;omega
 omega
def vX(a b s:Nat):(a*2^s)/(b*2^s)=a/b/\(a*2^s)%(b*2^s)=(a%b)*2^s:=
 ⟨Nat.mul_div_mul_right a b (Nat.two_pow_pos s),Nat.mul_mod_mul_right _ _ _⟩
structure KD (n m Q k V U0:Nat) (zs qs:List Nat):Prop where
 zl:zs.length=n+1
 zw:Wd zs
 ql:qs.length=Q
 qw:Wd qs
 hi0:∀j,k+m<=j->zs.getD j 0=0
 lt:val zs<V*4294967296^k
 sum:val zs+V*4294967296^k*val (qs.drop k)=U0
def ly{l:List Nat}(h:∀j,l.getD j 0=0):val l=0:=by
 induction l with
 |nil=>rfl
 |cons x c b=>
  have h0:x=0:=by simpa using h 0
  have a:val c=0:=b (fun j=>by simpa using h (j+1));simp only[val,h0,a]
def KD.start{n m Q V U0:Nat}{zs:List Nat}(e:Q+m=n+1)(c:zs.length=n+1)(d:Wd zs)(b:val zs=U0)(a:U0<V*4294967296^Q):KD n m Q Q V U0 zs (ax Q):=
 ⟨c,d,aN _,b6 _,fun j f=>by rw[H_,List.getElem?_eq_none O_];rfl,by rw[b];exact a,by rw[List.drop_of_length_le (by rw[aN];exact l_ _)];simp[val,b]⟩
section
variable {n m Q i V U0:Nat}{zs qs:List Nat}
def pre(zs:List Nat)(i:Nat):List Nat:=zs.take i
def part(zs:List Nat)(i m:Nat):List Nat:=(zs.drop i).take (m+1)
def post(zs:List Nat)(i m:Nat):List Nat:=zs.drop (i+m+1)
def KD.parts(h:KD n m Q (i+1) V U0 zs qs)(e:Q+m=n+1)(f:i<Q):
 zs=pre zs i++part zs i m++post zs i m/\(pre zs i).length=i/\(part zs i m).length=m+1/\Wd (pre zs i)/\Wd (part zs i m)/\val (post zs i m)=0/\val (part zs i m)<V*4294967296:=by
 have g:=h.zl;have a:zs=pre zs i++part zs i m++post zs i m:=by unfold pre part post;rw[e_,show i+m+1=i+(m+1) by omega,<- List.drop_drop,List.take_append_drop,List.take_append_drop]
 have c:(pre zs i).length=i:=by unfold pre;rw[U_];omega
 have d:(part zs i m).length=m+1:=by unfold part;rw[U_,n_];omega
 have b:val (post zs i m)=0:=by refine ly (fun j=>?_);have:=h.hi0 (i+m+1+j) O_;unfold post;rw[H_,List.getElem?_drop];rwa[H_]at this
 refine⟨a,c,d,h.zw.take _,(h.zw.drop _).take _,b,?_⟩;refine BV (pre:=pre zs i) (post:=post zs i m) b ?_;rw[<- a,c];exact h.lt
def xS(zs:List Nat)(i m j:Nat)(a:j<m+1):(part zs i m).getD j 0=zs.getD (i+j) 0:=by unfold part;rw[H_,List.getElem?_take,if_pos a,List.getElem?_drop,H_]
def KD.next(h:KD n m Q (i+1) V U0 zs qs)(y:Q+m=n+1)(r:i<Q)(p:0<V)(z:V<4294967296^m){us':List Nat}{q:Nat}(t:q=val (part zs i m)/V)(d:q<4294967296)(k:us'.length=m+1)(C:Wd us')(u:val us'=val (part zs i m)-V*q):KD n m Q i V U0 (pre zs i++us'++post zs i m) (qs.set i q):=by
 obtain⟨w,b,E,v,F,B,A⟩:=h.parts y r;have a:=h.sum;have l:(post zs i m).length=n-i-m:=by unfold post;rw[n_,h.zl];omega
 rw[w]at a;rw[<- b]at a;have o:=zc (pre:=pre zs i) (us:=part zs i m) (us':=us') (post:=post zs i m) (qs:=qs) (V:=V) (U0:=U0) (q:=q) v B t p (by rw[b,h.ql];exact r) (by rw[b]at a ⊢;exact a) u;rw[b]at o;have s:val us'<V:=by rw[u,t];have c:=Nat.div_add_mod (val (part zs i m)) V;have f:=Nat.mod_lt (val (part zs i m)) p;generalize V*(val (part zs i m)/V)=X at *;generalize val (part zs i m)%V=Y at *;omega
 have e:us'.getD m 0=0:=by
  have c:=ai us' m;rw[K_ O_]at c;rcases Nat.eq_zero_or_pos (us'.getD m 0)with f|f
  ·exact f
  ·exfalso;have x:=Nat.mul_le_mul_left (4294967296^m) f;rw[o_]at x;omega
 refine⟨by simp only[L_,b,k,l];omega,(v.append C).append (h.zw.drop _),by rw[List.length_set];exact h.ql,di h.qw _ _ d,fun j D=>?_,o.1,o.2⟩;by_cases g:j=i+m
 ·subst g;rw[e_,H_,g_ O_,b,Nat.add_sub_cancel_left,List.getElem?_append_left O_,<- H_];exact e
 ·rw[H_,g_ (by simp only[L_,b,k];omega)];have c:=h.hi0 j O_;rw[H_]at c;simp only[L_,b,k];unfold post;rw[List.getElem?_drop,show i+m+1+(j-(i+(m+1)))=j by omega];exact c
end
def SP(q r:Nat)(w:World)(e:Ending)(w':World):Prop:=∃(A:Option Addr)(n c:Nat),
 e= .returned (.tuple #[.slice A n c, .int .u32 r])/\a7 w' A n c (digs q)/\Below w.heap.size w w'
def EH{xs zs:List Nat}{b k r x:Nat}(g:0<b)(j:k+1<=xs.length)(o:k<zs.length)(l:xs.getD k 0=x)(e:val (zs.drop (k+1))=val (xs.drop (k+1))/b)(f:r=val (xs.drop (k+1))%b):
 val ((zs.set k ((r*4294967296+x)/b)).drop k)=val (xs.drop k)/b/\(r*4294967296+x)%b=val (xs.drop k)%b:=by
 have a:=bQ xs (k+1) (Nat.succ_pos k) j;have c:=bQ (zs.set k ((r*4294967296+x)/b)) (k+1) (Nat.succ_pos k) (by rw[List.length_set];omega);rw[Nat.add_sub_cancel]at a c;rw[a,c,l,eg o,List.drop_set_of_lt O_];simp only[val];rw[e,f];generalize val (xs.drop (k+1))=V;have h:=Nat.div_add_mod V b;generalize V/b=Q at *;generalize V%b=R at *;subst h;have d:x+4294967296*(b*Q+R)=(R*4294967296+x)+b*(4294967296*Q):=by grind
 rw[d,Nat.add_mul_div_left _ _ g,Nat.add_mul_mod_self_left];exact⟨by omega,rfl⟩
def xy(A:Option Addr)(n c b:Nat)(xs:List Nat)(w:World)(l:a7 w A n c xs)(J:n<=4294967296)(hb0:0<b)(C:b<4294967296):
 Calls prog 314 #[.slice A n c, .int .u32 b] w (j2 (val xs/b) (val xs%b) w):=by
 have E:=l.cap;have H:=l.lim;have Hx:=Lib.hid l;have Hb0:=Lib.hid hb0;clear l;have hmk:=eD n n rfl O_;have hrow:=dp w (ax n);have j:Below w.heap.size w (w.alloc (de (ax n))):=(Below.refl _ _).alloc (l_ _) _;have Hrow:=Lib.hid hrow;have Hbb:=Lib.hid j;clear hrow j;have D:¬b=0:=O_
 go_enter func314,ntmps314
 go_wp2_with fail
 go_loopw [7,8] (fun a i wr=>∃(k r:Nat)(zs:List Nat),k<=n/\i= .int .i64 ((k:Int)-1)/\a= .int .u64 r /\
  (Wd zs/\zs.length=n/\val (zs.drop k)=val (xs.drop k)/b/\r=val (xs.drop k)%b)/\eK wr w.heap.size zs/\Below w.heap.size w wr)
  (fun _ i _=>(intOf i+1).toNat)
 case atStart=>exact⟨n,0,ax n,l_ _,rfl,rfl,⟨b6 _,aN _,by rw[List.drop_of_length_le (by rw[aN];exact l_ _),List.drop_of_length_le (by rw[Hx.out.len];exact l_ _)];simp[val],by rw[List.drop_of_length_le (by rw[Hx.out.len];exact l_ _)];simp[val]⟩,Hrow.out,Hbb.out⟩
 case round=>
  obtain⟨k,r,zs,I,rfl,rfl,hv,hrow,hb⟩:=hrel;have F:r<b:=by rw[hv.2.2.2];exact Nat.mod_lt _ hb0
  by_cases h0:0<k
  ·exact Vx
  ·obtain rfl:k=0:=O_;have d:=hv.2.2.1;have f:=hv.2.2.2;rw[List.drop_zero,List.drop_zero]at d;rw[List.drop_zero]at f;have hr4:r<4294967296:=O_;have u:=Lib.hid (hrow.wrd' hv.1 hv.2.1 O_);have Hv3:=Lib.hid d;have Hv4:=Lib.hid f;have t:=Lib.hid hb;clear hv d f hrow hb hmk
   go_wp2_with (first
    |(go_at_call 194;(with_reducible refine(gk _ _ _ zs _ u.out).mono ?_);rintro e K ⟨rfl,rfl⟩)
    |(go_at_call 233;(with_reducible refine(jS r O_ _).mono ?_);rintro e L ⟨s,B,z,G,rfl,o,rfl,g⟩))
   refine bodyPost_ret (v:= .tuple #[.slice _ _ _, .slice s B z]) (by simp[results,results314,go_sem];exact⟨rfl,rfl,rfl⟩) rfl ?_;refine⟨_,_,_,s,B,z,rfl,?_,Hv4.out ▸ o,t.out.trans (g.mono t.out.size)⟩;have h:=u.out.trim.below g;unfold trim at h;rw[Hv3.out]at h;unfold trim;rw[Hv3.out];exact h
def N4(A:Option Addr)(n c b:Nat)(xs:List Nat)(w:World)(j:a7 w A n c xs)(D:n<=4294967296)(hb0:0<b)(s:b<4294967296):
 Calls prog 223 #[.slice A n c, .int .u32 b] w (SP (val xs/b) (val xs%b) w):=by
 have u:=j.cap;have B:=j.lim;have Hx:=Lib.hid j;have Hb0:=Lib.hid hb0;clear j;have hmk:=eD n n rfl O_;have hrow:=dp w (ax n);have g:Below w.heap.size w (w.alloc (de (ax n))):=(Below.refl _ _).alloc (l_ _) _;have Hrow:=Lib.hid hrow;have Hbb:=Lib.hid g;clear hrow g;have t:¬b=0:=O_
 go_enter func223,ntmps223
 go_wp2_with fail
 go_loopw [7,8] (fun a i wr=>∃(k r:Nat)(zs:List Nat),k<=n/\i= .int .i64 ((k:Int)-1)/\a= .int .u64 r /\
  (Wd zs/\zs.length=n/\val (zs.drop k)=val (xs.drop k)/b/\r=val (xs.drop k)%b)/\eK wr w.heap.size zs/\Below w.heap.size w wr)
  (fun _ i _=>(intOf i+1).toNat)
 case atStart=>exact⟨n,0,ax n,l_ _,rfl,rfl,⟨b6 _,aN _,by rw[List.drop_of_length_le (by rw[aN];exact l_ _),List.drop_of_length_le (by rw[Hx.out.len];exact l_ _)];simp[val],by rw[List.drop_of_length_le (by rw[Hx.out.len];exact l_ _)];simp[val]⟩,Hrow.out,Hbb.out⟩
 case round=>
  obtain⟨k,r,zs,C,rfl,rfl,hv,hrow,hb⟩:=hrel;have z:r<b:=by rw[hv.2.2.2];exact Nat.mod_lt _ hb0
  by_cases h0:0<k
  ·exact Vx
  ·obtain rfl:k=0:=O_;have d:=hv.2.2.1;have f:=hv.2.2.2;rw[List.drop_zero,List.drop_zero]at d;rw[List.drop_zero]at f;have hr4:r<4294967296:=O_;have l:=Lib.hid (hrow.wrd' hv.1 hv.2.1 O_);have Hv3:=Lib.hid d;have Hv4:=Lib.hid f;have o:=Lib.hid hb;clear hv d f hrow hb hmk
   go_wp2_with (go_at_call 172;(with_reducible refine(dm _ _ _ zs _ l.out).mono ?_);rintro e E ⟨rfl,rfl⟩)
   refine bodyPost_ret (v:= .tuple #[.slice _ _ _, .int .u32 r]) (by simp[results,results223,go_sem];exact⟨rfl,rfl,rfl⟩) rfl ?_;refine⟨_,_,_,by rw[<- Hv4.out],?_,o.out⟩;have h:=l.out.trim;unfold trim at h;rw[Hv3.out]at h;unfold trim;rw[Hv3.out];exact h
def Kz(Φ:List Nat->Prop)(w:World)(e:Ending)(w':World):Prop:=∃g zs,e= .returned (.slice (some ⟨g,0,none⟩) zs.length zs.length)/\w.heap.size<=g/\eK w' g zs/\Wd zs/\Φ zs/\Below w.heap.size w w'
def ID(s x z:Nat)(a:s<=31)(q:x<4294967296)(r:z<2^s):
 bits BinOp.or IntKind.u32 (z:Int) (IntKind.u64.wrap ((x:Int)*2^s)%4294967296)=((z+x*2^s%4294967296:Nat):Int)/\IntKind.u64.wrap ((x:Int)*2^s)/4294967296%4294967296=((x*2^s/4294967296:Nat):Int) /\
 z+x*2^s%4294967296<4294967296/\x*2^s/4294967296<2^s:=by
 have g:=Ej s a;have p:2^s<=2147483648:=by have:2^s<=2^31:=Nat.pow_le_pow_right D_ a;omega
 have t:x*2^s<9223372036854775808:=by have:x*2^s<=4294967295*2147483648:=Nat.mul_le_mul O_ p;omega
 have o:x*2^s<4294967296*2^s:=Nat.mul_lt_mul_of_pos_right q (Nat.two_pow_pos s);have j:((x:Int)*2^s)=((x*2^s:Nat):Int):=by rw[Int.natCast_mul,Int.natCast_pow];rfl
 have k:IntKind.u64.wrap ((x*2^s:Nat):Int)=((x*2^s:Nat):Int):=by rw[IntKind.wrap_u64];omega
 have c:x*2^s%4294967296=(x%2^(32-s))*2^s:=by rw[<- g,Nat.mul_comm x,Nat.mul_mod_mul_left,Nat.mul_comm]
 have f:(x%2^(32-s))*2^s+2^s<=4294967296:=by have l:x%2^(32-s)+1<=2^(32-s):=Nat.mod_lt _ (Nat.two_pow_pos _);have e:=P_ (2^s) l;rw[Nat.add_mul,Nat.one_mul,Nat.mul_comm (2^(32-s)),g]at e;exact e
 have d:z |||(x*2^s%4294967296)=z+x*2^s%4294967296:=by have h:=Nat.shiftLeft_add_eq_or_of_lt (i:=s) (b:=z) r (x%2^(32-s));rw[Nat.shiftLeft_eq]at h;rw[c,Nat.or_comm,<- h,Nat.add_comm]
 rw[j,k];generalize x*2^s=P at *;refine⟨?_,by omega,by omega,by omega⟩;rw[show((P:Int)%4294967296)=((P%4294967296:Nat):Int) by omega,u32_or_nat _ _ O_ O_,d]
def IG{xs zs:List Nat}{s k x z:Nat}(p:k+1<zs.length)(f:xs.getD k 0=x)(g:zs.getD k 0=z)(h0:zs.getD (k+1) 0=0)(h:val zs=val (xs.take k)*2^s):
 val ((zs.set k (z+x*2^s%4294967296)).set (k+1) (x*2^s/4294967296))=val (xs.take (k+1))*2^s:=by
 have c:=iK zs k (z+x*2^s%4294967296) O_;have a:=iK (zs.set k (z+x*2^s%4294967296)) (k+1) (x*2^s/4294967296) (by rw[List.length_set];omega);rw[getD_set_ne O_,h0,Nat.mul_zero,Nat.add_zero]at a;rw[g]at c;rw[a,ai,f,aY];have d:=Nat.div_add_mod (x*2^s) 4294967296;generalize o:x*2^s%4294967296=L at *;generalize l:x*2^s/4294967296=H at *;generalize 4294967296^k=B at *;rw[Nat.add_mul,<- h];have e:B*x*2^s=B*(x*2^s):=Nat.mul_assoc _ _ _;rw[e,<- d];have b:B*(4294967296*H+L)=4294967296*B*H+B*L:=by grind
 rw[b];have j:B*(z+L)=B*z+B*L:=Nat.mul_add _ _ _;omega
def zk(A:Option Addr)(n c s:Nat)(xs:List Nat)(w:World)(b:a7 w A n c xs)(g:n<=4294967296)(h31:s<=31):
 Calls prog 316 #[.slice A n c, .int .i64 s] w (Kz (fun zs=>val zs=val xs*2^s/\zs.length=n+1) w):=by
 have d:=b.cap;have f:=b.lim;have Hx:=Lib.hid b;clear b;have hmk:=eD (n+1) ((n:Int)+1) O_ O_;have hrow:=dp w (ax (n+1));have a:Below w.heap.size w (w.alloc (de (ax (n+1)))):=(Below.refl _ _).alloc (l_ _) _;have Hrow:=Lib.hid hrow;have Hbb:=Lib.hid a;clear hrow a
 go_enter func316,ntmps316
 go_wp2_with fail
 go_loopw [15] (fun i wr=>∃(k:Nat)(zs:List Nat),k<=n/\i= .int .i64 k /\
  (Wd zs/\zs.length=n+1/\(∀j,k<j->zs.getD j 0=0)/\zs.getD k 0<2^s/\val zs=val (xs.take k)*2^s)/\eK wr w.heap.size zs/\Below w.heap.size w wr)
  (fun i _=>n-(intOf i).toNat)
 case atStart=>exact⟨0,ax (n+1),Nat.zero_le _,rfl,⟨b6 _,aN _,fun j _=>aV _ _,by unfold ax;rw[aV];exact Nat.two_pow_pos s,by unfold ax;rw[bf];simp[val]⟩,Hrow.out,Hbb.out⟩
 case round=>exact VP
def Bc(A:Option Addr)(n c s:Nat)(xs:List Nat)(w:World)(b:a7 w A n c xs)(g:n<=4294967296)(h31:s<=31):
 Calls prog 308 #[.slice A n c, .int .i64 s] w (Kz (fun zs=>val zs=val xs*2^s/\zs.length=n+1) w):=by
 have d:=b.cap;have f:=b.lim;have Hx:=Lib.hid b;clear b;have hmk:=eD (n+1) ((n:Int)+1) O_ O_;have hrow:=dp w (ax (n+1));have a:Below w.heap.size w (w.alloc (de (ax (n+1)))):=(Below.refl _ _).alloc (l_ _) _;have Hrow:=Lib.hid hrow;have Hbb:=Lib.hid a;clear hrow a
 go_enter func308,ntmps308
 go_wp2_with fail
 go_loopw [6] (fun i wr=>∃(k:Nat)(zs:List Nat),k<=n/\i= .int .i64 k /\
  (Wd zs/\zs.length=n+1/\(∀j,k<j->zs.getD j 0=0)/\zs.getD k 0<2^s/\val zs=val (xs.take k)*2^s)/\eK wr w.heap.size zs/\Below w.heap.size w wr)
  (fun i _=>n-(intOf i).toNat)
 case atStart=>exact⟨0,ax (n+1),Nat.zero_le _,rfl,⟨b6 _,aN _,fun j _=>aV _ _,by unfold ax;rw[aV];exact Nat.two_pow_pos s,by unfold ax;rw[bf];simp[val]⟩,Hrow.out,Hbb.out⟩
 case round=>exact VP
structure gh (g:Nat) (w w':World):Prop where
 os:w'.os=w.os
 tape:w'.tape=w.tape
 output:w'.output=w.output
 size:w'.heap.size=w.heap.size
 block:∀b,b≠g->w'.heap[b]? =w.heap[b]?
def gh.refl(g:Nat)(w:World):gh g w w:=⟨rfl,rfl,rfl,rfl,fun _ _=>rfl⟩
def gh.cell{g:Nat}{w w':World}(h:gh g w w'){b o:Nat}(c:b≠g):w'.cell? ⟨b,o,none⟩=w.cell? ⟨b,o,none⟩:=World.cell?_of_block (a:=⟨b,o,none⟩) (h.block b c)
def gh.setCell{g:Nat}{w w':World}(h:gh g w w')(i:Nat)(v:Value):gh g w (w'.setCell ⟨g,i,none⟩ v):=by
 refine⟨h.os,h.tape,h.output,?_,fun b a=>?_⟩
 ·simp[h.size]
 ·rw[<- h.block b a];simp[World.setCell,Array.getElem?_modify,Ne.symm a]
def gh.below{g N:Nat}{W w w':World}(h:gh g w w')(a:Below N W w)(c:N<=g):Below N W w':=
 ⟨h.os.trans a.os,h.tape.trans a.tape,h.output.trans a.output,by rw[h.size];exact a.size,fun i b=>(h.block i O_).trans (a.block i b)⟩
def a7.only{g:Nat}{w w':World}{A:Option Addr}{n c:Nat}{xs:List Nat}(h:a7 w A n c xs)(j:gh g w w')(d:∀b o,A=some ⟨b,o,none⟩->b≠g):a7 w' A n c xs:=by
 refine⟨h.len,h.cap,h.lim,h.wd,?_,h.isnil⟩;rcases h.cells with h0| ⟨b,a,e,f⟩
 ·exact .inl h0
 ·exact .inr ⟨b,a,e,fun i v k=>(j.cell (d b a e)).trans (f i v k)⟩
def eK.only{g k:Nat}{w w':World}{zs:List Nat}(h:eK w k zs)(b:gh g w w')(a:k≠g):eK w' k zs:=(b.block k a).trans h
def tH(pre us post:List Nat)(i:Nat)(a:i<us.length):(pre++us++post).getD (pre.length+i) 0=us.getD i 0:=by rw[e_,H_,g_ O_,Nat.add_sub_cancel_left,List.getElem?_append_left a,H_]
def kA(pre us post:List Nat)(i x:Nat)(a:i<us.length):(pre++us++post).set (pre.length+i) x=pre++us.set i x++post:=by rw[e_,List.set_append_right _ _ O_,Nat.add_sub_cancel_left,List.set_append_left _ _ a,e_]
def sJ(pre us post:List Nat)(i:Nat)(a:i<us.length):pre.length+i<(pre++us++post).length:=by simp;omega
def FN(u P a:Nat)(e:u<4294967296)(c:a<4294967296)(d:P<=18446744065119617025):
 ∃dd b:Nat,dd<4294967296/\b<4294967296/\IntKind.u64.wrap (((P:Int)+a)/4294967296+IntKind.u64.wrap ((u:Int)-((P:Int)+a)%4294967296)/9223372036854775808)=b /\
  IntKind.u64.wrap ((u:Int)-((P:Int)+a)%4294967296)%4294967296=dd/\dd+(P+a)=u+4294967296*b:=by
 rw[IntKind.wrap_u64,IntKind.wrap_u64];by_cases h:(P+a)%4294967296<=u
 ·exact⟨u-(P+a)%4294967296,(P+a)/4294967296,by omega,by omega,by omega,by omega,by omega⟩
 ·exact⟨u+4294967296-(P+a)%4294967296,(P+a)/4294967296+1,by omega,by omega,by omega,by omega,by omega⟩
def GW(u a:Nat)(c:u<4294967296)(b:a<4294967296):
 ∃dd:Nat,dd<4294967296/\IntKind.u64.wrap ((u:Int)-a)%4294967296=dd/\(IntKind.u64.wrap ((u:Int)-a)/9223372036854775808 == 1)=decide (u<a)/\dd+a=u+(if u<a then 4294967296 else 0):=by
 rw[IntKind.wrap_u64];by_cases h:u<a
 ·exact⟨u+4294967296-a,by omega,by omega,by rw[T_ h];simp;omega,by rw[if_pos h];omega⟩
 ·exact⟨u-a,by omega,by omega,by rw[F_ h];simp;omega,by rw[if_neg h];omega⟩
def iX(vs:List Nat)(k x:Nat):(vs.set k x).take k=vs.take k:=by rw[List.take_set,List.set_eq_of_length_le (by simp;omega)]
def JZ{us vs ys:List Nat}{k d a y u P dd b:Nat}(j:k<vs.length)(o:ys.getD k 0=y)(l:us.getD k 0=u)(f:y*d=P)(h:val (vs.take k)+val (ys.take k)*d=val (us.take k)+4294967296^k*a)(g:dd+(P+a)=u+4294967296*b):
 val ((vs.set k dd).take (k+1))+val (ys.take (k+1))*d=val (us.take (k+1))+4294967296^(k+1)*b:=by
 rw[ai,ai,ai,iX,eg j,o,l,aY];generalize 4294967296^k=B at *;have c:(val (ys.take k)+B*y)*d=val (ys.take k)*d+B*P:=by rw[Nat.add_mul,Nat.mul_assoc,f]
 rw[c];have e:B*dd+B*(P+a)=B*u+B*(4294967296*b):=by rw[<- Nat.mul_add,<- Nat.mul_add,g]
 rw[Nat.mul_add]at e;have p:B*(4294967296*b)=4294967296*B*b:=by grind
 omega
def LQ{us vs ys:List Nat}{m d a u dd:Nat}(k:Wd vs)(s:vs.length=m+1)(r:us.length=m+1)(w:ys.length=m)(j:us.getD m 0=u)(f:dd<4294967296)(h:val (vs.take m)+val (ys.take m)*d=val (us.take m)+4294967296^m*a)(q:dd+a=u+(if u<a then 4294967296 else 0)):
 decide (u<a)=decide (val us<val ys*d)/\val (vs.set m dd)+val ys*d=val us+(if val us<val ys*d then 4294967296^us.length else 0):=by
 have t:val us=val (us.take m)+4294967296^m*u:=by have:=ai us m;rw[K_ O_,j]at this;exact this
 have v:val (vs.set m dd)=val (vs.take m)+4294967296^m*dd:=by exact SR
 have o:ys.take m=ys:=K_ O_;rw[o]at h;have g:=fQ (di k m dd f);rw[List.length_set,s,aY]at g;rw[r,aY];generalize 4294967296^m=B at *;generalize val (us.take m)=U0 at *;generalize val (vs.take m)=V0 at *;generalize val ys*d=Y at *;generalize val (vs.set m dd)=V at *
 have l:B*dd+B*a=B*u+(if u<a then 4294967296*B else 0):=by
  rw[<- Nat.mul_add,q,Nat.mul_add];split
  ·rw[Nat.mul_comm B 4294967296]
  ·rfl
 by_cases c:u<a
 ·rw[if_pos c]at l;have b:val us<Y:=O_;rw[if_pos b];exact⟨by rw[T_ c,T_ b],by omega⟩
 ·rw[if_neg c]at l;have b:¬val us<Y:=O_;rw[if_neg b];exact⟨by rw[F_ c,F_ b],by omega⟩
def Jd(g:Nat)(pre us post ys:List Nat)(d:Nat)(w:World)(e:Ending)(w':World):Prop:=∃a,e= .returned (.bool (decide (val us<val ys*d)))/\a.length=us.length/\Wd a /\
 val a+val ys*d=val us+(if val us<val ys*d then 4294967296^us.length else 0)/\eK w' g (pre++a++post)/\gh g w w'
def Cz(g m Z Y d:Nat)(B:Option Addr)(c:Nat)(pre us post ys:List Nat)(w:World)(hr:eK w g (pre++us++post))(hu:Wd us)(W:us.length=m+1)(N:a7 w B m c ys)(hB:∀b o,B=some ⟨b,o,none⟩->b≠g)(hd:d<4294967296)(hn:Y=m+1)(ao:Y<=Z)(hs:m<=4294967296):
 Calls prog 317 #[.slice (some ⟨g,pre.length,none⟩) Y Z, .slice B m c, .int .u64 d] w (Jd g pre us post ys d w):=by
 subst hn;have R:=Lib.hid N;have Hr:=Lib.hid hr;have HB:=Lib.hid hB;have ag:=N.cap;have X:=N.lim;clear hr N hB
 go_enter func317,ntmps317
 go_wp2_with fail
 go_loopw [7,15] (fun a i wr=>∃(k v:Nat)(s:List Nat),k<=m/\i= .int .i64 k/\a= .int .u64 v /\
  (v<4294967296/\Wd s/\s.length=m+1/\(∀j,k<=j->s.getD j 0=us.getD j 0)/\val (s.take k)+val (ys.take k)*d=val (us.take k)+4294967296^k*v)/\eK wr g (pre++s++post)/\gh g w wr)
  (fun _ i _=>m-(intOf i).toNat)
 case atStart=>exact⟨0,0,us,Nat.zero_le _,rfl,rfl,⟨by decide,hu,W,fun _ _=>rfl,by simp[val]⟩,Hr.out,gh.refl _ _⟩
 case round=>
  obtain⟨k,v,s,hk,rfl,rfl,f,e,F⟩:=hrel;by_cases U:k<m
  ·have E:(k:Int)<m:=O_;obtain⟨b1,o1,rfl,ad,hc1⟩:=R.out.at O_;have D:=(F.cell (o:=o1+k) (HB.out b1 o1 rfl)).trans (hc1 k U);have T:=e.frozen (pre.length+k);have p:=e.cell (pre.length+k) (sJ _ _ _ _ (by rw[f.2.2.1];omega));rw[tH _ _ _ _ (by rw[f.2.2.1];omega)]at p;have G:=R.out.wd.getD k;have r:=f.2.1.getD k;obtain⟨y,A⟩:∃y,ys.getD k 0=y:=⟨_,rfl⟩;obtain⟨u,l⟩:∃u,s.getD k 0=u:=⟨_,rfl⟩;obtain⟨P,L⟩:∃P,y*d=P:=⟨_,rfl⟩;rw[A]at D G;rw[l]at p r;have al:(y:Int)*(d:Int)=(P:Int):=by rw[<- L,Int.natCast_mul]
   have S:P<=18446744065119617025:=by rw[<- L];exact V_ (Nat.mul_le_mul (Nat.le_of_lt_succ G) (Nat.le_of_lt_succ hd)) D_
   have z:v<4294967296:=f.1;clear hc1;have K:=Lib.hid f;have Hyy:=Lib.hid A;have Huu:=Lib.hid l;have HP:=Lib.hid L;have Hrow:=Lib.hid e;have O:=Lib.hid F;clear f A l L e F;obtain⟨dd,b',C,H,I,J,q5⟩:=FN u P v r z S;have t:=Lib.hid (And.intro C (And.intro H (And.intro I (And.intro J q5))));clear C H I J q5
   go_wp2_with fail
   rw[t.out.2.2.1,t.out.2.2.2.1]
   go_roundw
   case rel=>
    have f:=K.out;refine⟨k+1,b',s.set k dd,by omega,by go_num,rfl,⟨t.out.2.1,di f.2.1 _ _ t.out.1,by rw[List.length_set];exact f.2.2.1,fun j hj=>by rw[getD_set_ne O_];exact f.2.2.2.1 j O_,?_⟩,?_,O.out.setCell _ _⟩
    ·exact JZ (by rw[f.2.2.1];omega) Hyy.out (by rw[<- f.2.2.2.1 k (l_ _)];exact Huu.out) HP.out f.2.2.2.2 t.out.2.2.2.2
    ·have h:=Hrow.out.set (pre.length+k) dd;rw[kA _ _ _ _ _ (by rw[f.2.2.1];omega)]at h;exact h
   case measure=>simp[intOf];omega
  ·obtain rfl:k=m:=O_;have E:¬(k:Int)<k:=O_;have T:=e.frozen (pre.length+k);have p:=e.cell (pre.length+k) (sJ _ _ _ _ (by rw[f.2.2.1];omega));rw[tH _ _ _ _ (by rw[f.2.2.1];omega)]at p;have r:=f.2.1.getD k;have z:v<4294967296:=f.1;obtain⟨u,l⟩:∃u,s.getD k 0=u:=⟨_,rfl⟩;rw[l]at p r;obtain⟨dd,C,H,I,J⟩:=GW u v r z;have x:=LQ f.2.1 f.2.2.1 W R.out.len (by rw[<- f.2.2.2.1 k (l_ _)];exact l) C f.2.2.2.2 J;have q:=e.set (pre.length+k) dd;rw[kA _ _ _ _ _ (by rw[f.2.2.1];omega)]at q;have Hset:=Lib.hid q;have Hend:=Lib.hid x;have t:=Lib.hid (And.intro C (And.intro H I));have K:=Lib.hid f;have O:=Lib.hid (F.setCell (pre.length+k) (bP dd));clear f l e F q x C H I J
   go_wp2_with fail
   rw[t.out.2.1]
   go_ret
   exact⟨s.set k dd,Ul (by rw[<- Hend.out.1,<- t.out.2.2]),by rw[List.length_set,K.out.2.2.1,W],di K.out.2.1 _ _ t.out.1,Hend.out.2,Hset.out,O.out⟩
def QU(g:Nat)(pre us post ys:List Nat)(w:World)(e:Ending)(w':World):Prop:=∃a t,e= .returned (.tuple #[])/\a.length=us.length/\Wd a /\
 val a+t*4294967296^us.length=val us+val ys/\eK w' g (pre++a++post)/\gh g w w'
def JW{us vs ys:List Nat}{k a y u dd b:Nat}(e:k<vs.length)(g:ys.getD k 0=y)(f:us.getD k 0=u)(h:val (vs.take k)+4294967296^k*a=val (us.take k)+val (ys.take k))(d:dd+4294967296*b=a+(u+y)):
 val ((vs.set k dd).take (k+1))+4294967296^(k+1)*b=val (us.take (k+1))+val (ys.take (k+1)):=by
 rw[ai,ai,ai,iX,eg e,g,f,aY];generalize 4294967296^k=B at *;have c:B*dd+B*(4294967296*b)=B*a+B*(u+y):=by rw[<- Nat.mul_add,d,Nat.mul_add]
 rw[Nat.mul_add B u y]at c;have j:B*(4294967296*b)=4294967296*B*b:=by grind
 omega
def Nv{us vs ys:List Nat}{m a u dd t:Nat}(l:vs.length=m+1)(d:us.length=m+1)(o:ys.length=m)(b:us.getD m 0=u)(h:val (vs.take m)+4294967296^m*a=val (us.take m)+val (ys.take m))(c:dd+4294967296*t=u+a):
 val (vs.set m dd)+t*4294967296^us.length=val us+val ys:=by
 have f:val us=val (us.take m)+4294967296^m*u:=by have:=ai us m;rw[K_ O_,b]at this;exact this
 have g:val (vs.set m dd)=val (vs.take m)+4294967296^m*dd:=by exact SR
 rw[K_ (show ys.length<=m by omega)]at h;rw[d,aY];generalize 4294967296^m=B at *;have j:B*dd+B*(4294967296*t)=B*u+B*a:=by rw[<- Nat.mul_add,c,Nat.mul_add]
 have k:t*(4294967296*B)=B*(4294967296*t):=by grind
 omega
def F4(g m N L:Nat)(B:Option Addr)(c:Nat)(pre us post ys:List Nat)(w:World)(S:eK w g (pre++us++post))(hu:Wd us)(H:us.length=m+1)(D:a7 w B m c ys)(O:∀b o,B=some ⟨b,o,none⟩->b≠g)(hn:L=m+1)(Z:L<=N)(hs:m<=4294967296):
 Calls prog 318 #[.slice (some ⟨g,pre.length,none⟩) L N, .slice B m c] w (QU g pre us post ys w):=by
 subst hn;have F:=Lib.hid D;have U:=Lib.hid S;have HB:=Lib.hid O;have R:=D.cap;have I:=D.lim;clear S D O
 go_enter func318,ntmps318
 go_wp2_with fail
 go_loopw [4,9] (fun a i wr=>∃(k f:Nat)(q:List Nat),k<=m/\i= .int .i64 k/\a= .int .u64 f /\
  (f<2/\Wd q/\q.length=m+1/\(∀j,k<=j->q.getD j 0=us.getD j 0)/\val (q.take k)+4294967296^k*f=val (us.take k)+val (ys.take k))/\eK wr g (pre++q++post)/\gh g w wr)
  (fun _ i _=>m-(intOf i).toNat)
 case atStart=>exact⟨0,0,us,Nat.zero_le _,rfl,rfl,⟨by decide,hu,H,fun _ _=>rfl,by simp[val]⟩,U.out,gh.refl _ _⟩
 case round=>
  obtain⟨k,f,q,hk,rfl,rfl,e,d,A⟩:=hrel;have ad:f<2:=e.1;have ag:=d.frozen (pre.length+k);have x:=d.cell (pre.length+k) (sJ _ _ _ _ (by rw[e.2.2.1];omega));rw[tH _ _ _ _ (by rw[e.2.2.1];omega)]at x;have J:=e.2.1.getD k;obtain⟨u,p⟩:∃u,q.getD k 0=u:=⟨_,rfl⟩;rw[p]at x J;by_cases G:k<m
  ·have z:(k:Int)<m:=O_;obtain⟨W,T,rfl,P,hc1⟩:=F.out.at O_;have v:=(A.cell (o:=T+k) (HB.out W T rfl)).trans (hc1 k G);have K:=F.out.wd.getD k;obtain⟨y,s⟩:∃y,ys.getD k 0=y:=⟨_,rfl⟩;rw[s]at v K;clear hc1;have C:=Lib.hid e;have Hyy:=Lib.hid s;have Huu:=Lib.hid p;have Hrow:=Lib.hid d;have E:=Lib.hid A;clear e s p d A
   go_wp2_with fail
   have X:((f:Int)+(u+y))%4294967296=(((f+(u+y))%4294967296:Nat):Int):=O_;have Y:((f:Int)+(u+y))/4294967296=(((f+(u+y))/4294967296:Nat):Int):=O_;rw[X,Y]
   go_roundw
   case rel=>
    have e:=C.out;refine⟨k+1,(f+(u+y))/4294967296,q.set k ((f+(u+y))%4294967296),by omega,by go_num,rfl,⟨by omega,di e.2.1 _ _ O_,by rw[List.length_set];exact e.2.2.1,fun j hj=>by rw[getD_set_ne O_];exact e.2.2.2.1 j O_,?_⟩,?_,E.out.setCell _ _⟩
    ·exact JW (u:=u) (y:=y) (by rw[e.2.2.1];omega) Hyy.out (by rw[<- e.2.2.2.1 k (l_ _)];exact Huu.out) e.2.2.2.2 O_
    ·have h:=Hrow.out.set (pre.length+k) ((f+(u+y))%4294967296);rw[kA _ _ _ _ _ (by rw[e.2.2.1];omega)]at h;exact h
   case measure=>simp[intOf];omega
  ·obtain rfl:k=m:=O_;have z:¬(k:Int)<k:=O_;have r:=Nv (u:=u) (dd:=(u+f)%4294967296) (t:=(u+f)/4294967296) e.2.2.1 H F.out.len (by rw[<- e.2.2.2.1 k (l_ _)];exact p) e.2.2.2.2 O_;have l:=d.set (pre.length+k) ((u+f)%4294967296);rw[kA _ _ _ _ _ (by rw[e.2.2.1];omega)]at l;have Hset:=Lib.hid l;have Hend:=Lib.hid r;have C:=Lib.hid e;have E:=Lib.hid (A.setCell (pre.length+k) (bP ((u+f)%4294967296)));clear e p d A l r
   go_wp2_with fail
   go_end0
   exact⟨q.set k _,_,rfl,by rw[List.length_set,C.out.2.2.1,H],di C.out.2.1 _ _ O_,Hend.out,Hset.out,E.out⟩
end Go.Proofs.YtnchbpoopnjghaaGreatDoor
