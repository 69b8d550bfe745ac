/- Parts of a proof: contracts of the functions that the laws reach. -/
import Derived.Test.YtmkggcjajcdlcaaGreatDoorEZ4
set_option maxHeartbeats 100000000
set_option linter.all false
open Go.Proofs.Tryz
namespace Go.Proofs.YtmkggcjajcdlcaaGreatDoor
open Go.RowKit
theorem eK.no {b b':BL} (h:∀j cs cs',(sB b).bx j=some cs->(sB b').bx j=some cs'->False):eK b b':=fun j cs cs' h1 h2=>(h j cs cs' h1 h2).elim
theorem I1 {x cs':List AV}:eK [(902,x)] [(1003,cs')]:=eK.no fun j c c' h1 h2=>by
 exact N1
theorem xJ {x cs cs':List AV}:eK [(901,cs),(902,x)] [(1003,cs')]:=eK.no fun j c c' h1 h2=>by
 exact N1
def pl (q:Nat) (cs:List AV) (i:Nat) (x:List AV):List AV:=cs.take (i*q)++x++cs.drop (i*q)
theorem ga {a b c:List AV} {p:Nat} (h:a.length=p):aF (a++b) p c=a++c++b.drop c.length:=by
 subst h;unfold aF;rw[List.take_left,<- List.drop_drop,List.drop_left]
section
variable {q m i:Nat} {cs x:List AV}
theorem EQ (hi:i=m) (hcs:cs.length=m*q) (hx:x.length=1*q):cs.take (m*q)++x.take (1*q)=pl q cs i x:=by
 subst hi;unfold pl;rw[List.drop_of_length_le (Nat.le_of_eq hcs),List.append_nil,List.take_of_length_le (l:=x) (Nat.le_of_eq hx)]
theorem JZ (hi:i<m) (hcs:cs.length=m*q) (hx:x.length=1*q) (Z:List AV):aF ((cs.drop (0*q)).take (i*q)++Z) (i*q) (x.take (1*q))=cs.take (i*q)++x++Z.drop x.length:=by
 rw[Nat.zero_mul,List.drop_zero,List.take_of_length_le (l:=x) (Nat.le_of_eq hx)];refine ga ?_;rw[List.length_take,hcs];exact Nat.min_eq_left (Nat.mul_le_mul_right _ (Nat.le_of_lt hi))
theorem Ir (hi:i<m) (hcs:cs.length=m*q) (hx:x.length=1*q) {Z:List AV} (hZ:Z.length=(m+1-i)*q):aF (cs.take (i*q)++x++Z.drop x.length) ((i+1)*q) ((cs.drop ((0+i)*q)).take ((m-i)*q))=pl q cs i x:=by
 have h1:(m-i)*q=m*q-i*q:=Nat.sub_mul _ _ _;have h2:(i+1)*q=i*q+1*q:=Nat.add_mul _ _ _;have h3:i*q<=m*q:=Nat.mul_le_mul_right _ (Nat.le_of_lt hi);have h4:(m+1-i)*q=(m-i)*q+1*q:=by rw[<- Nat.add_mul];congr 1;omega
 rw[Nat.zero_add,List.take_of_length_le (l:=cs.drop (i*q)) (by rw[List.length_drop];omega),ga (by rw[List.length_append,List.length_take];omega)];rw[List.drop_drop,List.drop_of_length_le (l:=Z) (by rw[List.length_drop];omega),List.append_nil];rfl
theorem I7 (hi:i<m) (hcs:cs.length=m*q):aF cs ((0+(i+1))*q) ((cs.drop ((0+i)*q)).take ((m-i)*q))=cs.take ((i+1)*q)++cs.drop (i*q):=by
 have h1:(m-i)*q=m*q-i*q:=Nat.sub_mul _ _ _;have h2:(i+1)*q=i*q+1*q:=Nat.add_mul _ _ _;have h3:i*q<=m*q:=Nat.mul_le_mul_right _ (Nat.le_of_lt hi);rw[Nat.zero_add,Nat.zero_add,List.take_of_length_le (l:=cs.drop (i*q)) (by rw[List.length_drop];omega)];have hd:cs.drop ((i+1)*q+(cs.drop (i*q)).length)=[]:=List.drop_of_length_le (by rw[List.length_drop];omega);unfold aF;rw[hd,List.append_nil]
theorem I3 (hi:i<m) (hcs:cs.length=m*q) (hx:x.length=1*q):aF (cs.take ((i+1)*q)++cs.drop (i*q)) ((0+i)*q) (x.take (1*q))=pl q cs i x:=by
 have h2:(i+1)*q=i*q+1*q:=Nat.add_mul _ _ _;have h3:(i+1)*q<=m*q:=Nat.mul_le_mul_right _ hi;rw[Nat.zero_add,List.take_of_length_le (l:=x) (Nat.le_of_eq hx)];unfold aF pl;rw[List.take_append_of_le_length (by rw[List.length_take];omega),List.take_take,Nat.min_eq_left (by omega),List.drop_append_of_le_length (by rw[List.length_take];omega),hx,<- h2,List.drop_eq_nil_of_le (by rw[List.length_take];omega),List.nil_append]
theorem DW (hi:i<=m) (hcs:cs.length=m*q) (hx:x.length=1*q):(pl q cs i x).length=(m+1)*q:=by
 have h1:i*q<=m*q:=Nat.mul_le_mul_right _ hi;have h2:(m+1)*q=m*q+1*q:=Nat.add_mul _ _ _;unfold pl;rw[List.length_append,List.length_append,List.length_take,List.length_drop];omega
theorem l0 {l:List AV} (h:a8 l=true) (r:Nat):a8 (l.drop r)=true:=lD fun b hb=>nH h b (List.mem_of_mem_drop hb)
end
theorem In (x:List AV) (hx:x.length=1*1) (hB:a8 x=true):bA Tryz.prog 76 [.nil, .d (dN .i64 0), .own 902 1 1 9] [(902,x)] (.own 1003 1 1 9) [(1003,x)]:=by
 have hcs:([]:List AV).take (0*1)++x.take (1*1)=x:=by rw[List.take_nil,List.nil_append,List.take_of_length_le (Nat.le_of_eq hx)]
 refine bv ac fH func76 rfl rfl rfl rfl rfl (I1) ?_;refine kq ?_;exact OF
theorem MM {m i:Nat} {cs x:List AV} (hi:i<=m) (hm:0<m) (hl:m<=1000000) (hcs:cs.length=m*1) (hx:x.length=1*1) (hB:a8 cs=true) (hX:a8 x=true):bA Tryz.prog 76 [.own 901 m 1 9, .d (dN .i64 i), .own 902 1 1 9] [(901,cs),(902,x)] (.own 1003 (m+1) 1 9) [(1003,pl 1 cs i x)]:=by
 have hby:∀k,k<=1000001->k*16<=140737488355328:=fun k hk=>by omega
 by_cases e:i=m
 ·have hfin:=EQ e hcs hx
  subst e;refine bv ac fH func76 rfl rfl rfl rfl rfl (xJ) ?_;refine kq ?_;exact Td
 have him:i<m:=by omega
 have g1:=JZ him hcs hx;have g2:=fun Z=> @Ir 1 m i cs x him hcs hx Z
 have r1:=I7 him hcs;have r2:=I3 him hcs hx;have hlen:=DW hi hcs hx;have hik:i*1<=m*1:=Nat.mul_le_mul_right _ hi;have hik2:(i+1)*1<=m*1:=Nat.mul_le_mul_right _ him;refine bv ac fH func76 rfl rfl rfl rfl rfl (xJ) ?_;refine NR ?_;refine nv 0 rfl rfl fun c hc1 hc2=>?_
 refine Na ?_
 by_cases hc:c=m
 ·refine SO ?_
  refine kr ac (r:=1) (p:=i*1) (Nat.min_eq_left (by omega)) ?_ (g1 _) ?_ rfl rfl rfl rfl rfl (.vw rfl rfl rfl) (.of (.own rfl rfl rfl) (Nat.le_refl 1) (List.take_take ..)) rfl rfl ?_
  ·rw[List.length_append,List.length_take,Nat.zero_mul,List.drop_zero];omega
  ·rw[fh hX];rfl
  refine OY ?_;refine kr ac (r:=m-i) (p:=(i+1)*1) (by show min _ _=_;omega) ?_ (g2 _ ?_) ?_ rfl rfl rfl rfl rfl (.vw rfl rfl rfl) (.vs rfl rfl (by omega) ?_ rfl) rfl rfl ?_
  ·rw[List.length_append,List.length_append,List.length_take];omega
  ·exact di _ _
  ·rw[fh (l0 hB _)];rfl
  ·exact DS
  exact zD
 ·refine Ob ?_
  refine Ly ?_;refine rN ac (j1:=902) (j2:=901) (tS:=25) (tR:=4) (by decide) (show 0<m+1-(i+1) by omega) rfl rfl rfl func132 (by kernel_rfl) (by kernel_rfl) (by kernel_rfl) (by kernel_rfl) rfl rfl rfl rfl rfl rfl rfl rfl rfl ?_;refine kG ?_
  refine kO3 ?_
  refine Ly ?_
  refine kO2 ?_
  refine Ea ?_;refine kr ac (r:=m-i) (p:=(0+(i+1))*1) (by show min _ _=_;omega) (by rw[Nat.zero_add];omega) r1 ?_ rfl rfl rfl rfl rfl (.vs rfl rfl rfl) (.vs rfl rfl (by omega) ?_ rfl) rfl rfl ?_
  ·rw[fh (l0 hB _)];rfl
  ·exact DS
  refine kW ?_;refine Ea ?_;refine kO ?_;refine kr ac (r:=1) (p:=(0+i)*1) (Nat.min_eq_left (by omega)) ?_ r2 ?_ rfl rfl rfl rfl rfl (.vs rfl rfl rfl) (.of (.own rfl rfl rfl) (Nat.le_refl 1) (List.take_take ..)) rfl rfl ?_
  ·rw[List.length_append,List.length_take,Nat.zero_add];omega
  ·rw[fh hX];rfl
  refine nL ?_;refine N3 ?_;exact zD
theorem Kl (x:List AV) (hx:x.length=1*5) (hB:a8 x=true):bA Tryz.prog 77 [.nil, .d (dN .i64 0), .own 902 1 5 50] [(902,x)] (.own 1003 1 5 50) [(1003,x)]:=by
 have hcs:([]:List AV).take (0*5)++x.take (1*5)=x:=by rw[List.take_nil,List.nil_append,List.take_of_length_le (Nat.le_of_eq hx)]
 refine bv ac fH func77 rfl rfl rfl rfl rfl (I1) ?_;refine kq ?_;exact OF
theorem Mx {m i:Nat} {cs x:List AV} (hi:i<=m) (hm:0<m) (hl:m<=1000000) (hcs:cs.length=m*5) (hx:x.length=1*5) (hB:a8 cs=true) (hX:a8 x=true):bA Tryz.prog 77 [.own 901 m 5 50, .d (dN .i64 i), .own 902 1 5 50] [(901,cs),(902,x)] (.own 1003 (m+1) 5 50) [(1003,pl 5 cs i x)]:=by
 have hby:∀k,k<=1000001->k*72<=140737488355328:=fun k hk=>by omega
 by_cases e:i=m
 ·have hfin:=EQ e hcs hx
  subst e;refine bv ac fH func77 rfl rfl rfl rfl rfl (xJ) ?_;refine kq ?_;exact Td
 have him:i<m:=by omega
 have g1:=JZ him hcs hx;have g2:=fun Z=> @Ir 5 m i cs x him hcs hx Z
 have r1:=I7 him hcs;have r2:=I3 him hcs hx;have hlen:=DW hi hcs hx;have hik:i*5<=m*5:=Nat.mul_le_mul_right _ hi;have hik2:(i+1)*5<=m*5:=Nat.mul_le_mul_right _ him;refine bv ac fH func77 rfl rfl rfl rfl rfl (xJ) ?_;refine NR ?_;refine nv 0 rfl rfl fun c hc1 hc2=>?_
 refine Na ?_
 by_cases hc:c=m
 ·refine SO ?_
  refine kr ac (r:=1) (p:=i*5) (Nat.min_eq_left (by omega)) ?_ (g1 _) ?_ rfl rfl rfl rfl rfl (.vw rfl rfl rfl) (.of (.own rfl rfl rfl) (Nat.le_refl 1) (List.take_take ..)) rfl rfl ?_
  ·rw[List.length_append,List.length_take,Nat.zero_mul,List.drop_zero];omega
  ·rw[fh hX];rfl
  refine OY ?_;refine kr ac (r:=m-i) (p:=(i+1)*5) (by show min _ _=_;omega) ?_ (g2 _ ?_) ?_ rfl rfl rfl rfl rfl (.vw rfl rfl rfl) (.vs rfl rfl (by omega) ?_ rfl) rfl rfl ?_
  ·rw[List.length_append,List.length_append,List.length_take];omega
  ·exact di _ _
  ·rw[fh (l0 hB _)];rfl
  ·exact DS
  exact zD
 ·refine Ob ?_
  refine Ly ?_;refine rN ac (j1:=902) (j2:=901) (tS:=59) (tR:=4) (by decide) (show 0<m+1-(i+1) by omega) rfl rfl rfl func134 (by kernel_rfl) (by kernel_rfl) (by kernel_rfl) (by kernel_rfl) rfl rfl rfl rfl rfl rfl rfl rfl rfl ?_;refine kG ?_
  refine kO3 ?_
  refine Ly ?_
  refine kO2 ?_
  refine Ea ?_;refine kr ac (r:=m-i) (p:=(0+(i+1))*5) (by show min _ _=_;omega) (by rw[Nat.zero_add];omega) r1 ?_ rfl rfl rfl rfl rfl (.vs rfl rfl rfl) (.vs rfl rfl (by omega) ?_ rfl) rfl rfl ?_
  ·rw[fh (l0 hB _)];rfl
  ·exact DS
  refine kW ?_;refine Ea ?_;refine kO ?_;refine kr ac (r:=1) (p:=(0+i)*5) (Nat.min_eq_left (by omega)) ?_ r2 ?_ rfl rfl rfl rfl rfl (.vs rfl rfl rfl) (.of (.own rfl rfl rfl) (Nat.le_refl 1) (List.take_take ..)) rfl rfl ?_
  ·rw[List.length_append,List.length_take,Nat.zero_add];omega
  ·rw[fh hX];rfl
  refine nL ?_;refine N3 ?_;exact zD
def dg (k:Nat):UInt8:=UInt8.ofNat (48+k)
theorem yJ {k:Nat} (h:k<10):(dg k).toNat=48+k:=by unfold dg;rw[UInt8.toNat_ofNat'];omega
def nQ (n:Nat):List UInt8:=if _h:n=0 then []else nQ (n/10)++[dg (n%10)]
termination_by n
decreasing_by omega
theorem eY:nQ 0=[]:=by rw[nQ];simp
theorem ff {n:Nat} (h:n≠0):nQ n=nQ (n/10)++[dg (n%10)]:=by rw[nQ];simp[h]
def fmt (z:Int):List UInt8:=if z=0 then [48]else(if z<0 then [45]else [])++nQ z.natAbs
def dv (c:UInt8):Nat:=c.toNat-48
def mM (c:UInt8):Prop:=48<=c.toNat/\c.toNat<=57
instance (c:UInt8):Decidable (mM c):=inferInstanceAs (Decidable (_/\_))
def num (l:List UInt8):Nat:=l.foldl (fun a c=>10*a+dv c) 0
theorem se (l:List UInt8) (c:UInt8):num (l++[c])=10*num l+dv c:=by simp[num]
theorem SL {c:UInt8} (h:mM c):dg (dv c)=c:=by
 unfold dg dv
 apply UInt8.toNat_inj.1
 rw[UInt8.toNat_ofNat'];unfold mM at h;omega
theorem Jd {c:UInt8} (h:mM c):dv c<10:=by unfold dv;unfold mM at h;omega
theorem zc {n:Nat} (h:n≠0):∃c r,nQ n=c::r/\c≠48:=by
 induction n using Nat.strongRecOn with
 |_ n ih=>
  rw[ff h]
  by_cases h1:n/10=0
  ·rw[h1,eY]
   refine⟨dg (n%10),[],rfl,fun e=>?_⟩;have h2:=yJ (show n%10<10 by omega);rw[e]at h2;have:(48:UInt8).toNat=48:=rfl;omega
  ·obtain⟨c,r,e,hc⟩:=ih (n/10) (by omega) h1
   exact⟨c,r++[dg (n%10)],by rw[e];rfl,hc⟩
theorem Dy {l:List UInt8} (hd:∀c∈l,mM c) {c:UInt8} {r:List UInt8} (h:l=c::r) (hc:c≠48):0<num l:=by
 have h1:∀(r:List UInt8) (a:Nat),0<a->0<r.foldl (fun a c=>10*a+dv c) a:=by
  intro r
  induction r with
  |nil=>intro a h;exact h
  |cons x r ih=>intro a h;exact ih _ (by dsimp only;omega)
 subst h;have h2:=hd c (by simp);refine h1 r _ ?_;dsimp only;have h3:c.toNat≠48:=fun e=>hc (UInt8.toNat_inj.1 e)
 unfold dv;unfold mM at h2;omega
theorem LM:∀(n:Nat) (l:List UInt8),l.length=n->(∀c∈l,mM c)->(∀c r,l=c::r->c≠48)->nQ (num l)=l:=by
 intro n
 induction n with
 |zero=>intro l hl _ _;rw[List.eq_nil_of_length_eq_zero hl];exact eY
 |succ n ih=>
  intro l hl hd hh
  obtain⟨l',c,rfl⟩:∃l' c,l=l'++[c]:=by
   exact Oy
  have hc:=hd c (by simp);have hc10:=Jd hc;have hl':l'.length=n:=by simpa using hl
  rw[se]
  have hn0:10*num l'+dv c≠0:=by
   cases l' with
   |nil=>
    have h1:=hh c [] rfl;have h3:c.toNat≠48:=fun e=>h1 (UInt8.toNat_inj.1 e)
    unfold dv;unfold mM at hc;omega
   |cons x r=>
    have:=Dy (l:=x::r) (fun c hc=>hd c (by simp at hc ⊢;rcases hc with h|h<;>simp[h])) rfl (hh x (r++[c]) rfl);omega
  rw[ff hn0,show(10*num l'+dv c)/10=num l' by omega,show(10*num l'+dv c)%10=dv c by omega,SL hc]
  congr 1
  refine ih l' hl' (fun c hc=>hd c (by simp[hc])) (fun x r e=>?_);subst e;exact hh x (r++[c]) rfl
theorem xV:∀(k n:Nat),n<10^k->(nQ n).length<=k
 |0,n,h=>by simp at h;subst h;rw[eY];simp
 |k+1,n,h=>by
  by_cases h0:n=0
  ·subst h0;rw[eY];simp
  ·rw[ff h0,List.length_append]
   have:=xV k (n/10) (by rw[Nat.pow_succ]at h;omega)
   simp;omega
def QN (neg:Bool) (ds:List UInt8):Prop:=ds≠[]/\(∀c∈ds,mM c)/\((∀c r,ds=c::r->c≠48)∨(ds.length=1/\neg=false))
def nf (neg:Bool) (n:Nat):Int:=if neg then -(n:Int)else n
def sg (neg:Bool) (ds:List UInt8):List UInt8:=if neg then 45::ds else ds
theorem Qj {neg:Bool} {ds:List UInt8} (h:QN neg ds):fmt (nf neg (num ds))=sg neg ds:=by
 obtain⟨h1,h2,h3⟩:=h
 by_cases hh:∀c r,ds=c::r->c≠48
 ·obtain⟨c,r,e⟩:∃c r,ds=c::r:=by cases ds with|nil=>exact absurd rfl h1|cons c r=>exact⟨c,r,rfl⟩
  have hp:=Dy h2 e (hh c r e);have hdn:=LM _ ds rfl h2 hh;unfold fmt nf sg;cases neg
  ·simp only[Bool.false_eq_true,if_false]
   rw[if_neg (by omega),if_neg (by omega),Int.natAbs_natCast,hdn];rfl
  ·simp only[if_true]
   rw[if_neg (by omega),if_pos (by omega),Int.natAbs_neg,Int.natAbs_natCast,hdn];rfl
 ·rcases h3 with h3| ⟨h3,h4⟩
  ·exact absurd h3 hh
  ·subst h4
   match ds,h3 with
   | [c],_=>
    have hc:c=48:=by
     apply Classical.byContradiction
     intro hne;exact hh fun x r e=>by cases e;exact hne
    subst hc;rfl
theorem Gg {neg:Bool} {ds:List UInt8} (hd:∀c∈ds,mM c) (h:fmt (nf neg (num ds))=sg neg ds):QN neg ds:=by
 have h45:neg=false-> ∀l:List UInt8,ds≠45::l:=fun _ l e=>by
  have:=hd 45 (by rw[e];simp);unfold mM at this;have h2:(45:UInt8).toNat=45:=rfl;omega
 by_cases hz:num ds=0
 ·have h0:nf neg (num ds)=0:=by unfold nf;rw[hz];cases neg<;>simp
  rw[h0]at h;have h1:[48]=sg neg ds:=h;unfold sg at h1;cases neg
  ·simp only[Bool.false_eq_true,if_false]at h1
   rw[<- h1]at hd ⊢;exact⟨by simp,hd, .inr ⟨rfl,rfl⟩⟩
  ·simp only[if_true,List.cons.injEq]at h1
   exact absurd h1.1 (by decide)
 ·obtain⟨c,r,e,hc⟩:=zc hz
  have key:ds=nQ (num ds):=by
   unfold fmt nf sg at h;cases neg
   ·simp only[Bool.false_eq_true,if_false]at h
    rw[if_neg (by omega),if_neg (by omega),Int.natAbs_natCast]at h;exact h.symm
   ·simp only[if_true]at h
    rw[if_neg (by omega),if_pos (by omega),Int.natAbs_neg,Int.natAbs_natCast]at h
    simpa using h.symm
  refine⟨fun e2=>?_,hd, .inl fun x q e2=>?_⟩
  ·rw[<- key,e2]at e;cases e
  ·rw[<- key,e2]at e;cases e;exact hc
def li:List UInt8->Bool
 |c::_=>c == 45
 | []=>false
def gB:List UInt8->List UInt8
 |c::r=>if c == 45 then r else c::r
 | []=>[]
theorem SR (s:List UInt8):sg (li s) (gB s)=s:=by
 cases s with
 |nil=>rfl
 |cons c r=>
  unfold sg li gB
  by_cases h:c=45
  ·subst h;rfl
  ·have:(c == 45)=false:=beq_eq_false_iff_ne.2 h
   simp[this]
theorem MD (s:List UInt8):(gB s).length<=s.length:=by
 cases s with
 |nil=>exact Nat.le_refl _
 |cons c r=>show(if(c == 45)=true then r else c::r).length<=_;split <;>simp
theorem PU (s:List UInt8):decide ((gB s).length<s.length)=li s:=by
 cases s with
 |nil=>rfl
 |cons c r=>
  unfold gB li
  by_cases h:c=45
  ·subst h;simp
  ·have:(c == 45)=false:=beq_eq_false_iff_ne.2 h
   simp[this]
theorem P8:∀(n:Nat) (l:List UInt8),l.length=n->(∀c∈l,mM c)->num l<10^n:=by
 intro n
 induction n with
 |zero=>intro l hl _;rw[List.eq_nil_of_length_eq_zero hl];decide
 |succ n ih=>
  intro l hl hd
  obtain⟨l',c,rfl⟩:∃l' c,l=l'++[c]:=by
   exact Oy
  have:=ih l' (by simpa using hl) (fun c hc=>hd c (by simp[hc]));have hc:=Jd (hd c (by simp));rw[se,Nat.pow_succ];omega
theorem EM {l:List UInt8} (hd:∀c∈l,mM c):(digs (num l)).length<=l.length:=by
 refine aY (Nat.lt_of_lt_of_le (P8 _ l rfl hd) ?_);exact Nat.pow_le_pow_left (by decide) _
theorem Bz {n k:Nat} (h:(digs n).length<=k) {m:Nat} (hm:m<=10*n+10):(digs m).length<=k+1:=by
 refine aY (Nat.lt_of_le_of_lt hm ?_);have:=cX h;rw[Nat.pow_succ];omega
def S4 (s:List UInt8):Prop:=s.length<=65536/\QN (li s) (gB s)
open Classical in
noncomputable def pz (s:List UInt8):Int × Int:=if S4 s then(nf (li s) (num (gB s)),0)else(0,2)
theorem N4 {s:List UInt8} (h:S4 s):pz s=(nf (li s) (num (gB s)),0):=by unfold pz;rw[if_pos h]
theorem tF {s:List UInt8} (h:¬S4 s):pz s=(0,2):=by unfold pz;rw[if_neg h]
theorem e0:aZ 0=[.val (.bool false), .sl 0 []]:=by
 unfold aZ aI aW;rw[show(0:Int).natAbs=0 from rfl,aK];rfl
def dk:Nat->Nat->List UInt8
 |0,_=>[]
 |k+1,c=>dk k (c/10)++[dg (c%10)]
def dd (c:Nat):List UInt8:=if c=0 then [48]else nQ c
theorem Gh (k m c:Nat) (hm:0<m) (hc:c<10^k):nQ (m*10^k+c)=nQ m++dk k c:=by
 induction k generalizing c with
 |zero=>simp at hc;subst hc;simp[dk]
 |succ k ih=>
  rw[Nat.pow_succ]at hc;have hp:0<10^k:=Nat.pow_pos (by decide)
  have hmp:0<m*10^k:=Nat.mul_pos hm hp
  have e:m*10^(k+1)+c=10*(m*10^k)+c:=by rw[Nat.pow_succ,<- Nat.mul_assoc,Nat.mul_comm]
  rw[e,ff (by omega),show(10*(m*10^k)+c)/10=m*10^k+c/10 by omega,show(10*(m*10^k)+c)%10=c%10 by omega,ih (c/10) (by omega),dk,List.append_assoc]
theorem LK (k:Nat):dk k 0=List.replicate k 48:=by
 induction k with
 |zero=>rfl
 |succ k ih=>rw[dk,Nat.zero_div,ih,List.replicate_succ'];rfl
theorem sK {c:Nat} (h:c<10):dd c=[dg c]:=by
 unfold dd
 by_cases h0:c=0
 ·subst h0;rfl
 ·rw[if_neg h0,ff h0,show c/10=0 by omega,eY,show c%10=c by omega];rfl
theorem Je {c:Nat} (h:10<=c):dd c=dd (c/10)++[dg (c%10)]:=by
 unfold dd;rw[if_neg (by omega),if_neg (by omega),ff (by omega)]
theorem OW (k:Nat):∀c,c<10^(k+1)->(dd c).length<=k+1/\dk (k+1) c=List.replicate (k+1-(dd c).length) 48++dd c:=by
 induction k with
 |zero=>
  intro c hc;have:c<10:=by simpa using hc
  rw[sK this,dk,dk,show c%10=c by omega];exact⟨Nat.le_refl _,rfl⟩
 |succ k ih=>
  intro c hc
  by_cases h:c<10
  ·rw[sK h,dk,show c/10=0 by omega,LK,show c%10=c by omega]
   exact⟨by simp,by simp⟩
  ·rw[Nat.pow_succ]at hc
   obtain⟨h1,h2⟩:=ih (c/10) (by omega);rw[Je (by omega),dk,h2,List.length_append,List.length_singleton];refine⟨by omega,?_⟩;rw[show k+1+1-((dd (c/10)).length+1)=k+1-(dd (c/10)).length by omega,List.append_assoc]
theorem nD (u:Nat):Lib.decDigits u=dd u:=by
 induction u using Nat.strongRecOn with
 |_ u ih=>
  by_cases h:u<10
  ·rw[Lib.decDigits,dif_pos h,sK h];rfl
  ·rw[Lib.decDigits,dif_neg h,Je (by omega),ih _ (by omega)];rfl
def ve (c:Nat):List UInt8:=List.replicate (9-(dd c).length) 48++dd c
theorem Da (m c:Nat) (hm:0<m) (hc:c<1000000000):nQ (m*1000000000+c)=nQ m++ve c:=by
 have h:=Gh 9 m c hm (by simpa using hc);rw[show(10:Nat)^9=1000000000 from rfl]at h;rw[h,(OW 8 c (by simpa using hc)).2];rfl
theorem xX {c:Nat} (hc:c<1000000000):1<=(dd c).length/\(dd c).length<=9:=by
 refine⟨?_,(OW 8 c (by simpa using hc)).1⟩;unfold dd
 by_cases h0:c=0
 ·rw[if_pos h0];exact Nat.le_refl _
 ·rw[if_neg h0,ff h0];simp
def ch (n:Nat):List Nat:=if _h:n=0 then []else n%1000000000::ch (n/1000000000)
termination_by n
decreasing_by omega
theorem lK:ch 0=[]:=by rw[ch];simp
theorem rR {n:Nat} (h:n≠0):ch n=n%1000000000::ch (n/1000000000):=by rw[ch];simp[h]
def Q8:List Nat->List UInt8
 | []=>[]
 |c::r=>dd c++r.flatMap ve
theorem J3 {l:List Nat} (h:l≠[]) (c:Nat):Q8 (l++[c])=Q8 l++ve c:=by
 cases l with
 |nil=>exact absurd rfl h
 |cons a r=>simp[Q8,List.flatMap_append]
theorem JE:∀(k n:Nat),n<1000000000^k->(ch n).length<=k
 |0,n,h=>by simp at h;subst h;rw[lK];simp
 |k+1,n,h=>by
  by_cases h0:n=0
  ·subst h0;rw[lK];simp
  ·rw[rR h0]
   have:=JE k (n/1000000000) (by rw[Nat.pow_succ]at h;omega)
   simp;omega
theorem Sg (n:Nat):∀c∈ch n,c<1000000000:=by
 induction n using Nat.strongRecOn with
 |_ n ih=>
  by_cases h:n=0
  ·subst h;rw[lK];simp
  ·rw[rR h]
   intro c hc;rcases List.mem_cons.1 hc with rfl|hc
   ·omega
   ·exact ih _ (by omega) c hc
theorem oj {xs:List Nat} (hw:Wd xs):(ch (val xs)).length<=2*xs.length:=by
 refine JE _ _ (Nat.lt_of_lt_of_le (fJ hw) ?_);rw[Nat.pow_mul];exact Nat.pow_le_pow_left (by decide) _
theorem M1 {n:Nat} (h:n≠0):ch n≠[]:=by rw[rR h];simp
theorem Qk (n:Nat):Q8 (ch n).reverse=nQ n:=by
 induction n using Nat.strongRecOn with
 |_ n ih=>
  by_cases h:n=0
  ·subst h;rw[lK,eY];rfl
  ·rw[rR h,List.reverse_cons]
   by_cases h1:n/1000000000=0
   ·rw[h1,lK]
    have:n%1000000000=n:=by omega
    rw[this];show dd n++[]=_;rw[List.append_nil];unfold dd;rw[if_neg h]
   ·rw[J3 (by simpa using M1 h1),ih _ (by omega),<- Da _ _ (by omega) (by omega)]
    congr 1
    omega
theorem wT {a b:Int} (h1:eG a) (h2:eG b) {g:Nat} (hg:Nat.gcd a.natAbs b.natAbs=g):aa Tryz.prog 205 [dZ a,dZ b] (.one (dZ g)):=by
 have:=yQ (na:=decide (a<0)) (nb:=decide (b<0)) (ay a.natAbs) (ay b.natAbs) h1 h2;rw[af,af,hg]at this;exact this
theorem xK {a b q r:Int} (h1:eG a) (h2:eG b) (h0:b≠0) (hq:a.fdiv b=q) (hr:a.fmod b=r):aa Tryz.prog 153 [dZ a,dZ b] (.tup [dZ q,dZ r,dN .i64 0]):=
 zZ (ay _) (ay _) h1 h2 (by rw[aX];exact h0) (by rw[aX,aX];exact hq) (by rw[aX,aX];exact hr)
theorem iq {a b:Int} (h1:eG a) (h2:eG b) {g:Nat} (hg:Nat.gcd a.natAbs b.natAbs=g):aa Tryz.prog 100 [dZ a,dZ b] (.one (dZ g)):=by
 have:=vD (na:=decide (a<0)) (nb:=decide (b<0)) (ay a.natAbs) (ay b.natAbs) h1 h2;rw[af,af,hg]at this;exact this
theorem uR {a b q r:Int} (h1:eG a) (h2:eG b) (h0:b≠0) (hq:a.fdiv b=q) (hr:a.fmod b=r):aa Tryz.prog 165 [dZ a,dZ b] (.tup [dZ q,dZ r,dN .i64 0]):=
 xC (ay _) (ay _) h1 h2 (by rw[aX];exact h0) (by rw[aX,aX];exact hq) (by rw[aX,aX];exact hr)
theorem Qy {q:Rat} {n:Int} {d:Nat} (hd:0<d) (hc:Nat.gcd n.natAbs d=1) (h:n*q.den=q.num*d):q.num=n/\q.den=d:=by
 have hp:(⟨n,d,by omega,hc⟩:Rat)=q:=by
  have h1:=Rat.num_divInt_den (⟨n,d,by omega,hc⟩:Rat);have h2:=Rat.num_divInt_den q;rw[<- h1,<- h2,Rat.divInt_eq_divInt_iff (by show(d:Int)≠0;omega) (by have:=q.den_nz;omega)];exact h
 exact⟨by rw[<- hp],by rw[<- hp]⟩
def gz (n d:Int):Int:=if d<0 then -((Nat.gcd n.natAbs d.natAbs:Nat):Int)else(Nat.gcd n.natAbs d.natAbs:Nat)
theorem ze {n d:Int} (h:d≠0):gz n d≠0:=by
 have:0<Nat.gcd n.natAbs d.natAbs:=Nat.gcd_pos_of_pos_right _ (by omega)
 unfold gz;split <;>omega
theorem qg {a b c:Int} (h:b≠0) (e:a=b*c):a.fdiv b=c:=by rw[e];exact Int.mul_fdiv_cancel_left _ h
theorem oP {n d:Int} (hd:d≠0):n.fdiv (gz n d)=(Rat.divInt n d).num/\d.fdiv (gz n d)=((Rat.divInt n d).den:Int)/\n=gz n d*(Rat.divInt n d).num/\d=gz n d*((Rat.divInt n d).den:Int):=by
 have hg0:=ze (n:=n) hd;obtain⟨a,ha⟩:((Nat.gcd n.natAbs d.natAbs:Nat):Int)∣n:=Int.ofNat_dvd_left.2 (Nat.gcd_dvd_left _ _);obtain⟨b,hb⟩:((Nat.gcd n.natAbs d.natAbs:Nat):Int)∣d:=Int.ofNat_dvd_left.2 (Nat.gcd_dvd_right _ _);have hp:0<Nat.gcd n.natAbs d.natAbs:=Nat.gcd_pos_of_pos_right _ (by omega)
 obtain⟨G,hG⟩:∃G,Nat.gcd n.natAbs d.natAbs=G:=⟨_,rfl⟩;have hG':=hG;rw[hG]at ha hb hp
 have hab:Nat.gcd a.natAbs b.natAbs=1:=by
  rw[ha,hb,Int.natAbs_mul,Int.natAbs_mul,Int.natAbs_natCast,Nat.gcd_mul_left]at hG;exact Nat.eq_of_mul_eq_mul_left hp (by omega)
 obtain⟨s,hs1,hs2⟩:∃s:Int,gz n d=G*s/\(s=1/\0<b∨s= -1/\b<0):=by
  unfold gz;rw[hG'];have hb0:b≠0:=by rintro rfl;simp at hb;omega
  split
  ·refine⟨-1,by omega, .inr ⟨rfl,?_⟩⟩
   rcases Int.lt_trichotomy b 0 with h|h|h
   ·exact h
   ·omega
   ·have:0<(G:Int)*b:=Int.mul_pos (by omega) h
    omega
  ·refine⟨1,by omega, .inl ⟨rfl,?_⟩⟩
   rcases Int.lt_trichotomy b 0 with h|h|h
   ·have:0<(G:Int)*(-b):=Int.mul_pos (by omega) (by omega)
    rw[Int.mul_neg]at this;omega
   ·omega
   ·exact h
 have hq:(Rat.divInt n d).num=s*a/\(Rat.divInt n d).den=(s*b).toNat:=by
  refine Qy ?_ ?_ ?_
  ·rcases hs2 with⟨rfl,h⟩| ⟨rfl,h⟩<;>omega
  ·have e:(s*b).toNat=b.natAbs:=by rcases hs2 with⟨rfl,h⟩| ⟨rfl,h⟩<;>omega
   have e2:(s*a).natAbs=a.natAbs:=by rcases hs2 with⟨rfl,h⟩| ⟨rfl,h⟩<;>omega
   rw[e,e2,hab]
  ·have h1:=Rat.num_divInt_den (Rat.divInt n d)
   have h0:((Rat.divInt n d).den:Int)≠0:=by have:=(Rat.divInt n d).den_nz;omega
   have h2:=(Rat.divInt_eq_divInt_iff h0 hd).1 h1
   have h3:((s*b).toNat:Int)=s*b:=by
    have:0<=s*b:=by rcases hs2 with⟨rfl,h⟩| ⟨rfl,h⟩<;>omega
    omega
   rw[h3];generalize(Rat.divInt n d).num=p at *;generalize((Rat.divInt n d).den:Int)=q at *;rw[ha,hb]at h2
   have h4:(G:Int)*(p*b)=G*(a*q):=by
    rw[<- Int.mul_assoc,Int.mul_comm (G:Int) p,Int.mul_assoc,h2,Int.mul_assoc]
   have h5:=Int.eq_of_mul_eq_mul_left (by omega) h4;rw[Int.mul_assoc,<- h5]
   simp[Int.mul_left_comm,Int.mul_comm]
 have hss:s*s=1:=by rcases hs2 with⟨rfl,_⟩| ⟨rfl,_⟩<;>rfl
 have e1:n=gz n d*(Rat.divInt n d).num:=by
  rw[hs1,hq.1,Int.mul_assoc,<- Int.mul_assoc s s a,hss,Int.one_mul];exact ha
 have e2:d=gz n d*((Rat.divInt n d).den:Int):=by
  have h3:((s*b).toNat:Int)=s*b:=by
   have:0<=s*b:=by rcases hs2 with⟨rfl,h⟩| ⟨rfl,h⟩<;>omega
   omega
  rw[hs1,hq.2,h3,Int.mul_assoc,<- Int.mul_assoc s s b,hss,Int.one_mul];exact hb
 exact⟨qg hg0 e1,qg hg0 e2,e1,e2⟩
theorem cK (q:Rat):0<(q.den:Int):=by have:=q.den_nz;omega
theorem mU (a b:Rat):Rat.divInt (a.num*b.den+b.num*a.den) (a.den*b.den)=a+b:=by
 have h:=Rat.divInt_add_divInt a.num b.num (d₁:=a.den) (d₂:=b.den) (by have:=cK a;omega) (by have:=cK b;omega);rw[Rat.num_divInt_den,Rat.num_divInt_den]at h;exact h.symm
theorem mV (a b:Rat):Rat.divInt (a.num*b.num) (a.den*b.den)=a*b:=by
 have h:=Rat.divInt_mul_divInt a.num b.num (d₁:=a.den) (d₂:=b.den);rw[Rat.num_divInt_den,Rat.num_divInt_den]at h;exact h.symm
theorem mA (a b:Rat):Rat.divInt (a.num*b.den) (a.den*b.num)=a/b:=by
 rw[Rat.div_def,Rat.inv_def];have h:=Rat.divInt_mul_divInt a.num b.den (d₁:=a.den) (d₂:=b.num);rw[Rat.num_divInt_den]at h;exact h.symm
theorem sG {q:Rat} {n:Int} (h:q=n):q.num=n/\q.den=1:=by subst h;exact⟨rfl,rfl⟩
theorem lJ {q:Rat} (h:q.den=1):q=(q.num:Rat):=Rat.ext rfl h
theorem rj {a b:Rat} (ha:a.den=1) (hb:b.den=1):(a+b).num=a.num+b.num/\(a+b).den=1:=by
 refine sG ?_;rw[lJ ha,lJ hb]
 simp
theorem oU {a b:Rat} (ha:a.den=1) (hb:b.den=1):(a*b).num=a.num*b.num/\(a*b).den=1:=by
 refine sG ?_;rw[lJ ha,lJ hb]
 simp
theorem MN {a b:Rat} (h:Nat.gcd a.den b.den=1):(a+b).num=a.num*b.den+b.num*a.den/\(a+b).den=a.den*b.den:=by
 show(Rat.add a b).num=_/\(Rat.add a b).den=_;rw[Rat.add.eq_1,dif_pos h];exact⟨rfl,rfl⟩
theorem MF (n:Int) (d g:Nat) (h1 h2 h3 h4):(Rat.maybeNormalize n d g h1 h2 h3 h4).num=n/g/\(Rat.maybeNormalize n d g h1 h2 h3 h4).den=d/g:=by
 unfold Rat.maybeNormalize
 split
 ·rename_i h;subst h;simp
 ·exact⟨Int.divExact_eq_ediv h1,rfl⟩
theorem Lt {a b:Rat} {g h:Nat} (hg:Nat.gcd a.den b.den=g) (hg1:g≠1) (hh:Nat.gcd (a.num*(b.den/g:Nat)+b.num*(a.den/g:Nat)).natAbs g=h):(a+b).num=(a.num*(b.den/g:Nat)+b.num*(a.den/g:Nat))/h/\(a+b).den=a.den/g*(b.den/h):=by
 subst hg
 have h0:(a+b).num=(a.num*(b.den/Nat.gcd a.den b.den:Nat)+b.num*(a.den/Nat.gcd a.den b.den:Nat))/h/\(a+b).den=a.den/Nat.gcd a.den b.den*b.den/h:=by
  subst hh;show(Rat.add a b).num=_/\(Rat.add a b).den=_;rw[Rat.add.eq_1,dif_neg hg1];exact MF _ _ _ _ _ _ _
 refine⟨h0.1,h0.2.trans ?_⟩;refine Nat.mul_div_assoc _ ?_;rw[<- hh];exact Nat.dvd_trans (Nat.gcd_dvd_right _ _) (Nat.gcd_dvd_right _ _)
theorem Le (a b:Rat):(a*b).num=(a.num/(Nat.gcd a.num.natAbs b.den:Nat))*(b.num/(Nat.gcd b.num.natAbs a.den:Nat))/\(a*b).den=(a.den/Nat.gcd b.num.natAbs a.den)*(b.den/Nat.gcd a.num.natAbs b.den):=by
 show(Rat.mul a b).num=_/\(Rat.mul a b).den=_;rw[Rat.mul.eq_1]
 simp only[Int.divExact_eq_ediv,Nat.divExact_eq_div]
 exact⟨trivial,trivial⟩
def Q5 (q:Rat):Int:=q.num.sign
theorem NP (b:Rat) (h:b≠0):(b⁻¹).num=(if b.num<0 then -(b.den:Int)else b.den)/\((b⁻¹).den:Int)=(if b.num<0 then -b.num else b.num):=by
 have h0:b.num≠0:=fun e=>h (Rat.num_eq_zero.1 e)
 rw[Rat.num_inv,Rat.den_inv,if_neg h0];rcases Int.lt_or_gt_of_ne h0 with h1|h1
 ·rw[if_pos h1,if_pos h1,Int.sign_eq_neg_one_of_neg h1];omega
 ·rw[if_neg (by omega),if_neg (by omega),Int.sign_eq_one_of_pos h1];omega
def Ld (c:UInt8):Bool:=decide (mM c)
theorem zf {c:UInt8}:Ld c=true↔mM c:=decide_eq_true_iff
def uY (t:List UInt8):List UInt8:=t.takeWhile Ld
def C8 (t:List UInt8):List UInt8:=t.dropWhile Ld
theorem yF {a b:List UInt8} (h:∀c∈a,mM c):uY (a++b)=a++uY b/\C8 (a++b)=C8 b:=by
 induction a with
 |nil=>exact⟨rfl,rfl⟩
 |cons x a ih=>
  have hx:=zf.2 (h x (by simp));obtain⟨h1,h2⟩:=ih (fun c hc=>h c (by simp[hc]));unfold uY C8 at *;rw[List.cons_append,List.takeWhile_cons_of_pos hx,List.dropWhile_cons_of_pos hx,h1,h2];exact⟨rfl,rfl⟩
theorem Gr {c:UInt8} {b:List UInt8} (h:¬mM c):uY (c::b)=[]/\C8 (c::b)=c::b:=by
 have hc:¬Ld c=true:=fun e=>h (zf.1 e)
 unfold uY C8;exact⟨List.takeWhile_cons_of_neg hc,List.dropWhile_cons_of_neg hc⟩
theorem F2 {a:List UInt8} (h:∀c∈a,mM c):uY a=a/\C8 a=[]:=by
 have:=yF (b:=[]) h
 simpa[uY,C8]using this
def LI (n:Nat):List UInt8:=if n=0 then [48]else nQ n
theorem Gs (z:Int):fmt z=(if z<0 then [45]else [])++LI z.natAbs:=by
 unfold fmt LI
 by_cases h:z=0
 ·subst h;rfl
 ·rw[if_neg h,if_neg (show ¬z.natAbs=0 by omega)]
theorem Pv {b:Bool} {l:List UInt8} (h:∀c r,l=c::r->mM c):gB ((if b=true then [45]else [])++l)=l/\li ((if b=true then [45]else [])++l)=b:=by
 cases b
 ·simp only[Bool.false_eq_true,if_false,List.nil_append]
  cases l with
  |nil=>exact⟨rfl,rfl⟩
  |cons c r=>
   have h1:=h c r rfl;have:(c == 45)=false:=beq_eq_false_iff_ne.2 (fun e=>by subst e;exact absurd h1 (by decide));exact⟨by show(if(c == 45)=true then r else c::r)=_;rw[this];rfl,this⟩
 ·exact⟨rfl,rfl⟩
def aQ (q:Rat):List AV:=aZ q.num++aZ q.den
def dQ (q:Rat):DV:= .agg (aQ q)
def Eh (na:Bool) (xs:List Nat) (nb:Bool) (ys:List Nat):List AV:=aI na xs++aI nb ys
def GL (na:Bool) (xs:List Nat) (nb:Bool) (ys:List Nat):DV:= .agg (Eh na xs nb ys)
def uo:List AV:=[.val (.bool false), .sl 0 [], .val (.bool false), .sl 0 []]
def Ui:DV:= .agg uo
def Sz (k:Nat) (z:Int):Prop:=z.natAbs<4294967296^k
theorem Sz.fit {k:Nat} {z:Int} (h:Sz k z) (hk:k<=2147483648):eG z:= .of_lt h hk
theorem Sz.mono {j k:Nat} {z:Int} (h:Sz j z) (hk:j<=k):Sz k z:=Nat.lt_of_lt_of_le h (Nat.pow_le_pow_right (by decide) hk)
theorem Sz.of_le {k:Nat} {a b:Int} (h:Sz k b) (hl:a.natAbs<=b.natAbs):Sz k a:=Nat.lt_of_le_of_lt hl h
theorem Sz.mul {j k:Nat} {a b:Int} (h:Sz j a) (h':Sz k b):Sz (j+k) (a*b):=by
 unfold Sz at *;rw[Int.natAbs_mul,Nat.pow_add];exact Nat.mul_lt_mul'' h h'
theorem Sz.add {k:Nat} {a b:Int} (h:Sz k a) (h':Sz k b):Sz (k+1) (a+b):=by
 unfold Sz at *;have:=Int.natAbs_add_le a b;have:0<4294967296^k:=Nat.pow_pos (by decide)
 rw[Nat.pow_succ];omega
theorem Sz.neg {k:Nat} {a:Int} (h:Sz k a):Sz k (-a):=by unfold Sz at *;rw[Int.natAbs_neg];exact h
theorem Sz.small {z:Int} (h:z.natAbs<4294967296):Sz 1 z:=by unfold Sz;simpa using h
theorem Sz.i64 {z:Int} (h1: -9223372036854775808<=z) (h2:z<9223372036854775808):Sz 2 z:=by unfold Sz;omega
theorem Sz.gcd {k:Nat} {n d:Int} (h:Sz k d) (hd:d≠0):Sz k (Nat.gcd n.natAbs d.natAbs:Nat):=by
 refine h.of_le ?_;rw[Int.natAbs_natCast];exact Nat.le_of_dvd (by omega) (Nat.gcd_dvd_right _ _)
theorem Sz.digs {k:Nat} {z:Int} (h:Sz k z):(digs z.natAbs).length<=k:=aY h
theorem Sz.of_digs {k:Nat} {z:Int} (h:(Go.Proofs.YtmkggcjajcdlcaaGreatDoor.digs z.natAbs).length<=k):Sz k z:=cX h
def cZ (k:Nat) (q:Rat):Prop:=Sz k q.num/\Sz k q.den
theorem cZ.mono {j k:Nat} {q:Rat} (h:cZ j q) (hk:j<=k):cZ k q:=⟨h.1.mono hk,h.2.mono hk⟩
theorem cZ.divInt {k:Nat} {n d:Int} (h:Sz k n) (h':Sz k d) (hd:d≠0):cZ k (Rat.divInt n d):=by
 obtain⟨_,_,h1,h2⟩:=oP (n:=n) (d:=d) hd;have hg:0<(gz n d).natAbs:=by have:=ze (n:=n) hd;omega
 refine⟨h.of_le ?_,h'.of_le ?_⟩
 ·conv=>rhs;rw[h1,Int.natAbs_mul]
  exact Nat.le_mul_of_pos_left _ hg
 ·conv=>rhs;rw[h2,Int.natAbs_mul]
  exact Nat.le_mul_of_pos_left _ hg
theorem cZ.add {j k:Nat} {a b:Rat} (h:cZ j a) (h':cZ k b):cZ (j+k+1) (a+b):=by
 rw[<- mU];refine .divInt ?_ ((h.2.mul h'.2).mono (by omega)) (by have:=Int.mul_pos (cK a) (cK b);omega);exact Sz.add (h.1.mul h'.2) ((h'.1.mul h.2).mono (by omega))
theorem cZ.neg {k:Nat} {a:Rat} (h:cZ k a):cZ k (-a):=⟨by rw[Rat.neg_num];exact h.1.neg,h.2⟩
theorem cZ.mul {j k:Nat} {a b:Rat} (h:cZ j a) (h':cZ k b):cZ (j+k) (a*b):=by
 rw[<- mV];exact .divInt (h.1.mul h'.1) (h.2.mul h'.2) (by have:=Int.mul_pos (cK a) (cK b);omega)
theorem cZ.div {j k:Nat} {a b:Rat} (h:cZ j a) (h':cZ k b) (hb:b≠0):cZ (j+k) (a/b):=by
 rw[<- mA];have h0:b.num≠0:=fun e=>hb (Rat.num_eq_zero.1 e)
 refine .divInt (h.1.mul h'.2) (h.2.mul h'.1) ?_;exact Int.mul_ne_zero (by have:=cK a;omega) h0
theorem od {z:Int}:(!decide (z<0) && decide (digs z.natAbs=[1]))=decide (z=1):=by
 by_cases h:z=1
 ·subst h;rw[show(1:Int).natAbs=1 from rfl,ub (by decide) (by decide)];rfl
 ·rw[decide_eq_false h]
  by_cases hn:z<0
  ·simp[hn]
  ·have:digs z.natAbs≠[1]:=fun e=>by
    have h1:=congrArg val e;rw[af]at h1
    simp[val]at h1
    omega
   simp[this]
theorem jI {z:Int}:decide (((digs z.natAbs).length:Int)=0)=decide (z=0):=by
 have:=dj (n:=z.natAbs)
 by_cases h:z=0
 ·subst h;rw[decide_eq_true rfl];exact decide_eq_true (by have:=this.2 rfl;omega)
 ·rw[decide_eq_false h];exact decide_eq_false (fun e=>h (by have:=this.1 (by omega);omega))
theorem rV:aa Tryz.prog 142 [] (.one (dZ 1)):=by
 refine kV func142 ?_;refine aj (fI 1 (by decide) (by decide)) rfl rfl rfl rfl rfl rfl rfl ?_;exact ax
theorem Co {na:Bool} {xs:List Nat} {b:Bool} (hb:(!na && decide (xs=[1]))=b):aa Tryz.prog 140 [dI na xs] (.one (dB b)):=by
 subst hb;cases na
 ·match xs with
  | []=>
   refine kU func140 ?_;exact ax
  | [x]=>
   refine kV func140 ?_;refine bB (cs':=[AV.val (dp x)]) (i:=0) (Nat.lt_succ_self 0) (fun j a h=>by simpa using h) (Nat.lt_succ_self 0) rfl rfl rfl rfl rfl rfl rfl rfl ?_;refine kW ?_;rw[show(!false && decide ([x]=[1]))=decide ((x:Int)=1) by by_cases h:x=1<;>simp[h]<;>omega];exact cw (T:=TT) rfl rfl
  |x::y::r=>
   refine kU func140 ?_;refine kR ?_;refine kI ?_
   iterate 7 refine kO ?_
   refine kB false ?_ ?_
   ·exact decide_eq_false (by simp only[List.length_cons];omega)
   refine kW ?_;rw[show(!false && decide (x::y::r=[1]))=false by simp];exact cw (T:=TT) rfl rfl
 ·refine kU func140 ?_
  exact ax
theorem Gz {na:Bool} {xs:List Nat} {b:Bool} (hb:(!na && decide (xs=[1]))=b):aa Tryz.prog 99 [dI na xs] (.one (dB b)):=by
 subst hb
 match xs with
 | []=>
  refine kV func99 ?_;rw[show(!na && decide (([]:List Nat)=[1]))=false by simp];exact cw (T:=TT) rfl rfl
 | [x]=>
  refine kV func99 ?_;refine bB (cs':=[AV.val (dp x)]) (i:=0) (Nat.lt_succ_self 0) (fun j a h=>by simpa using h) (Nat.lt_succ_self 0) rfl rfl rfl rfl rfl rfl rfl rfl ?_;refine kO ?_
  by_cases h:x=1
  ·refine kT ?_
   refine kW ?_;rw[show(!na && decide ([x]=[1]))=!na by simp[h]];exact cw (T:=TT) rfl rfl
  ·refine kE ?_
   refine kW ?_;rw[show(!na && decide ([x]=[1]))=false by simp[h]];exact cw (T:=TT) rfl rfl
 |x::y::r=>
  refine kU func99 ?_;refine kR ?_;refine kI ?_
  refine kO3 ?_
  refine kB false ?_ ?_
  ·exact decide_eq_false (by simp only[List.length_cons];omega)
  refine kW ?_;rw[show(!na && decide (x::y::r=[1]))=false by simp];exact cw (T:=TT) rfl rfl
theorem dh {z:Int} {b:Bool} (hb:decide (z=1)=b):aa Tryz.prog 140 [dZ z] (.one (dB b)):=Co (by rw[od,hb])
theorem b7 {z:Int} {b:Bool} (hb:decide (z=1)=b):aa Tryz.prog 99 [dZ z] (.one (dB b)):=Gz (by rw[od,hb])
theorem gT {z:Int} {b:Bool} (hb:decide (z=0)=b):aa Tryz.prog 149 [dZ z] (.one (dB b)):=by
 refine kV func149 ?_;rw[<- hb,<- jI];exact cw (T:=TT) rfl rfl
theorem oz {a b c:Int} (h1:eG a) (h2:eG b) (hb:b≠0) (h:a.fdiv b=c):aa Tryz.prog 207 [dZ a,dZ b] (.one (dZ c)):=by
 by_cases h1':b=1
 ·subst h1'
  rw[Int.fdiv_one]at h;subst h;refine kV func207 ?_;refine kC (dh (z:=1) (b:=true) rfl) ?_;exact ax
 ·refine kV func207 ?_;refine kQ (dh (z:=b) (b:=false) (decide_eq_false h1')) ?_;refine kC (xK h1 h2 hb h rfl) ?_;exact ax
theorem dw {a b c:Int} (h1:eG a) (h2:eG b) (hb:b≠0) (h:a.fdiv b=c):aa Tryz.prog 101 [dZ a,dZ b] (.one (dZ c)):=by
 refine kV func101 ?_;refine kC (uR h1 h2 hb h rfl) ?_;exact ax
theorem GP {n d:Int} {g:Nat} (hg:Nat.gcd n.natAbs d.natAbs=g) (h:¬d<0):gz n d=g:=by unfold gz;rw[if_neg h,hg]
theorem HL {n d:Int} {g:Nat} (hg:Nat.gcd n.natAbs d.natAbs=g) (h:d<0):gz n d= -(g:Int):=by unfold gz;rw[if_pos h,hg]
theorem iR {k:Nat} {n d:Int} {q:Rat} (h1:Sz k n) (h2:Sz k d) (hk:k<=2147483648) (hd:d≠0) (hq:Rat.divInt n d=q):aa Tryz.prog 144 [dZ n,dZ d] (.one (dQ q)):=by
 subst hq;obtain⟨e1,e2,_,_⟩:=oP (n:=n) hd;have hg0:=ze (n:=n) hd;have hsg:=h2.gcd (n:=n) hd;obtain⟨g,hg⟩:∃g,Nat.gcd n.natAbs d.natAbs=g:=⟨_,rfl⟩;rw[hg]at hsg
 by_cases h:d<0
 ·rw[HL hg h]at e1 e2 hg0
  refine kV func144 ?_;refine kQ (wT (h1.fit hk) (h2.fit hk) hg) ?_;refine eC (T:=TT) rfl ?_ ?_
  ·exact decide_eq_true h
  refine kW ?_;refine kQ (vG (hsg.fit hk)) ?_;refine kQ (oz (h1.fit hk) (hsg.neg.fit hk) hg0 e1) ?_;refine kC (oz (h2.fit hk) (hsg.neg.fit hk) hg0 e2) ?_;exact ax
 ·rw[GP hg h]at e1 e2 hg0
  refine kV func144 ?_;refine kQ (wT (h1.fit hk) (h2.fit hk) hg) ?_;refine eD (T:=TT) rfl ?_ ?_
  ·exact decide_eq_false h
  refine kW ?_;refine kQ (oz (h1.fit hk) (hsg.fit hk) hg0 e1) ?_;refine kC (oz (h2.fit hk) (hsg.fit hk) hg0 e2) ?_;exact ax
theorem mC {k:Nat} {n d:Int} {q:Rat} (h1:Sz k n) (h2:Sz k d) (hk:k<=2147483648) (hd:d≠0) (hq:Rat.divInt n d=q):aa Tryz.prog 196 [dZ n,dZ d] (.one (dQ q)):=by
 subst hq;obtain⟨e1,e2,_,_⟩:=oP (n:=n) hd;have hg0:=ze (n:=n) hd;have hsg:=h2.gcd (n:=n) hd;obtain⟨g,hg⟩:∃g,Nat.gcd n.natAbs d.natAbs=g:=⟨_,rfl⟩;rw[hg]at hsg
 by_cases h:d<0
 ·rw[HL hg h]at e1 e2 hg0
  have hs:aa Tryz.prog 103 [dZ d] (.one (dN .i64 (-1))):=by have:=kp d;rwa[Int.sign_eq_neg_one_of_neg h]at this
  refine OD ?_;refine kQ (iB g) ?_;refine kQ (dw (h1.fit hk) (hsg.neg.fit hk) hg0 e1) ?_;refine kC (dw (h2.fit hk) (hsg.neg.fit hk) hg0 e2) ?_;exact ax
 ·rw[GP hg h]at e1 e2 hg0
  have hs:aa Tryz.prog 103 [dZ d] (.one (dN .i64 1)):=by have:=kp d;rwa[Int.sign_eq_one_of_pos (by omega)]at this
  refine OD ?_;refine kQ (dw (h1.fit hk) (hsg.fit hk) hg0 e1) ?_;refine kC (dw (h2.fit hk) (hsg.fit hk) hg0 e2) ?_;exact ax
theorem Sz.of_val {na:Bool} {xs:List Nat} {n:Int} {k:Nat} (hw:Wd xs) (h:xs.length<=k) (hn:ar na xs=n):Sz k n:=by
 rw[<- hn];unfold Sz;rw[bJ];exact Nat.lt_of_lt_of_le (fJ hw) (Nat.pow_le_pow_right (by decide) h)
theorem FI {na nb:Bool} {xs ys:List Nat} {n d:Int} {q:Rat} (hw:Wd xs) (hw':Wd ys) (h1:xs.length<=1000) (h2:ys.length<=1000) (hn:ar na xs=n) (hd:ar nb ys=d) (h0:d≠0) (hq:Rat.divInt n d=q):aa Tryz.prog 145 [dI na xs,dI nb ys] (.tup [dQ q,dN .i64 0]):=by
 have s1:Sz 1000 n:=Sz.of_val hw h1 hn;have s2:Sz 1000 d:=Sz.of_val hw' h2 hd;refine Pd ?_;refine kQ (gT (decide_eq_false h0)) ?_;refine aj (iR s1 s2 (by decide) h0 hq) rfl rfl rfl rfl rfl rfl rfl ?_;exact ax
theorem B7 {na nb:Bool} {xs ys:List Nat} {n d:Int} (hw:Wd xs) (hw':Wd ys) (h1:xs.length<=1000) (h2:ys.length<=1000) (hn:ar na xs=n) (hd:ar nb ys=d) (h0:d=0):aa Tryz.prog 145 [dI na xs,dI nb ys] (.tup [Ui,dN .i64 6]):=by
 refine Pd ?_;refine kC (gT (decide_eq_true h0)) ?_;exact ax
theorem CG {n d:Int} {q:Rat} (h1:Sz 1000 n) (h2:Sz 1000 d) (h0:d≠0) (hq:Rat.divInt n d=q):aa Tryz.prog 145 [dZ n,dZ d] (.tup [dQ q,dN .i64 0]):=
 FI (ay _) (ay _) h1.digs h2.digs (aX n) (aX d) h0 hq
theorem gN (k:Int) (h1: -9223372036854775808<=k) (h2:k<9223372036854775808) {q:Rat} (hq:(k:Rat)=q):aa Tryz.prog 121 [dN .i64 k] (.one (dQ q)):=by
 subst hq;refine kV func121 ?_;refine kQ (fI k h1 h2) ?_;refine kC (rV) ?_;exact ax
theorem ew (k:Int) (h1: -9223372036854775808<=k) (h2:k<9223372036854775808) {q:Rat} (hq:(k:Rat)=q):aa Tryz.prog 52 [dN .i64 k] (.one (dQ q)):=by
 subst hq;refine kV func52 ?_;refine kQ (dM k h1 h2) ?_;refine aj (dM 1 (by decide) (by decide)) rfl rfl rfl rfl rfl rfl rfl ?_;exact ax
theorem nw (n:Int):Rat.divInt n 0=((0:Int):Rat):=by simp
theorem jm (n d:Int) (h1: -9223372036854775808<=n) (h2:n<9223372036854775808) (h3: -9223372036854775808<=d) (h4:d<9223372036854775808) {q:Rat} (hq:Rat.divInt n d=q):aa Tryz.prog 88 [dN .i64 n,dN .i64 d] (.one (dQ q)):=by
 by_cases h0:d=0
 ·refine Ps ?_
  refine aj (B7 (na:=decide (n<0)) (nb:=decide (d<0)) (ay _) (ay _) ((Sz.i64 h1 h2).mono (k:=1000) (by decide)).digs ((Sz.i64 h3 h4).mono (k:=1000) (by decide)).digs (aX n) (aX d) h0) rfl rfl rfl rfl rfl rfl rfl ?_;refine kW ?_;refine aj (gN 0 (by decide) (by decide) (q:=q) (by subst h0;rw[<- nw n];exact hq)) rfl rfl rfl rfl rfl rfl rfl ?_;exact ax
 ·refine Ps ?_
  refine aj (CG ((Sz.i64 h1 h2).mono (by decide)) ((Sz.i64 h3 h4).mono (by decide)) h0 hq) rfl rfl rfl rfl rfl rfl rfl ?_;exact ax
theorem sf (n d:Int) (h1: -9223372036854775808<=n) (h2:n<9223372036854775808) (h3: -9223372036854775808<=d) (h4:d<9223372036854775808) {q:Rat} (hq:Rat.divInt n d=q):aa Tryz.prog 136 [dN .i64 n,dN .i64 d] (.one (dQ q)):=by
 by_cases h0:d=0
 ·subst h0
  refine kV func136 ?_;refine aj (ew 0 (by decide) (by decide) (q:=q) (by rw[<- nw n];exact hq)) rfl rfl rfl rfl rfl rfl rfl ?_;exact ax
 ·refine kV func136 ?_;refine eD (T:=TT) rfl ?_ ?_
  ·exact decide_eq_false h0
  refine kW ?_;refine kQ (dM n h1 h2) ?_;refine kQ (dM d h3 h4) ?_;refine aj (mC (Sz.i64 h1 h2) (Sz.i64 h3 h4) (by decide) h0 hq) rfl rfl rfl rfl rfl rfl rfl ?_;exact ax
theorem Kq {k:Nat} {a q:Rat} (h:cZ k a) (hk:k<=2147483648) (hq: -a=q):aa Tryz.prog 150 [dQ a] (.one (dQ q)):=by
 subst hq;refine kV func150 ?_;refine kC (vG (h.1.fit hk)) ?_;exact ax
theorem F3 {a q:Rat} (hq: -a=q):aa Tryz.prog 49 [dQ a] (.one (dQ q)):=by
 subst hq;refine kV func49 ?_;refine kC (iB a.num) ?_;exact ax
theorem wH (a:Rat):aa Tryz.prog 242 [dQ a] (.one (dN .i64 (Q5 a))):=by
 refine kV func242 ?_;refine kC (C4 a.num) ?_;exact ax
theorem sI (a:Rat):aa Tryz.prog 50 [dQ a] (.one (dN .i64 (Q5 a))):=by
 refine kV func50 ?_;refine kC (kp a.num) ?_;exact ax
theorem o8 {q:Rat} {n d:Int} (h1:q.num=n) (h2:(q.den:Int)=d):dQ q= .agg (aZ n++aZ d):=by unfold dQ aQ;rw[h1,h2]
theorem Hi (a:Rat):decide ((a.den:Int)=1)=decide (a.den=1):=by by_cases h:a.den=1<;>simp[h]<;>omega
theorem oK {a:Rat} (h:a.den=1):decide ((a.den:Int)=1)=true:=by rw[Hi];exact decide_eq_true h
theorem nN {a:Rat} (h:¬a.den=1):decide ((a.den:Int)=1)=false:=by rw[Hi];exact decide_eq_false h
theorem yW {z:Int} (h:z=0):decide (((digs z.natAbs).length:Int)=0)=true:=jI.trans (decide_eq_true h)
theorem t8 {z:Int} (h:¬z=0):decide (((digs z.natAbs).length:Int)=0)=false:=jI.trans (decide_eq_false h)
theorem oW (a:Int) (g:Nat):a.fdiv g=a/g:=Int.fdiv_eq_ediv_of_nonneg _ (by omega)
theorem nC (a g:Nat):(a:Int).fdiv g=((a/g:Nat):Int):=by rw[oW];rfl
theorem tI {j k:Nat} {a b q:Rat} (h:cZ j a) (h':cZ k b) (hk:j+k+1<=2147483648) (hq:a+b=q):aa Tryz.prog 87 [dQ a,dQ b] (.one (dQ q)):=by
 subst hq;have d0:(a.den:Int)*b.den≠0:=by have:=Int.mul_pos (cK a) (cK b);omega
 by_cases ha:a.den=1
 ·by_cases hb:b.den=1
  ·rw[o8 (rj ha hb).1 (d:=1) (by rw[(rj ha hb).2];rfl)]
   refine kU func87 ?_;refine E5 ?_;refine kQ (dh (oK hb)) ?_;refine aj (vO (h.1.fit (by omega)) (h'.1.fit (by omega))) rfl rfl rfl rfl rfl rfl rfl ?_;refine kW ?_;refine kC (rV) ?_;exact ax
  ·refine kU func87 ?_
   refine E5 ?_;refine kC (dh (nN hb)) ?_;refine RG ?_;exact ax
 ·refine kV func87 ?_;refine kC (dh (nN ha)) ?_;refine RG ?_;exact ax
theorem om {j k:Nat} {a b q:Rat} (h:cZ j a) (h':cZ k b) (hk:j+k<=2147483648) (hq:a*b=q):aa Tryz.prog 123 [dQ a,dQ b] (.one (dQ q)):=by
 subst hq;have d0:(a.den:Int)*b.den≠0:=by have:=Int.mul_pos (cK a) (cK b);omega
 by_cases ha:a.den=1
 ·by_cases hb:b.den=1
  ·rw[o8 (oU ha hb).1 (d:=1) (by rw[(oU ha hb).2];rfl)]
   refine kU func123 ?_;refine E5 ?_;refine kQ (dh (oK hb)) ?_;refine aj (fB (h.1.fit (by omega)) (h'.1.fit (by omega))) rfl rfl rfl rfl rfl rfl rfl ?_;refine kW ?_;refine kC (rV) ?_;exact ax
  ·refine kU func123 ?_
   refine E5 ?_;refine kC (dh (nN hb)) ?_;refine Ph ?_;exact ax
 ·refine kV func123 ?_;refine kC (dh (nN ha)) ?_;refine Ph ?_;exact ax
theorem Be {j k:Nat} {a b q:Rat} (h:cZ j a) (h':cZ k b) (hk:j+k<=2147483648) (hb:b≠0) (hq:a/b=q):aa Tryz.prog 182 [dQ a,dQ b] (.tup [dQ q,dN .i64 0]):=by
 subst hq;have h0:b.num≠0:=fun e=>hb (Rat.num_eq_zero.1 e)
 refine kV func182 ?_;refine kQ (gT (decide_eq_false h0)) ?_;refine aj (fB (h.1.fit (by omega)) (h'.2.fit (by omega))) rfl rfl rfl rfl rfl rfl rfl ?_;refine kW ?_;refine aj (fB (h.2.fit (by omega)) (h'.1.fit (by omega))) rfl rfl rfl rfl rfl rfl rfl ?_;refine kW ?_;refine aj (iR (h.1.mul h'.2) (h.2.mul h'.1) hk (Int.mul_ne_zero (by have:=cK a;omega) h0) (mA a b)) rfl rfl rfl rfl rfl rfl rfl ?_;exact ax
theorem Fo {a b:Rat} (hb:b=0):aa Tryz.prog 182 [dQ a,dQ b] (.tup [Ui,dN .i64 6]):=by
 refine kV func182 ?_;refine kC (gT (decide_eq_true (Rat.num_eq_zero.2 hb))) ?_;exact ax
theorem Gy {j k:Nat} {a b q:Rat} (h:cZ j a) (h':cZ k b) (hk:j+k+1<=2147483648) (hq:a+b=q):aa Tryz.prog 138 [dQ a,dQ b] (.one (dQ q)):=by
 subst hq
 by_cases ha0:a.num=0
 ·have e:a+b=b:=by rw[Rat.num_eq_zero.1 ha0];exact Rat.zero_add b
  rw[e];refine kV func138 ?_;refine eC (T:=TT) rfl ?_ ?_
  ·exact yW ha0
  exact ax
 by_cases hb0:b.num=0
 ·have e:a+b=a:=by rw[Rat.num_eq_zero.1 hb0];exact Rat.add_zero a
  rw[e];refine kV func138 ?_;refine eD (T:=TT) rfl ?_ ?_
  ·exact t8 ha0
  refine kW ?_;refine eC (T:=TT) rfl ?_ ?_
  ·exact yW hb0
  exact ax
 obtain⟨g,hg⟩:∃g,Nat.gcd a.den b.den=g:=⟨_,rfl⟩;have hgz:Nat.gcd (a.den:Int).natAbs (b.den:Int).natAbs=g:=by rw[Int.natAbs_natCast,Int.natAbs_natCast];exact hg
 have hg0:0<g:=by rw[<- hg];exact Nat.gcd_pos_of_pos_right _ (Nat.pos_of_ne_zero b.den_nz)
 have sg:Sz k g:=by rw[<- hgz];exact h'.2.gcd (by have:=cK b;omega)
 by_cases hab:a.den=1/\b.den=1
 ·rw[o8 (rj hab.1 hab.2).1 (d:=a.den) (by rw[(rj hab.1 hab.2).2,hab.1])]
  refine J7 ?_;refine kQ (b7 (oK hab.1)) ?_;refine kQ (b7 (oK hab.2)) ?_;refine aj (jH (h.1.fit (by omega)) (h'.1.fit (by omega))) rfl rfl rfl rfl rfl rfl rfl ?_;exact ax
 by_cases hg1:g=1
 ·have e:=MN (hg.trans hg1)
  rw[o8 e.1 (d:=a.den*b.den) (by rw[e.2];rfl)];refine J7 ?_
  by_cases ha:a.den=1
  ·have hb:¬b.den=1:=fun e=>hab ⟨ha,e⟩
   refine kQ (b7 (oK ha)) ?_;refine kC (b7 (nN hb)) ?_;refine Sb ?_;exact ax
  ·refine kC (b7 (nN ha)) ?_
   refine Sb ?_;exact ax
 ·have ha:¬a.den=1:=fun e=>hg1 (by rw[<- hg,e,Nat.gcd_one_left])
  obtain⟨x,hx⟩:∃x,a.den/g=x:=⟨_,rfl⟩;obtain⟨y,hy⟩:∃y,b.den/g=y:=⟨_,rfl⟩;have sx:Sz j x:=h.2.of_le (by rw[<- hx,Int.natAbs_natCast,Int.natAbs_natCast];exact Nat.div_le_self _ _);have sy:Sz k y:=h'.2.of_le (by rw[<- hy,Int.natAbs_natCast,Int.natAbs_natCast];exact Nat.div_le_self _ _);obtain⟨n,hn⟩:∃n,a.num*(y:Int)+b.num*(x:Int)=n:=⟨_,rfl⟩;have sn:Sz (j+k+1) n:=by rw[<- hn];exact(h.1.mul sy).add ((h'.1.mul sx).mono (by omega))
  obtain⟨t,ht⟩:∃t,Nat.gcd n.natAbs g=t:=⟨_,rfl⟩;have ht0:0<t:=by rw[<- ht];exact Nat.gcd_pos_of_pos_right _ hg0
  have htz:Nat.gcd n.natAbs (g:Int).natAbs=t:=by rw[Int.natAbs_natCast];exact ht
  have st:Sz k t:=by rw[<- htz];exact sg.gcd (by omega)
  have e:=Lt (a:=a) (b:=b) hg hg1 (h:=t) (by rw[hx,hy,hn];exact ht);rw[hx,hy,hn]at e;rw[o8 e.1 (d:=x*(b.den/t:Nat)) (by rw[e.2];rfl)];have sz:Sz k (b.den/t:Nat):=h'.2.of_le (by rw[Int.natAbs_natCast,Int.natAbs_natCast];exact Nat.div_le_self _ _);refine J7 ?_;refine kC (b7 (nN ha)) ?_;refine Pg ?_;refine aj (b7 (decide_eq_false (by omega))) rfl rfl rfl rfl rfl rfl rfl ?_;refine kW ?_;refine aj (dw (h.2.fit (by omega)) (sg.fit (by omega)) (by omega) ((nC _ _).trans (congrArg _ hx))) rfl rfl rfl rfl rfl rfl rfl ?_;refine kW ?_;refine aj (dw (h'.2.fit (by omega)) (sg.fit (by omega)) (by omega) ((nC _ _).trans (congrArg _ hy))) rfl rfl rfl rfl rfl rfl rfl ?_;refine kW ?_;refine aj (dG (h.1.fit (by omega)) (sy.fit (by omega))) rfl rfl rfl rfl rfl rfl rfl ?_
  refine kW ?_;refine aj (dG (h'.1.fit (by omega)) (sx.fit (by omega))) rfl rfl rfl rfl rfl rfl rfl ?_;refine kW ?_;refine aj ((hn ▸ jH ((h.1.mul sy).fit (by omega)) ((h'.1.mul sx).fit (by omega)))) rfl rfl rfl rfl rfl rfl rfl ?_;refine kW ?_;refine aj (iq (sn.fit (by omega)) (sg.fit (by omega)) htz) rfl rfl rfl rfl rfl rfl rfl ?_;refine kW ?_;refine aj (dw (sn.fit (by omega)) (st.fit (by omega)) (by omega) (oW _ _)) rfl rfl rfl rfl rfl rfl rfl ?_;refine kW ?_;refine aj (dw (h'.2.fit (by omega)) (st.fit (by omega)) (by omega) (nC _ _)) rfl rfl rfl rfl rfl rfl rfl ?_;refine kW ?_;refine aj (dG (sx.fit (by omega)) (sz.fit (by omega))) rfl rfl rfl rfl rfl rfl rfl ?_;exact ax
theorem lT {j k:Nat} {a b q:Rat} (h:cZ j a) (h':cZ k b) (hk:j+k<=2147483648) (hq:a*b=q):aa Tryz.prog 48 [dQ a,dQ b] (.one (dQ q)):=by
 subst hq
 by_cases ha0:a.num=0
 ·have e:a*b=0:=by rw[Rat.num_eq_zero.1 ha0];exact Rat.zero_mul b
  refine kU func48 ?_;refine jT ?_;refine kB true ?_ ?_
  ·exact yW ha0
  exact Ny
 by_cases hb0:b.num=0
 ·have e:a*b=0:=by rw[Rat.num_eq_zero.1 hb0];exact Rat.mul_zero a
  refine Iy ?_;refine kB true ?_ ?_
  ·exact yW hb0
  exact Ny
 by_cases hab:a.den=1/\b.den=1
 ·rw[o8 (oU hab.1 hab.2).1 (d:=a.den) (by rw[(oU hab.1 hab.2).2,hab.1])]
  refine Iy ?_;refine kB false ?_ ?_
  ·exact t8 hb0
  refine kW ?_;refine kQ (b7 (oK hab.1)) ?_;refine kQ (b7 (oK hab.2)) ?_;refine aj (dG (h.1.fit (by omega)) (h'.1.fit (by omega))) rfl rfl rfl rfl rfl rfl rfl ?_;exact ax
 have e:=Le a b;obtain⟨g,hg⟩:∃g,Nat.gcd a.num.natAbs b.den=g:=⟨_,rfl⟩;obtain⟨t,ht⟩:∃t,Nat.gcd b.num.natAbs a.den=t:=⟨_,rfl⟩;rw[hg,ht]at e;have hgz:Nat.gcd a.num.natAbs (b.den:Int).natAbs=g:=by rw[Int.natAbs_natCast];exact hg
 have htz:Nat.gcd b.num.natAbs (a.den:Int).natAbs=t:=by rw[Int.natAbs_natCast];exact ht
 have hg0:0<g:=by rw[<- hg];exact Nat.gcd_pos_of_pos_right _ (Nat.pos_of_ne_zero b.den_nz)
 have ht0:0<t:=by rw[<- ht];exact Nat.gcd_pos_of_pos_right _ (Nat.pos_of_ne_zero a.den_nz)
 have sg:Sz k g:=by rw[<- hgz];exact h'.2.gcd (by have:=cK b;omega)
 have st:Sz j t:=by rw[<- htz];exact h.2.gcd (by have:=cK a;omega)
 have s1:Sz j (a.num/g):=h.1.of_le (Int.natAbs_ediv_le_natAbs _ _);have s2:Sz k (b.num/t):=h'.1.of_le (Int.natAbs_ediv_le_natAbs _ _);have s3:Sz j (a.den/t:Nat):=h.2.of_le (by rw[Int.natAbs_natCast,Int.natAbs_natCast];exact Nat.div_le_self _ _);have s4:Sz k (b.den/g:Nat):=h'.2.of_le (by rw[Int.natAbs_natCast,Int.natAbs_natCast];exact Nat.div_le_self _ _);rw[o8 e.1 (d:=(a.den/t:Nat)*(b.den/g:Nat)) (by rw[e.2];rfl)];refine Iy ?_;refine kB false ?_ ?_
 ·exact t8 hb0
 refine kW ?_
 by_cases ha:a.den=1
 ·have hb:¬b.den=1:=fun e=>hab ⟨ha,e⟩
  refine kQ (b7 (oK ha)) ?_;refine kC (b7 (nN hb)) ?_;refine SW ?_;exact ax
 ·refine kC (b7 (nN ha)) ?_
  refine SW ?_;exact ax
theorem Fy {b q:Rat} (hb:b≠0) (hq:b⁻¹=q):aa Tryz.prog 198 [dQ b] (.one (dQ q)):=by
 subst hq;obtain⟨e1,e2⟩:=NP b hb
 by_cases hn:b.num<0
 ·rw[if_pos hn]at e1 e2
  rw[o8 e1 e2];refine kV func198 ?_;refine eC (T:=TT) rfl ?_ ?_
  ·exact decide_eq_true hn
  refine kW ?_;refine kQ (iB b.den) ?_;refine kC (iB b.num) ?_;exact ax
 ·rw[if_neg hn]at e1 e2
  rw[o8 e1 e2];refine kV func198 ?_;refine eD (T:=TT) rfl ?_ ?_
  ·exact decide_eq_false hn
  exact ax
theorem cZ.inv {k:Nat} {b:Rat} (h:cZ k b) (hb:b≠0):cZ k b⁻¹:=by
 obtain⟨e1,e2⟩:=NP b hb;unfold cZ;rw[e1,e2]
 split
 ·exact⟨h.2.neg,h.1.neg⟩
 ·exact⟨h.2,h.1⟩
theorem vu {j k:Nat} {a b q:Rat} (h:cZ j a) (h':cZ k b) (hk:j+k<=2147483648) (hb:b≠0) (hq:a/b=q):aa Tryz.prog 139 [dQ a,dQ b] (.tup [dQ q,dN .i64 0]):=by
 subst hq;have h0:¬b.num=0:=fun e=>hb (Rat.num_eq_zero.1 e)
 refine kV func139 ?_;refine eD (T:=TT) rfl ?_ ?_
 ·exact t8 h0
 refine kW ?_;refine kQ (Fy hb rfl) ?_;refine kC (lT h (h'.inv hb) hk (Rat.div_def a b).symm) ?_;exact ax
theorem BF {a b:Rat} (hb:b=0):aa Tryz.prog 139 [dQ a,dQ b] (.tup [Ui,dN .i64 6]):=by
 refine kV func139 ?_;refine eC (T:=TT) rfl ?_ ?_
 ·exact yW (Rat.num_eq_zero.2 hb)
 exact ax
section
open Go.RowKit Go.Shelf
attribute [local go_sem] Oper.semAt_some
abbrev Kn (M:Nat) (x:Nat × Nat):Array Value:= #[.int .i64 (x.1:Int),dp (x.2%M)]
theorem yr {M:Nat} {xs:List Nat} (h0:0<M) (h:∀x∈xs,x<M) (i:Nat):xs.getD i 0<M:=by
 rw[List.getD_eq_getElem?_getD];cases hx:xs[i]? with
 |none=>exact h0
 |some x=>exact h x (List.mem_of_getElem? hx)
set_option maxRecDepth 100000 in
theorem F9 (F:Fence) (n:Nat) (h8:F.fn 260) (hro:F.round=none) (hn:1<=n) (l Bs:Nat) (A:Option Addr) (len cap:Nat) (xs:List Nat) (M:Nat) (hM0:0<M) (hM:∀x∈xs,x<M) (w:World) (hx:aJ w A len cap xs) (J Jx:List (Nat × Nat)->World->Prop)
 (hY:∀pre x W,J pre W->pre.length<len->YieldAt F (n-1) Tryz.prog l (Kn M x) W fun e W'=>
  (e= .returned (.bool true)/\J (pre++[x]) W'/\KB w.heap.size Bs W W')∨(e= .returned (.bool false)/\Jx (pre++[x]) W'))
 (W:World) (hbW:aO w W) (hBs:W.cell? ⟨Bs,0,none⟩=some (.slice A len cap)) (h0:J [] W):
 CallsIn F n Tryz.prog 260 #[.func (.yield l) #[] #[], .pointer (some ⟨Bs,0,none⟩)] W fun e W'=>(∃v,e= .returned v) /\
  ((∃ys,ys=upto (d9 xs) len/\J ys W')∨(∃pre,True/\Jx pre W')):=by
 have hcap:=hx.cap;have hlim:=hx.lim;have hlen:=hx.len;have hwd:=hx.wd;have Hx:=Lib.hid hx;have HM:=Lib.hid hM;have Hlen:=Lib.hid hlen;have Hwd:=Lib.hid hwd;clear hx hlen hwd hM;refine callsIn_of_wp func260 rfl h8 ?_ hro
 simp only[ntmps260,List.size_toArray,List.length_cons,List.length_nil,Nat.reduceAdd,Nat.reduceSub,Array.replicate_succ,Array.replicate_zero,List.push_toArray,List.append_toArray,List.nil_append,List.cons_append]
 gi_wp2
 gi_loopw [3] (fun i wr=>∃k:Nat,k<=len/\i= .int .i64 ((len:Int)-1-k)/\J (upto (d9 xs) k) wr/\KB w.heap.size Bs W wr)
  (fun i _=>(intOf i+1).toNat)
 case atStart=>exact⟨0,Nat.zero_le _,by go_num,h0,KB.refl _ _ _⟩
 case round=>
  obtain⟨k,hk,rfl,hJs,hnx⟩:=hrel;have hcs:=(hnx.cell 0).trans hBs
  by_cases hlt:k<len
  ·obtain⟨b,off,rfl,hb,hc⟩:=Hx.out.at (by omega)
   have hcx:=(hnx.1.cell (p:=⟨b,off+(len-1-k),none⟩) hb).trans ((hbW.cell (p:=⟨b,off+(len-1-k),none⟩) hb).trans (hc (len-1-k) (by omega)));obtain⟨fn,tmps,assign,body,hy,hR⟩:=hY _ (d9 xs k) wr hJs (by rw[qn];exact hlt);have e1:d9 xs k=(len-1-k,xs.getD (len-1-k) 0):=by unfold d9;rw[Hlen.out]
   rw[e1]at hy;have e2:((len-1-k:Nat):Int)=(len:Int)-1-k:=by omega
   dsimp only[Kn]at hy;rw[e2]at hy;obtain⟨x,hxx⟩:∃x,x=xs.getD (len-1-k) 0:=⟨_,rfl⟩;rw[<- hxx]at hy hcx;rw[Nat.mod_eq_of_lt (by rw[hxx];exact yr hM0 HM.out _)]at hy;have g1:(0:Int)<=(len:Int)-1-k:=by omega
   have g2:(len:Int)-1-k<len:=by omega
   have g3:((len:Int)-1-k).toNat=len-1-k:=by omega
   clear e1 e2 hc;have Hxx:=Lib.hid hxx;clear hxx
   gi_wp2
   refine hR.mono ?_;rintro e W3 (⟨rfl,hJ3,hk3⟩| ⟨rfl,hJx3⟩)
   ·gi_wp2
    go_roundw
    case rel=>exact⟨k+1,by omega,by go_num,by rw[pR];exact hJ3,hnx.trans hk3⟩
    case measure=>simp[intOf];omega
   ·gi_wp2
    refine bodyPost_ret (results_none rfl _ _ _) rfl ?_;exact⟨⟨_,rfl⟩, .inr ⟨_,trivial,hJx3⟩⟩
  ·obtain rfl:k=len:=by omega
   have g1:¬((k:Int)<=(k:Int)-1):=by omega
   gi_wp2
   go_end0
   first|exact⟨⟨_,rfl⟩, .inl ⟨_,rfl,hJs⟩⟩|exact⟨⟨_,rfl⟩, .inl hJs⟩
theorem qK (F:Fence) (n:Nat) (h8:F.fn 260) (hro:F.round=none) (hn:1<=n) (Bs:Nat) (A:Option Addr) (len cap:Nat) (xs:List Nat) (M:Nat) (hM0:0<M) (hM:∀x∈xs,x<M) (w0 w:World) (hx:aJ w0 A len cap xs) (h0:aO w0 w) (hBs:Bs<w.heap.size) (hc:w.cell? ⟨Bs,0,none⟩=some (.slice A len cap)):
 SeqStopsK F n Tryz.prog 260 #[.pointer (some ⟨Bs,0,none⟩)] (Kn M) (KB w0.heap.size Bs) (fun ys=>ys=upto (d9 xs) len) (fun _=>True) len w:=fun l J Jx W hW _ _ hY hJ0=>
 F9 F n h8 hro hn l Bs A len cap xs M hM0 hM w0 hx J Jx hY W (h0.more hW) ((hW.cell (p:=⟨Bs,0,none⟩) hBs).trans hc) hJ0
end
section
open Go.Shelf Go.RowKit Go.Sort Go.Lib
set_option maxRecDepth 100000 in
theorem u5 (u:Nat) (hu64:u<18446744073709551616) (w:World) (htab:Lib.TabIs Tryz.prog w "internal/strconv.uint64pow10" .u64 Lib.pow10Tab):
 Calls Tryz.prog 268 #[.int .u64 u, .int .i64 10] w fun e w'=>e= .returned (.string ⟨(Lib.decDigits u).toArray⟩)/\Below w.heap.size w w':=by
 by_cases hs:u<100
 ·go_enter func268,ntmps268
  go_wp2_with (go_at_call 288;refine(Tryz.internal_strconv_small u hs _).mono ?_;rintro e w' ⟨rfl,rfl⟩)
  go_ret
  exact⟨rfl,Below.refl _ _⟩
 ·have hu1:1<=u:=by omega
  have hnd20:Lib.nDigits u<=20:=by have:=Lib.numDigits_eq u hu1 hu64;split at this<;>omega
  have hal:(Tryz.prog).arrayLen 255=24:=by simp[Program.arrayLen,underlying255]
  have hsl:∀W,(Instr.sliceAt 255 (.pointer (some ⟨w.heap.size,0,none⟩)) none (some (.int .i64 (Lib.nDigits u:Int))) none).run Tryz.prog W= .ok (.slice (some ⟨w.heap.size,0,none⟩) (Lib.nDigits u) 24) W:=fun W=>by
   rw[run_sliceAt_array_h W 255 ⟨w.heap.size,0,none⟩ (by simp[Program.arrayLen,Program.elem,underlying255]) .i64 (Lib.nDigits u:Int) (by omega) (by rw[hal];omega)]
   go_simp
  have hH0:=Lib.holds_zero0 w 255 (Lib.nDigits u) (by omega);have hfmt:=Tryz.internal_strconv_formatBase10 w.heap.size 0 24 u (Array.replicate (Lib.nDigits u) 0) (w.alloc (.cells Lib.zeros24 255)) hH0 (by rw[Array.size_replicate];exact Lib.lt_pow_nDigits u) hu64 (by rw[Array.size_replicate];omega);rw[Array.size_replicate]at hfmt;have HH0:=Lib.hid hH0;have iu:(100:Int)<=(u:Int):=by omega
  clear hH0 hal
  go_enter func268,ntmps268
  go_wp2_with (go_at_call 289;refine(Tryz.internal_strconv_numDigits u hu1 hu64 _ (Lib.tabIs_alloc htab _)).mono ?_;rintro e w' ⟨rfl,rfl⟩)
  go_at_call 290
  refine hfmt.mono ?_;rintro e w' ⟨rfl,k,v',dk,rfl,hF⟩
  have hcv:(convert 194 9 (.slice (some ⟨w.heap.size,0,none⟩) (Lib.nDigits u) 24)).run Tryz.prog ((putRow (fun(b:UInt8)=>Value.int .u8 (b.toNat:Int)) (w.alloc (.cells Lib.zeros24 255)) w.heap.size 0 dk).drewN k)= .ok (.string ⟨(Lib.decDigits u).toArray⟩) ((putRow (fun(b:UInt8)=>Value.int .u8 (b.toNat:Int)) (w.alloc (.cells Lib.zeros24 255)) w.heap.size 0 dk).drewN k):=by
   have h:=run_convert_bytes_back (P:=Tryz.prog) ((putRow (fun(b:UInt8)=>Value.int .u8 (b.toNat:Int)) (w.alloc (.cells Lib.zeros24 255)) w.heap.size 0 dk).drewN k) 194 9 5 ⟨w.heap.size,0,none⟩ 24 (Lib.decDigits u) underlying194 underlying5 underlying9 (fun j hj=>by
    rw[Lib.row_is_numeral hF j hj,Lib.add_plain,World.cell?_drewN];exact cell?_putRow (fun(b:UInt8)=>Value.int .u8 (b.toNat:Int)) _ w.heap.size 0 _ dk HH0.out (by rw[hF.size,Array.size_replicate]) j (by rw[hF.size];rw[Lib.decDigits_length]at hj;exact hj))
   rw[Lib.decDigits_length]at h;exact h
  go_wp2
  go_ret
  obtain⟨os,eo⟩:=Lib.fin_at w (.cells Lib.zeros24 255) dk k 0;exact⟨rfl,by rw[eo];exact Lib.below_grow _ w (Nat.le_refl _) k os⟩
theorem iE (u:Nat) (hu64:u<18446744073709551616) (w:World) (htab:Lib.TabIs Tryz.prog w "internal/strconv.uint64pow10" .u64 Lib.pow10Tab):
 Calls Tryz.prog 217 #[.int .u64 u, .int .i64 10] w fun e w'=>e= .returned (.string ⟨(Lib.decDigits u).toArray⟩)/\Below w.heap.size w w':=by
 go_enter func217,ntmps217
 go_wp2_with (go_at_call 268;refine(u5 u hu64 _ htab).mono ?_;rintro e w' ⟨rfl,hb⟩)
 go_ret
 exact⟨rfl,hb⟩
end
end Go.Proofs.YtmkggcjajcdlcaaGreatDoor
