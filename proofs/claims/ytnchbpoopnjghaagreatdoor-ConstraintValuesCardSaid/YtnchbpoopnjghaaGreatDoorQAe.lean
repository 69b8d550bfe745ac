/- Mul of the program. Norm and Neg of both packages. Mul of the reference. Integers out of machine numbers. short of the reference: the number of at most two words. slices.Backward over words, and toUint of the program, which ranges over it. -/
import Derived.Test.YtnchbpoopnjghaaGreatDoorQAd
set_option maxHeartbeats 100000000
set_option linter.all false
open Go.Proofs.Tryz
namespace Go.Proofs.YtnchbpoopnjghaaGreatDoor
open Go.RowKit
section
attribute [local go_sem ↓] Go.wp_at_zero Go.wp_at_succ
theorem B9 {neg:Bool} {A:Option Addr} {n c:Nat} {xs:List Nat} {w:World} {z:Int} (h:bi w A n c xs) (hz:bI neg xs=z):Calls Tryz.prog 232 #[.bool neg, .slice A n c] w (tu z w):=hz ▸ J9 neg A n c xs w h
theorem yv {neg:Bool} {A:Option Addr} {n c:Nat} {xs:List Nat} {w:World} {z:Int} (h:bi w A n c xs) (hz:bI neg xs=z):Calls Tryz.prog 122 #[.bool neg, .slice A n c] w (tu z w):=hz ▸ Gt neg A n c xs w h
theorem NK (na nb:Bool) (xs ys zs:List Nat) (h:val zs=val xs*val ys):bI (!(na == nb)) zs=bI na xs*bI nb ys:=by
 unfold bI;rw[h];cases na<;>cases nb<;>simp[Int.neg_mul,Int.mul_neg]
end
section
attribute [local go_sem ↓] Go.wp_at_zero Go.wp_at_succ
theorem E4 (za zb:Int):bI (!(decide (za<0) == decide (zb<0))) (digs (val (digs za.natAbs)*val (digs zb.natAbs)))=za*zb:=by
 rw[ah,ah]
 have key:∀x:Int,(if decide (x<0)then -(x.natAbs:Int)else(x.natAbs:Int))=x:=by
  intro x
  by_cases h:x<0<;>simp[h]<;>omega
 have h1:=key za;have h2:=key zb;generalize decide (za<0)=p at *;generalize decide (zb<0)=q at *;generalize za.natAbs=a at *;generalize zb.natAbs=b at *;rw[<- h1,<- h2];unfold bI;rw[ah];cases p<;>cases q<;>simp[Int.neg_mul,Int.mul_neg]
end
theorem D5 (n:Nat):val [n%4294967296,n/4294967296]=n:=by
 simp only[val]
 omega
theorem G6 (n:Nat) (h:n<18446744073709551616):Wd [n%4294967296,n/4294967296]:=
 Wd.cons O_ (Wd.cons O_ Wd.nil)
theorem jg (n:Nat) (h:n<18446744073709551616) (w:World):Calls Tryz.prog 233 #[.int .u64 (n:Int)] w (js (fun zs=>zs=digs n) w):=by
 have hr:eS (w.alloc (.cells #[.int .u32 ((n:Int)%4294967296), .int .u32 ((n:Int)/4294967296)] 135)) w.heap.size [n%4294967296,n/4294967296]:=by
  exact UT
 have hw:=hr.wrd' (n:=2) (G6 n h) rfl O_;have htr:trim [n%4294967296,n/4294967296]=digs n:=by unfold trim;rw[D5 n]
 have hw3:=hw.trim;rw[htr]at hw3;have hb:Below w.heap.size w (w.alloc (.cells #[.int .u32 ((n:Int)%4294967296), .int .u32 ((n:Int)/4294967296)] 135)):=(Below.refl _ _).alloc (l_ _) _;have Hw:=Lib.hid hw;have Htr:=Lib.hid htr;have Hw3:=Lib.hid hw3;have Hb:=Lib.hid hb;clear hr hw htr hw3 hb;have e1:(n:Int)/4294967296%4294967296=(n:Int)/4294967296:=O_
 have h0:(0:Int)<=n:=O_
 have h1:(n:Int)<18446744073709551616:=O_
 go_enter func233,ntmps233
 go_wp2_with (go_at_call 194;(with_reducible refine(gi _ _ _ _ _ Hw.out).mono ?_);rw[Htr.out];rintro e w' ⟨rfl,rfl⟩)
 exact M3
theorem n6 (n:Nat) (h:n<18446744073709551616) (w:World):Calls Tryz.prog 123 #[.int .u64 (n:Int)] w (js (fun zs=>zs=digs n) w):=by
 have hr:eS (w.alloc (.cells #[.int .u32 ((n:Int)%4294967296), .int .u32 ((n:Int)/4294967296)] 135)) w.heap.size [n%4294967296,n/4294967296]:=by
  exact UT
 have hw:=hr.wrd' (n:=2) (G6 n h) rfl O_;have htr:trim [n%4294967296,n/4294967296]=digs n:=by unfold trim;rw[D5 n]
 have hw3:=hw.trim;rw[htr]at hw3;have hb:Below w.heap.size w (w.alloc (.cells #[.int .u32 ((n:Int)%4294967296), .int .u32 ((n:Int)/4294967296)] 135)):=(Below.refl _ _).alloc (l_ _) _;have Hw:=Lib.hid hw;have Htr:=Lib.hid htr;have Hw3:=Lib.hid hw3;have Hb:=Lib.hid hb;clear hr hw htr hw3 hb;have e1:(n:Int)/4294967296%4294967296=(n:Int)/4294967296:=O_
 have h0:(0:Int)<=n:=O_
 have h1:(n:Int)<18446744073709551616:=O_
 go_enter func123,ntmps123
 go_wp2_with (go_at_call 172;(with_reducible refine(dz _ _ _ _ _ Hw.out).mono ?_);rw[Htr.out];rintro e w' ⟨rfl,rfl⟩)
 exact M3
theorem ij (a x:Nat) (ha:a<4294967296) (hx:x<4294967296):bits BinOp.or IntKind.u64 ((a:Int)*4294967296) (x:Int)=((a*4294967296+x:Nat):Int):=by
 have e:(a:Int)*4294967296=((a*4294967296:Nat):Int):=O_
 rw[e,u64_or_nat _ _ O_ O_]
 congr 1
 have h:=Nat.shiftLeft_add_eq_or_of_lt (i:=32) (b:=x) (Nat.lt_of_lt_of_eq hx D_) a;rw[Nat.shiftLeft_eq]at h;exact h.symm
theorem zL (A:Option Addr) (n c:Nat) (xs:List Nat) (w:World) (hx:bi w A n c xs) (hn:n<=2):
 Calls Tryz.prog 306 #[.slice A n c] w fun e w'=>e= .returned (.int .u64 (val xs))/\w=w':=by
 have Hx:=Lib.hid hx;clear hx
 go_enter func306,ntmps306
 go_wp2
 go_loop [3,4] (fun a i=>∃(k acc:Nat),k<=n/\i= .int .i64 ((k:Int)-1)/\a= .int .u64 acc/\acc=val (xs.drop k)/\acc<4294967296^(n-k)) (fun _ i=>(intOf i+1).toNat)
 case atStart=>exact⟨n,0,l_ _,rfl,rfl,by rw[List.drop_of_length_le (by rw[Hx.out.len];exact l_ _)];rfl,Nat.pow_pos O_⟩
 case round=>
  obtain⟨k,acc,hk,rfl,rfl,ha,hab⟩:=hrel
  by_cases h0:0<k
  ·obtain⟨b1,o1,rfl,_,hc1⟩:=Hx.out.at O_
   have hc1:=hc1 (k-1) O_;have g1:(0:Int)<=(k:Int)-1:=O_
   have g2:(k:Int)-1<n:=O_
   have hx1:=Hx.out.wd.getD (k-1);generalize hxx:xs.getD (k-1) 0=x at hc1 hx1
   have hacc:acc<4294967296:=by
    have:4294967296^(n-k)<=4294967296^1:=Nat.pow_le_pow_right O_ O_;omega
   have Hxx:=Lib.hid hxx;have Ha:=Lib.hid ha;have Hab:=Lib.hid hab;clear hxx ha hab
   go_wp2
   go_round
   case rel=>
    rw[ij acc x hacc hx1];refine⟨k-1,acc*4294967296+x,by omega,by go_num,rfl,?_,?_⟩
    ·rw[cg xs k h0 (by rw[Hx.out.len];exact hk),Hxx.out];simp only[val];rw[<- Ha.out];omega
    ·have e:n-(k-1)=(n-k)+1:=O_
     rw[e,bh];have:=Hab.out;omega
   case measure=>simp[intOf];omega
  ·have hk0:k=0:=O_
   subst hk0;have Ha:=Lib.hid ha;clear ha hab
   go_wp2
   go_ret
   exact⟨by rw[show val xs=acc from Ha.out.symm];rfl,rfl⟩
section
open Go.RowKit Go.Shelf
attribute [local go_sem] Oper.semAt_some
def upto {α:Type} (f:Nat->α) (k:Nat):List α:=(List.range k).map f
theorem oK {α:Type} (f:Nat->α) (k:Nat):upto f (k+1)=upto f k++[f k]:=by simp[upto,List.range_succ]
theorem pM {α:Type} (f:Nat->α) (k:Nat):(upto f k).length=k:=by simp[upto]
def dH (xs:List Nat) (j:Nat):Nat × Nat:=(xs.length-1-j,xs.getD (xs.length-1-j) 0)
abbrev Js (x:Nat × Nat):Array Value:= #[.int .i64 (x.1:Int),bZ (x.2%4294967296)]
def KB (n₀ Bs:Nat) (A B:World):Prop:=Below n₀ A B/\B.heap[Bs]? =A.heap[Bs]?
theorem KB.refl (n₀ Bs:Nat) (A:World):KB n₀ Bs A A:=⟨Below.refl _ _,rfl⟩
theorem KB.trans {n₀ Bs:Nat} {A B C:World} (h:KB n₀ Bs A B) (k:KB n₀ Bs B C):KB n₀ Bs A C:=⟨h.1.trans k.1,k.2.trans h.2⟩
theorem KB.put {n₀ Bs:Nat} {w:World} (hn:n₀<=w.heap.size) (hB:Bs<w.heap.size) (W:World) (l:Nat) (o o':Obj) (hl:w.heap.size<=l) (h:W.heap[l]? =some o) (h1:o.isCells=false) (h2:o.isWalk=false):KB n₀ Bs W (W.putObj l o'):=
 ⟨belowK_b hn W l o o' hl h h1 h2,World.putObj_heap_other O_⟩
theorem KB.cell {n₀ Bs:Nat} {A B:World} (h:KB n₀ Bs A B) (i:Nat):B.cell? ⟨Bs,i,none⟩=A.cell? ⟨Bs,i,none⟩:=World.cell?_of_block (a:=⟨Bs,i,none⟩) h.2
set_option maxRecDepth 100000 in
theorem GY (F:Fence) (n:Nat) (h8:F.fn 286) (hro:F.round=none) (hn:1<=n) (l Bs:Nat) (A:Option Addr) (len cap:Nat) (xs:List Nat) (w:World) (hx:bi w A len cap xs) (J Jx:List (Nat × Nat)->World->Prop)
 (hY:∀pre x W,J pre W->pre.length<len->YieldAt F (n-1) Tryz.prog l (Js x) W fun e W'=>
  (e= .returned (.bool true)/\J (pre++[x]) W'/\KB w.heap.size Bs W W')∨(e= .returned (.bool false)/\Jx (pre++[x]) W'))
 (W:World) (hbW:f9 w W) (hBs:W.cell? ⟨Bs,0,none⟩=some (.slice A len cap)) (h0:J [] W):
 CallsIn F n Tryz.prog 286 #[.func (.yield l) #[] #[], .pointer (some ⟨Bs,0,none⟩)] W fun e W'=>(∃v,e= .returned v) /\
  ((∃ys,ys=upto (dH xs) len/\J ys W')∨(∃pre,True/\Jx pre W')):=by
 have hcap:=hx.cap;have hlim:=hx.lim;have hlen:=hx.len;have hwd:=hx.wd;have Hx:=Lib.hid hx;have Hlen:=Lib.hid hlen;have Hwd:=Lib.hid hwd;clear hx hlen hwd;refine callsIn_of_wp func286 rfl h8 ?_ hro
 simp only[ntmps286,List.size_toArray,List.length_cons,List.length_nil,Nat.reduceAdd,Nat.reduceSub,Array.replicate_succ,Array.replicate_zero,List.push_toArray,List.append_toArray,List.nil_append,List.cons_append]
 gi_wp2
 gi_loopw [3] (fun i wr=>∃k:Nat,k<=len/\i= .int .i64 ((len:Int)-1-k)/\J (upto (dH xs) k) wr/\KB w.heap.size Bs W wr)
  (fun i _=>(intOf i+1).toNat)
 case atStart=>exact⟨0,Nat.zero_le _,by go_num,h0,KB.refl _ _ _⟩
 case round=>
  obtain⟨k,hk,rfl,hJs,hnx⟩:=hrel;have hcs:=(hnx.cell 0).trans hBs
  by_cases hlt:k<len
  ·obtain⟨b,off,rfl,hb,hc⟩:=Hx.out.at O_
   have hcx:=(hnx.1.cell (p:=⟨b,off+(len-1-k),none⟩) hb).trans ((hbW.cell (p:=⟨b,off+(len-1-k),none⟩) hb).trans (hc (len-1-k) O_));obtain⟨fn,tmps,assign,body,hy,hR⟩:=hY _ (dH xs k) wr hJs (by rw[pM];exact hlt);have e1:dH xs k=(len-1-k,xs.getD (len-1-k) 0):=by unfold dH;rw[Hlen.out]
   rw[e1]at hy;have e2:((len-1-k:Nat):Int)=(len:Int)-1-k:=O_
   dsimp only[Js]at hy;rw[e2]at hy;obtain⟨x,hxx⟩:∃x,x=xs.getD (len-1-k) 0:=⟨_,rfl⟩;rw[<- hxx]at hy hcx;rw[Nat.mod_eq_of_lt (by rw[hxx];exact Hwd.out.getD _)]at hy;have g1:(0:Int)<=(len:Int)-1-k:=O_
   have g2:(len:Int)-1-k<len:=O_
   have g3:((len:Int)-1-k).toNat=len-1-k:=O_
   clear e1 e2 hc;have Hxx:=Lib.hid hxx;clear hxx
   gi_wp2
   refine hR.mono ?_;rintro e W3 (⟨rfl,hJ3,hk3⟩| ⟨rfl,hJx3⟩)
   ·gi_wp2
    go_roundw
    case rel=>exact⟨k+1,by omega,by go_num,by rw[oK];exact hJ3,hnx.trans hk3⟩
    case measure=>simp[intOf];omega
   ·gi_wp2
    refine bodyPost_ret (results_none rfl _ _ _) rfl ?_;exact⟨⟨_,rfl⟩, .inr ⟨_,trivial,hJx3⟩⟩
  ·obtain rfl:k=len:=O_
   have g1:¬((k:Int)<=(k:Int)-1):=O_
   gi_wp2
   go_end0
   first|exact⟨⟨_,rfl⟩, .inl ⟨_,rfl,hJs⟩⟩|exact⟨⟨_,rfl⟩, .inl hJs⟩
theorem j6 (F:Fence) (n:Nat) (h5:F.fn 238) (hro:F.round=none) (a:Option Addr) (len cap:Nat) (w:World):
 CallsIn F n Tryz.prog 238 #[.slice a len cap] w fun e w'=>e= .returned (.func (.func 286) #[] #[.pointer (some ⟨w.heap.size,0,none⟩)])/\w'=w.alloc (.cells #[.slice a len cap] 34):=by
 refine callsIn_of_wp func238 rfl h5 ?_ hro
 simp only[ntmps238,List.size_toArray,List.length_cons,List.length_nil,Nat.reduceAdd,Nat.reduceSub,Array.replicate_succ,Array.replicate_zero,List.push_toArray,List.append_toArray,List.nil_append,List.cons_append]
 gi_wp2
 go_ret
 exact⟨rfl,rfl⟩
theorem Cj (F:Fence) (n:Nat) (h8:F.fn 286) (hro:F.round=none) (hn:1<=n) (Bs:Nat) (A:Option Addr) (len cap:Nat) (xs:List Nat) (w0 w:World) (hx:bi w0 A len cap xs) (h0:f9 w0 w) (hBs:Bs<w.heap.size) (hc:w.cell? ⟨Bs,0,none⟩=some (.slice A len cap)):
 SeqStopsK F n Tryz.prog 286 #[.pointer (some ⟨Bs,0,none⟩)] Js (KB w0.heap.size Bs) (fun ys=>ys=upto (dH xs) len) (fun _=>True) len w:=fun l J Jx W hW _ _ hY hJ0=>
 GY F n h8 hro hn l Bs A len cap xs w0 hx J Jx hY W (h0.more hW) ((hW.cell (p:=⟨Bs,0,none⟩) hBs).trans hc) hJ0
def xk (l:List (Nat × Nat)):Nat:=l.foldl (fun a p=>a*4294967296+p.2%4294967296) 0
theorem vk (l:List (Nat × Nat)) (p:Nat × Nat):xk (l++[p])=xk l*4294967296+p.2%4294967296:=by unfold xk;simp
theorem J0 (l:List (Nat × Nat)) (h:l.length<2):xk l<4294967296:=by
 match l,h with
 | [],_=>simp[xk]
 | [p],_=>simp[xk];omega
theorem Fb {xs:List Nat} (hw:Wd xs) (k:Nat) (hk:k<=xs.length):xk (upto (dH xs) k)=val (xs.drop (xs.length-k)):=by
 induction k with
 |zero=>rw[Nat.sub_zero,List.drop_of_length_le (l_ _)];rfl
 |succ k ih=>
  rw[oK,vk,ih O_];have h:=cg xs (xs.length-k) O_ O_;rw[show xs.length-(k+1)=xs.length-k-1 by omega,h]
  simp only[val]
  have e:(dH xs k).2=xs.getD (xs.length-k-1) 0:=by
   unfold dH;dsimp only;rw[show xs.length-1-k=xs.length-k-1 by omega]
  rw[e,Nat.mod_eq_of_lt (hw.getD _)];omega
set_option maxRecDepth 100000 in
theorem Fz (F:Fence) (n:Nat) (h3:F.fn 283) (h5:F.fn 238) (h7:F.fn 286) (hro:F.round=none) (hn:3<=n) (A:Option Addr) (len cap:Nat) (xs:List Nat) (w:World) (hx:bi w A len cap xs) (hl2:len<=2):
 CallsIn F n Tryz.prog 283 #[.slice A len cap] w fun e W'=>e= .returned (.int .u64 (val xs:Int))/\Below w.heap.size w W':=by
 have h1:1<=n:=O_
 have hlen:=hx.len;have hwd:=hx.wd;have Hx:=Lib.hid hx;have Hlen:=Lib.hid hlen;have Hwd:=Lib.hid hwd;clear hx hlen hwd;refine callsIn_of_wp_marks func283 rfl h3 ?_ hro
 simp only[ntmps283,List.size_toArray,List.length_cons,List.length_nil,Nat.reduceAdd,Nat.reduceSub,Array.replicate_succ,Array.replicate_zero,List.push_toArray,List.append_toArray,List.nil_append,List.cons_append]
 gi_wp2_with (gi_at_call 238;refine(j6 F (n-1) h5 hro _ _ _ _).mono ?_;rintro e w' ⟨rfl,rfl⟩)
 have bS:=Boxed.new w 169 (.int .u64 0);have bN:=Boxed.new (w.alloc (.cells #[.int .u64 0] 169)) 34 (.slice A len cap);rw[World.size_alloc]at bN;have hB0:Below w.heap.size w ((w.alloc (.cells #[.int .u64 0] 169)).alloc (.cells #[.slice A len cap] 34)):=((Below.refl _ w).alloc (l_ _) _).alloc S_ _
 refine wpIn_rangeFunc_ownG hro h1 (gf:=286) (lb:= #[.pointer (some ⟨w.heap.size+1,0,none⟩)]) rfl h7 (enters_of func286 (by kernel_rfl) rfl)
  (Cj F (n-1) h7 hro O_ (w.heap.size+1) A len cap xs w _ Hx.out hB0 S_ bN.cell) (fun h k=>KB.trans h k) (KB.put (by simp;omega) S_) (Below.refl _ _) (fun _=>rfl)
  (fun pre W=>(W.cell? ⟨w.heap.size,0,none⟩=some (.int .u64 (xk pre:Int))/\W.frozen? ⟨w.heap.size,0,none⟩=false)/\Below w.heap.size w W)
  (fun _ _ _=>False)
  (OwnFrom.and (Own.from (fun s A B row hs hg hr=>⟨cell_kept hs.1 hg hr,(frozen_kept hs.1 hg hr).trans hs.2⟩) _) (ownFrom_below (l_ _) (by simp;omega)))
  (fun _ _ _ _ _ hs _ _=>hs)
  ⟨⟨(bS.alloc (.cells #[.slice A len cap] 34)).cell,(bS.alloc _).frozen⟩,hB0⟩
  (fun x=>{ tmps:= #[.slice A len cap,undef, .int .u64 0, .pointer (some ⟨w.heap.size,0,none⟩),undef,bZ (x.2%4294967296), .slice A len cap, .func (.func 286) #[] #[.pointer (some ⟨w.heap.size+1,0,none⟩)], .int .i64 (x.1:Int),bZ (x.2%4294967296),undef,undef,undef,undef,undef,undef],defers:=[] }) ?assign ?body ?done ?stop
 case assign=>
  intro l x W K hK
  gi_wp2
  exact hK
 case body=>
  rintro l pre x W ⟨⟨hc,hf⟩,hB⟩ hlt;have ha:=J0 pre O_;have hb:x.2%4294967296<4294967296:=Nat.mod_lt _ D_
  have hs:=vk pre x;generalize x.2%4294967296=y at *;generalize xk pre=a at *;have Hs:=Lib.hid hs;clear hs
  gi_wp2
  exact⟨(KeepsOthers.setCell _ _ _).from _,⟨(Below.refl w.heap.size W).setCell (p:=⟨w.heap.size,0,none⟩) (l_ _) _,Below.heap_setCell _ _ _ _ S_⟩,⟨by rw[World.cell?_setCell_same' _ _ _ (by rw[hc];rfl),ij a y ha hb,Hs.out],by rw[World.frozen?_setCell];exact hf⟩,hB.setCell (p:=⟨w.heap.size,0,none⟩) (l_ _) _⟩
 case done=>
  rintro D ys W hD rfl ⟨⟨hc,_⟩,hB⟩ hK;have he:=Fb Hwd.out len (by rw[Hlen.out];exact l_ _);rw[Hlen.out,Nat.sub_self,List.drop_zero]at he
  gi_wp2
  refine⟨by simp, .inl ⟨_,_,rfl,run_takeDeferred hK,?_⟩⟩;refine⟨_,results_tmp rfl _ _ _,?_,?_⟩
  ·rfl
  ·exact hB.trans (belowK_b (w:=w) (l_ _) W D _ _ (by simp at hD;omega) hK rfl rfl)
 case stop=>
  rintro D c pre W _ _ h _;exact h.elim
theorem sA (A:Option Addr) (len cap:Nat) (xs:List Nat) (w:World) (hx:bi w A len cap xs) (hl2:len<=2):
 Calls Tryz.prog 283 #[.slice A len cap] w fun e W'=>e= .returned (.int .u64 (val xs:Int))/\Below w.heap.size w W':=
 callsIn_wide.1 (Fz Fence.wide 3 trivial trivial trivial rfl (l_ _) A len cap xs w hx hl2)
end
end Go.Proofs.YtnchbpoopnjghaaGreatDoor
