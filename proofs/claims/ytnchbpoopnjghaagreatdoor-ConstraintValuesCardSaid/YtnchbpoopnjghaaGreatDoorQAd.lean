/- times of both packages. times of the reference. slices.Clone at words. Worlds that have only grown; cells held through a region that draws its order. Held cells: printed by gen_held.py. -/
import Derived.Test.YtnchbpoopnjghaaGreatDoorQAc
set_option maxHeartbeats 100000000
set_option linter.all false
open Go.Proofs.Tryz
namespace Go.Proofs.YtnchbpoopnjghaaGreatDoor
open Go.RowKit
theorem vF (x y:Nat) (hx:x<4294967296) (hy:y<4294967296):0<=(x:Int)*(y:Int)/\(x:Int)*(y:Int)<=18446744065119617025:=by
 have h:x*y<=4294967295*4294967295:=Nat.mul_le_mul O_ O_;rw[<- Int.natCast_mul];omega
theorem Ay (A B:Option Addr) (n m c d:Nat) (xs ys:List Nat) (w:World) (hx:bi w A n c xs) (hy:bi w B m d ys) (hn:0<n) (hm:0<m) (hs:n<=4294967296) (hs2:m<=4294967296):
 Calls Tryz.prog 259 #[.slice A n c, .slice B m d] w (js (fun zs=>zs=digs (val xs*val ys)) w):=by
 have hnc:=hx.cap;have hc:=hx.lim;have hmd:=hy.cap;have hd:=hy.lim;obtain⟨b1,o1,rfl,hbb1,hc1⟩:=hx.at hn;obtain⟨b2,o2,rfl,hbb2,hc2⟩:=hy.at hm;have Hc1:=Lib.hid hc1;have Hc2:=Lib.hid hc2;have Hx:=Lib.hid hx;have Hy:=Lib.hid hy;clear hx hy hc1 hc2;have hmk:=eJ (n+m) ((n:Int)+m) O_ O_;have hrow:=dy w (aF (n+m));have hb0:Below w.heap.size w (w.alloc (du (aF (n+m)))):=(Below.refl _ _).alloc (l_ _) _;have Hrow:=Lib.hid hrow;have Hb0:=Lib.hid hb0;clear hrow hb0;have hn0:((n:Int) == 0)=false:=by rw[beq_eq_false_iff_ne];omega
 have hm0:((m:Int) == 0)=false:=by rw[beq_eq_false_iff_ne];omega
 go_enter func259,ntmps259
 go_wp2_with fail
 clear hmk hn0 hm0
 go_loopw [27] (fun i wr=>∃(i':Nat) (zs:List Nat),i'<=n/\i= .int .i64 i'/\(Wd zs/\zs.length=n+m/\(∀j,i'+m<=j->zs.getD j 0=0)/\val zs=val (xs.take i')*val ys)/\eS wr w.heap.size zs/\Below w.heap.size w wr)
  (fun i _=>n-(intOf i).toNat)
 case atStart=>exact⟨0,aF (n+m),Nat.zero_le _,rfl,⟨cH _,aO _,fun j _=>a6 _ _,by simp[val,aF,bv]⟩,Hrow.out,Hb0.out⟩
 case round=>
  obtain⟨i,zs,hi,rfl,hv,hrow,hb⟩:=hrel;have Hv:=Lib.hid hv;have Hb:=Lib.hid hb;have Hr:=Lib.hid hrow;clear hv hb hrow;obtain⟨wo,rfl⟩:∃wo:World,wo=wr:=⟨_,rfl⟩
  by_cases hin:i<n
  ·have hin':(i:Int)<n:=O_
   have hx1:=Hx.out.wd.getD i;have hcx:=(Hb.out.cell (p:=⟨b1,o1+i,none⟩) hbb1).trans (Hc1.out i hin);generalize hxx:xs.getD i 0=x at hcx hx1;have Hxx:=Lib.hid hxx;clear hxx
   go_wp2_with fail
   go_loopw [8,34] (fun cr k wr=>∃(k' cy:Nat) (us:List Nat),k'<=m/\k= .int .i64 k'/\cr= .int .u64 cy/\cy<4294967296 /\
    (Wd us/\us.length=n+m/\(∀j,i+m<=j->us.getD j 0=0)/\val us+4294967296^(i+k')*cy=val (xs.take i)*val ys+4294967296^i*(x*val (ys.take k')))/\eS wr w.heap.size us/\Below w.heap.size w wr)
    (fun _ k _=>m-(intOf k).toNat)
   case atStart=>exact⟨0,0,zs,Nat.zero_le _,rfl,rfl,by omega,⟨Hv.out.1,Hv.out.2.1,Hv.out.2.2.1,by rw[Hv.out.2.2.2];simp[val]⟩,Hr.out,Hb.out⟩
   case round=>
    obtain⟨k,cy,us,hk,rfl,rfl,hcy,hv2,hrow2,hb2⟩:=hrel;have hfr:=fun j=>hrow2.frozen j
    have hfr1:=hfr (i+k);have hfr2:=hfr (i+m);have Hv2:=Lib.hid hv2;have Hb2:=Lib.hid hb2;have Hr2:=Lib.hid hrow2;clear hv2 hb2 hrow2 hfr hcx
    by_cases hkm:k<m
    ·have hkm':(k:Int)<m:=O_
     have hy1:=Hy.out.wd.getD k;have hz1:=Hv2.out.1.getD (i+k);have hcy1:=(Hb2.out.cell (p:=⟨b2,o2+k,none⟩) hbb2).trans (Hc2.out k hkm);have hcz:=Hr2.out.cell (i+k) (by rw[Hv2.out.2.1];omega);generalize hyy:ys.getD k 0=y at hcy1 hy1;generalize hzz:us.getD (i+k) 0=z at hcz hz1;have Hyy:=Lib.hid hyy;have Hzz:=Lib.hid hzz;have hmul:=vF x y hx1 hy1;have hmul1:=hmul.1;have hmul2:=hmul.2;clear hyy hzz hmul hfr2
     go_wp2_with fail
     go_roundw
     case rel=>
      have e:((cy:Int)+((x:Int)*y+z))=((cy+x*y+z:Nat):Int):=by push_cast;omega
      have hmc:=vG hx1 hy1 hz1 hcy;have hst:=pD (by rw[Hv2.out.2.1];omega) Hv2.out.2.2.2;rw[Hyy.out,Hzz.out]at hst;generalize ht:cy+x*y+z=t at e hmc hst;rw[e];have e1:Value.int .u32 ((t:Int)%4294967296)=bZ (t%4294967296):=by unfold bZ;go_num
      rw[e1]
      exact⟨k+1,t/4294967296,us.set (i+k) (t%4294967296),by omega,by go_num,by go_num,hmc.2,
       ⟨dr Hv2.out.1 _ _ O_,by rw[List.length_set];exact Hv2.out.2.1,fun j hj=>by rw[getD_set_ne O_];exact Hv2.out.2.2.1 j hj,hst⟩,Hr2.out.set _ _,Hb2.out.setCell (l_ _) _⟩
     case measure=>simp[intOf];omega
    ·exact S8
  ·obtain rfl:i=n:=O_
   have hin':¬(i:Int)<i:=O_
   have hxt:xs.take i=xs:=K_ (by rw[Hx.out.len];exact l_ _);have hw2:bi wo (some ⟨w.heap.size,0,none⟩) (i+m) (i+m) zs:=Hr.out.wrd' Hv.out.1 Hv.out.2.1 O_;have htr:trim zs=digs (val xs*val ys):=by unfold trim;rw[Hv.out.2.2.2,hxt]
   have hw3:=hw2.trim;rw[htr]at hw3;have Hw2:=Lib.hid hw2;have Hw3:=Lib.hid hw3;have Htr:=Lib.hid htr;clear hxt hw2 htr hw3;exact UP
theorem M7 (A B:Option Addr) (n m c d:Nat) (xs ys:List Nat) (w:World) (hx:bi w A n c xs) (hy:bi w B m d ys) (hs:n<=4294967296) (hs2:m<=4294967296):
 Calls Tryz.prog 259 #[.slice A n c, .slice B m d] w (js (fun zs=>zs=digs (val xs*val ys)) w):=by
 rcases Nat.eq_zero_or_pos n with h|h
 ·have hv:val xs=0:=by rw[E_ (hx.len.trans h)];rfl
  have Hfin:Hid ([]=digs (val xs*val ys)):=by rw[hv,Nat.zero_mul,aK];exact rfl
  clear hv hx hy;subst h;exact U1
 ·rcases Nat.eq_zero_or_pos m with h'|h'
  ·have hv:val ys=0:=by rw[E_ (hy.len.trans h')];rfl
   have Hfin:Hid ([]=digs (val xs*val ys)):=by rw[hv,Nat.mul_zero,aK];exact rfl
   clear hv hx hy;subst h';have hn0:((n:Int) == 0)=false:=by rw[beq_eq_false_iff_ne];omega
   exact U1
  ·exact Ay A B n m c d xs ys w hx hy h h' hs hs2
theorem I7 (A B:Option Addr) (n m c d:Nat) (xs ys:List Nat) (w:World) (hx:bi w A n c xs) (hy:bi w B m d ys) (hs:n<=4294967296) (hs2:m<=4294967296):
 Calls Tryz.prog 278 #[.slice A n c, .slice B m d] w (js (fun zs=>zs=digs (val xs*val ys)) w):=by
 have hnc:=hx.cap;have hc:=hx.lim;have hmd:=hy.cap;have hd:=hy.lim;have Hx:=Lib.hid hx;have Hy:=Lib.hid hy;clear hx hy;have hmk:=eJ (n+m) ((n:Int)+m) O_ O_;have hrow:=dy w (aF (n+m));have hb0:Below w.heap.size w (w.alloc (du (aF (n+m)))):=(Below.refl _ _).alloc (l_ _) _;have Hrow:=Lib.hid hrow;have Hb0:=Lib.hid hb0;clear hrow hb0
 go_enter func278,ntmps278
 go_wp2_with fail
 clear hmk
 go_loopw [6] (fun i wr=>∃(i':Nat) (zs:List Nat),i'<=n/\i= .int .i64 i'/\(Wd zs/\zs.length=n+m/\(∀j,i'+m<=j->zs.getD j 0=0)/\val zs=val (xs.take i')*val ys)/\eS wr w.heap.size zs/\Below w.heap.size w wr)
  (fun i _=>n-(intOf i).toNat)
 case atStart=>exact⟨0,aF (n+m),Nat.zero_le _,rfl,⟨cH _,aO _,fun j _=>a6 _ _,by simp[val,aF,bv]⟩,Hrow.out,Hb0.out⟩
 case round=>
  obtain⟨i,zs,hi,rfl,hv,hrow,hb⟩:=hrel;have Hv:=Lib.hid hv;have Hb:=Lib.hid hb;have Hr:=Lib.hid hrow;clear hv hb hrow;obtain⟨wo,rfl⟩:∃wo:World,wo=wr:=⟨_,rfl⟩
  by_cases hin:i<n
  ·exact Wr
  ·obtain rfl:i=n:=O_
   have hin':¬(i:Int)<i:=O_
   have hxt:xs.take i=xs:=K_ (by rw[Hx.out.len];exact l_ _);have hw2:bi wo (some ⟨w.heap.size,0,none⟩) (i+m) (i+m) zs:=Hr.out.wrd' Hv.out.1 Hv.out.2.1 O_;have htr:trim zs=digs (val xs*val ys):=by unfold trim;rw[Hv.out.2.2.2,hxt]
   have hw3:=hw2.trim;rw[htr]at hw3;have Hw2:=Lib.hid hw2;have Hw3:=Lib.hid hw3;have Htr:=Lib.hid htr;clear hxt hw2 htr hw3;exact UU
theorem s8 {w:World} {B g n c:Nat} {A:Option Addr} {xs:List Nat} (ty:TypeId) (hg:w.heap[g]? =some (.cells #[] 135 (0,0))) (hB:B<=g) (hx:bi w A n c xs) (hs:n<=4294967296):
 ∃A' c' w',(Builtin.append_ #[34,34] ty #[.slice (some ⟨g,0,none⟩) 0 0, .slice A n c]).run Tryz.prog w= .ok (.slice A' n c') w'/\bi w' A' n c' xs/\Below B w w':=by
 obtain⟨i0,hi,hz0,hz1,hz2⟩:=info_parts Tryz.infoU32;have hlt:g<w.heap.size:=(A_.1 hg).1
 have hown:w.ownsRow B 135 1 (.slice (some ⟨g,0,none⟩) 0 0) 0 []:=⟨rfl, .inr ⟨g,0,#[],rfl,hB,hg,l_ _,by simp only[maxLen];omega,rfl,rfl⟩⟩;rcases A with _|ad
 ·have hc0:=hx.isnil rfl
  have hn0:n=0:=by have:=hx.cap;omega
  subst hc0 hn0;have hxs:xs=[]:=E_ hx.len;subst hxs;refine⟨some ⟨g,0,none⟩,0,w,run_append_owned_none (P:=Tryz.prog) w B 34 ty 135 i0 1 underlying34 hi _ 0 [] hown,?_, .refl _ _⟩;exact⟨rfl,l_ _,by omega,Wd.nil, .nil _ _,fun h=>by cases h⟩
 ·have hcells:∀j u,(xs.map bZ)[j]? =some u->w.cell? (ad.add j)=some u:=by
   intro j u hu;rcases hx.cells with h0| ⟨b,off,hA,hc⟩
   ·rw[h0]at hu;simp at hu
   ·obtain rfl:=Option.some.inj hA
    rw[Addr.add_lit];exact hc j u hu
  obtain⟨v',w',hrun,hown',hgr,hnil⟩:=run_append_own (P:=Tryz.prog) w B 34 ty 135 i0 (.int .u32 0) 1 4 underlying34 hi hz0 hz1 hz2 rfl O_ _ 0 [] hown ad n c (xs.map bZ)
   (by rw[j_,hx.len];omega) hcells (by intro u hu;obtain⟨x,_,rfl⟩:=List.mem_map.1 hu;rfl) (by simp only[maxLen];omega) O_ O_
  rw[J_,List.nil_append]at hown';have hbel:Below B w w':=(Below.refl _ _).grown hgr O_ (fun k hk=>by simp[Value.ownBlock]at hk;omega);rcases hown'.2 with⟨rfl,_⟩| ⟨g',cap,cur,rfl,hbg,hgg,hnc,hcm,_⟩
  ·have:=hnil.1 rfl
   simp at this
  ·exact⟨_,_,_,hrun,gQ hown' hx.wd hnc (by simpa only[maxLen]using hcm),hbel⟩
theorem ut {w:World} {B g n c:Nat} {A:Option Addr} {xs:List Nat} {o:Oper} {a:Act} {K:Act->World->Prop} {Q:Exit->Act->World->Prop} (s x:Operand)
 (ho:o.op= .call { callee:= .builtin .append,args:= #[s,x],argTypes:= #[34,34] })
 (hs:a.eval s= .slice (some ⟨g,0,none⟩) 0 0) (hx:a.eval x= .slice A n c) (hg:w.heap[g]? =some (.cells #[] 135 (0,0))) (hB:B<=g) (hw:bi w A n c xs) (hn:n<=4294967296)
 (h:∀A' c' w',bi w' A' n c' xs->Below B w w'->K (a.put o.dst (.slice A' n c')) w'):o.wp Tryz.prog a w K Q:=by
 obtain⟨A',c',w',hrun,h2,h3⟩:=s8 o.type hg hB hw hn;unfold Oper.wp execOp
 simp only[ho,resolve,invoke,builtin,Y_,a_,R_,List.map_toArray,List.map_cons,List.map_nil,hs,hx,hrun]
 exact h A' c' w' h2 h3
theorem nQ {w:World} {B g n c:Nat} {A:Option Addr} {xs:List Nat} {ops:Array Oper} {rest:List Oper} {o:Oper} {a:Act} {Q:Exit->Act->World->Prop} (hgd:o.guard=none) (s x:Operand)
 (ho:o.op= .call { callee:= .builtin .append,args:= #[s,x],argTypes:= #[34,34] })
 (hs:a.eval s= .slice (some ⟨g,0,none⟩) 0 0) (hx:a.eval x= .slice A n c) (hg:w.heap[g]? =some (.cells #[] 135 (0,0))) (hB:B<=g) (hw:bi w A n c xs) (hn:n<=4294967296)
 (h:∀A' c' w',bi w' A' n c' xs->Below B w w'->wpList Tryz.prog ops Q rest (a.put o.dst (.slice A' n c')) w'):wpList Tryz.prog ops Q (o::rest) a w:=
 wpList_plain hgd fun _ hK=>ut s x ho hs hx hg hB hw hn fun A' c' w' h2 h3=>hK _ _ (h A' c' w' h2 h3)
theorem oA (A:Option Addr) (n c:Nat) (xs:List Nat) (w:World) (hx:bi w A n c xs) (hs:n<=4294967296):
 Calls Tryz.prog 236 #[.slice A n c] w (js (fun zs=>zs=xs) w):=by
 obtain⟨i0,hi,hz0,hz1,hz2⟩:=info_parts Tryz.infoU32;have heq:=fun(W:World) (a:Option Addr) (l k:Nat)=>run_eql_slice_nil (P:=Tryz.prog) W 34 135 a l k underlying34
 have Hx:=Lib.hid hx;clear hx;rcases A with _|ad
 ·have hc0:=Hx.out.isnil rfl
  have hn0:n=0:=by have:=Hx.out.cap;omega
  have hxs:[]=xs:=(E_ (Hx.out.len.trans hn0)).symm;have Hxs:=Lib.hid hxs;clear hxs;subst hc0 hn0
  go_enter func236,ntmps236
  go_wp2_with fail
  go_ret
  exact⟨_,_,_,[],rfl, .nil _,Hxs.out, .refl _ _⟩
 ·go_enter func236,ntmps236
  go_wp2_with (at_builtin;refine nQ rfl _ _ rfl rfl rfl (heap_alloc_new w _) (l_ _) (Hx.out.alloc _) hs ?_;intro A' c' w1 hw1 hb1)
  go_ret
  exact⟨_,_,_,xs,rfl,hw1,rfl,((Below.refl _ _).alloc (l_ _) _).trans hb1⟩
section
attribute [local go_sem ↓] Go.wp_at_zero Go.wp_at_succ
def f9 (W w:World):Prop:=Below W.heap.size W w
theorem f9.refl (W:World):f9 W W:=Below.refl _ _
theorem f9.more {W w w':World} (h:f9 W w) (hb:Below w.heap.size w w'):f9 W w':=Below.trans h (hb.mono h.size)
theorem f9.drew {W w:World} (h:f9 W w):f9 W w.drew:=Below.drew h
theorem kc {w w':World} {p:Addr} {v:Value} (h:w.cell? p=some v) (hb:Below w.heap.size w w'):w'.cell? p=some v:=
 (hb.cell (World.block_lt_of_cell? w p h)).trans h
theorem Vl {w w':World} {p:Addr} {v:Value} (h:w.cell? p=some v) (hb:f9 w w'):w'.cell? p=some v:=kc h hb
theorem bi.ext {W w:World} {A:Option Addr} {n c:Nat} {xs:List Nat} (h:bi W A n c xs) (hb:f9 W w):bi w A n c xs:=h.below hb
theorem f9.alloc {W w:World} (h:f9 W w) (o:Obj):f9 W (w.alloc o):=Below.alloc h h.size o
theorem f9.trans {a b c:World} (h:f9 a b) (k:f9 b c):f9 a c:=f9.more h k
end
end Go.Proofs.YtnchbpoopnjghaaGreatDoor
