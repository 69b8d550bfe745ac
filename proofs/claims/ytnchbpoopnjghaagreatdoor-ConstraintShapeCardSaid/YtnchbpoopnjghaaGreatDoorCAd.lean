/- times of both packages. times of the reference. slices.Clone at words. Worlds that have only grown; cells held through a region that draws its order. Held cells: printed by gen_held.py. -/
import Derived.Test.YtnchbpoopnjghaaGreatDoorCAc
set_option maxHeartbeats 100000000
set_option maxRecDepth 100000
set_option linter.all false
open Go.Proofs.Tryz
namespace Go.Proofs.YtnchbpoopnjghaaGreatDoor
open Go.RowKit
theorem Ek (x y:Nat) (hx:x<4294967296) (hy:y<4294967296):0<=(x:Int)*(y:Int)/\(x:Int)*(y:Int)<=18446744065119617025:=by
 have h:x*y<=4294967295*4294967295:=Nat.mul_le_mul (by omega) (by omega);rw[<- Int.natCast_mul];omega
theorem xu (A B:Option Addr) (n m c d:Nat) (xs ys:List Nat) (w:World) (hx:bc w A n c xs) (hy:bc w B m d ys) (hn:0<n) (hm:0<m) (hs:n<=4294967296) (hs2:m<=4294967296):
 Calls Tryz.prog 259 #[.slice A n c, .slice B m d] w (qo (fun zs=>zs=digs (val xs*val ys)) w):=by
 have hnc:=hx.cap;have hc:=hx.lim;have hmd:=hy.cap;have hd:=hy.lim;obtain⟨b1,o1,rfl,hbb1,hc1⟩:=hx.at hn;obtain⟨b2,o2,rfl,hbb2,hc2⟩:=hy.at hm;have Hc1:=Lib.hid hc1;have Hc2:=Lib.hid hc2;have Hx:=Lib.hid hx;have Hy:=Lib.hid hy;clear hx hy hc1 hc2;have hmk:=nI (n+m) ((n:Int)+m) (by omega) (by omega);have hrow:=ki w (bV (n+m));have hb0:Below w.heap.size w (w.alloc (ia (bV (n+m)))):=(Below.refl _ _).alloc (Nat.le_refl _) _;have Hrow:=Lib.hid hrow;have Hb0:=Lib.hid hb0;clear hrow hb0;have hn0:((n:Int) == 0)=false:=by rw[beq_eq_false_iff_ne];omega
 have hm0:((m:Int) == 0)=false:=by rw[beq_eq_false_iff_ne];omega
 go_enter func259,ntmps259
 go_wp2_with fail
 clear hmk hn0 hm0
 go_loopw [27] (fun i wr=>∃(i':Nat) (zs:List Nat),i'<=n/\i= .int .i64 i'/\(Wd zs/\zs.length=n+m/\(∀j,i'+m<=j->zs.getD j 0=0)/\val zs=val (xs.take i')*val ys)/\fL wr w.heap.size zs/\Below w.heap.size w wr)
  (fun i _=>n-(intOf i).toNat)
 case atStart=>exact⟨0,bV (n+m),Nat.zero_le _,rfl,⟨iE _,bX _,fun j _=>dy _ _,by simp[val,bV,fw]⟩,Hrow.out,Hb0.out⟩
 case round=>
  obtain⟨i,zs,hi,rfl,hv,hrow,hb⟩:=hrel;have Hv:=Lib.hid hv;have Hb:=Lib.hid hb;have Hr:=Lib.hid hrow;clear hv hb hrow;obtain⟨wo,rfl⟩:∃wo:World,wo=wr:=⟨_,rfl⟩
  by_cases hin:i<n
  ·have hin':(i:Int)<n:=by omega
   have hx1:=Hx.out.wd.getD i;have hcx:=(Hb.out.cell (p:=⟨b1,o1+i,none⟩) hbb1).trans (Hc1.out i hin);generalize hxx:xs.getD i 0=x at hcx hx1;have Hxx:=Lib.hid hxx;clear hxx
   go_wp2_with fail
   go_loopw [8,34] (fun cr k wr=>∃(k' cy:Nat) (us:List Nat),k'<=m/\k= .int .i64 k'/\cr= .int .u64 cy/\cy<4294967296 /\
    (Wd us/\us.length=n+m/\(∀j,i+m<=j->us.getD j 0=0)/\val us+4294967296^(i+k')*cy=val (xs.take i)*val ys+4294967296^i*(x*val (ys.take k')))/\fL wr w.heap.size us/\Below w.heap.size w wr)
    (fun _ k _=>m-(intOf k).toNat)
   case atStart=>exact⟨0,0,zs,Nat.zero_le _,rfl,rfl,by omega,⟨Hv.out.1,Hv.out.2.1,Hv.out.2.2.1,by rw[Hv.out.2.2.2];simp[val]⟩,Hr.out,Hb.out⟩
   case round=>
    obtain⟨k,cy,us,hk,rfl,rfl,hcy,hv2,hrow2,hb2⟩:=hrel;have hfr:=fun j=>hrow2.frozen j
    have hfr1:=hfr (i+k);have hfr2:=hfr (i+m);have Hv2:=Lib.hid hv2;have Hb2:=Lib.hid hb2;have Hr2:=Lib.hid hrow2;clear hv2 hb2 hrow2 hfr hcx
    by_cases hkm:k<m
    ·have hkm':(k:Int)<m:=by omega
     have hy1:=Hy.out.wd.getD k;have hz1:=Hv2.out.1.getD (i+k);have hcy1:=(Hb2.out.cell (p:=⟨b2,o2+k,none⟩) hbb2).trans (Hc2.out k hkm);have hcz:=Hr2.out.cell (i+k) (by rw[Hv2.out.2.1];omega);generalize hyy:ys.getD k 0=y at hcy1 hy1;generalize hzz:us.getD (i+k) 0=z at hcz hz1;have Hyy:=Lib.hid hyy;have Hzz:=Lib.hid hzz;have hmul:=Ek x y hx1 hy1;have hmul1:=hmul.1;have hmul2:=hmul.2;clear hyy hzz hmul hfr2
     go_wp2_with fail
     go_roundw
     case rel=>
      have e:((cy:Int)+((x:Int)*y+z))=((cy+x*y+z:Nat):Int):=by push_cast;omega
      have hmc:=C1 hx1 hy1 hz1 hcy;have hst:=wt (by rw[Hv2.out.2.1];omega) Hv2.out.2.2.2;rw[Hyy.out,Hzz.out]at hst;generalize ht:cy+x*y+z=t at e hmc hst;rw[e];have e1:Value.int .u32 ((t:Int)%4294967296)=bU (t%4294967296):=by unfold bU;go_num
      rw[e1]
      exact⟨k+1,t/4294967296,us.set (i+k) (t%4294967296),by omega,by go_num,by go_num,hmc.2,
       ⟨ej Hv2.out.1 _ _ (by omega),by rw[List.length_set];exact Hv2.out.2.1,fun j hj=>by rw[getD_set_ne (by omega)];exact Hv2.out.2.2.1 j hj,hst⟩,Hr2.out.set _ _,Hb2.out.setCell (Nat.le_refl _) _⟩
     case measure=>simp[intOf];omega
    ·obtain rfl:k=m:=by omega
     have hkm':¬(k:Int)<k:=by omega
     have hcz:=Hr2.out.cell (i+k) (by rw[Hv2.out.2.1];omega);clear hfr1
     go_wp2_with fail
     go_roundw
     case rel=>
      have e1:Value.int .u32 ((cy:Int)%4294967296)=bU cy:=by unfold bU;go_num
      have e2:Value.int .u32 (cy:Int)=bU cy:=rfl
      first|rw[e1]|rw[e2]
      have hst:=wC (xs:=xs) (ys:=ys) (zs:=us) (i:=i) (c:=cy) (by rw[Hv2.out.2.1,Hy.out.len];omega) (by rw[Hy.out.len];exact Hv2.out.2.2.1 _ (by omega)) (by rw[Hy.out.len,Hxx.out];exact Hv2.out.2.2.2);rw[Hy.out.len]at hst
      exact⟨i+1,us.set (i+k) cy,by omega,by go_num,
       ⟨ej Hv2.out.1 _ _ hcy,by rw[List.length_set];exact Hv2.out.2.1,fun j hj=>by rw[getD_set_ne (by omega)];exact Hv2.out.2.2.1 j (by omega),hst⟩,Hr2.out.set _ _,Hb2.out.setCell (Nat.le_refl _) _⟩
     case measure=>simp[intOf];omega
  ·obtain rfl:i=n:=by omega
   have hin':¬(i:Int)<i:=by omega
   have hxt:xs.take i=xs:=List.take_of_length_le (by rw[Hx.out.len];exact Nat.le_refl _);have hw2:bc wo (some ⟨w.heap.size,0,none⟩) (i+m) (i+m) zs:=Hr.out.wrd' Hv.out.1 Hv.out.2.1 (by omega);have htr:trim zs=digs (val xs*val ys):=by unfold trim;rw[Hv.out.2.2.2,hxt]
   have hw3:=hw2.trim;rw[htr]at hw3;have Hw2:=Lib.hid hw2;have Hw3:=Lib.hid hw3;have Htr:=Lib.hid htr;clear hxt hw2 htr hw3;exact P8
theorem JL (A B:Option Addr) (n m c d:Nat) (xs ys:List Nat) (w:World) (hx:bc w A n c xs) (hy:bc w B m d ys) (hs:n<=4294967296) (hs2:m<=4294967296):
 Calls Tryz.prog 259 #[.slice A n c, .slice B m d] w (qo (fun zs=>zs=digs (val xs*val ys)) w):=by
 rcases Nat.eq_zero_or_pos n with h|h
 ·have hv:val xs=0:=by rw[List.eq_nil_of_length_eq_zero (hx.len.trans h)];rfl
  have Hfin:Hid ([]=digs (val xs*val ys)):=by rw[hv,Nat.zero_mul,ay];exact rfl
  clear hv hx hy;subst h;exact Qz
 ·rcases Nat.eq_zero_or_pos m with h'|h'
  ·have hv:val ys=0:=by rw[List.eq_nil_of_length_eq_zero (hy.len.trans h')];rfl
   have Hfin:Hid ([]=digs (val xs*val ys)):=by rw[hv,Nat.mul_zero,ay];exact rfl
   clear hv hx hy;subst h';have hn0:((n:Int) == 0)=false:=by rw[beq_eq_false_iff_ne];omega
   exact Qz
  ·exact xu A B n m c d xs ys w hx hy h h' hs hs2
theorem pM {w:World} {B g n c:Nat} {A:Option Addr} {xs:List Nat} (ty:TypeId) (hg:w.heap[g]? =some (.cells #[] 135 (0,0))) (hB:B<=g) (hx:bc w A n c xs) (hs:n<=4294967296):
 ∃A' c' w',(Builtin.append_ #[34,34] ty #[.slice (some ⟨g,0,none⟩) 0 0, .slice A n c]).run Tryz.prog w= .ok (.slice A' n c') w'/\bc w' A' n c' xs/\Below B w w':=by
 obtain⟨i0,hi,hz0,hz1,hz2⟩:=info_parts Tryz.infoU32;have hlt:g<w.heap.size:=(Array.getElem?_eq_some_iff.1 hg).1
 have hown:w.ownsRow B 135 1 (.slice (some ⟨g,0,none⟩) 0 0) 0 []:=⟨rfl, .inr ⟨g,0,#[],rfl,hB,hg,Nat.le_refl _,by simp only[maxLen];omega,rfl,rfl⟩⟩;rcases A with _|ad
 ·have hc0:=hx.isnil rfl
  have hn0:n=0:=by have:=hx.cap;omega
  subst hc0 hn0;have hxs:xs=[]:=List.eq_nil_of_length_eq_zero hx.len;subst hxs;refine⟨some ⟨g,0,none⟩,0,w,run_append_owned_none (P:=Tryz.prog) w B 34 ty 135 i0 1 underlying34 hi _ 0 [] hown,?_, .refl _ _⟩;exact⟨rfl,Nat.le_refl _,by omega,Wd.nil, .nil _ _,fun h=>by cases h⟩
 ·have hcells:∀j u,(xs.map bU)[j]? =some u->w.cell? (ad.add j)=some u:=by
   intro j u hu;rcases hx.cells with h0| ⟨b,off,hA,hc⟩
   ·rw[h0]at hu;simp at hu
   ·obtain rfl:=Option.some.inj hA
    rw[Addr.add_lit];exact hc j u hu
  obtain⟨v',w',hrun,hown',hgr,hnil⟩:=run_append_own (P:=Tryz.prog) w B 34 ty 135 i0 (.int .u32 0) 1 4 underlying34 hi hz0 hz1 hz2 rfl (by omega) _ 0 [] hown ad n c (xs.map bU)
   (by rw[List.length_map,hx.len];omega) hcells (by intro u hu;obtain⟨x,_,rfl⟩:=List.mem_map.1 hu;rfl) (by simp only[maxLen];omega) (by omega) (by omega)
  rw[Nat.zero_add,List.nil_append]at hown';have hbel:Below B w w':=(Below.refl _ _).grown hgr (by omega) (fun k hk=>by simp[Value.ownBlock]at hk;omega);rcases hown'.2 with⟨rfl,_⟩| ⟨g',cap,cur,rfl,hbg,hgg,hnc,hcm,_⟩
  ·have:=hnil.1 rfl
   simp at this
  ·exact⟨_,_,_,hrun,gA hown' hx.wd hnc (by simpa only[maxLen]using hcm),hbel⟩
theorem sA {w:World} {B g n c:Nat} {A:Option Addr} {xs:List Nat} {o:Oper} {a:Act} {K:Act->World->Prop} {Q:Exit->Act->World->Prop} (s x:Operand)
 (ho:o.op= .call { callee:= .builtin .append,args:= #[s,x],argTypes:= #[34,34] })
 (hs:a.eval s= .slice (some ⟨g,0,none⟩) 0 0) (hx:a.eval x= .slice A n c) (hg:w.heap[g]? =some (.cells #[] 135 (0,0))) (hB:B<=g) (hw:bc w A n c xs) (hn:n<=4294967296)
 (h:∀A' c' w',bc w' A' n c' xs->Below B w w'->K (a.put o.dst (.slice A' n c')) w'):o.wp Tryz.prog a w K Q:=by
 obtain⟨A',c',w',hrun,h2,h3⟩:=pM o.type hg hB hw hn;unfold Oper.wp execOp
 simp only[ho,resolve,invoke,builtin,Sem.run_bind,Sem.run_pure,Result.andThen_ok,List.map_toArray,List.map_cons,List.map_nil,hs,hx,hrun]
 exact h A' c' w' h2 h3
theorem mv {w:World} {B g n c:Nat} {A:Option Addr} {xs:List Nat} {ops:Array Oper} {rest:List Oper} {o:Oper} {a:Act} {Q:Exit->Act->World->Prop} (hgd:o.guard=none) (s x:Operand)
 (ho:o.op= .call { callee:= .builtin .append,args:= #[s,x],argTypes:= #[34,34] })
 (hs:a.eval s= .slice (some ⟨g,0,none⟩) 0 0) (hx:a.eval x= .slice A n c) (hg:w.heap[g]? =some (.cells #[] 135 (0,0))) (hB:B<=g) (hw:bc w A n c xs) (hn:n<=4294967296)
 (h:∀A' c' w',bc w' A' n c' xs->Below B w w'->wpList Tryz.prog ops Q rest (a.put o.dst (.slice A' n c')) w'):wpList Tryz.prog ops Q (o::rest) a w:=
 wpList_plain hgd fun _ hK=>sA s x ho hs hx hg hB hw hn fun A' c' w' h2 h3=>hK _ _ (h A' c' w' h2 h3)
theorem iD (A:Option Addr) (n c:Nat) (xs:List Nat) (w:World) (hx:bc w A n c xs) (hs:n<=4294967296):
 Calls Tryz.prog 236 #[.slice A n c] w (qo (fun zs=>zs=xs) w):=by
 obtain⟨i0,hi,hz0,hz1,hz2⟩:=info_parts Tryz.infoU32;have heq:=fun(W:World) (a:Option Addr) (l k:Nat)=>run_eql_slice_nil (P:=Tryz.prog) W 34 135 a l k underlying34
 have Hx:=Lib.hid hx;clear hx;rcases A with _|ad
 ·have hc0:=Hx.out.isnil rfl
  have hn0:n=0:=by have:=Hx.out.cap;omega
  have hxs:[]=xs:=(List.eq_nil_of_length_eq_zero (Hx.out.len.trans hn0)).symm;have Hxs:=Lib.hid hxs;clear hxs;subst hc0 hn0
  go_enter func236,ntmps236
  go_wp2_with fail
  go_ret
  exact⟨_,_,_,[],rfl, .nil _,Hxs.out, .refl _ _⟩
 ·go_enter func236,ntmps236
  go_wp2_with (at_builtin;refine mv rfl _ _ rfl rfl rfl (heap_alloc_new w _) (Nat.le_refl _) (Hx.out.alloc _) hs ?_;intro A' c' w1 hw1 hb1)
  go_ret
  exact⟨_,_,_,xs,rfl,hw1,rfl,((Below.refl _ _).alloc (Nat.le_refl _) _).trans hb1⟩
section
attribute [local go_sem ↓] Go.wp_at_zero Go.wp_at_succ
def bw (W w:World):Prop:=Below W.heap.size W w
theorem bw.refl (W:World):bw W W:=Below.refl _ _
theorem bw.more {W w w':World} (h:bw W w) (hb:Below w.heap.size w w'):bw W w':=Below.trans h (hb.mono h.size)
theorem bw.drew {W w:World} (h:bw W w):bw W w.drew:=Below.drew h
theorem kc {w w':World} {p:Addr} {v:Value} (h:w.cell? p=some v) (hb:Below w.heap.size w w'):w'.cell? p=some v:=
 (hb.cell (World.block_lt_of_cell? w p h)).trans h
theorem kf {w w':World} {p:Addr} {v:Value} (hc:w.cell? p=some v) (h:w.frozen? p=false) (hb:Below w.heap.size w w'):w'.frozen? p=false:=
 (hb.frozen (World.block_lt_of_cell? w p hc)).trans h
theorem bw.set {W w:World} (h:bw W w) {p:Addr} (hp:W.heap.size<=p.block) (u:Value):bw W (w.setCell p u):=Below.setCell h hp u
theorem S5 {w w':World} {p:Addr} {v:Value} (h:w.cell? p=some v) (hb:bw w w'):w'.cell? p=some v:=kc h hb
theorem bc.ext {W w:World} {A:Option Addr} {n c:Nat} {xs:List Nat} (h:bc W A n c xs) (hb:bw W w):bc w A n c xs:=h.below hb
theorem gu {w:World} {p q:Addr} {v u:Value} (h:w.cell? p=some v) (hne:p≠q):(w.setCell q u).cell? p=some v:=by
 exact(World.cell?_setCell_other w q p u (fun e=>hne e.symm)).trans h
theorem bc.store {w:World} {A:Option Addr} {n c:Nat} {xs:List Nat} (h:bc w A n c xs) {p:Addr} {v0:Value} (hp:w.cell? p=some v0) (hne:∀x,v0≠bU x) (u:Value):bc (w.setCell p u) A n c xs:=by
 refine⟨h.len,h.cap,h.lim,h.wd,?_,h.isnil⟩;rcases h.cells with h0| ⟨b,off,hA,hc⟩
 ·exact .inl h0
 ·refine .inr ⟨b,off,hA,fun i v hv=>gu (hc i v hv) ?_⟩
  rintro rfl;rw[hc i v hv]at hp;rw[List.getElem?_map]at hv;cases hx:xs[i]? with
  |none=>rw[hx]at hv;cases hv
  |some x=>
   rw[hx]at hv
   simp only[Option.map_some,Option.some.injEq]at hv hp
   exact hne x (by rw[<- hp,<- hv])
theorem bD {w:World} {r o1 o2:Nat} {u1 u2:Value} {p:Addr} {v:Value} (hp:w.cell? p=some v) (hne:p.block≠r):((w.setCell ⟨r,o1,none⟩ u1).setCell ⟨r,o2,none⟩ u2).cell? p=some v:=
 gu (gu hp (fun e=>hne (by rw[e]))) (fun e=>hne (by rw[e]))
theorem kH (w:World) (a0 a1 b0 b1 r0 r1:Value) (t:TypeId) (W:World) (hW:W=((w.alloc (.cells #[a0,a1] t)).alloc (.cells #[b0,b1] t)).alloc (.cells #[r0,r1] t)):
 (W.cell? ⟨w.heap.size,0,none⟩=some a0/\W.cell? ⟨w.heap.size,1,none⟩=some a1/\W.cell? ⟨w.heap.size+1,0,none⟩=some b0/\W.cell? ⟨w.heap.size+1,1,none⟩=some b1) /\
 (W.cell? ⟨w.heap.size+1+1,0,none⟩=some r0/\W.cell? ⟨w.heap.size+1+1,1,none⟩=some r1/\W.frozen? ⟨w.heap.size+1+1,0,none⟩=false/\W.frozen? ⟨w.heap.size+1+1,1,none⟩=false)/\bw w W:=by
 have h0:Below w.heap.size w (w.alloc (.cells #[a0,a1] t)):=(Below.refl _ _).alloc (Nat.le_refl _) _;have h1:Below w.heap.size w ((w.alloc (.cells #[a0,a1] t)).alloc (.cells #[b0,b1] t)):=h0.alloc (by simp) _;have h2:Below w.heap.size w W:=by rw[hW];exact h1.alloc (by simp;omega) _
 refine⟨?_,?_,h2⟩
 ·subst hW;simp[go_sem]
 ·subst hW;simp[go_sem]
theorem uB (w:World) (a0 a1 r0 r1:Value) (t:TypeId) (W:World) (hW:W=(w.alloc (.cells #[a0,a1] t)).alloc (.cells #[r0,r1] t)):
 (W.cell? ⟨w.heap.size,0,none⟩=some a0/\W.cell? ⟨w.heap.size,1,none⟩=some a1) /\
 (W.cell? ⟨w.heap.size+1,0,none⟩=some r0/\W.cell? ⟨w.heap.size+1,1,none⟩=some r1/\W.frozen? ⟨w.heap.size+1,0,none⟩=false/\W.frozen? ⟨w.heap.size+1,1,none⟩=false)/\bw w W:=by
 have h0:Below w.heap.size w (w.alloc (.cells #[a0,a1] t)):=(Below.refl _ _).alloc (Nat.le_refl _) _;have h2:Below w.heap.size w W:=by rw[hW];exact h0.alloc (by simp) _
 refine⟨?_,?_,h2⟩
 ·subst hW;simp[go_sem]
 ·subst hW;simp[go_sem]
theorem jf {w w2:World} {r n c:Nat} {z:Int} {A:Option Addr} (h0:w2.cell? ⟨r,0,none⟩=some (.bool false)) (h1:w2.cell? ⟨r,1,none⟩=some (.slice none 0 0)) (hw:bc w2 A n c (digs z.natAbs)) (hb:bw w w2) (hr:w.heap.size<=r):
 dH z w (.returned (.agg #[.bool (decide (z<0)), .slice A n c])) ((w2.setCell ⟨r,0,none⟩ (.bool (decide (z<0)))).setCell ⟨r,1,none⟩ (.slice A n c)):=by
 refine⟨_,rfl,⟨A,n,c,rfl,?_⟩,(hb.set (p:=⟨r,0,none⟩) hr _).set (p:=⟨r,1,none⟩) hr _⟩;refine(hw.store h0 (by intro x;simp) _).store (gu h1 (by simp)) (by intro x;simp) _
theorem l7 {w w2:World} {r n c:Nat} {z:Int} {b:Bool} {A:Option Addr} (hz:decide (z<0)=b) (h0:w2.cell? ⟨r,0,none⟩=some (.bool false)) (h1:w2.cell? ⟨r,1,none⟩=some (.slice none 0 0)) (hw:bc w2 A n c (digs z.natAbs)) (hb:bw w w2) (hr:w.heap.size<=r):
 dH z w (.returned (.agg #[.bool b, .slice A n c])) ((w2.setCell ⟨r,0,none⟩ (.bool b)).setCell ⟨r,1,none⟩ (.slice A n c)):=hz ▸ jf h0 h1 hw hb hr
theorem jQ {W w:World} {neg:Bool} {A:Option Addr} {n c:Nat} {xs:List Nat} (h:bc W A n c xs) (hb:bw W w):dh w (.agg #[.bool neg, .slice A n c]) neg xs:=⟨A,n,c,rfl,h.ext hb⟩
theorem bw.alloc {W w:World} (h:bw W w) (o:Obj):bw W (w.alloc o):=Below.alloc h h.size o
theorem bw.trans {a b c:World} (h:bw a b) (k:bw b c):bw a c:=bw.more h k
end
theorem NI {W w w1:World} {p1 p2:Addr} {v1 v2:Value} (h:w.cell? p1=some v1/\w.cell? p2=some v2/\bw W w) (hb:Below w.heap.size w w1):w1.cell? p1=some v1/\w1.cell? p2=some v2/\bw W w1:=⟨kc h.1 hb,kc h.2.1 hb,h.2.2.more hb⟩
theorem Kc {W w:World} {p1 p2:Addr} {v1 v2:Value} (h:w.cell? p1=some v1/\w.cell? p2=some v2/\bw W w):Below W.heap.size W w:=h.2.2
theorem IN {W w:World} {r o1 o2:Nat} {u1 u2:Value} {p1 p2:Addr} {v1 v2:Value} (h:w.cell? p1=some v1/\w.cell? p2=some v2/\bw W w) (hr:W.heap.size<=r) (h1:p1.block≠r) (h2:p2.block≠r):((w.setCell ⟨r,o1,none⟩ u1).setCell ⟨r,o2,none⟩ u2).cell? p1=some v1/\((w.setCell ⟨r,o1,none⟩ u1).setCell ⟨r,o2,none⟩ u2).cell? p2=some v2/\bw W ((w.setCell ⟨r,o1,none⟩ u1).setCell ⟨r,o2,none⟩ u2):=⟨bD h.1 h1,bD h.2.1 h2,(h.2.2.set (p:=⟨r,o1,none⟩) hr _).set (p:=⟨r,o2,none⟩) hr _⟩
theorem TD {W w w1:World} {p1 p2 p3 p4:Addr} {v1 v2 v3 v4:Value} (h:w.cell? p1=some v1/\w.cell? p2=some v2/\w.cell? p3=some v3/\w.cell? p4=some v4/\bw W w) (hb:Below w.heap.size w w1):w1.cell? p1=some v1/\w1.cell? p2=some v2/\w1.cell? p3=some v3/\w1.cell? p4=some v4/\bw W w1:=⟨kc h.1 hb,kc h.2.1 hb,kc h.2.2.1 hb,kc h.2.2.2.1 hb,h.2.2.2.2.more hb⟩
theorem JE {W w:World} {p1 p2 p3 p4:Addr} {v1 v2 v3 v4:Value} (h:w.cell? p1=some v1/\w.cell? p2=some v2/\w.cell? p3=some v3/\w.cell? p4=some v4/\bw W w):Below W.heap.size W w:=h.2.2.2.2
theorem um {W w:World} {r o1 o2:Nat} {u1 u2:Value} {p1 p2 p3 p4:Addr} {v1 v2 v3 v4:Value} (h:w.cell? p1=some v1/\w.cell? p2=some v2/\w.cell? p3=some v3/\w.cell? p4=some v4/\bw W w) (hr:W.heap.size<=r) (h1:p1.block≠r) (h2:p2.block≠r) (h3:p3.block≠r) (h4:p4.block≠r):((w.setCell ⟨r,o1,none⟩ u1).setCell ⟨r,o2,none⟩ u2).cell? p1=some v1/\((w.setCell ⟨r,o1,none⟩ u1).setCell ⟨r,o2,none⟩ u2).cell? p2=some v2/\((w.setCell ⟨r,o1,none⟩ u1).setCell ⟨r,o2,none⟩ u2).cell? p3=some v3/\((w.setCell ⟨r,o1,none⟩ u1).setCell ⟨r,o2,none⟩ u2).cell? p4=some v4/\bw W ((w.setCell ⟨r,o1,none⟩ u1).setCell ⟨r,o2,none⟩ u2):=⟨bD h.1 h1,bD h.2.1 h2,bD h.2.2.1 h3,bD h.2.2.2.1 h4,(h.2.2.2.2.set (p:=⟨r,o1,none⟩) hr _).set (p:=⟨r,o2,none⟩) hr _⟩
end Go.Proofs.YtnchbpoopnjghaaGreatDoor
