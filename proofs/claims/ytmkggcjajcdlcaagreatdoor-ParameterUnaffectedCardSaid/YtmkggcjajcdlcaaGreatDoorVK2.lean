/- Tactic texts that stand more than once. -/
import Derived.Test.YtmkggcjajcdlcaaGreatDoorVK
import Derived.KernelRfl
import Derived.IntWalk
import Derived.Laws.BytesArg
import Derived.Laws.Strings2
import Derived.Laws.IdiomStrings
import Derived.Lib.Bytealg
import Derived.Lib.AppendStr
import Derived.MapKept
import Derived.Defers
import Derived.Laws.MakeOwn
import Derived.Lib.AppendZerosOnto
import Derived.Lib.Overlaps
import Derived.Shelf.Strconv.AppendUint10
import Derived.Shelf.Strconv.Itoa3
import Derived.Maps.OwnIn
import Derived.RangeFuncCalls
import Derived.Sort.Walk0
import Derived.LaidMore
import Derived.Lay
import Derived.Stop.Joined
import Derived.SevenTiedAt
import Derived.ChangeMaps5
import Derived.Lib.RowBridge
set_option maxHeartbeats 100000000
set_option linter.all false
namespace Go.Proofs.YtmkggcjajcdlcaaGreatDoor
open Go.RowKit
section
open Go.ChangeShapes Go.WideShapes Go.ChangeAt Go.RowKit Go.Joins
open Go.RowKit Go.Shelf
open Go.Shelf Go.RowKit Go.Sort Go.Lib
open Go.Shelf Go.RowKit
open Go.RowKit Go.Joins
open Go.RowKit Go.Sort Go.Lib
open Go.RowKit Go.Lib
theorem aD {p:Prop} (e:p:=by
 exact kF):p:=e
theorem vr {p q:Prop} (h:q) (e:KH q->p:=by
 intro hK
 refine bP (i:=i) (cs':=bl p.1 o1 na1 xs1 nb1 ys1 nm1 n1 cs1) hlt hat (Nat.zero_lt_succ 7) rfl rfl rfl rfl rfl rfl rfl rfl ?_
 exact hK.out):p:=e ⟨h⟩
theorem IT {p q:Prop} (h:q) (e:KH q->p:=by
 intro hK
 refine kW ?_;refine NA ?_;refine kW ?_;refine Mz ?_;refine kW ?_
 exact hK.out):p:=e ⟨h⟩
theorem R2 {p q:Prop} (h:q) (e:KH q->p:=by
 intro hK
 refine kW ?_;refine NA ?_
 exact hK.out):p:=e ⟨h⟩
theorem Oc {p:Prop} (e:p:=by
 refine kW ?_;refine TE (by omega) ?_ (by omega) ?_ rfl rfl rfl rfl
 ·first
   |(simp[hcn,List.take_of_length_le,dK,hd,TK,hdr,List.take_append,List.take_take];done)
   |(simp[hcn,List.take_of_length_le,dK,hd,TK,hdr,List.take_append,List.take_take,Nat.min_eq_left hple];done)
   |(simp[hcn,List.take_of_length_le,dK,hd,TK,hdr,List.take_append,List.take_take,Nat.min_eq_left hple];omega)
 ·first
   |(simp[hc,List.take_of_length_le,TH,TL,hdr5,List.take_append,List.take_take];done)
   |(simp[hc,List.take_of_length_le,TH,TL,hdr5,List.take_append,List.take_take,Nat.min_eq_left (Nat.mul_le_mul_right 5 hple)];done)
   |(simp[hc,List.take_of_length_le,TH,TL,hdr5,List.take_append,List.take_take,Nat.min_eq_left (Nat.mul_le_mul_right 5 hple),Nat.add_mul,Nat.add_sub_cancel_left];done)):p:=e
theorem S5 {p q:Prop} (h:q) (e:KH q->p:=by
 intro hK
 refine kW ?_;refine Ns ?_;refine kW ?_;refine cK 5002 (m1:=1) (m2:=1) ac (by decide) (by decide) rfl rfl rfl rfl rfl rfl rfl rfl rfl rfl rfl (.own rfl rfl) rfl rfl rfl ?_;refine kW ?_
 exact hK.out):p:=e ⟨h⟩
theorem Sa {p q:Prop} (h:q) (e:KH q->p:=by
 intro hK
 refine Mz ?_;refine kW ?_
 exact hK.out):p:=e ⟨h⟩
theorem i6 {p q:Prop} (h:q) (e:KH q->p:=by
 intro hK
 refine kW ?_;refine Ns ?_
 exact hK.out):p:=e ⟨h⟩
theorem N0 {p q:Prop} (h:q) (e:KH q->p:=by
 intro hK
 refine kW ?_;refine de (T:=TT) rfl ?_
 exact hK.out):p:=e ⟨h⟩
theorem Te {p q:Prop} (h:q) (e:KH q->p:=by
 intro hK
 refine kW ?_;refine Gu ?_
 exact hK.out):p:=e ⟨h⟩
theorem jw {p q:Prop} (h:q) (e:KH q->p:=by
 intro hK
 refine kN ?_;refine bG (T:=TT) ?_;refine eX (T:=TT) rfl ?_;refine rD ?_
 exact hK.out):p:=e ⟨h⟩
theorem EI {p:Prop} (e:p:=by
 refine kT ?_;refine kN ?_;refine bG (T:=TT) ?_;refine eZ (T:=TT) rfl ?_;refine eS ?_
 repeat(first|refine bG (T:=TT) ?_|refine eG (T:=TT) ?_)
 refine bz (T:=TT) rfl ?_
 refine kO2 ?_
 refine kJ ((i+j:Nat)) ?_;refine nu (v':= .int .u64 ((i+j:Nat))) rfl rfl rfl rfl ?_ ?_
 ·exact congrArg (Value.int .u64) (by show IntKind.u64.wrap ((i+j:Nat):Int)=_;rw[IntWalk.u64_in _ (by omega)])
 refine nu (v':= .int .u64 (((i+j)/2:Nat))) rfl rfl rfl rfl ?_ ?_
 ·exact congrArg (Value.int .u64) (by show Int.fdiv ((i+j:Nat):Int) 2=_;rw[Int.fdiv_eq_ediv_of_nonneg _ (by decide)];rfl)
 refine nu (v':= .int .i64 (((i+j)/2:Nat))) rfl rfl rfl rfl ?_ ?_
 ·exact congrArg (Value.int .i64) (by show IntKind.i64.wrap (((i+j)/2:Nat):Int)=_;rw[IntWalk.i64_in _ (by omega)])
 have hm:(i+j)/2<l.length:=by omega
 refine Exists.elim (Exists.intro _ rfl:∃m,(i+j)/2=m) fun m hme=>?_
 rw[hme]at hm ⊢;have hx:l[m]? =some l[m]:=by simp[hm]
 refine kN ?_;refine kI ?_
 refine kO2 ?_
 refine bP (i:=m) (cs':=[.val (vL l[m].1)]) hm (BO hx) (by simp) rfl rfl rfl rfl rfl rfl rfl rfl ?_
 refine kO2 ?_
 refine kC (JD l[m].1 s) ?_;refine kN ?_;cases hb2:Op.bytesLess l[m].1 s
 ·refine kW ?_
  have hpm:p<=m:=by
   rcases Nat.lt_or_ge m p with h|h
   ·have:=hp2 m _ h hx;rw[hb2]at this;cases this
   ·exact h
  exact⟨(i,m),⟨h1,hpm,by dsimp only;omega⟩,by dsimp only;omega,weak ⟨rfl,rfl,rfl,rfl,rfl,rfl,rfl,trivial⟩ trivial rfl⟩
 ·refine kW ?_
  have hmp:m<p:=by
   rcases Nat.lt_or_ge m p with h|h
   ·exact h
   ·have:=hp3 m _ h hx;rw[hb2]at this;cases this
  exact⟨(m+1,j),⟨hmp,h2,h3⟩,by dsimp only;omega,weak ⟨rfl,rfl,rfl,rfl,rfl,ak (by omega) (by omega),rfl,trivial⟩ trivial rfl⟩):p:=e
theorem PI {p q:Prop} (h:q) (e:KH q->p:=by
 intro hK
 refine kI ?_;refine kX ?_;refine bP (i:=i) (cs':=bl q.1 o1 na1 xs1 nb1 ys1 nm1 n1 cs1) hil hat (Nat.zero_lt_succ 7) rfl rfl rfl rfl rfl rfl rfl rfl ?_;refine kW ?_;refine J2 (i:=0) ac (show 0<m by omega) rfl rfl rfl rfl rfl rfl rfl rfl rfl ?_;refine CO hta rfl rfl rfl rfl rfl rfl rfl rfl rfl ?_;refine kC (cu) ?_
 exact hK.out):p:=e ⟨h⟩
theorem KZ {p:Prop} (e:p:=by
 rintro j ⟨hj,hall⟩;refine kW ?_;refine n7 rfl (fun h=>?_) (fun h=>?_)
 ·have hlt:j<xs.length:=by have:=of_decide_eq_true h;omega
  have hlt':j<ys.length:=by omega
  refine kW ?_;refine bP (cs':=[AV.val (dh xs[j])]) hlt (LB (by simp[hlt])) (Nat.lt_succ_self 0) rfl rfl rfl rfl rfl rfl rfl rfl ?_;refine kW ?_;refine bP (cs':=[AV.val (dh ys[j])]) hlt' (LB (by simp[hlt'])) (Nat.lt_succ_self 0) rfl rfl rfl rfl rfl rfl rfl rfl ?_;refine kW ?_;refine n7 rfl (fun h2=>?_) (fun h2=>?_)
  ·refine kW ?_
   have hne:xs[j]≠ys[j]:=fun e=>by rw[e]at h2;simp at h2
   rw[xy (fun e=>hne (by subst e;rfl))];exact de (T:=TT) rfl rfl
  ·have heq:xs[j]=ys[j]:=by simp at h2;omega
   refine kW ?_;refine⟨j+1,⟨hlt,fun i hi=>?_⟩,by omega,weak ⟨rfl,rfl,?_,trivial⟩ ⟨rfl,rfl,trivial⟩ rfl⟩
   ·rcases Nat.lt_succ_iff_lt_or_eq.1 hi with h3|rfl
    ·exact hall i h3
    ·rw[List.getElem?_eq_getElem hlt,List.getElem?_eq_getElem hlt',heq]
   ·exact ak (by omega) (by omega)
 ·have hge:j=xs.length:=by have:=of_decide_eq_false h;omega
  refine rD ?_;refine kW ?_
  have he:xs=ys:=by
   apply List.ext_getElem? fun i=>?_
   by_cases hi:i<xs.length
   ·exact hall i (by omega)
   ·rw[List.getElem?_eq_none (by omega),List.getElem?_eq_none (by omega)]
  rw[rW he];exact de (T:=TT) rfl rfl):p:=e
theorem Kt {p q:Prop} (h:q) (e:KH q->p:=by
 intro hK
 refine NH ?_;refine aL ⟨[(1, .d (gt l)),(2, .d (ip l)),(3, .box 0 0),(6, .box 1 0),(7, .d (dN .i64 0)),(12, .nil),(72, .d (.leaf (.sl 2 (ab o1 na1 xs1 nb1 ys1 nm1 n1 cs1++ab o2 na2 xs2 nb2 ys2 nm2 n2 cs2)))),(73, .d (dN .i64 2)),(74, .d (dN .i64 0))],[(0,some ([.val (.int .i64 (B4.add).code)]++ra++[.val (vL []), .sl 2 (ab o1 na1 xs1 nb1 ys1 nm1 n1 cs1++ab o2 na2 xs2 nb2 ys2 nm2 n2 cs2)])),(1,some iw)]⟩ kw ?_
 exact hK.out):p:=e ⟨h⟩
theorem KL {p q:Prop} (h:q) (e:KH q->p:=by
 intro hK
 refine NH ?_;refine aL ⟨[(1, .d (gt l)),(2, .d (ip l)),(3, .box 0 0),(6, .box 1 0),(7, .d (dN .i64 0)),(12, .nil),(72, .d (.leaf (.sl 2 (ab o1 na1 xs1 nb1 ys1 nm1 n1 cs1++ab o2 na2 xs2 nb2 ys2 nm2 n2 cs2)))),(73, .d (dN .i64 2)),(74, .d (dN .i64 0))],[(0,some ([.val (.int .i64 (B4.div).code)]++ra++[.val (vL []), .sl 2 (ab o1 na1 xs1 nb1 ys1 nm1 n1 cs1++ab o2 na2 xs2 nb2 ys2 nm2 n2 cs2)])),(1,some iw)]⟩ kw ?_
 exact hK.out):p:=e ⟨h⟩
theorem Oh {p q:Prop} (h:q) (e:KH q->p:=by
 intro hK
 refine NH ?_;refine aL ⟨[(1, .d (gt l)),(2, .d (ip l)),(3, .box 0 0),(6, .box 1 0),(7, .d (dN .i64 0)),(12, .nil),(72, .d (.leaf (.sl 2 (ab o1 na1 xs1 nb1 ys1 nm1 n1 cs1++ab o2 na2 xs2 nb2 ys2 nm2 n2 cs2)))),(73, .d (dN .i64 2)),(74, .d (dN .i64 0))],[(0,some ([.val (.int .i64 (B4.mul).code)]++ra++[.val (vL []), .sl 2 (ab o1 na1 xs1 nb1 ys1 nm1 n1 cs1++ab o2 na2 xs2 nb2 ys2 nm2 n2 cs2)])),(1,some iw)]⟩ kw ?_
 exact hK.out):p:=e ⟨h⟩
theorem QL {p q:Prop} (h:q) (e:KH q->p:=by
 intro hK
 refine NH ?_;refine aL ⟨[(1, .d (gt l)),(2, .d (ip l)),(3, .box 0 0),(6, .box 1 0),(7, .d (dN .i64 0)),(12, .nil),(72, .d (.leaf (.sl 2 (ab o1 na1 xs1 nb1 ys1 nm1 n1 cs1++ab o2 na2 xs2 nb2 ys2 nm2 n2 cs2)))),(73, .d (dN .i64 2)),(74, .d (dN .i64 0))],[(0,some ([.val (.int .i64 (B4.sub).code)]++ra++[.val (vL []), .sl 2 (ab o1 na1 xs1 nb1 ys1 nm1 n1 cs1++ab o2 na2 xs2 nb2 ys2 nm2 n2 cs2)])),(1,some iw)]⟩ kw ?_
 exact hK.out):p:=e ⟨h⟩
theorem KO {p q:Prop} (h:q) (e:KH q->p:=by
 intro hK
 repeat(first|refine bG (T:=TT) ?_|refine eG (T:=TT) ?_)
 refine bz (T:=TT) rfl ?_
 exact hK.out):p:=e ⟨h⟩
theorem Bk {p q:Prop} (h:q) (e:KH q->p:=by
 intro hK
 refine kW ?_;refine gn (i:=0) (by decide) rfl rfl rfl rfl rfl rfl rfl rfl rfl ?_
 refine kO2 ?_
 refine gn (i:=1) (by decide) rfl rfl rfl rfl rfl rfl rfl rfl rfl ?_;refine kO ?_
 exact hK.out):p:=e ⟨h⟩
theorem iK {p q:Prop} (h:q) (e:KH q->p:=by
 intro hK
 refine Nv ?_
 refine kO4 ?_
 refine gT ((c2.rd (ts:=[.d (.agg (bl p.1 o1 na1 xs1 nb1 ys1 nm1 n1 cs1)), .own 6001 (List.cons a r).length 1 9]) (b:=[(6001,au (List.cons a r))]) rfl rfl)) rfl rfl rfl rfl rfl ⟨rfl,trivial⟩ rfl rfl rfl rfl ?_
 exact hK.out):p:=e ⟨h⟩
theorem fZ {p q:Prop} (h:q) (e:KH q->p:=by
 intro hK
 refine bP (i:=i) (cs':=bl p.1 o1 na1 xs1 nb1 ys1 nm1 n1 cs1) hil hat (Nat.zero_lt_succ 7) rfl rfl rfl rfl rfl rfl rfl rfl ?_
 exact hK.out):p:=e ⟨h⟩
theorem Ru {p q:Prop} (h:q) (e:KH q->p:=by
 intro hK
 refine kN ?_;refine kI ?_;refine kO ?_
 exact hK.out):p:=e ⟨h⟩
theorem mb {p q:Prop} (h:q) (e:KH q->p:=by
 intro hK
 refine kW ?_;refine kQ (c1) ?_
 exact hK.out):p:=e ⟨h⟩
theorem iD {p q:Prop} (h:q) (e:KH q->p:=by
 intro hK
 refine kR ?_;refine kI ?_;refine kO ?_
 exact hK.out):p:=e ⟨h⟩
theorem oB {p q:Prop} (h:q) (e:KH q->p:=by
 intro hK
 refine kO4 ?_
 refine kJ ((w.length-k:Nat)) ?_;refine LH ac (l:=w) (i:=w.length-k) (by omega) rfl rfl rfl rfl rfl rfl rfl rfl ?_;refine aO rfl rfl rfl rfl rfl rfl rfl (iP (a:=w.take (w.length-k)) (b:=[46]) (by simp;omega)) ?_
 refine kO4 ?_
 refine kJ ((w.length-k:Nat)) ?_;refine IN ac (l:=w) (i:=w.length-k) (by omega) rfl rfl rfl rfl rfl rfl rfl rfl ?_;refine aO rfl rfl rfl rfl rfl rfl rfl (iP (a:=w.take (w.length-k)++[46]) (b:=w.drop (w.length-k)) (by simp;omega)) ?_
 exact hK.out):p:=e ⟨h⟩
theorem Qn {p:Prop} (e:p:=by
 refine kW ?_;exact⟨⟨_,rfl,rfl⟩,⟨rfl,trivial⟩⟩):p:=e
theorem OB {p q:Prop} (h:q) (e:KH q->p:=by
 intro hK
 refine kI ?_
 refine kO3 ?_
 refine kT ?_;refine kG ?_
 refine kO2 ?_
 exact hK.out):p:=e ⟨h⟩
theorem OW {p q:Prop} (h:q) (e:KH q->p:=by
 intro hK
 refine kI ?_
 refine kO3 ?_
 refine kT ?_
 exact hK.out):p:=e ⟨h⟩
theorem OG {p q:Prop} (h:q) (e:KH q->p:=by
 intro hK
 refine kW ?_;refine ax (l0 (h.1.fit (by omega)) (h'.2.fit (by omega)) hgz) rfl rfl rfl rfl rfl rfl rfl ?_;refine kW ?_;refine ax (l0 (h'.1.fit (by omega)) (h.2.fit (by omega)) htz) rfl rfl rfl rfl rfl rfl rfl ?_;refine kW ?_;refine ax (fh (h.1.fit (by omega)) (sg.fit (by omega)) (by omega) (qO _ _)) rfl rfl rfl rfl rfl rfl rfl ?_;refine kW ?_;refine ax (fh (h'.1.fit (by omega)) (st.fit (by omega)) (by omega) (qO _ _)) rfl rfl rfl rfl rfl rfl rfl ?_;refine kW ?_;refine ax (jo (s1.fit (by omega)) (s2.fit (by omega))) rfl rfl rfl rfl rfl rfl rfl ?_;refine kW ?_;refine ax (fh (h.2.fit (by omega)) (st.fit (by omega)) (by omega) (Cq _ _)) rfl rfl rfl rfl rfl rfl rfl ?_;refine kW ?_
 refine ax (fh (h'.2.fit (by omega)) (sg.fit (by omega)) (by omega) (Cq _ _)) rfl rfl rfl rfl rfl rfl rfl ?_;refine kW ?_;refine ax (jo (s3.fit (by omega)) (s4.fit (by omega))) rfl rfl rfl rfl rfl rfl rfl ?_
 exact hK.out):p:=e ⟨h⟩
theorem Q0 {p q:Prop} (h:q) (e:KH q->p:=by
 intro hK
 refine aL ⟨[(1, .d (gt l)),(2, .d (ip l)),(3, .box 0 0),(6, .box 1 0),(7, .d (dN .i64 0)),(12, .own 5001 1 5 50),(72, .d (.leaf (.sl 2 (ab o1 na1 xs1 nb1 ys1 nm1 n1 cs1++ab o2 na2 xs2 nb2 ys2 nm2 n2 cs2)))),(73, .d (dN .i64 2)),(74, .d (dN .i64 1))],[(0,some ([.val (.int .i64 (B4.add).code)]++ra++[.val (vL []), .sl 2 (ab o1 na1 xs1 nb1 ys1 nm1 n1 cs1++ab o2 na2 xs2 nb2 ys2 nm2 n2 cs2)])),(1,some iw),(5001,some (j7 x.1 x.2))]⟩ kw ?_
 exact hK.out):p:=e ⟨h⟩
theorem lO {p q:Prop} (h:q) (e:KH q->p:=by
 intro hK
 refine aL ⟨[(1, .d (gt l)),(2, .d (ip l)),(3, .box 0 0),(6, .box 1 0),(7, .d (dN .i64 0)),(12, .own 5001 1 5 50),(72, .d (.leaf (.sl 2 (ab o1 na1 xs1 nb1 ys1 nm1 n1 cs1++ab o2 na2 xs2 nb2 ys2 nm2 n2 cs2)))),(73, .d (dN .i64 2)),(74, .d (dN .i64 1))],[(0,some ([.val (.int .i64 (B4.div).code)]++ra++[.val (vL []), .sl 2 (ab o1 na1 xs1 nb1 ys1 nm1 n1 cs1++ab o2 na2 xs2 nb2 ys2 nm2 n2 cs2)])),(1,some iw),(5001,some (j7 x.1 x.2))]⟩ kw ?_
 exact hK.out):p:=e ⟨h⟩
theorem mH {p q:Prop} (h:q) (e:KH q->p:=by
 intro hK
 refine aL ⟨[(1, .d (gt l)),(2, .d (ip l)),(3, .box 0 0),(6, .box 1 0),(7, .d (dN .i64 0)),(12, .own 5001 1 5 50),(72, .d (.leaf (.sl 2 (ab o1 na1 xs1 nb1 ys1 nm1 n1 cs1++ab o2 na2 xs2 nb2 ys2 nm2 n2 cs2)))),(73, .d (dN .i64 2)),(74, .d (dN .i64 1))],[(0,some ([.val (.int .i64 (B4.mul).code)]++ra++[.val (vL []), .sl 2 (ab o1 na1 xs1 nb1 ys1 nm1 n1 cs1++ab o2 na2 xs2 nb2 ys2 nm2 n2 cs2)])),(1,some iw),(5001,some (j7 x.1 x.2))]⟩ kw ?_
 exact hK.out):p:=e ⟨h⟩
theorem FE {p q:Prop} (h:q) (e:KH q->p:=by
 intro hK
 refine aL ⟨[(1, .d (gt l)),(2, .d (ip l)),(3, .box 0 0),(6, .box 1 0),(7, .d (dN .i64 0)),(12, .own 5001 1 5 50),(72, .d (.leaf (.sl 2 (ab o1 na1 xs1 nb1 ys1 nm1 n1 cs1++ab o2 na2 xs2 nb2 ys2 nm2 n2 cs2)))),(73, .d (dN .i64 2)),(74, .d (dN .i64 1))],[(0,some ([.val (.int .i64 (B4.sub).code)]++ra++[.val (vL []), .sl 2 (ab o1 na1 xs1 nb1 ys1 nm1 n1 cs1++ab o2 na2 xs2 nb2 ys2 nm2 n2 cs2)])),(1,some iw),(5001,some (j7 x.1 x.2))]⟩ kw ?_
 exact hK.out):p:=e ⟨h⟩
theorem Qj {p q:Prop} (h:q) (e:KH q->p:=by
 intro hK
 refine kI ?_;refine kX ?_
 exact hK.out):p:=e ⟨h⟩
theorem Qm {p q:Prop} (h:q) (e:KH q->p:=by
 intro hK
 refine kR ?_;refine kI ?_
 refine kO2 ?_
 exact hK.out):p:=e ⟨h⟩
theorem Ai {p q:Prop} (h:q) (e:KH q->p:=by
 intro hK
 refine kO2 ?_
 refine gT ((c1.rd (ts:=[.own 5001 (List.cons a r).length 1 9, .d (dL p.1)]) (b:=[(5001,au (List.cons a r))]) rfl rfl)) rfl rfl rfl rfl rfl ⟨rfl,trivial⟩ rfl rfl rfl rfl ?_
 exact hK.out):p:=e ⟨h⟩
theorem nt {p:Prop} (e:p:=by
 rw[decide_eq_false hin]at cx;have hxy:x.2=y:=hsame x.1 x.2 y (fun e=>hin (by rw[e];simp)) (fun h=>hin (by have:=(hmem x.1).2 h;first|(simp at this;done)|(simp at this ⊢;first|exact .inl this|(rcases this with h|h<;>simp[h])))) hxm (List.mem_of_getElem? hy);subst hxy;have cs:=N8 (p:=x.2.2) (hsz x hxm).1 (by decide);refine kC (cx) ?_
 refine kO4 ?_
 refine bP (i:=i) (cs':=j7 x.2.1 x.2.2) hil hav (Nat.zero_lt_succ 4) rfl rfl rfl rfl rfl rfl rfl rfl ?_
 refine kO3 ?_
 refine bP (i:=i) (cs':=j7 x.2.1 x.2.2) (by omega) hav2 (Nat.zero_lt_succ 4) rfl rfl rfl rfl rfl rfl rfl rfl ?_;refine kO ?_;refine kQ (cs) ?_;exact Tz):p:=e
theorem NW {p q:Prop} (h:q) (e:KH q->p:=by
 intro hK
 refine kR ?_;refine kI ?_
 refine kO4 ?_
 exact hK.out):p:=e ⟨h⟩
theorem Si {p q:Prop} (h:q) (e:KH q->p:=by
 intro hK
 refine kN ?_;refine kI ?_
 refine kO3 ?_
 refine TI ac hple rfl rfl rfl rfl rfl rfl rfl rfl ?_
 exact hK.out):p:=e ⟨h⟩
theorem lh {p q:Prop} (h:q) (e:KH q->p:=by
 intro hK
 refine kQ (cp) ?_;refine kC (cf) ?_;refine kY ?_;refine kQ (c4) ?_;refine kQ (cL) ?_;refine kC (c2) ?_;refine kQ (cV) ?_;refine kC (c2) ?_;refine kO ?_;refine kC (c3) ?_
 exact hK.out):p:=e ⟨h⟩
theorem Pa {p q:Prop} (h:q) (e:KH q->p:=by
 intro hK
 refine kO2 ?_
 refine kC (cn) ?_;refine gT ((c2.rd (ts:=[.own 5001 (List.cons a r).length 1 9, .d (iZ ns)]) (b:=[(5001,au (List.cons a r))]) rfl rfl)) rfl rfl rfl rfl rfl ⟨rfl,trivial⟩ rfl rfl rfl rfl ?_
 exact hK.out):p:=e ⟨h⟩
theorem P9 {p q:Prop} (h:q) (e:KH q->p:=by
 intro hK
 refine kN ?_
 repeat refine bG (T:=TT) ?_
 exact hK.out):p:=e ⟨h⟩
theorem La {p q:Prop} (h:q) (e:KH q->p:=by
 intro hK
 refine bP (i:=k) (cs':=bl q.1 o2 na2 xs2 nb2 ys2 nm2 n2 cs2) hkl hat2 (Nat.zero_lt_succ 7) rfl rfl rfl rfl rfl rfl rfl rfl ?_
 exact hK.out):p:=e ⟨h⟩
theorem Fs {p q:Prop} (h:q) (e:KH q->p:=by
 intro hK
 refine kW ?_;refine ax (fe (h.1.fit (by omega)) (h'.2.fit (by omega))) rfl rfl rfl rfl rfl rfl rfl ?_;refine kW ?_;refine ax (fe (h'.1.fit (by omega)) (h.2.fit (by omega))) rfl rfl rfl rfl rfl rfl rfl ?_;refine kW ?_;refine ax (tQ ((h.1.mul h'.2).fit (by omega)) ((h'.1.mul h.2).fit (by omega))) rfl rfl rfl rfl rfl rfl rfl ?_;refine kW ?_;refine ax (fe (h.2.fit (by omega)) (h'.2.fit (by omega))) rfl rfl rfl rfl rfl rfl rfl ?_;refine kW ?_;refine ax (ig (k:=j+k+1) ((h.1.mul h'.2).add ((h'.1.mul h.2).mono (by omega))) ((h.2.mul h'.2).mono (by omega)) hk d0 (ma a b)) rfl rfl rfl rfl rfl rfl rfl ?_
 exact hK.out):p:=e ⟨h⟩
theorem Ri {p q:Prop} (h:q) (e:KH q->p:=by
 intro hK
 refine kO3 ?_
 refine aO rfl rfl rfl rfl rfl rfl rfl (b6 (a:=nx) (b:=[]) h0) ?_
 refine kO4 ?_
 refine aO rfl rfl rfl rfl rfl rfl rfl (G1 (a:=p.1) (b:=nx) hls) ?_;refine kW ?_
 exact hK.out):p:=e ⟨h⟩
theorem RF {p q:Prop} (h:q) (e:KH q->p:=by
 intro hK
 refine kN ?_;refine kI ?_
 refine kO3 ?_
 exact hK.out):p:=e ⟨h⟩
theorem Ab {p q:Prop} (h:q) (e:KH q->p:=by
 intro hK
 refine kO2 ?_
 refine bP (i:=i) (cs':=[.val (vL x)]) hlt (ib hxx) (Nat.lt_succ_self 0) rfl rfl rfl rfl rfl rfl rfl rfl ?_;refine kO ?_
 exact hK.out):p:=e ⟨h⟩
theorem RB {p q:Prop} (h:q) (e:KH q->p:=by
 intro hK
 refine kX ?_;refine Af ac (show i<=c by omega) rfl rfl rfl rfl rfl rfl rfl rfl rfl ?_
 refine kO2 ?_
 refine kJ ((m+1:Nat)) ?_;refine kO ?_;refine kJ ((m+1-i:Nat)) ?_;refine I3 1003 ac (m1:=i) (m2:=m+1-i) (m3:=m+1) (p:=0) (cs:=cs) (by omega) (by omega) (by rw[Nat.zero_add];omega) (eU (kH hB _) _) (hby _ (by omega)) (by omega) (by omega) rfl rfl rfl rfl rfl rfl rfl rfl rfl rfl underlying3 rfl rfl rfl rfl rfl rfl ?_;refine kW ?_;refine kA ac (show i<m+1 by omega) rfl rfl rfl rfl rfl rfl rfl rfl rfl ?_;refine kO ?_
 exact hK.out):p:=e ⟨h⟩
theorem vJ {p q:Prop} (h:q) (e:KH q->p:=by
 intro hK
 refine kV func69 ?_;refine eR 2 ?_;refine aL ⟨[(1, .d (gt l)),(2, .d (ip l)),(3, .box 0 0),(6, .box 1 0),(7, .d (dN .i64 0)),(12, .nil),(72, .d (.leaf (.sl 1 (ab o1 na1 xs1 nb1 ys1 nm1 n1 cs1)))),(73, .d (dN .i64 1)),(74, .d (dN .i64 0))],[(0,some ([.val (.int .i64 3)]++ra++[.val (vL []), .sl 1 (ab o1 na1 xs1 nb1 ys1 nm1 n1 cs1)])),(1,some iw)]⟩ kw ?_;refine kW ?_;refine bP (i:=0) (cs':=ab o1 na1 xs1 nb1 ys1 nm1 n1 cs1) (by decide) (Ll _) (Nat.zero_lt_succ 6) rfl rfl rfl rfl rfl rfl rfl rfl ?_;refine kW ?_;refine kC (ih) ?_
 exact hK.out):p:=e ⟨h⟩
theorem yf {p q:Prop} (h:q) (e:KH q->p:=by
 intro hK
 refine aO rfl rfl rfl rfl rfl rfl rfl (f6 (a:=s) (b:=[]) hne) ?_
 refine kO3 ?_
 exact hK.out):p:=e ⟨h⟩
theorem NV {p:Prop} (e:p:=by
 intro k
 induction k with
 |zero=>intro _;exact⟨[],rfl,fun i r h=>by simp at h⟩
 |succ k ihk=>
  intro hk;obtain⟨rows,h1,h2⟩:=ihk (by omega);obtain⟨r,us,h3,h4,h5⟩:=hrow k (by omega);refine⟨rows++[r],by simp[h1],fun i q hq=>?_⟩
  by_cases hi:i<rows.length
  ·rw[List.getElem?_append_left hi]at hq;exact h2 i q hq
  ·have hil:=(List.getElem?_eq_some_iff.1 hq).1
   simp at hil
   have:i=k:=by omega
   subst this;rw[List.getElem?_append_right (by omega),h1,Nat.sub_self]at hq
   simp at hq
   subst hq;exact⟨us,h3,h4,h5⟩):p:=e
theorem ST {p q:Prop} (h:q) (e:KH q->p:=by
 intro hK
 refine N9 ac rfl rfl rfl rfl rfl rfl rfl rfl rfl ?_
 exact hK.out):p:=e ⟨h⟩
theorem GU {p q:Prop} (h:q) (e:KH q->p:=by
 intro hK
 refine kI ?_
 refine kO3 ?_
 refine kE ?_
 exact hK.out):p:=e ⟨h⟩
theorem Kn {p q:Prop} (h:q) (e:KH q->p:=by
 intro hK
 refine kV func8 ?_;refine kC (vc) ?_
 exact hK.out):p:=e ⟨h⟩
theorem Ki {p q:Prop} (h:q) (e:KH q->p:=by
 intro hK
 refine im (T:=TT) rfl ?_ ?_
 ·exact decide_eq_false (by omega)
 exact hK.out):p:=e ⟨h⟩
theorem pp {p q:Prop} (h:q) (e:KH q->p:=by
 intro hK
 refine kQ (cp) ?_;refine kC (cf) ?_;refine kY ?_;refine kC (c4) ?_
 exact hK.out):p:=e ⟨h⟩
theorem QZ {p q:Prop} (h:q) (e:KH q->p:=by
 intro hK
 refine aO rfl rfl rfl rfl rfl rfl rfl (bO (a:=nm) (b:=[]) (of_decide_eq_true hz)) ?_;refine kW ?_
 exact hK.out):p:=e ⟨h⟩
theorem Q4 {p q:Prop} (h:q) (e:KH q->p:=by
 intro hK
 refine bQ ac (i:=2) (c:=42) rfl rfl rfl rfl rfl rfl rfl rfl rfl ?_
 exact hK.out):p:=e ⟨h⟩
theorem RJ {p q:Prop} (h:q) (e:KH q->p:=by
 intro hK
 refine kO3 ?_
 refine cK 13002 (m1:=0) (m2:=1) ac (by decide) (by decide) rfl rfl rfl rfl rfl rfl rfl rfl rfl rfl rfl (.nil rfl rfl) rfl rfl rfl ?_;refine kW ?_
 exact hK.out):p:=e ⟨h⟩
theorem PV {p q:Prop} (h:q) (e:KH q->p:=by
 intro hK
 rw[pS,if_neg (by decide),if_neg (by decide),if_neg (by decide),if_pos (by decide),decide_eq_false hl,Bool.and_false,Bool.false_and];refine kV func112 ?_
 exact hK.out):p:=e ⟨h⟩
theorem SK {p q:Prop} (h:q) (e:KH q->p:=by
 intro hK
 refine kW ?_;refine⟨i+1,hlt,by omega,?_⟩
 exact hK.out):p:=e ⟨h⟩
theorem sZ {p q:Prop} (h:q) (e:KH q->p:=by
 intro hK
 refine Ly ?_;refine kT ?_
 refine kO4 ?_
 refine kT ?_
 refine kO4 ?_
 refine bQ ac (i:=i+n) (c:=s[i+n]) hx rfl rfl rfl rfl rfl rfl rfl rfl ?_
 exact hK.out):p:=e ⟨h⟩
theorem P5 {p q:Prop} (h:q) (e:KH q->p:=by
 intro hK
 refine aL ⟨[(1, .d (gt l)),(2, .d (ip l)),(3, .box 0 0),(6, .box 1 0),(7, .d (dN .i64 0)),(12, .own 5002 2 5 50),(72, .d (.leaf (.sl 2 (ab o1 na1 xs1 nb1 ys1 nm1 n1 cs1++ab o2 na2 xs2 nb2 ys2 nm2 n2 cs2)))),(73, .d (dN .i64 2)),(74, .d (dN .i64 2))],[(0,some ([.val (.int .i64 (B4.add).code)]++ra++[.val (vL []), .sl 2 (ab o1 na1 xs1 nb1 ys1 nm1 n1 cs1++ab o2 na2 xs2 nb2 ys2 nm2 n2 cs2)])),(1,some iw),(5002,some (j7 x.1 x.2++j7 y.1 y.2))]⟩ kw ?_
 exact hK.out):p:=e ⟨h⟩
theorem Bw {p q:Prop} (h:q) (e:KH q->p:=by
 intro hK
 refine aL ⟨[(1, .d (gt l)),(2, .d (ip l)),(3, .box 0 0),(6, .box 1 0),(7, .d (dN .i64 0)),(12, .own 5002 2 5 50),(72, .d (.leaf (.sl 2 (ab o1 na1 xs1 nb1 ys1 nm1 n1 cs1++ab o2 na2 xs2 nb2 ys2 nm2 n2 cs2)))),(73, .d (dN .i64 2)),(74, .d (dN .i64 2))],[(0,some ([.val (.int .i64 (B4.div).code)]++ra++[.val (vL []), .sl 2 (ab o1 na1 xs1 nb1 ys1 nm1 n1 cs1++ab o2 na2 xs2 nb2 ys2 nm2 n2 cs2)])),(1,some iw),(5002,some (j7 x.1 x.2++j7 y.1 y.2))]⟩ kw ?_
 exact hK.out):p:=e ⟨h⟩
theorem H2 {p q:Prop} (h:q) (e:KH q->p:=by
 intro hK
 refine aL ⟨[(1, .d (gt l)),(2, .d (ip l)),(3, .box 0 0),(6, .box 1 0),(7, .d (dN .i64 0)),(12, .own 5002 2 5 50),(72, .d (.leaf (.sl 2 (ab o1 na1 xs1 nb1 ys1 nm1 n1 cs1++ab o2 na2 xs2 nb2 ys2 nm2 n2 cs2)))),(73, .d (dN .i64 2)),(74, .d (dN .i64 2))],[(0,some ([.val (.int .i64 (B4.mul).code)]++ra++[.val (vL []), .sl 2 (ab o1 na1 xs1 nb1 ys1 nm1 n1 cs1++ab o2 na2 xs2 nb2 ys2 nm2 n2 cs2)])),(1,some iw),(5002,some (j7 x.1 x.2++j7 y.1 y.2))]⟩ kw ?_
 exact hK.out):p:=e ⟨h⟩
theorem Qw {p q:Prop} (h:q) (e:KH q->p:=by
 intro hK
 refine aL ⟨[(1, .d (gt l)),(2, .d (ip l)),(3, .box 0 0),(6, .box 1 0),(7, .d (dN .i64 0)),(12, .own 5002 2 5 50),(72, .d (.leaf (.sl 2 (ab o1 na1 xs1 nb1 ys1 nm1 n1 cs1++ab o2 na2 xs2 nb2 ys2 nm2 n2 cs2)))),(73, .d (dN .i64 2)),(74, .d (dN .i64 2))],[(0,some ([.val (.int .i64 (B4.sub).code)]++ra++[.val (vL []), .sl 2 (ab o1 na1 xs1 nb1 ys1 nm1 n1 cs1++ab o2 na2 xs2 nb2 ys2 nm2 n2 cs2)])),(1,some iw),(5002,some (j7 x.1 x.2++j7 y.1 y.2))]⟩ kw ?_
 exact hK.out):p:=e ⟨h⟩
theorem zI {p q:Prop} (h:q) (e:KH q->p:=by
 intro hK
 refine kV func112 ?_
 exact hK.out):p:=e ⟨h⟩
theorem RK {p q:Prop} (h:q) (e:KH q->p:=by
 intro hK
 refine u5 7001 (m1:=0) (m2:=q) ac hq0 (hb _ (by omega)) (by rw[List.length_take,hc];omega) rfl rfl rfl rfl rfl rfl rfl rfl rfl (.nil rfl rfl) rfl rfl (by rw[rZ hB];rfl) rfl ?_
 refine kO2 ?_
 refine u5 7002 (m1:=0+q) (m2:=1) ac (by decide) (hb _ (by omega)) rfl rfl rfl rfl rfl rfl rfl rfl rfl rfl (.own rfl rfl) rfl rfl rfl rfl ?_
 refine kO2 ?_
 refine uE ac (by rw[hc];exact Nat.le_refl _) hple hd rfl rfl rfl rfl rfl rfl rfl rfl ?_
 exact hK.out):p:=e ⟨h⟩
theorem J9 {p q:Prop} (h:q) (e:KH q->p:=by
 intro hK
 refine aO rfl rfl rfl rfl rfl rfl rfl (b6 (a:=nm) (b:=[]) (of_decide_eq_false hz)) ?_
 exact hK.out):p:=e ⟨h⟩
theorem OU {p q:Prop} (h:q) (e:KH q->p:=by
 intro hK
 show aa Tryz.prog _ [.agg (ab op na xs nb ys nm args.length (da args))] _
 exact hK.out):p:=e ⟨h⟩
theorem PK {p q:Prop} (h:q) (e:KH q->p:=by
 intro hK
 refine u5 6001 (m1:=0) (m2:=q) ac hq0 (hb1 _ (by omega)) (by rw[List.length_take,hcn];omega) rfl rfl rfl rfl rfl rfl rfl rfl rfl (.nil rfl rfl) rfl rfl (by rw[rZ hBn];rfl) rfl ?_
 refine kO2 ?_
 refine u5 6002 (m1:=0+q) (m2:=1) ac (by decide) (hb1 _ (by omega)) rfl rfl rfl rfl rfl rfl rfl rfl rfl rfl (.own rfl rfl) rfl rfl rfl rfl ?_
 refine kO2 ?_
 refine uE ac (by rw[hcn];omega) hple hd rfl rfl rfl rfl rfl rfl rfl rfl ?_
 exact hK.out):p:=e ⟨h⟩
theorem As {p q:Prop} (h:q) (e:KH q->p:=by
 intro hK
 refine kB true ?_ ?_
 ·exact(by simp;omega)
 exact hK.out):p:=e ⟨h⟩
theorem N7 {p q:Prop} (h:q) (e:KH q->p:=by
 intro hK
 refine kO ?_;refine kB false ?_ ?_
 ·exact(by simp;omega)
 refine kW ?_;refine kC (hno) ?_
 exact hK.out):p:=e ⟨h⟩
theorem Q2 {p q:Prop} (h:q) (e:KH q->p:=by
 intro hK
 refine kB true ?_ ?_
 ·exact bne_iff_ne.2 h0
 exact hK.out):p:=e ⟨h⟩
theorem Sl {p:Prop} (e:p:=by
 refine kW ?_;exact⟨⟨_,rfl,rfl,rfl⟩,⟨rfl,trivial⟩⟩):p:=e
theorem NR {p:Prop} (e:p:=by
 refine xW ac rfl rfl rfl rfl rfl rfl rfl rfl rfl ?_;refine kW ?_;refine ft (T:=TT) rfl ?_ ?_
 ·exact decide_eq_true rfl
 refine kW ?_;refine q7 1003 (m1:=i) (m2:=1) (cs2:=x) ac (by decide) (hby _ (by omega)) (by rw[hx];exact Nat.le_refl _) rfl rfl rfl rfl rfl rfl rfl rfl rfl (.own rfl rfl) rfl rfl rfl ?_ rfl ?_
 ·rw[eU hX];rfl
 refine kW ?_;exact⟨⟨_,rfl,rfl,rfl⟩,⟨congrArg some hfin,trivial⟩⟩):p:=e
theorem Oj {p q:Prop} (h:q) (e:KH q->p:=by
 intro hK
 refine kJ ((i+1:Nat)) ?_;refine jQ ac (show i+1<=m+1 by omega) (show i+1<c by omega) rfl rfl rfl rfl rfl rfl rfl rfl rfl ?_
 exact hK.out):p:=e ⟨h⟩
theorem AY {p q:Prop} (h:q) (e:KH q->p:=by
 intro hK
 refine kN ?_;refine eZ (T:=TT) rfl ?_
 exact hK.out):p:=e ⟨h⟩
theorem zu {p q:Prop} (h:q) (e:KH q->p:=by
 intro hK
 refine kW ?_;refine ax (yQ (neg:=false) (xs:=digs u) (av _) (show ap false (digs u)=((Nat.gcd (val xs) (val ys):Nat):Int) by rw[jP,<- hg];rfl)) rfl rfl rfl rfl rfl rfl rfl ?_
 exact hK.out):p:=e ⟨h⟩
theorem At {p:Prop} (e:p:=by
 have hz:∀ad:Addr,(loadCells ad 0).run P w= .ok #[] w:=fun ad=>by
  simpa using run_loadCells_list (P:=P) w ad [] (fun j v hj=>by simp at hj)
 cases A with
 |none=>simp[Builtin.append_,run_underlying hu,bB hks w,Builtin.lenOf,Builtin.firstCells,e2,storeCells]
 |some ad=>simp[Builtin.append_,run_underlying hu,bB hks w,Builtin.lenOf,Builtin.firstCells,e2,storeCells,hz]):p:=e
theorem OL {p q:Prop} (h:q) (e:KH q->p:=by
 intro hK
 refine Ml ac rfl rfl rfl rfl (a7 (q:=2) rfl rfl) ?_
 exact hK.out):p:=e ⟨h⟩
theorem Qh {p q:Prop} (h:q) (e:KH q->p:=by
 intro hK
 refine kO3 ?_
 refine kE ?_
 refine kO3 ?_
 exact hK.out):p:=e ⟨h⟩
theorem AM {p q:Prop} (h:q) (e:KH q->p:=by
 intro hK
 refine aO rfl rfl rfl rfl rfl rfl rfl (bO (a:=nm) (b:=[]) hnm) ?_
 refine kO5 ?_
 exact hK.out):p:=e ⟨h⟩
theorem Kq {p q:Prop} (h:q) (e:KH q->p:=by
 intro hK
 refine kB true ?_ ?_
 ·exact(by simpa using hz)
 exact hK.out):p:=e ⟨h⟩
theorem Bj {p q:Prop} (h:q) (e:KH q->p:=by
 intro hK
 refine kO3 ?_
 refine bP (i:=i) (cs':=[.val (vL l[i].1)]) hil (BO hx) (by simp) rfl rfl rfl rfl rfl rfl rfl rfl ?_
 exact hK.out):p:=e ⟨h⟩
theorem Q5 {p q:Prop} (h:q) (e:KH q->p:=by
 intro hK
 refine aO rfl rfl rfl rfl rfl rfl rfl (b6 (a:=nm) (b:=[]) hnm) ?_
 exact hK.out):p:=e ⟨h⟩
theorem Px {p q:Prop} (h:q) (e:KH q->p:=by
 intro hK
 refine kW ?_;refine kQ (cf) ?_
 exact hK.out):p:=e ⟨h⟩
theorem QK {p:Prop} (e:p:=by
 funext q
 apply propext
 constructor
 ·rintro(h1|h1)
  ·exact h1.1
  ·exact bxown q h1
 ·intro h1
  by_cases h2:BX g b q
  ·exact .inr h2
  ·exact .inl ⟨h1,h2⟩):p:=e
theorem BG {p:Prop} (e:p:=by
 refine kW ?_;exact Tz):p:=e
theorem Bc {p q:Prop} (h:q) (e:KH q->p:=by
 intro hK
 refine bG ?_;refine bz rfl ?_
 refine kO2 ?_
 exact hK.out):p:=e ⟨h⟩
theorem RG {p q:Prop} (h:q) (e:KH q->p:=by
 intro hK
 rw[pS,if_neg (by decide),if_neg (by decide),if_neg (by decide),if_pos (by decide),decide_eq_true hl,Bool.and_true]
 exact hK.out):p:=e ⟨h⟩
theorem Pv {p:Prop} (e:p:=by
 exact congrArg (fun z=>RV.one (dN .i64 z)) hv.symm):p:=e
theorem xF {p:Prop} (e:p:=by
 refine⟨jZ K (fmt (pw q K).num),?_,fun u h=>?_⟩
 ·have:(gm q).isSome=decide ((jZ K (fmt (pw q K).num)).length<=40):=by
   rw[h2]
   split
   ·rename_i h;simp[h]
   ·rename_i h;simp[h]
  rw[this];exact main _ _ (fun h=>by omega) (fun _=>⟨rfl,rfl⟩)
 ·rw[h2]at h
  split at h
  ·cases h;rfl
  ·cases h):p:=e
theorem Pb {p q:Prop} (h:q) (e:KH q->p:=by
 intro hK
 refine kO2 ?_
 refine kC (cn) ?_
 exact hK.out):p:=e ⟨h⟩
theorem Rt {p q:Prop} (h:q) (e:KH q->p:=by
 intro hK
 refine kO3 ?_
 refine cK 13003 (m1:=1) (m2:=1) ac (by decide) (by decide) rfl rfl rfl rfl rfl rfl rfl rfl rfl rfl rfl (.own rfl rfl) rfl rfl rfl ?_;refine kW ?_
 exact hK.out):p:=e ⟨h⟩
theorem KK {p:Prop} (e:p:=by
 refine ui ac rfl rfl rfl rfl rfl rfl rfl rfl ?_;refine kW ?_;refine q7 1003 (m1:=0) (m2:=1) (cs2:=x) ac (by decide) (by decide) (by rw[hx];exact Nat.le_refl _) rfl rfl rfl rfl rfl rfl rfl rfl rfl (.nil rfl rfl) rfl rfl rfl ?_ rfl ?_
 ·rw[eU hB];rfl
 refine kW ?_;exact⟨⟨_,rfl,rfl,rfl⟩,⟨congrArg some hcs,trivial⟩⟩):p:=e
theorem PQ {p q:Prop} (h:q) (e:KH q->p:=by
 intro hK
 refine kB false ?_ ?_
 ·exact(by simp[e1])
 refine kO5 ?_
 refine aO rfl rfl rfl rfl rfl rfl rfl (gY (a:=nm) (b:=nm') e2) ?_
 iterate 8 refine kO ?_
 exact hK.out):p:=e ⟨h⟩
theorem P3 {p q:Prop} (h:q) (e:KH q->p:=by
 intro hK
 refine NF ?_
 refine kO2 ?_
 refine u5 7002 (m1:=0) (m2:=1) ac (by decide) (by decide) rfl rfl rfl rfl rfl rfl rfl rfl rfl rfl (.nil rfl rfl) rfl rfl rfl rfl ?_
 refine kO2 ?_
 refine uE ac (by rw[hc];exact Nat.le_refl _) hple hd rfl rfl rfl rfl rfl rfl rfl rfl ?_
 exact hK.out):p:=e ⟨h⟩
theorem RE {p q:Prop} (h:q) (e:KH q->p:=by
 intro hK
 refine kB false ?_ ?_
 ·exact bne_eq_false_iff_eq.2 h0
 exact hK.out):p:=e ⟨h⟩
theorem yT {p q:Prop} (h:q) (e:KH q->p:=by
 intro hK
 refine kT ?_
 refine kO2 ?_
 refine kE ?_
 exact hK.out):p:=e ⟨h⟩
theorem Lv {p q:Prop} (h:q) (e:KH q->p:=by
 intro hK
 refine kW ?_;refine ax (eQ 1 (by decide) (by decide)) rfl rfl rfl rfl rfl rfl rfl ?_;refine kW ?_
 exact hK.out):p:=e ⟨h⟩
theorem LV {p q:Prop} (h:q) (e:KH q->p:=by
 intro hK
 refine kV func23 ?_;refine qR 5001 ac rfl rfl rfl rfl rfl rfl rfl rfl ?_;refine kO ?_;refine cK 5002 (m1:=0) (m2:=(a::r).length) ac (Nat.zero_lt_succ _) (hby _ (by omega)) hlc rfl rfl rfl rfl rfl rfl rfl rfl rfl rfl (.own rfl rfl) rfl rfl (by rw[hok];rfl) ?_;rw[Nat.zero_add (a::r).length]
 exact hK.out):p:=e ⟨h⟩
theorem po {p q:Prop} (h:q) (e:KH q->p:=by
 intro hK
 refine NF ?_
 refine kO2 ?_
 refine u5 6002 (m1:=0) (m2:=1) ac (by decide) (by decide) rfl rfl rfl rfl rfl rfl rfl rfl rfl rfl (.nil rfl rfl) rfl rfl rfl rfl ?_
 refine kO2 ?_
 refine uE ac (by rw[hcn];omega) hple hd rfl rfl rfl rfl rfl rfl rfl rfl ?_
 exact hK.out):p:=e ⟨h⟩
theorem MA {p q:Prop} (h:q) (e:KH q->p:=by
 intro hK
 refine jQ ac (show i<=m+1 by omega) (show i<c by omega) rfl rfl rfl rfl rfl rfl rfl rfl rfl ?_
 exact hK.out):p:=e ⟨h⟩
theorem Nm {p q:Prop} (h:q) (e:KH q->p:=by
 intro hK
 refine kW ?_;refine ax (fe (h.1.fit (by omega)) (h'.1.fit (by omega))) rfl rfl rfl rfl rfl rfl rfl ?_;refine kW ?_;refine ax (fe (h.2.fit (by omega)) (h'.2.fit (by omega))) rfl rfl rfl rfl rfl rfl rfl ?_;refine kW ?_;refine kC (ig (h.1.mul h'.1) (h.2.mul h'.2) hk d0 (lM a b)) ?_
 exact hK.out):p:=e ⟨h⟩
theorem pd {p q:Prop} (h:q) (e:KH q->p:=by
 intro hK
 refine kI ?_
 refine kO2 ?_
 refine nu (v':= .int .i64 ((5:Nat))) rfl rfl rfl rfl ?_ ?_
 ·exact congrArg (Value.int .i64) (by rw[hB])
 refine kO2 ?_
 refine cK 15002 (m1:=3) (m2:=1) ac (by decide) (by decide) rfl rfl rfl rfl rfl rfl rfl rfl rfl rfl rfl (.own rfl rfl) rfl rfl rfl ?_
 exact hK.out):p:=e ⟨h⟩
theorem C3 {p q:Prop} (h:q) (e:KH q->p:=by
 intro hK
 refine kO3 ?_
 refine nu (v':= .bool (decide (z.length<=40))) rfl rfl rfl rfl ?_ ?_
 ·exact congrArg Value.bool (decide_eq_decide.2 (by omega))
 exact hK.out):p:=e ⟨h⟩
theorem uk {p:Prop} (e:p:=by
 have:=Nat.le_mul_of_pos_right (m1+m2) (Nat.le_of_ble_eq_true hq0.2);omega):p:=e
theorem Ga {p q:Prop} (h:q) (e:KH q->p:=by
 intro hK
 refine bP (i:=_) (cs':=[.val (vL nm)]) hil (ib hx) (Nat.zero_lt_succ 0) rfl rfl rfl rfl rfl rfl rfl rfl ?_;refine kW ?_;refine kC (cf) ?_;refine bP (i:=k) (cs':=bl p.1 o1 na1 xs1 nb1 ys1 nm1 n1 cs1) hkl hat (Nat.zero_lt_succ 7) rfl rfl rfl rfl rfl rfl rfl rfl ?_
 refine kO4 ?_
 exact hK.out):p:=e ⟨h⟩
theorem LT {p q:Prop} (h:q) (e:KH q->p:=by
 intro hK
 refine Ni ?_;refine kW ?_;refine kQ (kl (na:=nb) hw' c2) ?_
 exact hK.out):p:=e ⟨h⟩
theorem HE {p q:Prop} (h:q) (e:KH q->p:=by
 intro hK
 refine kI ?_;refine kY ?_
 exact hK.out):p:=e ⟨h⟩
theorem Np {p:Prop} (e:p:=by
 rcases hbst with⟨h3,h4⟩| ⟨k,q,h3,h4,h5⟩
 ·exact .inr (.inr (.inl ⟨h,h2,h3,h4⟩))
 ·rcases Bool.eq_false_or_eq_true (Op.bytesLess p.1 q.1)with h6|h6
  ·exact .inr (.inr (.inr (.inr ⟨k,q,h,h2,h3,h4,h5,h6⟩)))
  ·exact .inr (.inr (.inr (.inl ⟨k,q,h,h2,h3,h4,h5,h6⟩)))):p:=e
theorem NL {p q:Prop} (h:q) (e:KH q->p:=by
 intro hK
 refine NC ?_;refine kW ?_;refine kQ (lY (na:=nb) hw' c2) ?_
 exact hK.out):p:=e ⟨h⟩
theorem NG {p q:Prop} (h:q) (e:KH q->p:=by
 intro hK
 refine kW ?_;refine kQ (cv) ?_
 exact hK.out):p:=e ⟨h⟩
theorem LC {p:Prop} (e:p:=by
 rw[b8,eN e5];rw[List.getElem?_take]at hi
 split at hi
 ·simpa using hi
 ·cases hi):p:=e
theorem Jn {p q:Prop} (h:q) (e:KH q->p:=by
 intro hK
 refine kI ?_
 refine kO4 ?_
 refine kT ?_
 exact hK.out):p:=e ⟨h⟩
theorem Cb {p q:Prop} (h:q) (e:KH q->p:=by
 intro hK
 refine kW ?_;refine bP (i:=i) (cs':=[.val (vL q)]) hlt (ib hx) (Nat.zero_lt_succ 0) rfl rfl rfl rfl rfl rfl rfl rfl ?_;refine kO ?_
 exact hK.out):p:=e ⟨h⟩
theorem Mm {p q:Prop} (h:q) (e:KH q->p:=by
 intro hK
 refine kG ?_
 refine kO3 ?_
 refine kJ ((i+1:Nat)) ?_;refine kA ac (show i+1<m+1 by omega) rfl rfl rfl rfl rfl rfl rfl rfl rfl ?_
 refine kO2 ?_
 refine jQ ac (show i<=m by omega) (show i<c by omega) rfl rfl rfl rfl rfl rfl rfl rfl rfl ?_
 exact hK.out):p:=e ⟨h⟩
theorem Dr {p:Prop} (e:p:=by
 cases hbase with
 |nil a b=>exact .nil (hx2.trans a) b
 |own a b=>exact .own (hx2.trans a) ((aN (hrb _ (by simp[r9]))).trans b)):p:=e
theorem Fr {p q:Prop} (h:q) (e:KH q->p:=by
 intro hK
 refine gT (ce.rdW (ts:=[.d (.agg (ab o1 na1 xs1 nb1 ys1 nm1 n1 cs1)), .own 5001 (i+1) 1 9, .own 5002 (i+1) 5 50]) (b:=[(5001,au (env.map (·.1))),(5002,kp env)]) rfl hwd (NZ rfl rfl)) rfl rfl rfl rfl rfl ⟨rfl,rfl,trivial⟩ rfl rfl rfl rfl ?_;refine kW ?_
 exact hK.out):p:=e ⟨h⟩
theorem CL {p:Prop} (e:p:=by
 rw[hb]at c;refine kQ (c) ?_
 exact⟨i+1,⟨hlt,fun q y h1 h2=>by
  by_cases e:q=i
  ·subst e;rw[hx]at h2;cases h2;exact hb
  ·exact hq q y (by omega) h2⟩,by omega,weak ⟨rfl,rfl,ak (by omega) (by omega),trivial⟩ ⟨rfl,trivial⟩ rfl⟩):p:=e
theorem Gj {p:Prop} (e:p:=by
 constructor
 ·rintro⟨h1,h2⟩
  refine⟨TU.1 h1,fun cs hc=>?_⟩;have:=h2 _ (m4 hc)
  rwa[jl]at this
 ·rintro⟨h1,h2⟩
  refine⟨TU.2 h1,fun cs hc=>?_⟩;obtain⟨c0,h0,rfl⟩:=gF hc;rw[js]at h0;rw[jl];exact h2 c0 h0):p:=e
theorem My {p q:Prop} (h:q) (e:KH q->p:=by
 intro hK
 refine kV func145 ?_;refine ax (uC (na:=na) hw (by unfold mo;omega) hn) rfl rfl rfl rfl rfl rfl rfl ?_;refine kW ?_;refine ax (uC (na:=nb) hw' (by unfold mo;omega) hd) rfl rfl rfl rfl rfl rfl rfl ?_;refine kW ?_
 exact hK.out):p:=e ⟨h⟩
theorem ze {p q:Prop} (h:q) (e:KH q->p:=by
 intro hK
 refine kT ?_
 refine kO3 ?_
 refine bQ ac (i:=0) (c:=c) h0 rfl rfl rfl rfl rfl rfl rfl rfl ?_;refine kC (c1) ?_
 exact hK.out):p:=e ⟨h⟩
theorem tB {p q:Prop} (h:q) (e:KH q->p:=by
 intro hK
 unfold Instr.sliceAt
 simp only[Sem.run_bind,run_underlying hu w,Result.andThen_ok]
 exact hK.out):p:=e ⟨h⟩
theorem Ds {p q:Prop} (h:q) (e:KH q->p:=by
 intro hK
 refine bQ ac (i:=0) (c:=51) rfl rfl rfl rfl rfl rfl rfl rfl rfl ?_
 refine kO4 ?_
 refine bQ ac (i:=0) (c:=51) rfl rfl rfl rfl rfl rfl rfl rfl rfl ?_;refine kW ?_;refine kQ (w0) ?_;refine kQ (n0) ?_
 exact hK.out):p:=e ⟨h⟩
theorem HX {p q:Prop} (h:q) (e:KH q->p:=by
 intro hK
 refine bf ac fo func168 rfl rfl rfl rfl rfl (j6) ?_;refine kW ?_
 exact hK.out):p:=e ⟨h⟩
theorem Q3 {p:Prop} (e:p:=by
 unfold execOp;rw[h2]
 simp only[e1,aY hM hy,Option.map_some,Option.map_none,Sem.run_bind,hr,Result.andThen_ok]
 rfl):p:=e
theorem MV {p q:Prop} (h:q) (e:KH q->p:=by
 intro hK
 refine kW ?_;refine ft (T:=TT) rfl ?_ ?_
 ·exact decide_eq_true (by omega)
 exact hK.out):p:=e ⟨h⟩
theorem Mu {p q:Prop} (h:q) (e:KH q->p:=by
 intro hK
 refine wZ 16002 (cs:=[.val (vL x)]) ac rfl rfl rfl rfl rfl rfl rfl rfl rfl rfl rfl rfl rfl ?_
 refine kO2 ?_
 exact hK.out):p:=e ⟨h⟩
theorem DA {p q:Prop} (h:q) (e:KH q->p:=by
 intro hK
 refine kV func126 ?_;refine kC (rK h h' hk rfl) ?_
 refine kO4 ?_
 refine nu (v':= .int .i64 (p+p')) rfl rfl rfl rfl ?_ ?_
 ·exact congrArg (Value.int .i64) (by rw[IntWalk.i64_in _ (by omega)])
 refine kW ?_
 exact hK.out):p:=e ⟨h⟩
theorem MC {p q:Prop} (h:q) (e:KH q->p:=by
 intro hK
 refine kT ?_
 refine kO2 ?_
 refine kT ?_
 exact hK.out):p:=e ⟨h⟩
theorem LK {p q:Prop} (h:q) (e:KH q->p:=by
 intro hK
 refine bQ ac (i:=j) (c:=s[j]) hx rfl rfl rfl rfl rfl rfl rfl rfl ?_
 exact hK.out):p:=e ⟨h⟩
theorem Nl {p:Prop} (e:p:=by
 refine⟨[],?_,fun u h=>by rw[h0]at h;cases h⟩;rw[h0];exact main _ _ (fun _=>⟨rfl,rfl⟩) (fun h=>by omega)):p:=e
theorem Cw {p:Prop} (e:p:=by
 rw[hb]at c;refine kZ (c) ?_;refine⟨i+1,?_,by omega,weak ⟨rfl,rfl,rfl,rfl,ak (by omega) (by omega),trivial⟩ ⟨rfl,trivial⟩ rfl⟩
 by_cases e:i=f
 ·have:=hyi e;rw[hb]at this;cases this
 ·omega):p:=e
theorem FY {p:Prop} (e:p:=by
 exact congrArg Value.bool (decide_eq_decide.2 (by omega))):p:=e
theorem Nr {p q:Prop} (h:q) (e:KH q->p:=by
 intro hK
 refine kO2 ?_
 refine kC (cE) ?_
 iterate 6 refine kO ?_
 refine kB false ?_ ?_
 ·exact bne_eq_false_iff_eq.2 (by rw[hlen])
 iterate 6 refine kO ?_
 refine kB false ?_ ?_
 ·exact bne_eq_false_iff_eq.2 rfl
 refine kW ?_
 exact hK.out):p:=e ⟨h⟩
theorem LX {p q:Prop} (h:q) (e:KH q->p:=by
 intro hK
 refine kO4 ?_
 refine gT ((cc.rd (ts:=[.own 7001 (List.cons b O1).length 1 9, .d (dL q.1)]) (b:=[(7001,au (List.cons b O1))]) rfl rfl)) rfl rfl rfl rfl rfl ⟨rfl,trivial⟩ rfl rfl rfl rfl ?_;refine kW ?_
 exact hK.out):p:=e ⟨h⟩
theorem Lt {p q:Prop} (h:q) (e:KH q->p:=by
 intro hK
 refine kU func97 ?_;refine kR ?_;refine kI ?_
 iterate 12 refine kO ?_
 exact hK.out):p:=e ⟨h⟩
theorem L6 {p:Prop} (e:p:=by
 simp only at h'
 split at h
 ·split at h'
  ·rename_i r1 h1 _ r2 h2
   have:=yU (fun x _ y z=>ih x y z) h1 h2;subst this;rw[<- Option.some.inj h,<- Option.some.inj h']
  ·cases h'
 ·cases h):p:=e
theorem Lw {p:Prop} (e:p:=by
 refine kX ?_;refine kQ (xO g1 hv) ?_;exact⟨(v,u%v),⟨rT.trans hg,g2,Nat.le_trans (eh (Nat.le_of_lt hm)) g2⟩,hm,weak ⟨rfl,rfl,rfl,trivial⟩ ⟨rfl,trivial⟩ rfl⟩):p:=e
theorem Lz {p q:Prop} (h:q) (e:KH q->p:=by
 intro hK
 refine HY 7004 ac (m1:=m) (m2:=1) (m3:=m+1) (p:=p) (by omega) hpl rfl rfl (hby _ (by omega)) (by omega) hob rfl rfl rfl rfl rfl rfl rfl rfl rfl rfl rfl (.sl rfl rfl (Nat.zero_lt_succ 0)) rfl rfl rfl ?_
 exact hK.out):p:=e ⟨h⟩
theorem MP {p q:Prop} (h:q) (e:KH q->p:=by
 intro hK
 refine kW ?_;refine kC (c1) ?_
 refine kO4 ?_
 refine kC (c2) ?_
 exact hK.out):p:=e ⟨h⟩
theorem FA {p:Prop} (e:p:=by
 rw[h1]at h;rw[kr f _ _ _ h1];cases y with
 |error e=>exact h
 |ok y=>exact kr f _ _ _ h):p:=e
theorem Mk {p:Prop} (e:p:=by
 rw[hnext,jr,if_neg (fun h2=>by
  rcases h with h|h
  ·rw[h]at h2;exact absurd h2.1 (by decide)
  ·rcases h2.2 with h3|h3
   ·exact h.1 h3
   ·rw[h.2]at h3;cases h3)]):p:=e
theorem tC {p q:Prop} (h:q) (e:KH q->p:=by
 intro hK
 refine kO3 ?_
 refine kY ?_;refine ft (T:=TT) rfl ?_ ?_
 ·exact(by rw[hl0];rfl)
 refine kW ?_;refine ax (rM (av u) (by omega)) rfl rfl rfl rfl rfl rfl rfl ?_
 exact hK.out):p:=e ⟨h⟩
theorem Ci {p q:Prop} (h:q) (e:KH q->p:=by
 intro hK
 refine kG ?_;refine kO ?_;refine kB false ?_ ?_
 ·exact decide_eq_false h0
 refine kW ?_;refine kC (c2) ?_;refine kQ (cV) ?_;refine kC (c2) ?_;refine kO ?_;refine kC (c3) ?_;refine kG ?_
 exact hK.out):p:=e ⟨h⟩
theorem Qk {p:Prop} (e:p:=by
 unfold dP gH
 split
 ·rename_i h
  refine .inl ⟨h,rfl,?_⟩;unfold bX;rw[JN p h,List.length_set]
 ·refine .inr ⟨rfl,?_⟩
  unfold bX;rw[kM,pU,List.length_append];rfl):p:=e
theorem CY {p:Prop} (e:p:=by
 have e1:=cw.1 h1;have e2:=cw.1 h2
 by_cases e:j=1003
 ·subst e;cases e1
 ·rw[show aw [(1003,cs')]=[(1003,some cs')] from rfl,aq _ _ (fun h=>e h.symm)]at e2;cases e2):p:=e
theorem Cp {p q:Prop} (h:q) (e:KH q->p:=by
 intro hK
 refine kE ?_;refine kG ?_
 refine kO3 ?_
 refine kJ ((m+1:Nat)) ?_;refine Af ac (show m+1<=c by omega) rfl rfl rfl rfl rfl rfl rfl rfl rfl ?_;refine kG ?_
 refine kO4 ?_
 exact hK.out):p:=e ⟨h⟩
theorem Nh {p:Prop} (e:p:=by
 refine kW ?_;exact⟨i+1,hlt,by omega,weak ⟨rfl,rfl,rfl,rfl,ak (by omega) (by omega),congrArg (fun z=>TV.d (dL z)) (keep (.inl (by rw[hcd,hb1];rfl))),trivial⟩ ⟨rfl,trivial⟩ rfl⟩):p:=e
theorem Ja {p:Prop} (e:p:=by
 generalize a.eval y=v at hyv;cases hyv with
 |emp=>exact⟨_,_,rfl⟩
 |sl=>exact⟨_,_,rfl⟩):p:=e
theorem Nt {p:Prop} (e:p:=by
 rw[hnext,jr,if_neg (fun h2=>by
  rcases h2.2 with h2|h2
  ·exact ho.ne (List.mem_of_getElem? hk) (hq.trans h2)
  ·rw[<- hq,hls]at h2;cases h2)]
 exact .inr ⟨k,q,rfl,hk,hq⟩):p:=e
theorem LI {p:Prop} (e:p:=by
 rw[this];exact de (T:=TT) rfl rfl):p:=e
theorem L7 {p q:Prop} (h:q) (e:KH q->p:=by
 intro hK
 refine kO2 ?_
 refine gT ((cg.rd (ts:=[.own 3001 G.length 1 9, .d (dL p.1)]) (b:=[(3001,au G)]) rfl rfl)) rfl rfl rfl rfl rfl ⟨rfl,trivial⟩ rfl rfl rfl rfl ?_;refine kW ?_
 exact hK.out):p:=e ⟨h⟩
theorem Io {p:Prop} (e:p:=by
 injection this with this
 injection this with this
 injection this):p:=e
theorem Rm {p q:Prop} (h:q) (e:KH q->p:=by
 intro hK
 refine kO2 ?_
 refine kC (c1) ?_
 refine kO5 ?_
 exact hK.out):p:=e ⟨h⟩
theorem CI {p q:Prop} (h:q) (e:KH q->p:=by
 intro hK
 refine kO3 ?_
 refine kC (c2) ?_
 refine kO2 ?_
 exact hK.out):p:=e ⟨h⟩
theorem HL {p:Prop} (e:p:=by
 refine kW ?_;exact⟨k+1,hkl,by omega,weak ⟨rfl,rfl,rfl,rfl,rfl,rfl,congrArg (fun b=>TV.d (dB b)) (by rw[hst2];rfl),ak (by omega) (by omega),trivial⟩ ⟨rfl,trivial⟩ rfl⟩):p:=e
theorem No {p q:Prop} (h:q) (e:KH q->p:=by
 intro hK
 refine kW ?_;refine kQ (cT (tz ha)) ?_
 exact hK.out):p:=e ⟨h⟩
theorem MI {p q:Prop} (h:q) (e:KH q->p:=by
 intro hK
 refine B3 ac (m1:=m) (m2:=1) (m3:=m+1) (p:=p) hroom hpl rfl rfl rfl rfl rfl rfl rfl rfl rfl rfl rfl rfl rfl (.sl rfl rfl (Nat.zero_lt_succ 0)) rfl rfl ?_;refine kW ?_
 exact hK.out):p:=e ⟨h⟩
theorem Ma {p q:Prop} (h:q) (e:KH q->p:=by
 intro hK
 refine bQ ac (i:=1) (c:=32) rfl rfl rfl rfl rfl rfl rfl rfl rfl ?_;refine kW ?_
 exact hK.out):p:=e ⟨h⟩
theorem MB {p q:Prop} (h:q) (e:KH q->p:=by
 intro hK
 refine kO3 ?_
 refine cK 13004 (m1:=2) (m2:=1) ac (by decide) (by decide) rfl rfl rfl rfl rfl rfl rfl rfl rfl rfl rfl (.own rfl rfl) rfl rfl rfl ?_;refine kW ?_
 exact hK.out):p:=e ⟨h⟩
theorem LW {p:Prop} (e:p:=by
 exact⟨i+1,hlt,by omega,weak ⟨rfl,rfl,rfl,rfl,ak (by omega) (by omega),congrArg (fun z=>TV.d (dL z)) (keep (.inl (by rw[hcd,hb1];rfl))),trivial⟩ trivial rfl⟩):p:=e
theorem GD {p:Prop} (e:p:=by
 obtain⟨b,off,f,e,hn,hl,h1,h2⟩:=hP.gl k cs hk;exact⟨b,off,f,e,fun h=>hn (.inl h),hl,h1,fun i a hi=>(h2 i a hi).agree (bJ.refl _ _) (fun _ _ h=> .inl h)⟩):p:=e
theorem DD {p q:Prop} (h:q) (e:KH q->p:=by
 intro hK
 rw[show sv q= .agg (bl q.1 o1 na1 xs1 nb1 ys1 nm1 n1 cs1) from congrArg DV.agg hB]
 exact hK.out):p:=e ⟨h⟩
theorem LL {p:Prop} (e:p:=by
 rw[Nat.zero_add,show i+(m-i)=m by omega];omega):p:=e
theorem Ny {p q:Prop} (h:q) (e:KH q->p:=by
 intro hK
 refine bV (a7 (q:=6) rfl rfl) rfl ?_;refine kO ?_;refine kC (co) ?_
 exact hK.out):p:=e ⟨h⟩
theorem L0 {p:Prop} (e:p:=by
 rw[List.nodup_append];refine⟨h.nd,List.nodup_cons.2 ⟨by simp,List.nodup_nil⟩,fun a ha b hb=>?_⟩;rw[List.mem_singleton.1 hb];exact fun e=>hc.2 (e ▸ ha)):p:=e
theorem LJ {p q:Prop} (h:q) (e:KH q->p:=by
 intro hK
 refine kO3 ?_
 refine gn (i:=k) hko rfl rfl rfl rfl rfl rfl rfl rfl rfl ?_;refine CO (DB hy) rfl rfl rfl rfl rfl rfl rfl rfl rfl ?_
 exact hK.out):p:=e ⟨h⟩
theorem Nn {p q:Prop} (h:q) (e:KH q->p:=by
 intro hK
 refine bz (T:=TT) rfl ?_
 refine kO2 ?_
 refine kJ ((m+1:Nat)) ?_;refine kO ?_;refine JZ ac rfl rfl rfl rfl rfl rfl rfl rfl ?_
 exact hK.out):p:=e ⟨h⟩
theorem Nc {p q:Prop} (h:q) (e:KH q->p:=by
 intro hK
 refine kN ?_;refine bG (T:=TT) ?_;refine eX (T:=TT) rfl ?_;refine eS (show gk _ _ _ _ _ _ from ?_);refine kI ?_
 refine kO2 ?_
 exact hK.out):p:=e ⟨h⟩
theorem MS {p:Prop} (e:p:=by
 have:=hc.enter (args.map a.eval) w;have e:(List.map a.eval args.toList).toArray=args.map a.eval:=Array.ext' (by simp);rw[e]
 simpa using this):p:=e
theorem LD {p:Prop} (e:p:=by
 rw[List.getElem?_append_left (List.getElem?_eq_some_iff.1 ha).1];exact ha):p:=e
theorem Na {p:Prop} (e:p:=by
 have:=List.not_of_lt_findIdx h
 simpa using this):p:=e
theorem MW {p:Prop} (e:p:=by
 have:=gD (b:=l.map (·.1)) h.nd fun x hx=>by
  obtain⟨q,hq,e⟩:=(h.dep x hx).mem;exact List.mem_map.2 ⟨q,hq,e⟩
 simpa using this):p:=e
theorem Mj {p q:Prop} (h:q) (e:KH q->p:=by
 intro hK
 refine kI ?_
 refine kO4 ?_
 refine kB true ?_ ?_
 ·exact decide_eq_true (by have:([]:List L8).length=0:=rfl;omega)
 refine kW ?_
 exact hK.out):p:=e ⟨h⟩
theorem M8 {p:Prop} (e:p:=by
 exact Rb (rows:=rows) (by unfold maxLen at hcm;omega) hlc hl hsz (fun i r hi=>by obtain⟨us,h3,h4,_⟩:=hr i r hi;exact⟨us,h3,h4⟩)):p:=e
theorem M0 {p q:Prop} (h:q) (e:KH q->p:=by
 intro hK
 refine bV ((rV (q:=0) rfl rfl (Nat.le_of_eq hlen.symm)).tr (aA (q:=0) (j:=901) (j':=1003) rfl rfl rfl rfl)) rfl ?_
 exact hK.out):p:=e ⟨h⟩
theorem Nk {p q:Prop} (h:q) (e:KH q->p:=by
 intro hK
 refine kG ?_
 refine kO3 ?_
 refine wZ 13003 (cs:=[.val (vL nm)]) ac rfl rfl rfl rfl rfl rfl rfl rfl rfl rfl rfl rfl rfl ?_
 exact hK.out):p:=e ⟨h⟩
theorem LG {p q:Prop} (h:q) (e:KH q->p:=by
 intro hK
 refine kW ?_;refine bP (i:=i) (cs':=[.val (vL x.1)]) hil hnx (Nat.zero_lt_succ 0) rfl rfl rfl rfl rfl rfl rfl rfl ?_;refine kW ?_
 exact hK.out):p:=e ⟨h⟩
theorem Mo {p q:Prop} (h:q) (e:KH q->p:=by
 intro hK
 refine kG ?_;refine kO ?_;refine aO rfl rfl rfl rfl rfl rfl rfl (bO (a:=[]) (b:=[]) rfl) ?_;refine kW ?_;refine kC (cm) ?_
 exact hK.out):p:=e ⟨h⟩
theorem Ms {p q:Prop} (h:q) (e:KH q->p:=by
 intro hK
 refine kI ?_
 refine kO4 ?_
 refine kB false ?_ ?_
 ·exact decide_eq_false (by have:([]:List L8).length=0:=rfl;omega)
 exact hK.out):p:=e ⟨h⟩
theorem ML {p q:Prop} (h:q) (e:KH q->p:=by
 intro hK
 refine kN ?_;refine bV ((a7 (q:=12) rfl rfl).tr (aA (q:=11) (j:=6002) (j':=6009) rfl rfl rfl rfl)) rfl ?_
 exact hK.out):p:=e ⟨h⟩
theorem Ql {p q:Prop} (h:q) (e:KH q->p:=by
 intro hK
 refine kN ?_;refine bV ((a7 (q:=12) rfl rfl).tr (aA (q:=11) (j:=6003) (j':=6009) rfl rfl rfl rfl)) rfl ?_
 exact hK.out):p:=e ⟨h⟩
theorem MM {p q:Prop} (h:q) (e:KH q->p:=by
 intro hK
 refine kV func196 ?_;refine kQ (l0 (h1.fit hk) (h2.fit hk) hg) ?_;refine kQ (hs) ?_
 exact hK.out):p:=e ⟨h⟩
theorem BV {p q:Prop} (h:q) (e:KH q->p:=by
 intro hK
 refine kV func22 ?_;refine gK ct rfl rfl rfl rfl rfl trivial rfl rfl rfl rfl ?_;refine kW ?_;refine kC (hcp) ?_
 exact hK.out):p:=e ⟨h⟩
theorem MX {p q:Prop} (h:q) (e:KH q->p:=by
 intro hK
 refine kV func88 ?_;refine kQ (fk n h1 h2) ?_;refine kQ (fk d h3 h4) ?_
 exact hK.out):p:=e ⟨h⟩
theorem Mx {p q:Prop} (h:q) (e:KH q->p:=by
 intro hK
 refine kO2 ?_
 refine aO (r:= .bool false) rfl rfl rfl rfl rfl rfl rfl (G1 (a:=p.1) (b:=q.1) hls) ?_;refine kW ?_
 exact hK.out):p:=e ⟨h⟩
theorem Mn {p q:Prop} (h:q) (e:KH q->p:=by
 intro hK
 refine kW ?_;refine bP (i:=i) (cs':=[.val (vL x)]) hlt (ib hx) (Nat.zero_lt_succ 0) rfl rfl rfl rfl rfl rfl rfl rfl ?_
 exact hK.out):p:=e ⟨h⟩
theorem Nu {p q:Prop} (h:q) (e:KH q->p:=by
 intro hK
 refine kO2 ?_
 refine aO (r:= .bool true) rfl rfl rfl rfl rfl rfl rfl (G1 (a:=p.1) (b:=q.1) hls) ?_;refine kW ?_
 exact hK.out):p:=e ⟨h⟩
theorem LF {p:Prop} (e:p:=by
 refine⟨fun h=>?_,fun h=>?_⟩
 ·rw[hst,if_pos h];show RV.tup _=RV.tup [bX m,_];rw[e]
 ·rw[hst,if_neg h];rfl):p:=e
theorem LP {p:Prop} (e:p:=by
 exact((mv hb6).trans ((mv hb7).trans ((kz Hb7.out hs8 Ho8.out).trans (kz Hb8.out hs9 Ho9.out)))).from _):p:=e
theorem Mb {p:Prop} (e:p:=by
 refine kW ?_;exact⟨i+1,hil,by omega,weak ⟨rfl,rfl,rfl,rfl,ak (by omega) (by omega),trivial⟩ ⟨rfl,trivial⟩ rfl⟩):p:=e
theorem MR {p:Prop} (e:p:=by
 refine kY ?_;rw[sJ hall hcj (fun h=>by unfold fV at h;omega)];exact de (T:=TT) rfl rfl):p:=e
theorem L9 {p:Prop} (e:p:=by
 refine kI ?_
 refine kO2 ?_
 refine kB false ?_ ?_
 ·exact hb
 refine kW ?_;refine hR _ ?_;rw[hal0];exact kw):p:=e
theorem MF {p:Prop} (e:p:=by
 intro r hm;obtain⟨i,hi⟩:=List.getElem?_of_mem hm;obtain⟨us,h3,h4,_⟩:=hr i r hi;rw[h4.1,(xL h3).1]):p:=e
theorem M3 {p:Prop} (e:p:=by
 split at h<;>cases h;exact .inr rfl):p:=e
theorem MZ {p:Prop} (e:p:=by
 have:=hP.bm j cs' h1;exact this.agree (hb.block _ this.lt) (.of_below hb) (fun _ _ h=>h) (iH.same hb rfl)):p:=e
theorem Mt {p:Prop} (e:p:=by
 rcases List.eq_nil_or_concat l with h| ⟨l',c,h⟩
 ·subst h;simp at hl
 ·exact⟨l',c,by simpa using h⟩):p:=e
theorem Me {p:Prop} (e:p:=by
 rcases Nat.eq_zero_or_pos (digs v).length with h|h
 ·have:=cX.1 h;omega
 ·exact h):p:=e
theorem ND {p:Prop} (e:p:=by
 rcases Nat.lt_or_ge b w1.heap.size with h'|h'
 ·exact h'
 ·simp[Array.getElem?_eq_none h']at hbk):p:=e
theorem MH {p:Prop} (e:p:=by
 refine kY ?_;rw[<- hR,lL h1 h2 hq (.inl (by omega))];exact de (T:=TT) rfl rfl):p:=e
theorem Dc {p:Prop} (e:p:=by
 intro j a hj
 match j,hj with
 |0,hj=>rw[Nat.mul_one,Nat.add_zero,List.getElem?_map,h];exact hj):p:=e
theorem xt {p:Prop} (e:p:=by
 by_cases h:op=2
 ·rw[if_pos h,decide_eq_true h];rfl
 ·rw[if_neg h,decide_eq_false h];rfl):p:=e
theorem GX {p:Prop} (e:p:=by
 rcases h4 with⟨h5,h6⟩| ⟨h5,h6,h7⟩
 ·exact .inl ⟨by omega,h6⟩
 ·exact .inr ⟨by omega,h6,h7⟩):p:=e
theorem yP {p:Prop} (e:p:=by
 rw[List.length_append,List.length_singleton,show l.length-(o.length+1)=kk by omega];exact hog):p:=e
theorem oY {p:Prop} (e:p:=by
 exact congrArg (fun z=>RV.one (dN .i64 z)) (show(3:Int)=ie l by unfold ie;rw[if_pos h200])):p:=e
theorem nC {p:Prop} (e:p:=by
 obtain⟨op,na,xs,nb,ys,nm,args⟩:=x;exact⟨op,na,xs,nb,ys,nm,args.length,da args,rfl⟩):p:=e
theorem mU {p:Prop} (e:p:=by
 exact weak ⟨rfl,rfl,rfl,rfl,rfl,ak (by omega) (by omega),trivial⟩ ⟨rfl,rfl,trivial⟩ rfl):p:=e
theorem B7 {p:Prop} (e:p:=by
 have:=grownCap_le_maxLen w (m1+m2) c et (by unfold maxLen;omega);unfold maxLen at this;omega):p:=e
theorem ME {p:Prop} (e:p:=by
 have h4:=Hb9.out;rw[List.append_assoc,List.append_assoc,<- Hpt.out,<- Hsn.out]at h4;exact h4):p:=e
theorem uj {p:Prop} (e:p:=by
 exact((HB.out.trans (hb6.mono hWs)).trans (hb7.mono (by omega))).trans (Hw8.out.trans Hw9.out)):p:=e
theorem y4 {p:Prop} (e:p:=by
 rw[hnext,jr,if_neg (fun h2=>by rw[h]at h2;exact absurd h2.1 (by decide))];exact hbst):p:=e
theorem qZ {p:Prop} (e:p:=by
 refine kO4 ?_
 by_cases hnm:nm=[]
 ·refine AM ?_
  by_cases hl:args.length=2
  ·exact OH
  ·refine kE ?_
   obtain rfl:b=false:=by rw[hb,decide_eq_false hl,Bool.and_false]
   exact aD
 ·refine Q5 ?_
  exact T7):p:=e
theorem FB {p:Prop} (e:p:=by
 refine N7 ?_;cases p
 ·exact aD
 ·refine kO3 ?_
  cases z
  ·refine J9 ?_
   exact aD
  ·refine QZ ?_
   refine kC (hcf) ?_;cases A
   ·exact aD
   ·exact aD):p:=e
theorem rY {p:Prop} (e:p:=by
 refine kE ?_;obtain rfl:b=false:=by rw[hb,decide_eq_false hl,Bool.and_false]
 exact aD):p:=e
theorem BW {p:Prop} (e:p:=by
 refine Ru ?_
 by_cases h0:oe=0
 ·refine RE ?_
  refine N0 ?_;exact hfin.1 h0
 ·refine Q2 ?_
  refine N0 ?_;exact hfin.2 h0):p:=e
theorem F6 {p:Prop} (e:p:=by
 obtain rfl:b=false:=by rw[hb];rfl
 exact aD):p:=e
theorem ue {p q:Prop} (h:q) (e:KH q->p:=by
 intro hK
 refine Te ?_;refine kW ?_;refine kC (c) ?_
 exact hK.out):p:=e ⟨h⟩
theorem H8 {p:Prop} (e:p:=by
 refine Ru ?_;refine Kq ?_;exact aD):p:=e
theorem MD {p q:Prop} (h:q) (e:KH q->p:=by
 intro hK
 refine kW ?_;refine vr ?_;refine Ai ?_
 refine kO5 ?_
 refine vr ?_;refine Pa ?_
 exact hK.out):p:=e ⟨h⟩
theorem Mi {p q:Prop} (h:q) (e:KH q->p:=by
 intro hK
 refine kW ?_;refine vr ?_;refine Rm ?_;refine vr ?_;refine Pb ?_;refine kC (c2) ?_
 exact hK.out):p:=e ⟨h⟩
theorem Dj {p:Prop} (e:p:=by
 rcases Bool.eq_false_or_eq_true (p q)with hb|hb
 ·rw[hb]at c
  have e:i=f:=by
   by_cases e:i<f
   ·have:=hni e;rw[hb]at this;cases this
   ·omega
  subst e;rw[if_pos hlt];refine kD (c) ?_;exact Qn
 ·exact Cw):p:=e
theorem L5 {p q:Prop} (h:q) (e:KH q->p:=by
 intro hK
 refine iD ?_;refine kE ?_
 iterate 6 refine kO ?_
 exact hK.out):p:=e ⟨h⟩
theorem Cz {p q:Prop} (h:q) (e:KH q->p:=by
 intro hK
 refine kE ?_;refine jw ?_
 repeat refine bG (T:=TT) ?_
 exact hK.out):p:=e ⟨h⟩
theorem MO {p:Prop} (e:p:=by
 refine kW ?_;refine kC (c1) ?_;exact aD):p:=e
theorem xN {p q:Prop} (h:q) (e:KH q->p:=by
 intro hK
 refine kU func69 ?_;refine kR ?_;refine kR ?_;refine KO ?_;refine AY ?_;refine KO ?_
 refine kO2 ?_
 exact hK.out):p:=e ⟨h⟩
theorem IV {p:Prop} (e:p:=by
 refine kO ?_;refine As ?_;exact aD):p:=e
theorem MJ {p q:Prop} (h:q) (e:KH q->p:=by
 intro hK
 refine kU func48 ?_;refine NW ?_;refine kB false ?_ ?_
 ·exact Jf ha0
 refine kO5 ?_
 exact hK.out):p:=e ⟨h⟩
theorem Mr {p:Prop} (e:p:=by
 refine Bk ?_;refine kC (c) ?_;exact aD):p:=e
theorem BQ {p:Prop} (e:p:=by
 refine kW ?_;refine kC (cv) ?_;refine Ru ?_;refine kB true ?_ ?_
 ·exact bne_iff_ne.2 hv
 exact aD):p:=e
theorem NB {p:Prop} (e:p:=by
 rw[hr]at c;refine QL ?_;refine IT ?_;refine FE ?_;refine S5 ?_;refine Qw ?_;refine Bk ?_;refine ax (ly hy (by omega)) rfl rfl rfl rfl rfl rfl rfl ?_;refine kC (c) ?_;exact aD):p:=e
theorem Nw {p:Prop} (e:p:=by
 cases b
 ·exact L9
 ·refine kI ?_
  refine kO2 ?_
  refine kB true ?_ ?_
  ·exact hb
  refine kG ?_
  refine kO4 ?_
  refine Sa ?_;refine hR _ ?_;rw[hal0];exact kw):p:=e
theorem Gq {p q:Prop} (h:q) (e:KH q->p:=by
 intro hK
 refine kU func166 ?_;refine Qm ?_;refine kY ?_
 exact hK.out):p:=e ⟨h⟩
theorem Nv {p q:Prop} (h:q) (e:KH q->p:=by
 intro hK
 refine kW ?_;refine gT ((c1.rd (ts:=[.own 6001 (List.cons a r).length 1 9, .d (dL p.1)]) (b:=[(6001,au (List.cons a r))]) rfl rfl)) rfl rfl rfl rfl rfl ⟨rfl,trivial⟩ rfl rfl rfl rfl ?_
 exact hK.out):p:=e ⟨h⟩
theorem M9 {p q:Prop} (h:q) (e:KH q->p:=by
 intro hK
 refine Qh ?_;refine vr ?_
 refine kO4 ?_
 refine La ?_
 exact hK.out):p:=e ⟨h⟩
theorem Ii {p:Prop} (e:p:=by
 refine kE ?_;rw[List.drop_eq_nil_of_le (by omega),ll]at h2;have hdd:d=ll args:=by omega
 rw[yS,<- hdd];refine jw ?_;refine kI ?_;refine kO ?_;refine kJ ((d+1:Nat)) ?_;exact aD):p:=e
theorem Ly {p q:Prop} (h:q) (e:KH q->p:=by
 intro hK
 refine kV func235 ?_;refine kC (c1) ?_;refine kG ?_
 refine kO2 ?_
 exact hK.out):p:=e ⟨h⟩
theorem Ns {p q:Prop} (h:q) (e:KH q->p:=by
 intro hK
 refine bP (i:=1) (cs':=ab o2 na2 xs2 nb2 ys2 nm2 n2 cs2) (by decide) (KW _ rfl) (Nat.zero_lt_succ 6) rfl rfl rfl rfl rfl rfl rfl rfl ?_;refine kW ?_;refine kC (ih') ?_
 exact hK.out):p:=e ⟨h⟩
theorem NA {p q:Prop} (h:q) (e:KH q->p:=by
 intro hK
 refine bP (i:=0) (cs':=ab o1 na1 xs1 nb1 ys1 nm1 n1 cs1) (by decide) (Kg _ _) (Nat.zero_lt_succ 6) rfl rfl rfl rfl rfl rfl rfl rfl ?_;refine kW ?_;refine kC (ih) ?_
 exact hK.out):p:=e ⟨h⟩
theorem Mp {p q:Prop} (h:q) (e:KH q->p:=by
 intro hK
 refine kU func116 ?_;refine kR ?_;refine GU ?_
 refine kO3 ?_
 refine bQ ac (i:=i) (c:=s[i]) hx0 rfl rfl rfl rfl rfl rfl rfl rfl ?_;refine kC (hc0) ?_
 exact hK.out):p:=e ⟨h⟩
theorem NH {p q:Prop} (h:q) (e:KH q->p:=by
 intro hK
 refine kV func69 ?_;refine eR 3 ?_
 exact hK.out):p:=e ⟨h⟩
theorem Lx {p q:Prop} (h:q) (e:KH q->p:=by
 intro hK
 refine Kn ?_;refine mb ?_;refine lh ?_;refine kW ?_;refine kQ (cW) ?_;refine gK cD2 rfl rfl rfl rfl rfl trivial rfl rfl rfl rfl ?_;refine kW ?_
 exact hK.out):p:=e ⟨h⟩
theorem NF {p q:Prop} (h:q) (e:KH q->p:=by
 intro hK
 refine BS ac rfl rfl rfl rfl rfl rfl rfl rfl ?_
 exact hK.out):p:=e ⟨h⟩
theorem Ni {p q:Prop} (h:q) (e:KH q->p:=by
 intro hK
 refine kV func155 ?_;refine kC (kl (na:=na) hw c1) ?_
 exact hK.out):p:=e ⟨h⟩
theorem MT {p:Prop} (e:p:=by
 refine kG ?_;refine oB ?_;generalize hz:w.take (w.length-k)++[46]++w.drop (w.length-k)=z;have hzB:=aT z;refine kG ?_;refine C3 ?_;exact aD):p:=e
theorem Mv {p:Prop} (e:p:=by
 refine kU func236 ?_;refine kR ?_;refine kI ?_;refine qR 700 ac rfl rfl rfl rfl rfl rfl rfl rfl ?_;refine kG ?_;refine Qh ?_;refine Q4 ?_;exact aD):p:=e
theorem NC {p q:Prop} (h:q) (e:KH q->p:=by
 intro hK
 refine kV func241 ?_;refine kC (lY (na:=na) hw c1) ?_
 exact hK.out):p:=e ⟨h⟩
theorem Mg {p:Prop} (e:p:=by
 refine aO rfl rfl rfl rfl rfl rfl rfl (b6 (a:=l[i].1) (b:=s) e) ?_;refine Bj ?_;refine kO ?_;refine kC (y7 l[i].1) ?_;exact aD):p:=e
theorem Fm {p q:Prop} (h:q) (e:KH q->p:=by
 intro hK
 refine bf ac fo func295 rfl rfl rfl rfl rfl (j6) ?_;refine Qm ?_;refine kQ (cp) ?_;refine kQ (cd) ?_
 exact hK.out):p:=e ⟨h⟩
theorem MQ {p q:Prop} (h:q) (e:KH q->p:=by
 intro hK
 refine sZ ?_;refine kT ?_
 refine kO4 ?_
 refine kJ ((i+n+1:Nat)) ?_;refine kC (c2) ?_;refine kO ?_;refine kJ ((i+n+1:Nat)) ?_
 exact hK.out):p:=e ⟨h⟩
theorem F1 {p q:Prop} (h:q) (e:KH q->p:=by
 intro hK
 refine kU func53 ?_;refine NW ?_;refine PQ ?_;refine kB false ?_ ?_
 ·exact(by simp[e3])
 iterate 6 refine kO ?_
 refine kC (cs) ?_
 exact hK.out):p:=e ⟨h⟩
theorem Mw {p q:Prop} (h:q) (e:KH q->p:=by
 intro hK
 refine OB ?_;refine Q4 ?_
 refine kO4 ?_
 refine Q4 ?_;refine kW ?_;refine kQ (w2) ?_;refine kQ (n2) ?_
 exact hK.out):p:=e ⟨h⟩
theorem Mz {p q:Prop} (h:q) (e:KH q->p:=by
 intro hK
 refine cK 5001 (m1:=0) (m2:=1) ac (by decide) (by decide) rfl rfl rfl rfl rfl rfl rfl rfl rfl rfl rfl (.nil rfl rfl) rfl rfl rfl ?_
 exact hK.out):p:=e ⟨h⟩
theorem Nf {p q:Prop} (h:q) (e:KH q->p:=by
 intro hK
 refine Qm ?_;refine kA ac him rfl rfl rfl rfl rfl rfl rfl rfl rfl ?_;refine kW ?_;refine Ki ?_
 repeat refine bG (T:=TT) ?_
 exact hK.out):p:=e ⟨h⟩
theorem NE {p q:Prop} (h:q) (e:KH q->p:=by
 intro hK
 refine kW ?_;refine kC (cf) ?_;refine Ru ?_;refine kX ?_;refine gn (i:=f) h rfl rfl rfl rfl rfl rfl rfl rfl rfl ?_
 exact hK.out):p:=e ⟨h⟩
theorem Gu {p q:Prop} (h:q) (e:KH q->p:=by
 intro hK
 refine bP (i:=i) (cs':=ab o1 na1 xs1 nb1 ys1 nm1 n1 cs1) hlt hat (Nat.zero_lt_succ 6) rfl rfl rfl rfl rfl rfl rfl rfl ?_
 exact hK.out):p:=e ⟨h⟩
theorem M1 {p:Prop} (e:p:=by
 unfold rQ;refine kW ?_;refine kZ (gP 42 t r 0 0 h1) ?_;refine kD (gP 47 t r 0 0 h2) ?_;exact Qn):p:=e
theorem GW {p:Prop} (e:p:=by
 refine HE ?_;refine ft (T:=TT) rfl ?_ ?_
 ·exact(G7.2 h0)
 refine N0 ?_;rw[hcyc (hnN.trans h0)];rfl):p:=e
theorem Ts {p:Prop} (e:p:=by
 refine kW ?_;refine ax (iz 0 (by decide) (by decide) e.symm) rfl rfl rfl rfl rfl rfl rfl ?_;exact aD):p:=e
theorem TA {p:Prop} (e:p:=by
 rw[hev]at c3;refine kU func27 ?_;refine mb ?_;refine kQ (c2) ?_;refine kC (c3) ?_;exact aD):p:=e
theorem Tx {p:Prop} (e:p:=by
 refine kB true ?_ ?_
 ·exact bne_iff_ne.2 h1
 exact aD):p:=e
theorem Tz {p:Prop} (e:p:=by
 exact⟨i+1,hil,by omega,weak ⟨rfl,rfl,rfl,rfl,rfl,ak (by omega) (by omega),trivial⟩ trivial rfl⟩):p:=e
theorem Tw {p:Prop} (e:p:=by
 refine kE ?_;refine N0 ?_;have e:l.drop i=[]:=List.drop_of_length_le (by omega);rw[e]at hv;exact Pv):p:=e
theorem Tt {p:Prop} (e:p:=by
 refine iD ?_;refine aO rfl rfl rfl rfl rfl rfl rfl (gY (a:=[]) (b:=[]) rfl) ?_;exact aD):p:=e
theorem TB {p:Prop} (e:p:=by
 refine Qm ?_;refine aO rfl rfl rfl rfl rfl rfl rfl (gY (a:=a) (b:=a) rfl) ?_;exact aD):p:=e
theorem OH {p:Prop} (e:p:=by
 refine kT ?_;obtain rfl:b=true:=by rw[hb];simp[hnm,hl]
 exact aD):p:=e
theorem Ua {p:Prop} (e:p:=by
 by_cases hl:args.length=0
 ·refine kT ?_
  obtain rfl:b=true:=by rw[hb];simp[hl]
  exact aD
 ·exact rY):p:=e
theorem T7 {p:Prop} (e:p:=by
 obtain rfl:b=false:=by rw[hb];simp[hnm]
 exact aD):p:=e
end
end Go.Proofs.YtmkggcjajcdlcaaGreatDoor
