/- Tactic texts that stand more than once. -/
import Derived.Test.YtmkggcjajcdlcaaGreatDoorEK
import Derived.KernelRfl
import Derived.IntWalk
import Derived.Laws.BytesArg
import Derived.Laws.Strings2
import Derived.Laws.IdiomStrings
import Derived.Lib.Bytealg
import Derived.Lib.AppendStr
import Derived.MapKept
import Derived.Defers
import Derived.Laws.MakeOwn
import Derived.Lib.AppendZerosOnto
import Derived.Lib.Overlaps
import Derived.Shelf.Strconv.AppendUint10
import Derived.Shelf.Strconv.Itoa3
import Derived.Maps.OwnIn
import Derived.RangeFuncCalls
import Derived.Sort.Walk0
import Derived.LaidMore
import Derived.Lay
import Derived.Stop.Joined
import Derived.SevenTiedAt
import Derived.ChangeMaps5
import Derived.Lib.RowBridge
set_option maxHeartbeats 100000000
set_option linter.all false
namespace Go.Proofs.YtmkggcjajcdlcaaGreatDoor
open Go.RowKit
section
open Go.ChangeShapes Go.WideShapes Go.ChangeAt Go.RowKit Go.Joins
open Go.RowKit Go.Shelf
open Go.Shelf Go.RowKit Go.Sort Go.Lib
open Go.Shelf Go.RowKit
open Go.RowKit Go.Joins
open Go.RowKit Go.Sort Go.Lib
open Go.RowKit Go.Lib
open Go.ChangeMaps (open_string)
theorem ax {p:Prop} (e:p:=by
 exact kF):p:=e
theorem FF {p q:Prop} (h:q) (e:KH q->p:=by
 intro hK
 refine kW ?_;refine bB (i:=0) (cs':=ab o1 na1 xs1 nb1 ys1 nm1 n1 cs1) (by decide) (Lz _ _) (Nat.zero_lt_succ 6) rfl rfl rfl rfl rfl rfl rfl rfl ?_
 exact hK.out):p:=e ⟨h⟩
theorem sO {p q:Prop} (h:q) (e:KH q->p:=by
 intro hK
 refine bB (i:=i) (cs':=a6 p.1 o1 na1 xs1 nb1 ys1 nm1 n1 cs1) hlt hat (Nat.zero_lt_succ 7) rfl rfl rfl rfl rfl rfl rfl rfl ?_
 exact hK.out):p:=e ⟨h⟩
theorem Q4 {p q:Prop} (h:q) (e:KH q->p:=by
 intro hK
 refine kW ?_;refine bB (i:=1) (cs':=ab o2 na2 xs2 nb2 ys2 nm2 n2 cs2) (by decide) (LA _ rfl) (Nat.zero_lt_succ 6) rfl rfl rfl rfl rfl rfl rfl rfl ?_
 exact hK.out):p:=e ⟨h⟩
theorem TB {p:Prop} (e:p:=by
 refine kN ?_;refine bW ((a7 (q:=11) rfl rfl).tr (a7 (q:=12) rfl rfl)) rfl ?_;refine kW ?_;refine cw (T:=TT) rfl ?_;refine Mn (by omega) ?_ (by omega) ?_
 ·first
   |(simp[hcn,List.take_of_length_le,cL,hd,TK,hdr,List.take_append,List.take_take];done)
   |(simp[hcn,List.take_of_length_le,cL,hd,TK,hdr,List.take_append,List.take_take,Nat.min_eq_left hple];done)
   |(simp[hcn,List.take_of_length_le,cL,hd,TK,hdr,List.take_append,List.take_take,Nat.min_eq_left hple];omega)
 ·first
   |(simp[hc,List.take_of_length_le,O7,TS,hdr5,List.take_append,List.take_take];done)
   |(simp[hc,List.take_of_length_le,O7,TS,hdr5,List.take_append,List.take_take,Nat.min_eq_left (Nat.mul_le_mul_right 5 hple)];done)
   |(simp[hc,List.take_of_length_le,O7,TS,hdr5,List.take_append,List.take_take,Nat.min_eq_left (Nat.mul_le_mul_right 5 hple),Nat.add_mul,Nat.add_sub_cancel_left];done)):p:=e
theorem Au {p q:Prop} (h:q) (e:KH q->p:=by
 intro hK
 repeat(first|refine bM (T:=TT) ?_|refine fj (T:=TT) ?_)
 refine bG (T:=TT) rfl ?_
 exact hK.out):p:=e ⟨h⟩
theorem iT {p q:Prop} (h:q) (e:KH q->p:=by
 intro hK
 refine kW ?_;refine cw (T:=TT) rfl ?_
 exact hK.out):p:=e ⟨h⟩
theorem MS {p q:Prop} (h:q) (e:KH q->p:=by
 intro hK
 refine kW ?_;refine kQ (ih) ?_;refine OJ ?_;refine kW ?_
 exact hK.out):p:=e ⟨h⟩
theorem M7 {p q:Prop} (h:q) (e:KH q->p:=by
 intro hK
 refine kW ?_;refine O3 ?_
 exact hK.out):p:=e ⟨h⟩
theorem UB {p q:Prop} (h:q) (e:KH q->p:=by
 intro hK
 refine OJ ?_;refine kW ?_
 exact hK.out):p:=e ⟨h⟩
theorem lp {p q:Prop} (h:q) (e:KH q->p:=by
 intro hK
 refine bB (i:=i) (cs':=a6 p.1 o1 na1 xs1 nb1 ys1 nm1 n1 cs1) hil hat (Nat.zero_lt_succ 7) rfl rfl rfl rfl rfl rfl rfl rfl ?_
 exact hK.out):p:=e ⟨h⟩
theorem jR {p q:Prop} (h:q) (e:KH q->p:=by
 intro hK
 refine kN ?_;refine bM (T:=TT) ?_;refine eQ (T:=TT) rfl ?_;refine sa ?_
 exact hK.out):p:=e ⟨h⟩
theorem iX {p q:Prop} (h:q) (e:KH q->p:=by
 intro hK
 refine kN ?_;refine kI ?_;refine kO ?_
 exact hK.out):p:=e ⟨h⟩
theorem FH {p q:Prop} (h:q) (e:KH q->p:=by
 intro hK
 refine kI ?_;refine kX ?_;refine bB (i:=i) (cs':=a6 q.1 o1 na1 xs1 nb1 ys1 nm1 n1 cs1) hil hat (Nat.zero_lt_succ 7) rfl rfl rfl rfl rfl rfl rfl rfl ?_;refine kW ?_;refine Lj (i:=0) ac (show 0<m by omega) rfl rfl rfl rfl rfl rfl rfl rfl rfl ?_;refine yj hta rfl rfl rfl rfl rfl rfl rfl rfl rfl ?_;refine kC (cu) ?_
 exact hK.out):p:=e ⟨h⟩
theorem iY {p q:Prop} (h:q) (e:KH q->p:=by
 intro hK
 refine kW ?_;refine kQ (c1) ?_
 exact hK.out):p:=e ⟨h⟩
theorem Ta {p:Prop} (e:p:=by
 refine kO2 ?_
 refine kJ ((i+j:Nat)) ?_;refine m4 (v':= .int .u64 ((i+j:Nat))) rfl rfl rfl rfl ?_ ?_
 ·exact congrArg (Value.int .u64) (by show IntKind.u64.wrap ((i+j:Nat):Int)=_;rw[IntWalk.u64_in _ (by omega)])
 refine m4 (v':= .int .u64 (((i+j)/2:Nat))) rfl rfl rfl rfl ?_ ?_
 ·exact congrArg (Value.int .u64) (by show Int.fdiv ((i+j:Nat):Int) 2=_;rw[Int.fdiv_eq_ediv_of_nonneg _ (by decide)];rfl)
 refine m4 (v':= .int .i64 (((i+j)/2:Nat))) rfl rfl rfl rfl ?_ ?_
 ·exact congrArg (Value.int .i64) (by show IntKind.i64.wrap (((i+j)/2:Nat):Int)=_;rw[IntWalk.i64_in _ (by omega)])
 have hm:(i+j)/2<l.length:=by omega
 refine Exists.elim (Exists.intro _ rfl:∃m,(i+j)/2=m) fun m hme=>?_
 rw[hme]at hm ⊢;have hx:l[m]? =some l[m]:=by simp[hm]
 refine kN ?_;refine kI ?_
 refine kO2 ?_
 refine bB (i:=m) (cs':=[.val (vL l[m].1)]) hm (DN hx) (by simp) rfl rfl rfl rfl rfl rfl rfl rfl ?_
 refine kO2 ?_
 refine kC (Mj l[m].1 s) ?_;refine kN ?_;cases hb2:Op.bytesLess l[m].1 s
 ·refine kW ?_
  have hpm:p<=m:=by
   rcases Nat.lt_or_ge m p with h|h
   ·have:=hp2 m _ h hx;rw[hb2]at this;cases this
   ·exact h
  exact⟨(i,m),⟨h1,hpm,by dsimp only;omega⟩,by dsimp only;omega,weak ⟨rfl,rfl,rfl,rfl,rfl,rfl,rfl,trivial⟩ trivial rfl⟩
 ·refine kW ?_
  have hmp:m<p:=by
   rcases Nat.lt_or_ge m p with h|h
   ·exact h
   ·have:=hp3 m _ h hx;rw[hb2]at this;cases this
  exact⟨(m+1,j),⟨hmp,h2,h3⟩,by dsimp only;omega,weak ⟨rfl,rfl,rfl,rfl,rfl,ae (by omega) (by omega),rfl,trivial⟩ trivial rfl⟩):p:=e
theorem Tq {p:Prop} (e:p:=by
 rintro j ⟨hj,hall⟩;refine kW ?_;refine pH rfl (fun h=>?_) (fun h=>?_)
 ·have hlt:j<xs.length:=by have:=of_decide_eq_true h;omega
  have hlt':j<ys.length:=by omega
  refine kW ?_;refine bB (cs':=[AV.val (dp xs[j])]) hlt (OV (by simp[hlt])) (Nat.lt_succ_self 0) rfl rfl rfl rfl rfl rfl rfl rfl ?_;refine kW ?_;refine bB (cs':=[AV.val (dp ys[j])]) hlt' (OV (by simp[hlt'])) (Nat.lt_succ_self 0) rfl rfl rfl rfl rfl rfl rfl rfl ?_;refine kW ?_;refine pH rfl (fun h2=>?_) (fun h2=>?_)
  ·refine kW ?_
   have hne:xs[j]≠ys[j]:=fun e=>by rw[e]at h2;simp at h2
   rw[zV (fun e=>hne (by subst e;rfl))];exact cw (T:=TT) rfl rfl
  ·have heq:xs[j]=ys[j]:=by simp at h2;omega
   refine kW ?_;refine⟨j+1,⟨hlt,fun i hi=>?_⟩,by omega,weak ⟨rfl,rfl,?_,trivial⟩ ⟨rfl,rfl,trivial⟩ rfl⟩
   ·rcases Nat.lt_succ_iff_lt_or_eq.1 hi with h3|rfl
    ·exact hall i h3
    ·rw[List.getElem?_eq_getElem hlt,List.getElem?_eq_getElem hlt',heq]
   ·exact ae (by omega) (by omega)
 ·have hge:j=xs.length:=by have:=of_decide_eq_false h;omega
  refine sa ?_;refine kW ?_
  have he:xs=ys:=by
   apply List.ext_getElem? fun i=>?_
   by_cases hi:i<xs.length
   ·exact hall i (by omega)
   ·rw[List.getElem?_eq_none (by omega),List.getElem?_eq_none (by omega)]
  rw[ll he];exact cw (T:=TT) rfl rfl):p:=e
theorem Qv {p q:Prop} (h:q) (e:KH q->p:=by
 intro hK
 refine Ez ?_;refine aN ⟨[(1, .d (eU l)),(2, .d (eT l)),(3, .box 0 0),(6, .box 1 0),(7, .d (dN .i64 0)),(12, .nil),(72, .d (.leaf (.sl 2 (ab o1 na1 xs1 nb1 ys1 nm1 n1 cs1++ab o2 na2 xs2 nb2 ys2 nm2 n2 cs2)))),(73, .d (dN .i64 2)),(74, .d (dN .i64 0))],[(0,some ([.val (.int .i64 (B4.add).code)]++uo++[.val (vL []), .sl 2 (ab o1 na1 xs1 nb1 ys1 nm1 n1 cs1++ab o2 na2 xs2 nb2 ys2 nm2 n2 cs2)])),(1,some iF)]⟩ kw ?_
 exact hK.out):p:=e ⟨h⟩
theorem P9 {p q:Prop} (h:q) (e:KH q->p:=by
 intro hK
 refine Ez ?_;refine aN ⟨[(1, .d (eU l)),(2, .d (eT l)),(3, .box 0 0),(6, .box 1 0),(7, .d (dN .i64 0)),(12, .nil),(72, .d (.leaf (.sl 2 (ab o1 na1 xs1 nb1 ys1 nm1 n1 cs1++ab o2 na2 xs2 nb2 ys2 nm2 n2 cs2)))),(73, .d (dN .i64 2)),(74, .d (dN .i64 0))],[(0,some ([.val (.int .i64 (B4.div).code)]++uo++[.val (vL []), .sl 2 (ab o1 na1 xs1 nb1 ys1 nm1 n1 cs1++ab o2 na2 xs2 nb2 ys2 nm2 n2 cs2)])),(1,some iF)]⟩ kw ?_
 exact hK.out):p:=e ⟨h⟩
theorem Qd {p q:Prop} (h:q) (e:KH q->p:=by
 intro hK
 refine Ez ?_;refine aN ⟨[(1, .d (eU l)),(2, .d (eT l)),(3, .box 0 0),(6, .box 1 0),(7, .d (dN .i64 0)),(12, .nil),(72, .d (.leaf (.sl 2 (ab o1 na1 xs1 nb1 ys1 nm1 n1 cs1++ab o2 na2 xs2 nb2 ys2 nm2 n2 cs2)))),(73, .d (dN .i64 2)),(74, .d (dN .i64 0))],[(0,some ([.val (.int .i64 (B4.mul).code)]++uo++[.val (vL []), .sl 2 (ab o1 na1 xs1 nb1 ys1 nm1 n1 cs1++ab o2 na2 xs2 nb2 ys2 nm2 n2 cs2)])),(1,some iF)]⟩ kw ?_
 exact hK.out):p:=e ⟨h⟩
theorem Qn {p q:Prop} (h:q) (e:KH q->p:=by
 intro hK
 refine Ez ?_;refine aN ⟨[(1, .d (eU l)),(2, .d (eT l)),(3, .box 0 0),(6, .box 1 0),(7, .d (dN .i64 0)),(12, .nil),(72, .d (.leaf (.sl 2 (ab o1 na1 xs1 nb1 ys1 nm1 n1 cs1++ab o2 na2 xs2 nb2 ys2 nm2 n2 cs2)))),(73, .d (dN .i64 2)),(74, .d (dN .i64 0))],[(0,some ([.val (.int .i64 (B4.sub).code)]++uo++[.val (vL []), .sl 2 (ab o1 na1 xs1 nb1 ys1 nm1 n1 cs1++ab o2 na2 xs2 nb2 ys2 nm2 n2 cs2)])),(1,some iF)]⟩ kw ?_
 exact hK.out):p:=e ⟨h⟩
theorem r6 {p q:Prop} (h:q) (e:KH q->p:=by
 intro hK
 refine kW ?_;refine kQ (nO) ?_;refine kC (c1) ?_
 exact hK.out):p:=e ⟨h⟩
theorem Lm {p q:Prop} (h:q) (e:KH q->p:=by
 intro hK
 refine kW ?_;refine kQ (ih') ?_;refine cY 5002 (m1:=1) (m2:=1) ac (by decide) (by decide) rfl rfl rfl rfl rfl rfl rfl rfl rfl rfl rfl (.own rfl rfl) rfl rfl rfl ?_;refine kW ?_
 exact hK.out):p:=e ⟨h⟩
theorem RD {p q:Prop} (h:q) (e:KH q->p:=by
 intro hK
 refine kW ?_;refine fY (i:=0) (by decide) rfl rfl rfl rfl rfl rfl rfl rfl rfl ?_
 refine kO2 ?_
 refine fY (i:=1) (by decide) rfl rfl rfl rfl rfl rfl rfl rfl rfl ?_;refine kO ?_
 exact hK.out):p:=e ⟨h⟩
theorem MH {p q:Prop} (h:q) (e:KH q->p:=by
 intro hK
 refine NX ?_
 refine kO4 ?_
 refine gr ((c2.rd (ts:=[.d (.agg (a6 p.1 o1 na1 xs1 nb1 ys1 nm1 n1 cs1)), .own 6001 (List.cons a r).length 1 9]) (b:=[(6001,au (List.cons a r))]) rfl rfl)) rfl rfl rfl rfl rfl ⟨rfl,trivial⟩ rfl rfl rfl rfl ?_
 exact hK.out):p:=e ⟨h⟩
theorem fT {p q:Prop} (h:q) (e:KH q->p:=by
 intro hK
 refine kR ?_;refine kI ?_;refine kO ?_
 exact hK.out):p:=e ⟨h⟩
theorem R8 {p q:Prop} (h:q) (e:KH q->p:=by
 intro hK
 refine kO4 ?_
 refine kJ ((w.length-k:Nat)) ?_;refine Ow ac (l:=w) (i:=w.length-k) (by omega) rfl rfl rfl rfl rfl rfl rfl rfl ?_;refine aC rfl rfl rfl rfl rfl rfl rfl (jr (a:=w.take (w.length-k)) (b:=[46]) (by simp;omega)) ?_
 refine kO4 ?_
 refine kJ ((w.length-k:Nat)) ?_;refine IA ac (l:=w) (i:=w.length-k) (by omega) rfl rfl rfl rfl rfl rfl rfl rfl ?_;refine aC rfl rfl rfl rfl rfl rfl rfl (jr (a:=w.take (w.length-k)++[46]) (b:=w.drop (w.length-k)) (by simp;omega)) ?_
 exact hK.out):p:=e ⟨h⟩
theorem jb {p:Prop} (e:p:=by
 refine kW ?_;exact⟨⟨_,rfl,rfl⟩,⟨rfl,trivial⟩⟩):p:=e
theorem px {p q:Prop} (h:q) (e:KH q->p:=by
 intro hK
 refine kI ?_
 refine kO3 ?_
 refine kT ?_;refine kG ?_
 refine kO2 ?_
 exact hK.out):p:=e ⟨h⟩
theorem xr {p q:Prop} (h:q) (e:KH q->p:=by
 intro hK
 refine kI ?_
 refine kO3 ?_
 refine kT ?_
 exact hK.out):p:=e ⟨h⟩
theorem kq {p q:Prop} (h:q) (e:KH q->p:=by
 intro hK
 refine kR ?_;refine kI ?_
 refine kO2 ?_
 exact hK.out):p:=e ⟨h⟩
theorem jT {p q:Prop} (h:q) (e:KH q->p:=by
 intro hK
 refine kR ?_;refine kI ?_
 refine kO4 ?_
 exact hK.out):p:=e ⟨h⟩
theorem SW {p q:Prop} (h:q) (e:KH q->p:=by
 intro hK
 refine kW ?_;refine aj (iq (h.1.fit (by omega)) (h'.2.fit (by omega)) hgz) rfl rfl rfl rfl rfl rfl rfl ?_;refine kW ?_;refine aj (iq (h'.1.fit (by omega)) (h.2.fit (by omega)) htz) rfl rfl rfl rfl rfl rfl rfl ?_;refine kW ?_;refine aj (dw (h.1.fit (by omega)) (sg.fit (by omega)) (by omega) (oW _ _)) rfl rfl rfl rfl rfl rfl rfl ?_;refine kW ?_;refine aj (dw (h'.1.fit (by omega)) (st.fit (by omega)) (by omega) (oW _ _)) rfl rfl rfl rfl rfl rfl rfl ?_;refine kW ?_;refine aj (dG (s1.fit (by omega)) (s2.fit (by omega))) rfl rfl rfl rfl rfl rfl rfl ?_;refine kW ?_;refine aj (dw (h.2.fit (by omega)) (st.fit (by omega)) (by omega) (nC _ _)) rfl rfl rfl rfl rfl rfl rfl ?_;refine kW ?_
 refine aj (dw (h'.2.fit (by omega)) (sg.fit (by omega)) (by omega) (nC _ _)) rfl rfl rfl rfl rfl rfl rfl ?_;refine kW ?_;refine aj (dG (s3.fit (by omega)) (s4.fit (by omega))) rfl rfl rfl rfl rfl rfl rfl ?_
 exact hK.out):p:=e ⟨h⟩
theorem Sq {p q:Prop} (h:q) (e:KH q->p:=by
 intro hK
 refine aN ⟨[(1, .d (eU l)),(2, .d (eT l)),(3, .box 0 0),(6, .box 1 0),(7, .d (dN .i64 0)),(12, .own 5001 1 5 50),(72, .d (.leaf (.sl 2 (ab o1 na1 xs1 nb1 ys1 nm1 n1 cs1++ab o2 na2 xs2 nb2 ys2 nm2 n2 cs2)))),(73, .d (dN .i64 2)),(74, .d (dN .i64 1))],[(0,some ([.val (.int .i64 (B4.add).code)]++uo++[.val (vL []), .sl 2 (ab o1 na1 xs1 nb1 ys1 nm1 n1 cs1++ab o2 na2 xs2 nb2 ys2 nm2 n2 cs2)])),(1,some iF),(5001,some (jS x.1 x.2))]⟩ kw ?_
 exact hK.out):p:=e ⟨h⟩
theorem R9 {p q:Prop} (h:q) (e:KH q->p:=by
 intro hK
 refine aN ⟨[(1, .d (eU l)),(2, .d (eT l)),(3, .box 0 0),(6, .box 1 0),(7, .d (dN .i64 0)),(12, .own 5001 1 5 50),(72, .d (.leaf (.sl 2 (ab o1 na1 xs1 nb1 ys1 nm1 n1 cs1++ab o2 na2 xs2 nb2 ys2 nm2 n2 cs2)))),(73, .d (dN .i64 2)),(74, .d (dN .i64 1))],[(0,some ([.val (.int .i64 (B4.div).code)]++uo++[.val (vL []), .sl 2 (ab o1 na1 xs1 nb1 ys1 nm1 n1 cs1++ab o2 na2 xs2 nb2 ys2 nm2 n2 cs2)])),(1,some iF),(5001,some (jS x.1 x.2))]⟩ kw ?_
 exact hK.out):p:=e ⟨h⟩
theorem RI {p q:Prop} (h:q) (e:KH q->p:=by
 intro hK
 refine aN ⟨[(1, .d (eU l)),(2, .d (eT l)),(3, .box 0 0),(6, .box 1 0),(7, .d (dN .i64 0)),(12, .own 5001 1 5 50),(72, .d (.leaf (.sl 2 (ab o1 na1 xs1 nb1 ys1 nm1 n1 cs1++ab o2 na2 xs2 nb2 ys2 nm2 n2 cs2)))),(73, .d (dN .i64 2)),(74, .d (dN .i64 1))],[(0,some ([.val (.int .i64 (B4.mul).code)]++uo++[.val (vL []), .sl 2 (ab o1 na1 xs1 nb1 ys1 nm1 n1 cs1++ab o2 na2 xs2 nb2 ys2 nm2 n2 cs2)])),(1,some iF),(5001,some (jS x.1 x.2))]⟩ kw ?_
 exact hK.out):p:=e ⟨h⟩
theorem RC {p q:Prop} (h:q) (e:KH q->p:=by
 intro hK
 refine aN ⟨[(1, .d (eU l)),(2, .d (eT l)),(3, .box 0 0),(6, .box 1 0),(7, .d (dN .i64 0)),(12, .own 5001 1 5 50),(72, .d (.leaf (.sl 2 (ab o1 na1 xs1 nb1 ys1 nm1 n1 cs1++ab o2 na2 xs2 nb2 ys2 nm2 n2 cs2)))),(73, .d (dN .i64 2)),(74, .d (dN .i64 1))],[(0,some ([.val (.int .i64 (B4.sub).code)]++uo++[.val (vL []), .sl 2 (ab o1 na1 xs1 nb1 ys1 nm1 n1 cs1++ab o2 na2 xs2 nb2 ys2 nm2 n2 cs2)])),(1,some iF),(5001,some (jS x.1 x.2))]⟩ kw ?_
 exact hK.out):p:=e ⟨h⟩
theorem mR {p q:Prop} (h:q) (e:KH q->p:=by
 intro hK
 refine kI ?_;refine kX ?_
 exact hK.out):p:=e ⟨h⟩
theorem T2 {p q:Prop} (h:q) (e:KH q->p:=by
 intro hK
 refine kB true ?_ ?_
 ·exact(by simpa using hz)
 exact hK.out):p:=e ⟨h⟩
theorem BE {p q:Prop} (h:q) (e:KH q->p:=by
 intro hK
 refine kW ?_;refine kC (nO) ?_
 exact hK.out):p:=e ⟨h⟩
theorem Tf {p q:Prop} (h:q) (e:KH q->p:=by
 intro hK
 refine kO2 ?_
 refine gr ((c1.rd (ts:=[.own 5001 (List.cons a r).length 1 9, .d (dL p.1)]) (b:=[(5001,au (List.cons a r))]) rfl rfl)) rfl rfl rfl rfl rfl ⟨rfl,trivial⟩ rfl rfl rfl rfl ?_
 exact hK.out):p:=e ⟨h⟩
theorem Bn {p q:Prop} (h:q) (e:KH q->p:=by
 intro hK
 refine kN ?_;refine kI ?_
 refine kO3 ?_
 refine SA ac hple rfl rfl rfl rfl rfl rfl rfl rfl ?_
 exact hK.out):p:=e ⟨h⟩
theorem Sb {p q:Prop} (h:q) (e:KH q->p:=by
 intro hK
 refine Pg ?_;refine aj (b7 (decide_eq_true (by omega))) rfl rfl rfl rfl rfl rfl rfl ?_;refine kW ?_;refine aj (dG (h.1.fit (by omega)) (h'.2.fit (by omega))) rfl rfl rfl rfl rfl rfl rfl ?_;refine kW ?_;refine aj (dG (h'.1.fit (by omega)) (h.2.fit (by omega))) rfl rfl rfl rfl rfl rfl rfl ?_;refine kW ?_;refine aj (jH ((h.1.mul h'.2).fit (by omega)) ((h'.1.mul h.2).fit (by omega))) rfl rfl rfl rfl rfl rfl rfl ?_;refine kW ?_;refine aj (dG (h.2.fit (by omega)) (h'.2.fit (by omega))) rfl rfl rfl rfl rfl rfl rfl ?_
 exact hK.out):p:=e ⟨h⟩
theorem qZ {p q:Prop} (h:q) (e:KH q->p:=by
 intro hK
 refine kN ?_;refine fM (T:=TT) rfl ?_
 exact hK.out):p:=e ⟨h⟩
theorem PR {p q:Prop} (h:q) (e:KH q->p:=by
 intro hK
 refine kO3 ?_
 refine kC (ih) ?_
 exact hK.out):p:=e ⟨h⟩
theorem T3 {p q:Prop} (h:q) (e:KH q->p:=by
 intro hK
 refine kO2 ?_
 refine kC (cn) ?_;refine gr ((c2.rd (ts:=[.own 5001 (List.cons a r).length 1 9, .d (gM ns)]) (b:=[(5001,au (List.cons a r))]) rfl rfl)) rfl rfl rfl rfl rfl ⟨rfl,trivial⟩ rfl rfl rfl rfl ?_
 exact hK.out):p:=e ⟨h⟩
theorem PA {p q:Prop} (h:q) (e:KH q->p:=by
 intro hK
 refine bB (i:=k) (cs':=a6 q.1 o2 na2 xs2 nb2 ys2 nm2 n2 cs2) hkl hat2 (Nat.zero_lt_succ 7) rfl rfl rfl rfl rfl rfl rfl rfl ?_
 exact hK.out):p:=e ⟨h⟩
theorem RG {p q:Prop} (h:q) (e:KH q->p:=by
 intro hK
 refine kW ?_;refine aj (fB (h.1.fit (by omega)) (h'.2.fit (by omega))) rfl rfl rfl rfl rfl rfl rfl ?_;refine kW ?_;refine aj (fB (h'.1.fit (by omega)) (h.2.fit (by omega))) rfl rfl rfl rfl rfl rfl rfl ?_;refine kW ?_;refine aj (vO ((h.1.mul h'.2).fit (by omega)) ((h'.1.mul h.2).fit (by omega))) rfl rfl rfl rfl rfl rfl rfl ?_;refine kW ?_;refine aj (fB (h.2.fit (by omega)) (h'.2.fit (by omega))) rfl rfl rfl rfl rfl rfl rfl ?_;refine kW ?_;refine aj (iR (k:=j+k+1) ((h.1.mul h'.2).add ((h'.1.mul h.2).mono (by omega))) ((h.2.mul h'.2).mono (by omega)) hk d0 (mU a b)) rfl rfl rfl rfl rfl rfl rfl ?_
 exact hK.out):p:=e ⟨h⟩
theorem Ff {p q:Prop} (h:q) (e:KH q->p:=by
 intro hK
 refine kW ?_;refine kC (c2) ?_;refine kO ?_;refine kQ (c3) ?_;refine kC (c4) ?_
 exact hK.out):p:=e ⟨h⟩
theorem LV {p q:Prop} (h:q) (e:KH q->p:=by
 intro hK
 refine kO3 ?_
 refine aC rfl rfl rfl rfl rfl rfl rfl (bH (a:=nx) (b:=[]) h0) ?_
 refine kO4 ?_
 refine aC rfl rfl rfl rfl rfl rfl rfl (CI (a:=p.1) (b:=nx) hls) ?_;refine kW ?_
 exact hK.out):p:=e ⟨h⟩
theorem pA {p q:Prop} (h:q) (e:KH q->p:=by
 intro hK
 refine kI ?_
 refine kO3 ?_
 refine kE ?_
 exact hK.out):p:=e ⟨h⟩
theorem F8 {p q:Prop} (h:q) (e:KH q->p:=by
 intro hK
 refine kN ?_;refine kI ?_
 refine kO3 ?_
 exact hK.out):p:=e ⟨h⟩
theorem I2 {p q:Prop} (h:q) (e:KH q->p:=by
 intro hK
 refine kO2 ?_
 refine bB (i:=i) (cs':=[.val (vL x)]) hlt (d4 hxx) (Nat.lt_succ_self 0) rfl rfl rfl rfl rfl rfl rfl rfl ?_;refine kO ?_
 exact hK.out):p:=e ⟨h⟩
theorem SO {p q:Prop} (h:q) (e:KH q->p:=by
 intro hK
 refine kX ?_;refine BG ac (show i<=c by omega) rfl rfl rfl rfl rfl rfl rfl rfl rfl ?_
 refine kO2 ?_
 refine kJ ((m+1:Nat)) ?_;refine kO ?_;refine kJ ((m+1-i:Nat)) ?_;refine Jh 1003 ac (m1:=i) (m2:=m+1-i) (m3:=m+1) (p:=0) (cs:=cs) (by omega) (by omega) (by rw[Nat.zero_add];omega) (fh (l0 hB _) _) (hby _ (by omega)) (by omega) (by omega) rfl rfl rfl rfl rfl rfl rfl rfl rfl rfl underlying3 rfl rfl rfl rfl rfl rfl ?_;refine kW ?_;refine l7 ac (show i<m+1 by omega) rfl rfl rfl rfl rfl rfl rfl rfl rfl ?_;refine kO ?_
 exact hK.out):p:=e ⟨h⟩
theorem B9 {p q:Prop} (h:q) (e:KH q->p:=by
 intro hK
 refine aC rfl rfl rfl rfl rfl rfl rfl (gA (a:=s) (b:=[]) hne) ?_
 refine kO3 ?_
 exact hK.out):p:=e ⟨h⟩
theorem Rq {p:Prop} (e:p:=by
 intro k
 induction k with
 |zero=>intro _;exact⟨[],rfl,fun i r h=>by simp at h⟩
 |succ k ihk=>
  intro hk;obtain⟨rows,h1,h2⟩:=ihk (by omega);obtain⟨r,us,h3,h4,h5⟩:=hrow k (by omega);refine⟨rows++[r],by simp[h1],fun i q hq=>?_⟩
  by_cases hi:i<rows.length
  ·rw[List.getElem?_append_left hi]at hq;exact h2 i q hq
  ·have hil:=(List.getElem?_eq_some_iff.1 hq).1
   simp at hil
   have:i=k:=by omega
   subst this;rw[List.getElem?_append_right (by omega),h1,Nat.sub_self]at hq
   simp at hq
   subst hq;exact⟨us,h3,h4,h5⟩):p:=e
theorem xl {p q:Prop} (h:q) (e:KH q->p:=by
 intro hK
 refine kB true ?_ ?_
 ·exact bne_iff_ne.2 h0
 exact hK.out):p:=e ⟨h⟩
theorem nL {p q:Prop} (h:q) (e:KH q->p:=by
 intro hK
 refine kN ?_
 repeat refine bM (T:=TT) ?_
 exact hK.out):p:=e ⟨h⟩
theorem th {p q:Prop} (h:q) (e:KH q->p:=by
 intro hK
 refine P2 ac rfl rfl rfl rfl rfl rfl rfl rfl rfl ?_
 exact hK.out):p:=e ⟨h⟩
theorem SV {p q:Prop} (h:q) (e:KH q->p:=by
 intro hK
 refine kV func69 ?_;refine eX 2 ?_;refine aN ⟨[(1, .d (eU l)),(2, .d (eT l)),(3, .box 0 0),(6, .box 1 0),(7, .d (dN .i64 0)),(12, .nil),(72, .d (.leaf (.sl 1 (ab o1 na1 xs1 nb1 ys1 nm1 n1 cs1)))),(73, .d (dN .i64 1)),(74, .d (dN .i64 0))],[(0,some ([.val (.int .i64 3)]++uo++[.val (vL []), .sl 1 (ab o1 na1 xs1 nb1 ys1 nm1 n1 cs1)])),(1,some iF)]⟩ kw ?_;refine kW ?_;refine No ?_
 exact hK.out):p:=e ⟨h⟩
theorem zy {p q:Prop} (h:q) (e:KH q->p:=by
 intro hK
 refine eD (T:=TT) rfl ?_ ?_
 ·exact decide_eq_false (by omega)
 exact hK.out):p:=e ⟨h⟩
theorem TI {p q:Prop} (h:q) (e:KH q->p:=by
 intro hK
 refine aC rfl rfl rfl rfl rfl rfl rfl (bn (a:=nm) (b:=[]) (of_decide_eq_true hz)) ?_;refine kW ?_
 exact hK.out):p:=e ⟨h⟩
theorem I0 {p q:Prop} (h:q) (e:KH q->p:=by
 intro hK
 refine bY ac (i:=2) (c:=42) rfl rfl rfl rfl rfl rfl rfl rfl rfl ?_
 exact hK.out):p:=e ⟨h⟩
theorem Mv {p q:Prop} (h:q) (e:KH q->p:=by
 intro hK
 refine kO3 ?_
 refine cY 13002 (m1:=0) (m2:=1) ac (by decide) (by decide) rfl rfl rfl rfl rfl rfl rfl rfl rfl rfl rfl (.nil rfl rfl) rfl rfl rfl ?_;refine kW ?_
 exact hK.out):p:=e ⟨h⟩
theorem K7 {p q:Prop} (h:q) (e:KH q->p:=by
 intro hK
 rw[rc,if_neg (by decide),if_neg (by decide),if_neg (by decide),if_pos (by decide),decide_eq_false hl,Bool.and_false,Bool.false_and];refine kV func112 ?_
 exact hK.out):p:=e ⟨h⟩
theorem MA {p q:Prop} (h:q) (e:KH q->p:=by
 intro hK
 refine kC (cf) ?_;refine bB (i:=k) (cs':=a6 p.1 o1 na1 xs1 nb1 ys1 nm1 n1 cs1) hkl hat (Nat.zero_lt_succ 7) rfl rfl rfl rfl rfl rfl rfl rfl ?_
 refine kO4 ?_
 exact hK.out):p:=e ⟨h⟩
theorem L0 {p q:Prop} (h:q) (e:KH q->p:=by
 intro hK
 refine kO4 ?_
 refine m4 (v':= .int .i64 (p+p')) rfl rfl rfl rfl ?_ ?_
 ·exact congrArg (Value.int .i64) (by rw[IntWalk.i64_in _ (by omega)])
 refine kW ?_
 exact hK.out):p:=e ⟨h⟩
theorem qW {p q:Prop} (h:q) (e:KH q->p:=by
 intro hK
 refine kW ?_;refine⟨i+1,hlt,by omega,?_⟩
 exact hK.out):p:=e ⟨h⟩
theorem Sc {p q:Prop} (h:q) (e:KH q->p:=by
 intro hK
 refine JS ?_;refine kT ?_
 refine kO4 ?_
 refine kT ?_
 refine kO4 ?_
 refine bY ac (i:=i+n) (c:=s[i+n]) hx rfl rfl rfl rfl rfl rfl rfl rfl ?_
 exact hK.out):p:=e ⟨h⟩
theorem T7 {p q:Prop} (h:q) (e:KH q->p:=by
 intro hK
 refine aN ⟨[(1, .d (eU l)),(2, .d (eT l)),(3, .box 0 0),(6, .box 1 0),(7, .d (dN .i64 0)),(12, .own 5002 2 5 50),(72, .d (.leaf (.sl 2 (ab o1 na1 xs1 nb1 ys1 nm1 n1 cs1++ab o2 na2 xs2 nb2 ys2 nm2 n2 cs2)))),(73, .d (dN .i64 2)),(74, .d (dN .i64 2))],[(0,some ([.val (.int .i64 (B4.add).code)]++uo++[.val (vL []), .sl 2 (ab o1 na1 xs1 nb1 ys1 nm1 n1 cs1++ab o2 na2 xs2 nb2 ys2 nm2 n2 cs2)])),(1,some iF),(5002,some (jS x.1 x.2++jS y.1 y.2))]⟩ kw ?_
 exact hK.out):p:=e ⟨h⟩
theorem TL {p q:Prop} (h:q) (e:KH q->p:=by
 intro hK
 refine aN ⟨[(1, .d (eU l)),(2, .d (eT l)),(3, .box 0 0),(6, .box 1 0),(7, .d (dN .i64 0)),(12, .own 5002 2 5 50),(72, .d (.leaf (.sl 2 (ab o1 na1 xs1 nb1 ys1 nm1 n1 cs1++ab o2 na2 xs2 nb2 ys2 nm2 n2 cs2)))),(73, .d (dN .i64 2)),(74, .d (dN .i64 2))],[(0,some ([.val (.int .i64 (B4.div).code)]++uo++[.val (vL []), .sl 2 (ab o1 na1 xs1 nb1 ys1 nm1 n1 cs1++ab o2 na2 xs2 nb2 ys2 nm2 n2 cs2)])),(1,some iF),(5002,some (jS x.1 x.2++jS y.1 y.2))]⟩ kw ?_
 exact hK.out):p:=e ⟨h⟩
theorem T8 {p q:Prop} (h:q) (e:KH q->p:=by
 intro hK
 refine aN ⟨[(1, .d (eU l)),(2, .d (eT l)),(3, .box 0 0),(6, .box 1 0),(7, .d (dN .i64 0)),(12, .own 5002 2 5 50),(72, .d (.leaf (.sl 2 (ab o1 na1 xs1 nb1 ys1 nm1 n1 cs1++ab o2 na2 xs2 nb2 ys2 nm2 n2 cs2)))),(73, .d (dN .i64 2)),(74, .d (dN .i64 2))],[(0,some ([.val (.int .i64 (B4.mul).code)]++uo++[.val (vL []), .sl 2 (ab o1 na1 xs1 nb1 ys1 nm1 n1 cs1++ab o2 na2 xs2 nb2 ys2 nm2 n2 cs2)])),(1,some iF),(5002,some (jS x.1 x.2++jS y.1 y.2))]⟩ kw ?_
 exact hK.out):p:=e ⟨h⟩
theorem Ua {p q:Prop} (h:q) (e:KH q->p:=by
 intro hK
 refine aN ⟨[(1, .d (eU l)),(2, .d (eT l)),(3, .box 0 0),(6, .box 1 0),(7, .d (dN .i64 0)),(12, .own 5002 2 5 50),(72, .d (.leaf (.sl 2 (ab o1 na1 xs1 nb1 ys1 nm1 n1 cs1++ab o2 na2 xs2 nb2 ys2 nm2 n2 cs2)))),(73, .d (dN .i64 2)),(74, .d (dN .i64 2))],[(0,some ([.val (.int .i64 (B4.sub).code)]++uo++[.val (vL []), .sl 2 (ab o1 na1 xs1 nb1 ys1 nm1 n1 cs1++ab o2 na2 xs2 nb2 ys2 nm2 n2 cs2)])),(1,some iF),(5002,some (jS x.1 x.2++jS y.1 y.2))]⟩ kw ?_
 exact hK.out):p:=e ⟨h⟩
theorem uI {p q:Prop} (h:q) (e:KH q->p:=by
 intro hK
 refine kV func112 ?_
 exact hK.out):p:=e ⟨h⟩
theorem Ri {p q:Prop} (h:q) (e:KH q->p:=by
 intro hK
 refine gG 7001 (m1:=0) (m2:=q) ac hq0 (hb _ (by omega)) (by rw[List.length_take,hc];omega) rfl rfl rfl rfl rfl rfl rfl rfl rfl (.nil rfl rfl) rfl rfl (by rw[wA hB];rfl) rfl ?_
 refine kO2 ?_
 refine gG 7002 (m1:=0+q) (m2:=1) ac (by decide) (hb _ (by omega)) rfl rfl rfl rfl rfl rfl rfl rfl rfl rfl (.own rfl rfl) rfl rfl rfl rfl ?_
 refine kO2 ?_
 refine Ku ac (by rw[hc];exact Nat.le_refl _) hple hd rfl rfl rfl rfl rfl rfl rfl rfl ?_
 exact hK.out):p:=e ⟨h⟩
theorem BY {p q:Prop} (h:q) (e:KH q->p:=by
 intro hK
 refine kB false ?_ ?_
 ·exact bne_eq_false_iff_eq.2 rfl
 refine kW ?_
 exact hK.out):p:=e ⟨h⟩
theorem Rk {p q:Prop} (h:q) (e:KH q->p:=by
 intro hK
 refine aC rfl rfl rfl rfl rfl rfl rfl (bH (a:=nm) (b:=[]) (of_decide_eq_false hz)) ?_
 exact hK.out):p:=e ⟨h⟩
theorem CK {p q:Prop} (h:q) (e:KH q->p:=by
 intro hK
 show aa Tryz.prog _ [.agg (ab op na xs nb ys nm args.length (db args))] _
 exact hK.out):p:=e ⟨h⟩
theorem Ro {p q:Prop} (h:q) (e:KH q->p:=by
 intro hK
 refine gG 6001 (m1:=0) (m2:=q) ac hq0 (hb1 _ (by omega)) (by rw[List.length_take,hcn];omega) rfl rfl rfl rfl rfl rfl rfl rfl rfl (.nil rfl rfl) rfl rfl (by rw[wA hBn];rfl) rfl ?_
 refine kO2 ?_
 refine gG 6002 (m1:=0+q) (m2:=1) ac (by decide) (hb1 _ (by omega)) rfl rfl rfl rfl rfl rfl rfl rfl rfl rfl (.own rfl rfl) rfl rfl rfl rfl ?_
 refine kO2 ?_
 refine Ku ac (by rw[hcn];omega) hple hd rfl rfl rfl rfl rfl rfl rfl rfl ?_
 exact hK.out):p:=e ⟨h⟩
theorem Rw {p q:Prop} (h:q) (e:KH q->p:=by
 intro hK
 refine kW ?_;refine No ?_
 exact hK.out):p:=e ⟨h⟩
theorem JC {p q:Prop} (h:q) (e:KH q->p:=by
 intro hK
 refine kB true ?_ ?_
 ·exact(by simp;omega)
 exact hK.out):p:=e ⟨h⟩
theorem SZ {p q:Prop} (h:q) (e:KH q->p:=by
 intro hK
 refine kO ?_;refine kB false ?_ ?_
 ·exact(by simp;omega)
 refine kW ?_;refine kC (hno) ?_
 exact hK.out):p:=e ⟨h⟩
theorem Ud {p q:Prop} (h:q) (e:KH q->p:=by
 intro hK
 refine kO3 ?_
 refine kC (ih') ?_
 exact hK.out):p:=e ⟨h⟩
theorem Td {p:Prop} (e:p:=by
 refine zM ac rfl rfl rfl rfl rfl rfl rfl rfl rfl ?_;refine kW ?_;refine eC (T:=TT) rfl ?_ ?_
 ·exact decide_eq_true rfl
 refine kW ?_;refine sY 1003 (m1:=i) (m2:=1) (cs2:=x) ac (by decide) (hby _ (by omega)) (by rw[hx];exact Nat.le_refl _) rfl rfl rfl rfl rfl rfl rfl rfl rfl (.own rfl rfl) rfl rfl rfl ?_ rfl ?_
 ·rw[fh hX];rfl
 refine kW ?_;exact⟨⟨_,rfl,rfl,rfl⟩,⟨congrArg some hfin,trivial⟩⟩):p:=e
theorem Ly {p q:Prop} (h:q) (e:KH q->p:=by
 intro hK
 refine kJ ((i+1:Nat)) ?_;refine ly ac (show i+1<=m+1 by omega) (show i+1<c by omega) rfl rfl rfl rfl rfl rfl rfl rfl rfl ?_
 exact hK.out):p:=e ⟨h⟩
theorem BW {p q:Prop} (h:q) (e:KH q->p:=by
 intro hK
 refine kW ?_;refine kQ (cf) ?_
 exact hK.out):p:=e ⟨h⟩
theorem PQ {p q:Prop} (h:q) (e:KH q->p:=by
 intro hK
 refine kW ?_;refine aj (Ap (neg:=false) (xs:=digs u) (ay _) (show ar false (digs u)=((Nat.gcd (val xs) (val ys):Nat):Int) by rw[lg,<- hg];rfl)) rfl rfl rfl rfl rfl rfl rfl ?_
 exact hK.out):p:=e ⟨h⟩
theorem Sd {p:Prop} (e:p:=by
 have hz:∀ad:Addr,(loadCells ad 0).run P w= .ok #[] w:=fun ad=>by
  simpa using run_loadCells_list (P:=P) w ad [] (fun j v hj=>by simp at hj)
 cases A with
 |none=>simp[Builtin.append_,run_underlying hu,bI hks w,Builtin.lenOf,Builtin.firstCells,e2,storeCells]
 |some ad=>simp[Builtin.append_,run_underlying hu,bI hks w,Builtin.lenOf,Builtin.firstCells,e2,storeCells,hz]):p:=e
theorem CT {p q:Prop} (h:q) (e:KH q->p:=by
 intro hK
 refine Oo ac rfl rfl rfl rfl (a7 (q:=2) rfl rfl) ?_
 exact hK.out):p:=e ⟨h⟩
theorem SG {p q:Prop} (h:q) (e:KH q->p:=by
 intro hK
 refine kO3 ?_
 refine kE ?_
 refine kO3 ?_
 exact hK.out):p:=e ⟨h⟩
theorem R6 {p q:Prop} (h:q) (e:KH q->p:=by
 intro hK
 refine aC rfl rfl rfl rfl rfl rfl rfl (bn (a:=nm) (b:=[]) hnm) ?_
 refine kO5 ?_
 exact hK.out):p:=e ⟨h⟩
theorem Ql {p q:Prop} (h:q) (e:KH q->p:=by
 intro hK
 refine kO3 ?_
 refine bB (i:=i) (cs':=[.val (vL l[i].1)]) hil (DN hx) (by simp) rfl rfl rfl rfl rfl rfl rfl rfl ?_
 exact hK.out):p:=e ⟨h⟩
theorem Q0 {p q:Prop} (h:q) (e:KH q->p:=by
 intro hK
 refine aC rfl rfl rfl rfl rfl rfl rfl (bH (a:=nm) (b:=[]) hnm) ?_
 exact hK.out):p:=e ⟨h⟩
theorem uQ {p q:Prop} (h:q) (e:KH q->p:=by
 intro hK
 refine kW ?_;refine kQ (cv) ?_
 exact hK.out):p:=e ⟨h⟩
theorem zD {p:Prop} (e:p:=by
 refine kW ?_;exact⟨⟨_,rfl,rfl,rfl⟩,⟨rfl,trivial⟩⟩):p:=e
theorem QL {p:Prop} (e:p:=by
 funext q
 apply propext
 constructor
 ·rintro(h1|h1)
  ·exact h1.1
  ·exact bxown q h1
 ·intro h1
  by_cases h2:BX g b q
  ·exact .inr h2
  ·exact .inl ⟨h1,h2⟩):p:=e
theorem BH {p q:Prop} (h:q) (e:KH q->p:=by
 intro hK
 refine bM ?_;refine bG rfl ?_
 refine kO2 ?_
 exact hK.out):p:=e ⟨h⟩
theorem Mr {p q:Prop} (h:q) (e:KH q->p:=by
 intro hK
 rw[rc,if_neg (by decide),if_neg (by decide),if_neg (by decide),if_pos (by decide),decide_eq_true hl,Bool.and_true]
 exact hK.out):p:=e ⟨h⟩
theorem B6 {p:Prop} (e:p:=by
 exact congrArg (fun z=>RV.one (dN .i64 z)) hv.symm):p:=e
theorem Ru {p:Prop} (e:p:=by
 refine⟨oY K (fmt (pw q K).num),?_,fun u h=>?_⟩
 ·have:(ja q).isSome=decide ((oY K (fmt (pw q K).num)).length<=40):=by
   rw[h2]
   split
   ·rename_i h;simp[h]
   ·rename_i h;simp[h]
  rw[this];exact main _ _ (fun h=>by omega) (fun _=>⟨rfl,rfl⟩)
 ·rw[h2]at h
  split at h
  ·cases h;rfl
  ·cases h):p:=e
theorem Kt {p q:Prop} (h:q) (e:KH q->p:=by
 intro hK
 refine kO2 ?_
 refine kC (cn) ?_
 exact hK.out):p:=e ⟨h⟩
theorem Iw {p q:Prop} (h:q) (e:KH q->p:=by
 intro hK
 refine kO3 ?_
 refine cY 13003 (m1:=1) (m2:=1) ac (by decide) (by decide) rfl rfl rfl rfl rfl rfl rfl rfl rfl rfl rfl (.own rfl rfl) rfl rfl rfl ?_;refine kW ?_
 exact hK.out):p:=e ⟨h⟩
theorem OF {p:Prop} (e:p:=by
 refine wk ac rfl rfl rfl rfl rfl rfl rfl rfl ?_;refine kW ?_;refine sY 1003 (m1:=0) (m2:=1) (cs2:=x) ac (by decide) (by decide) (by rw[hx];exact Nat.le_refl _) rfl rfl rfl rfl rfl rfl rfl rfl rfl (.nil rfl rfl) rfl rfl rfl ?_ rfl ?_
 ·rw[fh hB];rfl
 refine kW ?_;exact⟨⟨_,rfl,rfl,rfl⟩,⟨congrArg some hcs,trivial⟩⟩):p:=e
theorem J7 {p q:Prop} (h:q) (e:KH q->p:=by
 intro hK
 refine kV func138 ?_;refine eD (T:=TT) rfl ?_ ?_
 ·exact t8 ha0
 refine kW ?_;refine eD (T:=TT) rfl ?_ ?_
 ·exact t8 hb0
 refine kW ?_
 exact hK.out):p:=e ⟨h⟩
theorem Nj {p q:Prop} (h:q) (e:KH q->p:=by
 intro hK
 refine kB false ?_ ?_
 ·exact(by simp[e1])
 refine kO5 ?_
 refine aC rfl rfl rfl rfl rfl rfl rfl (fD (a:=nm) (b:=nm') e2) ?_
 iterate 8 refine kO ?_
 exact hK.out):p:=e ⟨h⟩
theorem N7 {p q:Prop} (h:q) (e:KH q->p:=by
 intro hK
 refine Er ?_
 refine kO2 ?_
 refine gG 7002 (m1:=0) (m2:=1) ac (by decide) (by decide) rfl rfl rfl rfl rfl rfl rfl rfl rfl rfl (.nil rfl rfl) rfl rfl rfl rfl ?_
 refine kO2 ?_
 refine Ku ac (by rw[hc];exact Nat.le_refl _) hple hd rfl rfl rfl rfl rfl rfl rfl rfl ?_
 exact hK.out):p:=e ⟨h⟩
theorem Jq {p q:Prop} (h:q) (e:KH q->p:=by
 intro hK
 refine kB false ?_ ?_
 ·exact bne_eq_false_iff_eq.2 h0
 exact hK.out):p:=e ⟨h⟩
theorem p7 {p q:Prop} (h:q) (e:KH q->p:=by
 intro hK
 refine kT ?_
 refine kO2 ?_
 refine kE ?_
 exact hK.out):p:=e ⟨h⟩
theorem KV {p q:Prop} (h:q) (e:KH q->p:=by
 intro hK
 refine kW ?_;refine aj (dM 1 (by decide) (by decide)) rfl rfl rfl rfl rfl rfl rfl ?_;refine kW ?_
 exact hK.out):p:=e ⟨h⟩
theorem NL {p q:Prop} (h:q) (e:KH q->p:=by
 intro hK
 refine kV func23 ?_;refine qC 5001 ac rfl rfl rfl rfl rfl rfl rfl rfl ?_;refine kO ?_;refine cY 5002 (m1:=0) (m2:=(a::r).length) ac (Nat.zero_lt_succ _) (hby _ (by omega)) hlc rfl rfl rfl rfl rfl rfl rfl rfl rfl rfl (.own rfl rfl) rfl rfl (by rw[hok];rfl) ?_;rw[Nat.zero_add (a::r).length]
 exact hK.out):p:=e ⟨h⟩
theorem OL {p q:Prop} (h:q) (e:KH q->p:=by
 intro hK
 refine Er ?_
 refine kO2 ?_
 refine gG 6002 (m1:=0) (m2:=1) ac (by decide) (by decide) rfl rfl rfl rfl rfl rfl rfl rfl rfl rfl (.nil rfl rfl) rfl rfl rfl rfl ?_
 refine kO2 ?_
 refine Ku ac (by rw[hcn];omega) hple hd rfl rfl rfl rfl rfl rfl rfl rfl ?_
 exact hK.out):p:=e ⟨h⟩
theorem Ea {p q:Prop} (h:q) (e:KH q->p:=by
 intro hK
 refine ly ac (show i<=m+1 by omega) (show i<c by omega) rfl rfl rfl rfl rfl rfl rfl rfl rfl ?_
 exact hK.out):p:=e ⟨h⟩
theorem Ph {p q:Prop} (h:q) (e:KH q->p:=by
 intro hK
 refine kW ?_;refine aj (fB (h.1.fit (by omega)) (h'.1.fit (by omega))) rfl rfl rfl rfl rfl rfl rfl ?_;refine kW ?_;refine aj (fB (h.2.fit (by omega)) (h'.2.fit (by omega))) rfl rfl rfl rfl rfl rfl rfl ?_;refine kW ?_;refine kC (iR (h.1.mul h'.1) (h.2.mul h'.2) hk d0 (mV a b)) ?_
 exact hK.out):p:=e ⟨h⟩
theorem Nh {p q:Prop} (h:q) (e:KH q->p:=by
 intro hK
 refine kI ?_
 refine kO2 ?_
 refine m4 (v':= .int .i64 ((5:Nat))) rfl rfl rfl rfl ?_ ?_
 ·exact congrArg (Value.int .i64) (by rw[hB])
 refine kO2 ?_
 refine cY 15002 (m1:=3) (m2:=1) ac (by decide) (by decide) rfl rfl rfl rfl rfl rfl rfl rfl rfl rfl rfl (.own rfl rfl) rfl rfl rfl ?_
 exact hK.out):p:=e ⟨h⟩
theorem Rb {p q:Prop} (h:q) (e:KH q->p:=by
 intro hK
 refine kO3 ?_
 refine m4 (v':= .bool (decide (z.length<=40))) rfl rfl rfl rfl ?_ ?_
 ·exact congrArg Value.bool (decide_eq_decide.2 (by omega))
 exact hK.out):p:=e ⟨h⟩
theorem Bb {p:Prop} (e:p:=by
 have:=Nat.le_mul_of_pos_right (m1+m2) (Nat.le_of_ble_eq_true hq0.2);omega):p:=e
theorem OP {p q:Prop} (h:q) (e:KH q->p:=by
 intro hK
 refine JF ?_;refine kW ?_;refine kQ (lB (na:=nb) hw' c2) ?_
 exact hK.out):p:=e ⟨h⟩
theorem qL {p q:Prop} (h:q) (e:KH q->p:=by
 intro hK
 refine kI ?_;refine kY ?_
 exact hK.out):p:=e ⟨h⟩
theorem OG {p:Prop} (e:p:=by
 rcases hbst with⟨h3,h4⟩| ⟨k,q,h3,h4,h5⟩
 ·exact .inr (.inr (.inl ⟨h,h2,h3,h4⟩))
 ·rcases Bool.eq_false_or_eq_true (Op.bytesLess p.1 q.1)with h6|h6
  ·exact .inr (.inr (.inr (.inr ⟨k,q,h,h2,h3,h4,h5,h6⟩)))
  ·exact .inr (.inr (.inr (.inl ⟨k,q,h,h2,h3,h4,h5,h6⟩)))):p:=e
theorem NZ {p q:Prop} (h:q) (e:KH q->p:=by
 intro hK
 refine Jr ?_;refine kW ?_;refine kQ (mK (na:=nb) hw' c2) ?_
 exact hK.out):p:=e ⟨h⟩
theorem EV {p:Prop} (e:p:=by
 rw[cH,eW e5];rw[List.getElem?_take]at hi
 split at hi
 ·simpa using hi
 ·cases hi):p:=e
theorem vV {p q:Prop} (h:q) (e:KH q->p:=by
 intro hK
 refine kI ?_
 refine kO4 ?_
 refine kT ?_
 exact hK.out):p:=e ⟨h⟩
theorem KL {p q:Prop} (h:q) (e:KH q->p:=by
 intro hK
 refine kW ?_;refine bB (i:=i) (cs':=[.val (vL q)]) hlt (d4 hx) (Nat.zero_lt_succ 0) rfl rfl rfl rfl rfl rfl rfl rfl ?_;refine kO ?_
 exact hK.out):p:=e ⟨h⟩
theorem OY {p q:Prop} (h:q) (e:KH q->p:=by
 intro hK
 refine kG ?_
 refine kO3 ?_
 refine kJ ((i+1:Nat)) ?_;refine l7 ac (show i+1<m+1 by omega) rfl rfl rfl rfl rfl rfl rfl rfl rfl ?_
 refine kO2 ?_
 refine ly ac (show i<=m by omega) (show i<c by omega) rfl rfl rfl rfl rfl rfl rfl rfl rfl ?_
 exact hK.out):p:=e ⟨h⟩
theorem KT {p:Prop} (e:p:=by
 cases hbase with
 |nil a b=>exact .nil (hx2.trans a) b
 |own a b=>exact .own (hx2.trans a) ((aT (hrb _ (by simp[rT]))).trans b)):p:=e
theorem Pr {p q:Prop} (h:q) (e:KH q->p:=by
 intro hK
 refine gr (ce.rdW (ts:=[.d (.agg (ab o1 na1 xs1 nb1 ys1 nm1 n1 cs1)), .own 5001 (i+1) 1 9, .own 5002 (i+1) 5 50]) (b:=[(5001,au (env.map (·.1))),(5002,j4 env)]) rfl hwd (QF rfl rfl)) rfl rfl rfl rfl rfl ⟨rfl,rfl,trivial⟩ rfl rfl rfl rfl ?_;refine kW ?_
 exact hK.out):p:=e ⟨h⟩
theorem OI {p:Prop} (e:p:=by
 rw[hb]at c;refine kQ (c) ?_
 exact⟨i+1,⟨hlt,fun q y h1 h2=>by
  by_cases e:q=i
  ·subst e;rw[hx]at h2;cases h2;exact hb
  ·exact hq q y (by omega) h2⟩,by omega,weak ⟨rfl,rfl,ae (by omega) (by omega),trivial⟩ ⟨rfl,trivial⟩ rfl⟩):p:=e
theorem OO {p:Prop} (e:p:=by
 constructor
 ·rintro⟨h1,h2⟩
  refine⟨vg.1 h1,fun cs hc=>?_⟩;have:=h2 _ (qd hc)
  rwa[nB]at this
 ·rintro⟨h1,h2⟩
  refine⟨vg.2 h1,fun cs hc=>?_⟩;obtain⟨c0,h0,rfl⟩:=iZ hc;rw[kK]at h0;rw[nB];exact h2 c0 h0):p:=e
theorem Pd {p q:Prop} (h:q) (e:KH q->p:=by
 intro hK
 refine kV func145 ?_;refine aj (vo (na:=na) hw (by unfold oG;omega) hn) rfl rfl rfl rfl rfl rfl rfl ?_;refine kW ?_;refine aj (vo (na:=nb) hw' (by unfold oG;omega) hd) rfl rfl rfl rfl rfl rfl rfl ?_;refine kW ?_
 exact hK.out):p:=e ⟨h⟩
theorem tD {p q:Prop} (h:q) (e:KH q->p:=by
 intro hK
 refine kN ?_;refine eQ (T:=TT) rfl ?_
 exact hK.out):p:=e ⟨h⟩
theorem H8 {p q:Prop} (h:q) (e:KH q->p:=by
 intro hK
 refine kT ?_
 refine kO3 ?_
 refine bY ac (i:=0) (c:=c) h0 rfl rfl rfl rfl rfl rfl rfl rfl ?_;refine kC (c1) ?_
 exact hK.out):p:=e ⟨h⟩
theorem E0 {p q:Prop} (h:q) (e:KH q->p:=by
 intro hK
 unfold Instr.sliceAt
 simp only[Sem.run_bind,run_underlying hu w,Result.andThen_ok]
 exact hK.out):p:=e ⟨h⟩
theorem OQ {p q:Prop} (h:q) (e:KH q->p:=by
 intro hK
 refine bY ac (i:=0) (c:=51) rfl rfl rfl rfl rfl rfl rfl rfl rfl ?_
 refine kO4 ?_
 refine bY ac (i:=0) (c:=51) rfl rfl rfl rfl rfl rfl rfl rfl rfl ?_;refine kW ?_;refine kQ (w0) ?_;refine kQ (n0) ?_
 exact hK.out):p:=e ⟨h⟩
theorem DO {p q:Prop} (h:q) (e:KH q->p:=by
 intro hK
 refine bv ac fH func168 rfl rfl rfl rfl rfl (kg) ?_;refine kW ?_
 exact hK.out):p:=e ⟨h⟩
theorem IS {p:Prop} (e:p:=by
 unfold execOp;rw[h2]
 simp only[e1,bc hM hy,Option.map_some,Option.map_none,Sem.run_bind,hr,Result.andThen_ok]
 rfl):p:=e
theorem D1 {p q:Prop} (h:q) (e:KH q->p:=by
 intro hK
 refine kW ?_;refine eC (T:=TT) rfl ?_ ?_
 ·exact decide_eq_true (by omega)
 exact hK.out):p:=e ⟨h⟩
theorem Ix {p q:Prop} (h:q) (e:KH q->p:=by
 intro hK
 refine yT 16002 (cs:=[.val (vL x)]) ac rfl rfl rfl rfl rfl rfl rfl rfl rfl rfl rfl rfl rfl ?_
 refine kO2 ?_
 exact hK.out):p:=e ⟨h⟩
theorem vC {p q:Prop} (h:q) (e:KH q->p:=by
 intro hK
 refine kT ?_
 refine kO2 ?_
 refine kT ?_
 exact hK.out):p:=e ⟨h⟩
theorem DM {p q:Prop} (h:q) (e:KH q->p:=by
 intro hK
 refine bY ac (i:=j) (c:=s[j]) hx rfl rfl rfl rfl rfl rfl rfl rfl ?_
 exact hK.out):p:=e ⟨h⟩
theorem HY {p:Prop} (e:p:=by
 refine⟨[],?_,fun u h=>by rw[h0]at h;cases h⟩;rw[h0];exact main _ _ (fun _=>⟨rfl,rfl⟩) (fun h=>by omega)):p:=e
theorem vX {p:Prop} (e:p:=by
 rw[this];exact cw (T:=TT) rfl rfl):p:=e
theorem Tr {p:Prop} (e:p:=by
 rw[hb]at c;refine kZ (c) ?_;refine⟨i+1,?_,by omega,weak ⟨rfl,rfl,rfl,rfl,ae (by omega) (by omega),trivial⟩ ⟨rfl,trivial⟩ rfl⟩
 by_cases e:i=f
 ·have:=hyi e;rw[hb]at this;cases this
 ·omega):p:=e
theorem HX {p:Prop} (e:p:=by
 exact congrArg Value.bool (decide_eq_decide.2 (by omega))):p:=e
theorem EP {p q:Prop} (h:q) (e:KH q->p:=by
 intro hK
 refine aC rfl rfl rfl rfl rfl rfl rfl (bH (a:=u) (b:=[]) hu) ?_
 exact hK.out):p:=e ⟨h⟩
theorem Ov {p q:Prop} (h:q) (e:KH q->p:=by
 intro hK
 refine kO4 ?_
 refine gr ((cc.rd (ts:=[.own 7001 (List.cons b O1).length 1 9, .d (dL q.1)]) (b:=[(7001,au (List.cons b O1))]) rfl rfl)) rfl rfl rfl rfl rfl ⟨rfl,trivial⟩ rfl rfl rfl rfl ?_;refine kW ?_
 exact hK.out):p:=e ⟨h⟩
theorem EW {p q:Prop} (h:q) (e:KH q->p:=by
 intro hK
 refine kU func97 ?_;refine kR ?_;refine kI ?_
 iterate 12 refine kO ?_
 exact hK.out):p:=e ⟨h⟩
theorem MX {p:Prop} (e:p:=by
 simp only at h'
 split at h
 ·split at h'
  ·rename_i r1 h1 _ r2 h2
   have:=y9 (fun x _ y z=>ih x y z) h1 h2;subst this;rw[<- Option.some.inj h,<- Option.some.inj h']
  ·cases h'
 ·cases h):p:=e
theorem NF {p:Prop} (e:p:=by
 refine kX ?_;refine kQ (zS g1 hv) ?_;exact⟨(v,u%v),⟨uk.trans hg,g2,Nat.le_trans (ez (Nat.le_of_lt hm)) g2⟩,hm,weak ⟨rfl,rfl,rfl,trivial⟩ ⟨rfl,trivial⟩ rfl⟩):p:=e
theorem NI {p q:Prop} (h:q) (e:KH q->p:=by
 intro hK
 refine IM 7004 ac (m1:=m) (m2:=1) (m3:=m+1) (p:=p) (by omega) hpl rfl rfl (hby _ (by omega)) (by omega) hob rfl rfl rfl rfl rfl rfl rfl rfl rfl rfl rfl (.sl rfl rfl (Nat.zero_lt_succ 0)) rfl rfl rfl ?_
 exact hK.out):p:=e ⟨h⟩
theorem Ep {p q:Prop} (h:q) (e:KH q->p:=by
 intro hK
 refine kW ?_;refine kC (c1) ?_
 refine kO4 ?_
 refine kC (c2) ?_
 exact hK.out):p:=e ⟨h⟩
theorem OM {p:Prop} (e:p:=by
 rw[hnext,ij,if_neg (fun h2=>by
  rcases h with h|h
  ·rw[h]at h2;exact absurd h2.1 (by decide)
  ·rcases h2.2 with h3|h3
   ·exact h.1 h3
   ·rw[h.2]at h3;cases h3)]):p:=e
theorem OH {p q:Prop} (h:q) (e:KH q->p:=by
 intro hK
 refine kO3 ?_
 refine kY ?_;refine eC (T:=TT) rfl ?_ ?_
 ·exact(by rw[hl0];rfl)
 refine kW ?_;refine aj (rY (ay u) (by omega)) rfl rfl rfl rfl rfl rfl rfl ?_
 exact hK.out):p:=e ⟨h⟩
theorem O8 {p:Prop} (e:p:=by
 unfold dl gt
 split
 ·rename_i h
  refine .inl ⟨h,rfl,?_⟩;unfold bF;rw[Mq p h,List.length_set]
 ·refine .inr ⟨rfl,?_⟩
  unfold bF;rw[jy,oD,List.length_append];rfl):p:=e
theorem N1 {p:Prop} (e:p:=by
 have e1:=cV.1 h1;have e2:=cV.1 h2
 by_cases e:j=1003
 ·subst e;cases e1
 ·rw[show aA [(1003,cs')]=[(1003,some cs')] from rfl,av _ _ (fun h=>e h.symm)]at e2;cases e2):p:=e
theorem Ob {p q:Prop} (h:q) (e:KH q->p:=by
 intro hK
 refine kE ?_;refine kG ?_
 refine kO3 ?_
 refine kJ ((m+1:Nat)) ?_;refine BG ac (show m+1<=c by omega) rfl rfl rfl rfl rfl rfl rfl rfl rfl ?_;refine kG ?_
 refine kO4 ?_
 exact hK.out):p:=e ⟨h⟩
theorem ON {p:Prop} (e:p:=by
 refine kW ?_;exact⟨i+1,hlt,by omega,weak ⟨rfl,rfl,rfl,rfl,ae (by omega) (by omega),congrArg (fun z=>TV.d (dL z)) (keep (.inl (by rw[hcd,hb1];rfl))),trivial⟩ ⟨rfl,trivial⟩ rfl⟩):p:=e
theorem Kd {p:Prop} (e:p:=by
 generalize a.eval y=v at hyv;cases hyv with
 |emp=>exact⟨_,_,rfl⟩
 |sl=>exact⟨_,_,rfl⟩):p:=e
theorem OS {p:Prop} (e:p:=by
 rw[hnext,ij,if_neg (fun h2=>by
  rcases h2.2 with h2|h2
  ·exact ho.ne (List.mem_of_getElem? hk) (hq.trans h2)
  ·rw[<- hq,hls]at h2;cases h2)]
 exact .inr ⟨k,q,rfl,hk,hq⟩):p:=e
theorem Pa {p q:Prop} (h:q) (e:KH q->p:=by
 intro hK
 refine kO2 ?_
 refine gr ((cg.rd (ts:=[.own 3001 G.length 1 9, .d (dL p.1)]) (b:=[(3001,au G)]) rfl rfl)) rfl rfl rfl rfl rfl ⟨rfl,trivial⟩ rfl rfl rfl rfl ?_;refine kW ?_
 exact hK.out):p:=e ⟨h⟩
theorem EE {p:Prop} (e:p:=by
 injection this with this
 injection this with this
 injection this):p:=e
theorem SN {p q:Prop} (h:q) (e:KH q->p:=by
 intro hK
 refine kO2 ?_
 refine kC (c1) ?_
 refine kO5 ?_
 exact hK.out):p:=e ⟨h⟩
theorem DQ {p q:Prop} (h:q) (e:KH q->p:=by
 intro hK
 refine kO3 ?_
 refine kC (c2) ?_
 refine kO2 ?_
 exact hK.out):p:=e ⟨h⟩
theorem Oz {p:Prop} (e:p:=by
 refine kW ?_;exact⟨k+1,hkl,by omega,weak ⟨rfl,rfl,rfl,rfl,rfl,rfl,congrArg (fun b=>TV.d (dB b)) (by rw[hst2];rfl),ae (by omega) (by omega),trivial⟩ ⟨rfl,trivial⟩ rfl⟩):p:=e
theorem E5 {p q:Prop} (h:q) (e:KH q->p:=by
 intro hK
 refine kW ?_;refine kQ (dh (oK ha)) ?_
 exact hK.out):p:=e ⟨h⟩
theorem OC {p q:Prop} (h:q) (e:KH q->p:=by
 intro hK
 refine E4 ac (m1:=m) (m2:=1) (m3:=m+1) (p:=p) hroom hpl rfl rfl rfl rfl rfl rfl rfl rfl rfl rfl rfl rfl rfl (.sl rfl rfl (Nat.zero_lt_succ 0)) rfl rfl ?_;refine kW ?_
 exact hK.out):p:=e ⟨h⟩
theorem HT {p q:Prop} (h:q) (e:KH q->p:=by
 intro hK
 refine bY ac (i:=1) (c:=32) rfl rfl rfl rfl rfl rfl rfl rfl rfl ?_;refine kW ?_
 exact hK.out):p:=e ⟨h⟩
theorem Ol {p q:Prop} (h:q) (e:KH q->p:=by
 intro hK
 refine kO3 ?_
 refine cY 13004 (m1:=2) (m2:=1) ac (by decide) (by decide) rfl rfl rfl rfl rfl rfl rfl rfl rfl rfl rfl (.own rfl rfl) rfl rfl rfl ?_;refine kW ?_
 exact hK.out):p:=e ⟨h⟩
theorem O4 {p:Prop} (e:p:=by
 exact⟨i+1,hlt,by omega,weak ⟨rfl,rfl,rfl,rfl,ae (by omega) (by omega),congrArg (fun z=>TV.d (dL z)) (keep (.inl (by rw[hcd,hb1];rfl))),trivial⟩ trivial rfl⟩):p:=e
theorem Ot {p:Prop} (e:p:=by
 obtain⟨b,off,f,e,hn,hl,h1,h2⟩:=hP.gl k cs hk;exact⟨b,off,f,e,fun h=>hn (.inl h),hl,h1,fun i a hi=>(h2 i a hi).agree (cJ.refl _ _) (fun _ _ h=> .inl h)⟩):p:=e
theorem Id {p q:Prop} (h:q) (e:KH q->p:=by
 intro hK
 rw[show sW q= .agg (a6 q.1 o1 na1 xs1 nb1 ys1 nm1 n1 cs1) from congrArg DV.agg hB]
 exact hK.out):p:=e ⟨h⟩
theorem DS {p:Prop} (e:p:=by
 rw[Nat.zero_add,show i+(m-i)=m by omega];omega):p:=e
theorem Ie {p q:Prop} (h:q) (e:KH q->p:=by
 intro hK
 refine kT ?_;refine kN ?_;refine bM (T:=TT) ?_;refine fM (T:=TT) rfl ?_
 exact hK.out):p:=e ⟨h⟩
theorem Kb {p q:Prop} (h:q) (e:KH q->p:=by
 intro hK
 refine bW (a7 (q:=6) rfl rfl) rfl ?_;refine kO ?_;refine kC (co) ?_
 exact hK.out):p:=e ⟨h⟩
theorem M9 {p q:Prop} (h:q) (e:KH q->p:=by
 intro hK
 rw[show dE (.bin .add a b)= .agg ([.val (.int .i64 (B4.add).code)]++uo++[.val (vL []), .sl 2 (aE a++aE b)]) from congrArg DV.agg (tW .add a b),hA,hB]
 exact hK.out):p:=e ⟨h⟩
theorem MW {p q:Prop} (h:q) (e:KH q->p:=by
 intro hK
 rw[show dE (.bin .div a b)= .agg ([.val (.int .i64 (B4.div).code)]++uo++[.val (vL []), .sl 2 (aE a++aE b)]) from congrArg DV.agg (tW .div a b),hA,hB]
 exact hK.out):p:=e ⟨h⟩
theorem Nb {p q:Prop} (h:q) (e:KH q->p:=by
 intro hK
 rw[show dE (.bin .mul a b)= .agg ([.val (.int .i64 (B4.mul).code)]++uo++[.val (vL []), .sl 2 (aE a++aE b)]) from congrArg DV.agg (tW .mul a b),hA,hB]
 exact hK.out):p:=e ⟨h⟩
theorem Nm {p q:Prop} (h:q) (e:KH q->p:=by
 intro hK
 rw[show dE (.bin .sub a b)= .agg ([.val (.int .i64 (B4.sub).code)]++uo++[.val (vL []), .sl 2 (aE a++aE b)]) from congrArg DV.agg (tW .sub a b),hA,hB]
 exact hK.out):p:=e ⟨h⟩
theorem OE {p q:Prop} (h:q) (e:KH q->p:=by
 intro hK
 refine kO3 ?_
 refine fY (i:=k) hko rfl rfl rfl rfl rfl rfl rfl rfl rfl ?_;refine yj (xw hy) rfl rfl rfl rfl rfl rfl rfl rfl rfl ?_
 exact hK.out):p:=e ⟨h⟩
theorem Na {p q:Prop} (h:q) (e:KH q->p:=by
 intro hK
 refine bG (T:=TT) rfl ?_
 refine kO2 ?_
 refine kJ ((m+1:Nat)) ?_;refine kO ?_;refine MR ac rfl rfl rfl rfl rfl rfl rfl rfl ?_
 exact hK.out):p:=e ⟨h⟩
theorem O9 {p q:Prop} (h:q) (e:KH q->p:=by
 intro hK
 refine kN ?_;refine bM (T:=TT) ?_;refine eQ (T:=TT) rfl ?_;refine el (show gy _ _ _ _ _ _ from ?_);refine kI ?_
 refine kO2 ?_
 exact hK.out):p:=e ⟨h⟩
theorem NT {p:Prop} (e:p:=by
 have:=hc.enter (args.map a.eval) w;have e:(List.map a.eval args.toList).toArray=args.map a.eval:=Array.ext' (by simp);rw[e]
 simpa using this):p:=e
theorem Kk {p:Prop} (e:p:=by
 rw[List.getElem?_append_left (List.getElem?_eq_some_iff.1 ha).1];exact ha):p:=e
theorem EH {p:Prop} (e:p:=by
 have:=List.not_of_lt_findIdx h
 simpa using this):p:=e
theorem O5 {p:Prop} (e:p:=by
 have:=gZ (b:=l.map (·.1)) h.nd fun x hx=>by
  obtain⟨q,hq,e⟩:=(h.dep x hx).mem;exact List.mem_map.2 ⟨q,hq,e⟩
 simpa using this):p:=e
theorem NH {p q:Prop} (h:q) (e:KH q->p:=by
 intro hK
 refine kI ?_
 refine kO4 ?_
 refine kB true ?_ ?_
 ·exact decide_eq_true (by have:([]:List L8).length=0:=rfl;omega)
 refine kW ?_
 exact hK.out):p:=e ⟨h⟩
theorem N2 {p:Prop} (e:p:=by
 exact Rm (rows:=rows) (by unfold maxLen at hcm;omega) hlc hl hsz (fun i r hi=>by obtain⟨us,h3,h4,_⟩:=hr i r hi;exact⟨us,h3,h4⟩)):p:=e
theorem N3 {p q:Prop} (h:q) (e:KH q->p:=by
 intro hK
 refine bW ((tX (q:=0) rfl rfl (Nat.le_of_eq hlen.symm)).tr (aD (q:=0) (j:=901) (j':=1003) rfl rfl rfl rfl)) rfl ?_
 exact hK.out):p:=e ⟨h⟩
theorem Nv {p q:Prop} (h:q) (e:KH q->p:=by
 intro hK
 refine kG ?_
 refine kO3 ?_
 refine yT 13003 (cs:=[.val (vL nm)]) ac rfl rfl rfl rfl rfl rfl rfl rfl rfl rfl rfl rfl rfl ?_
 exact hK.out):p:=e ⟨h⟩
theorem OR {p q:Prop} (h:q) (e:KH q->p:=by
 intro hK
 refine kG ?_;refine kO ?_;refine aC rfl rfl rfl rfl rfl rfl rfl (bn (a:=[]) (b:=[]) rfl) ?_;refine kW ?_;refine kC (cm) ?_
 exact hK.out):p:=e ⟨h⟩
theorem NU {p q:Prop} (h:q) (e:KH q->p:=by
 intro hK
 refine kI ?_
 refine kO4 ?_
 refine kB false ?_ ?_
 ·exact decide_eq_false (by have:([]:List L8).length=0:=rfl;omega)
 exact hK.out):p:=e ⟨h⟩
theorem OD {p q:Prop} (h:q) (e:KH q->p:=by
 intro hK
 refine kV func196 ?_;refine kQ (iq (h1.fit hk) (h2.fit hk) hg) ?_;refine kQ (hs) ?_
 exact hK.out):p:=e ⟨h⟩
theorem Nc {p q:Prop} (h:q) (e:KH q->p:=by
 intro hK
 refine kV func22 ?_;refine jo ct rfl rfl rfl rfl rfl trivial rfl rfl rfl rfl ?_;refine kW ?_;refine kC (hcp) ?_
 exact hK.out):p:=e ⟨h⟩
theorem Ps {p q:Prop} (h:q) (e:KH q->p:=by
 intro hK
 refine kV func88 ?_;refine kQ (fI n h1 h2) ?_;refine kQ (fI d h3 h4) ?_
 exact hK.out):p:=e ⟨h⟩
theorem MY {p q:Prop} (h:q) (e:KH q->p:=by
 intro hK
 refine bB (i:=_) (cs':=[.val (vL nm)]) hil (d4 hx) (Nat.zero_lt_succ 0) rfl rfl rfl rfl rfl rfl rfl rfl ?_;refine kW ?_
 exact hK.out):p:=e ⟨h⟩
theorem Pn {p q:Prop} (h:q) (e:KH q->p:=by
 intro hK
 refine kO2 ?_
 refine aC (r:= .bool false) rfl rfl rfl rfl rfl rfl rfl (CI (a:=p.1) (b:=q.1) hls) ?_;refine kW ?_
 exact hK.out):p:=e ⟨h⟩
theorem Ni {p q:Prop} (h:q) (e:KH q->p:=by
 intro hK
 refine kW ?_;refine bB (i:=i) (cs':=[.val (vL x)]) hlt (d4 hx) (Nat.zero_lt_succ 0) rfl rfl rfl rfl rfl rfl rfl rfl ?_
 exact hK.out):p:=e ⟨h⟩
theorem M8 {p q:Prop} (h:q) (e:KH q->p:=by
 intro hK
 refine kO2 ?_
 refine aC (r:= .bool true) rfl rfl rfl rfl rfl rfl rfl (CI (a:=p.1) (b:=q.1) hls) ?_;refine kW ?_
 exact hK.out):p:=e ⟨h⟩
theorem Nf {p q:Prop} (h:q) (e:KH q->p:=by
 intro hK
 refine kW ?_;refine aj (ew 10 (by decide) (by decide) (q:=((10:Int):Rat)) rfl) rfl rfl rfl rfl rfl rfl rfl ?_
 exact hK.out):p:=e ⟨h⟩
theorem NK {p:Prop} (e:p:=by
 refine⟨fun h=>?_,fun h=>?_⟩
 ·rw[hst,if_pos h];show RV.tup _=RV.tup [bF m,_];rw[e]
 ·rw[hst,if_neg h];rfl):p:=e
theorem Ok {p:Prop} (e:p:=by
 exact((oH hb6).trans ((oH hb7).trans ((l6 Hb7.out hs8 Ho8.out).trans (l6 Hb8.out hs9 Ho9.out)))).from _):p:=e
theorem Nt {p:Prop} (e:p:=by
 refine kW ?_;exact⟨i+1,hil,by omega,weak ⟨rfl,rfl,rfl,rfl,ae (by omega) (by omega),trivial⟩ ⟨rfl,trivial⟩ rfl⟩):p:=e
theorem Po {p q:Prop} (h:q) (e:KH q->p:=by
 intro hK
 rw[show dE (.neg a)= .agg ([.val (.int .i64 3)]++uo++[.val (vL []), .sl 1 (aE a)]) from congrArg DV.agg (QK a),hA]
 exact hK.out):p:=e ⟨h⟩
theorem NE {p:Prop} (e:p:=by
 refine kW ?_;exact⟨i+1,hil,by omega,weak ⟨rfl,rfl,rfl,rfl,rfl,ae (by omega) (by omega),trivial⟩ trivial rfl⟩):p:=e
theorem Nl {p:Prop} (e:p:=by
 refine kY ?_;rw[uE hall hcj (fun h=>by unfold mM at h;omega)];exact cw (T:=TT) rfl rfl):p:=e
theorem Ti {p:Prop} (e:p:=by
 refine kI ?_
 refine kO2 ?_
 refine kB false ?_ ?_
 ·exact hb
 refine kW ?_;refine hR _ ?_;rw[hal0];exact kw):p:=e
theorem Oj {p:Prop} (e:p:=by
 intro r hm;obtain⟨i,hi⟩:=List.getElem?_of_mem hm;obtain⟨us,h3,h4,_⟩:=hr i r hi;rw[h4.1,(Aj h3).1]):p:=e
theorem EX {p:Prop} (e:p:=by
 split at h<;>cases h;exact .inr rfl):p:=e
theorem NY {p:Prop} (e:p:=by
 have:=hP.bm j cs' h1;exact this.agree (hb.block _ this.lt) (.of_below hb) (fun _ _ h=>h) (jw.same hb rfl)):p:=e
theorem Oy {p:Prop} (e:p:=by
 rcases List.eq_nil_or_concat l with h| ⟨l',c,h⟩
 ·subst h;simp at hl
 ·exact⟨l',c,by simpa using h⟩):p:=e
theorem O2 {p:Prop} (e:p:=by
 rcases Nat.eq_zero_or_pos (digs v).length with h|h
 ·have:=dj.1 h;omega
 ·exact h):p:=e
theorem NV {p:Prop} (e:p:=by
 rcases Nat.lt_or_ge b w1.heap.size with h'|h'
 ·exact h'
 ·simp[Array.getElem?_eq_none h']at hbk):p:=e
theorem Pc {p:Prop} (e:p:=by
 refine kY ?_;rw[<- hR,mD h1 h2 hq (.inl (by omega))];exact cw (T:=TT) rfl rfl):p:=e
theorem Pj {p:Prop} (e:p:=by
 intro j a hj
 match j,hj with
 |0,hj=>rw[Nat.mul_one,Nat.add_zero,List.getElem?_map,h];exact hj):p:=e
theorem OT {p:Prop} (e:p:=by
 by_cases h:op=2
 ·rw[if_pos h,decide_eq_true h];rfl
 ·rw[if_neg h,decide_eq_false h];rfl):p:=e
theorem Om {p:Prop} (e:p:=by
 rcases List.mem_append.1 hq with hq|hq
 ·exact hall q hq
 ·rw[List.mem_singleton.1 hq];exact h):p:=e
theorem N8 {p:Prop} (e:p:=by
 rcases h4 with⟨h5,h6⟩| ⟨h5,h6,h7⟩
 ·exact .inl ⟨by omega,h6⟩
 ·exact .inr ⟨by omega,h6,h7⟩):p:=e
theorem O0 {p:Prop} (e:p:=by
 rw[List.length_append,List.length_singleton,show l.length-(o.length+1)=kk by omega];exact hog):p:=e
theorem NS {p:Prop} (e:p:=by
 exact congrArg (fun z=>RV.one (dN .i64 z)) (show(3:Int)=gC l by unfold gC;rw[if_pos h200])):p:=e
theorem Oi {p:Prop} (e:p:=by
 obtain⟨op,na,xs,nb,ys,nm,args⟩:=x;exact⟨op,na,xs,nb,ys,nm,args.length,db args,rfl⟩):p:=e
theorem NB {p:Prop} (e:p:=by
 exact weak ⟨rfl,rfl,rfl,rfl,rfl,ae (by omega) (by omega),trivial⟩ ⟨rfl,rfl,trivial⟩ rfl):p:=e
theorem OA {p:Prop} (e:p:=by
 have:=grownCap_le_maxLen w (m1+m2) c et (by unfold maxLen;omega);unfold maxLen at this;omega):p:=e
theorem MZ {p:Prop} (e:p:=by
 have h4:=Hb9.out;rw[List.append_assoc,List.append_assoc,<- Hpt.out,<- Hsn.out]at h4;exact h4):p:=e
theorem M3 {p:Prop} (e:p:=by
 exact((HB.out.trans (hb6.mono hWs)).trans (hb7.mono (by omega))).trans (Hw8.out.trans Hw9.out)):p:=e
theorem Pe {p:Prop} (e:p:=by
 rw[hnext,ij,if_neg (fun h2=>by rw[h]at h2;exact absurd h2.1 (by decide))];exact hbst):p:=e
theorem Ee {p:Prop} (e:p:=by
 refine kO4 ?_
 by_cases hnm:nm=[]
 ·refine R6 ?_
  by_cases hl:args.length=2
  ·exact AW
  ·refine kE ?_
   obtain rfl:b=false:=by rw[hb,decide_eq_false hl,Bool.and_false]
   exact ax
 ·refine Q0 ?_
  exact N9):p:=e
theorem um {p q:Prop} (h:q) (e:KH q->p:=by
 intro hK
 refine Og ?_;refine Q4 ?_;refine Ud ?_
 exact hK.out):p:=e ⟨h⟩
theorem zz {p:Prop} (e:p:=by
 refine SZ ?_;cases p
 ·exact ax
 ·refine kO3 ?_
  cases z
  ·refine Rk ?_
   exact ax
  ·refine TI ?_
   refine kC (hcf) ?_;cases A
   ·exact ax
   ·exact ax):p:=e
theorem Ka {p:Prop} (e:p:=by
 refine kE ?_;obtain rfl:b=false:=by rw[hb,decide_eq_false hl,Bool.and_false]
 exact ax):p:=e
theorem ld {p:Prop} (e:p:=by
 refine iX ?_;refine T2 ?_;exact ax):p:=e
theorem zt {p:Prop} (e:p:=by
 refine iX ?_
 by_cases h0:oe=0
 ·refine Jq ?_
  refine iT ?_;exact hfin.1 h0
 ·refine xl ?_
  refine iT ?_;exact hfin.2 h0):p:=e
theorem vl {p:Prop} (e:p:=by
 refine kW ?_;refine kC (c) ?_;exact ax):p:=e
theorem mw {p q:Prop} (h:q) (e:KH q->p:=by
 intro hK
 refine M7 ?_;refine kW ?_;refine kC (c) ?_
 exact hK.out):p:=e ⟨h⟩
theorem qb {p:Prop} (e:p:=by
 obtain rfl:b=false:=by rw[hb];rfl
 exact ax):p:=e
theorem Et {p:Prop} (e:p:=by
 refine kW ?_;refine kC (cv) ?_;refine iX ?_;refine kB true ?_ ?_
 ·exact bne_iff_ne.2 hv
 exact ax):p:=e
theorem wN {p q:Prop} (h:q) (e:KH q->p:=by
 intro hK
 refine kE ?_;refine jR ?_
 repeat refine bM (T:=TT) ?_
 exact hK.out):p:=e ⟨h⟩
theorem Es {p q:Prop} (h:q) (e:KH q->p:=by
 intro hK
 refine kW ?_;refine sO ?_;refine Tf ?_
 refine kO5 ?_
 refine sO ?_;refine T3 ?_
 exact hK.out):p:=e ⟨h⟩
theorem Oc {p:Prop} (e:p:=by
 unfold KY at c5;dsimp only at c5;refine kU func10 ?_;refine r6 ?_
 refine kO4 ?_
 refine kE ?_;refine Ff ?_;refine kG ?_
 refine kO2 ?_
 refine BY ?_;refine kQ (c6) ?_;refine kC (c5) ?_;refine kG ?_;refine kO ?_;refine xl ?_;exact ax):p:=e
theorem wS {p q:Prop} (h:q) (e:KH q->p:=by
 intro hK
 refine kR ?_;refine kR ?_;refine Au ?_;refine qZ ?_
 exact hK.out):p:=e ⟨h⟩
theorem EC {p q:Prop} (h:q) (e:KH q->p:=by
 intro hK
 refine kW ?_;refine sO ?_;refine SN ?_;refine sO ?_;refine Kt ?_;refine kC (c2) ?_
 exact hK.out):p:=e ⟨h⟩
theorem NC {p:Prop} (e:p:=by
 rcases Bool.eq_false_or_eq_true (p q)with hb|hb
 ·rw[hb]at c
  have e:i=f:=by
   by_cases e:i<f
   ·have:=hni e;rw[hb]at this;cases this
   ·omega
  subst e;rw[if_pos hlt];refine kD (c) ?_;exact jb
 ·exact Tr):p:=e
theorem wI {p q:Prop} (h:q) (e:KH q->p:=by
 intro hK
 refine fT ?_;refine kE ?_
 iterate 6 refine kO ?_
 exact hK.out):p:=e ⟨h⟩
theorem tT {p:Prop} (e:p:=by
 refine kW ?_;refine kC (c1) ?_;exact ax):p:=e
theorem M4 {p:Prop} (e:p:=by
 rw[hr]at c;refine Qn ?_;refine FF ?_;refine MS ?_;refine RC ?_;refine Q4 ?_;refine Lm ?_;refine Ua ?_;refine RD ?_;refine aj (mn hy (by omega)) rfl rfl rfl rfl rfl rfl rfl ?_;refine kC (c) ?_;exact ax):p:=e
theorem sU {p:Prop} (e:p:=by
 refine kO ?_;refine JC ?_;exact ax):p:=e
theorem Fc {p:Prop} (e:p:=by
 refine iY ?_;refine kQ (c2) ?_;refine kC (c3) ?_;exact ax):p:=e
theorem sh {p q:Prop} (h:q) (e:KH q->p:=by
 intro hK
 refine Au ?_
 refine kO2 ?_
 exact hK.out):p:=e ⟨h⟩
theorem Iy {p q:Prop} (h:q) (e:KH q->p:=by
 intro hK
 refine kU func48 ?_;refine jT ?_;refine kB false ?_ ?_
 ·exact t8 ha0
 refine kO5 ?_
 exact hK.out):p:=e ⟨h⟩
theorem Ki {p:Prop} (e:p:=by
 refine RD ?_;refine kC (c) ?_;exact ax):p:=e
theorem Ng {p:Prop} (e:p:=by
 cases b
 ·exact Ti
 ·refine kI ?_
  refine kO2 ?_
  refine kB true ?_ ?_
  ·exact hb
  refine kG ?_
  refine kO4 ?_
  refine UB ?_;refine hR _ ?_;rw[hal0];exact kw):p:=e
theorem DD {p q:Prop} (h:q) (e:KH q->p:=by
 intro hK
 refine kU func166 ?_;refine kq ?_;refine kY ?_
 exact hK.out):p:=e ⟨h⟩
theorem NX {p q:Prop} (h:q) (e:KH q->p:=by
 intro hK
 refine kW ?_;refine gr ((c1.rd (ts:=[.own 6001 (List.cons a r).length 1 9, .d (dL p.1)]) (b:=[(6001,au (List.cons a r))]) rfl rfl)) rfl rfl rfl rfl rfl ⟨rfl,trivial⟩ rfl rfl rfl rfl ?_
 exact hK.out):p:=e ⟨h⟩
theorem EF {p q:Prop} (h:q) (e:KH q->p:=by
 intro hK
 refine SG ?_;refine sO ?_
 refine kO4 ?_
 refine PA ?_
 exact hK.out):p:=e ⟨h⟩
theorem Nn {p:Prop} (e:p:=by
 refine kE ?_;rw[List.drop_eq_nil_of_le (by omega),me]at h2;have hdd:d=me args:=by omega
 rw[AP,<- hdd];refine jR ?_;refine kI ?_;refine kO ?_;refine kJ ((d+1:Nat)) ?_;exact ax):p:=e
theorem GW {p q:Prop} (h:q) (e:KH q->p:=by
 intro hK
 refine BE ?_;refine iY ?_;refine kC (c2) ?_;refine kQ (c3) ?_;refine kC (c4) ?_
 exact hK.out):p:=e ⟨h⟩
theorem JS {p q:Prop} (h:q) (e:KH q->p:=by
 intro hK
 refine kV func235 ?_;refine kC (c1) ?_;refine kG ?_
 refine kO2 ?_
 exact hK.out):p:=e ⟨h⟩
theorem OX {p q:Prop} (h:q) (e:KH q->p:=by
 intro hK
 refine kU func116 ?_;refine kR ?_;refine pA ?_
 refine kO3 ?_
 refine bY ac (i:=i) (c:=s[i]) hx0 rfl rfl rfl rfl rfl rfl rfl rfl ?_;refine kC (hc0) ?_
 exact hK.out):p:=e ⟨h⟩
theorem Ez {p q:Prop} (h:q) (e:KH q->p:=by
 intro hK
 refine kV func69 ?_;refine eX 3 ?_
 exact hK.out):p:=e ⟨h⟩
theorem Er {p q:Prop} (h:q) (e:KH q->p:=by
 intro hK
 refine MB ac rfl rfl rfl rfl rfl rfl rfl rfl ?_
 exact hK.out):p:=e ⟨h⟩
theorem JF {p q:Prop} (h:q) (e:KH q->p:=by
 intro hK
 refine kV func155 ?_;refine kC (lB (na:=na) hw c1) ?_
 exact hK.out):p:=e ⟨h⟩
theorem Pb {p:Prop} (e:p:=by
 refine kG ?_;refine R8 ?_;generalize hz:w.take (w.length-k)++[46]++w.drop (w.length-k)=z;have hzB:=aS z;refine kG ?_;refine Rb ?_;exact ax):p:=e
theorem Np {p:Prop} (e:p:=by
 refine kU func236 ?_;refine kR ?_;refine kI ?_;refine qC 700 ac rfl rfl rfl rfl rfl rfl rfl rfl ?_;refine kG ?_;refine SG ?_;refine I0 ?_;exact ax):p:=e
theorem Jr {p q:Prop} (h:q) (e:KH q->p:=by
 intro hK
 refine kV func241 ?_;refine kC (mK (na:=na) hw c1) ?_
 exact hK.out):p:=e ⟨h⟩
theorem Pp {p q:Prop} (h:q) (e:KH q->p:=by
 intro hK
 refine kU func10 ?_;refine r6 ?_
 refine kO4 ?_
 refine kE ?_;refine Ff ?_;refine kW ?_;refine kQ (c6) ?_;refine kC (c5) ?_
 exact hK.out):p:=e ⟨h⟩
theorem NW {p:Prop} (e:p:=by
 refine aC rfl rfl rfl rfl rfl rfl rfl (bH (a:=l[i].1) (b:=s) e) ?_;refine Ql ?_;refine kO ?_;refine kC (zq l[i].1) ?_;exact ax):p:=e
theorem Oq {p q:Prop} (h:q) (e:KH q->p:=by
 intro hK
 refine bv ac fH func295 rfl rfl rfl rfl rfl (kg) ?_;refine kq ?_;refine kQ (cp) ?_;refine kQ (cd) ?_
 exact hK.out):p:=e ⟨h⟩
theorem OU {p q:Prop} (h:q) (e:KH q->p:=by
 intro hK
 refine Sc ?_;refine kT ?_
 refine kO4 ?_
 refine kJ ((i+n+1:Nat)) ?_;refine kC (c2) ?_;refine kO ?_;refine kJ ((i+n+1:Nat)) ?_
 exact hK.out):p:=e ⟨h⟩
theorem No {p q:Prop} (h:q) (e:KH q->p:=by
 intro hK
 refine bB (i:=0) (cs':=ab o1 na1 xs1 nb1 ys1 nm1 n1 cs1) (by decide) (Lv _) (Nat.zero_lt_succ 6) rfl rfl rfl rfl rfl rfl rfl rfl ?_
 exact hK.out):p:=e ⟨h⟩
theorem Od {p q:Prop} (h:q) (e:KH q->p:=by
 intro hK
 refine kU func53 ?_;refine jT ?_;refine Nj ?_;refine kB false ?_ ?_
 ·exact(by simp[e3])
 iterate 6 refine kO ?_
 refine kC (cs) ?_
 exact hK.out):p:=e ⟨h⟩
theorem Nk {p q:Prop} (h:q) (e:KH q->p:=by
 intro hK
 refine px ?_;refine I0 ?_
 refine kO4 ?_
 refine I0 ?_;refine kW ?_;refine kQ (w2) ?_;refine kQ (n2) ?_
 exact hK.out):p:=e ⟨h⟩
theorem OJ {p q:Prop} (h:q) (e:KH q->p:=by
 intro hK
 refine cY 5001 (m1:=0) (m2:=1) ac (by decide) (by decide) rfl rfl rfl rfl rfl rfl rfl rfl rfl rfl rfl (.nil rfl rfl) rfl rfl rfl ?_
 exact hK.out):p:=e ⟨h⟩
theorem NR {p q:Prop} (h:q) (e:KH q->p:=by
 intro hK
 refine kq ?_;refine l7 ac him rfl rfl rfl rfl rfl rfl rfl rfl rfl ?_;refine kW ?_;refine zy ?_
 repeat refine bM (T:=TT) ?_
 exact hK.out):p:=e ⟨h⟩
theorem NO {p:Prop} (e:p:=by
 refine kW ?_
 have:tA s= .tup [vd,dB false]:=by
  unfold tA Qz LO
  simp only[Km,h0,h1,h2,h3,h4,if_false]
 exact vX):p:=e
theorem IT {p:Prop} (e:p:=by
 refine eC (T:=TT) rfl ?_ ?_
 ·exact bne_iff_ne.2 hz
 exact ax):p:=e
theorem Nq {p q:Prop} (h:q) (e:KH q->p:=by
 intro hK
 refine kW ?_;refine kC (cf) ?_;refine iX ?_;refine kX ?_;refine fY (i:=f) h rfl rfl rfl rfl rfl rfl rfl rfl rfl ?_
 exact hK.out):p:=e ⟨h⟩
theorem Pg {p q:Prop} (h:q) (e:KH q->p:=by
 intro hK
 refine kW ?_;refine aj (iq (h.2.fit (by omega)) (h'.2.fit (by omega)) hgz) rfl rfl rfl rfl rfl rfl rfl ?_;refine kW ?_
 exact hK.out):p:=e ⟨h⟩
theorem O3 {p q:Prop} (h:q) (e:KH q->p:=by
 intro hK
 refine bB (i:=i) (cs':=ab o1 na1 xs1 nb1 ys1 nm1 n1 cs1) hlt hat (Nat.zero_lt_succ 6) rfl rfl rfl rfl rfl rfl rfl rfl ?_
 exact hK.out):p:=e ⟨h⟩
theorem On {p:Prop} (e:p:=by
 unfold rQ;refine kW ?_;refine kZ (iz 42 t r 0 0 h1) ?_;refine kD (iz 47 t r 0 0 h2) ?_;exact jb):p:=e
theorem N5 {p:Prop} (e:p:=by
 refine qL ?_;refine eC (T:=TT) rfl ?_ ?_
 ·exact(H5.2 h0)
 refine iT ?_;rw[hcyc (hnN.trans h0)];rfl):p:=e
theorem Ny {p:Prop} (e:p:=by
 refine kW ?_;refine aj (ew 0 (by decide) (by decide) e.symm) rfl rfl rfl rfl rfl rfl rfl ?_;exact ax):p:=e
theorem Ox {p:Prop} (e:p:=by
 refine fT ?_;refine kB false ?_ ?_
 ·exact decide_eq_false h1
 refine kO2 ?_
 refine kT ?_;exact ax):p:=e
theorem M2 {p:Prop} (e:p:=by
 refine kE ?_;refine iT ?_;have e:l.drop i=[]:=List.drop_of_length_le (by omega);rw[e]at hv;exact B6):p:=e
theorem Ou {p:Prop} (e:p:=by
 refine iY ?_;refine kC (c2) ?_;refine iX ?_;refine kB true ?_ ?_
 ·exact bne_iff_ne.2 hne
 exact ax):p:=e
theorem Nw {p:Prop} (e:p:=by
 refine fT ?_;refine aC rfl rfl rfl rfl rfl rfl rfl (fD (a:=[]) (b:=[]) rfl) ?_;exact ax):p:=e
theorem OZ {p:Prop} (e:p:=by
 refine kW ?_;refine kC (cf) ?_;refine iX ?_;refine kB true ?_ ?_
 ·exact bne_iff_ne.2 h1
 exact ax):p:=e
theorem N0 {p:Prop} (e:p:=by
 refine kq ?_;refine aC rfl rfl rfl rfl rfl rfl rfl (fD (a:=a) (b:=a) rfl) ?_;exact ax):p:=e
theorem Og {p q:Prop} (h:q) (e:KH q->p:=by
 intro hK
 refine kU func39 ?_;refine FF ?_;refine PR ?_
 exact hK.out):p:=e ⟨h⟩
theorem zv {p:Prop} (e:p:=by
 rw[hr]at c;refine um ?_;exact vl):p:=e
theorem wR {p:Prop} (e:p:=by
 refine Q4 ?_;refine kW ?_;refine kC (ih') ?_;exact ld):p:=e
theorem Ei {p:Prop} (e:p:=by
 refine kW ?_;refine kC (ih) ?_;exact ld):p:=e
theorem AW {p:Prop} (e:p:=by
 refine kT ?_;obtain rfl:b=true:=by rw[hb];simp[hnm,hl]
 exact ax):p:=e
theorem Kj {p:Prop} (e:p:=by
 rw[hr]at c;refine Qv ?_;refine FF ?_;refine MS ?_;refine Sq ?_;refine Q4 ?_;refine Lm ?_;refine T7 ?_;exact Ki):p:=e
theorem Pq {p:Prop} (e:p:=by
 rw[hr]at c;refine P9 ?_;refine FF ?_;refine MS ?_;refine R9 ?_;refine Q4 ?_;refine Lm ?_;refine TL ?_;exact Ki):p:=e
theorem Pt {p:Prop} (e:p:=by
 rw[hr]at c;refine Qd ?_;refine FF ?_;refine MS ?_;refine RI ?_;refine Q4 ?_;refine Lm ?_;refine T8 ?_;exact Ki):p:=e
theorem NG {p:Prop} (e:p:=by
 by_cases hl:args.length=0
 ·refine kT ?_
  obtain rfl:b=true:=by rw[hb];simp[hl]
  exact ax
 ·exact Ka):p:=e
theorem N9 {p:Prop} (e:p:=by
 obtain rfl:b=false:=by rw[hb];simp[hnm]
 exact ax):p:=e
end
end Go.Proofs.YtmkggcjajcdlcaaGreatDoor
