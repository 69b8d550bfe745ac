/- Tactic texts that stand more than once. -/
import Derived.Test.YtnchbpoopnjghaaGreatDoorCK
import Derived.KernelRfl
import Derived.IntWalk
import Derived.Laws.BytesArg
import Derived.Laws.Strings2
import Derived.Laws.IdiomStrings
import Derived.Lib.Bytealg
import Derived.Shelf.Strconv.AppendUint10
import Derived.Maps.OwnIn
import Derived.RangeFuncCalls
import Derived.LaidMore
import Derived.Lay
import Derived.Stop.Joined
import Derived.SevenTiedAt
import Derived.Lib.AtoiErrMem
import Derived.Shelf.Vars
import Derived.Lib.AppendStr
import Derived.MapKept
import Derived.Defers
import Derived.ChangeMaps5
import Derived.Lib.Split
import Derived.Lib.Join
import Derived.Lib.IndexLaws
import Derived.Lib.AtoiAll
import Derived.Sort.Walk0
import Derived.Lib.RowBridge
import Derived.Laws.MakeOwn
import Derived.Lib.SplitLaws
import Derived.Lib.AppendZerosOnto
import Derived.Lib.Overlaps
import Derived.HandedShaped
import Derived.LaidLaws
import Derived.Laws.StructEq
set_option maxHeartbeats 100000000
set_option maxRecDepth 100000
set_option linter.all false
namespace Go.Proofs.YtnchbpoopnjghaaGreatDoor
open Go.RowKit
section
open Go.ChangeShapes Go.WideShapes Go.ChangeAt Go.RowKit Go.Joins
open Go.RowKit Go.Shelf
open Go.Shelf Go.RowKit Go.Sort Go.Lib
open Go.Shelf Go.RowKit
open Go.RowKit Go.Joins
open Go.RowKit Go.Sort Go.Lib
open Go.RowKit Go.Lib
open Go.ChangeMaps (open_string)
theorem ar {p:Prop} (e:p:=by
 exact kF):p:=e
theorem Ga {p q:Prop} (h:q) (e:KH q->p:=by
 intro hK
 refine kW ?_;refine Mr ?_;refine kW ?_;refine My ?_;refine kW ?_
 exact hK.out):p:=e ⟨h⟩
theorem Sj {p q:Prop} (h:q) (e:KH q->p:=by
 intro hK
 refine kW ?_;refine Mr ?_
 exact hK.out):p:=e ⟨h⟩
theorem N7 {p q:Prop} (h:q) (e:KH q->p:=by
 intro hK
 refine kW ?_;refine xJ ?_;refine kW ?_;refine eU 5002 (m1:=1) (m2:=1) ac (by decide) (by decide) rfl rfl rfl rfl rfl rfl rfl rfl rfl rfl rfl (.own rfl rfl) rfl rfl rfl ?_;refine kW ?_
 exact hK.out):p:=e ⟨h⟩
theorem jo {p:Prop} (e:p:=by
 refine kW ?_;exact⟨⟨_,rfl,rfl⟩,⟨rfl,trivial⟩⟩):p:=e
theorem Mx {p q:Prop} (h:q) (e:KH q->p:=by
 intro hK
 refine kW ?_;refine xJ ?_
 exact hK.out):p:=e ⟨h⟩
theorem SW {p q:Prop} (h:q) (e:KH q->p:=by
 intro hK
 refine kW ?_;refine dx (T:=TT) rfl ?_
 exact hK.out):p:=e ⟨h⟩
theorem it {p q:Prop} (h:q) (e:KH q->p:=by
 intro hK
 refine My ?_;refine kW ?_
 exact hK.out):p:=e ⟨h⟩
theorem S8 {p q:Prop} (h:q) (e:KH q->p:=by
 intro hK
 refine kR ?_;refine kI ?_;refine kO ?_
 exact hK.out):p:=e ⟨h⟩
theorem R7 {p:Prop} (e:p:=by
 refine kT ?_;refine kN ?_;refine bl (T:=TT) ?_;refine dY (T:=TT) rfl ?_;refine fV ?_
 repeat(first|refine bl (T:=TT) ?_|refine bJ (T:=TT) ?_)
 refine aU (T:=TT) rfl ?_
 refine kO2 ?_
 refine kJ ((i+j:Nat)) ?_;refine ek (v':= .int .u64 ((i+j:Nat))) rfl rfl rfl rfl ?_ ?_
 ·exact congrArg (Value.int .u64) (by show IntKind.u64.wrap ((i+j:Nat):Int)=_;rw[IntWalk.u64_in _ (by omega)])
 refine ek (v':= .int .u64 (((i+j)/2:Nat))) rfl rfl rfl rfl ?_ ?_
 ·exact congrArg (Value.int .u64) (by show Int.fdiv ((i+j:Nat):Int) 2=_;rw[Int.fdiv_eq_ediv_of_nonneg _ (by decide)];rfl)
 refine ek (v':= .int .i64 (((i+j)/2:Nat))) rfl rfl rfl rfl ?_ ?_
 ·exact congrArg (Value.int .i64) (by show IntKind.i64.wrap (((i+j)/2:Nat):Int)=_;rw[IntWalk.i64_in _ (by omega)])
 have hm:(i+j)/2<l.length:=by omega
 refine Exists.elim (Exists.intro _ rfl:∃m,(i+j)/2=m) fun m hme=>?_
 rw[hme]at hm ⊢;have hx:l[m]? =some l[m]:=by simp[hm]
 refine kN ?_;refine kI ?_
 refine kO2 ?_
 refine aP (i:=m) (cs':=[.val (vL l[m].1)]) hm (MN hx) (by simp) rfl rfl rfl rfl rfl rfl rfl rfl ?_
 refine kO2 ?_
 refine kC (Li l[m].1 s) ?_;refine kN ?_;cases hb2:Op.bytesLess l[m].1 s
 ·refine kW ?_
  have hpm:p<=m:=by
   rcases Nat.lt_or_ge m p with h|h
   ·have:=hp2 m _ h hx;rw[hb2]at this;cases this
   ·exact h
  exact⟨(i,m),⟨h1,hpm,by dsimp only;omega⟩,by dsimp only;omega,weak ⟨rfl,rfl,rfl,rfl,rfl,rfl,rfl,trivial⟩ trivial rfl⟩
 ·refine kW ?_
  have hmp:m<p:=by
   rcases Nat.lt_or_ge m p with h|h
   ·exact h
   ·have:=hp3 m _ h hx;rw[hb2]at this;cases this
  exact⟨(m+1,j),⟨hmp,h2,h3⟩,by dsimp only;omega,weak ⟨rfl,rfl,rfl,rfl,rfl,aA (by omega) (by omega),rfl,trivial⟩ trivial rfl⟩):p:=e
theorem yA {p q:Prop} (h:q) (e:KH q->p:=by
 intro hK
 refine kI ?_;refine kT ?_;refine Lv ?_;refine kW ?_;refine yj ?_
 refine kO4 ?_
 refine mE ((c2.rd (ts:=[.d (.agg (eC p.1 o1 na1 xs1 nb1 ys1 nm1 n1 cs1)), .own 6001 (List.cons a r).length 1 9]) (b:=[(6001,aF (List.cons a r))]) rfl rfl)) rfl rfl rfl rfl rfl ⟨rfl,trivial⟩ rfl rfl rfl rfl ?_
 exact hK.out):p:=e ⟨h⟩
theorem ji {p q:Prop} (h:q) (e:KH q->p:=by
 intro hK
 refine Lv ?_;refine kW ?_
 exact hK.out):p:=e ⟨h⟩
theorem dm {p q:Prop} (h:q) (e:KH q->p:=by
 intro hK
 refine kW ?_;refine kQ (c1) ?_
 exact hK.out):p:=e ⟨h⟩
theorem uX {p q:Prop} (h:q) (e:KH q->p:=by
 intro hK
 refine kW ?_;refine Nu ?_
 exact hK.out):p:=e ⟨h⟩
theorem KM {p q:Prop} (h:q) (e:KH q->p:=by
 intro hK
 refine Mm ?_;refine bI ⟨[(1, .d (ig l)),(2, .d (jv l)),(3, .box 0 0),(6, .box 1 0),(7, .d (dN .i64 0)),(12, .nil),(72, .d (.leaf (.sl 2 (ab o1 na1 xs1 nb1 ys1 nm1 n1 cs1++ab o2 na2 xs2 nb2 ys2 nm2 n2 cs2)))),(73, .d (dN .i64 2)),(74, .d (dN .i64 0))],[(0,some ([.val (.int .i64 (B4.add).code)]++jb++[.val (vL []), .sl 2 (ab o1 na1 xs1 nb1 ys1 nm1 n1 cs1++ab o2 na2 xs2 nb2 ys2 nm2 n2 cs2)])),(1,some ie)]⟩ kw ?_
 exact hK.out):p:=e ⟨h⟩
theorem Jz {p q:Prop} (h:q) (e:KH q->p:=by
 intro hK
 refine Mm ?_;refine bI ⟨[(1, .d (ig l)),(2, .d (jv l)),(3, .box 0 0),(6, .box 1 0),(7, .d (dN .i64 0)),(12, .nil),(72, .d (.leaf (.sl 2 (ab o1 na1 xs1 nb1 ys1 nm1 n1 cs1++ab o2 na2 xs2 nb2 ys2 nm2 n2 cs2)))),(73, .d (dN .i64 2)),(74, .d (dN .i64 0))],[(0,some ([.val (.int .i64 (B4.div).code)]++jb++[.val (vL []), .sl 2 (ab o1 na1 xs1 nb1 ys1 nm1 n1 cs1++ab o2 na2 xs2 nb2 ys2 nm2 n2 cs2)])),(1,some ie)]⟩ kw ?_
 exact hK.out):p:=e ⟨h⟩
theorem Ka {p q:Prop} (h:q) (e:KH q->p:=by
 intro hK
 refine Mm ?_;refine bI ⟨[(1, .d (ig l)),(2, .d (jv l)),(3, .box 0 0),(6, .box 1 0),(7, .d (dN .i64 0)),(12, .nil),(72, .d (.leaf (.sl 2 (ab o1 na1 xs1 nb1 ys1 nm1 n1 cs1++ab o2 na2 xs2 nb2 ys2 nm2 n2 cs2)))),(73, .d (dN .i64 2)),(74, .d (dN .i64 0))],[(0,some ([.val (.int .i64 (B4.mul).code)]++jb++[.val (vL []), .sl 2 (ab o1 na1 xs1 nb1 ys1 nm1 n1 cs1++ab o2 na2 xs2 nb2 ys2 nm2 n2 cs2)])),(1,some ie)]⟩ kw ?_
 exact hK.out):p:=e ⟨h⟩
theorem Ok {p q:Prop} (h:q) (e:KH q->p:=by
 intro hK
 refine Mm ?_;refine bI ⟨[(1, .d (ig l)),(2, .d (jv l)),(3, .box 0 0),(6, .box 1 0),(7, .d (dN .i64 0)),(12, .nil),(72, .d (.leaf (.sl 2 (ab o1 na1 xs1 nb1 ys1 nm1 n1 cs1++ab o2 na2 xs2 nb2 ys2 nm2 n2 cs2)))),(73, .d (dN .i64 2)),(74, .d (dN .i64 0))],[(0,some ([.val (.int .i64 (B4.sub).code)]++jb++[.val (vL []), .sl 2 (ab o1 na1 xs1 nb1 ys1 nm1 n1 cs1++ab o2 na2 xs2 nb2 ys2 nm2 n2 cs2)])),(1,some ie)]⟩ kw ?_
 exact hK.out):p:=e ⟨h⟩
theorem Q4 {p:Prop} (e:p:=by
 rintro j ⟨hj,hall⟩;refine kW ?_;refine lA rfl (fun h=>?_) (fun h=>?_)
 ·have hlt:j<xs.length:=by have:=of_decide_eq_true h;omega
  have hlt':j<ys.length:=by omega
  refine kW ?_;refine aP (cs':=[AV.val (bU xs[j])]) hlt (BM (by simp[hlt])) (Nat.lt_succ_self 0) rfl rfl rfl rfl rfl rfl rfl rfl ?_;refine kW ?_;refine aP (cs':=[AV.val (bU ys[j])]) hlt' (BM (by simp[hlt'])) (Nat.lt_succ_self 0) rfl rfl rfl rfl rfl rfl rfl rfl ?_;refine kW ?_;refine lA rfl (fun h2=>?_) (fun h2=>?_)
  ·refine kW ?_
   have hne:xs[j]≠ys[j]:=fun e=>by rw[e]at h2;simp at h2
   rw[wm (fun e=>hne (by subst e;rfl))];exact dx (T:=TT) rfl rfl
  ·have heq:xs[j]=ys[j]:=by simp at h2;omega
   refine kW ?_;refine⟨j+1,⟨hlt,fun i hi=>?_⟩,by omega,weak ⟨rfl,rfl,?_,trivial⟩ ⟨rfl,rfl,trivial⟩ rfl⟩
   ·rcases Nat.lt_succ_iff_lt_or_eq.1 hi with h3|rfl
    ·exact hall i h3
    ·rw[List.getElem?_eq_getElem hlt,List.getElem?_eq_getElem hlt',heq]
   ·exact aA (by omega) (by omega)
 ·have hge:j=xs.length:=by have:=of_decide_eq_false h;omega
  refine jU ?_;refine kW ?_
  have he:xs=ys:=by
   apply List.ext_getElem? fun i=>?_
   by_cases hi:i<xs.length
   ·exact hall i (by omega)
   ·rw[List.getElem?_eq_none (by omega),List.getElem?_eq_none (by omega)]
  rw[j0 he];exact dx (T:=TT) rfl rfl):p:=e
theorem RW {p q:Prop} (h:q) (e:KH q->p:=by
 intro hK
 refine kW ?_;refine lF (i:=0) (by decide) rfl rfl rfl rfl rfl rfl rfl rfl rfl ?_
 refine kO2 ?_
 refine lF (i:=1) (by decide) rfl rfl rfl rfl rfl rfl rfl rfl rfl ?_;refine kO ?_
 exact hK.out):p:=e ⟨h⟩
theorem Qm {p:Prop} (e:p:=by
 refine Ma ?_;rw[<- htx]at h3
 refine kO3 ?_
 refine eU 13002 (m1:=(a::r).length) (m2:=1) ac (by decide) (by show((a::r).length+1)*32<=_;omega) rfl rfl rfl rfl rfl rfl rfl rfl rfl rfl rfl (.own rfl rfl) rfl rfl rfl ?_;refine kW ?_
 exact⟨(i+n,(a::r)++[(k,(s.take (i+n)).drop i,i)]),⟨by dsimp only;omega,by rw[List.length_append];dsimp only[List.length_cons,List.length_nil]at h2 ⊢;omega,f,by dsimp only;omega,h3⟩,by dsimp only;omega,by
  exact Eq.mpr (congrArg (aL _) (Cj s (a::r) (k,(s.take (i+n)).drop i,i) (i+n))) (aL.trans (b:=⟨[(0, .d (dL s)),(2, .nil),(3, .d (dN .i64 0)),(4, .d (dN .i64 0)),(5, .own 13002 ((a::r).length+1) 3 118),(6, .d (dN .i64 ((i+n:Nat))))],[(13002,some ((fU (a::r)).take ((a::r).length*3)++zo (k,(s.take (i+n)).drop i,i)))]⟩) (weak ⟨rfl,rfl,rfl,rfl,rfl,aA (by omega) (by omega),trivial⟩ ⟨rfl,trivial⟩ rfl) ((aK (q:=5) (j:=13002) (j':=13001) (m:=(a::r).length+1) (k:=3) (e:=118) (cs:=(fU (a::r)).take ((a::r).length*3)++zo (k,(s.take (i+n)).drop i,i)) rfl rfl rfl rfl).trans kw))⟩):p:=e
theorem P7 {p:Prop} (e:p:=by
 refine Ma ?_;rw[<- htx]at h3
 refine kO3 ?_
 refine eU 13002 (m1:=0) (m2:=1) ac (by decide) (by decide) rfl rfl rfl rfl rfl rfl rfl rfl rfl rfl rfl (.nil rfl rfl) rfl rfl rfl ?_;refine kW ?_
 exact⟨(i+n,[]++[(k,(s.take (i+n)).drop i,i)]),⟨by dsimp only;omega,by simp;omega,f,by dsimp only;omega,h3⟩,by dsimp only;omega,by
  exact Eq.mpr (congrArg (aL _) (Cj s ([]:List Tk) (k,(s.take (i+n)).drop i,i) (i+n))) (aL.trans (b:=⟨[(0, .d (dL s)),(2, .nil),(3, .d (dN .i64 0)),(4, .d (dN .i64 0)),(5, .own 13002 (([]:List Tk).length+1) 3 118),(6, .d (dN .i64 ((i+n:Nat))))],[(13002,some ((fU ([]:List Tk)).take (([]:List Tk).length*3)++zo (k,(s.take (i+n)).drop i,i)))]⟩) (weak ⟨rfl,rfl,rfl,rfl,rfl,aA (by omega) (by omega),trivial⟩ ⟨rfl,trivial⟩ rfl) ((aK (q:=5) (j:=13002) (j':=13001) (m:=([]:List Tk).length+1) (k:=3) (e:=118) (cs:=(fU ([]:List Tk)).take (([]:List Tk).length*3)++zo (k,(s.take (i+n)).drop i,i)) rfl rfl rfl rfl).trans kw))⟩):p:=e
theorem gm {p q:Prop} (h:q) (e:KH q->p:=by
 intro hK
 refine kR ?_;refine kI ?_
 refine kO4 ?_
 exact hK.out):p:=e ⟨h⟩
theorem Oe {p q:Prop} (h:q) (e:KH q->p:=by
 intro hK
 refine bI ⟨[(1, .d (ig l)),(2, .d (jv l)),(3, .box 0 0),(6, .box 1 0),(7, .d (dN .i64 0)),(12, .own 5001 1 5 92),(72, .d (.leaf (.sl 2 (ab o1 na1 xs1 nb1 ys1 nm1 n1 cs1++ab o2 na2 xs2 nb2 ys2 nm2 n2 cs2)))),(73, .d (dN .i64 2)),(74, .d (dN .i64 1))],[(0,some ([.val (.int .i64 (B4.add).code)]++jb++[.val (vL []), .sl 2 (ab o1 na1 xs1 nb1 ys1 nm1 n1 cs1++ab o2 na2 xs2 nb2 ys2 nm2 n2 cs2)])),(1,some ie),(5001,some (lB x.1 x.2))]⟩ kw ?_
 exact hK.out):p:=e ⟨h⟩
theorem Ov {p q:Prop} (h:q) (e:KH q->p:=by
 intro hK
 refine bI ⟨[(1, .d (ig l)),(2, .d (jv l)),(3, .box 0 0),(6, .box 1 0),(7, .d (dN .i64 0)),(12, .own 5001 1 5 92),(72, .d (.leaf (.sl 2 (ab o1 na1 xs1 nb1 ys1 nm1 n1 cs1++ab o2 na2 xs2 nb2 ys2 nm2 n2 cs2)))),(73, .d (dN .i64 2)),(74, .d (dN .i64 1))],[(0,some ([.val (.int .i64 (B4.div).code)]++jb++[.val (vL []), .sl 2 (ab o1 na1 xs1 nb1 ys1 nm1 n1 cs1++ab o2 na2 xs2 nb2 ys2 nm2 n2 cs2)])),(1,some ie),(5001,some (lB x.1 x.2))]⟩ kw ?_
 exact hK.out):p:=e ⟨h⟩
theorem NY {p q:Prop} (h:q) (e:KH q->p:=by
 intro hK
 refine bI ⟨[(1, .d (ig l)),(2, .d (jv l)),(3, .box 0 0),(6, .box 1 0),(7, .d (dN .i64 0)),(12, .own 5001 1 5 92),(72, .d (.leaf (.sl 2 (ab o1 na1 xs1 nb1 ys1 nm1 n1 cs1++ab o2 na2 xs2 nb2 ys2 nm2 n2 cs2)))),(73, .d (dN .i64 2)),(74, .d (dN .i64 1))],[(0,some ([.val (.int .i64 (B4.mul).code)]++jb++[.val (vL []), .sl 2 (ab o1 na1 xs1 nb1 ys1 nm1 n1 cs1++ab o2 na2 xs2 nb2 ys2 nm2 n2 cs2)])),(1,some ie),(5001,some (lB x.1 x.2))]⟩ kw ?_
 exact hK.out):p:=e ⟨h⟩
theorem Rn {p q:Prop} (h:q) (e:KH q->p:=by
 intro hK
 refine bI ⟨[(1, .d (ig l)),(2, .d (jv l)),(3, .box 0 0),(6, .box 1 0),(7, .d (dN .i64 0)),(12, .own 5001 1 5 92),(72, .d (.leaf (.sl 2 (ab o1 na1 xs1 nb1 ys1 nm1 n1 cs1++ab o2 na2 xs2 nb2 ys2 nm2 n2 cs2)))),(73, .d (dN .i64 2)),(74, .d (dN .i64 1))],[(0,some ([.val (.int .i64 (B4.sub).code)]++jb++[.val (vL []), .sl 2 (ab o1 na1 xs1 nb1 ys1 nm1 n1 cs1++ab o2 na2 xs2 nb2 ys2 nm2 n2 cs2)])),(1,some ie),(5001,some (lB x.1 x.2))]⟩ kw ?_
 exact hK.out):p:=e ⟨h⟩
theorem oZ {p q:Prop} (h:q) (e:KH q->p:=by
 intro hK
 refine kB true ?_ ?_
 ·exact(by simp;omega)
 exact hK.out):p:=e ⟨h⟩
theorem gD {p q:Prop} (h:q) (e:KH q->p:=by
 intro hK
 refine kV func87 ?_
 exact hK.out):p:=e ⟨h⟩
theorem RC {p:Prop} (e:p:=by
 refine kW ?_;refine lF (i:=i) hlt rfl rfl rfl rfl rfl rfl rfl rfl rfl ?_;refine B6 hat rfl rfl rfl rfl rfl rfl rfl rfl rfl ?_;refine kO ?_;refine ek (v':= .int .i64 (b)) rfl rfl rfl rfl ?_ ?_
 ·exact congrArg (Value.int .i64) (by rw[IntWalk.i64_in _ (by omega)])
 refine ek (v':= .int .i64 (z+b)) rfl rfl rfl rfl ?_ ?_
 ·exact congrArg (Value.int .i64) (by rw[IntWalk.i64_in _ (by omega)])
 refine aD rfl rfl rfl rfl rfl rfl rfl (rf (b:=8) (by decide)) ?_;refine lF (i:=i) hlt rfl rfl rfl rfl rfl rfl rfl rfl rfl ?_;refine xA hlen hput rfl rfl rfl rfl rfl rfl rfl rfl rfl rfl ?_;refine kW ?_;exact⟨i+1,hlt,by omega,weak ⟨rfl,rfl,rfl,rfl,aA (by omega) (by omega),trivial⟩ ⟨rfl,rfl,rfl,rfl,trivial⟩ rfl⟩):p:=e
theorem Q7 {p q:Prop} (h:q) (e:KH q->p:=by
 intro hK
 repeat(first|refine bl (T:=TT) ?_|refine bJ (T:=TT) ?_)
 refine aU (T:=TT) rfl ?_
 exact hK.out):p:=e ⟨h⟩
theorem NX {p q:Prop} (h:q) (e:KH q->p:=by
 intro hK
 refine aG ac cg func229 rfl rfl rfl rfl rfl (fJ) ?_;refine kW ?_;refine kD (ct t r2 a 0) ?_;refine kO ?_;refine kY ?_;refine kD (ct t r2 a 0) ?_;refine kO ?_;refine kY ?_;refine kZ (cis) ?_;refine kZ (iU t r2 a 0) ?_;refine kZ (cy) ?_;refine kZ (cis2) ?_
 exact hK.out):p:=e ⟨h⟩
theorem vn {p q:Prop} (h:q) (e:KH q->p:=by
 intro hK
 refine kN ?_;refine kI ?_;refine kO ?_;refine kB true ?_ ?_
 ·exact(by simpa using hz)
 exact hK.out):p:=e ⟨h⟩
theorem Io {p q:Prop} (h:q) (e:KH q->p:=by
 intro hK
 refine kV func313 ?_;refine kQ (zv s) ?_;refine iR (T:=TT) rfl ?_ ?_
 ·exact decide_eq_false (by omega)
 refine kW ?_;refine kC (c1) ?_
 exact hK.out):p:=e ⟨h⟩
theorem uU {p q:Prop} (h:q) (e:KH q->p:=by
 intro hK
 refine kN ?_;refine bl (T:=TT) ?_;refine dD (T:=TT) rfl ?_;refine jU ?_
 exact hK.out):p:=e ⟨h⟩
theorem IS {p q:Prop} (h:q) (e:KH q->p:=by
 intro hK
 refine kW ?_;refine kC (pU) ?_
 refine kO3 ?_
 refine aD rfl rfl rfl rfl rfl rfl rfl (bf (a:=[]) (b:=[]) rfl) ?_;refine kW ?_;refine kC (c) ?_
 exact hK.out):p:=e ⟨h⟩
theorem K4 {p q:Prop} (h:q) (e:KH q->p:=by
 intro hK
 refine kW ?_;refine iR (T:=TT) rfl ?_ ?_
 ·exact decide_eq_false (by omega)
 exact hK.out):p:=e ⟨h⟩
theorem QL {p q:Prop} (h:q) (e:KH q->p:=by
 intro hK
 refine kW ?_;refine am (dp (h.1.fit (by omega)) (h'.2.fit (by omega))) rfl rfl rfl rfl rfl rfl rfl ?_;refine kW ?_;refine am (dp (h'.1.fit (by omega)) (h.2.fit (by omega))) rfl rfl rfl rfl rfl rfl rfl ?_;refine kW ?_;refine am (oe ((h.1.mul h'.2).fit (by omega)) ((h'.1.mul h.2).fit (by omega))) rfl rfl rfl rfl rfl rfl rfl ?_;refine kW ?_;refine am (dp (h.2.fit (by omega)) (h'.2.fit (by omega))) rfl rfl rfl rfl rfl rfl rfl ?_;refine kW ?_;refine am (fA (k:=j+k+1) ((h.1.mul h'.2).add ((h'.1.mul h.2).mono (by omega))) ((h.2.mul h'.2).mono (by omega)) hk d0 (qF a b)) rfl rfl rfl rfl rfl rfl rfl ?_
 exact hK.out):p:=e ⟨h⟩
theorem Rl {p q:Prop} (h:q) (e:KH q->p:=by
 intro hK
 refine F3 ?_;refine IB ?_;refine kW ?_;refine am (bY (decide_eq_false (show ¬(num b:Int)=0 by omega))) rfl rfl rfl rfl rfl rfl rfl ?_;refine kW ?_
 exact hK.out):p:=e ⟨h⟩
theorem N3 {p q:Prop} (h:q) (e:KH q->p:=by
 intro hK
 refine kC (cl) ?_;refine kO ?_;refine kB false ?_ ?_
 ·exact decide_eq_false (by show ¬((4:Nat):Int)<_;omega)
 refine kW ?_
 exact hK.out):p:=e ⟨h⟩
theorem Kk {p q:Prop} (h:q) (e:KH q->p:=by
 intro hK
 refine kO3 ?_
 refine aD rfl rfl rfl rfl rfl rfl rfl (bT (a:=nx) (b:=[]) h0) ?_
 refine kO4 ?_
 refine aD rfl rfl rfl rfl rfl rfl rfl (Sp (a:=p.1) (b:=nx) hls) ?_;refine kW ?_
 exact hK.out):p:=e ⟨h⟩
theorem Qd {p q:Prop} (h:q) (e:KH q->p:=by
 intro hK
 refine kX ?_;refine Gb ac (show i<=c by omega) rfl rfl rfl rfl rfl rfl rfl rfl rfl ?_
 refine kO2 ?_
 refine kJ ((m+1:Nat)) ?_;refine kO ?_;refine kJ ((m+1-i:Nat)) ?_;refine EF 1003 ac (m1:=i) (m2:=m+1-i) (m3:=m+1) (p:=0) (cs:=cs) (by omega) (by omega) (by rw[Nat.zero_add];omega) (eF (l6 hB _) _) (hby _ (by omega)) (by omega) (by omega) rfl rfl rfl rfl rfl rfl rfl rfl rfl rfl underlying3 rfl rfl rfl rfl rfl rfl ?_;refine kW ?_;refine kg ac (show i<m+1 by omega) rfl rfl rfl rfl rfl rfl rfl rfl rfl ?_;refine kO ?_
 exact hK.out):p:=e ⟨h⟩
theorem yH {p q:Prop} (h:q) (e:KH q->p:=by
 intro hK
 refine kN ?_;refine kI ?_;refine kO ?_
 exact hK.out):p:=e ⟨h⟩
theorem o8 {p q:Prop} (h:q) (e:KH q->p:=by
 intro hK
 refine bl ?_;refine aU rfl ?_
 exact hK.out):p:=e ⟨h⟩
theorem QJ {p q:Prop} (h:q) (e:KH q->p:=by
 intro hK
 refine kV func133 ?_;refine rD 2 ?_;refine bI ⟨[(1, .d (ig l)),(2, .d (jv l)),(3, .box 0 0),(6, .box 1 0),(7, .d (dN .i64 0)),(12, .nil),(72, .d (.leaf (.sl 1 (ab o1 na1 xs1 nb1 ys1 nm1 n1 cs1)))),(73, .d (dN .i64 1)),(74, .d (dN .i64 0))],[(0,some ([.val (.int .i64 3)]++jb++[.val (vL []), .sl 1 (ab o1 na1 xs1 nb1 ys1 nm1 n1 cs1)])),(1,some ie)]⟩ kw ?_;refine M4 ?_;refine kW ?_;refine kC (ih) ?_
 exact hK.out):p:=e ⟨h⟩
theorem RD {p:Prop} (e:p:=by
 intro k
 induction k with
 |zero=>intro _;exact⟨[],rfl,fun i r h=>by simp at h⟩
 |succ k ihk=>
  intro hk;obtain⟨rows,h1,h2⟩:=ihk (by omega);obtain⟨r,us,h3,h4,h5⟩:=hrow k (by omega);refine⟨rows++[r],by simp[h1],fun i q hq=>?_⟩
  by_cases hi:i<rows.length
  ·rw[List.getElem?_append_left hi]at hq;exact h2 i q hq
  ·have hil:=(List.getElem?_eq_some_iff.1 hq).1
   simp at hil
   have:i=k:=by omega
   subst this;rw[List.getElem?_append_right (by omega),h1,Nat.sub_self]at hq
   simp at hq
   subst hq;exact⟨us,h3,h4,h5⟩):p:=e
theorem Ii {p q:Prop} (h:q) (e:KH q->p:=by
 intro hK
 refine kO ?_;refine kB false ?_ ?_
 ·exact(by simp;omega)
 refine kW ?_
 exact hK.out):p:=e ⟨h⟩
theorem SI {p q:Prop} (h:q) (e:KH q->p:=by
 intro hK
 refine kG ?_
 refine kO4 ?_
 refine kJ ((w.length-k:Nat)) ?_;refine Nn ac (l:=w) (i:=w.length-k) (by omega) rfl rfl rfl rfl rfl rfl rfl rfl ?_;refine aD rfl rfl rfl rfl rfl rfl rfl (eg (a:=w.take (w.length-k)) (b:=[46]) (by simp;omega)) ?_
 refine kO4 ?_
 refine kJ ((w.length-k:Nat)) ?_;refine vY ac (l:=w) (i:=w.length-k) (by omega) rfl rfl rfl rfl rfl rfl rfl rfl ?_;refine aD rfl rfl rfl rfl rfl rfl rfl (eg (a:=w.take (w.length-k)++[46]) (b:=w.drop (w.length-k)) (by simp;omega)) ?_
 exact hK.out):p:=e ⟨h⟩
theorem sU {p q:Prop} (h:q) (e:KH q->p:=by
 intro hK
 refine kW ?_;refine kC (fX) ?_
 exact hK.out):p:=e ⟨h⟩
theorem SN {p q:Prop} (h:q) (e:KH q->p:=by
 intro hK
 refine aD rfl rfl rfl rfl rfl rfl rfl (bf (a:=nm) (b:=[]) (of_decide_eq_true hz)) ?_;refine kW ?_
 exact hK.out):p:=e ⟨h⟩
theorem Da {p q:Prop} (h:q) (e:KH q->p:=by
 intro hK
 refine aU rfl ?_
 refine kO2 ?_
 exact hK.out):p:=e ⟨h⟩
theorem qE {p q:Prop} (h:q) (e:KH q->p:=by
 intro hK
 refine kR ?_;refine kI ?_
 refine kO2 ?_
 exact hK.out):p:=e ⟨h⟩
theorem DH {p q:Prop} (h:q) (e:KH q->p:=by
 intro hK
 refine kW ?_;refine kZ (cis) ?_
 exact hK.out):p:=e ⟨h⟩
theorem SK {p:Prop} (e:p:=by
 by_cases hi:i<xs.length
 ·exact hall i (by omega)
 ·rw[List.getElem?_eq_none (by omega),List.getElem?_eq_none (by omega)]):p:=e
theorem RU {p q:Prop} (h:q) (e:KH q->p:=by
 intro hK
 refine M4 ?_;refine kW ?_
 exact hK.out):p:=e ⟨h⟩
theorem On {p q:Prop} (h:q) (e:KH q->p:=by
 intro hK
 refine aG ac cg func229 rfl rfl rfl rfl rfl (fJ) ?_;refine kW ?_
 exact hK.out):p:=e ⟨h⟩
theorem mD {p:Prop} (e:p:=by
 rename_i hn;exact absurd h (hn e r)):p:=e
theorem FN {p q:Prop} (h:q) (e:KH q->p:=by
 intro hK
 refine kV func17 ?_;refine kQ (cS) ?_;refine kQ (cA) ?_
 exact hK.out):p:=e ⟨h⟩
theorem Qe {p q:Prop} (h:q) (e:KH q->p:=by
 intro hK
 refine bI ⟨[(1, .d (ig l)),(2, .d (jv l)),(3, .box 0 0),(6, .box 1 0),(7, .d (dN .i64 0)),(12, .own 5002 2 5 92),(72, .d (.leaf (.sl 2 (ab o1 na1 xs1 nb1 ys1 nm1 n1 cs1++ab o2 na2 xs2 nb2 ys2 nm2 n2 cs2)))),(73, .d (dN .i64 2)),(74, .d (dN .i64 2))],[(0,some ([.val (.int .i64 (B4.add).code)]++jb++[.val (vL []), .sl 2 (ab o1 na1 xs1 nb1 ys1 nm1 n1 cs1++ab o2 na2 xs2 nb2 ys2 nm2 n2 cs2)])),(1,some ie),(5002,some (lB x.1 x.2++lB y.1 y.2))]⟩ kw ?_
 exact hK.out):p:=e ⟨h⟩
theorem RR {p q:Prop} (h:q) (e:KH q->p:=by
 intro hK
 refine bI ⟨[(1, .d (ig l)),(2, .d (jv l)),(3, .box 0 0),(6, .box 1 0),(7, .d (dN .i64 0)),(12, .own 5002 2 5 92),(72, .d (.leaf (.sl 2 (ab o1 na1 xs1 nb1 ys1 nm1 n1 cs1++ab o2 na2 xs2 nb2 ys2 nm2 n2 cs2)))),(73, .d (dN .i64 2)),(74, .d (dN .i64 2))],[(0,some ([.val (.int .i64 (B4.div).code)]++jb++[.val (vL []), .sl 2 (ab o1 na1 xs1 nb1 ys1 nm1 n1 cs1++ab o2 na2 xs2 nb2 ys2 nm2 n2 cs2)])),(1,some ie),(5002,some (lB x.1 x.2++lB y.1 y.2))]⟩ kw ?_
 exact hK.out):p:=e ⟨h⟩
theorem Ru {p q:Prop} (h:q) (e:KH q->p:=by
 intro hK
 refine bI ⟨[(1, .d (ig l)),(2, .d (jv l)),(3, .box 0 0),(6, .box 1 0),(7, .d (dN .i64 0)),(12, .own 5002 2 5 92),(72, .d (.leaf (.sl 2 (ab o1 na1 xs1 nb1 ys1 nm1 n1 cs1++ab o2 na2 xs2 nb2 ys2 nm2 n2 cs2)))),(73, .d (dN .i64 2)),(74, .d (dN .i64 2))],[(0,some ([.val (.int .i64 (B4.mul).code)]++jb++[.val (vL []), .sl 2 (ab o1 na1 xs1 nb1 ys1 nm1 n1 cs1++ab o2 na2 xs2 nb2 ys2 nm2 n2 cs2)])),(1,some ie),(5002,some (lB x.1 x.2++lB y.1 y.2))]⟩ kw ?_
 exact hK.out):p:=e ⟨h⟩
theorem SP {p q:Prop} (h:q) (e:KH q->p:=by
 intro hK
 refine bI ⟨[(1, .d (ig l)),(2, .d (jv l)),(3, .box 0 0),(6, .box 1 0),(7, .d (dN .i64 0)),(12, .own 5002 2 5 92),(72, .d (.leaf (.sl 2 (ab o1 na1 xs1 nb1 ys1 nm1 n1 cs1++ab o2 na2 xs2 nb2 ys2 nm2 n2 cs2)))),(73, .d (dN .i64 2)),(74, .d (dN .i64 2))],[(0,some ([.val (.int .i64 (B4.sub).code)]++jb++[.val (vL []), .sl 2 (ab o1 na1 xs1 nb1 ys1 nm1 n1 cs1++ab o2 na2 xs2 nb2 ys2 nm2 n2 cs2)])),(1,some ie),(5002,some (lB x.1 x.2++lB y.1 y.2))]⟩ kw ?_
 exact hK.out):p:=e ⟨h⟩
theorem Ro {p q:Prop} (h:q) (e:KH q->p:=by
 intro hK
 refine aD rfl rfl rfl rfl rfl rfl rfl (bT (a:=nm) (b:=[]) (of_decide_eq_false hz)) ?_
 exact hK.out):p:=e ⟨h⟩
theorem OL {p:Prop} (e:p:=by
 exact congrArg (Value.int .i64) (by rw[IntWalk.i64_in _ (by omega)])):p:=e
theorem SJ {p q:Prop} (h:q) (e:KH q->p:=by
 intro hK
 refine kO3 ?_
 refine kT ?_
 refine kO3 ?_
 exact hK.out):p:=e ⟨h⟩
theorem NW {p:Prop} (e:p:=by
 rw[hb]at c;refine kZ (c) ?_;refine⟨i+1,?_,by omega,weak ⟨rfl,rfl,rfl,rfl,aA (by omega) (by omega),trivial⟩ ⟨rfl,trivial⟩ rfl⟩
 by_cases e:i=f
 ·have:=hyi e;rw[hb]at this;cases this
 ·omega):p:=e
theorem RF {p q:Prop} (h:q) (e:KH q->p:=by
 intro hK
 refine jy ac (i:=0) (c:=c) rfl rfl rfl rfl rfl rfl rfl rfl rfl ?_
 exact hK.out):p:=e ⟨h⟩
theorem AP {p q:Prop} (h:q) (e:KH q->p:=by
 intro hK
 refine jy ac (i:=i) (c:=c) hx rfl rfl rfl rfl rfl rfl rfl rfl ?_
 exact hK.out):p:=e ⟨h⟩
theorem Qq {p:Prop} (e:p:=by
 refine IF ac rfl rfl rfl rfl rfl rfl rfl rfl rfl ?_;refine kW ?_;refine gL (T:=TT) rfl ?_ ?_
 ·exact decide_eq_true rfl
 refine kW ?_;refine HC 1003 (m1:=i) (m2:=1) (cs2:=x) ac (by decide) (hby _ (by omega)) (by rw[hx];exact Nat.le_refl _) rfl rfl rfl rfl rfl rfl rfl rfl rfl (.own rfl rfl) rfl rfl rfl ?_ rfl ?_
 ·rw[eF hX];rfl
 refine kW ?_;exact⟨⟨_,rfl,rfl,rfl⟩,⟨congrArg some hfin,trivial⟩⟩):p:=e
theorem KV {p q:Prop} (h:q) (e:KH q->p:=by
 intro hK
 refine kJ ((i+1:Nat)) ?_;refine p6 ac (show i+1<=m+1 by omega) (show i+1<c by omega) rfl rfl rfl rfl rfl rfl rfl rfl rfl ?_
 exact hK.out):p:=e ⟨h⟩
theorem xm {p:Prop} (e:p:=by
 refine kW ?_;exact .inl ⟨⟨_,rfl,rfl⟩,⟨rfl,rfl,trivial⟩⟩):p:=e
theorem Ll {p q:Prop} (h:q) (e:KH q->p:=by
 intro hK
 rw[yS,if_neg (by decide),if_neg (by decide),if_neg (by decide),if_pos (by decide),decide_eq_false hl,Bool.and_false,Bool.false_and]
 exact hK.out):p:=e ⟨h⟩
theorem NS {p q:Prop} (h:q) (e:KH q->p:=by
 intro hK
 refine kW ?_;refine am (j3 (neg:=false) (xs:=digs u) (aH _) (show aN false (digs u)=((Nat.gcd (val xs) (val ys):Nat):Int) by rw[mJ,<- hg];rfl)) rfl rfl rfl rfl rfl rfl rfl ?_
 exact hK.out):p:=e ⟨h⟩
theorem NT {p q:Prop} (h:q) (e:KH q->p:=by
 intro hK
 refine kB true ?_ ?_
 ·exact(by simp[e1])
 refine kO5 ?_
 exact hK.out):p:=e ⟨h⟩
theorem Ko {p q:Prop} (h:q) (e:KH q->p:=by
 intro hK
 refine Ph underlying166 underlying9 rfl rfl rfl rfl rfl ⟨rfl,rfl,rfl⟩ rfl rfl rfl rfl ?_;refine kW ?_;refine kD (h) ?_
 exact hK.out):p:=e ⟨h⟩
theorem RZ {p q:Prop} (h:q) (e:KH q->p:=by
 intro hK
 refine kO3 ?_
 refine aP (i:=i) (cs':=[.val (vL l[i].1)]) hil (MN hx) (by simp) rfl rfl rfl rfl rfl rfl rfl rfl ?_
 exact hK.out):p:=e ⟨h⟩
theorem NM {p q:Prop} (h:q) (e:KH q->p:=by
 intro hK
 refine aU (T:=TT) rfl ?_;refine rP 711 ac rfl rfl rfl rfl rfl rfl rfl rfl ?_
 refine kO2 ?_
 refine EY 701 (m:=(p0::pr).length) ac (Nat.zero_lt_succ _) (by show(p0::pr).length*8<=_;omega) (by rw[mU,Nat.mul_one]) rfl rfl rfl rfl rfl rfl rfl rfl rfl rfl rfl rfl rfl (by show(_ && bt (de _) && _)=true;rw[tT];rfl) rfl ?_
 exact hK.out):p:=e ⟨h⟩
theorem Qc {p:Prop} (e:p:=by
 refine rP 713 ac rfl rfl rfl rfl rfl rfl rfl rfl ?_
 refine kO2 ?_
 refine EY 703 (m:=(q0::qr).length) ac (Nat.zero_lt_succ _) (by show(q0::qr).length*8<=_;omega) (by rw[mU,Nat.mul_one]) rfl rfl rfl rfl rfl rfl rfl rfl rfl rfl rfl rfl rfl (by show(_ && bt (de _) && _)=true;rw[tT];rfl) rfl ?_;refine kW ?_;exact hR _ kw):p:=e
theorem Q3 {p:Prop} (e:p:=by
 funext q
 apply propext
 constructor
 ·rintro(h1|h1)
  ·exact h1.1
  ·exact bxown q h1
 ·intro h1
  by_cases h2:BX g b q
  ·exact .inr h2
  ·exact .inl ⟨h1,h2⟩):p:=e
theorem Pb {p q:Prop} (h:q) (e:KH q->p:=by
 intro hK
 refine Mb ?_;refine kO ?_
 exact hK.out):p:=e ⟨h⟩
theorem Og {p q:Prop} (h:q) (e:KH q->p:=by
 intro hK
 rw[yS,if_neg (by decide),if_neg (by decide),if_neg (by decide),if_pos (by decide),decide_eq_true hl,Bool.and_true]
 exact hK.out):p:=e ⟨h⟩
theorem Lk {p q:Prop} (h:q) (e:KH q->p:=by
 intro hK
 unfold Qy;refine kI ?_;refine kX ?_;refine aP (i:=_) (cs':=[.val (vL nm)]) hil (ii hx) (Nat.zero_lt_succ 0) rfl rfl rfl rfl rfl rfl rfl rfl ?_;refine kW ?_;refine kC (cf) ?_;refine aP (i:=k) (cs':=eC p.1 o1 na1 xs1 nb1 ys1 nm1 n1 cs1) hkl hat (Nat.zero_lt_succ 7) rfl rfl rfl rfl rfl rfl rfl rfl ?_
 refine kO4 ?_
 exact hK.out):p:=e ⟨h⟩
theorem PU {p q:Prop} (h:q) (e:KH q->p:=by
 intro hK
 iterate 2 refine kG ?_
 refine kO ?_;refine kE ?_
 refine kO2 ?_
 exact hK.out):p:=e ⟨h⟩
theorem Q9 {p:Prop} (e:p:=by
 refine D3 ac rfl rfl rfl rfl rfl rfl rfl rfl ?_;refine kW ?_;refine HC 1003 (m1:=0) (m2:=1) (cs2:=x) ac (by decide) (by decide) (by rw[hx];exact Nat.le_refl _) rfl rfl rfl rfl rfl rfl rfl rfl rfl (.nil rfl rfl) rfl rfl rfl ?_ rfl ?_
 ·rw[eF hB];rfl
 refine kW ?_;exact⟨⟨_,rfl,rfl,rfl⟩,⟨congrArg some hcs,trivial⟩⟩):p:=e
theorem GN {p q:Prop} (h:q) (e:KH q->p:=by
 intro hK
 refine kV func56 ?_;refine kQ (cE) ?_;refine kC (cL) ?_
 exact hK.out):p:=e ⟨h⟩
theorem Rj {p q:Prop} (h:q) (e:KH q->p:=by
 intro hK
 refine kB false ?_ ?_
 ·exact(by simp[e1])
 refine kO5 ?_
 refine aD rfl rfl rfl rfl rfl rfl rfl (jH (a:=nm) (b:=nm') e2) ?_
 iterate 8 refine kO ?_
 exact hK.out):p:=e ⟨h⟩
theorem Q8 {p:Prop} (e:p:=by
 refine kX ?_
 exact⟨(i+1,acc),⟨hlt,by dsimp only;omega,f,by dsimp only;omega,h3⟩,by dsimp only;omega,by
  cases acc
  ·exact weak ⟨rfl,rfl,rfl,rfl,rfl,aA (by omega) (by omega),trivial⟩ trivial rfl
  ·exact weak ⟨rfl,rfl,rfl,rfl,rfl,aA (by omega) (by omega),trivial⟩ ⟨rfl,trivial⟩ rfl⟩):p:=e
theorem yk {p q:Prop} (h:q) (e:KH q->p:=by
 intro hK
 refine kN ?_;refine kI ?_
 refine kO3 ?_
 exact hK.out):p:=e ⟨h⟩
theorem RH {p q:Prop} (h:q) (e:KH q->p:=by
 intro hK
 refine kW ?_;refine aP (i:=j) (cs':=[AV.val (.int .i64 xs[j])]) hlt (ef (by simp[hlt])) (Nat.lt_succ_self 0) rfl rfl rfl rfl rfl rfl rfl rfl ?_;refine kW ?_;refine aP (i:=j) (cs':=[AV.val (.int .i64 ys[j])]) hlt' (ef (by simp[hlt'])) (Nat.lt_succ_self 0) rfl rfl rfl rfl rfl rfl rfl rfl ?_;refine kO ?_
 exact hK.out):p:=e ⟨h⟩
theorem P5 {p:Prop} (e:p:=by
 refine kB false ?_ ?_
 ·exact(by simp[he])
 refine kW ?_;refine⟨j+1,⟨hlt,fun i hi=>?_⟩,by omega,weak ⟨rfl,rfl,rfl,rfl,aA (by omega) (by omega),trivial⟩ trivial rfl⟩;exact F1):p:=e
theorem Kh {p q:Prop} (h:q) (e:KH q->p:=by
 intro hK
 refine p6 ac (show i<=m+1 by omega) (show i<c by omega) rfl rfl rfl rfl rfl rfl rfl rfl rfl ?_
 exact hK.out):p:=e ⟨h⟩
theorem OM {p q:Prop} (h:q) (e:KH q->p:=by
 intro hK
 refine kW ?_;refine aP (i:=i) (cs':=eC p.1 o1 na1 xs1 nb1 ys1 nm1 n1 cs1) hil hat (Nat.zero_lt_succ 7) rfl rfl rfl rfl rfl rfl rfl rfl ?_;refine kW ?_
 exact hK.out):p:=e ⟨h⟩
theorem Qs {p q:Prop} (h:q) (e:KH q->p:=by
 intro hK
 refine kW ?_;refine am (dp (h.1.fit (by omega)) (h'.1.fit (by omega))) rfl rfl rfl rfl rfl rfl rfl ?_;refine kW ?_;refine am (dp (h.2.fit (by omega)) (h'.2.fit (by omega))) rfl rfl rfl rfl rfl rfl rfl ?_;refine kW ?_;refine kC (fA (h.1.mul h'.1) (h.2.mul h'.2) hk d0 (rL a b)) ?_
 exact hK.out):p:=e ⟨h⟩
theorem RA {p q:Prop} (h:q) (e:KH q->p:=by
 intro hK
 refine NF ?_;refine kW ?_;refine kQ (lL (na:=nb) hw' c2) ?_
 exact hK.out):p:=e ⟨h⟩
theorem I6 {p:Prop} (e:p:=by
 rw[bL,cM e5];rw[List.getElem?_take]at hi
 split at hi
 ·simpa using hi
 ·cases hi):p:=e
theorem OF {p q:Prop} (h:q) (e:KH q->p:=by
 intro hK
 refine kW ?_;refine aP (i:=i) (cs':=[.val (vL q)]) hlt (ii hx) (Nat.zero_lt_succ 0) rfl rfl rfl rfl rfl rfl rfl rfl ?_;refine kO ?_
 exact hK.out):p:=e ⟨h⟩
theorem Lq {p q:Prop} (h:q) (e:KH q->p:=by
 intro hK
 refine fM (i:=1) underlying171 (by kernel_rfl) (by decide) rfl rfl rfl rfl rfl rfl ?_
 exact hK.out):p:=e ⟨h⟩
theorem PY {p q:Prop} (h:q) (e:KH q->p:=by
 intro hK
 refine kG ?_
 refine kO3 ?_
 refine kJ ((i+1:Nat)) ?_;refine kg ac (show i+1<m+1 by omega) rfl rfl rfl rfl rfl rfl rfl rfl rfl ?_
 refine kO2 ?_
 refine p6 ac (show i<=m by omega) (show i<c by omega) rfl rfl rfl rfl rfl rfl rfl rfl rfl ?_
 exact hK.out):p:=e ⟨h⟩
theorem P9 {p q:Prop} (h:q) (e:KH q->p:=by
 intro hK
 refine mE (ce.rdW (ts:=[.d (.agg (ab o1 na1 xs1 nb1 ys1 nm1 n1 cs1)), .own 5001 (i+1) 1 9, .own 5002 (i+1) 5 92]) (b:=[(5001,aF (env.map (·.1))),(5002,lO env)]) rfl hwd (Ol rfl rfl)) rfl rfl rfl rfl rfl ⟨rfl,rfl,trivial⟩ rfl rfl rfl rfl ?_;refine kW ?_
 exact hK.out):p:=e ⟨h⟩
theorem J2 {p q:Prop} (h:q) (e:KH q->p:=by
 intro hK
 refine kW ?_;refine am (N2 ha (by omega)) rfl rfl rfl rfl rfl rfl rfl ?_;refine kW ?_
 exact hK.out):p:=e ⟨h⟩
theorem Cc {p q:Prop} (h:q) (e:KH q->p:=by
 intro hK
 refine jy ac (i:=n) (c:=s[n]) hx rfl rfl rfl rfl rfl rfl rfl rfl ?_;refine kT ?_;refine kG ?_
 refine kO2 ?_
 refine kJ ((n+1:Nat)) ?_;refine vY ac (i:=n+1) (by omega) rfl rfl rfl rfl rfl rfl rfl rfl ?_;refine kC (c2) ?_;refine kG ?_;refine kO ?_
 exact hK.out):p:=e ⟨h⟩
theorem Ip {p q:Prop} (h:q) (e:KH q->p:=by
 intro hK
 refine ga ac cg func105 rfl rfl rfl rfl rfl rfl (pA rfl rfl rfl) ?_
 exact hK.out):p:=e ⟨h⟩
theorem Ng {p q:Prop} (h:q) (e:KH q->p:=by
 intro hK
 refine am (iS 0 (by decide) (by decide) rfl) rfl rfl rfl rfl rfl rfl rfl ?_
 exact hK.out):p:=e ⟨h⟩
theorem t7 {p:Prop} (e:p:=by
 constructor
 ·rintro⟨h1,h2⟩
  refine⟨tw.1 h1,fun cs hc=>?_⟩;have:=h2 _ (ol hc)
  rwa[mW]at this
 ·rintro⟨h1,h2⟩
  refine⟨tw.2 h1,fun cs hc=>?_⟩;obtain⟨c0,h0,rfl⟩:=ic hc;rw[j5]at h0;rw[mW];exact h2 c0 h0):p:=e
theorem GE {p q:Prop} (h:q) (e:KH q->p:=by
 intro hK
 refine kI ?_;refine kY ?_
 exact hK.out):p:=e ⟨h⟩
theorem M5 {p q:Prop} (h:q) (e:KH q->p:=by
 intro hK
 refine aP (i:=i) (cs':=ab o2 na2 xs2 nb2 ys2 nm2 n2 cs2) hlt' hat' (Nat.zero_lt_succ 6) rfl rfl rfl rfl rfl rfl rfl rfl ?_
 exact hK.out):p:=e ⟨h⟩
theorem Ly {p:Prop} (e:p:=by
 have a:=jZ f _ _ _ _ hs (fun _ _ h=>by cases h) h1;have b:=jZ f _ _ _ _ (fun t ht=>hs t (a.2.1 t ht)) (fun _ _ h=>by cases h;exact a.1) h;exact⟨b.1,fun t ht=>a.2.1 t (b.2.1 t ht),by have:=a.2.2;have:=b.2.2;dsimp only at *;omega⟩):p:=e
theorem Bk {p q:Prop} (h:q) (e:KH q->p:=by
 intro hK
 refine kV func297 ?_;refine am (tI (na:=na) hw (by unfold vT;omega) hn) rfl rfl rfl rfl rfl rfl rfl ?_;refine kW ?_;refine am (tI (na:=nb) hw' (by unfold vT;omega) hd) rfl rfl rfl rfl rfl rfl rfl ?_;refine kW ?_
 exact hK.out):p:=e ⟨h⟩
theorem Nt {p q:Prop} (h:q) (e:KH q->p:=by
 intro hK
 unfold Instr.sliceAt
 simp only[Sem.run_bind,run_underlying hu w,Result.andThen_ok]
 exact hK.out):p:=e ⟨h⟩
theorem wg {p:Prop} (e:p:=by
 cases e with
 |normal=>obtain⟨s,h1,h2⟩:=hq;exact fin s h1 h2
 |ret=>obtain⟨s,h1,h2⟩:=hq;exact fin s h1 h2
 |exit i=>obtain⟨s,h1,h2⟩:=hq;exact h1.elim
 |goto l=>exact hq.elim
 |panic c=>exact hq.elim
 |outgrown=>exact hq.elim):p:=e
theorem GK {p q:Prop} (h:q) (e:KH q->p:=by
 intro hK
 refine kW ?_;refine Qo OQ rfl rfl rfl rfl rfl rfl rfl ?_
 exact hK.out):p:=e ⟨h⟩
theorem tF {p q:Prop} (h:q) (e:KH q->p:=by
 intro hK
 refine kV func334 ?_;refine am (iI (by omega) ha) rfl rfl rfl rfl rfl rfl rfl ?_;refine kW ?_
 exact hK.out):p:=e ⟨h⟩
theorem MQ {p:Prop} (e:p:=by
 have:=List.not_of_lt_findIdx h
 simpa using this):p:=e
theorem HX {p q:Prop} (h:q) (e:KH q->p:=by
 intro hK
 refine kG ?_
 refine kO2 ?_
 refine aD rfl rfl rfl rfl rfl rfl rfl (jJ (a:=u) (b:=[]) hu) ?_;refine kG ?_
 refine kO3 ?_
 refine aD rfl rfl rfl rfl rfl rfl rfl (eg (a:=[32]) (b:=u) (by simp <;>omega)) ?_
 exact hK.out):p:=e ⟨h⟩
theorem G2 {p q:Prop} (h:q) (e:KH q->p:=by
 intro hK
 refine kO2 ?_
 refine Fc ac rfl rfl rfl rfl rfl rfl rfl rfl rfl ?_
 exact hK.out):p:=e ⟨h⟩
theorem Np {p q:Prop} (h:q) (e:KH q->p:=by
 intro hK
 refine kD (ct t (u::r) a 0) ?_;refine kO ?_;refine kQ (cp) ?_
 exact hK.out):p:=e ⟨h⟩
theorem CJ {p:Prop} (e:p:=by
 refine kN ?_
 repeat refine bl (T:=TT) ?_
 refine eW ((IW (q:=0) rfl rfl (Nat.le_of_eq hlen.symm)).tr (aK (q:=0) (j:=901) (j':=1003) rfl rfl rfl rfl)) rfl ?_;exact TO):p:=e
theorem MS {p q:Prop} (h:q) (e:KH q->p:=by
 intro hK
 show aa Tryz.prog _ [.agg (ab op na xs nb ys nm args.length (eE args))] _
 exact hK.out):p:=e ⟨h⟩
theorem xp {p q:Prop} (h:q) (e:KH q->p:=by
 intro hK
 refine kC (cl) ?_;refine kO ?_;refine kB false ?_ ?_
 ·exact decide_eq_false (by show ¬((3:Nat):Int)<_;omega)
 refine kW ?_;refine fM (i:=3) underlying184 (by kernel_rfl) (by decide) rfl rfl rfl rfl rfl rfl ?_;refine kW ?_
 exact hK.out):p:=e ⟨h⟩
theorem AW {p q:Prop} (h:q) (e:KH q->p:=by
 intro hK
 refine kB false ?_ ?_
 ·exact(by simp[hxy])
 refine kW ?_
 exact hK.out):p:=e ⟨h⟩
theorem EU {p q:Prop} (h:q) (e:KH q->p:=by
 intro hK
 refine vY ac (i:=nn) hnr rfl rfl rfl rfl rfl rfl rfl rfl ?_;refine kN ?_
 exact hK.out):p:=e ⟨h⟩
theorem H4 {p q:Prop} (h:q) (e:KH q->p:=by
 intro hK
 refine kW ?_;refine⟨i+1,?_,by omega,weak ⟨rfl,rfl,rfl,rfl,aA (by omega) (by omega),trivial⟩ trivial rfl⟩
 exact hK.out):p:=e ⟨h⟩
theorem Mc {p q:Prop} (h:q) (e:KH q->p:=by
 intro hK
 refine kC (cB) ?_
 iterate 8 refine kO ?_
 refine kB false ?_ ?_
 ·exact(by simp[hn])
 refine kW ?_;refine kC (cE) ?_
 exact hK.out):p:=e ⟨h⟩
theorem MZ {p q:Prop} (h:q) (e:KH q->p:=by
 intro hK
 refine kW ?_;refine am (dM 10 (by decide) (by decide)) rfl rfl rfl rfl rfl rfl rfl ?_;refine kW ?_;refine kQ (t4) ?_;refine am (dp (hs.fit (by omega)) t3) rfl rfl rfl rfl rfl rfl rfl ?_;refine kW ?_
 exact hK.out):p:=e ⟨h⟩
theorem Ca {p:Prop} (e:p:=by
 split
 ·rename_i h
  obtain⟨x,hx,e⟩:=this.1 h;have e:=of_decide_eq_true e;subst e;exact⟨fun _=>hx,fun _=>by omega⟩
 ·rename_i h
  exact⟨fun h=>by omega,fun hm=>absurd (this.2 ⟨n,hm,decide_eq_true rfl⟩) h⟩):p:=e
theorem x8 {p q:Prop} (h:q) (e:KH q->p:=by
 intro hK
 refine aD rfl rfl rfl rfl rfl rfl rfl (jH (a:=[]) (b:=[]) rfl) ?_
 exact hK.out):p:=e ⟨h⟩
theorem B7 {p:Prop} (e:p:=by
 have:=Nat.le_mul_of_pos_right (m1+m2) (Nat.le_of_ble_eq_true hq0.2);omega):p:=e
theorem CO {p q:Prop} (h:q) (e:KH q->p:=by
 intro hK
 refine aD rfl rfl rfl rfl rfl rfl rfl (jJ (a:=s) (b:=[]) hne) ?_
 exact hK.out):p:=e ⟨h⟩
theorem sZ {p q:Prop} (h:q) (e:KH q->p:=by
 intro hK
 refine ga ac cg func105 rfl rfl rfl rfl rfl rfl rH ?_
 exact hK.out):p:=e ⟨h⟩
theorem MD {p q:Prop} (h:q) (e:KH q->p:=by
 intro hK
 refine kE ?_;refine kG ?_;refine kO ?_
 exact hK.out):p:=e ⟨h⟩
theorem BO {p q:Prop} (h:q) (e:KH q->p:=by
 intro hK
 refine kW ?_;refine am (Az (n:=b.length) (by omega) hp) rfl rfl rfl rfl rfl rfl rfl ?_;refine kW ?_;refine am (dp (sa.fit (by omega)) (sp.fit (by omega))) rfl rfl rfl rfl rfl rfl rfl ?_;refine kW ?_
 exact hK.out):p:=e ⟨h⟩
theorem Bm {p q:Prop} (h:q) (e:KH q->p:=by
 intro hK
 refine kU func59 ?_;refine kR ?_;refine kI ?_
 iterate 12 refine kO ?_
 exact hK.out):p:=e ⟨h⟩
theorem LL {p:Prop} (e:p:=by
 rw[List.getElem?_append_left (List.getElem?_eq_some_iff.1 ha).1];exact ha):p:=e
theorem LX {p:Prop} (e:p:=by
 simp only at h'
 split at h
 ·split at h'
  ·rename_i r1 h1 _ r2 h2
   have:=xB (fun x _ y z=>ih x y z) h1 h2;subst this;rw[<- Option.some.inj h,<- Option.some.inj h']
  ·cases h'
 ·cases h):p:=e
theorem tk {p:Prop} (e:p:=by
 refine kX ?_;refine kQ (wT g1 hv) ?_;exact⟨(v,u%v),⟨vZ.trans hg,g2,Nat.le_trans (sv (Nat.le_of_lt hm)) g2⟩,hm,weak ⟨rfl,rfl,rfl,trivial⟩ ⟨rfl,trivial⟩ rfl⟩):p:=e
theorem E1 {p q:Prop} (h:q) (e:KH q->p:=by
 intro hK
 refine aG ac cg func171 rfl rfl rfl rfl rfl (fJ) ?_
 exact hK.out):p:=e ⟨h⟩
theorem F2 {p q:Prop} (h:q) (e:KH q->p:=by
 intro hK
 refine aG ac cg func281 rfl rfl rfl rfl rfl (fJ) ?_
 exact hK.out):p:=e ⟨h⟩
theorem HV {p:Prop} (e:p:=by
 refine kX ?_
 rw[show wY l=false by
  cases hd:wY l
  ·rfl
  ·have:=(gw.1 hd).1 c (List.mem_of_getElem? hcj)
   unfold fS at this
   omega]
 exact dx (T:=TT) rfl rfl):p:=e
theorem MF {p:Prop} (e:p:=by
 rw[h1]at h;rw[kK f _ _ _ h1];cases y with
 |error e=>exact h
 |ok y=>exact kK f _ _ _ h):p:=e
theorem Gl {p q:Prop} (h:q) (e:KH q->p:=by
 intro hK
 refine kV func166 ?_;refine kC (c1) ?_;refine kG ?_
 exact hK.out):p:=e ⟨h⟩
theorem NG {p:Prop} (e:p:=by
 rw[hnext,qM,if_neg (fun h2=>by
  rcases h with h|h
  ·rw[h]at h2;exact absurd h2.1 (by decide)
  ·rcases h2.2 with h3|h3
   ·exact h.1 h3
   ·rw[h.2]at h3;cases h3)]):p:=e
theorem Nh {p q:Prop} (h:q) (e:KH q->p:=by
 intro hK
 refine kO ?_;refine eU 7003 (m1:=G.length) (m2:=1) ac (by decide) (by show(G.length+1)*16<=_;omega) rfl rfl rfl rfl rfl rfl rfl rfl rfl rfl rfl (.own rfl rfl) rfl rfl rfl ?_;refine kW ?_
 exact hK.out):p:=e ⟨h⟩
theorem MW {p q:Prop} (h:q) (e:KH q->p:=by
 intro hK
 refine kW ?_;refine eU 7005 (m1:=G.length) (m2:=1) ac (by decide) (by show(G.length+1)*16<=_;omega) rfl rfl rfl rfl rfl rfl rfl rfl rfl rfl rfl (.own rfl rfl) rfl rfl rfl ?_;refine kW ?_
 exact hK.out):p:=e ⟨h⟩
theorem CC {p q:Prop} (h:q) (e:KH q->p:=by
 intro hK
 refine kV func329 ?_;refine kC (nB h47) ?_
 exact hK.out):p:=e ⟨h⟩
theorem NH {p:Prop} (e:p:=by
 have e1:=bE.1 h1;have e2:=bE.1 h2
 by_cases e:j=1003
 ·subst e;cases e1
 ·rw[show an [(1003,cs')]=[(1003,some cs')] from rfl,aj _ _ (fun h=>e h.symm)]at e2;cases e2):p:=e
theorem MJ {p q:Prop} (h:q) (e:KH q->p:=by
 intro hK
 refine kE ?_;refine kG ?_
 refine kO3 ?_
 refine kJ ((m+1:Nat)) ?_;refine Gb ac (show m+1<=c by omega) rfl rfl rfl rfl rfl rfl rfl rfl rfl ?_;refine kG ?_
 refine kO4 ?_
 exact hK.out):p:=e ⟨h⟩
theorem LE {p:Prop} (e:p:=by
 refine kW ?_;exact⟨i+1,hlt,by omega,weak ⟨rfl,rfl,rfl,rfl,aA (by omega) (by omega),congrArg (fun z=>TV.d (dL z)) (keep (.inl (by rw[hcd,hb1];rfl))),trivial⟩ ⟨rfl,trivial⟩ rfl⟩):p:=e
theorem tf {p:Prop} (e:p:=by
 rw[this];exact dx (T:=TT) rfl rfl):p:=e
theorem Ny {p:Prop} (e:p:=by
 split at h
 ·rename_i e1 r1 h1
  have a:=fN f _ _ _ hw hE h1;have hsub:=gR f _ _ _ _ h1;exact fN f _ _ _ a (fun t ht=>hE t (hsub t ht)) h
 ·exact fN f _ _ _ hw hE h):p:=e
theorem BG {p:Prop} (e:p:=by
 injection this with this
 injection this with this
 injection this):p:=e
theorem xc {p q:Prop} (h:q) (e:KH q->p:=by
 intro hK
 refine kT ?_
 refine kO2 ?_
 refine kT ?_
 exact hK.out):p:=e ⟨h⟩
theorem GB {p q:Prop} (h:q) (e:KH q->p:=by
 intro hK
 refine fM (i:=2) underlying171 (by kernel_rfl) (by decide) rfl rfl rfl rfl rfl rfl ?_
 exact hK.out):p:=e ⟨h⟩
theorem Ig {p q:Prop} (h:q) (e:KH q->p:=by
 intro hK
 refine fM (i:=3) underlying171 (by kernel_rfl) (by decide) rfl rfl rfl rfl rfl rfl ?_
 exact hK.out):p:=e ⟨h⟩
theorem G1 {p q:Prop} (h:q) (e:KH q->p:=by
 intro hK
 refine fM (i:=4) underlying171 (by kernel_rfl) (by decide) rfl rfl rfl rfl rfl rfl ?_
 exact hK.out):p:=e ⟨h⟩
theorem Hj {p q:Prop} (h:q) (e:KH q->p:=by
 intro hK
 refine fM (i:=5) underlying171 (by kernel_rfl) (by decide) rfl rfl rfl rfl rfl rfl ?_
 exact hK.out):p:=e ⟨h⟩
theorem Hu {p q:Prop} (h:q) (e:KH q->p:=by
 intro hK
 refine fM (i:=6) underlying171 (by kernel_rfl) (by decide) rfl rfl rfl rfl rfl rfl ?_
 exact hK.out):p:=e ⟨h⟩
theorem EC {p q:Prop} (h:q) (e:KH q->p:=by
 intro hK
 refine fM (i:=7) underlying171 (by kernel_rfl) (by decide) rfl rfl rfl rfl rfl rfl ?_
 exact hK.out):p:=e ⟨h⟩
theorem MH {p:Prop} (e:p:=by
 refine kW ?_;exact⟨i+1,hlt,by omega,weak ⟨rfl,rfl,rfl,rfl,aA (by omega) (by omega),congrArg (fun z=>TV.d (dL z)) (keep (.inl (by rw[hcd,hb1];rfl))),trivial⟩ trivial rfl⟩):p:=e
theorem BY {p q:Prop} (h:q) (e:KH q->p:=by
 intro hK
 refine kW ?_;refine kQ (bg (H3 ha)) ?_
 exact hK.out):p:=e ⟨h⟩
theorem Gz {p q:Prop} (h:q) (e:KH q->p:=by
 intro hK
 unfold SO;refine kI ?_;refine kB true ?_ ?_
 ·exact decide_eq_true (by decide)
 refine kW ?_
 exact hK.out):p:=e ⟨h⟩
theorem Ms {p q:Prop} (h:q) (e:KH q->p:=by
 intro hK
 refine jy ac (i:=0) (c:=c) h0 rfl rfl rfl rfl rfl rfl rfl rfl ?_;refine kC (c1) ?_
 exact hK.out):p:=e ⟨h⟩
theorem NJ {p q:Prop} (h:q) (e:KH q->p:=by
 intro hK
 refine kD (iU (4,[c],p0) r2 a 0) ?_;refine kO ?_;refine GR underlying166 underlying9 hl rfl rfl rfl rfl rfl rfl rfl ?_;refine kW ?_;refine kZ (cy) ?_
 exact hK.out):p:=e ⟨h⟩
theorem LY {p:Prop} (e:p:=by
 simp only[Ep]at hk
 split at hk
 ·rename_i hc;cases hk;subst hc;exact⟨_,rfl,rfl⟩
 ·split at hk
  ·rename_i hc;cases hk;subst hc;exact⟨_,rfl,rfl⟩
  ·cases hk):p:=e
theorem M0 {p q:Prop} (h:q) (e:KH q->p:=by
 intro hK
 refine kY ?_;refine gL (T:=TT) rfl ?_ ?_
 ·exact(by rw[hl0];rfl)
 refine kW ?_;refine am (GF (aH u) (by omega)) rfl rfl rfl rfl rfl rfl rfl ?_
 exact hK.out):p:=e ⟨h⟩
theorem CL {p:Prop} (e:p:=by
 obtain⟨b,off,f,e,hn,hl,h1,h2⟩:=hP.gl k cs hk;exact⟨b,off,f,e,fun h=>hn (.inl h),hl,h1,fun i a hi=>(h2 i a hi).agree (bG.refl _ _) (fun _ _ h=> .inl h)⟩):p:=e
theorem P4 {p q:Prop} (h:q) (e:KH q->p:=by
 intro hK
 refine kC (c1) ?_
 refine kO4 ?_
 refine kC (c2) ?_
 exact hK.out):p:=e ⟨h⟩
theorem LF {p q:Prop} (h:q) (e:KH q->p:=by
 intro hK
 refine kG ?_
 refine kO3 ?_
 refine ek (v':= .bool (decide (z.length<=40))) rfl rfl rfl rfl ?_ ?_
 ·exact congrArg Value.bool (decide_eq_decide.2 (by omega))
 exact hK.out):p:=e ⟨h⟩
theorem IV {p q:Prop} (h:q) (e:KH q->p:=by
 intro hK
 refine kE ?_;refine kG ?_
 refine kO2 ?_
 refine vY ac (i:=i) (by omega) rfl rfl rfl rfl rfl rfl rfl rfl ?_;refine kC (cn) ?_;refine kG ?_;refine kO ?_
 exact hK.out):p:=e ⟨h⟩
theorem Ci {p q:Prop} (h:q) (e:KH q->p:=by
 intro hK
 refine kW ?_;refine gL (T:=TT) rfl ?_ ?_
 ·exact decide_eq_true (by omega)
 exact hK.out):p:=e ⟨h⟩
theorem Mo {p:Prop} (e:p:=by
 rw[Nat.zero_add,show i+(m-i)=m by omega];omega):p:=e
theorem NC {p q:Prop} (h:q) (e:KH q->p:=by
 intro hK
 refine kW ?_;refine aP (i:=i) (cs':=[.val (.int .i64 z)]) hlt hat (Nat.zero_lt_succ 0) rfl rfl rfl rfl rfl rfl rfl rfl ?_;refine kW ?_;refine kC (cI) ?_
 exact hK.out):p:=e ⟨h⟩
theorem Gm {p q:Prop} (h:q) (e:KH q->p:=by
 intro hK
 unfold execOp;rw[ho]
 simp only[e1,aY hM hy2,Instr.indexAt,Instr.sureAddr,asIntOf,Sem.run_bind,Sem.run_pure,run_underlying hu w,Result.andThen_ok]
 exact hK.out):p:=e ⟨h⟩
theorem BB {p:Prop} (e:p:=by
 split at h
 ·cases h;exact fun t ht=>List.mem_cons_of_mem _ ht
 ·cases h):p:=e
theorem Bf {p:Prop} (e:p:=by
 exact congrArg (fun z=>RV.one (dN .i64 z)) hv.symm):p:=e
theorem Nf {p q:Prop} (h:q) (e:KH q->p:=by
 intro hK
 rw[Iw,xC,if_neg (by show ¬4<least;omega)]
 exact hK.out):p:=e ⟨h⟩
theorem EB {p q:Prop} (h:q) (e:KH q->p:=by
 intro hK
 show aa Tryz.prog _ [.agg (cC k ps cs vs s),_] _;refine kU func8 ?_
 exact hK.out):p:=e ⟨h⟩
theorem M9 {p q:Prop} (h:q) (e:KH q->p:=by
 intro hK
 refine aU (T:=TT) rfl ?_
 refine kO2 ?_
 refine kJ ((m+1:Nat)) ?_;refine kO ?_;refine JJ ac rfl rfl rfl rfl rfl rfl rfl rfl ?_
 exact hK.out):p:=e ⟨h⟩
theorem E3 {p q:Prop} (h:q) (e:KH q->p:=by
 intro hK
 refine aD rfl rfl rfl rfl rfl rfl rfl (bT (a:=u) (b:=[]) hu) ?_
 exact hK.out):p:=e ⟨h⟩
theorem Mu {p q:Prop} (h:q) (e:KH q->p:=by
 intro hK
 refine kW ?_;refine aP (i:=i) (cs':=[.val (.int .i64 q)]) hlt (ef hx) (Nat.zero_lt_succ 0) rfl rfl rfl rfl rfl rfl rfl rfl ?_;refine kO ?_
 exact hK.out):p:=e ⟨h⟩
theorem Ql {p:Prop} (e:p:=by
 by_cases e:i<f
 ·have:=hni e;rw[hb]at this;cases this
 ·omega):p:=e
theorem Mf {p:Prop} (e:p:=by
 have:=hc.enter (args.map a.eval) w;have e:(List.map a.eval args.toList).toArray=args.map a.eval:=Array.ext' (by simp);rw[e]
 simpa using this):p:=e
theorem M8 {p:Prop} (e:p:=by
 exact RY (rows:=rows) (by unfold maxLen at hcm;omega) hlc hl hsz (fun i r hi=>by obtain⟨us,h3,h4,_⟩:=hr i r hi;exact⟨us,h3,h4⟩)):p:=e
theorem Mt {p q:Prop} (h:q) (e:KH q->p:=by
 intro hK
 show aa Tryz.prog _ [.agg (ab op na xs nb ys nm args.length (eE args)), .agg (ab op' na' xs' nb' ys' nm' args'.length (eE args'))] _
 exact hK.out):p:=e ⟨h⟩
theorem LU {p q:Prop} (h:q) (e:KH q->p:=by
 intro hK
 rw[show dE (.bin k a b)= .agg ([.val (.int .i64 k.code)]++jb++[.val (vL []), .sl 2 (aE a++aE b)]) from congrArg DV.agg (jw k a b)]
 exact hK.out):p:=e ⟨h⟩
theorem FA {p q:Prop} (h:q) (e:KH q->p:=by
 intro hK
 refine aG ac cg func169 rfl rfl rfl rfl rfl (fJ) ?_
 exact hK.out):p:=e ⟨h⟩
theorem Mh {p:Prop} (e:p:=by
 cases hbase with
 |nil a b=>exact .nil (hx2.trans a) b
 |own a b=>exact .own (hx2.trans a) ((aV (hrb _ (by simp[qU]))).trans b)):p:=e
theorem Nj {p q:Prop} (h:q) (e:KH q->p:=by
 intro hK
 refine kG ?_
 refine kO3 ?_
 refine Bo 13003 (cs:=[.val (vL nm)]) ac rfl rfl rfl rfl rfl rfl rfl rfl rfl rfl rfl rfl rfl ?_
 exact hK.out):p:=e ⟨h⟩
theorem Ni {p q:Prop} (h:q) (e:KH q->p:=by
 intro hK
 refine kV func253 ?_;refine kQ (dM n h1 h2) ?_;refine kQ (dM d h3 h4) ?_
 exact hK.out):p:=e ⟨h⟩
theorem MK {p q:Prop} (h:q) (e:KH q->p:=by
 intro hK
 refine aP (i:=i) (cs':=ab o1 na1 xs1 nb1 ys1 nm1 n1' cs1) hlt hat (Nat.zero_lt_succ 6) rfl rfl rfl rfl rfl rfl rfl rfl ?_
 exact hK.out):p:=e ⟨h⟩
theorem LJ {p:Prop} (e:p:=by
 have a:=(ge f _ _ _ _ h1).2 (fun _ _ h=>by cases h);have b:=(ge f _ _ _ _ h).1;exact⟨by omega,fun _=>by omega⟩):p:=e
theorem L6 {p:Prop} (e:p:=by
 exact((m0 hb6).trans ((m0 hb7).trans ((kh Hb7.out hs8 Ho8.out).trans (kh Hb8.out hs9 Ho9.out)))).from _):p:=e
theorem M3 {p:Prop} (e:p:=by
 unfold execOp;rw[h2]
 simp only[e1,aY hM hy,Option.map_some,Option.map_none,Sem.run_bind,hr,Result.andThen_ok]
 rfl):p:=e
theorem Nq {p:Prop} (e:p:=by
 rw[vG hbad,z0]at hret;refine kX ?_;refine Eq.mpr (congrFun hret _) ?_;exact dx (T:=TT) rfl rfl):p:=e
theorem MA {p:Prop} (e:p:=by
 refine⟨[],?_,fun u h=>by rw[h0]at h;cases h⟩;rw[h0];exact main _ _ (fun _=>⟨rfl,rfl⟩) (fun h=>by omega)):p:=e
theorem ND {p:Prop} (e:p:=by
 simp only[List.size_toArray,List.length_append,List.length_take,List.length_drop,Array.length_toList,hsl]
 omega):p:=e
theorem Mi {p:Prop} (e:p:=by
 intro r hm;obtain⟨i,hi⟩:=List.getElem?_of_mem hm;obtain⟨us,h3,h4,_⟩:=hr i r hi;rw[h4.1,(yD h3).1]):p:=e
theorem Cs {p:Prop} (e:p:=by
 split at h<;>cases h;exact .inr rfl):p:=e
theorem LN {p:Prop} (e:p:=by
 have:=hP.bm j cs' h1;exact this.agree (hb.block _ this.lt) (.of_below hb) (fun _ _ h=>h) (iv.same hb rfl)):p:=e
theorem GP {p:Prop} (e:p:=by
 refine kW ?_;exact⟨⟨_,rfl,rfl⟩,⟨rfl,rfl,trivial⟩⟩):p:=e
theorem MB {p:Prop} (e:p:=by
 have hn':¬fn.name= "runtime.NumGoroutine" :=by simpa using hn
 simp[callFunc,Sem.run_bind,hf,hn',hb]):p:=e
theorem Na {p:Prop} (e:p:=by
 rcases Nat.eq_zero_or_pos (digs v).length with h|h
 ·have:=fm.1 h;omega
 ·exact h):p:=e
theorem Mn {p:Prop} (e:p:=by
 rcases Nat.lt_or_ge b w1.heap.size with h'|h'
 ·exact h'
 ·simp[Array.getElem?_eq_none h']at hbk):p:=e
theorem LB {p:Prop} (e:p:=by
 intro j a hj
 match j,hj with
 |0,hj=>rw[Nat.mul_one,Nat.add_zero,List.getElem?_map,h];exact hj):p:=e
theorem Ml {p:Prop} (e:p:=by
 rcases h4 with⟨h5,h6⟩| ⟨h5,h6,h7⟩
 ·exact .inl ⟨by omega,h6⟩
 ·exact .inr ⟨by omega,h6,h7⟩):p:=e
theorem LH {p:Prop} (e:p:=by
 obtain⟨op,na,xs,nb,ys,nm,args⟩:=x;exact⟨op,na,xs,nb,ys,nm,args.length,eE args,rfl⟩):p:=e
theorem Mg {p:Prop} (e:p:=by
 generalize a.eval y=v at hyv;cases hyv with
 |emp=>exact⟨_,_,rfl⟩
 |sl=>exact⟨_,_,rfl⟩):p:=e
theorem NA {p:Prop} (e:p:=by
 refine kW ?_;refine fV ?_;exact hR _ (weak ⟨rfl,rfl,hfin,rfl,trivial⟩ ⟨rfl,trivial⟩ rfl)):p:=e
theorem MM {p:Prop} (e:p:=by
 have h4:=Hb9.out;rw[List.append_assoc,List.append_assoc,<- Hpt.out,<- Hsn.out]at h4;exact h4):p:=e
theorem Nv {p:Prop} (e:p:=by
 exact((HB.out.trans (hb6.mono hWs)).trans (hb7.mono (by omega))).trans (Hw8.out.trans Hw9.out)):p:=e
theorem ye {p:Prop} (e:p:=by
 refine Ii ?_;refine kC (hno) ?_;cases p
 ·exact ar
 ·refine kO3 ?_
  cases z
  ·refine Ro ?_
   exact ar
  ·refine SN ?_
   refine kC (hcf) ?_;cases A
   ·exact ar
   ·exact ar):p:=e
theorem FY {p:Prop} (e:p:=by
 rcases Bool.eq_false_or_eq_true (p q)with hb|hb
 ·rw[hb]at c
  have e:i=f:=by
   exact Ql
  subst e;rw[if_pos hlt];refine kD (c) ?_;exact jo
 ·exact NW):p:=e
theorem tc {p q:Prop} (h:q) (e:KH q->p:=by
 intro hK
 refine kU func119 ?_;refine S8 ?_;refine RF ?_;refine dm ?_;refine kC (c2) ?_
 exact hK.out):p:=e ⟨h⟩
theorem HG {p:Prop} (e:p:=by
 have he:b=true:=by
  rw[<- hb];refine decide_eq_true (List.ext_getElem? fun i=>?_);exact SK
 cases b
 ·cases he
 ·refine kE ?_
  exact ar):p:=e
theorem G8 {p q:Prop} (h:q) (e:KH q->p:=by
 intro hK
 refine kU func133 ?_;refine kR ?_;refine kR ?_;refine Q7 ?_;refine kN ?_;refine dY (T:=TT) rfl ?_;refine Q7 ?_
 refine kO2 ?_
 exact hK.out):p:=e ⟨h⟩
theorem oJ {p:Prop} (e:p:=by
 refine kW ?_;refine kC (c1) ?_;exact ar):p:=e
theorem Ge {p q:Prop} (h:q) (e:KH q->p:=by
 intro hK
 refine kU func34 ?_;refine gm ?_;refine NT ?_;refine kB true ?_ ?_
 ·exact(by simp[e2])
 refine kW ?_;refine kC (cP) ?_
 exact hK.out):p:=e ⟨h⟩
theorem F3 {p q:Prop} (h:q) (e:KH q->p:=by
 intro hK
 refine kV func333 ?_;refine am (iI (by omega) h1) rfl rfl rfl rfl rfl rfl rfl ?_;refine kW ?_
 exact hK.out):p:=e ⟨h⟩
theorem qa {p:Prop} (e:p:=by
 refine kO ?_;refine oZ ?_;exact ar):p:=e
theorem tt {p q:Prop} (h:q) (e:KH q->p:=by
 intro hK
 refine o8 ?_
 refine kO2 ?_
 exact hK.out):p:=e ⟨h⟩
theorem Ch {p q:Prop} (h:q) (e:KH q->p:=by
 intro hK
 refine bl ?_;refine o8 ?_;refine kO ?_
 exact hK.out):p:=e ⟨h⟩
theorem ua {p q:Prop} (h:q) (e:KH q->p:=by
 intro hK
 refine kI ?_;refine kT ?_;refine uX ?_;refine kW ?_;refine kC (c) ?_
 exact hK.out):p:=e ⟨h⟩
theorem L9 {p:Prop} (e:p:=by
 refine RW ?_;refine kC (c) ?_;exact ar):p:=e
theorem L0 {p:Prop} (e:p:=by
 rw[hr]at c;refine Ok ?_;refine Ga ?_;refine Rn ?_;refine N7 ?_;refine SP ?_;refine RW ?_;refine am (ll hy (by omega)) rfl rfl rfl rfl rfl rfl rfl ?_;refine kC (c) ?_;exact ar):p:=e
theorem Ma {p q:Prop} (h:q) (e:KH q->p:=by
 intro hK
 refine kE ?_;refine kG ?_
 iterate 6 refine kO ?_
 refine kJ ((i+n:Nat)) ?_;refine Q2 ac (l:=s) (i:=i) (j:=i+n) (by omega) (by omega) rfl rfl rfl rfl rfl rfl rfl rfl rfl ?_
 exact hK.out):p:=e ⟨h⟩
theorem MR {p q:Prop} (h:q) (e:KH q->p:=by
 intro hK
 refine kV func187 ?_;refine kC (qC h h' hk rfl) ?_
 refine kO4 ?_
 refine ek (v':= .int .i64 (p+p')) rfl rfl rfl rfl ?_ ?_
 ·exact OL
 refine kW ?_
 exact hK.out):p:=e ⟨h⟩
theorem yj {p q:Prop} (h:q) (e:KH q->p:=by
 intro hK
 refine mE ((c1.rd (ts:=[.own 6001 (List.cons a r).length 1 9, .d (dL p.1)]) (b:=[(6001,aF (List.cons a r))]) rfl rfl)) rfl rfl rfl rfl rfl ⟨rfl,trivial⟩ rfl rfl rfl rfl ?_
 exact hK.out):p:=e ⟨h⟩
theorem MV {p:Prop} (e:p:=by
 refine kW ?_;refine kC (x7) ?_;exact ar):p:=e
theorem xJ {p q:Prop} (h:q) (e:KH q->p:=by
 intro hK
 refine aP (i:=1) (cs':=ab o2 na2 xs2 nb2 ys2 nm2 n2 cs2) (by decide) (me _ rfl) (Nat.zero_lt_succ 6) rfl rfl rfl rfl rfl rfl rfl rfl ?_;refine kW ?_;refine kC (ih') ?_
 exact hK.out):p:=e ⟨h⟩
theorem L5 {p:Prop} (e:p:=by
 refine kO2 ?_
 refine kE ?_;exact ar):p:=e
theorem Nd {p q:Prop} (h:q) (e:KH q->p:=by
 intro hK
 refine kB false ?_ ?_
 ·exact(by simp[h5])
 refine SW ?_
 exact hK.out):p:=e ⟨h⟩
theorem Mr {p q:Prop} (h:q) (e:KH q->p:=by
 intro hK
 refine aP (i:=0) (cs':=ab o1 na1 xs1 nb1 ys1 nm1 n1 cs1) (by decide) (l5 _ _) (Nat.zero_lt_succ 6) rfl rfl rfl rfl rfl rfl rfl rfl ?_;refine kW ?_;refine kC (ih) ?_
 exact hK.out):p:=e ⟨h⟩
theorem Bv {p:Prop} (e:p:=by
 have hB:B=true:=hall.2 fun q x y h2 h3=>hq q x y (by have:=(List.getElem?_eq_some_iff.1 h2).1;omega) h2 h3
 clear hall;cases B
 ·cases hB
 ·refine kE ?_
  exact ar):p:=e
theorem L7 {p:Prop} (e:p:=by
 have hne:b=false:=by rw[<- hb];exact decide_eq_false fun e=>he (by subst e;rfl)
 cases b
 ·refine kB true ?_ ?_
  ·exact(by simp[he])
  exact ar
 ·cases hne):p:=e
theorem Mm {p q:Prop} (h:q) (e:KH q->p:=by
 intro hK
 refine kV func133 ?_;refine rD 3 ?_
 exact hK.out):p:=e ⟨h⟩
theorem BJ {p:Prop} (e:p:=by
 rw[hb]at c
 have hB:B=false:=by
  cases B
  ·rfl
  ·rw[hall.1 rfl i _ _ hx hy]at hb;cases hb
 clear hall;cases B
 ·refine kC (c) ?_
  exact ar
 ·cases hB):p:=e
theorem LP {p q:Prop} (h:q) (e:KH q->p:=by
 intro hK
 refine kU func76 ?_;refine gm ?_;refine NT ?_;refine aD rfl rfl rfl rfl rfl rfl rfl (bf (a:=nm) (b:=nm') e2) ?_
 iterate 8 refine kO ?_
 refine kC (c1) ?_
 exact hK.out):p:=e ⟨h⟩
theorem FD {p q:Prop} (h:q) (e:KH q->p:=by
 intro hK
 refine S8 ?_;refine N3 ?_;refine kQ (c) ?_
 exact hK.out):p:=e ⟨h⟩
theorem GU {p q:Prop} (h:q) (e:KH q->p:=by
 intro hK
 refine F2 ?_;refine S8 ?_;refine Np ?_;refine kQ (cd) ?_;refine kZ (iU t (u::r) a 0) ?_;refine kD (ct u r a 0) ?_;refine kO ?_
 exact hK.out):p:=e ⟨h⟩
theorem MI {p q:Prop} (h:q) (e:KH q->p:=by
 intro hK
 refine kU func15 ?_;refine S8 ?_;refine CO ?_;refine SJ ?_;refine Ms ?_
 exact hK.out):p:=e ⟨h⟩
theorem GH {p q:Prop} (h:q) (e:KH q->p:=by
 intro hK
 refine aG ac cg func85 rfl rfl rfl rfl rfl (vR) ?_;refine S8 ?_
 exact hK.out):p:=e ⟨h⟩
theorem NF {p q:Prop} (h:q) (e:KH q->p:=by
 intro hK
 refine kV func173 ?_;refine kC (lL (na:=na) hw c1) ?_
 exact hK.out):p:=e ⟨h⟩
theorem M4 {p q:Prop} (h:q) (e:KH q->p:=by
 intro hK
 refine kW ?_;refine aP (i:=0) (cs':=ab o1 na1 xs1 nb1 ys1 nm1 n1 cs1) (by decide) (Jp _) (Nat.zero_lt_succ 6) rfl rfl rfl rfl rfl rfl rfl rfl ?_
 exact hK.out):p:=e ⟨h⟩
theorem Mb {p q:Prop} (h:q) (e:KH q->p:=by
 intro hK
 refine kQ (cT) ?_;refine kZ (cs) ?_;refine kD (cn) ?_
 exact hK.out):p:=e ⟨h⟩
theorem Lx {p:Prop} (e:p:=by
 refine kV func96 ?_;refine Ng ?_;refine kW ?_;refine am (l8 h s0 (by omega) e0) rfl rfl rfl rfl rfl rfl rfl ?_;exact ar):p:=e
theorem Nk {p:Prop} (e:p:=by
 refine aD rfl rfl rfl rfl rfl rfl rfl (bT (a:=l[i].1) (b:=s) e) ?_;refine RZ ?_;refine kO ?_;refine kC (wj l[i].1) ?_;exact ar):p:=e
theorem Lv {p q:Prop} (h:q) (e:KH q->p:=by
 intro hK
 refine kW ?_;refine aP (i:=i) (cs':=eC p.1 o1 na1 xs1 nb1 ys1 nm1 n1 cs1) hlt hat (Nat.zero_lt_succ 7) rfl rfl rfl rfl rfl rfl rfl rfl ?_
 exact hK.out):p:=e ⟨h⟩
theorem Lz {p:Prop} (e:p:=by
 refine PU ?_;refine MD ?_;refine EO (i:=i) (LO (by omega) hi) underlying73 gE (by omega) rfl rfl rfl rfl rfl rfl ?_;exact ar):p:=e
theorem F1 {p:Prop} (e:p:=by
 rcases Nat.lt_succ_iff_lt_or_eq.1 hi with h3|rfl
 ·exact hall i h3
 ·rw[List.getElem?_eq_getElem hlt,List.getElem?_eq_getElem hlt',he]):p:=e
theorem MY {p q:Prop} (h:q) (e:KH q->p:=by
 intro hK
 refine kU func70 ?_;refine gm ?_;refine Rj ?_;refine kB false ?_ ?_
 ·exact(by simp[e3])
 iterate 6 refine kO ?_
 refine kC (cs) ?_
 exact hK.out):p:=e ⟨h⟩
theorem My {p q:Prop} (h:q) (e:KH q->p:=by
 intro hK
 refine eU 5001 (m1:=0) (m2:=1) ac (by decide) (by decide) rfl rfl rfl rfl rfl rfl rfl rfl rfl rfl rfl (.nil rfl rfl) rfl rfl rfl ?_
 exact hK.out):p:=e ⟨h⟩
theorem IB {p q:Prop} (h:q) (e:KH q->p:=by
 intro hK
 refine am (iI (by omega) h2) rfl rfl rfl rfl rfl rfl rfl ?_
 exact hK.out):p:=e ⟨h⟩
theorem M1 {p q:Prop} (h:q) (e:KH q->p:=by
 intro hK
 refine Rl ?_;refine am (bg (decide_eq_false (show ¬(num b:Int)=1 by omega))) rfl rfl rfl rfl rfl rfl rfl ?_;refine kW ?_
 exact hK.out):p:=e ⟨h⟩
theorem MO {p:Prop} (e:p:=by
 refine SI ?_;generalize hz:w.take (w.length-k)++[46]++w.drop (w.length-k)=z;have hzB:=aw z;refine LF ?_;exact ar):p:=e
theorem L3 {p:Prop} (e:p:=by
 refine sU ?_;refine dm ?_;refine kC (fX) ?_;exact ar):p:=e
theorem Nu {p q:Prop} (h:q) (e:KH q->p:=by
 intro hK
 refine aP (i:=i) (cs':=ab o1 na1 xs1 nb1 ys1 nm1 n1 cs1) hlt hat (Nat.zero_lt_succ 6) rfl rfl rfl rfl rfl rfl rfl rfl ?_
 exact hK.out):p:=e ⟨h⟩
theorem Mw {p:Prop} (e:p:=by
 refine kB false ?_ ?_
 ·exact(by simp[h3])
 refine SW ?_;exact congrArg (fun b=>RV.one (dB b)) (by rw[<- hz];simp[h3])):p:=e
theorem L4 {p:Prop} (e:p:=by
 refine kB false ?_ ?_
 ·exact(by simp[h4])
 refine SW ?_;exact congrArg (fun b=>RV.one (dB b)) (by rw[<- hz];simp[h4])):p:=e
theorem LI {p:Prop} (e:p:=by
 refine kW ?_;refine am (fA sn (sp.mono (by omega)) (by omega) hp0 hq) rfl rfl rfl rfl rfl rfl rfl ?_;exact ar):p:=e
theorem Ff {p:Prop} (e:p:=by
 refine On ?_;refine kD (ct t (u::r4) a 0) ?_;refine kO ?_;refine kX ?_;refine kD (cy) ?_;exact jo):p:=e
theorem G3 {p:Prop} (e:p:=by
 refine GE ?_;refine gL (T:=TT) rfl ?_ ?_
 ·exact(H5.2 h0)
 refine SW ?_;rw[hcyc (hnN.trans h0)];rfl):p:=e
theorem Lu {p:Prop} (e:p:=by
 iterate 2 refine kG ?_
 refine kO ?_;refine kT ?_;exact ar):p:=e
theorem Nb {p:Prop} (e:p:=by
 split at h
 ·rename_i e1 r1 h1
  exact fun t ht=>gR f _ _ _ _ h1 t (gR f _ _ _ _ h t ht)
 ·exact mD):p:=e
theorem LZ {p:Prop} (e:p:=by
 rw[hev]at c3;refine kU func95 ?_;refine dm ?_;refine kQ (c2) ?_;refine kC (c3) ?_;exact ar):p:=e
theorem Mp {p:Prop} (e:p:=by
 refine aG ac cg func121 rfl rfl rfl rfl rfl (fJ) ?_;refine S8 ?_;refine Ko ?_;exact jo):p:=e
theorem TP {p:Prop} (e:p:=by
 refine kB false ?_ ?_
 ·exact(by simp[h])
 exact ar):p:=e
theorem TO {p:Prop} (e:p:=by
 refine kW ?_;exact⟨⟨_,rfl,rfl,rfl⟩,⟨rfl,trivial⟩⟩):p:=e
theorem T2 {p:Prop} (e:p:=by
 refine aG ac cg func78 rfl rfl rfl rfl rfl (fJ) ?_;refine S8 ?_;refine Ko ?_;exact jo):p:=e
theorem T1 {p:Prop} (e:p:=by
 refine E1 ?_;refine DH ?_;refine kZ (iU t r2 a 0) ?_;refine kD (cy) ?_;exact jo):p:=e
theorem T3 {p:Prop} (e:p:=by
 refine qE ?_;refine aD rfl rfl rfl rfl rfl rfl rfl (jH (a:=a) (b:=a) rfl) ?_;exact ar):p:=e
theorem T4 {p:Prop} (e:p:=by
 refine rP 703 ac rfl rfl rfl rfl rfl rfl rfl rfl ?_;refine G2 ?_;refine kW ?_;exact hR _ kw):p:=e
end
end Go.Proofs.YtnchbpoopnjghaaGreatDoor
