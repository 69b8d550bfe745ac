/- Tactic texts that stand more than once. -/
import Derived.Test.YtnchbpoopnjghaaGreatDoorQK
import Derived.KernelRfl
import Derived.IntWalk
import Derived.Laws.BytesArg
import Derived.Laws.Strings2
import Derived.Laws.IdiomStrings
import Derived.Lib.Bytealg
import Derived.Shelf.Strconv.AppendUint10
import Derived.Maps.OwnIn
import Derived.RangeFuncCalls
import Derived.LaidMore
import Derived.Lay
import Derived.Stop.Joined
import Derived.SevenTiedAt
import Derived.Lib.AtoiErrMem
import Derived.Shelf.Vars
import Derived.Lib.AppendStr
import Derived.MapKept
import Derived.Defers
import Derived.ChangeMaps5
import Derived.Lib.Split
import Derived.Lib.Join
import Derived.Lib.IndexLaws
import Derived.Lib.AtoiAll
import Derived.Sort.Walk0
import Derived.Lib.RowBridge
import Derived.Laws.MakeOwn
import Derived.Lib.SplitLaws
import Derived.Lib.AppendZerosOnto
import Derived.Lib.Overlaps
import Derived.HandedShaped
import Derived.LaidLaws
set_option maxHeartbeats 100000000
set_option linter.all false
namespace Go.Proofs.YtnchbpoopnjghaaGreatDoor
open Go.RowKit
section
open Go.ChangeShapes Go.WideShapes Go.ChangeAt Go.RowKit Go.Joins
open Go.RowKit Go.Shelf
open Go.Shelf Go.RowKit Go.Sort Go.Lib
open Go.Shelf Go.RowKit
open Go.RowKit Go.Joins
open Go.RowKit Go.Sort Go.Lib
open Go.RowKit Go.Lib
theorem aj {p:Prop} (e:p:=by
 exact kF):p:=e
theorem Vm {p:Prop} (e:p:=by
 refine kN ?_
 repeat refine bu (T:=TT) ?_
 refine dX (T:=TT) rfl ?_;refine dp ?_
 repeat refine bu (T:=TT) ?_
 refine dh (s1:=⟨[(8,qV ([]:List Rat)),(1, .d (da l)),(2, .box 0 0),(6, .box 3006 0),(9, .d (dN .i64 i)),(10, .box 8010 0)],[(7001,qX ([]:List Rat)),(0,some (cC k ps cs vs s)),(3006,some [.val (vL nm), .val (.int .i64 rp), .val (.int .i64 rc), .val (.int .i64 rn), .val (.int .i64 rv), .val (.int .i64 rq), .val (.bool rs)]),(8010,some [.val (.bool na2),aW xs2, .val (.bool nb2),aW ys2, .val (.int .i64 p)])]⟩) kw rfl ?_;refine kW ?_;refine Qg ?_;refine⟨(i+1,([]:List Rat)++[q]),⟨hlt,hs2,by rw[L_];exact Nat.succ_le_succ hql⟩,by dsimp only;omega,?_⟩
 show aM _ ⟨[(8,qV (([]:List Rat)++[q])),(1, .d (da l)),(2, .box 0 0),(6, .box 3006 0),(9, .d (dN .i64 (i+1:Nat)))],[(7001,qX (([]:List Rat)++[q])),(0,some (cC k ps cs vs s)),(3006,some [.val (vL nm), .val (.int .i64 rp), .val (.int .i64 rc), .val (.int .i64 rn), .val (.int .i64 rv), .val (.int .i64 rq), .val (.bool rs)])]⟩;rw[wE,xX,hQ]
 exact aM.trans (b:=⟨[(8, .own 7003 (([]:List Rat).length+1) 4 38),(1, .d (da l)),(2, .box 0 0),(6, .box 3006 0),(9, .d (dN .i64 (i+1:Nat)))],[(7003,some ((A2 ([]:List Rat)).take (([]:List Rat).length*4)++[.val (.bool na2),aW xs2, .val (.bool nb2),aW ys2])),(0,some (cC k ps cs vs s)),(3006,some [.val (vL nm), .val (.int .i64 rp), .val (.int .i64 rc), .val (.int .i64 rn), .val (.int .i64 rv), .val (.int .i64 rq), .val (.bool rs)])]⟩) (weak ⟨rfl,rfl,rfl,rfl,ai O_ O_,trivial⟩ ⟨rfl,rfl,rfl,trivial⟩ rfl) ((aD (q:=8) (j:=7003) (j':=7001) rfl rfl rfl rfl).trans kw)):p:=e
theorem Vv {p:Prop} (e:p:=by
 refine kN ?_
 repeat refine bu (T:=TT) ?_
 refine dX (T:=TT) rfl ?_;refine dp ?_
 repeat refine bu (T:=TT) ?_
 refine dh (s1:=⟨[(8,qV (q0::qr)),(1, .d (da l)),(2, .box 0 0),(6, .box 3006 0),(9, .d (dN .i64 i)),(10, .box 8010 0)],[(7001,qX (q0::qr)),(0,some (cC k ps cs vs s)),(3006,some [.val (vL nm), .val (.int .i64 rp), .val (.int .i64 rc), .val (.int .i64 rn), .val (.int .i64 rv), .val (.int .i64 rq), .val (.bool rs)]),(8010,some [.val (.bool na2),aW xs2, .val (.bool nb2),aW ys2, .val (.int .i64 p)])]⟩) kw rfl ?_;refine kW ?_;refine OP ?_;refine⟨(i+1,(q0::qr)++[q]),⟨hlt,hs2,by rw[L_];exact Nat.succ_le_succ hql⟩,by dsimp only;omega,?_⟩
 show aM _ ⟨[(8,qV ((q0::qr)++[q])),(1, .d (da l)),(2, .box 0 0),(6, .box 3006 0),(9, .d (dN .i64 (i+1:Nat)))],[(7001,qX ((q0::qr)++[q])),(0,some (cC k ps cs vs s)),(3006,some [.val (vL nm), .val (.int .i64 rp), .val (.int .i64 rc), .val (.int .i64 rn), .val (.int .i64 rv), .val (.int .i64 rq), .val (.bool rs)])]⟩;rw[wE,xX,hQ]
 exact aM.trans (b:=⟨[(8, .own 7003 ((q0::qr).length+1) 4 38),(1, .d (da l)),(2, .box 0 0),(6, .box 3006 0),(9, .d (dN .i64 (i+1:Nat)))],[(7003,some ((A2 (q0::qr)).take ((q0::qr).length*4)++[.val (.bool na2),aW xs2, .val (.bool nb2),aW ys2])),(0,some (cC k ps cs vs s)),(3006,some [.val (vL nm), .val (.int .i64 rp), .val (.int .i64 rc), .val (.int .i64 rn), .val (.int .i64 rv), .val (.int .i64 rq), .val (.bool rs)])]⟩) (weak ⟨rfl,rfl,rfl,rfl,ai O_ O_,trivial⟩ ⟨rfl,rfl,rfl,trivial⟩ rfl) ((aD (q:=8) (j:=7003) (j':=7001) rfl rfl rfl rfl).trans kw)):p:=e
theorem vi {p q:Prop} (h:q) (e:KH q->p:=by
 intro hK
 refine aH (i:=i) (cs':=bV p.1 o1 na1 xs1 nb1 ys1 nm1 n1 cs1) hlt hat (Z_ 7) rfl rfl rfl rfl rfl rfl rfl rfl ?_
 exact hK.out):p:=e ⟨h⟩
theorem Ee {p q:Prop} (h:q) (e:KH q->p:=by
 intro hK
 refine kW ?_;refine aH (i:=0) (cs':=ab o1 na1 xs1 nb1 ys1 nm1 n1 cs1) D_ (mH _ _) (Z_ 6) rfl rfl rfl rfl rfl rfl rfl rfl ?_
 exact hK.out):p:=e ⟨h⟩
theorem SG {p q:Prop} (h:q) (e:KH q->p:=by
 intro hK
 refine kW ?_;refine aH (i:=1) (cs':=ab o2 na2 xs2 nb2 ys2 nm2 n2 cs2) D_ (nj _ rfl) (Z_ 6) rfl rfl rfl rfl rfl rfl rfl rfl ?_
 exact hK.out):p:=e ⟨h⟩
theorem E7 {p q:Prop} (h:q) (e:KH q->p:=by
 intro hK
 refine kW ?_;refine QL ?_
 exact hK.out):p:=e ⟨h⟩
theorem eH {p q:Prop} (h:q) (e:KH q->p:=by
 intro hK
 refine kW ?_;refine bK (T:=TT) rfl ?_
 exact hK.out):p:=e ⟨h⟩
theorem gy {p q:Prop} (h:q) (e:KH q->p:=by
 intro hK
 refine kR ?_;refine kI ?_;refine kO ?_
 exact hK.out):p:=e ⟨h⟩
theorem Vr {p:Prop} (e:p:=by
 refine Nf O_ ?_ O_ ?_
 ·first
   |(simp[hcn,K_,c8,hd,VP,hdr,List.take_append,List.take_take];done)
   |(simp[hcn,K_,c8,hd,VP,hdr,List.take_append,List.take_take,Nat.min_eq_left hple];done)
   |(simp[hcn,K_,c8,hd,VP,hdr,List.take_append,List.take_take,Nat.min_eq_left hple];omega)
 ·first
   |(simp[hc,K_,OV,VQ,hdr5,List.take_append,List.take_take];done)
   |(simp[hc,K_,OV,VQ,hdr5,List.take_append,List.take_take,Nat.min_eq_left (P_ 5 hple)];done)
   |(simp[hc,K_,OV,VQ,hdr5,List.take_append,List.take_take,Nat.min_eq_left (P_ 5 hple),Nat.add_mul,Nat.add_sub_cancel_left];done)):p:=e
theorem xx {p q:Prop} (h:q) (e:KH q->p:=by
 intro hK
 refine kW ?_;refine kQ (ih) ?_;refine ON ?_;refine kW ?_
 exact hK.out):p:=e ⟨h⟩
theorem Wc {p q:Prop} (h:q) (e:KH q->p:=by
 intro hK
 refine ON ?_;refine kW ?_
 exact hK.out):p:=e ⟨h⟩
theorem d9 {p:Prop} (e:p:=by
 refine kW ?_;exact⟨⟨_,rfl,rfl⟩,⟨rfl,trivial⟩⟩):p:=e
theorem nt {p q:Prop} (h:q) (e:KH q->p:=by
 intro hK
 repeat(first|refine bu (T:=TT) ?_|refine cX (T:=TT) ?_)
 refine bG (T:=TT) rfl ?_
 exact hK.out):p:=e ⟨h⟩
theorem iQ {p q:Prop} (h:q) (e:KH q->p:=by
 intro hK
 refine kW ?_;refine kQ (c1) ?_
 exact hK.out):p:=e ⟨h⟩
theorem S2 {p:Prop} (e:p:=by
 refine kO2 ?_
 refine kJ ((i+j:Nat)) ?_;refine cU (v':= .int .u64 ((i+j:Nat))) rfl rfl rfl rfl ?_ ?_
 ·exact congrArg (Value.int .u64) (by show IntKind.u64.wrap ((i+j:Nat):Int)=_;rw[IntWalk.u64_in _ O_])
 refine cU (v':= .int .u64 (((i+j)/2:Nat))) rfl rfl rfl rfl ?_ ?_
 ·exact congrArg (Value.int .u64) (by show Int.fdiv ((i+j:Nat):Int) 2=_;rw[Int.fdiv_eq_ediv_of_nonneg _ D_];rfl)
 refine cU (v':= .int .i64 (((i+j)/2:Nat))) rfl rfl rfl rfl ?_ ?_
 ·exact congrArg (Value.int .i64) (by show IntKind.i64.wrap (((i+j)/2:Nat):Int)=_;rw[IntWalk.i64_in _ O_])
 have hm:(i+j)/2<l.length:=O_
 refine Exists.elim (Exists.intro _ rfl:∃m,(i+j)/2=m) fun m hme=>?_
 rw[hme]at hm ⊢;have hx:l[m]? =some l[m]:=by simp[hm]
 refine kN ?_;refine kI ?_
 refine kO2 ?_
 refine aH (i:=m) (cs':=[.val (vL l[m].1)]) hm (Ll hx) S_ rfl rfl rfl rfl rfl rfl rfl rfl ?_
 refine kO2 ?_
 refine kC (Mp l[m].1 s) ?_;refine kN ?_;cases hb2:Op.bytesLess l[m].1 s
 ·refine kW ?_
  have hpm:p<=m:=by
   rcases Nat.lt_or_ge m p with h|h
   ·have:=hp2 m _ h hx;rw[hb2]at this;cases this
   ·exact h
  exact⟨(i,m),⟨h1,hpm,by dsimp only;omega⟩,by dsimp only;omega,weak ⟨rfl,rfl,rfl,rfl,rfl,rfl,rfl,trivial⟩ trivial rfl⟩
 ·refine kW ?_
  have hmp:m<p:=by
   rcases Nat.lt_or_ge m p with h|h
   ·exact h
   ·have:=hp3 m _ h hx;rw[hb2]at this;cases this
  exact⟨(m+1,j),⟨hmp,h2,h3⟩,by dsimp only;omega,weak ⟨rfl,rfl,rfl,rfl,rfl,ai O_ O_,rfl,trivial⟩ trivial rfl⟩):p:=e
theorem jP {p q:Prop} (h:q) (e:KH q->p:=by
 intro hK
 refine kN ?_;refine bu (T:=TT) ?_;refine dX (T:=TT) rfl ?_;refine iA ?_
 exact hK.out):p:=e ⟨h⟩
theorem yg {p q:Prop} (h:q) (e:KH q->p:=by
 intro hK
 refine kN ?_;refine kI ?_;refine kO ?_;refine kB true ?_ ?_
 ·exact(by simpa using hz)
 exact hK.out):p:=e ⟨h⟩
theorem RE {p q:Prop} (h:q) (e:KH q->p:=by
 intro hK
 refine Dg ?_;refine ct ⟨[(1, .d (eU l)),(2, .d (fF l)),(3, .box 0 0),(6, .box 1 0),(7, .d (dN .i64 0)),(12, .nil),(72, .d (.leaf (.sl 2 (ab o1 na1 xs1 nb1 ys1 nm1 n1 cs1++ab o2 na2 xs2 nb2 ys2 nm2 n2 cs2)))),(73, .d (dN .i64 2)),(74, .d (dN .i64 0))],[(0,some ([.val (.int .i64 (B4.add).code)]++jq++[.val (vL []), .sl 2 (ab o1 na1 xs1 nb1 ys1 nm1 n1 cs1++ab o2 na2 xs2 nb2 ys2 nm2 n2 cs2)])),(1,some ia)]⟩ kw ?_
 exact hK.out):p:=e ⟨h⟩
theorem RG {p q:Prop} (h:q) (e:KH q->p:=by
 intro hK
 refine Dg ?_;refine ct ⟨[(1, .d (eU l)),(2, .d (fF l)),(3, .box 0 0),(6, .box 1 0),(7, .d (dN .i64 0)),(12, .nil),(72, .d (.leaf (.sl 2 (ab o1 na1 xs1 nb1 ys1 nm1 n1 cs1++ab o2 na2 xs2 nb2 ys2 nm2 n2 cs2)))),(73, .d (dN .i64 2)),(74, .d (dN .i64 0))],[(0,some ([.val (.int .i64 (B4.div).code)]++jq++[.val (vL []), .sl 2 (ab o1 na1 xs1 nb1 ys1 nm1 n1 cs1++ab o2 na2 xs2 nb2 ys2 nm2 n2 cs2)])),(1,some ia)]⟩ kw ?_
 exact hK.out):p:=e ⟨h⟩
theorem Rt {p q:Prop} (h:q) (e:KH q->p:=by
 intro hK
 refine Dg ?_;refine ct ⟨[(1, .d (eU l)),(2, .d (fF l)),(3, .box 0 0),(6, .box 1 0),(7, .d (dN .i64 0)),(12, .nil),(72, .d (.leaf (.sl 2 (ab o1 na1 xs1 nb1 ys1 nm1 n1 cs1++ab o2 na2 xs2 nb2 ys2 nm2 n2 cs2)))),(73, .d (dN .i64 2)),(74, .d (dN .i64 0))],[(0,some ([.val (.int .i64 (B4.mul).code)]++jq++[.val (vL []), .sl 2 (ab o1 na1 xs1 nb1 ys1 nm1 n1 cs1++ab o2 na2 xs2 nb2 ys2 nm2 n2 cs2)])),(1,some ia)]⟩ kw ?_
 exact hK.out):p:=e ⟨h⟩
theorem Q2 {p q:Prop} (h:q) (e:KH q->p:=by
 intro hK
 refine Dg ?_;refine ct ⟨[(1, .d (eU l)),(2, .d (fF l)),(3, .box 0 0),(6, .box 1 0),(7, .d (dN .i64 0)),(12, .nil),(72, .d (.leaf (.sl 2 (ab o1 na1 xs1 nb1 ys1 nm1 n1 cs1++ab o2 na2 xs2 nb2 ys2 nm2 n2 cs2)))),(73, .d (dN .i64 2)),(74, .d (dN .i64 0))],[(0,some ([.val (.int .i64 (B4.sub).code)]++jq++[.val (vL []), .sl 2 (ab o1 na1 xs1 nb1 ys1 nm1 n1 cs1++ab o2 na2 xs2 nb2 ys2 nm2 n2 cs2)])),(1,some ia)]⟩ kw ?_
 exact hK.out):p:=e ⟨h⟩
theorem Tp {p:Prop} (e:p:=by
 rintro j ⟨hj,hall⟩;refine kW ?_;refine ir rfl (fun h=>?_) (fun h=>?_)
 ·have hlt:j<xs.length:=by have:=h_ h;omega
  have hlt':j<ys.length:=O_
  refine kW ?_;refine aH (cs':=[AV.val (bZ xs[j])]) hlt (PA (by simp[hlt])) (m_ 0) rfl rfl rfl rfl rfl rfl rfl rfl ?_;refine kW ?_;refine aH (cs':=[AV.val (bZ ys[j])]) hlt' (PA (by simp[hlt'])) (m_ 0) rfl rfl rfl rfl rfl rfl rfl rfl ?_;refine kW ?_;refine ir rfl (fun h2=>?_) (fun h2=>?_)
  ·refine kW ?_
   have hne:xs[j]≠ys[j]:=fun e=>by rw[e]at h2;simp at h2
   rw[yR (fun e=>hne (by subst e;rfl))];exact bK (T:=TT) rfl rfl
  ·have heq:xs[j]=ys[j]:=by simp at h2;omega
   refine kW ?_;refine⟨j+1,⟨hlt,fun i hi=>?_⟩,by omega,weak ⟨rfl,rfl,?_,trivial⟩ ⟨rfl,rfl,trivial⟩ rfl⟩
   ·rcases Nat.lt_succ_iff_lt_or_eq.1 hi with h3|rfl
    ·exact hall i h3
    ·rw[Q_ hlt,Q_ hlt',heq]
   ·exact ai O_ O_
 ·have hge:j=xs.length:=by have:=of_decide_eq_false h;omega
  refine iA ?_;refine kW ?_
  have he:xs=ys:=by
   apply List.ext_getElem? fun i=>?_
   by_cases hi:i<xs.length
   ·exact hall i O_
   ·rw[List.getElem?_eq_none O_,List.getElem?_eq_none O_]
  rw[th he];exact bK (T:=TT) rfl rfl):p:=e
theorem Mx {p q:Prop} (h:q) (e:KH q->p:=by
 intro hK
 refine kW ?_;refine kQ (ih') ?_;refine ek 5002 (m1:=1) (m2:=1) af D_ D_ rfl rfl rfl rfl rfl rfl rfl rfl rfl rfl rfl (.own rfl rfl) rfl rfl rfl ?_;refine kW ?_
 exact hK.out):p:=e ⟨h⟩
theorem Us {p q:Prop} (h:q) (e:KH q->p:=by
 intro hK
 refine kW ?_;refine mC (i:=0) D_ rfl rfl rfl rfl rfl rfl rfl rfl rfl ?_
 refine kO2 ?_
 refine mC (i:=1) D_ rfl rfl rfl rfl rfl rfl rfl rfl rfl ?_;refine kO ?_
 exact hK.out):p:=e ⟨h⟩
theorem T4 {p:Prop} (e:p:=by
 refine Pd ?_;rw[<- htx]at h3
 refine kO3 ?_
 refine ek 13002 (m1:=(a::r).length) (m2:=1) af D_ (by show((a::r).length+1)*32<=_;omega) rfl rfl rfl rfl rfl rfl rfl rfl rfl rfl rfl (.own rfl rfl) rfl rfl rfl ?_;refine kW ?_
 exact⟨(i+n,(a::r)++[(k,(s.take (i+n)).drop i,i)]),⟨by dsimp only;omega,by rw[L_];dsimp only[List.length_cons,List.length_nil]at h2 ⊢;omega,f,by dsimp only;omega,h3⟩,by dsimp only;omega,by
  exact Eq.mpr (congrArg (aM _) (D1 s (a::r) (k,(s.take (i+n)).drop i,i) (i+n))) (aM.trans (b:=⟨[(0, .d (dL s)),(2, .nil),(3, .d (dN .i64 0)),(4, .d (dN .i64 0)),(5, .own 13002 ((a::r).length+1) 3 118),(6, .d (dN .i64 ((i+n:Nat))))],[(13002,some ((gx (a::r)).take ((a::r).length*3)++AM (k,(s.take (i+n)).drop i,i)))]⟩) (weak ⟨rfl,rfl,rfl,rfl,rfl,ai O_ O_,trivial⟩ ⟨rfl,trivial⟩ rfl) ((aD (q:=5) (j:=13002) (j':=13001) (m:=(a::r).length+1) (k:=3) (e:=118) (cs:=(gx (a::r)).take ((a::r).length*3)++AM (k,(s.take (i+n)).drop i,i)) rfl rfl rfl rfl).trans kw))⟩):p:=e
theorem MU {p q:Prop} (h:q) (e:KH q->p:=by
 intro hK
 refine Qd ?_
 refine kO4 ?_
 refine iT ((c2.rd (ts:=[.d (.agg (bV p.1 o1 na1 xs1 nb1 ys1 nm1 n1 cs1)), .own 6001 (List.cons a r).length 1 9]) (b:=[(6001,av (List.cons a r))]) rfl rfl)) rfl rfl rfl rfl rfl ⟨rfl,trivial⟩ rfl rfl rfl rfl ?_
 exact hK.out):p:=e ⟨h⟩
theorem lC {p q:Prop} (h:q) (e:KH q->p:=by
 intro hK
 refine kN ?_;refine kI ?_;refine kO ?_
 exact hK.out):p:=e ⟨h⟩
theorem Tj {p:Prop} (e:p:=by
 refine Pd ?_;rw[<- htx]at h3
 refine kO3 ?_
 refine ek 13002 (m1:=0) (m2:=1) af D_ D_ rfl rfl rfl rfl rfl rfl rfl rfl rfl rfl rfl (.nil rfl rfl) rfl rfl rfl ?_;refine kW ?_
 exact⟨(i+n,[]++[(k,(s.take (i+n)).drop i,i)]),⟨by dsimp only;omega,by simp;omega,f,by dsimp only;omega,h3⟩,by dsimp only;omega,by
  exact Eq.mpr (congrArg (aM _) (D1 s ([]:List Tk) (k,(s.take (i+n)).drop i,i) (i+n))) (aM.trans (b:=⟨[(0, .d (dL s)),(2, .nil),(3, .d (dN .i64 0)),(4, .d (dN .i64 0)),(5, .own 13002 (([]:List Tk).length+1) 3 118),(6, .d (dN .i64 ((i+n:Nat))))],[(13002,some ((gx ([]:List Tk)).take (([]:List Tk).length*3)++AM (k,(s.take (i+n)).drop i,i)))]⟩) (weak ⟨rfl,rfl,rfl,rfl,rfl,ai O_ O_,trivial⟩ ⟨rfl,trivial⟩ rfl) ((aD (q:=5) (j:=13002) (j':=13001) (m:=([]:List Tk).length+1) (k:=3) (e:=118) (cs:=(gx ([]:List Tk)).take (([]:List Tk).length*3)++AM (k,(s.take (i+n)).drop i,i)) rfl rfl rfl rfl).trans kw))⟩):p:=e
theorem U4 {p q:Prop} (h:q) (e:KH q->p:=by
 intro hK
 refine kO4 ?_
 refine kJ ((w.length-k:Nat)) ?_;refine PX af (l:=w) (i:=w.length-k) O_ rfl rfl rfl rfl rfl rfl rfl rfl ?_;refine ax rfl rfl rfl rfl rfl rfl rfl (dG (a:=w.take (w.length-k)) (b:=[46]) (by simp;omega)) ?_
 refine kO4 ?_
 refine kJ ((w.length-k:Nat)) ?_;refine zi af (l:=w) (i:=w.length-k) O_ rfl rfl rfl rfl rfl rfl rfl rfl ?_;refine ax rfl rfl rfl rfl rfl rfl rfl (dG (a:=w.take (w.length-k)++[46]) (b:=w.drop (w.length-k)) (by simp;omega)) ?_
 exact hK.out):p:=e ⟨h⟩
theorem uD {p q:Prop} (h:q) (e:KH q->p:=by
 intro hK
 refine kB false ?_ ?_
 ·exact(by simp;omega)
 exact hK.out):p:=e ⟨h⟩
theorem Th {p q:Prop} (h:q) (e:KH q->p:=by
 intro hK
 refine kW ?_;refine ac (gN (h.1.fit O_) (h'.2.fit O_) hgz) rfl rfl rfl rfl rfl rfl rfl ?_;refine kW ?_;refine ac (gN (h'.1.fit O_) (h.2.fit O_) htz) rfl rfl rfl rfl rfl rfl rfl ?_;refine kW ?_;refine ac (di (h.1.fit O_) (sg.fit O_) O_ (mG _ _)) rfl rfl rfl rfl rfl rfl rfl ?_;refine kW ?_;refine ac (di (h'.1.fit O_) (st.fit O_) O_ (mG _ _)) rfl rfl rfl rfl rfl rfl rfl ?_;refine kW ?_;refine ac (dt (s1.fit O_) (s2.fit O_)) rfl rfl rfl rfl rfl rfl rfl ?_;refine kW ?_;refine ac (di (h.2.fit O_) (st.fit O_) O_ (nO _ _)) rfl rfl rfl rfl rfl rfl rfl ?_;refine kW ?_
 refine ac (di (h'.2.fit O_) (sg.fit O_) O_ (nO _ _)) rfl rfl rfl rfl rfl rfl rfl ?_;refine kW ?_;refine ac (dt (s3.fit O_) (s4.fit O_)) rfl rfl rfl rfl rfl rfl rfl ?_
 exact hK.out):p:=e ⟨h⟩
theorem Ut {p q:Prop} (h:q) (e:KH q->p:=by
 intro hK
 refine ct ⟨[(1, .d (eU l)),(2, .d (fF l)),(3, .box 0 0),(6, .box 1 0),(7, .d (dN .i64 0)),(12, .own 5001 1 5 92),(72, .d (.leaf (.sl 2 (ab o1 na1 xs1 nb1 ys1 nm1 n1 cs1++ab o2 na2 xs2 nb2 ys2 nm2 n2 cs2)))),(73, .d (dN .i64 2)),(74, .d (dN .i64 1))],[(0,some ([.val (.int .i64 (B4.add).code)]++jq++[.val (vL []), .sl 2 (ab o1 na1 xs1 nb1 ys1 nm1 n1 cs1++ab o2 na2 xs2 nb2 ys2 nm2 n2 cs2)])),(1,some ia),(5001,some (j5 x.1 x.2))]⟩ kw ?_
 exact hK.out):p:=e ⟨h⟩
theorem Ts {p q:Prop} (h:q) (e:KH q->p:=by
 intro hK
 refine ct ⟨[(1, .d (eU l)),(2, .d (fF l)),(3, .box 0 0),(6, .box 1 0),(7, .d (dN .i64 0)),(12, .own 5001 1 5 92),(72, .d (.leaf (.sl 2 (ab o1 na1 xs1 nb1 ys1 nm1 n1 cs1++ab o2 na2 xs2 nb2 ys2 nm2 n2 cs2)))),(73, .d (dN .i64 2)),(74, .d (dN .i64 1))],[(0,some ([.val (.int .i64 (B4.div).code)]++jq++[.val (vL []), .sl 2 (ab o1 na1 xs1 nb1 ys1 nm1 n1 cs1++ab o2 na2 xs2 nb2 ys2 nm2 n2 cs2)])),(1,some ia),(5001,some (j5 x.1 x.2))]⟩ kw ?_
 exact hK.out):p:=e ⟨h⟩
theorem Ud {p q:Prop} (h:q) (e:KH q->p:=by
 intro hK
 refine ct ⟨[(1, .d (eU l)),(2, .d (fF l)),(3, .box 0 0),(6, .box 1 0),(7, .d (dN .i64 0)),(12, .own 5001 1 5 92),(72, .d (.leaf (.sl 2 (ab o1 na1 xs1 nb1 ys1 nm1 n1 cs1++ab o2 na2 xs2 nb2 ys2 nm2 n2 cs2)))),(73, .d (dN .i64 2)),(74, .d (dN .i64 1))],[(0,some ([.val (.int .i64 (B4.mul).code)]++jq++[.val (vL []), .sl 2 (ab o1 na1 xs1 nb1 ys1 nm1 n1 cs1++ab o2 na2 xs2 nb2 ys2 nm2 n2 cs2)])),(1,some ia),(5001,some (j5 x.1 x.2))]⟩ kw ?_
 exact hK.out):p:=e ⟨h⟩
theorem T6 {p q:Prop} (h:q) (e:KH q->p:=by
 intro hK
 refine ct ⟨[(1, .d (eU l)),(2, .d (fF l)),(3, .box 0 0),(6, .box 1 0),(7, .d (dN .i64 0)),(12, .own 5001 1 5 92),(72, .d (.leaf (.sl 2 (ab o1 na1 xs1 nb1 ys1 nm1 n1 cs1++ab o2 na2 xs2 nb2 ys2 nm2 n2 cs2)))),(73, .d (dN .i64 2)),(74, .d (dN .i64 1))],[(0,some ([.val (.int .i64 (B4.sub).code)]++jq++[.val (vL []), .sl 2 (ab o1 na1 xs1 nb1 ys1 nm1 n1 cs1++ab o2 na2 xs2 nb2 ys2 nm2 n2 cs2)])),(1,some ia),(5001,some (j5 x.1 x.2))]⟩ kw ?_
 exact hK.out):p:=e ⟨h⟩
theorem qz {p q:Prop} (h:q) (e:KH q->p:=by
 intro hK
 refine kW ?_;refine d4 (T:=TT) rfl ?_ ?_
 ·exact F_ O_
 exact hK.out):p:=e ⟨h⟩
theorem jM {p q:Prop} (h:q) (e:KH q->p:=by
 intro hK
 refine kI ?_;refine kX ?_
 exact hK.out):p:=e ⟨h⟩
theorem T8 {p q:Prop} (h:q) (e:KH q->p:=by
 intro hK
 refine kO2 ?_
 refine iT ((c1.rd (ts:=[.own 5001 (List.cons a r).length 1 9, .d (dL p.1)]) (b:=[(5001,av (List.cons a r))]) rfl rfl)) rfl rfl rfl rfl rfl ⟨rfl,trivial⟩ rfl rfl rfl rfl ?_
 exact hK.out):p:=e ⟨h⟩
theorem M4 {p q:Prop} (h:q) (e:KH q->p:=by
 intro hK
 refine kO ?_;refine kC (c1) ?_
 iterate 2 refine kG ?_
 refine kO2 ?_
 refine kB true ?_ ?_
 ·exact(by simp[hp0])
 refine kO3 ?_
 refine kB false ?_ ?_
 ·exact(by simp[hp1])
 refine kO3 ?_
 refine kE ?_;refine kG ?_
 refine kO2 ?_
 exact hK.out):p:=e ⟨h⟩
theorem GJ {p q:Prop} (h:q) (e:KH q->p:=by
 intro hK
 refine kW ?_;refine aH (i:=0) (cs':=ab o1 na1 xs1 nb1 ys1 nm1 n1 cs1) D_ (LE _) (Z_ 6) rfl rfl rfl rfl rfl rfl rfl rfl ?_
 exact hK.out):p:=e ⟨h⟩
theorem g8 {p q:Prop} (h:q) (e:KH q->p:=by
 intro hK
 refine kV func87 ?_
 exact hK.out):p:=e ⟨h⟩
theorem jU {p q:Prop} (h:q) (e:KH q->p:=by
 intro hK
 refine kN ?_;refine kI ?_
 refine kO3 ?_
 exact hK.out):p:=e ⟨h⟩
theorem RH {p q:Prop} (h:q) (e:KH q->p:=by
 intro hK
 refine aP af dx func229 rfl rfl rfl rfl rfl (gk) ?_;refine kW ?_;refine kD (dA t r2 a 0) ?_;refine kO ?_;refine kY ?_;refine kD (dA t r2 a 0) ?_;refine kO ?_;refine kY ?_;refine kZ (cis) ?_;refine kZ (jk t r2 a 0) ?_;refine kZ (cy) ?_;refine kZ (cis2) ?_
 exact hK.out):p:=e ⟨h⟩
theorem Cy {p q:Prop} (h:q) (e:KH q->p:=by
 intro hK
 refine kO ?_;refine kY ?_
 exact hK.out):p:=e ⟨h⟩
theorem Ss {p q:Prop} (h:q) (e:KH q->p:=by
 intro hK
 refine kO2 ?_
 refine kY ?_
 exact hK.out):p:=e ⟨h⟩
theorem Uj {p q:Prop} (h:q) (e:KH q->p:=by
 intro hK
 refine Oa ?_;refine ac (bP (T_ O_)) rfl rfl rfl rfl rfl rfl rfl ?_;refine kW ?_;refine ac (dt (h.1.fit O_) (h'.2.fit O_)) rfl rfl rfl rfl rfl rfl rfl ?_;refine kW ?_;refine ac (dt (h'.1.fit O_) (h.2.fit O_)) rfl rfl rfl rfl rfl rfl rfl ?_;refine kW ?_;refine ac (jf ((h.1.mul h'.2).fit O_) ((h'.1.mul h.2).fit O_)) rfl rfl rfl rfl rfl rfl rfl ?_;refine kW ?_;refine ac (dt (h.2.fit O_) (h'.2.fit O_)) rfl rfl rfl rfl rfl rfl rfl ?_
 exact hK.out):p:=e ⟨h⟩
theorem CC {p q:Prop} (h:q) (e:KH q->p:=by
 intro hK
 refine bu ?_;refine bG rfl ?_
 exact hK.out):p:=e ⟨h⟩
theorem LK {p q:Prop} (h:q) (e:KH q->p:=by
 intro hK
 refine kO3 ?_
 refine kC (ih) ?_
 exact hK.out):p:=e ⟨h⟩
theorem IH {p q:Prop} (h:q) (e:KH q->p:=by
 intro hK
 refine kW ?_;refine kC (rE) ?_
 refine kO3 ?_
 refine ax rfl rfl rfl rfl rfl rfl rfl (aU (a:=[]) (b:=[]) rfl) ?_;refine kW ?_;refine kC (c) ?_
 exact hK.out):p:=e ⟨h⟩
theorem VJ {p q:Prop} (h:q) (e:KH q->p:=by
 intro hK
 refine kO2 ?_
 refine kC (cn) ?_;refine iT ((c2.rd (ts:=[.own 5001 (List.cons a r).length 1 9, .d (lS ns)]) (b:=[(5001,av (List.cons a r))]) rfl rfl)) rfl rfl rfl rfl rfl ⟨rfl,trivial⟩ rfl rfl rfl rfl ?_
 exact hK.out):p:=e ⟨h⟩
theorem Sd {p q:Prop} (h:q) (e:KH q->p:=by
 intro hK
 refine aH (i:=k) (cs':=bV q.1 o2 na2 xs2 nb2 ys2 nm2 n2 cs2) hkl hat2 (Z_ 7) rfl rfl rfl rfl rfl rfl rfl rfl ?_
 exact hK.out):p:=e ⟨h⟩
theorem qv {p q:Prop} (h:q) (e:KH q->p:=by
 intro hK
 refine kI ?_
 refine kO4 ?_
 refine kT ?_
 exact hK.out):p:=e ⟨h⟩
theorem pr {p q:Prop} (h:q) (e:KH q->p:=by
 intro hK
 refine kR ?_;refine kI ?_
 refine kO2 ?_
 exact hK.out):p:=e ⟨h⟩
theorem U6 {p q:Prop} (h:q) (e:KH q->p:=by
 intro hK
 refine kW ?_;refine ac (dM (h.1.fit O_) (h'.2.fit O_)) rfl rfl rfl rfl rfl rfl rfl ?_;refine kW ?_;refine ac (dM (h'.1.fit O_) (h.2.fit O_)) rfl rfl rfl rfl rfl rfl rfl ?_;refine kW ?_;refine ac (oV ((h.1.mul h'.2).fit O_) ((h'.1.mul h.2).fit O_)) rfl rfl rfl rfl rfl rfl rfl ?_;refine kW ?_;refine ac (dM (h.2.fit O_) (h'.2.fit O_)) rfl rfl rfl rfl rfl rfl rfl ?_;refine kW ?_;refine ac (f4 (k:=j+k+1) ((h.1.mul h'.2).add ((h'.1.mul h.2).mono O_)) ((h.2.mul h'.2).mono O_) hk d0 (mt a b)) rfl rfl rfl rfl rfl rfl rfl ?_
 exact hK.out):p:=e ⟨h⟩
theorem UA {p q:Prop} (h:q) (e:KH q->p:=by
 intro hK
 refine Lb ?_;refine KA ?_;refine kW ?_;refine ac (dj (F_ (show ¬(num b:Int)=0 by omega))) rfl rfl rfl rfl rfl rfl rfl ?_;refine kW ?_
 exact hK.out):p:=e ⟨h⟩
theorem R9 {p q:Prop} (h:q) (e:KH q->p:=by
 intro hK
 refine kC (cl) ?_;refine kO ?_;refine kB false ?_ ?_
 ·exact F_ (by show ¬((4:Nat):Int)<_;omega)
 refine kW ?_
 exact hK.out):p:=e ⟨h⟩
theorem u6 {p q:Prop} (h:q) (e:KH q->p:=by
 intro hK
 refine kO3 ?_
 refine kT ?_
 refine kO3 ?_
 exact hK.out):p:=e ⟨h⟩
theorem MZ {p q:Prop} (h:q) (e:KH q->p:=by
 intro hK
 refine kO3 ?_
 refine ax rfl rfl rfl rfl rfl rfl rfl (bC (a:=nx) (b:=[]) h0) ?_
 refine kO4 ?_
 refine ax rfl rfl rfl rfl rfl rfl rfl (Bt (a:=p.1) (b:=nx) hls) ?_;refine kW ?_
 exact hK.out):p:=e ⟨h⟩
theorem H5 {p q:Prop} (h:q) (e:KH q->p:=by
 intro hK
 refine kO2 ?_
 refine aH (i:=i) (cs':=[.val (vL x)]) hlt (ef hxx) (m_ 0) rfl rfl rfl rfl rfl rfl rfl rfl ?_;refine kO ?_
 exact hK.out):p:=e ⟨h⟩
theorem UE {p q:Prop} (h:q) (e:KH q->p:=by
 intro hK
 refine kX ?_;refine Jg af (show i<=c by omega) rfl rfl rfl rfl rfl rfl rfl rfl rfl ?_
 refine kO2 ?_
 refine kJ ((m+1:Nat)) ?_;refine kO ?_;refine kJ ((m+1-i:Nat)) ?_;refine KR 1003 af (m1:=i) (m2:=m+1-i) (m3:=m+1) (p:=0) (cs:=cs) O_ O_ (by rw[J_];omega) (fE (m8 hB _) _) (hby _ O_) O_ O_ rfl rfl rfl rfl rfl rfl rfl rfl rfl rfl underlying3 rfl rfl rfl rfl rfl rfl ?_;refine kW ?_;refine iL af (show i<m+1 by omega) rfl rfl rfl rfl rfl rfl rfl rfl rfl ?_;refine kO ?_
 exact hK.out):p:=e ⟨h⟩
theorem Tr {p:Prop} (e:p:=by
 intro k
 induction k with
 |zero=>intro _;exact⟨[],rfl,fun i r h=>by simp at h⟩
 |succ k ihk=>
  intro hk;obtain⟨rows,h1,h2⟩:=ihk O_;obtain⟨r,us,h3,h4,h5⟩:=hrow k O_;refine⟨rows++[r],by simp[h1],fun i q hq=>?_⟩
  by_cases hi:i<rows.length
  ·rw[List.getElem?_append_left hi]at hq;exact h2 i q hq
  ·have hil:=(G_.1 hq).1
   simp at hil
   have:i=k:=O_
   subst this;rw[g_ O_,h1,Nat.sub_self]at hq
   simp at hq
   subst hq;exact⟨us,h3,h4,h5⟩):p:=e
theorem FL {p q:Prop} (h:q) (e:KH q->p:=by
 intro hK
 refine kO3 ?_
 refine kY ?_
 exact hK.out):p:=e ⟨h⟩
theorem wq {p q:Prop} (h:q) (e:KH q->p:=by
 intro hK
 refine kN ?_;refine fj (T:=TT) rfl ?_
 exact hK.out):p:=e ⟨h⟩
theorem U7 {p q:Prop} (h:q) (e:KH q->p:=by
 intro hK
 refine DX af hple rfl rfl rfl rfl rfl rfl rfl rfl ?_;refine gh 7001 (m1:=0) (m2:=q) af hq0 (hb _ O_) (by rw[U_,hc];omega) rfl rfl rfl rfl rfl rfl rfl rfl rfl (.nil rfl rfl) rfl rfl (by rw[vy hB];rfl) rfl ?_
 refine kO2 ?_
 refine gh 7002 (m1:=0+q) (m2:=1) af D_ (hb _ O_) rfl rfl rfl rfl rfl rfl rfl rfl rfl rfl (.own rfl rfl) rfl rfl rfl rfl ?_
 refine kO2 ?_
 refine rX af (by rw[hc];exact l_ _) hple hd rfl rfl rfl rfl rfl rfl rfl rfl ?_
 exact hK.out):p:=e ⟨h⟩
theorem VO {p q:Prop} (h:q) (e:KH q->p:=by
 intro hK
 refine ax rfl rfl rfl rfl rfl rfl rfl (aU (a:=nm) (b:=[]) (h_ hz)) ?_;refine kW ?_
 exact hK.out):p:=e ⟨h⟩
theorem Uz {p q:Prop} (h:q) (e:KH q->p:=by
 intro hK
 refine DX af hple rfl rfl rfl rfl rfl rfl rfl rfl ?_;refine gh 6001 (m1:=0) (m2:=q) af hq0 (hb1 _ O_) (by rw[U_,hcn];omega) rfl rfl rfl rfl rfl rfl rfl rfl rfl (.nil rfl rfl) rfl rfl (by rw[vy hBn];rfl) rfl ?_
 refine kO2 ?_
 refine gh 6002 (m1:=0+q) (m2:=1) af D_ (hb1 _ O_) rfl rfl rfl rfl rfl rfl rfl rfl rfl rfl (.own rfl rfl) rfl rfl rfl rfl ?_
 refine kO2 ?_
 refine rX af (by rw[hcn];omega) hple hd rfl rfl rfl rfl rfl rfl rfl rfl ?_
 exact hK.out):p:=e ⟨h⟩
theorem Ga {p q:Prop} (h:q) (e:KH q->p:=by
 intro hK
 refine bG rfl ?_
 refine kO2 ?_
 exact hK.out):p:=e ⟨h⟩
theorem Wi {p q:Prop} (h:q) (e:KH q->p:=by
 intro hK
 refine kO ?_;refine kC (c1) ?_
 iterate 2 refine kG ?_
 refine kO2 ?_
 exact hK.out):p:=e ⟨h⟩
theorem K4 {p q:Prop} (h:q) (e:KH q->p:=by
 intro hK
 refine kW ?_;refine kZ (cis) ?_
 exact hK.out):p:=e ⟨h⟩
theorem Mb {p q:Prop} (h:q) (e:KH q->p:=by
 intro hK
 refine kO4 ?_
 refine cU (v':= .int .i64 (p+p')) rfl rfl rfl rfl ?_ ?_
 ·exact congrArg (Value.int .i64) (by rw[IntWalk.i64_in _ O_])
 refine kW ?_
 exact hK.out):p:=e ⟨h⟩
theorem qx {p q:Prop} (h:q) (e:KH q->p:=by
 intro hK
 refine kW ?_;refine⟨i+1,hlt,by omega,?_⟩
 exact hK.out):p:=e ⟨h⟩
theorem SC {p q:Prop} (h:q) (e:KH q->p:=by
 intro hK
 refine aP af dx func229 rfl rfl rfl rfl rfl (gk) ?_;refine kW ?_
 exact hK.out):p:=e ⟨h⟩
theorem nI {p:Prop} (e:p:=by
 rename_i hn;exact absurd h (hn e r)):p:=e
theorem RI {p q:Prop} (h:q) (e:KH q->p:=by
 intro hK
 refine kV func17 ?_;refine kQ (cS) ?_;refine kQ (cA) ?_
 exact hK.out):p:=e ⟨h⟩
theorem Vw {p q:Prop} (h:q) (e:KH q->p:=by
 intro hK
 refine ct ⟨[(1, .d (eU l)),(2, .d (fF l)),(3, .box 0 0),(6, .box 1 0),(7, .d (dN .i64 0)),(12, .own 5002 2 5 92),(72, .d (.leaf (.sl 2 (ab o1 na1 xs1 nb1 ys1 nm1 n1 cs1++ab o2 na2 xs2 nb2 ys2 nm2 n2 cs2)))),(73, .d (dN .i64 2)),(74, .d (dN .i64 2))],[(0,some ([.val (.int .i64 (B4.add).code)]++jq++[.val (vL []), .sl 2 (ab o1 na1 xs1 nb1 ys1 nm1 n1 cs1++ab o2 na2 xs2 nb2 ys2 nm2 n2 cs2)])),(1,some ia),(5002,some (j5 x.1 x.2++j5 y.1 y.2))]⟩ kw ?_
 exact hK.out):p:=e ⟨h⟩
theorem VD {p q:Prop} (h:q) (e:KH q->p:=by
 intro hK
 refine ct ⟨[(1, .d (eU l)),(2, .d (fF l)),(3, .box 0 0),(6, .box 1 0),(7, .d (dN .i64 0)),(12, .own 5002 2 5 92),(72, .d (.leaf (.sl 2 (ab o1 na1 xs1 nb1 ys1 nm1 n1 cs1++ab o2 na2 xs2 nb2 ys2 nm2 n2 cs2)))),(73, .d (dN .i64 2)),(74, .d (dN .i64 2))],[(0,some ([.val (.int .i64 (B4.div).code)]++jq++[.val (vL []), .sl 2 (ab o1 na1 xs1 nb1 ys1 nm1 n1 cs1++ab o2 na2 xs2 nb2 ys2 nm2 n2 cs2)])),(1,some ia),(5002,some (j5 x.1 x.2++j5 y.1 y.2))]⟩ kw ?_
 exact hK.out):p:=e ⟨h⟩
theorem Wj {p q:Prop} (h:q) (e:KH q->p:=by
 intro hK
 refine ct ⟨[(1, .d (eU l)),(2, .d (fF l)),(3, .box 0 0),(6, .box 1 0),(7, .d (dN .i64 0)),(12, .own 5002 2 5 92),(72, .d (.leaf (.sl 2 (ab o1 na1 xs1 nb1 ys1 nm1 n1 cs1++ab o2 na2 xs2 nb2 ys2 nm2 n2 cs2)))),(73, .d (dN .i64 2)),(74, .d (dN .i64 2))],[(0,some ([.val (.int .i64 (B4.mul).code)]++jq++[.val (vL []), .sl 2 (ab o1 na1 xs1 nb1 ys1 nm1 n1 cs1++ab o2 na2 xs2 nb2 ys2 nm2 n2 cs2)])),(1,some ia),(5002,some (j5 x.1 x.2++j5 y.1 y.2))]⟩ kw ?_
 exact hK.out):p:=e ⟨h⟩
theorem Vx {p q:Prop} (h:q) (e:KH q->p:=by
 intro hK
 refine ct ⟨[(1, .d (eU l)),(2, .d (fF l)),(3, .box 0 0),(6, .box 1 0),(7, .d (dN .i64 0)),(12, .own 5002 2 5 92),(72, .d (.leaf (.sl 2 (ab o1 na1 xs1 nb1 ys1 nm1 n1 cs1++ab o2 na2 xs2 nb2 ys2 nm2 n2 cs2)))),(73, .d (dN .i64 2)),(74, .d (dN .i64 2))],[(0,some ([.val (.int .i64 (B4.sub).code)]++jq++[.val (vL []), .sl 2 (ab o1 na1 xs1 nb1 ys1 nm1 n1 cs1++ab o2 na2 xs2 nb2 ys2 nm2 n2 cs2)])),(1,some ia),(5002,some (j5 x.1 x.2++j5 y.1 y.2))]⟩ kw ?_
 exact hK.out):p:=e ⟨h⟩
theorem um {p q:Prop} (h:q) (e:KH q->p:=by
 intro hK
 refine kI ?_;refine kY ?_
 exact hK.out):p:=e ⟨h⟩
theorem F6 {p q:Prop} (h:q) (e:KH q->p:=by
 intro hK
 refine kO ?_;refine kX ?_
 exact hK.out):p:=e ⟨h⟩
theorem Um {p q:Prop} (h:q) (e:KH q->p:=by
 intro hK
 refine ax rfl rfl rfl rfl rfl rfl rfl (bC (a:=nm) (b:=[]) (of_decide_eq_false hz)) ?_
 exact hK.out):p:=e ⟨h⟩
theorem BO {p q:Prop} (h:q) (e:KH q->p:=by
 intro hK
 show aa Tryz.prog _ [.agg (ab op na xs nb ys nm args.length (fG args))] _
 exact hK.out):p:=e ⟨h⟩
theorem x9 {p q:Prop} (h:q) (e:KH q->p:=by
 intro hK
 refine kO ?_;refine kB true ?_ ?_
 ·exact(by simp;omega)
 exact hK.out):p:=e ⟨h⟩
theorem zp {p q:Prop} (h:q) (e:KH q->p:=by
 intro hK
 refine kR ?_;refine kI ?_
 refine kO4 ?_
 exact hK.out):p:=e ⟨h⟩
theorem VA {p:Prop} (e:p:=by
 rw[hb]at c;refine kZ (c) ?_;refine⟨i+1,?_,by omega,weak ⟨rfl,rfl,rfl,rfl,ai O_ O_,trivial⟩ ⟨rfl,trivial⟩ rfl⟩
 by_cases e:i=f
 ·have:=hyi e;rw[hb]at this;cases this
 ·omega):p:=e
theorem G8 {p q:Prop} (h:q) (e:KH q->p:=by
 intro hK
 refine ax rfl rfl rfl rfl rfl rfl rfl (mS (a:=s) (b:=[]) hne) ?_
 exact hK.out):p:=e ⟨h⟩
theorem R2 {p q:Prop} (h:q) (e:KH q->p:=by
 intro hK
 refine gL af (i:=0) (c:=c) rfl rfl rfl rfl rfl rfl rfl rfl rfl ?_
 exact hK.out):p:=e ⟨h⟩
theorem Wa {p q:Prop} (h:q) (e:KH q->p:=by
 intro hK
 refine kO3 ?_
 refine kC (ih') ?_
 exact hK.out):p:=e ⟨h⟩
theorem CF {p q:Prop} (h:q) (e:KH q->p:=by
 intro hK
 refine gL af (i:=i) (c:=c) hx rfl rfl rfl rfl rfl rfl rfl rfl ?_
 exact hK.out):p:=e ⟨h⟩
theorem Uo {p:Prop} (e:p:=by
 refine yB af rfl rfl rfl rfl rfl rfl rfl rfl rfl ?_;refine kW ?_;refine eE (T:=TT) rfl ?_ ?_
 ·exact T_ rfl
 refine kW ?_;refine tw 1003 (m1:=i) (m2:=1) (cs2:=x) af D_ (hby _ O_) (by rw[hx];exact l_ _) rfl rfl rfl rfl rfl rfl rfl rfl rfl (.own rfl rfl) rfl rfl rfl ?_ rfl ?_
 ·rw[fE hX];rfl
 refine kW ?_;exact⟨⟨_,rfl,rfl,rfl⟩,⟨congrArg some hfin,trivial⟩⟩):p:=e
theorem LJ {p q:Prop} (h:q) (e:KH q->p:=by
 intro hK
 refine kJ ((i+1:Nat)) ?_;refine tF af (show i+1<=m+1 by omega) (show i+1<c by omega) rfl rfl rfl rfl rfl rfl rfl rfl rfl ?_
 exact hK.out):p:=e ⟨h⟩
theorem yD {p q:Prop} (h:q) (e:KH q->p:=by
 intro hK
 refine kT ?_
 refine kO2 ?_
 refine kE ?_
 exact hK.out):p:=e ⟨h⟩
theorem FO {p q:Prop} (h:q) (e:KH q->p:=by
 intro hK
 iterate 2 refine kG ?_
 refine kO ?_;refine kE ?_
 refine kO2 ?_
 exact hK.out):p:=e ⟨h⟩
theorem UK {p q:Prop} (h:q) (e:KH q->p:=by
 intro hK
 refine kG ?_
 refine kO2 ?_
 refine Kt ?_
 exact hK.out):p:=e ⟨h⟩
theorem Ah {p:Prop} (e:p:=by
 refine kW ?_;exact .inl ⟨⟨_,rfl,rfl⟩,⟨rfl,rfl,trivial⟩⟩):p:=e
theorem M1 {p q:Prop} (h:q) (e:KH q->p:=by
 intro hK
 rw[qN,if_neg D_,if_neg D_,if_neg D_,if_pos D_,F_ hl,Bool.and_false,Bool.false_and]
 exact hK.out):p:=e ⟨h⟩
theorem Rq {p q:Prop} (h:q) (e:KH q->p:=by
 intro hK
 refine kW ?_;refine ac (bw (neg:=false) (xs:=digs u) (ae _) (show bI false (digs u)=((Nat.gcd (val xs) (val ys):Nat):Int) by rw[zj,<- hg];rfl)) rfl rfl rfl rfl rfl rfl rfl ?_
 exact hK.out):p:=e ⟨h⟩
theorem LQ {p q:Prop} (h:q) (e:KH q->p:=by
 intro hK
 refine DX af hple rfl rfl rfl rfl rfl rfl rfl rfl ?_;refine xg af rfl rfl rfl rfl rfl rfl rfl rfl ?_
 refine kO2 ?_
 exact hK.out):p:=e ⟨h⟩
theorem TP {p q:Prop} (h:q) (e:KH q->p:=by
 intro hK
 refine kV func133 ?_;refine s9 2 ?_;refine ct ⟨[(1, .d (eU l)),(2, .d (fF l)),(3, .box 0 0),(6, .box 1 0),(7, .d (dN .i64 0)),(12, .nil),(72, .d (.leaf (.sl 1 (ab o1 na1 xs1 nb1 ys1 nm1 n1 cs1)))),(73, .d (dN .i64 1)),(74, .d (dN .i64 0))],[(0,some ([.val (.int .i64 3)]++jq++[.val (vL []), .sl 1 (ab o1 na1 xs1 nb1 ys1 nm1 n1 cs1)])),(1,some ia)]⟩ kw ?_
 exact hK.out):p:=e ⟨h⟩
theorem qd {p q:Prop} (h:q) (e:KH q->p:=by
 intro hK
 refine Sg af rfl rfl rfl rfl rfl rfl rfl rfl rfl ?_
 exact hK.out):p:=e ⟨h⟩
theorem Qr {p q:Prop} (h:q) (e:KH q->p:=by
 intro hK
 refine ax rfl rfl rfl rfl rfl rfl rfl (aU (a:=nm) (b:=[]) hnm) ?_
 refine kO5 ?_
 exact hK.out):p:=e ⟨h⟩
theorem DF {p q:Prop} (h:q) (e:KH q->p:=by
 intro hK
 refine aH (i:=i) (cs':=bV p.1 o1 na1 xs1 nb1 ys1 nm1 n1 cs1) hil hat (Z_ 7) rfl rfl rfl rfl rfl rfl rfl rfl ?_
 exact hK.out):p:=e ⟨h⟩
theorem OG {p q:Prop} (h:q) (e:KH q->p:=by
 intro hK
 refine R3 underlying166 underlying9 rfl rfl rfl rfl rfl ⟨rfl,rfl,rfl⟩ rfl rfl rfl rfl ?_;refine kW ?_;refine kD (h) ?_
 exact hK.out):p:=e ⟨h⟩
theorem HL {p q:Prop} (h:q) (e:KH q->p:=by
 intro hK
 refine kO3 ?_
 refine aH (i:=i) (cs':=[.val (vL l[i].1)]) hil (Ll hx) S_ rfl rfl rfl rfl rfl rfl rfl rfl ?_
 exact hK.out):p:=e ⟨h⟩
theorem He {p q:Prop} (h:q) (e:KH q->p:=by
 intro hK
 refine ax rfl rfl rfl rfl rfl rfl rfl (bC (a:=nm) (b:=[]) hnm) ?_
 exact hK.out):p:=e ⟨h⟩
theorem CZ {p q:Prop} (h:q) (e:KH q->p:=by
 intro hK
 refine aH (i:=i) (cs':=[.val (.int .i64 z)]) hlt (bH hz) (Z_ 0) rfl rfl rfl rfl rfl rfl rfl rfl ?_
 exact hK.out):p:=e ⟨h⟩
theorem Ig {p:Prop} (e:p:=by
 funext q
 apply propext
 constructor
 ·rintro(h1|h1)
  ·exact h1.1
  ·exact bxown q h1
 ·intro h1
  by_cases h2:BX g b q
  ·exact .inr h2
  ·exact .inl ⟨h1,h2⟩):p:=e
theorem It {p q:Prop} (h:q) (e:KH q->p:=by
 intro hK
 refine kQ (cT) ?_;refine kZ (cs) ?_;refine kD (cn) ?_;refine kO ?_
 exact hK.out):p:=e ⟨h⟩
theorem Dq {p q:Prop} (h:q) (e:KH q->p:=by
 intro hK
 rw[qN,if_neg D_,if_neg D_,if_neg D_,if_pos D_,T_ hl,Bool.and_true]
 exact hK.out):p:=e ⟨h⟩
theorem tN {p:Prop} (e:p:=by
 exact congrArg (fun z=>RV.one (dN .i64 z)) hv.symm):p:=e
theorem OY {p:Prop} (e:p:=by
 refine⟨lE K (fmt (pw q K).num),?_,fun u h=>?_⟩
 ·have:(gg q).isSome=decide ((lE K (fmt (pw q K).num)).length<=40):=by
   rw[h2]
   split
   ·rename_i h;simp[h]
   ·rename_i h;simp[h]
  rw[this];exact main _ _ (fun h=>by omega) (fun _=>⟨rfl,rfl⟩)
 ·rw[h2]at h
  split at h
  ·cases h;rfl
  ·cases h):p:=e
theorem OR {p:Prop} (e:p:=by
 refine vP af rfl rfl rfl rfl rfl rfl rfl rfl ?_;refine kW ?_;refine tw 1003 (m1:=0) (m2:=1) (cs2:=x) af D_ D_ (by rw[hx];exact l_ _) rfl rfl rfl rfl rfl rfl rfl rfl rfl (.nil rfl rfl) rfl rfl rfl ?_ rfl ?_
 ·rw[fE hB];rfl
 refine kW ?_;exact⟨⟨_,rfl,rfl,rfl⟩,⟨congrArg some hcs,trivial⟩⟩):p:=e
theorem ID {p q:Prop} (h:q) (e:KH q->p:=by
 intro hK
 refine kC (cf) ?_;refine aH (i:=k) (cs':=bV p.1 o1 na1 xs1 nb1 ys1 nm1 n1 cs1) hkl hat (Z_ 7) rfl rfl rfl rfl rfl rfl rfl rfl ?_
 refine kO4 ?_
 exact hK.out):p:=e ⟨h⟩
theorem JW {p q:Prop} (h:q) (e:KH q->p:=by
 intro hK
 refine kV func198 ?_;refine d4 (T:=TT) rfl ?_ ?_
 ·exact sG ha0
 refine kW ?_;refine d4 (T:=TT) rfl ?_ ?_
 ·exact sG hb0
 refine kW ?_
 exact hK.out):p:=e ⟨h⟩
theorem zR {p q:Prop} (h:q) (e:KH q->p:=by
 intro hK
 refine kV func56 ?_;refine kQ (cE) ?_;refine kC (cL) ?_
 exact hK.out):p:=e ⟨h⟩
theorem P7 {p:Prop} (e:p:=by
 refine kX ?_
 exact⟨(i+1,acc),⟨hlt,by dsimp only;omega,f,by dsimp only;omega,h3⟩,by dsimp only;omega,by
  cases acc
  ·exact weak ⟨rfl,rfl,rfl,rfl,rfl,ai O_ O_,trivial⟩ trivial rfl
  ·exact weak ⟨rfl,rfl,rfl,rfl,rfl,ai O_ O_,trivial⟩ ⟨rfl,trivial⟩ rfl⟩):p:=e
theorem p7 {p q:Prop} (h:q) (e:KH q->p:=by
 intro hK
 refine kT ?_
 refine kO2 ?_
 refine kT ?_
 exact hK.out):p:=e ⟨h⟩
theorem Af {p q:Prop} (h:q) (e:KH q->p:=by
 intro hK
 refine kW ?_;refine eE (T:=TT) rfl ?_ ?_
 ·exact T_ O_
 exact hK.out):p:=e ⟨h⟩
theorem Ok {p q:Prop} (h:q) (e:KH q->p:=by
 intro hK
 refine kC (d) ?_;refine kG ?_
 iterate 6 refine kO ?_
 refine kQ (s1) ?_;refine kC (mu) ?_;refine kQ (su) ?_;refine kC (sg1) ?_;refine kO ?_;refine kC (sg2) ?_;refine cU (v':= .int .i64 (w)) rfl rfl rfl rfl ?_ ?_
 ·exact congrArg (Value.int .i64) (by rw[hwe];exact IntWalk.i64_in _ O_)
 exact hK.out):p:=e ⟨h⟩
theorem De {p q:Prop} (h:q) (e:KH q->p:=by
 intro hK
 refine tF af (show i<=m+1 by omega) (show i<c by omega) rfl rfl rfl rfl rfl rfl rfl rfl rfl ?_
 exact hK.out):p:=e ⟨h⟩
theorem Oo {p q:Prop} (h:q) (e:KH q->p:=by
 intro hK
 refine kW ?_;refine ac (dM (h.1.fit O_) (h'.1.fit O_)) rfl rfl rfl rfl rfl rfl rfl ?_;refine kW ?_;refine ac (dM (h.2.fit O_) (h'.2.fit O_)) rfl rfl rfl rfl rfl rfl rfl ?_;refine kW ?_;refine kC (f4 (h.1.mul h'.1) (h.2.mul h'.2) hk d0 (my a b)) ?_
 exact hK.out):p:=e ⟨h⟩
theorem Tz {p q:Prop} (h:q) (e:KH q->p:=by
 intro hK
 refine kO3 ?_
 refine cU (v':= .bool (decide (z.length<=40))) rfl rfl rfl rfl ?_ ?_
 ·exact congrArg Value.bool (decide_eq_decide.2 O_)
 exact hK.out):p:=e ⟨h⟩
theorem yK {p q:Prop} (h:q) (e:KH q->p:=by
 intro hK
 refine ax rfl rfl rfl rfl rfl rfl rfl (kf (a:=[]) (b:=[]) rfl) ?_
 exact hK.out):p:=e ⟨h⟩
theorem vm {p q:Prop} (h:q) (e:KH q->p:=by
 intro hK
 refine kV func313 ?_;refine kC (KL s) ?_
 exact hK.out):p:=e ⟨h⟩
theorem x8 {p:Prop} (e:p:=by
 have:=Nat.le_mul_of_pos_right (m1+m2) (N_ hq0.2);omega):p:=e
theorem EK {p q:Prop} (h:q) (e:KH q->p:=by
 intro hK
 refine kN ?_;refine dh ((bf (q:=11) rfl rfl).tr (bf (q:=12) rfl rfl)) rfl ?_
 exact hK.out):p:=e ⟨h⟩
theorem Py {p q:Prop} (h:q) (e:KH q->p:=by
 intro hK
 refine K9 ?_;refine kW ?_;refine kQ (kM (na:=nb) hw' c2) ?_
 exact hK.out):p:=e ⟨h⟩
theorem y2 {p q:Prop} (h:q) (e:KH q->p:=by
 intro hK
 refine kW ?_;refine kQ (n1) ?_;refine kC (n2) ?_
 exact hK.out):p:=e ⟨h⟩
theorem yV {p q:Prop} (h:q) (e:KH q->p:=by
 intro hK
 refine ax rfl rfl rfl rfl rfl rfl rfl (bC (a:=u) (b:=[]) hu) ?_
 exact hK.out):p:=e ⟨h⟩
theorem Ob {p:Prop} (e:p:=by
 rcases hbst with⟨h3,h4⟩| ⟨k,q,h3,h4,h5⟩
 ·exact .inr (.inr (.inl ⟨h,h2,h3,h4⟩))
 ·rcases Bool.eq_false_or_eq_true (Op.bytesLess p.1 q.1)with h6|h6
  ·exact .inr (.inr (.inr (.inr ⟨k,q,h,h2,h3,h4,h5,h6⟩)))
  ·exact .inr (.inr (.inr (.inl ⟨k,q,h,h2,h3,h4,h5,h6⟩)))):p:=e
theorem P4 {p q:Prop} (h:q) (e:KH q->p:=by
 intro hK
 refine Ki ?_;refine kW ?_;refine kQ (me (na:=nb) hw' c2) ?_
 exact hK.out):p:=e ⟨h⟩
theorem pU {p q:Prop} (h:q) (e:KH q->p:=by
 intro hK
 refine kN ?_;refine dX (T:=TT) rfl ?_
 exact hK.out):p:=e ⟨h⟩
theorem Dx {p:Prop} (e:p:=by
 rw[b7,dK e5];rw[List.getElem?_take]at hi
 split at hi
 ·simpa using hi
 ·cases hi):p:=e
theorem QQ {p q:Prop} (h:q) (e:KH q->p:=by
 intro hK
 show aa Tryz.prog _ [.agg (cC k ps cs vs s),_] _;refine kV func5 ?_;refine kQ (gn) ?_;refine kC (c1) ?_
 exact hK.out):p:=e ⟨h⟩
theorem OI {p:Prop} (e:p:=by
 exact congrArg (fun b=>RV.one (dB b)) (by rw[<- hb];rfl)):p:=e
theorem On {p q:Prop} (h:q) (e:KH q->p:=by
 intro hK
 refine kI ?_;refine kO ?_;refine kT ?_;refine kG ?_;refine kO ?_;refine ax rfl rfl rfl rfl rfl rfl rfl hrem ?_;refine kW ?_;refine ac (mul i j O_ O_) rfl rfl rfl rfl rfl rfl rfl ?_;refine kG ?_;refine kO ?_;refine ax rfl rfl rfl rfl rfl rfl rfl hquo ?_;refine kG ?_
 exact hK.out):p:=e ⟨h⟩
theorem OM {p q:Prop} (h:q) (e:KH q->p:=by
 intro hK
 refine kO3 ?_
 refine kE ?_
 refine kO3 ?_
 exact hK.out):p:=e ⟨h⟩
theorem vf {p q:Prop} (h:q) (e:KH q->p:=by
 intro hK
 refine kI ?_
 refine kO4 ?_
 refine kE ?_
 exact hK.out):p:=e ⟨h⟩
theorem yz {p q:Prop} (h:q) (e:KH q->p:=by
 intro hK
 refine kR ?_;refine kI ?_
 refine kO3 ?_
 exact hK.out):p:=e ⟨h⟩
theorem Iy {p q:Prop} (h:q) (e:KH q->p:=by
 intro hK
 refine kW ?_;refine aH (i:=i) (cs':=[.val (vL q)]) hlt (ef hx) (Z_ 0) rfl rfl rfl rfl rfl rfl rfl rfl ?_;refine kO ?_
 exact hK.out):p:=e ⟨h⟩
theorem EI {p q:Prop} (h:q) (e:KH q->p:=by
 intro hK
 refine gc (i:=1) underlying171 (by kernel_rfl) D_ rfl rfl rfl rfl rfl rfl ?_
 exact hK.out):p:=e ⟨h⟩
theorem Pa {p q:Prop} (h:q) (e:KH q->p:=by
 intro hK
 refine kG ?_
 refine kO3 ?_
 refine kJ ((i+1:Nat)) ?_;refine iL af (show i+1<m+1 by omega) rfl rfl rfl rfl rfl rfl rfl rfl rfl ?_
 refine kO2 ?_
 refine tF af (show i<=m by omega) (show i<c by omega) rfl rfl rfl rfl rfl rfl rfl rfl rfl ?_
 exact hK.out):p:=e ⟨h⟩
theorem Ke {p:Prop} (e:p:=by
 cases hbase with
 |nil a b=>exact .nil (hx2.trans a) b
 |own a b=>exact .own (hx2.trans a) ((bg (hrb _ (by simp[sF]))).trans b)):p:=e
theorem Qk {p q:Prop} (h:q) (e:KH q->p:=by
 intro hK
 refine iT (ce.rdW (ts:=[.d (.agg (ab o1 na1 xs1 nb1 ys1 nm1 n1 cs1)), .own 5001 (i+1) 1 9, .own 5002 (i+1) 5 92]) (b:=[(5001,av (env.map (·.1))),(5002,jW env)]) rfl hwd (QV rfl rfl)) rfl rfl rfl rfl rfl ⟨rfl,rfl,trivial⟩ rfl rfl rfl rfl ?_;refine kW ?_
 exact hK.out):p:=e ⟨h⟩
theorem DJ {p q:Prop} (h:q) (e:KH q->p:=by
 intro hK
 refine kW ?_;refine ac (St ha O_) rfl rfl rfl rfl rfl rfl rfl ?_;refine kW ?_
 exact hK.out):p:=e ⟨h⟩
theorem PY {p q:Prop} (h:q) (e:KH q->p:=by
 intro hK
 refine gL af (i:=n) (c:=s[n]) hx rfl rfl rfl rfl rfl rfl rfl rfl ?_;refine kT ?_;refine kG ?_
 refine kO2 ?_
 refine kJ ((n+1:Nat)) ?_;refine zi af (i:=n+1) O_ rfl rfl rfl rfl rfl rfl rfl rfl ?_;refine kC (c2) ?_;refine kG ?_;refine kO ?_
 exact hK.out):p:=e ⟨h⟩
theorem O3 {p:Prop} (e:p:=by
 rw[hb]at c;refine kQ (c) ?_
 exact⟨i+1,⟨hlt,fun q y h1 h2=>by
  by_cases e:q=i
  ·subst e;rw[hx]at h2;cases h2;exact hb
  ·exact hq q y O_ h2⟩,by omega,weak ⟨rfl,rfl,ai O_ O_,trivial⟩ ⟨rfl,trivial⟩ rfl⟩):p:=e
theorem EG {p q:Prop} (h:q) (e:KH q->p:=by
 intro hK
 refine gA af dx func105 rfl rfl rfl rfl rfl rfl (qW rfl rfl rfl) ?_
 exact hK.out):p:=e ⟨h⟩
theorem JM {p q:Prop} (h:q) (e:KH q->p:=by
 intro hK
 refine ac (jD 0 D_ D_ rfl) rfl rfl rfl rfl rfl rfl rfl ?_
 exact hK.out):p:=e ⟨h⟩
theorem Pb {p:Prop} (e:p:=by
 constructor
 ·rintro⟨h1,h2⟩
  refine⟨vE.1 h1,fun cs hc=>?_⟩;have:=h2 _ (pL hc)
  rwa[m7]at this
 ·rintro⟨h1,h2⟩
  refine⟨vE.2 h1,fun cs hc=>?_⟩;obtain⟨c0,h0,rfl⟩:=iv hc;rw[kA]at h0;rw[m7];exact h2 c0 h0):p:=e
theorem Ow {p q:Prop} (h:q) (e:KH q->p:=by
 intro hK
 refine gh 7002 (m1:=0) (m2:=1) af D_ D_ rfl rfl rfl rfl rfl rfl rfl rfl rfl rfl (.nil rfl rfl) rfl rfl rfl rfl ?_
 refine kO2 ?_
 refine rX af (by rw[hc];exact l_ _) hple hd rfl rfl rfl rfl rfl rfl rfl rfl ?_
 exact hK.out):p:=e ⟨h⟩
theorem Kc {p q:Prop} (h:q) (e:KH q->p:=by
 intro hK
 refine aH (i:=i) (cs':=ab o1 na1 xs1 nb1 ys1 nm1 n1' cs1) hlt hat (Z_ 6) rfl rfl rfl rfl rfl rfl rfl rfl ?_
 exact hK.out):p:=e ⟨h⟩
theorem QA {p:Prop} (e:p:=by
 have a:=ka f _ _ _ _ hs (fun _ _ h=>by cases h) h1;have b:=ka f _ _ _ _ (fun t ht=>hs t (a.2.1 t ht)) (fun _ _ h=>by cases h;exact a.1) h;exact⟨b.1,fun t ht=>a.2.1 t (b.2.1 t ht),by have:=a.2.2;have:=b.2.2;dsimp only at *;omega⟩):p:=e
theorem OW {p q:Prop} (h:q) (e:KH q->p:=by
 intro hK
 refine kV func297 ?_;refine ac (po (na:=na) hw (by unfold lx;omega) hn) rfl rfl rfl rfl rfl rfl rfl ?_;refine kW ?_;refine ac (po (na:=nb) hw' (by unfold lx;omega) hd) rfl rfl rfl rfl rfl rfl rfl ?_;refine kW ?_
 exact hK.out):p:=e ⟨h⟩
theorem ET {p q:Prop} (h:q) (e:KH q->p:=by
 intro hK
 unfold Instr.sliceAt
 simp only[Y_,run_underlying hu w,R_]
 exact hK.out):p:=e ⟨h⟩
theorem O0 {p:Prop} (e:p:=by
 cases e with
 |normal=>obtain⟨s,h1,h2⟩:=hq;exact fin s h1 h2
 |ret=>obtain⟨s,h1,h2⟩:=hq;exact fin s h1 h2
 |exit i=>obtain⟨s,h1,h2⟩:=hq;exact h1.elim
 |goto l=>exact hq.elim
 |panic c=>exact hq.elim
 |outgrown=>exact hq.elim):p:=e
theorem zt {p q:Prop} (h:q) (e:KH q->p:=by
 intro hK
 refine kW ?_;refine TK Rv rfl rfl rfl rfl rfl rfl rfl ?_
 exact hK.out):p:=e ⟨h⟩
theorem NY {p q:Prop} (h:q) (e:KH q->p:=by
 intro hK
 refine gh 6002 (m1:=0) (m2:=1) af D_ D_ rfl rfl rfl rfl rfl rfl rfl rfl rfl rfl (.nil rfl rfl) rfl rfl rfl rfl ?_
 refine kO2 ?_
 refine rX af (by rw[hcn];omega) hple hd rfl rfl rfl rfl rfl rfl rfl rfl ?_
 exact hK.out):p:=e ⟨h⟩
theorem Jr {p q:Prop} (h:q) (e:KH q->p:=by
 intro hK
 refine Am 16002 (cs:=[.val (vL x)]) af rfl rfl rfl rfl rfl rfl rfl rfl rfl rfl rfl rfl rfl ?_
 refine kO2 ?_
 exact hK.out):p:=e ⟨h⟩
theorem HQ {p q:Prop} (h:q) (e:KH q->p:=by
 intro hK
 refine kV func190 ?_;refine kQ (t1) ?_;refine kC (t2) ?_;refine kG ?_
 refine kO4 ?_
 exact hK.out):p:=e ⟨h⟩
theorem Jw {p q:Prop} (h:q) (e:KH q->p:=by
 intro hK
 refine kV func334 ?_;refine ac (ja O_ ha) rfl rfl rfl rfl rfl rfl rfl ?_;refine kW ?_
 exact hK.out):p:=e ⟨h⟩
theorem vA {p:Prop} (e:p:=by
 have:=List.not_of_lt_findIdx h
 simpa using this):p:=e
theorem Oe {p q:Prop} (h:q) (e:KH q->p:=by
 intro hK
 refine kG ?_
 refine kO2 ?_
 refine ax rfl rfl rfl rfl rfl rfl rfl (mS (a:=u) (b:=[]) hu) ?_;refine kG ?_
 refine kO3 ?_
 refine ax rfl rfl rfl rfl rfl rfl rfl (dG (a:=[32]) (b:=u) (by simp <;>omega)) ?_
 exact hK.out):p:=e ⟨h⟩
theorem Eb {p q:Prop} (h:q) (e:KH q->p:=by
 intro hK
 refine kW ?_;refine kQ (s1) ?_;refine kC (s2) ?_
 exact hK.out):p:=e ⟨h⟩
theorem KT {p q:Prop} (h:q) (e:KH q->p:=by
 intro hK
 refine kD (dA t (u::r) a 0) ?_;refine kO ?_;refine kQ (cp) ?_
 exact hK.out):p:=e ⟨h⟩
theorem N3 {p:Prop} (e:p:=by
 refine kN ?_
 repeat refine bu (T:=TT) ?_
 refine dh ((Kz (q:=0) rfl rfl (Nat.le_of_eq hlen.symm)).tr (aD (q:=0) (j:=901) (j':=1003) rfl rfl rfl rfl)) rfl ?_;exact Kx):p:=e
theorem Pt {p q:Prop} (h:q) (e:KH q->p:=by
 intro hK
 refine kC (cl) ?_;refine kO ?_;refine kB false ?_ ?_
 ·exact F_ (by show ¬((3:Nat):Int)<_;omega)
 refine kW ?_;refine gc (i:=3) underlying184 (by kernel_rfl) D_ rfl rfl rfl rfl rfl rfl ?_;refine kW ?_
 exact hK.out):p:=e ⟨h⟩
theorem Do {p q:Prop} (h:q) (e:KH q->p:=by
 intro hK
 refine zi af (i:=nn) hnr rfl rfl rfl rfl rfl rfl rfl rfl ?_;refine kN ?_
 exact hK.out):p:=e ⟨h⟩
theorem If {p q:Prop} (h:q) (e:KH q->p:=by
 intro hK
 refine kW ?_;refine⟨i+1,?_,by omega,weak ⟨rfl,rfl,rfl,rfl,ai O_ O_,trivial⟩ trivial rfl⟩
 exact hK.out):p:=e ⟨h⟩
theorem KZ {p q:Prop} (h:q) (e:KH q->p:=by
 intro hK
 refine kB false ?_ ?_
 ·exact(by simp[hn])
 refine kW ?_
 exact hK.out):p:=e ⟨h⟩
theorem PC {p q:Prop} (h:q) (e:KH q->p:=by
 intro hK
 refine kW ?_;refine ac (d7 10 D_ D_) rfl rfl rfl rfl rfl rfl rfl ?_;refine kW ?_;refine kQ (t4) ?_;refine ac (dM (hs.fit O_) t3) rfl rfl rfl rfl rfl rfl rfl ?_;refine kW ?_
 exact hK.out):p:=e ⟨h⟩
theorem Ps {p:Prop} (e:p:=by
 split
 ·rename_i h
  obtain⟨x,hx,e⟩:=this.1 h;have e:=h_ e;subst e;exact⟨fun _=>hx,fun _=>by omega⟩
 ·rename_i h
  exact⟨fun h=>by omega,fun hm=>absurd (this.2 ⟨n,hm,T_ rfl⟩) h⟩):p:=e
theorem Le {p:Prop} (e:p:=by
 refine⟨[],?_,fun u h=>by rw[h0]at h;cases h⟩;rw[h0];exact main _ _ (fun _=>⟨rfl,rfl⟩) (fun h=>by omega)):p:=e
theorem vW {p:Prop} (e:p:=by
 rw[this];exact bK (T:=TT) rfl rfl):p:=e
theorem vD {p q:Prop} (h:q) (e:KH q->p:=by
 intro hK
 refine kB true ?_ ?_
 ·exact bne_iff_ne.2 h0
 exact hK.out):p:=e ⟨h⟩
theorem IV {p:Prop} (e:p:=by
 exact congrArg Value.bool (decide_eq_decide.2 O_)):p:=e
theorem DA {p q:Prop} (h:q) (e:KH q->p:=by
 intro hK
 refine gA af dx func105 rfl rfl rfl rfl rfl rfl rD ?_
 exact hK.out):p:=e ⟨h⟩
theorem OX {p q:Prop} (h:q) (e:KH q->p:=by
 intro hK
 refine kW ?_;refine ac (Bo (n:=b.length) O_ hp) rfl rfl rfl rfl rfl rfl rfl ?_;refine kW ?_;refine ac (dM (sa.fit O_) (sp.fit O_)) rfl rfl rfl rfl rfl rfl rfl ?_;refine kW ?_
 exact hK.out):p:=e ⟨h⟩
theorem CT {p q:Prop} (h:q) (e:KH q->p:=by
 intro hK
 refine kU func59 ?_;refine kR ?_;refine kI ?_
 iterate 12 refine kO ?_
 exact hK.out):p:=e ⟨h⟩
theorem D3 {p:Prop} (e:p:=by
 rw[List.getElem?_append_left (G_.1 ha).1];exact ha):p:=e
theorem Qc {p:Prop} (e:p:=by
 simp only at h'
 split at h
 ·split at h'
  ·rename_i r1 h1 _ r2 h2
   have:=zQ (fun x _ y z=>ih x y z) h1 h2;subst this;rw[<- Option.some.inj h,<- Option.some.inj h']
  ·cases h'
 ·cases h):p:=e
theorem Oz {p:Prop} (e:p:=by
 refine kX ?_;refine kQ (pN g1 hv) ?_;exact⟨(v,u%v),⟨tI.trans hg,g2,V_ (iC (Nat.le_of_lt hm)) g2⟩,hm,weak ⟨rfl,rfl,rfl,trivial⟩ ⟨rfl,trivial⟩ rfl⟩):p:=e
theorem vH {p q:Prop} (h:q) (e:KH q->p:=by
 intro hK
 refine kW ?_;refine kQ (cv) ?_
 exact hK.out):p:=e ⟨h⟩
theorem IE {p q:Prop} (h:q) (e:KH q->p:=by
 intro hK
 refine aP af dx func171 rfl rfl rfl rfl rfl (gk) ?_
 exact hK.out):p:=e ⟨h⟩
theorem I3 {p q:Prop} (h:q) (e:KH q->p:=by
 intro hK
 refine aP af dx func281 rfl rfl rfl rfl rfl (gk) ?_
 exact hK.out):p:=e ⟨h⟩
theorem Da {p q:Prop} (h:q) (e:KH q->p:=by
 intro hK
 refine kW ?_;refine kC (c1) ?_
 refine kO4 ?_
 refine kC (c2) ?_
 exact hK.out):p:=e ⟨h⟩
theorem PD {p:Prop} (e:p:=by
 refine kX ?_
 rw[show yM l=false by
  cases hd:yM l
  ·rfl
  ·have:=(gU.1 hd).1 c (M_ hcj)
   unfold gv at this
   omega]
 exact bK (T:=TT) rfl rfl):p:=e
theorem IA {p:Prop} (e:p:=by
 rw[h1]at h;rw[ls f _ _ _ h1];cases y with
 |error e=>exact h
 |ok y=>exact ls f _ _ _ h):p:=e
theorem DM {p q:Prop} (h:q) (e:KH q->p:=by
 intro hK
 refine kV func166 ?_;refine kC (c1) ?_;refine kG ?_
 exact hK.out):p:=e ⟨h⟩
theorem PB {p:Prop} (e:p:=by
 rw[hnext,jQ,if_neg (fun h2=>by
  rcases h with h|h
  ·rw[h]at h2;exact absurd h2.1 D_
  ·rcases h2.2 with h3|h3
   ·exact h.1 h3
   ·rw[h.2]at h3;cases h3)]):p:=e
theorem QO {p q:Prop} (h:q) (e:KH q->p:=by
 intro hK
 refine kO ?_;refine ek 7003 (m1:=G.length) (m2:=1) af D_ (by show(G.length+1)*16<=_;omega) rfl rfl rfl rfl rfl rfl rfl rfl rfl rfl rfl (.own rfl rfl) rfl rfl rfl ?_;refine kW ?_
 exact hK.out):p:=e ⟨h⟩
theorem Oi {p q:Prop} (h:q) (e:KH q->p:=by
 intro hK
 refine kW ?_;refine ek 7005 (m1:=G.length) (m2:=1) af D_ (by show(G.length+1)*16<=_;omega) rfl rfl rfl rfl rfl rfl rfl rfl rfl rfl rfl (.own rfl rfl) rfl rfl rfl ?_;refine kW ?_
 exact hK.out):p:=e ⟨h⟩
theorem Du {p q:Prop} (h:q) (e:KH q->p:=by
 intro hK
 refine kV func329 ?_;refine kC (oT h47) ?_
 exact hK.out):p:=e ⟨h⟩
theorem OO {p:Prop} (e:p:=by
 have e1:=bU.1 h1;have e2:=bU.1 h2
 by_cases e:j=1003
 ·subst e;cases e1
 ·rw[show ay [(1003,cs')]=[(1003,some cs')] from rfl,au _ _ (fun h=>e h.symm)]at e2;cases e2):p:=e
theorem QB {p q:Prop} (h:q) (e:KH q->p:=by
 intro hK
 refine kE ?_;refine kG ?_
 refine kO3 ?_
 refine kJ ((m+1:Nat)) ?_;refine Jg af (show m+1<=c by omega) rfl rfl rfl rfl rfl rfl rfl rfl rfl ?_;refine kG ?_
 refine kO4 ?_
 exact hK.out):p:=e ⟨h⟩
theorem Ol {p:Prop} (e:p:=by
 refine kW ?_;exact⟨i+1,hlt,by omega,weak ⟨rfl,rfl,rfl,rfl,ai O_ O_,congrArg (fun z=>TV.d (dL z)) (keep (.inl (by rw[hcd,hb1];rfl))),trivial⟩ ⟨rfl,trivial⟩ rfl⟩):p:=e
theorem QC {p:Prop} (e:p:=by
 rw[hnext,jQ,if_neg (fun h2=>by
  rcases h2.2 with h2|h2
  ·exact ho.ne (M_ hk) (hq.trans h2)
  ·rw[<- hq,hls]at h2;cases h2)]
 exact .inr ⟨k,q,rfl,hk,hq⟩):p:=e
theorem P5 {p:Prop} (e:p:=by
 split at h
 ·rename_i e1 r1 h1
  have a:=ga f _ _ _ hw hE h1;have hsub:=iw f _ _ _ _ h1;exact ga f _ _ _ a (fun t ht=>hE t (hsub t ht)) h
 ·exact ga f _ _ _ hw hE h):p:=e
theorem CS {p:Prop} (e:p:=by
 injection this with this
 injection this with this
 injection this):p:=e
theorem KK {p q:Prop} (h:q) (e:KH q->p:=by
 intro hK
 refine gc (i:=2) underlying171 (by kernel_rfl) D_ rfl rfl rfl rfl rfl rfl ?_
 exact hK.out):p:=e ⟨h⟩
theorem G4 {p q:Prop} (h:q) (e:KH q->p:=by
 intro hK
 refine gc (i:=3) underlying171 (by kernel_rfl) D_ rfl rfl rfl rfl rfl rfl ?_
 exact hK.out):p:=e ⟨h⟩
theorem JP {p q:Prop} (h:q) (e:KH q->p:=by
 intro hK
 refine gc (i:=4) underlying171 (by kernel_rfl) D_ rfl rfl rfl rfl rfl rfl ?_
 exact hK.out):p:=e ⟨h⟩
theorem Jk {p q:Prop} (h:q) (e:KH q->p:=by
 intro hK
 refine gc (i:=5) underlying171 (by kernel_rfl) D_ rfl rfl rfl rfl rfl rfl ?_
 exact hK.out):p:=e ⟨h⟩
theorem Ik {p q:Prop} (h:q) (e:KH q->p:=by
 intro hK
 refine gc (i:=6) underlying171 (by kernel_rfl) D_ rfl rfl rfl rfl rfl rfl ?_
 exact hK.out):p:=e ⟨h⟩
theorem KN {p q:Prop} (h:q) (e:KH q->p:=by
 intro hK
 refine gc (i:=7) underlying171 (by kernel_rfl) D_ rfl rfl rfl rfl rfl rfl ?_
 exact hK.out):p:=e ⟨h⟩
theorem JV {p q:Prop} (h:q) (e:KH q->p:=by
 intro hK
 refine kC (cV) ?_;refine kB false ?_ ?_
 ·exact(by simp[hv])
 refine kW ?_;refine kC (cL) ?_
 exact hK.out):p:=e ⟨h⟩
theorem U8 {p q:Prop} (h:q) (e:KH q->p:=by
 intro hK
 refine kO2 ?_
 refine kC (c1) ?_
 refine kO5 ?_
 exact hK.out):p:=e ⟨h⟩
theorem D7 {p q:Prop} (h:q) (e:KH q->p:=by
 intro hK
 refine kW ?_;refine kQ (bF (nW ha)) ?_
 exact hK.out):p:=e ⟨h⟩
theorem Ir {p q:Prop} (h:q) (e:KH q->p:=by
 intro hK
 unfold V8;refine kI ?_;refine kB true ?_ ?_
 ·exact T_ D_
 refine kW ?_
 exact hK.out):p:=e ⟨h⟩
theorem PV {p q:Prop} (h:q) (e:KH q->p:=by
 intro hK
 refine aH (i:=i) (cs':=bV nm o1 na1 xs1 nb1 ys1 nm1 n1 cs1) hlt hat (Z_ 7) rfl rfl rfl rfl rfl rfl rfl rfl ?_;refine kW ?_;refine kC (cS) ?_
 refine kO5 ?_
 exact hK.out):p:=e ⟨h⟩
theorem Ue {p q:Prop} (h:q) (e:KH q->p:=by
 intro hK
 refine gL af (i:=0) (c:=c) h0 rfl rfl rfl rfl rfl rfl rfl rfl ?_;refine kC (c1) ?_
 exact hK.out):p:=e ⟨h⟩
theorem QJ {p q:Prop} (h:q) (e:KH q->p:=by
 intro hK
 refine kD (jk (4,[c],p0) r2 a 0) ?_;refine kO ?_;refine IN underlying166 underlying9 hl rfl rfl rfl rfl rfl rfl rfl ?_;refine kW ?_;refine kZ (cy) ?_
 exact hK.out):p:=e ⟨h⟩
theorem QF {p:Prop} (e:p:=by
 simp only[E8]at hk
 split at hk
 ·rename_i hc;cases hk;subst hc;exact⟨_,rfl,rfl⟩
 ·split at hk
  ·rename_i hc;cases hk;subst hc;exact⟨_,rfl,rfl⟩
  ·cases hk):p:=e
theorem PW {p:Prop} (e:p:=by
 exact⟨i+1,hlt,by omega,weak ⟨rfl,rfl,rfl,rfl,ai O_ O_,congrArg (fun z=>TV.d (dL z)) (keep (.inl (by rw[hcd,hb1];rfl))),trivial⟩ trivial rfl⟩):p:=e
theorem OL {p:Prop} (e:p:=by
 obtain⟨b,off,f,e,hn,hl,h1,h2⟩:=hP.gl k cs hk;exact⟨b,off,f,e,fun h=>hn (.inl h),hl,h1,fun i a hi=>(h2 i a hi).agree (bY.refl _ _) (fun _ _ h=> .inl h)⟩):p:=e
theorem T3 {p q:Prop} (h:q) (e:KH q->p:=by
 intro hK
 refine kO2 ?_
 refine kC (cn) ?_;refine kC (c2) ?_
 exact hK.out):p:=e ⟨h⟩
theorem Pe {p:Prop} (e:p:=by
 have:=(List.take_append_drop i vs).symm
 rwa[List.drop_eq_getElem_cons hlt,show vs[i]=x by rw[Q_ hlt]at hx;exact Option.some.inj hx]at this):p:=e
theorem Tl {p q:Prop} (h:q) (e:KH q->p:=by
 intro hK
 refine kC (t1) ?_;refine kO ?_;refine kC (d) ?_;refine kG ?_
 refine kO4 ?_
 exact hK.out):p:=e ⟨h⟩
theorem O8 {p q:Prop} (h:q) (e:KH q->p:=by
 intro hK
 refine kE ?_;refine kG ?_
 refine kO2 ?_
 refine zi af (i:=i) O_ rfl rfl rfl rfl rfl rfl rfl rfl ?_;refine kC (cn) ?_;refine kG ?_;refine kO ?_
 exact hK.out):p:=e ⟨h⟩
theorem DN {p:Prop} (e:p:=by
 rw[J_,show i+(m-i)=m by omega];omega):p:=e
theorem IP {p q:Prop} (h:q) (e:KH q->p:=by
 intro hK
 refine kT ?_;refine kN ?_;refine bu (T:=TT) ?_;refine fj (T:=TT) rfl ?_
 exact hK.out):p:=e ⟨h⟩
theorem P6 {p q:Prop} (h:q) (e:KH q->p:=by
 intro hK
 rw[show dE (.bin .add a b)= .agg ([.val (.int .i64 (B4.add).code)]++jq++[.val (vL []), .sl 2 (aE a++aE b)]) from congrArg DV.agg (j0 .add a b),hA,hB]
 exact hK.out):p:=e ⟨h⟩
theorem Qf {p q:Prop} (h:q) (e:KH q->p:=by
 intro hK
 rw[show dE (.bin .div a b)= .agg ([.val (.int .i64 (B4.div).code)]++jq++[.val (vL []), .sl 2 (aE a++aE b)]) from congrArg DV.agg (j0 .div a b),hA,hB]
 exact hK.out):p:=e ⟨h⟩
theorem PQ {p q:Prop} (h:q) (e:KH q->p:=by
 intro hK
 rw[show dE (.bin .mul a b)= .agg ([.val (.int .i64 (B4.mul).code)]++jq++[.val (vL []), .sl 2 (aE a++aE b)]) from congrArg DV.agg (j0 .mul a b),hA,hB]
 exact hK.out):p:=e ⟨h⟩
theorem PP {p q:Prop} (h:q) (e:KH q->p:=by
 intro hK
 rw[show dE (.bin .sub a b)= .agg ([.val (.int .i64 (B4.sub).code)]++jq++[.val (vL []), .sl 2 (aE a++aE b)]) from congrArg DV.agg (j0 .sub a b),hA,hB]
 exact hK.out):p:=e ⟨h⟩
theorem Pk {p q:Prop} (h:q) (e:KH q->p:=by
 intro hK
 refine kW ?_;refine aH (i:=i) (cs':=[.val (.int .i64 z)]) hlt hat (Z_ 0) rfl rfl rfl rfl rfl rfl rfl rfl ?_;refine kW ?_;refine kC (cI) ?_
 exact hK.out):p:=e ⟨h⟩
theorem P1 {p q:Prop} (h:q) (e:KH q->p:=by
 intro hK
 unfold execOp;rw[ho]
 simp only[e1,a7 hM hy2,Instr.indexAt,Instr.sureAddr,asIntOf,Y_,a_,run_underlying hu w,R_]
 exact hK.out):p:=e ⟨h⟩
theorem JA {p q:Prop} (h:q) (e:KH q->p:=by
 intro hK
 refine kV func219 ?_;refine kC (t1) ?_
 refine kO4 ?_
 exact hK.out):p:=e ⟨h⟩
theorem QP {p q:Prop} (h:q) (e:KH q->p:=by
 intro hK
 refine cU (v':= .int .u64 ((k.natAbs:Nat))) rfl rfl rfl rfl ?_ ?_
 ·exact congrArg (Value.int .u64) (by rw[IntKind.wrap_u64,IntKind.wrap_u64];omega)
 exact hK.out):p:=e ⟨h⟩
theorem IC {p:Prop} (e:p:=by
 split at h
 ·cases h;exact fun t ht=>List.mem_cons_of_mem _ ht
 ·cases h):p:=e
theorem IT {p q:Prop} (h:q) (e:KH q->p:=by
 intro hK
 refine gL af (i:=j) (c:=s[j]) hx rfl rfl rfl rfl rfl rfl rfl rfl ?_
 exact hK.out):p:=e ⟨h⟩
theorem DZ {p q:Prop} (h:q) (e:KH q->p:=by
 intro hK
 rw[IY,yS,if_neg (by show ¬4<least;omega)]
 exact hK.out):p:=e ⟨h⟩
theorem N7 {p q:Prop} (h:q) (e:KH q->p:=by
 intro hK
 refine eE (T:=TT) rfl ?_ ?_
 ·exact(by rw[hl0];rfl)
 refine kW ?_;refine ac (tA (ae u) O_) rfl rfl rfl rfl rfl rfl rfl ?_
 exact hK.out):p:=e ⟨h⟩
theorem Qs {p q:Prop} (h:q) (e:KH q->p:=by
 intro hK
 refine kO ?_;refine cU (v':= .int .u64 ((k.natAbs:Nat))) rfl rfl rfl rfl ?_ ?_
 ·exact congrArg (Value.int .u64) (by rw[IntKind.wrap_u64];omega)
 exact hK.out):p:=e ⟨h⟩
theorem Og {p q:Prop} (h:q) (e:KH q->p:=by
 intro hK
 refine bG (T:=TT) rfl ?_
 refine kO2 ?_
 refine kJ ((m+1:Nat)) ?_;refine kO ?_;refine MA af rfl rfl rfl rfl rfl rfl rfl rfl ?_
 exact hK.out):p:=e ⟨h⟩
theorem QG {p q:Prop} (h:q) (e:KH q->p:=by
 intro hK
 refine kN ?_;refine bu (T:=TT) ?_;refine dX (T:=TT) rfl ?_;refine dp (show fP _ _ _ _ _ _ from ?_);refine kI ?_
 refine kO2 ?_
 exact hK.out):p:=e ⟨h⟩
theorem Qx {p q:Prop} (h:q) (e:KH q->p:=by
 intro hK
 refine kW ?_;refine aH (i:=i) (cs':=[.val (.int .i64 q)]) hlt (bH hx) (Z_ 0) rfl rfl rfl rfl rfl rfl rfl rfl ?_;refine kO ?_
 exact hK.out):p:=e ⟨h⟩
theorem Vf {p:Prop} (e:p:=by
 by_cases e:i<f
 ·have:=hni e;rw[hb]at this;cases this
 ·omega):p:=e
theorem Pz {p:Prop} (e:p:=by
 have:=hc.enter (args.map a.eval) w;have e:(List.map a.eval args.toList).toArray=args.map a.eval:=Array.ext' S_;rw[e]
 simpa using this):p:=e
theorem Qi {p q:Prop} (h:q) (e:KH q->p:=by
 intro hK
 refine aH (i:=j) (cs':=[.val (.bool na2),aW xs2, .val (.bool nb2),aW ys2]) hjl hat (Z_ 3) rfl rfl rfl rfl rfl rfl rfl rfl ?_
 exact hK.out):p:=e ⟨h⟩
theorem Ov {p q:Prop} (h:q) (e:KH q->p:=by
 intro hK
 refine kI ?_
 refine kO4 ?_
 refine kB true ?_ ?_
 ·exact T_ (by have:([]:List L8).length=0:=rfl;omega)
 refine kW ?_
 exact hK.out):p:=e ⟨h⟩
theorem Pl {p:Prop} (e:p:=by
 exact U2 (rows:=rows) (by unfold maxLen at hcm;omega) hlc hl hsz (fun i r hi=>by obtain⟨us,h3,h4,_⟩:=hr i r hi;exact⟨us,h3,h4⟩)):p:=e
theorem O4 {p q:Prop} (h:q) (e:KH q->p:=by
 intro hK
 refine kW ?_;refine ac (eh 10 D_ D_ (q:=((10:Int):Rat)) rfl) rfl rfl rfl rfl rfl rfl rfl ?_;refine kW ?_
 exact hK.out):p:=e ⟨h⟩
theorem NS {p q:Prop} (h:q) (e:KH q->p:=by
 intro hK
 rw[show dE (.bin k a b)= .agg ([.val (.int .i64 k.code)]++jq++[.val (vL []), .sl 2 (aE a++aE b)]) from congrArg DV.agg (j0 k a b)]
 exact hK.out):p:=e ⟨h⟩
theorem Km {p q:Prop} (h:q) (e:KH q->p:=by
 intro hK
 refine aP af dx func169 rfl rfl rfl rfl rfl (gk) ?_
 exact hK.out):p:=e ⟨h⟩
theorem P8 {p q:Prop} (h:q) (e:KH q->p:=by
 intro hK
 refine kE ?_;refine kG ?_;refine kO ?_;refine Jc (i:=i) (Qa O_ hi) underlying73 gE O_ rfl rfl rfl rfl rfl rfl ?_
 exact hK.out):p:=e ⟨h⟩
theorem NX {p q:Prop} (h:q) (e:KH q->p:=by
 intro hK
 refine kG ?_
 refine kO3 ?_
 refine Am 13003 (cs:=[.val (vL nm)]) af rfl rfl rfl rfl rfl rfl rfl rfl rfl rfl rfl rfl rfl ?_
 exact hK.out):p:=e ⟨h⟩
theorem O5 {p q:Prop} (h:q) (e:KH q->p:=by
 intro hK
 refine kV func253 ?_;refine kQ (d7 n h1 h2) ?_;refine kQ (d7 d h3 h4) ?_
 exact hK.out):p:=e ⟨h⟩
theorem PS {p q:Prop} (h:q) (e:KH q->p:=by
 intro hK
 refine kI ?_
 refine kO4 ?_
 refine kB false ?_ ?_
 ·exact F_ (by have:([]:List L8).length=0:=rfl;omega)
 exact hK.out):p:=e ⟨h⟩
theorem N1 {p q:Prop} (h:q) (e:KH q->p:=by
 intro hK
 refine kV func262 ?_;refine kQ (gN (h1.fit hk) (h2.fit hk) hg) ?_;refine kQ (hs) ?_
 exact hK.out):p:=e ⟨h⟩
theorem OD {p q:Prop} (h:q) (e:KH q->p:=by
 intro hK
 refine aH (i:=_) (cs':=[.val (vL nm)]) hil (ef hx) (Z_ 0) rfl rfl rfl rfl rfl rfl rfl rfl ?_;refine kW ?_
 exact hK.out):p:=e ⟨h⟩
theorem Qv {p q:Prop} (h:q) (e:KH q->p:=by
 intro hK
 refine mC (i:=k) hko rfl rfl rfl rfl rfl rfl rfl rfl rfl ?_;refine Df (DG hy) rfl rfl rfl rfl rfl rfl rfl rfl rfl ?_
 exact hK.out):p:=e ⟨h⟩
theorem P3 {p q:Prop} (h:q) (e:KH q->p:=by
 intro hK
 refine kO2 ?_
 refine ax (r:= .bool false) rfl rfl rfl rfl rfl rfl rfl (Bt (a:=p.1) (b:=q.1) hls) ?_;refine kW ?_
 exact hK.out):p:=e ⟨h⟩
theorem Pw {p q:Prop} (h:q) (e:KH q->p:=by
 intro hK
 refine kW ?_;refine aH (i:=i) (cs':=[.val (vL x)]) hlt (ef hx) (Z_ 0) rfl rfl rfl rfl rfl rfl rfl rfl ?_
 exact hK.out):p:=e ⟨h⟩
theorem N4 {p:Prop} (e:p:=by
 clear hs key d s1 mu su sg1 sg2 n1 n2;rw[hm1]at h3 ⊢
 by_cases ha:a<0<;>simp only[ha,if_true,if_false]at h3 ⊢ <;>omega):p:=e
theorem Qj {p q:Prop} (h:q) (e:KH q->p:=by
 intro hK
 refine kO2 ?_
 refine ax (r:= .bool true) rfl rfl rfl rfl rfl rfl rfl (Bt (a:=p.1) (b:=q.1) hls) ?_;refine kW ?_
 exact hK.out):p:=e ⟨h⟩
theorem PR {p:Prop} (e:p:=by
 have a:=(gM f _ _ _ _ h1).2 (fun _ _ h=>by cases h);have b:=(gM f _ _ _ _ h).1;exact⟨by omega,fun _=>by omega⟩):p:=e
theorem QE {p:Prop} (e:p:=by
 exact((nG hb6).trans ((nG hb7).trans ((ld Hb7.out hs8 Ho8.out).trans (ld Hb8.out hs9 Ho9.out)))).from _):p:=e
theorem PG {p q:Prop} (h:q) (e:KH q->p:=by
 intro hK
 rw[show dE (.neg a)= .agg ([.val (.int .i64 3)]++jq++[.val (vL []), .sl 1 (aE a)]) from congrArg DV.agg (oI a),hA]
 exact hK.out):p:=e ⟨h⟩
theorem Pr {p:Prop} (e:p:=by
 unfold execOp;rw[h2]
 simp only[e1,a7 hM hy,Option.map_some,Option.map_none,Y_,hr,R_]
 rfl):p:=e
theorem Oh {p:Prop} (e:p:=by
 rw[ws hbad,z0]at hret;refine kX ?_;refine Eq.mpr (congrFun hret _) ?_;exact bK (T:=TT) rfl rfl):p:=e
theorem Tm {p:Prop} (e:p:=by
 refine kI ?_
 refine kO2 ?_
 refine kB false ?_ ?_
 ·exact hb
 refine kW ?_;refine hR _ ?_;rw[hal0];exact kw):p:=e
theorem Qu {p:Prop} (e:p:=by
 simp only[List.size_toArray,L_,U_,n_,Array.length_toList,hsl]
 omega):p:=e
theorem PK {p:Prop} (e:p:=by
 intro r hm;obtain⟨i,hi⟩:=W_ hm;obtain⟨us,h3,h4,_⟩:=hr i r hi;rw[h4.1,(x6 h3).1]):p:=e
theorem EU {p:Prop} (e:p:=by
 split at h<;>cases h;exact .inr rfl):p:=e
theorem OK {p:Prop} (e:p:=by
 have:=hP.bm j cs' h1;exact this.agree (hb.block _ this.lt) (.of_below hb) (fun _ _ h=>h) (iX.same hb rfl)):p:=e
theorem HE {p:Prop} (e:p:=by
 refine kW ?_;exact⟨⟨_,rfl,rfl⟩,⟨rfl,rfl,trivial⟩⟩):p:=e
theorem NT {p:Prop} (e:p:=by
 have hn':¬fn.name= "runtime.NumGoroutine" :=by simpa using hn
 simp[callFunc,Y_,hf,hn',hb]):p:=e
theorem Pc {p:Prop} (e:p:=by
 rw[K_ O_]at hn;exact congrArg (fun b=>RV.one (dB b)) (T_ hn).symm):p:=e
theorem O1 {p:Prop} (e:p:=by
 rcases Nat.eq_zero_or_pos (digs v).length with h|h
 ·have:=aX.1 h;omega
 ·exact h):p:=e
theorem PL {p:Prop} (e:p:=by
 rcases Nat.lt_or_ge b w1.heap.size with h'|h'
 ·exact h'
 ·simp[Array.getElem?_eq_none h']at hbk):p:=e
theorem Pg {p:Prop} (e:p:=by
 intro j a hj
 match j,hj with
 |0,hj=>rw[o_,Nat.add_zero,List.getElem?_map,h];exact hj):p:=e
theorem Pn {p:Prop} (e:p:=by
 by_cases h:op=2
 ·rw[if_pos h,T_ h];rfl
 ·rw[if_neg h,F_ h];rfl):p:=e
theorem NU {p:Prop} (e:p:=by
 rcases h4 with⟨h5,h6⟩| ⟨h5,h6,h7⟩
 ·exact .inl ⟨by omega,h6⟩
 ·exact .inr ⟨by omega,h6,h7⟩):p:=e
theorem PH {p:Prop} (e:p:=by
 rw[L_,List.length_singleton,show l.length-(o.length+1)=kk by omega];exact hog):p:=e
theorem Qo {p:Prop} (e:p:=by
 exact congrArg (fun z=>RV.one (dN .i64 z)) (show(3:Int)=ur l by unfold ur;rw[if_pos h200])):p:=e
theorem QI {p:Prop} (e:p:=by
 obtain⟨op,na,xs,nb,ys,nm,args⟩:=x;exact⟨op,na,xs,nb,ys,nm,args.length,fG args,rfl⟩):p:=e
theorem PI {p:Prop} (e:p:=by
 generalize a.eval y=v at hyv;cases hyv with
 |emp=>exact⟨_,_,rfl⟩
 |sl=>exact⟨_,_,rfl⟩):p:=e
theorem Pp {p:Prop} (e:p:=by
 refine kW ?_;refine dp ?_;exact hR _ (weak ⟨rfl,rfl,hfin,rfl,trivial⟩ ⟨rfl,trivial⟩ rfl)):p:=e
theorem OH {p:Prop} (e:p:=by
 have h4:=Hb9.out;rw[e_,e_,<- Hpt.out,<- Hsn.out]at h4;exact h4):p:=e
theorem N2 {p:Prop} (e:p:=by
 exact((HB.out.trans (hb6.mono hWs)).trans (hb7.mono O_)).trans (Hw8.out.trans Hw9.out)):p:=e
theorem Qw {p:Prop} (e:p:=by
 rw[hnext,jQ,if_neg (fun h2=>by rw[h]at h2;exact absurd h2.1 D_)];exact hbst):p:=e
theorem EC {p:Prop} (e:p:=by
 refine kO4 ?_
 by_cases hnm:nm=[]
 ·refine Qr ?_
  by_cases hl:args.length=2
  ·exact I5
  ·refine kE ?_
   obtain rfl:b=false:=by rw[hb,F_ hl,Bool.and_false]
   exact aj
 ·refine He ?_
  exact JI):p:=e
theorem yF {p:Prop} (e:p:=by
 refine kO ?_;refine uD ?_;refine kW ?_;refine kC (hno) ?_;cases p
 ·exact aj
 ·refine kO3 ?_
  cases z
  ·refine Um ?_
   exact aj
  ·refine VO ?_
   refine kC (hcf) ?_;cases A
   ·exact aj
   ·exact aj):p:=e
theorem r9 {p q:Prop} (h:q) (e:KH q->p:=by
 intro hK
 refine kU func99 ?_;refine Ee ?_;refine LK ?_;refine SG ?_;refine Wa ?_
 exact hK.out):p:=e ⟨h⟩
theorem Ib {p:Prop} (e:p:=by
 refine kE ?_;obtain rfl:b=false:=by rw[hb,F_ hl,Bool.and_false]
 exact aj):p:=e
theorem Li {p:Prop} (e:p:=by
 refine uD ?_;refine kG ?_;refine uD ?_;refine kG ?_;refine uD ?_;refine kG ?_;refine uD ?_;refine kW ?_;refine kC (cF) ?_;cases F
 ·refine eH ?_
  exact OI
 ·refine kW ?_
  refine kC (cG) ?_;refine eH ?_;exact OI):p:=e
theorem kx {p:Prop} (e:p:=by
 refine kW ?_;refine kC (c1) ?_;exact aj):p:=e
theorem H1 {p:Prop} (e:p:=by
 rcases Bool.eq_false_or_eq_true (p q)with hb|hb
 ·rw[hb]at c
  have e:i=f:=by
   exact Vf
  subst e;rw[if_pos hlt];refine kD (c) ?_;exact d9
 ·exact VA):p:=e
theorem pW {p:Prop} (e:p:=by
 obtain rfl:b=false:=by rw[hb];rfl
 exact aj):p:=e
theorem zS {p q:Prop} (h:q) (e:KH q->p:=by
 intro hK
 refine kU func119 ?_;refine gy ?_;refine R2 ?_;refine iQ ?_;refine kC (c2) ?_
 exact hK.out):p:=e ⟨h⟩
theorem np {p q:Prop} (h:q) (e:KH q->p:=by
 intro hK
 refine E7 ?_;refine kW ?_;refine kC (c) ?_
 exact hK.out):p:=e ⟨h⟩
theorem CU {p q:Prop} (h:q) (e:KH q->p:=by
 intro hK
 refine kW ?_;refine vi ?_;refine T8 ?_
 refine kO5 ?_
 refine vi ?_;refine VJ ?_
 exact hK.out):p:=e ⟨h⟩
theorem EM {p q:Prop} (h:q) (e:KH q->p:=by
 intro hK
 refine kR ?_;refine kR ?_;refine nt ?_;refine wq ?_
 exact hK.out):p:=e ⟨h⟩
theorem EE {p q:Prop} (h:q) (e:KH q->p:=by
 intro hK
 refine qv ?_;refine E7 ?_;refine Wi ?_;refine kB false ?_ ?_
 ·exact(by simp[hp0])
 exact hK.out):p:=e ⟨h⟩
theorem tM {p q:Prop} (h:q) (e:KH q->p:=by
 intro hK
 refine bu ?_;refine CC ?_;refine kO ?_
 exact hK.out):p:=e ⟨h⟩
theorem Lb {p q:Prop} (h:q) (e:KH q->p:=by
 intro hK
 refine kV func333 ?_;refine ac (ja O_ h1) rfl rfl rfl rfl rfl rfl rfl ?_;refine kW ?_
 exact hK.out):p:=e ⟨h⟩
theorem wh {p q:Prop} (h:q) (e:KH q->p:=by
 intro hK
 refine gy ?_;refine kE ?_
 iterate 6 refine kO ?_
 exact hK.out):p:=e ⟨h⟩
theorem Ey {p:Prop} (e:p:=by
 refine kU func99 ?_;refine Ee ?_;refine LK ?_;refine yg ?_;exact aj):p:=e
theorem Px {p:Prop} (e:p:=by
 refine kW ?_;refine kC (c) ?_;exact aj):p:=e
theorem O9 {p:Prop} (e:p:=by
 rw[hr]at c;refine Q2 ?_;refine Ee ?_;refine xx ?_;refine T6 ?_;refine SG ?_;refine Mx ?_;refine Vx ?_;refine Us ?_;refine ac (lY hy O_) rfl rfl rfl rfl rfl rfl rfl ?_;refine kC (c) ?_;exact aj):p:=e
theorem rH {p q:Prop} (h:q) (e:KH q->p:=by
 intro hK
 refine CC ?_
 refine kO2 ?_
 exact hK.out):p:=e ⟨h⟩
theorem zX {p:Prop} (e:p:=by
 refine kW ?_;refine kC (ih) ?_;refine yg ?_;exact aj):p:=e
theorem CY {p:Prop} (e:p:=by
 refine iQ ?_;refine kQ (c2) ?_;refine kC (c3) ?_;exact aj):p:=e
theorem Dd {p q:Prop} (h:q) (e:KH q->p:=by
 intro hK
 refine kW ?_;refine vi ?_;refine U8 ?_;refine vi ?_;refine T3 ?_
 exact hK.out):p:=e ⟨h⟩
theorem JF {p q:Prop} (h:q) (e:KH q->p:=by
 intro hK
 refine kU func158 ?_;refine zp ?_;refine kB false ?_ ?_
 ·exact sG ha0
 refine kO5 ?_
 exact hK.out):p:=e ⟨h⟩
theorem EO {p:Prop} (e:p:=by
 refine SG ?_;refine kW ?_;refine kC (ih') ?_;refine yg ?_;exact aj):p:=e
theorem OP {p q:Prop} (h:q) (e:KH q->p:=by
 intro hK
 refine ek 7003 (m1:=(q0::qr).length) (m2:=1) af D_ (by show((q0::qr).length+1)*64<=_;omega) rfl rfl rfl rfl rfl rfl rfl rfl rfl rfl rfl (.own rfl rfl) rfl rfl rfl ?_;refine kW ?_
 exact hK.out):p:=e ⟨h⟩
theorem Kt {p q:Prop} (h:q) (e:KH q->p:=by
 intro hK
 refine kT ?_
 refine kO3 ?_
 refine kC (cS) ?_;refine kB false ?_ ?_
 ·exact F_ hs
 exact hK.out):p:=e ⟨h⟩
theorem HT {p:Prop} (e:p:=by
 refine Us ?_;refine kC (c) ?_;exact aj):p:=e
theorem QD {p:Prop} (e:p:=by
 cases b
 ·exact Tm
 ·refine kI ?_
  refine kO2 ?_
  refine kB true ?_ ?_
  ·exact hb
  refine kG ?_
  refine kO4 ?_
  refine Wc ?_;refine hR _ ?_;rw[hal0];exact kw):p:=e
theorem C9 {p q:Prop} (h:q) (e:KH q->p:=by
 intro hK
 refine OM ?_;refine vi ?_
 refine kO4 ?_
 refine Sd ?_
 exact hK.out):p:=e ⟨h⟩
theorem Ln {p q:Prop} (h:q) (e:KH q->p:=by
 intro hK
 refine kV func299 ?_;refine kC (t2) ?_;refine kG ?_;refine Ss ?_;refine Tl ?_
 exact hK.out):p:=e ⟨h⟩
theorem Qd {p q:Prop} (h:q) (e:KH q->p:=by
 intro hK
 refine kW ?_;refine iT ((c1.rd (ts:=[.own 6001 (List.cons a r).length 1 9, .d (dL p.1)]) (b:=[(6001,av (List.cons a r))]) rfl rfl)) rfl rfl rfl rfl rfl ⟨rfl,trivial⟩ rfl rfl rfl rfl ?_
 exact hK.out):p:=e ⟨h⟩
theorem Pj {p:Prop} (e:p:=by
 refine kE ?_;rw[List.drop_eq_nil_of_le O_,lF]at h2;have hdd:d=lF args:=O_
 rw[uq,<- hdd];refine jP ?_;refine kI ?_;refine kO ?_;refine kJ ((d+1:Nat)) ?_;exact aj):p:=e
theorem Aw {p q:Prop} (h:q) (e:KH q->p:=by
 intro hK
 refine kW ?_;refine vi ?_
 refine kO2 ?_
 exact hK.out):p:=e ⟨h⟩
theorem Pd {p q:Prop} (h:q) (e:KH q->p:=by
 intro hK
 refine kE ?_;refine kG ?_
 iterate 6 refine kO ?_
 refine kJ ((i+n:Nat)) ?_;refine Ux af (l:=s) (i:=i) (j:=i+n) O_ O_ rfl rfl rfl rfl rfl rfl rfl rfl rfl ?_
 exact hK.out):p:=e ⟨h⟩
theorem y8 {p:Prop} (e:p:=by
 refine kW ?_;refine kC (Ax) ?_;exact aj):p:=e
theorem Lm {p q:Prop} (h:q) (e:KH q->p:=by
 intro hK
 refine RI ?_;refine kC (cB) ?_
 iterate 8 refine kO ?_
 refine KZ ?_;refine kC (cE) ?_
 exact hK.out):p:=e ⟨h⟩
theorem Dg {p q:Prop} (h:q) (e:KH q->p:=by
 intro hK
 refine kV func133 ?_;refine s9 3 ?_
 exact hK.out):p:=e ⟨h⟩
theorem Qg {p q:Prop} (h:q) (e:KH q->p:=by
 intro hK
 refine ek 7003 (m1:=0) (m2:=1) af D_ (by show(0+1)*64<=_;omega) rfl rfl rfl rfl rfl rfl rfl rfl rfl rfl rfl (.nil rfl rfl) rfl rfl rfl ?_;refine kW ?_
 exact hK.out):p:=e ⟨h⟩
theorem DH {p q:Prop} (h:q) (e:KH q->p:=by
 intro hK
 refine gy ?_;refine R9 ?_;refine kQ (c) ?_
 exact hK.out):p:=e ⟨h⟩
theorem I1 {p q:Prop} (h:q) (e:KH q->p:=by
 intro hK
 refine aP af dx func85 rfl rfl rfl rfl rfl (xt) ?_;refine gy ?_
 exact hK.out):p:=e ⟨h⟩
theorem IG {p q:Prop} (h:q) (e:KH q->p:=by
 intro hK
 refine kU func15 ?_;refine gy ?_;refine G8 ?_;refine u6 ?_;refine Ue ?_
 exact hK.out):p:=e ⟨h⟩
theorem PN {p q:Prop} (h:q) (e:KH q->p:=by
 intro hK
 refine kU func91 ?_;refine kR ?_;refine kI ?_;refine OM ?_;refine gL af (i:=i) (c:=s[i]) hx0 rfl rfl rfl rfl rfl rfl rfl rfl ?_;refine kC (hc0) ?_
 exact hK.out):p:=e ⟨h⟩
theorem K9 {p q:Prop} (h:q) (e:KH q->p:=by
 intro hK
 refine kV func155 ?_;refine kC (kM (na:=na) hw c1) ?_
 exact hK.out):p:=e ⟨h⟩
theorem OS {p q:Prop} (h:q) (e:KH q->p:=by
 intro hK
 refine kU func35 ?_;refine gy ?_;refine kQ (cT) ?_;refine kZ (cs) ?_;refine kD (cn) ?_;refine x9 ?_;refine kW ?_;refine kD (cf) ?_
 exact hK.out):p:=e ⟨h⟩
theorem QH {p:Prop} (e:p:=by
 refine kG ?_;refine U4 ?_;generalize hz:w.take (w.length-k)++[46]++w.drop (w.length-k)=z;have hzB:=aJ z;refine kG ?_;refine Tz ?_;exact aj):p:=e
theorem Ki {p q:Prop} (h:q) (e:KH q->p:=by
 intro hK
 refine kV func173 ?_;refine kC (me (na:=na) hw c1) ?_
 exact hK.out):p:=e ⟨h⟩
theorem NQ {p q:Prop} (h:q) (e:KH q->p:=by
 intro hK
 refine kU func264 ?_;refine y2 ?_;refine kG ?_
 refine kO4 ?_
 refine kB false ?_ ?_
 ·exact(by simpa using hn)
 refine kW ?_;refine kC (c) ?_
 exact hK.out):p:=e ⟨h⟩
theorem N9 {p q:Prop} (h:q) (e:KH q->p:=by
 intro hK
 refine I3 ?_;refine gy ?_;refine KT ?_;refine kQ (cd) ?_;refine kZ (jk t (u::r) a 0) ?_;refine kD (dA u r a 0) ?_
 exact hK.out):p:=e ⟨h⟩
theorem OB {p:Prop} (e:p:=by
 refine ax rfl rfl rfl rfl rfl rfl rfl (bC (a:=l[i].1) (b:=s) e) ?_;refine HL ?_;refine kO ?_;refine kC (zo l[i].1) ?_;exact aj):p:=e
theorem Pi {p:Prop} (e:p:=by
 refine kV func96 ?_;refine JM ?_;refine kW ?_;refine ac (nV h s0 O_ e0) rfl rfl rfl rfl rfl rfl rfl ?_;exact aj):p:=e
theorem ON {p q:Prop} (h:q) (e:KH q->p:=by
 intro hK
 refine ek 5001 (m1:=0) (m2:=1) af D_ D_ rfl rfl rfl rfl rfl rfl rfl rfl rfl rfl rfl (.nil rfl rfl) rfl rfl rfl ?_
 exact hK.out):p:=e ⟨h⟩
theorem KA {p q:Prop} (h:q) (e:KH q->p:=by
 intro hK
 refine ac (ja O_ h2) rfl rfl rfl rfl rfl rfl rfl ?_
 exact hK.out):p:=e ⟨h⟩
theorem NZ {p:Prop} (e:p:=by
 refine kW ?_
 have:t7 s= .tup [yi,dB false]:=by
  unfold t7 Sk NC
  simp only[H7,h0,h1,h2,h3,h4,if_false]
 exact vW):p:=e
theorem Oj {p q:Prop} (h:q) (e:KH q->p:=by
 intro hK
 refine UA ?_;refine ac (bF (F_ (show ¬(num b:Int)=1 by omega))) rfl rfl rfl rfl rfl rfl rfl ?_;refine kW ?_
 exact hK.out):p:=e ⟨h⟩
theorem G5 {p:Prop} (e:p:=by
 refine eE (T:=TT) rfl ?_ ?_
 ·exact bne_iff_ne.2 hz
 exact aj):p:=e
theorem Dj {p:Prop} (e:p:=by
 refine kO2 ?_
 refine kE ?_;exact aj):p:=e
theorem C5 {p:Prop} (e:p:=by
 refine kO2 ?_
 refine kT ?_;exact aj):p:=e
theorem Oa {p q:Prop} (h:q) (e:KH q->p:=by
 intro hK
 refine kW ?_;refine ac (gN (h.2.fit O_) (h'.2.fit O_) hgz) rfl rfl rfl rfl rfl rfl rfl ?_;refine kW ?_
 exact hK.out):p:=e ⟨h⟩
theorem QL {p q:Prop} (h:q) (e:KH q->p:=by
 intro hK
 refine aH (i:=i) (cs':=ab o1 na1 xs1 nb1 ys1 nm1 n1 cs1) hlt hat (Z_ 6) rfl rfl rfl rfl rfl rfl rfl rfl ?_
 exact hK.out):p:=e ⟨h⟩
theorem OF {p:Prop} (e:p:=by
 refine kW ?_;refine ac (f4 sn (sp.mono O_) O_ hp0 hq) rfl rfl rfl rfl rfl rfl rfl ?_;exact aj):p:=e
theorem OC {p:Prop} (e:p:=by
 refine um ?_;refine eE (T:=TT) rfl ?_ ?_
 ·exact(HG.2 h0)
 refine eH ?_;rw[hcyc (hnN.trans h0)];rfl):p:=e
theorem KJ {p:Prop} (e:p:=by
 iterate 2 refine kG ?_
 refine kO ?_;refine kT ?_;exact aj):p:=e
theorem Ql {p:Prop} (e:p:=by
 refine kW ?_;refine ac (eh 0 D_ D_ e.symm) rfl rfl rfl rfl rfl rfl rfl ?_;exact aj):p:=e
theorem OE {p:Prop} (e:p:=by
 split at h
 ·rename_i e1 r1 h1
  exact fun t ht=>iw f _ _ _ _ h1 t (iw f _ _ _ _ h t ht)
 ·exact nI):p:=e
theorem Om {p:Prop} (e:p:=by
 refine aP af dx func121 rfl rfl rfl rfl rfl (gk) ?_;refine gy ?_;refine OG ?_;exact d9):p:=e
theorem Of {p:Prop} (e:p:=by
 refine aP af dx func78 rfl rfl rfl rfl rfl (gk) ?_;refine gy ?_;refine OG ?_;exact d9):p:=e
theorem Oq {p:Prop} (e:p:=by
 refine kE ?_;refine eH ?_;have e:l.drop i=[]:=List.drop_of_length_le O_;rw[e]at hv;exact tN):p:=e
theorem Ko {p:Prop} (e:p:=by
 refine kB false ?_ ?_
 ·exact(by simp[h])
 exact aj):p:=e
theorem Kx {p:Prop} (e:p:=by
 refine kW ?_;exact⟨⟨_,rfl,rfl,rfl⟩,⟨rfl,trivial⟩⟩):p:=e
theorem Ju {p:Prop} (e:p:=by
 refine iQ ?_;refine kC (c2) ?_;refine kE ?_;exact aj):p:=e
theorem PF {p:Prop} (e:p:=by
 refine iQ ?_;refine kC (c2) ?_;refine lC ?_;refine kB true ?_ ?_
 ·exact bne_iff_ne.2 hne
 exact aj):p:=e
theorem P2 {p:Prop} (e:p:=by
 refine IE ?_;refine K4 ?_;refine kZ (jk t r2 a 0) ?_;refine kD (cy) ?_;exact d9):p:=e
theorem OU {p:Prop} (e:p:=by
 refine kW ?_;refine kC (cv) ?_;refine lC ?_;refine kB true ?_ ?_
 ·exact bne_iff_ne.2 hv
 exact aj):p:=e
theorem OJ {p:Prop} (e:p:=by
 refine pr ?_;refine ax rfl rfl rfl rfl rfl rfl rfl (kf (a:=a) (b:=a) rfl) ?_;exact aj):p:=e
theorem OA {p:Prop} (e:p:=by
 refine SC ?_;refine kD (dA t (u::r4) a 0) ?_;refine F6 ?_;refine kD (cy) ?_;exact d9):p:=e
theorem vR {p:Prop} (e:p:=by
 rw[hr]at c;refine r9 ?_;exact Px):p:=e
theorem HO {p q:Prop} (h:q) (e:KH q->p:=by
 intro hK
 refine kU func133 ?_;refine EM ?_;refine nt ?_
 refine kO2 ?_
 exact hK.out):p:=e ⟨h⟩
theorem I5 {p:Prop} (e:p:=by
 refine kT ?_;obtain rfl:b=true:=by rw[hb];simp[hnm,hl]
 exact aj):p:=e
theorem Qh {p:Prop} (e:p:=by
 rw[hr]at c;refine RE ?_;refine Ee ?_;refine xx ?_;refine Ut ?_;refine SG ?_;refine Mx ?_;refine Vw ?_;exact HT):p:=e
theorem Qq {p:Prop} (e:p:=by
 rw[hr]at c;refine RG ?_;refine Ee ?_;refine xx ?_;refine Ts ?_;refine SG ?_;refine Mx ?_;refine VD ?_;exact HT):p:=e
theorem N8 {p:Prop} (e:p:=by
 rw[hr]at c;refine Rt ?_;refine Ee ?_;refine xx ?_;refine Ud ?_;refine SG ?_;refine Mx ?_;refine Wj ?_;exact HT):p:=e
theorem Qy {p:Prop} (e:p:=by
 by_cases hl:args.length=0
 ·refine kT ?_
  obtain rfl:b=true:=by rw[hb];simp[hl]
  exact aj
 ·exact Ib):p:=e
theorem JI {p:Prop} (e:p:=by
 obtain rfl:b=false:=by rw[hb];simp[hnm]
 exact aj):p:=e
end
end Go.Proofs.YtnchbpoopnjghaaGreatDoor
