/- Tactic texts that stand more than once. -/
import Derived.WalkKit
import Derived.Deep.OwnRows
import Derived.Lib.AppendIntMem
import Derived.Lib.ItoaNum
import Derived.WalkSpells
import Derived.Lib.Hide
import Derived.Laws.CopyRow
import Derived.Laws.Rows
import Derived.Deep.AppendLies
import Derived.Deep.LoopGhost
import Derived.Scope
import Derived.Deep.AppendSrc
import Derived.Lib.UnsafeStr
import Derived.Laws.MakeOwn
import Derived.Orders
import Derived.WalkLawsBesides
import Derived.BigQuiet
import Derived.Deep.QuietTactic
import Derived.Deep.DeepMust
import Derived.Deep.DeepFit
import Derived.Maps.AppendAt
import Derived.Lib.LazyBuf
import Derived.Deep.RegionHeld3
import Derived.Deep.DrawnRows
import Derived.Deep.RegionWith
import Derived.Deep.DeepCutAuto
import Derived.RangeFuncBox
import Derived.RangeFuncLeaves
import Derived.Shelf.Abstract
import Derived.OwnWalkIn
import Derived.TacticsInMore
import Derived.LoopNIn
import Derived.LoopIn
import Derived.Shelf.Strings.Builder1
import Derived.Shelf.Strings.Builder2
import Derived.Shelf.Strings.OnBuilder
import Derived.Shelf.Strings.Trim
import Derived.Shelf.Small.Utf8
import Derived.Shelf.Small.Bits
import Derived.Shelf.Small.Strs
import Derived.Shelf.Small.Wraps
import Derived.Shelf.Strings.BuilderF
import Derived.Shelf.Strings.BuilderK
import Derived.Shelf.Utf8.RuneCount
import Derived.Shelf.Strings.Builder2Cap
import Derived.Shelf.Strconv.Atoi
import Derived.Shelf.Strconv.Itoa0
import Derived.Shelf.Strconv.Itoa1
import Derived.Shelf.LaysM
import Derived.Shelf.Strconv.Itoa2
import Derived.Shelf.Strconv.Itoa3
import Derived.Shelf.Strconv.AtoiErrFast
import Derived.Shelf.Strconv.ParseIntEmpty
import Derived.Shelf.Strconv.AtoiFail
import Derived.Shelf.Strconv.Clone
import Derived.Shelf.Strconv.SyntaxError
import Derived.Shelf.LaysC
import Derived.Shelf.Strconv.ToError
import Derived.Shelf.Strconv.Lower
import Derived.Shelf.Strconv.ParseUint10
import Derived.Shelf.Strconv.ParseUint10Empty
import Derived.Shelf.Strconv.ParseUint10Any
import Derived.Shelf.Strconv.ParseInt10
import Derived.Shelf.Strconv.AtoiLong
import Derived.Shelf.Strconv.AtoiInnerAll
import Derived.Shelf.Strconv.RangeError
import Derived.Shelf.Strconv.ToErrorRange
import Derived.Shelf.Strconv.AtoiAll
import Derived.Shelf.Strings.Search1
import Derived.Shelf.Strings.Search2
import Derived.Shelf.Strings.Search3
import Derived.Shelf.Strings.Cut
import Derived.Shelf.Strings.Count
import Derived.Shelf.Strings.Shaped
import Derived.Shelf.Sort.Plain
import Derived.Shelf.Strings.Prefix
import Derived.Shelf.Strings.Split
import Derived.Shelf.Strings.SplitShaped
import Derived.Shelf.Unicode.Decode
import Derived.Shelf.Strings.Runes
import Derived.Shelf.Strings.RuneCount
import Derived.Shelf.Strings.AsciiSet
import Derived.Shelf.Strings.Explode
import Derived.Shelf.Bits.Mul64
import Derived.Shelf.Strings.Repeat
import Derived.Shelf.Unicode.DecodeSlow
import Derived.Shelf.Unicode.DecodeAny
import Derived.Shelf.Strings.BuilderCap
import Derived.Ground.Names2Prog
import Derived.Shelf.Slices.ReverseS
import Derived.Shelf.Slices.CompactS
import Derived.Shelf.Slices.SearchI
import Derived.Shelf.Slices.Cells
import Derived.Shelf.Slices.In.SortNone
import Derived.Ground.SlgnProg
import Derived.Shelf.SlicesE.Clone
import Derived.Deep.CutBlock
import Derived.ProofKit
import Derived.OpenShut
import Derived.ChangeCalls
import Derived.SizedLaws
import Derived.Lib.SmallJoins
set_option maxHeartbeats 100000000
set_option linter.all false
namespace Go.Proofs.YtnchbpoopnjghaaGreatDoor
def F_:=@decide_eq_false
def T_:=@decide_eq_true
def L_:=@List.length_append
def K_:=@List.take_of_length_le
def G_:=@List.getElem?_eq_some_iff
def H_:=@List.getD_eq_getElem?_getD
def R_:=@Result.andThen_ok
def A_:=@Array.getElem?_eq_some_iff
def E_:=@List.eq_nil_of_length_eq_zero
def Z_:=@Nat.zero_lt_succ
def B_:=@Bool.and_eq_true
def M_:=@List.mem_of_getElem?
def Y_:=@Sem.run_bind
def N_:=@Nat.le_of_ble_eq_true
def P_:=@Nat.mul_le_mul_right
def Q_:=@List.getElem?_eq_getElem
def U_:=@List.length_take
def V_:=@Nat.le_trans
def W_:=@List.getElem?_of_mem
def X_:=@Option.some.injEq
def I_:=@List.all_eq_true
def J_:=@Nat.zero_add
def a_:=@Sem.run_pure
def b_:=@Int.natAbs_natCast
def c_:=@List.append_nil
def d_:=@List.mem_singleton
def e_:=@List.append_assoc
def f_:=@List.mem_cons
def g_:=@List.getElem?_append_right
def h_:=@of_decide_eq_true
def j_:=@List.length_map
def k_:=@Nat.lt_of_lt_of_le
def l_:=@Nat.le_refl
def m_:=@Nat.lt_succ_self
def n_:=@List.length_drop
def o_:=@Nat.mul_one
def O_{p:Prop}(h:p:=by omega):p:=h
def D_{p:Prop}(h:p:=by decide):p:=h
def S_{p:Prop}(h:p:=by simp):p:=h
open Go.RowKit
section
open Go.RowKit Go.Shelf
open Go.Shelf
open Go.ChangeShapes Go.WideShapes Go.ChangeAt Go.RowKit Go.Joins
/-- a hypothesis that omega does not ak into -/
structure KH (q:Prop):Prop where
  out:q
def VA{p:Prop}(e:p:=by
 obtain⟨k,cy,zs,hk,rfl,rfl,rfl,hcy,hv,hown,hb⟩:=hrel;have Hv:=Lib.hid hv;have Hb:=Lib.hid hb;clear hv hb hown1;by_cases hkn:k<n
 ·obtain⟨b1,o1,rfl,hbb1,hc1⟩:=Hx.out.at (by omega);have hc1:=(Hb.out.cell (p:=⟨b1,o1+k,none⟩) hbb1).trans (hc1 k hkn);have hx1:=Hx.out.wd.getD k;generalize hxx:xs.getD k 0=x at hc1 hx1;have Hxx:=Lib.hid hxx;clear hxx;have hkn':(k:Int)<n:=by omega
  by_cases hkm:k<m
  ·obtain⟨b2,o2,rfl,hbb2,hc2⟩:=Hy.out.at (by omega);have hc2:=(Hb.out.cell (p:=⟨b2,o2+k,none⟩) hbb2).trans (hc2 k hkm);have hy1:=Hy.out.wd.getD k;generalize hyy:ys.getD k 0=y at hc2 hy1;have Hyy:=Lib.hid hyy;clear hyy;have hkm':(k:Int)<m:=by omega
   clear hbb1 hbb2
   go_wp2_with (at_builtin;refine wpList_append_fits _ rfl _ _ 34 rfl w.heap.size 135 i0 1 underlying34 hi hz1 w.heap.size k (n+1) (zs.map bP) rfl (hown.alloc _) ⟨wr.heap.size,0,none⟩ 1 1 [.int .u32 (((cy:Int)+x+y)%4294967296)] rfl rfl (cell_one_new _ _ _) (by simp[Value.oneCell']) (by omega) ?_;intro w2 hown2 hg2)
   go_roundw
   case rel=>
    have hzl:zs.length=k:=by have:=hown.1;simpa using this
    exact⟨k+1,(cy+x+y)/4294967296,zs++[(cy+x+y)%4294967296],by omega,by go_num,rfl,by go_num,by omega,
     ⟨Hv.out.1.append (Wd.cons (by omega) Wd.nil),by have:=vz hzl Hv.out.2;rw[Hxx.out,Hyy.out]at this;exact this⟩,by rw[List.map_append,List.map_cons,List.map_nil,show bP ((cy+x+y)%4294967296)= .int .u32 (((cy:Int)+x+y)%4294967296) by unfold bP;go_num];exact hown2,
     (Hb.out.alloc Hb.out.size _).grown hg2 (by have:=Hb.out.size;simp;omega) (fun j hj=>by cases hj;exact Nat.le_refl _)⟩
   case measure=>simp[intOf];omega
  ·have hkm':¬(k:Int)<m:=by omega
   have hyy:ys.getD k 0=0:=by rw[List.getD_eq_getElem?_getD,List.getElem?_eq_none (by rw[Hy.out.len];omega)];rfl
   have Hyy:=Lib.hid hyy;clear hyy hbb1
   go_wp2_with (at_builtin;refine wpList_append_fits _ rfl _ _ 34 rfl w.heap.size 135 i0 1 underlying34 hi hz1 w.heap.size k (n+1) (zs.map bP) rfl (hown.alloc _) ⟨wr.heap.size,0,none⟩ 1 1 [.int .u32 (((cy:Int)+x)%4294967296)] rfl rfl (cell_one_new _ _ _) (by simp[Value.oneCell']) (by omega) ?_;intro w2 hown2 hg2)
   go_roundw
   case rel=>
    have hzl:zs.length=k:=by have:=hown.1;simpa using this
    exact⟨k+1,(cy+x+0)/4294967296,zs++[(cy+x+0)%4294967296],by omega,by go_num,rfl,by go_num,by omega,
     ⟨Hv.out.1.append (Wd.cons (by omega) Wd.nil),by have:=vz hzl Hv.out.2;rw[Hxx.out,Hyy.out]at this;exact this⟩,by rw[List.map_append,List.map_cons,List.map_nil,show bP ((cy+x+0)%4294967296)= .int .u32 (((cy:Int)+x)%4294967296) by unfold bP;go_num];exact hown2,
     (Hb.out.alloc Hb.out.size _).grown hg2 (by have:=Hb.out.size;simp;omega) (fun j hj=>by cases hj;exact Nat.le_refl _)⟩
   case measure=>simp[intOf];omega
 ·obtain rfl:k=n:=by omega
  have hkn':¬(k:Int)<k:=by omega
  have hzl:zs.length=k:=by have:=hown.1;simpa using this
  have hxt:xs.take k=xs:=List.take_of_length_le (by rw[Hx.out.len];exact Nat.le_refl _);have hyt:ys.take k=ys:=List.take_of_length_le (by rw[Hy.out.len];omega);have hfin:val zs+4294967296^k*cy=val xs+val ys:=by have:=Hv.out.2;rwa[hxt,hyt]at this
  have Hfin:=Lib.hid hfin;have Hzl:=Lib.hid hzl;clear hfin hxt hyt hzl;rcases(show cy=0∨cy=1 by omega)with h|h
  ·subst h
   go_wp2_with fail
   go_ret
   exact⟨_,_,_,zs,rfl,ia hown Hv.out.1 (by omega) (by omega),⟨by have:=Hfin.out;omega,by rw[Hzl.out];omega,fun h=>by rw[Hzl.out]at h;omega⟩,Hb.out⟩
  ·subst h
   go_wp2_with (at_builtin;refine wpList_append_fits _ rfl _ _ 34 rfl w.heap.size 135 i0 1 underlying34 hi hz1 w.heap.size k (k+1) (zs.map bP) rfl (hown.alloc _) ⟨wr.heap.size,0,none⟩ 1 1 [.int .u32 1] rfl rfl (cell_one_new _ _ _) (by simp[Value.oneCell']) (by omega) ?_;intro w2 hown2 hg2)
   go_ret
   have hwz:Wd (zs++[1]):=Hv.out.1.append (Wd.cons (by omega) Wd.nil);have hown3:w2.ownsRow w.heap.size 135 1 (.slice (some ⟨w.heap.size,0,none⟩) (k+1) (k+1)) (k+1) ((zs++[1]).map bP):=by rw[List.map_append,List.map_cons,List.map_nil];exact hown2
   exact⟨_,_,_,zs++[1],rfl,ia hown3 hwz (by omega) (by omega),⟨by have:=Hfin.out;rw[bV,Hzl.out];simp only[val];omega,by rw[List.length_append,Hzl.out];simp,fun _=>by rw[bV,Hzl.out];simp only[val];omega⟩,
    (Hb.out.alloc Hb.out.size _).grown hg2 (by have:=Hb.out.size;simp;omega) (fun j hj=>by cases hj;exact Nat.le_refl _)⟩):p:=e
def VF{p:Prop}(e:p:=by
 have hin':(i:Int)<n:=by omega
 have hx1:=Hx.out.wd.getD i;obtain⟨b1,o1,rfl,hbb1,hc1⟩:=Hx.out.at (by omega);have Hc1:=Lib.hid hc1;clear hc1;have hcx:True:=trivial;generalize hxx:xs.getD i 0=x at hx1;have Hxx:=Lib.hid hxx;clear hxx
 go_wp2_with fail
 go_loopw [7,8] (fun cr k wr=>∃(k' cy:Nat)(us:List Nat),k'<=m/\k= .int .i64 k'/\cr= .int .u64 cy/\cy<4294967296 /\
  (Wd us/\us.length=n+m/\(∀j,i+m<=j->us.getD j 0=0)/\val us+4294967296^(i+k')*cy=val (xs.take i)*val ys+4294967296^i*(x*val (ys.take k')))/\eK wr w.heap.size us/\Below w.heap.size w wr)
  (fun _ k _=>m-(intOf k).toNat)
 case atStart=>exact⟨0,0,zs,Nat.zero_le _,rfl,rfl,by omega,⟨Hv.out.1,Hv.out.2.1,Hv.out.2.2.1,by rw[Hv.out.2.2.2];simp[val]⟩,Hr.out,Hb.out⟩
 case round=>
  obtain⟨k,cy,us,hk,rfl,rfl,hcy,hv2,hrow2,hb2⟩:=hrel;have hfr:=fun j=>hrow2.frozen j;have hfr1:=hfr (i+k);have hfr2:=hfr (i+m);have Hv2:=Lib.hid hv2;have Hb2:=Lib.hid hb2;have Hr2:=Lib.hid hrow2;clear hv2 hb2 hrow2 hfr hcx;by_cases hkm:k<m
  ·have hkm':(k:Int)<m:=by omega
   have hy1:=Hy.out.wd.getD k;have hz1:=Hv2.out.1.getD (i+k);obtain⟨b2,o2,rfl,hbb2,hc2⟩:=Hy.out.at (by omega);have Hc2:=Lib.hid hc2;clear hc2;have hcx:=(Hb2.out.cell (p:=⟨b1,o1+i,none⟩) hbb1).trans (Hc1.out i hin);rw[Hxx.out]at hcx;have hcy1:=(Hb2.out.cell (p:=⟨b2,o2+k,none⟩) hbb2).trans (Hc2.out k hkm);have hcz:=Hr2.out.cell (i+k) (by rw[Hv2.out.2.1];omega);generalize hyy:ys.getD k 0=y at hcy1 hy1;generalize hzz:us.getD (i+k) 0=z at hcz hz1;have Hyy:=Lib.hid hyy;have Hzz:=Lib.hid hzz;have hmul:=vW x y hx1 hy1;have hmul1:=hmul.1;have hmul2:=hmul.2;clear hyy hzz hmul hfr2;have hw1:IntKind.i64.wrap ((i:Int)+k)=(i:Int)+k:=IntWalk.i64_in _ (by omega);have hw2:((i:Int)+k).toNat=i+k:=by omega
   have hw3:(0:Int)<=(i:Int)+k:=by omega
   have hw4:(i:Int)+k<(n:Int)+m:=by omega
   go_wp2_with fail
   go_quiet (fail)
   clear hw1 hw2
   go_wp2_with fail
   go_roundw
   case rel=>
    have e:((cy:Int)+z+(x:Int)*y)=((cy+x*y+z:Nat):Int):=by push_cast;omega
    have hmc:=vT hx1 hy1 hz1 hcy;have hst:=qv (by rw[Hv2.out.2.1];omega) Hv2.out.2.2.2;rw[Hyy.out,Hzz.out]at hst;generalize ht:cy+x*y+z=t at e hmc hst;rw[e];have e1:Value.int .u32 ((t:Int)%4294967296)=bP (t%4294967296):=by unfold bP;go_num
    rw[e1];exact⟨k+1,t/4294967296,us.set (i+k) (t%4294967296),by omega,by go_num,by go_num,hmc.2,
     ⟨di Hv2.out.1 _ _ (by omega),by rw[List.length_set];exact Hv2.out.2.1,fun j hj=>by rw[getD_set_ne (by omega)];exact Hv2.out.2.2.1 j hj,hst⟩,(Hr2.out.drewN _).set _ _,(Below.drewN Hb2.out _).setCell (Nat.le_refl _) _⟩
   case measure=>simp[intOf];omega
  ·exact Ss):p:=e
def VK{p:Prop}(e:p:=by
 obtain⟨k,cy,zs,hk,rfl,rfl,hcy,hv,hrow,hb⟩:=hrel;have hcell:=hrow.cell k (by rw[hv.2.1];omega);have hfr:=hrow.frozen k;have Hv:=Lib.hid hv;have Hb:=Lib.hid hb;have Hr:=Lib.hid hrow;clear hv hb hrow hmk;by_cases hkn:k<n
 ·obtain⟨b1,o1,rfl,hbb1,hc1⟩:=Hx.out.at (by omega);have hc1:=(Hb.out.cell (p:=⟨b1,o1+k,none⟩) hbb1).trans (hc1 k hkn);have hx1:=Hx.out.wd.getD k;generalize hxx:xs.getD k 0=x at hc1 hx1;have Hxx:=Lib.hid hxx;clear hxx;have hkn':(k:Int)<n:=by omega
  by_cases hkm:k<m
  ·obtain⟨b2,o2,rfl,hbb2,hc2⟩:=Hy.out.at (by omega);have hc2:=(Hb.out.cell (p:=⟨b2,o2+k,none⟩) hbb2).trans (hc2 k hkm);have hy1:=Hy.out.wd.getD k;generalize hyy:ys.getD k 0=y at hc2 hy1;have Hyy:=Lib.hid hyy;clear hyy;have hkm':(k:Int)<m:=by omega
   clear hbb1 hbb2
   go_wp2_with fail
   go_roundw
   case rel=>
    have e:Value.int .u32 (((cy:Int)+x+y)%4294967296)=bP ((cy+x+y)%4294967296):=by unfold bP;go_num
    rw[e];refine⟨k+1,(cy+x+y)/4294967296,zs.set k ((cy+x+y)%4294967296),by omega,by go_num,by go_num,by omega,
     ⟨di Hv.out.1 _ _ (by omega),by rw[List.length_set];exact Hv.out.2.1,fun j hj=>by rw[getD_set_ne (by omega)];exact Hv.out.2.2.1 j (by omega),?_⟩,Hr.out.set _ _,Hb.out.setCell (Nat.le_refl _) _⟩
    exact ST
   case measure=>simp[intOf];omega
  ·have hkm':¬(k:Int)<m:=by omega
   have hyy:ys.getD k 0=0:=by rw[List.getD_eq_getElem?_getD,List.getElem?_eq_none (by rw[Hy.out.len];omega)];rfl
   have Hyy:=Lib.hid hyy;clear hyy hbb1
   go_wp2_with fail
   go_roundw
   case rel=>
    have e:Value.int .u32 (((cy:Int)+x)%4294967296)=bP ((cy+x+0)%4294967296):=by unfold bP;go_num
    rw[e];refine⟨k+1,(cy+x+0)/4294967296,zs.set k ((cy+x+0)%4294967296),by omega,by go_num,by go_num,by omega,
     ⟨di Hv.out.1 _ _ (by omega),by rw[List.length_set];exact Hv.out.2.1,fun j hj=>by rw[getD_set_ne (by omega)];exact Hv.out.2.2.1 j (by omega),?_⟩,Hr.out.set _ _,Hb.out.setCell (Nat.le_refl _) _⟩
    exact ST
   case measure=>simp[intOf];omega
 ·obtain rfl:k=n:=by omega
  have hkn':¬(k:Int)<k:=by omega
  have hxt:xs.take k=xs:=List.take_of_length_le (by rw[Hx.out.len];exact Nat.le_refl _);have hyt:ys.take k=ys:=List.take_of_length_le (by rw[Hy.out.len];omega);have hval:val (zs.set k cy)=val xs+val ys:=by refine Jc (by rw[Hv.out.2.1];omega) (Hv.out.2.2.1 k (Nat.le_refl _)) ?_;have:=Hv.out.2.2.2;rwa[hxt,hyt]at this
  have hwd:Wd (zs.set k cy):=di Hv.out.1 _ _ (by omega);have hw2:a7 (wr.setCell ⟨w.heap.size,k,none⟩ (bP cy)) (some ⟨w.heap.size,0,none⟩) (k+1) (k+1) (zs.set k cy):=
   (Hr.out.set k cy).wrd' hwd (by rw[List.length_set];exact Hv.out.2.1) (by omega)
  have hb2:Below w.heap.size w (wr.setCell ⟨w.heap.size,k,none⟩ (bP cy)):=Hb.out.setCell (Nat.le_refl _) _;have htr:trim (zs.set k cy)=digs (val xs+val ys):=by unfold trim;rw[hval]
  have hw3:=hw2.trim;rw[htr]at hw3;have Hw2:=Lib.hid hw2;have Hw3:=Lib.hid hw3;have Hb2:=Lib.hid hb2;have Htr:=Lib.hid htr;clear hxt hyt hval hwd hw2 hb2 htr hw3;have ecy:((cy:Int)%4294967296)=cy:=by omega
  go_wp2_with (go_at_call 172;refine(dm _ _ _ _ _ Hw2.out).mono ?_;rw[Htr.out];rintro e w' ⟨rfl,rfl⟩)
  go_ret
  exact⟨_,_,_,_,rfl,Hw3.out,rfl,Hb2.out⟩):p:=e
def VP{p:Prop}(e:p:=by
 obtain⟨k,zs,hk,rfl,hv,hrow,hb⟩:=hrel;by_cases hkn:k<n
 ·have hkn':(k:Int)<n:=by omega
  obtain⟨b1,o1,rfl,hbb1,hc1⟩:=Hx.out.at (by omega);have hc2:=(hb.cell (p:=⟨b1,o1+k,none⟩) hbb1).trans (hc1 k hkn);have hfr:=hrow.frozen k;have hfr2:=hrow.frozen (k+1);have hcz:=hrow.cell k (by rw[hv.2.1];omega);have hcz2:=hrow.cell (k+1) (by rw[hv.2.1];omega);have hx1:=Hx.out.wd.getD k;obtain⟨x,hxx⟩:∃x,xs.getD k 0=x:=⟨_,rfl⟩;obtain⟨z,hzz⟩:∃z,zs.getD k 0=z:=⟨_,rfl⟩;rw[hxx]at hc2 hx1;rw[hzz]at hcz;clear hc1 hmk;obtain⟨o1,o2,o3,o4⟩:=ID s x z h31 hx1 (by rw[<- hzz];exact hv.2.2.2.1);have hst:=IG (by rw[hv.2.1];omega) hxx hzz (hv.2.2.1 _ (by omega)) hv.2.2.2.2;have h32:x*2^s/4294967296<4294967296:=Nat.lt_trans o4 (by have:2^s<=2^31:=Nat.pow_le_pow_right (by decide) h31;omega);have Ho:=Lib.hid (And.intro o1 (And.intro o2 (And.intro o3 (And.intro o4 h32))));have Hst:=Lib.hid hst;have HR:=Lib.hid ((hrow.set k (z+x*2^s%4294967296)).set (k+1) (x*2^s/4294967296));have HB:=Lib.hid ((hb.setCell (p:=⟨w.heap.size,k,none⟩) (Nat.le_refl _) (bP (z+x*2^s%4294967296))).setCell (p:=⟨w.heap.size,k+1,none⟩) (Nat.le_refl _) (bP (x*2^s/4294967296)));have Hv:=Lib.hid hv;clear hv hxx hzz hst h32 o1 o2 o3 o4 hrow hb
  go_wp2_with fail
  rw[Ho.out.1,Ho.out.2.1]
  go_roundw
  case rel=>exact⟨k+1,_,by omega,by go_num,⟨di (di Hv.out.1 _ _ Ho.out.2.2.1) _ _ Ho.out.2.2.2.2,by rw[List.length_set,List.length_set];exact Hv.out.2.1,fun j hj=>by rw[getD_set_ne (by omega),getD_set_ne (by omega)];exact Hv.out.2.2.1 j (by omega),by rw[eg (by rw[List.length_set,Hv.out.2.1];omega)];exact Ho.out.2.2.2.1,Hst.out⟩,HR.out,HB.out⟩
  case measure=>simp[intOf];omega
 ·obtain rfl:k=n:=by omega
  have hkn':¬(k:Int)<k:=by omega
  have hval:=hv.2.2.2.2;rw[List.take_of_length_le (by rw[Hx.out.len];exact Nat.le_refl _)]at hval;have Hval:=Lib.hid hval;have Hv:=Lib.hid hv;have Hb:=Lib.hid hb;have Hr:=Lib.hid hrow;clear hval hv hb hrow hmk
  go_wp2_with fail
  go_ret
  refine⟨_,_,?_,Nat.le_refl _,Hr.out,Hv.out.1,⟨Hval.out,Hv.out.2.1⟩,Hb.out⟩;rw[Hv.out.2.1];rfl):p:=e
def VN{p:Prop}(e:p:=by
 have hcell:=Hr.out.cell k (by rw[Hv.out.2.1];omega);obtain⟨b1,o1,rfl,hbb1,hc1⟩:=Hx.out.at (by omega);have hc1:=(Hb.out.cell (p:=⟨b1,o1+k,none⟩) hbb1).trans (hc1 k hkn);have hx1:=Hx.out.wd.getD k;generalize hxx:xs.getD k 0=x at hc1 hx1;have Hxx:=Lib.hid hxx;clear hxx;have hkn':(k:Int)<n:=by omega
 by_cases hkm:k<m
 ·obtain⟨b2,o2,rfl,hbb2,hc2⟩:=Hy.out.at (by omega);have hc2:=(Hb.out.cell (p:=⟨b2,o2+k,none⟩) hbb2).trans (hc2 k hkm);have hy1:=Hy.out.wd.getD k;generalize hyy:ys.getD k 0=y at hc2 hy1;have Hyy:=Lib.hid hyy;clear hyy;have hkm':(k:Int)<m:=by omega
  clear hbb1 hbb2
  go_wp2_with fail
  go_roundw
  case rel=>obtain⟨dd,bb,g1,g2,g3,g4,g5⟩:=vx x y cy hx1 hy1 hcy;exact Ud
  case measure=>simp[intOf];omega
 ·have hkm':¬(k:Int)<m:=by omega
  have hyy:ys.getD k 0=0:=by rw[List.getD_eq_getElem?_getD,List.getElem?_eq_none (by rw[Hy.out.len];omega)];rfl
  have Hyy:=Lib.hid hyy;clear hyy hbb1
  go_wp2_with fail
  go_roundw
  case rel=>
   obtain⟨dd,bb,g1,g2,g3,g4,g5⟩:=vx x 0 cy hx1 (by omega) hcy;have e0:((x:Int)+4294967296-((0:Nat):Int)-cy)=(x:Int)+4294967296-cy:=by omega
   rw[e0]at g3 g4;exact Ud
  case measure=>simp[intOf];omega):p:=e
def Vz{p:Prop}(e:p:=by rw[g3,g4];exact To):p:=e
def Vx{p:Prop}(e:p:=by
 obtain⟨b1,o1,rfl,hbb1,hc1⟩:=Hx.out.at (by omega);have hc2:=(hb.cell (p:=⟨b1,o1+(k-1),none⟩) hbb1).trans (hc1 (k-1) (by omega));have hfr:=hrow.frozen (k-1);have hcz:=hrow.cell (k-1) (by rw[hv.2.1];omega);have hx1:=Hx.out.wd.getD (k-1);obtain⟨x,hxx⟩:∃x,xs.getD (k-1) 0=x:=⟨_,rfl⟩;rw[hxx]at hc2 hx1;have hr4:r<4294967296:=by omega
 have hor:=iE r x hr4 hx1;obtain⟨y,hy⟩:∃y,r*4294967296+x=y:=⟨_,rfl⟩;rw[hy]at hor;have hq4:y/b<4294967296:=by
  rw[Nat.div_lt_iff_lt_mul hb0,<- hy];have:r*4294967296+4294967296<=b*4294967296:=by omega
  omega
 have hm4:y%b<4294967296:=by have:=Nat.mod_lt y hb0;omega
 have hy64:y<18446744073709551616:=by omega
 have hst:=EH (xs:=xs) (zs:=zs) (k:=k-1) (r:=r) hb0 (by rw[Hx.out.len];omega) (by rw[hv.2.1];omega) hxx (by rw[show k-1+1=k by omega];exact hv.2.2.1) (by rw[show k-1+1=k by omega];exact hv.2.2.2);rw[hy]at hst;obtain⟨q,hq⟩:∃q,y/b=q:=⟨_,rfl⟩;obtain⟨m,hm⟩:∃m,y%b=m:=⟨_,rfl⟩;have eq1:(y:Int)/b=q:=by rw[<- hq,Int.natCast_ediv]
 have er1:(y:Int)%b=m:=by rw[<- hm,Int.natCast_emod]
 rw[hq]at hq4 hst;rw[hm]at hm4 hst;have eq2:Int.tdiv (y:Int) b=q:=by rw[Int.tdiv_eq_ediv_of_nonneg (by omega),eq1]
 have er2:Int.tmod (y:Int) b=m:=by rw[Int.tmod_eq_emod_of_nonneg (by omega),er1]
 have g1:(0:Int)<=(k:Int)-1:=by omega
 have g2:(k:Int)-1<n:=by omega
 have Hrow2:=Lib.hid (hrow.set (k-1) q);have Hb2:=Lib.hid (hb.setCell (p:=⟨w.heap.size,k-1,none⟩) (Nat.le_refl _) (bP q));have Hst:=Lib.hid hst;have Hv:=Lib.hid hv;clear hc1 hxx hy hq hm hst hv hrow hb hmk
 go_wp2_with fail
 go_roundw
 case rel=>exact⟨k-1,m,zs.set (k-1) q,by omega,by go_num,rfl,⟨di Hv.out.1 _ _ hq4,by rw[List.length_set];exact Hv.out.2.1,Hst.out.1,Hst.out.2⟩,Hrow2.out,Hb2.out⟩
 case measure=>simp[intOf];omega):p:=e
def VG{p:Prop}(e:p:=by
 obtain⟨k,hk,rfl,ht⟩:=hrel;have Ht:=Lib.hid ht;clear ht;by_cases h0:0<k
 ·obtain⟨b,off,rfl,_,hcell⟩:=Hw.out.at (by omega);have hcell1:=hcell (k-1) (by omega);clear hcell;have h0':(0:Int)<k:=by omega
  by_cases hx:xs.getD (k-1) 0=0
  ·rw[hx]at hcell1;have Hx:=Lib.hid hx;clear hx
   go_wp2
   go_round
   case rel=>exact⟨k-1,by omega,rfl,by rw[lr (by rw[Hl.out];exact hk) h0 Hx.out];exact Ht.out⟩
   case measure=>simp[lenOf];omega
  ·have e:trim (xs.take k)=xs.take k:=ig Hwd.out (by rw[Hl.out];exact hk) (.inr hx);obtain⟨x,hxx⟩:∃x,x=xs.getD (k-1) 0:=⟨_,rfl⟩;rw[<- hxx]at hcell1 hx;have hx':((x:Int) == 0)=false:=by simpa using hx
   clear hx hxx;have fin:(trim xs).length=k:=by rw[<- Ht.out,e,List.length_take,Hl.out];omega
   have Hfin:=Lib.hid fin;clear fin e
   go_wp2
   go_ret
   exact⟨by rw[Hfin.out];rfl,rfl⟩
 ·have hk0:k=0:=by omega
  have e:trim (xs.take k)=xs.take k:=ig Hwd.out (by rw[Hl.out];exact hk) (.inl hk0);have fin:(trim xs).length=k:=by rw[<- Ht.out,e,List.length_take,Hl.out];omega
  have Hfin:=Lib.hid fin;clear fin e;subst hk0
  go_wp2
  go_ret
  exact⟨by rw[Hfin.out];rfl,rfl⟩):p:=e
def Vy{p:Prop}(e:p:=by
 by_cases hbr:4294967296<=r+hi
 ·have t4:(4294967296:Int)<=(r:Int)+hi:=by omega
  have hfar:=Hest.out.far hnew hbr;have hclose:=Hest.out.close hnew hfar.1 (by omega) hfar.2;have hdec:Value.int .u64 ((d:Int)-1)= .int .u64 ((d-1:Nat):Int):=by go_num
  have HF:=Lib.hid (And.intro hfar.1 (And.intro hclose hdec));clear hfar hclose hdec
  go_wp2_with fail
  go_meet
  exact⟨d-1,HF.out.2.2,HF.out.1,HF.out.2.1,rfl⟩
 ·have t4:¬(4294967296:Int)<=(r:Int)+hi:=by omega
  go_wp2_with fail
  go_round
  case rel=>exact⟨d-1,r+hi,by go_num,by go_num,⟨hnew,by omega⟩,by omega,by omega⟩
  case measure=>simp[intOf];omega):p:=e
def VJ{p:Prop}(e:p:=by
 obtain⟨d,hu,_,hel',_⟩:=hT.und;cases he:ty.elem with
 |none=>rw[he]at hel;cases hel
 |some p=>obtain⟨et,k'⟩:=p;obtain⟨rfl,_⟩:=hel' et k' he;refine ar fun n S0 w0 g a w hM=>⟨.int .i64 m,w,?_,Below.refl _ _,AV.M.val rfl⟩;have h:=hM.ev x;rw[hx]at h;obtain⟨c,e1,_⟩:=h.2 cs hj;unfold execOp;exact UM):p:=e
def SI{p:Prop}(e:p:=by
 go_wp2
 go_ret
 exact⟨by rw[Hfin.out];rfl,rfl⟩):p:=e
def Sw{p:Prop}(e:p:=by unfold execOp;exact UM):p:=e
def SQ{p:Prop}(e:p:=by
 rw[e1]
 go_roundw
 case rel=>exact⟨k+1,_,by omega,by go_num,⟨di Hv.out.1 _ _ Hq.out.2,by rw[List.length_set];exact Hv.out.2.1,fun j hj=>by rw[getD_set_ne (by omega)];exact Hv.out.2.2.1 j (by omega),by rw[Hxx2.out];exact Hst.out⟩,HR.out,HB.out⟩
 case measure=>simp[intOf];omega):p:=e
def T6{p:Prop}(e:p:=by
 rw[List.eq_nil_iff_forall_not_mem];intro j hj;obtain⟨h1,o,ho,_⟩:=mem_ready.1 hj;have hjl:j<listed.size:=by have:=(Array.getElem?_eq_some_iff.1 ho).1;omega
 have h0:listed.toList.count false=0:=by omega
 rw[List.count_eq_zero]at h0;apply h0;simp[hjl]at h1;rw[<- h1];simp):p:=e
def ME{p q:Prop}(h:q)(e:KH q->p:=by intro hK;simp only[List.length_cons,List.range'_succ,wpOps,h0];rw[if_pos (by rw[oY hM hg])];exact hK.out):p:=e ⟨h⟩
def Mw{p:Prop}(e:p:=by
 go_ret
 exact⟨_,_,_,_,rfl,Hw3.out,rfl,Hb.out⟩):p:=e
def T4{p:Prop}(e:p:=by
 have h1:=Hsd.out.1;have h2:=Hsd.out.2;rw[<- HVal.out,<- HVd.out,<- HU0.out]at h1 h2;rw[<- h1,<- h2,<- hsum];constructor
 ·rw[Nat.add_mul_div_left _ _ hV0,Nat.div_eq_of_lt hlt,Nat.zero_add]
 ·rw[Nat.add_mul_mod_self_left,Nat.mod_eq_of_lt hlt]):p:=e
def T1{p:Prop}(e:p:=by
 rcases Nat.lt_or_ge n m with h|h
 ·exfalso;have h1:=hx.len;have h2:=hy.len;have h3:=bE (n:=a) (k:=n) (by omega);have h4:¬(digs b).length<=n:=by omega
  exact h4 (aL (Nat.lt_of_le_of_lt hab h3))
 ·exact h):p:=e
def TZ{p:Prop}(e:p:=by rw[Array.toList_setIfInBounds,List.count_set (by simpa using hil)];have hpos:0<listed.toList.count false:=List.count_pos_iff.2 (by rw[<- hf];simp);rw[Array.getElem_toList,hf];simp only[beq_self_eq_true,if_true];rw[if_neg (by decide)];omega):p:=e
def Q9{p:Prop}(e:p:=by
 split at h
 ·rename_i h1 h2;cases h;simp only[h1];rw[f6 (hb _ (List.mem_singleton_self _)),h2]
 ·cases h):p:=e
def T2{p:Prop}(e:p:=by
 have hk0:k=0:=by omega
 subst hk0;have fin:iQ xs ys=0:=by rw[oE Hx.out.wd Hy.out.wd];have:=Hdr.out;simpa using this
 have Hfin:=Lib.hid fin;clear fin
 go_wp2
 go_ret
 exact⟨by rw[Hfin.out];rfl,_,rfl⟩):p:=e
def Rw{p:Prop}(e:p:=by exact ih (fun i=>by have:=hos (i+1);rw[show k+(i+1)=k+1+i by omega]at this;simpa using this) hM'):p:=e
def TO{p:Prop}(e:p:=by
 unfold yielded;rw[hi];simp only[Option.bind_some,hd];cases hq:a.tmps[t]? with
 |none=>simp[Array.getD_eq_getD_getElem?,hq,undef]at e
 |some v=>simp[Array.getD_eq_getD_getElem?,hq]at e;subst e;rfl):p:=e
def RO{p:Prop}(e:p:=by
 rcases hD.hd with hn| ⟨z,r,hz1,hz2⟩
 ·rw[hn]at hp2;cases hp2
 ·rw[hp2]at hz1;cases hz1;omega):p:=e
def Tq{p:Prop}(e:p:=by
 split at h
 ·rename_i c hc;simp only[Option.some.injEq,Prod.mk.injEq]at h;obtain⟨rfl,rfl⟩:=h;have e:s'.bx j=s.bx j:=by unfold AS.bx;rw[hq j (by simp)]
  simp only[e,hc]
 ·cases h):p:=e
def TE{p:Prop}(e:p:=by
 go_wp2_with (go_at_call 172;refine(dm _ _ _ _ _ Hw2.out).mono ?_;rw[Htr.out];rintro e w' ⟨rfl,rfl⟩)
 go_ret
 exact⟨_,_,_,rfl,Nat.le_refl _,Hw3.out,Hb.out⟩):p:=e
def Tt{p:Prop}(e:p:=by
 unfold yielded;rw[hi];simp only[Option.bind_some,hd];cases hq:a.tmps[t]? with
 |none=>rfl
 |some v=>simp[Array.getD_eq_getD_getElem?,hq]at e;subst e;rfl):p:=e
def SR{p:Prop}(e:p:=by have:=ai (vs.set m dd) m;rw[List.take_of_length_le (by rw[List.length_set];omega),iX,eg (by omega)]at this;exact this):p:=e
def Tl{p q:Prop}(h:q)(e:KH q->p:=by intro hK;simp only[resolve,Sem.run_bind,Sem.run_pure,Result.andThen_ok,invoke];rw[show args.map a.eval=(args.toList.map a.eval).toArray from(Q4 _ _).symm];exact hK.out):p:=e ⟨h⟩
def Ua{p:Prop}(e:p:=by have:=l8 Hy.out.wd h0 (by rw[Hy.out.len];exact hk) (by rw[Hx.out.len];exact hk) Hdr.out.symm (by rw[<- Hxx.out,<- Hyy.out];exact h);omega):p:=e
def SG{p:Prop}(e:p:=by have:=l8 Hx.out.wd h0 (by rw[Hx.out.len];exact hk) (by rw[Hy.out.len];exact hk) Hdr.out (by rw[<- Hxx.out,<- Hyy.out];exact h);omega):p:=e
def Th{p:Prop}(e:p:=by have h:=Hd.out.1;obtain⟨e,rfl⟩:∃e,d=e+1:=⟨d-1,by omega⟩;rw[Nat.add_sub_cancel];rw[Nat.add_mul,Nat.one_mul]at h;unfold Hid;omega):p:=e
def Io{p:Prop}(e:p:=by simp[Op.equalIn,run_underlying hu]):p:=e
def Uy{p:Prop}(e:p:=by
 rcases Nat.eq_zero_or_pos x with h|h
 ·have:b=0:=by omega
  have h2:=hy.len;rw[this,aG]at h2;simp at h2
 ·exact h):p:=e
def Uf{p:Prop}(e:p:=by have h1:=ai (digs b) 0;rw[List.take_of_length_le (by rw[hy.len];omega),ae,hxx]at h1;simp[val]at h1;exact h1.symm):p:=e
def UI{p:Prop}(e:p:=by have:=heap_alloc_new w (.cells #[.int .u32 ((n:Int)%4294967296), .int .u32 ((n:Int)/4294967296)] 135);unfold eK;rw[this];simp):p:=e
def Tu{p:Prop}(e:p:=by
 split at h
 ·split at h
  ·rename_i h1 h2;cases h;rw[jC (hb j (by simp)),h1,h2]
  ·cases h
 ·cases h):p:=e
def UL{p:Prop}(e:p:=by
 rcases hx3 with⟨q,_⟩| ⟨q,_⟩| ⟨_,_,xf',_,q⟩| ⟨q,_⟩
 ·omega
 ·omega
 ·rw[q]at h8;simp only at h8;omega
 ·omega):p:=e
def Uv{p:Prop}(e:p:=by refine KD.start hQ2 Hzl.out Hwz.out (Hzv.out.trans hU0.symm) ?_;rw[hU0,hVd,HVal.out,show Q=n+1-m by omega];exact HU.out):p:=e
def UJ{p:Prop}(e:p:=by obtain⟨h1,h2⟩:=h.bm j cs hj;exact⟨h1,h2.agree (hb.block _ h2.lt) (.of_below hb) (fun _ _ h=>h) (jP.same hb rfl)⟩):p:=e
def UD{p:Prop}(e:p:=by obtain⟨hk,h⟩:=h;refine⟨hg.kn j hk,fun cs' hc=>?_⟩;obtain⟨cs,h1,_,h3,_⟩:=hg.al j cs' hk hc;rw[h cs h1,h3]):p:=e
def Sv{p:Prop}(e:p:=by
 cases hx:s.ev x<;>try rfl
 rename_i j k;unfold js;simp only;rw[f6 (hb j (by rw[hx];simp[G7]))]):p:=e
def TD{p:Prop}(e:p:=by
 go_enter func259,ntmps259
 go_wp2_with fail
 go_ret
 exact⟨_,_,_,[],rfl, .nil _,Hfin.out, .refl _ _⟩):p:=e
def TX{p:Prop}(e:p:=by
 rw[Tr.get_set u f _ _ _ (by omega)];by_cases he:i=k
 ·subst he;simp
 ·rw[if_neg (by omega),if_neg he]):p:=e
def TU{p:Prop}(e:p:=by simp only[List.size_toArray,List.length_append,List.length_take,List.length_drop,Array.length_toList];omega):p:=e
def Ur{p:Prop}(e:p:=by
 unfold Ed at hk;split at hk
 ·exact .inl ⟨_,by assumption⟩
 ·exact .inr (by assumption)
 ·cases hk):p:=e
def Su{p:Prop}(e:p:=by
 conv=>lhs;rw[e]
 rw[Nat.mul_add];congr 1;rw[Nat.mul_comm 4294967296 (4294967296^i),Nat.mul_assoc]):p:=e
def Tz{p:Prop}(e:p:=by subst hr;simp only[eqGuard,binOp,Sem.run_bind,ue hu,Result.andThen_ok,Sem.run_pure];rfl):p:=e
def Ti{p:Prop}(e:p:=by intro h;rw[h]at hm;exact absurd (ga.1 (List.eq_nil_of_length_eq_zero hm)) (by omega)):p:=e
def TH{p:Prop}(e:p:=by rw[gV,ho]at this;exact this.mono fun _ _⟨he,q,hq⟩=>⟨he,hq ▸ jg _ q⟩):p:=e
def Ss{p:Prop}(e:p:=by
 obtain rfl:k=m:=by omega
 have hkm':¬(k:Int)<k:=by omega
 have hcz:=Hr2.out.cell (i+k) (by rw[Hv2.out.2.1];omega);clear hfr1
 go_wp2_with fail
 go_roundw
 case rel=>
  have e1:Value.int .u32 ((cy:Int)%4294967296)=bP cy:=by unfold bP;go_num
  have e2:Value.int .u32 (cy:Int)=bP cy:=rfl;first|rw[e1]|rw[e2]
  have hst:=zM (xs:=xs) (ys:=ys) (zs:=us) (i:=i) (c:=cy) (by rw[Hv2.out.2.1,Hy.out.len];omega) (by rw[Hy.out.len];exact Hv2.out.2.2.1 _ (by omega)) (by rw[Hy.out.len,Hxx.out];exact Hv2.out.2.2.2);rw[Hy.out.len]at hst;exact⟨i+1,us.set (i+k) cy,by omega,by go_num,
   ⟨di Hv2.out.1 _ _ hcy,by rw[List.length_set];exact Hv2.out.2.1,fun j hj=>by rw[getD_set_ne (by omega)];exact Hv2.out.2.2.1 j (by omega),hst⟩,Hr2.out.set _ _,Hb2.out.setCell (Nat.le_refl _) _⟩
 case measure=>simp[intOf];omega):p:=e
def Ud{p:Prop}(e:p:=by rw[g3,g4];exact To):p:=e
def RK{p:Prop}(e:p:=by
 have Hfin:=Lib.hid fin;clear fin
 go_enter func234,ntmps234
 exact SI):p:=e
def Qx{p:Prop}(e:p:=by
 have Hfin:=Lib.hid fin;clear fin
 go_enter func285,ntmps285
 exact SI):p:=e
def ST{p:Prop}(e:p:=by have:=JA (by rw[Hv.out.2.1];omega) (Hv.out.2.2.1 k (Nat.le_refl _)) Hv.out.2.2.2;rw[Hxx.out,Hyy.out]at this;exact this):p:=e
def TW{p:Prop}(e:p:=by
 go_wp2_with (go_at_call 172;refine(dm _ _ _ _ _ Hw2.out).mono ?_;rw[Htr.out];rintro e w' ⟨rfl,rfl⟩)
 exact Mw):p:=e
def Ui{p:Prop}(e:p:=by
 go_wp2_with (go_at_call 194;refine(gk _ _ _ _ _ Hw2.out).mono ?_;rw[Htr.out];rintro e w' ⟨rfl,rfl⟩)
 exact Mw):p:=e
def UM{p:Prop}(e:p:=by rw[ho];simp[resolve,invoke,builtin,Builtin.len_,hts,e1,Sem.run_bind,run_underlying hu w,goInt]):p:=e
def To{p:Prop}(e:p:=by
 refine⟨k+1,bb,zs.set k dd,by omega,by go_num,rfl,g2,
  ⟨di Hv.out.1 _ _ g1,by rw[List.length_set];exact Hv.out.2.1,fun j hj=>by rw[getD_set_ne (by omega)];exact Hv.out.2.2.1 j (by omega),?_⟩,Hr.out.set _ _,Hb.out.setCell (Nat.le_refl _) _⟩
 exact CA (by rw[Hv.out.2.1];omega) (Hv.out.2.2.1 k (Nat.le_refl _)) Hv.out.2.2.2 (by rw[Hxx.out,Hyy.out];exact g5)):p:=e
end
end Go.Proofs.YtnchbpoopnjghaaGreatDoor
