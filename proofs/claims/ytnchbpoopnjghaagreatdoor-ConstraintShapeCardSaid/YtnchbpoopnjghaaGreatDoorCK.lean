/- Tactic texts that stand more than once. -/
import Derived.WalkKit
import Derived.Deep.OwnRows
import Derived.Lib.AppendIntMem
import Derived.Lib.ItoaNum
import Derived.WalkSpells
import Derived.Lib.Hide
import Derived.Laws.CopyRow
import Derived.Laws.Rows
import Derived.Deep.AppendLies
import Derived.Deep.LoopGhost
import Derived.Scope
import Derived.WalkLawsBesides
import Derived.BigQuiet
import Derived.Deep.QuietTactic
import Derived.Deep.DeepMust
import Derived.Deep.DeepFit
import Derived.Maps.AppendAt
import Derived.Lib.LazyBuf
import Derived.Deep.RegionHeld3
import Derived.Deep.DrawnRows
import Derived.Deep.RegionWith
import Derived.Deep.DeepCutAuto
import Derived.RangeFuncBox
import Derived.RangeFuncLeaves
import Derived.Shelf.Abstract
import Derived.OwnWalkIn
import Derived.TacticsInMore
import Derived.LoopNIn
import Derived.LoopIn
import Derived.Shelf.Strings.Builder1
import Derived.Shelf.Strings.Builder2
import Derived.Shelf.Strings.OnBuilder
import Derived.Shelf.Strings.Trim
import Derived.Shelf.Small.Utf8
import Derived.Shelf.Small.Bits
import Derived.Shelf.Small.Strs
import Derived.Shelf.Small.Wraps
import Derived.Shelf.Strings.BuilderF
import Derived.Shelf.Strings.BuilderK
import Derived.Shelf.Utf8.RuneCount
import Derived.Shelf.Strings.Builder2Cap
import Derived.Shelf.Strconv.Atoi
import Derived.Shelf.Strconv.Itoa0
import Derived.Shelf.Strconv.Itoa1
import Derived.Shelf.LaysM
import Derived.Shelf.Strconv.Itoa2
import Derived.Shelf.Strconv.Itoa3
import Derived.Shelf.Strconv.AtoiErrFast
import Derived.Shelf.Strconv.ParseIntEmpty
import Derived.Shelf.Strconv.AtoiFail
import Derived.Shelf.Strconv.Clone
import Derived.Shelf.Strconv.SyntaxError
import Derived.Shelf.LaysC
import Derived.Shelf.Strconv.ToError
import Derived.Shelf.Strconv.Lower
import Derived.Shelf.Strconv.ParseUint10
import Derived.Shelf.Strconv.ParseUint10Empty
import Derived.Shelf.Strconv.ParseUint10Any
import Derived.Shelf.Strconv.ParseInt10
import Derived.Shelf.Strconv.AtoiLong
import Derived.Shelf.Strconv.AtoiInnerAll
import Derived.Shelf.Strconv.RangeError
import Derived.Shelf.Strconv.ToErrorRange
import Derived.Shelf.Strconv.AtoiAll
import Derived.Shelf.Strings.Search1
import Derived.Shelf.Strings.Search2
import Derived.Shelf.Strings.Search3
import Derived.Shelf.Strings.Cut
import Derived.Shelf.Strings.Count
import Derived.Shelf.Strings.Shaped
import Derived.Shelf.Sort.Plain
import Derived.Shelf.Strings.Prefix
import Derived.Shelf.Strings.Split
import Derived.Shelf.Strings.SplitShaped
import Derived.Shelf.Unicode.Decode
import Derived.Shelf.Strings.Runes
import Derived.Shelf.Strings.RuneCount
import Derived.Shelf.Strings.AsciiSet
import Derived.Shelf.Strings.Explode
import Derived.Shelf.Bits.Mul64
import Derived.Shelf.Strings.Repeat
import Derived.Shelf.Unicode.DecodeSlow
import Derived.Shelf.Unicode.DecodeAny
import Derived.Shelf.Strings.BuilderCap
import Derived.Ground.Names2Prog
import Derived.Shelf.Slices.ReverseS
import Derived.Shelf.Slices.CompactS
import Derived.Shelf.Slices.SearchI
import Derived.Shelf.Slices.Cells
import Derived.Shelf.Slices.In.SortNone
import Derived.Ground.SlgnProg
import Derived.Shelf.SlicesE.Clone
import Derived.Deep.CutBlock
import Derived.ProofKit
import Derived.OpenShut
import Derived.ChangeCalls
import Derived.SizedLaws
import Derived.Lib.SmallJoins
set_option maxHeartbeats 100000000
set_option maxRecDepth 100000
set_option linter.all false
namespace Go.Proofs.YtnchbpoopnjghaaGreatDoor
open Go.RowKit
section
open Go.RowKit Go.Shelf
open Go.Shelf
open Go.ChangeShapes Go.WideShapes Go.ChangeAt Go.RowKit Go.Joins
/-- a hypothesis that omega does not af into -/
structure KH (q:Prop):Prop where
  out:q
theorem Tf {p:Prop} (e:p:=by
 obtain⟨k,cy,zs,hk,rfl,rfl,rfl,hcy,hv,hown,hb⟩:=hrel;have Hv:=Lib.hid hv;have Hb:=Lib.hid hb;clear hv hb hown1
 by_cases hkn:k<n
 ·obtain⟨b1,o1,rfl,hbb1,hc1⟩:=Hx.out.at (by omega)
  have hc1:=(Hb.out.cell (p:=⟨b1,o1+k,none⟩) hbb1).trans (hc1 k hkn);have hx1:=Hx.out.wd.getD k;generalize hxx:xs.getD k 0=x at hc1 hx1;have Hxx:=Lib.hid hxx;clear hxx;have hkn':(k:Int)<n:=by omega
  by_cases hkm:k<m
  ·obtain⟨b2,o2,rfl,hbb2,hc2⟩:=Hy.out.at (by omega)
   have hc2:=(Hb.out.cell (p:=⟨b2,o2+k,none⟩) hbb2).trans (hc2 k hkm);have hy1:=Hy.out.wd.getD k;generalize hyy:ys.getD k 0=y at hc2 hy1;have Hyy:=Lib.hid hyy;clear hyy;have hkm':(k:Int)<m:=by omega
   clear hbb1 hbb2
   go_wp2_with (at_builtin;refine wpList_append_fits _ rfl _ _ 34 rfl w.heap.size 135 i0 1 underlying34 hi hz1 w.heap.size k (n+1) (zs.map bU) rfl (hown.alloc _) ⟨wr.heap.size,0,none⟩ 1 1 [.int .u32 (((cy:Int)+x+y)%4294967296)] rfl rfl (cell_one_new _ _ _) (by simp[Value.oneCell']) (by omega) ?_;intro w2 hown2 hg2)
   go_roundw
   case rel=>
    have hzl:zs.length=k:=by have:=hown.1;simpa using this
    exact⟨k+1,(cy+x+y)/4294967296,zs++[(cy+x+y)%4294967296],by omega,by go_num,rfl,by go_num,by omega,
     ⟨Hv.out.1.append (Wd.cons (by omega) Wd.nil),by have:=tD hzl Hv.out.2;rw[Hxx.out,Hyy.out]at this;exact this⟩,by rw[List.map_append,List.map_cons,List.map_nil,show bU ((cy+x+y)%4294967296)= .int .u32 (((cy:Int)+x+y)%4294967296) by unfold bU;go_num];exact hown2,
     (Hb.out.alloc Hb.out.size _).grown hg2 (by have:=Hb.out.size;simp;omega) (fun j hj=>by cases hj;exact Nat.le_refl _)⟩
   case measure=>simp[intOf];omega
  ·have hkm':¬(k:Int)<m:=by omega
   have hyy:ys.getD k 0=0:=by rw[List.getD_eq_getElem?_getD,List.getElem?_eq_none (by rw[Hy.out.len];omega)];rfl
   have Hyy:=Lib.hid hyy;clear hyy hbb1
   go_wp2_with (at_builtin;refine wpList_append_fits _ rfl _ _ 34 rfl w.heap.size 135 i0 1 underlying34 hi hz1 w.heap.size k (n+1) (zs.map bU) rfl (hown.alloc _) ⟨wr.heap.size,0,none⟩ 1 1 [.int .u32 (((cy:Int)+x)%4294967296)] rfl rfl (cell_one_new _ _ _) (by simp[Value.oneCell']) (by omega) ?_;intro w2 hown2 hg2)
   go_roundw
   case rel=>
    have hzl:zs.length=k:=by have:=hown.1;simpa using this
    exact⟨k+1,(cy+x+0)/4294967296,zs++[(cy+x+0)%4294967296],by omega,by go_num,rfl,by go_num,by omega,
     ⟨Hv.out.1.append (Wd.cons (by omega) Wd.nil),by have:=tD hzl Hv.out.2;rw[Hxx.out,Hyy.out]at this;exact this⟩,by rw[List.map_append,List.map_cons,List.map_nil,show bU ((cy+x+0)%4294967296)= .int .u32 (((cy:Int)+x)%4294967296) by unfold bU;go_num];exact hown2,
     (Hb.out.alloc Hb.out.size _).grown hg2 (by have:=Hb.out.size;simp;omega) (fun j hj=>by cases hj;exact Nat.le_refl _)⟩
   case measure=>simp[intOf];omega
 ·obtain rfl:k=n:=by omega
  have hkn':¬(k:Int)<k:=by omega
  have hzl:zs.length=k:=by have:=hown.1;simpa using this
  have hxt:xs.take k=xs:=List.take_of_length_le (by rw[Hx.out.len];exact Nat.le_refl _);have hyt:ys.take k=ys:=List.take_of_length_le (by rw[Hy.out.len];omega);have hfin:val zs+4294967296^k*cy=val xs+val ys:=by have:=Hv.out.2;rwa[hxt,hyt]at this
  have Hfin:=Lib.hid hfin;have Hzl:=Lib.hid hzl;clear hfin hxt hyt hzl;rcases(show cy=0∨cy=1 by omega)with h|h
  ·subst h
   go_wp2_with fail
   go_ret
   exact⟨_,_,_,zs,rfl,gA hown Hv.out.1 (by omega) (by omega),⟨by have:=Hfin.out;omega,by rw[Hzl.out];omega⟩,Hb.out⟩
  ·subst h
   go_wp2_with (at_builtin;refine wpList_append_fits _ rfl _ _ 34 rfl w.heap.size 135 i0 1 underlying34 hi hz1 w.heap.size k (k+1) (zs.map bU) rfl (hown.alloc _) ⟨wr.heap.size,0,none⟩ 1 1 [.int .u32 1] rfl rfl (cell_one_new _ _ _) (by simp[Value.oneCell']) (by omega) ?_;intro w2 hown2 hg2)
   go_ret
   have hwz:Wd (zs++[1]):=Hv.out.1.append (Wd.cons (by omega) Wd.nil)
   have hown3:w2.ownsRow w.heap.size 135 1 (.slice (some ⟨w.heap.size,0,none⟩) (k+1) (k+1)) (k+1) ((zs++[1]).map bU):=by
    rw[List.map_append,List.map_cons,List.map_nil];exact hown2
   exact⟨_,_,_,zs++[1],rfl,gA hown3 hwz (by omega) (by omega),⟨by have:=Hfin.out;rw[b6,Hzl.out];simp only[val];omega,by rw[List.length_append,Hzl.out];simp⟩,
    (Hb.out.alloc Hb.out.size _).grown hg2 (by have:=Hb.out.size;simp;omega) (fun j hj=>by cases hj;exact Nat.le_refl _)⟩):p:=e
theorem ST {p:Prop} (e:p:=by
 first
  |(with_reducible exact Cg (bc.below (by assumption) (by assumption)) (by assumption) (b5 (by assumption)) (by omega))
  |(with_reducible exact Cg (by assumption) (bc.below (by assumption) (by assumption)) (b5 (by assumption)) (by omega))
  |(with_reducible exact nT (Cg (bc.below (by assumption) (by assumption)) (by assumption) (jd (b5 (by assumption))) (by omega)))
  |(with_reducible exact nT (Cg (by assumption) (bc.below (by assumption) (by assumption)) (jd (b5 (by assumption))) (by omega)))
  |(with_reducible exact Gw (by assumption) (b5 (by assumption)) (by assumption) (by assumption) (b5 (by assumption)) (by omega))
  |(with_reducible exact nT (Gw (by assumption) (jd (b5 (by assumption))) (by assumption) (by assumption) (jd (b5 (by assumption))) (by omega)))):p:=e
theorem S3 {p:Prop} (e:p:=by
 obtain⟨k,hk,rfl,ht⟩:=hrel;have Ht:=Lib.hid ht;clear ht
 by_cases h0:0<k
 ·obtain⟨b,off,rfl,_,hcell⟩:=Hw.out.at (by omega)
  have hcell1:=hcell (k-1) (by omega);clear hcell;have h0':(0:Int)<k:=by omega
  by_cases hx:xs.getD (k-1) 0=0
  ·rw[hx]at hcell1
   have Hx:=Lib.hid hx;clear hx
   go_wp2
   go_round
   case rel=>exact⟨k-1,by omega,rfl,by rw[jK (by rw[Hl.out];exact hk) h0 Hx.out];exact Ht.out⟩
   case measure=>simp[lenOf];omega
  ·have e:trim (xs.take k)=xs.take k:=gt Hwd.out (by rw[Hl.out];exact hk) (.inr hx)
   obtain⟨x,hxx⟩:∃x,x=xs.getD (k-1) 0:=⟨_,rfl⟩;rw[<- hxx]at hcell1 hx;have hx':((x:Int) == 0)=false:=by simpa using hx
   clear hx hxx;have fin:(trim xs).length=k:=by rw[<- Ht.out,e,List.length_take,Hl.out];omega
   have Hfin:=Lib.hid fin;clear fin e
   go_wp2
   go_ret
   exact⟨by rw[Hfin.out];rfl,rfl⟩
 ·have hk0:k=0:=by omega
  have e:trim (xs.take k)=xs.take k:=gt Hwd.out (by rw[Hl.out];exact hk) (.inl hk0);have fin:(trim xs).length=k:=by rw[<- Ht.out,e,List.length_take,Hl.out];omega
  have Hfin:=Lib.hid fin;clear fin e;subst hk0
  go_wp2
  go_ret
  exact⟨by rw[Hfin.out];rfl,rfl⟩):p:=e
theorem SV {p:Prop} (e:p:=by
 by_cases hbr:4294967296<=r+hi
 ·have t4:(4294967296:Int)<=(r:Int)+hi:=by omega
  have hfar:=Hest.out.far hnew hbr;have hclose:=Hest.out.close hnew hfar.1 (by omega) hfar.2;have hdec:Value.int .u64 ((d:Int)-1)= .int .u64 ((d-1:Nat):Int):=by go_num
  have HF:=Lib.hid (And.intro hfar.1 (And.intro hclose hdec));clear hfar hclose hdec
  go_wp2_with fail
  go_meet
  exact⟨d-1,HF.out.2.2,HF.out.1,HF.out.2.1,rfl⟩
 ·have t4:¬(4294967296:Int)<=(r:Int)+hi:=by omega
  go_wp2_with fail
  go_round
  case rel=>exact⟨d-1,r+hi,by go_num,by go_num,⟨hnew,by omega⟩,by omega,by omega⟩
  case measure=>simp[intOf];omega):p:=e
theorem ML {p q:Prop} (h:q) (e:KH q->p:=by
 intro hK
 simp only[nL,Act.put,List.setIfInBounds_toArray,List.set_cons_zero,List.set_cons_succ]
 exact hK.out):p:=e ⟨h⟩
theorem Tc {p:Prop} (e:p:=by
 obtain⟨d,hu,_,hel',_⟩:=hT.und;cases he:ty.elem with
 |none=>rw[he]at hel;cases hel
 |some p=>
  obtain⟨et,k'⟩:=p;obtain⟨rfl,_⟩:=hel' et k' he;refine ah fun n S0 w0 g a w hM=>⟨.int .i64 m,w,?_,Below.refl _ _,AV.M.val rfl⟩
  have h:=hM.ev x;rw[hx]at h;obtain⟨c,e1,_⟩:=h.2 cs hj;unfold execOp;exact Qp):p:=e
theorem SZ {p:Prop} (e:p:=by
 go_wp2
 go_ret
 exact⟨by rw[Hfin.out];rfl,rfl⟩):p:=e
theorem SS {p:Prop} (e:p:=by
 go_enter func136,ntmps136
 go_wp2_with (go_at_call 194;(with_reducible refine(bv A n c xs _ Hx.out).mono ?_);rw[<- Hm.out];rintro e w' ⟨rfl,rfl⟩)
 go_ret
 exact⟨by rw[Hr.out];rfl,Hb.out⟩):p:=e
theorem Td {p:Prop} (e:p:=by
 rw[g3,g4]
 refine⟨k+1,bb,zs.set k dd,by omega,by go_num,rfl,g2,
  ⟨ej Hv.out.1 _ _ g1,by rw[List.length_set];exact Hv.out.2.1,fun j hj=>by rw[getD_set_ne (by omega)];exact Hv.out.2.2.1 j (by omega),?_⟩,Hr.out.set _ _,Hb.out.setCell (Nat.le_refl _) _⟩
 exact Aj (by rw[Hv.out.2.1];omega) (Hv.out.2.2.1 k (Nat.le_refl _)) Hv.out.2.2.2 (by rw[Hxx.out,Hyy.out];exact g5)):p:=e
theorem S6 {p:Prop} (e:p:=by
 have:(listed.setIfInBounds i true).toList.count false+1=listed.toList.count false:=by
  rw[Array.toList_setIfInBounds,List.count_set (by simpa using hil)];have hpos:0<listed.toList.count false:=List.count_pos_iff.2 (by rw[<- hf];simp)
  rw[Array.getElem_toList,hf]
  simp only[beq_self_eq_true,if_true]
  rw[if_neg (by decide)];omega
 omega):p:=e
theorem Rs {p:Prop} (e:p:=by
 unfold execOp;exact Qp):p:=e
theorem RB {p:Prop} (e:p:=by
 rw[e0];intro e;have:=e2.lt
 simp only[Value.pointer.injEq,Option.some.injEq,Addr.mk.injEq]at e
 omega):p:=e
theorem PV {p:Prop} (e:p:=by
 rw[List.eq_nil_iff_forall_not_mem];intro j hj;obtain⟨h1,o,ho,_⟩:=mem_ready.1 hj
 have hjl:j<listed.size:=by
  have:=(Array.getElem?_eq_some_iff.1 ho).1;omega
 have h0:listed.toList.count false=0:=by omega
 rw[List.count_eq_zero]at h0
 apply h0
 simp[hjl]at h1
 rw[<- h1]
 simp):p:=e
theorem J0 {p q:Prop} (h:q) (e:KH q->p:=by
 intro hK
 simp only[List.length_cons,List.range'_succ,wpOps,h0]
 rw[if_pos (by rw[nG hM hg])]
 exact hK.out):p:=e ⟨h⟩
theorem Oi {p:Prop} (e:p:=by
 split at h
 ·rename_i h1 h2
  cases h
  simp only[h1]
  rw[aV (hb _ (List.mem_singleton_self _)),h2]
 ·cases h):p:=e
theorem OK {p:Prop} (e:p:=by
 exact ih (fun i=>by have:=hos (i+1);rw[show k+(i+1)=k+1+i by omega]at this;simpa using this) hM'):p:=e
theorem RP {p:Prop} (e:p:=by
 split at h
 ·rename_i c hc
  simp only[Option.some.injEq,Prod.mk.injEq]at h
  obtain⟨rfl,rfl⟩:=h;have e:s'.bx j=s.bx j:=by unfold AS.bx;rw[hq j (by simp)]
  simp only[e,hc]
 ·cases h):p:=e
theorem P8 {p:Prop} (e:p:=by
 go_wp2_with (go_at_call 194;refine(bv _ _ _ _ _ Hw2.out).mono ?_;rw[Htr.out];rintro e w' ⟨rfl,rfl⟩)
 exact Po):p:=e
theorem Rb {p:Prop} (e:p:=by
 have:=ai (vs.set m dd) m;rw[List.take_of_length_le (by rw[List.length_set];omega),gZ,dA (by omega)]at this;exact this):p:=e
theorem QE {p:Prop} (e:p:=by
 have h:=Hd.out.1;obtain⟨e,rfl⟩:∃e,d=e+1:=⟨d-1,by omega⟩;rw[Nat.add_sub_cancel];rw[Nat.add_mul,Nat.one_mul]at h;unfold Hid;omega):p:=e
theorem Rh {p:Prop} (e:p:=by
 have:=heap_alloc_new w (.cells #[.int .u32 ((n:Int)%4294967296), .int .u32 ((n:Int)/4294967296)] 135);unfold fL;rw[this]
 simp):p:=e
theorem QU {p:Prop} (e:p:=by
 split at h
 ·split at h
  ·rename_i h1 h2
   cases h;rw[ep (hb j (by simp)),h1,h2]
  ·cases h
 ·cases h):p:=e
theorem Qk {p:Prop} (e:p:=by
 obtain⟨h1,h2⟩:=h.bm j cs hj;exact⟨h1,h2.agree (hb.block _ h2.lt) (.of_below hb) (fun _ _ h=>h) (iv.same hb rfl)⟩):p:=e
theorem QD {p:Prop} (e:p:=by
 obtain⟨hk,h⟩:=h;refine⟨hg.kn j hk,fun cs' hc=>?_⟩;obtain⟨cs,h1,_,h3,_⟩:=hg.al j cs' hk hc;rw[h cs h1,h3]):p:=e
theorem RE {p:Prop} (e:p:=by
 cases hx:s.ev x<;>try rfl
 rename_i j k
 unfold jh
 simp only
 rw[aV (hb j (by rw[hx];simp[HO]))]):p:=e
theorem Qz {p:Prop} (e:p:=by
 go_enter func259,ntmps259
 go_wp2_with fail
 go_ret
 exact⟨_,_,_,[],rfl, .nil _,Hfin.out, .refl _ _⟩):p:=e
theorem Rm {p:Prop} (e:p:=by
 simp only[List.size_toArray,List.length_append,List.length_take,List.length_drop,Array.length_toList]
 omega):p:=e
theorem Rz {p:Prop} (e:p:=by
 rintro e w' ⟨A',n',c',zs,rfl,hw,⟨h3,h4⟩,hb⟩;exact⟨A',n',c',zs,rfl,hw,⟨by omega,by omega⟩,hb⟩):p:=e
theorem QG {p:Prop} (e:p:=by
 simp only[nL,Act.put,List.setIfInBounds_toArray,List.set_cons_zero,List.set_cons_succ,e0,v0]<;>rfl):p:=e
theorem Rp {p:Prop} (e:p:=by
 subst hr
 simp only[eqGuard,binOp,Sem.run_bind,rN hu,Result.andThen_ok,Sem.run_pure]
 rfl):p:=e
theorem N4 {p:Prop} (e:p:=by
 have Hfin:=Lib.hid fin;clear fin
 go_enter func234,ntmps234
 exact SZ):p:=e
theorem Pe {p:Prop} (e:p:=by
 have Hfin:=Lib.hid fin;clear fin
 go_enter func285,ntmps285
 exact SZ):p:=e
theorem Qh {p:Prop} (e:p:=by
 obtain⟨g,e0,e1,e2,e4,e3⟩:=hk;refine⟨g,e0,e1,e2.below (bH _ _),e4.below (bH _ _),?_⟩;exact RB):p:=e
theorem Po {p:Prop} (e:p:=by
 go_ret
 exact⟨_,_,_,_,rfl,Hw3.out,rfl,Hb.out⟩):p:=e
theorem Qp {p:Prop} (e:p:=by
 rw[ho]
 simp[resolve,invoke,builtin,Builtin.len_,hts,e1,Sem.run_bind,run_underlying hu w,goInt]):p:=e
theorem Qg {p:Prop} (e:p:=by
 obtain⟨g,e0,e1,e2,e3⟩:=hk;refine⟨g,e0,e1,e2.below (bH _ _),?_⟩;exact RB):p:=e
end
end Go.Proofs.YtnchbpoopnjghaaGreatDoor
