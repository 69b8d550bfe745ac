/- Parts of a proof: contracts of the functions that the laws reach. -/
import Derived.Test.YtnchbpoopnjghaaGreatDoorHZ3
set_option maxHeartbeats 100000000
set_option linter.all false
open Go.Proofs.Tryz
namespace Go.Proofs.YtnchbpoopnjghaaGreatDoor
open Go.RowKit
section
open Go.RowKit Go.Shelf
attribute [local go_sem] Oper.semAt_some
abbrev IF (M:Nat) (x:Nat × Nat):Array Value:= #[.int .i64 (x.1:Int),bR (x.2%M)]
theorem vT {M:Nat} {xs:List Nat} (h0:0<M) (h:∀x∈xs,x<M) (i:Nat):xs.getD i 0<M:=by
 rw[List.getD_eq_getElem?_getD];cases hx:xs[i]? with
 |none=>exact h0
 |some x=>exact h x (List.mem_of_getElem? hx)
set_option maxRecDepth 100000 in
theorem EX (F:Fence) (n:Nat) (h8:F.fn 286) (hro:F.round=none) (hn:1<=n) (l Bs:Nat) (A:Option Addr) (len cap:Nat) (xs:List Nat) (M:Nat) (hM0:0<M) (hM:∀x∈xs,x<M) (w:World) (hx:ba w A len cap xs) (J Jx:List (Nat × Nat)->World->Prop)
 (hY:∀pre x W,J pre W->pre.length<len->YieldAt F (n-1) Tryz.prog l (IF M x) W fun e W'=>
  (e= .returned (.bool true)/\J (pre++[x]) W'/\KB w.heap.size Bs W W')∨(e= .returned (.bool false)/\Jx (pre++[x]) W'))
 (W:World) (hbW:fQ w W) (hBs:W.cell? ⟨Bs,0,none⟩=some (.slice A len cap)) (h0:J [] W):
 CallsIn F n Tryz.prog 286 #[.func (.yield l) #[] #[], .pointer (some ⟨Bs,0,none⟩)] W fun e W'=>(∃v,e= .returned v) /\
  ((∃ys,ys=upto (dj xs) len/\J ys W')∨(∃pre,True/\Jx pre W')):=by
 have hcap:=hx.cap;have hlim:=hx.lim;have hlen:=hx.len;have hwd:=hx.wd;have Hx:=Lib.hid hx;have HM:=Lib.hid hM;have Hlen:=Lib.hid hlen;have Hwd:=Lib.hid hwd;clear hx hlen hwd hM;refine callsIn_of_wp func286 rfl h8 ?_ hro
 simp only[ntmps286,List.size_toArray,List.length_cons,List.length_nil,Nat.reduceAdd,Nat.reduceSub,Array.replicate_succ,Array.replicate_zero,List.push_toArray,List.append_toArray,List.nil_append,List.cons_append]
 gi_wp2
 gi_loopw [3] (fun i wr=>∃k:Nat,k<=len/\i= .int .i64 ((len:Int)-1-k)/\J (upto (dj xs) k) wr/\KB w.heap.size Bs W wr)
  (fun i _=>(intOf i+1).toNat)
 case atStart=>exact⟨0,Nat.zero_le _,by go_num,h0,KB.refl _ _ _⟩
 case round=>
  obtain⟨k,hk,rfl,hJs,hnx⟩:=hrel;have hcs:=(hnx.cell 0).trans hBs
  by_cases hlt:k<len
  ·obtain⟨b,off,rfl,hb,hc⟩:=Hx.out.at (by omega)
   have hcx:=(hnx.1.cell (p:=⟨b,off+(len-1-k),none⟩) hb).trans ((hbW.cell (p:=⟨b,off+(len-1-k),none⟩) hb).trans (hc (len-1-k) (by omega)));obtain⟨fn,tmps,assign,body,hy,hR⟩:=hY _ (dj xs k) wr hJs (by rw[pm];exact hlt);have e1:dj xs k=(len-1-k,xs.getD (len-1-k) 0):=by unfold dj;rw[Hlen.out]
   rw[e1]at hy;have e2:((len-1-k:Nat):Int)=(len:Int)-1-k:=by omega
   dsimp only[IF]at hy;rw[e2]at hy;obtain⟨x,hxx⟩:∃x,x=xs.getD (len-1-k) 0:=⟨_,rfl⟩;rw[<- hxx]at hy hcx;rw[Nat.mod_eq_of_lt (by rw[hxx];exact vT hM0 HM.out _)]at hy;have g1:(0:Int)<=(len:Int)-1-k:=by omega
   have g2:(len:Int)-1-k<len:=by omega
   have g3:((len:Int)-1-k).toNat=len-1-k:=by omega
   clear e1 e2 hc;have Hxx:=Lib.hid hxx;clear hxx
   gi_wp2
   refine hR.mono ?_;rintro e W3 (⟨rfl,hJ3,hk3⟩| ⟨rfl,hJx3⟩)
   ·gi_wp2
    go_roundw
    case rel=>exact⟨k+1,by omega,by go_num,by rw[oo];exact hJ3,hnx.trans hk3⟩
    case measure=>simp[intOf];omega
   ·gi_wp2
    refine bodyPost_ret (results_none rfl _ _ _) rfl ?_;exact⟨⟨_,rfl⟩, .inr ⟨_,trivial,hJx3⟩⟩
  ·obtain rfl:k=len:=by omega
   have g1:¬((k:Int)<=(k:Int)-1):=by omega
   gi_wp2
   go_end0
   first|exact⟨⟨_,rfl⟩, .inl ⟨_,rfl,hJs⟩⟩|exact⟨⟨_,rfl⟩, .inl hJs⟩
theorem pg (F:Fence) (n:Nat) (h8:F.fn 286) (hro:F.round=none) (hn:1<=n) (Bs:Nat) (A:Option Addr) (len cap:Nat) (xs:List Nat) (M:Nat) (hM0:0<M) (hM:∀x∈xs,x<M) (w0 w:World) (hx:ba w0 A len cap xs) (h0:fQ w0 w) (hBs:Bs<w.heap.size) (hc:w.cell? ⟨Bs,0,none⟩=some (.slice A len cap)):
 SeqStopsK F n Tryz.prog 286 #[.pointer (some ⟨Bs,0,none⟩)] (IF M) (KB w0.heap.size Bs) (fun ys=>ys=upto (dj xs) len) (fun _=>True) len w:=fun l J Jx W hW _ _ hY hJ0=>
 EX F n h8 hro hn l Bs A len cap xs M hM0 hM w0 hx J Jx hY W (h0.more hW) ((hW.cell (p:=⟨Bs,0,none⟩) hBs).trans hc) hJ0
end
section
open Go.Shelf Go.RowKit Go.Sort Go.Lib
set_option maxRecDepth 100000 in
theorem tX (u:Nat) (hu64:u<18446744073709551616) (w:World) (htab:Lib.TabIs Tryz.prog w "internal/strconv.uint64pow10" .u64 Lib.pow10Tab):
 Calls Tryz.prog 287 #[.int .u64 u, .int .i64 10] w fun e w'=>e= .returned (.string ⟨(Lib.decDigits u).toArray⟩)/\Below w.heap.size w w':=by
 by_cases hs:u<100
 ·go_enter func287,ntmps287
  go_wp2_with (go_at_call 200;refine(Tryz.internal_strconv_small u hs _).mono ?_;rintro e w' ⟨rfl,rfl⟩)
  go_ret
  exact⟨rfl,Below.refl _ _⟩
 ·have hu1:1<=u:=by omega
  have hnd20:Lib.nDigits u<=20:=by have:=Lib.numDigits_eq u hu1 hu64;split at this<;>omega
  have hal:(Tryz.prog).arrayLen 209=24:=by simp[Program.arrayLen,underlying209]
  have hsl:∀W,(Instr.sliceAt 209 (.pointer (some ⟨w.heap.size,0,none⟩)) none (some (.int .i64 (Lib.nDigits u:Int))) none).run Tryz.prog W= .ok (.slice (some ⟨w.heap.size,0,none⟩) (Lib.nDigits u) 24) W:=fun W=>by
   rw[run_sliceAt_array_h W 209 ⟨w.heap.size,0,none⟩ (by simp[Program.arrayLen,Program.elem,underlying209]) .i64 (Lib.nDigits u:Int) (by omega) (by rw[hal];omega)]
   go_simp
  have hH0:=Lib.holds_zero0 w 209 (Lib.nDigits u) (by omega);have hfmt:=Tryz.internal_strconv_formatBase10 w.heap.size 0 24 u (Array.replicate (Lib.nDigits u) 0) (w.alloc (.cells Lib.zeros24 209)) hH0 (by rw[Array.size_replicate];exact Lib.lt_pow_nDigits u) hu64 (by rw[Array.size_replicate];omega);rw[Array.size_replicate]at hfmt;have HH0:=Lib.hid hH0;have iu:(100:Int)<=(u:Int):=by omega
  clear hH0 hal
  go_enter func287,ntmps287
  go_wp2_with (go_at_call 201;refine(Tryz.internal_strconv_numDigits u hu1 hu64 _ (Lib.tabIs_alloc htab _)).mono ?_;rintro e w' ⟨rfl,rfl⟩)
  go_at_call 202
  refine hfmt.mono ?_;rintro e w' ⟨rfl,k,v',dk,rfl,hF⟩
  have hcv:(convert 137 9 (.slice (some ⟨w.heap.size,0,none⟩) (Lib.nDigits u) 24)).run Tryz.prog ((putRow (fun(b:UInt8)=>Value.int .u8 (b.toNat:Int)) (w.alloc (.cells Lib.zeros24 209)) w.heap.size 0 dk).drewN k)= .ok (.string ⟨(Lib.decDigits u).toArray⟩) ((putRow (fun(b:UInt8)=>Value.int .u8 (b.toNat:Int)) (w.alloc (.cells Lib.zeros24 209)) w.heap.size 0 dk).drewN k):=by
   have h:=run_convert_bytes_back (P:=Tryz.prog) ((putRow (fun(b:UInt8)=>Value.int .u8 (b.toNat:Int)) (w.alloc (.cells Lib.zeros24 209)) w.heap.size 0 dk).drewN k) 137 9 5 ⟨w.heap.size,0,none⟩ 24 (Lib.decDigits u) underlying137 underlying5 underlying9 (fun j hj=>by
    rw[Lib.row_is_numeral hF j hj,Lib.add_plain,World.cell?_drewN];exact cell?_putRow (fun(b:UInt8)=>Value.int .u8 (b.toNat:Int)) _ w.heap.size 0 _ dk HH0.out (by rw[hF.size,Array.size_replicate]) j (by rw[hF.size];rw[Lib.decDigits_length]at hj;exact hj))
   rw[Lib.decDigits_length]at h;exact h
  go_wp2
  go_ret
  obtain⟨os,eo⟩:=Lib.fin_at w (.cells Lib.zeros24 209) dk k 0;exact⟨rfl,by rw[eo];exact Lib.below_grow _ w (Nat.le_refl _) k os⟩
theorem gy (u:Nat) (hu64:u<18446744073709551616) (w:World) (htab:Lib.TabIs Tryz.prog w "internal/strconv.uint64pow10" .u64 Lib.pow10Tab):
 Calls Tryz.prog 239 #[.int .u64 u, .int .i64 10] w fun e w'=>e= .returned (.string ⟨(Lib.decDigits u).toArray⟩)/\Below w.heap.size w w':=by
 go_enter func239,ntmps239
 go_wp2_with (go_at_call 287;refine(tX u hu64 _ htab).mono ?_;rintro e w' ⟨rfl,hb⟩)
 go_ret
 exact⟨rfl,hb⟩
end
section
open Go.Shelf Go.RowKit
theorem xq:((Tryz.prog).info? 139).map (·.size)=some 2:=Tryz.Builder_Extra_169.sizeBuilder
theorem GP:liesAt Tryz.prog (Tryz.prog).depth 139 (2/(Tryz.prog).cellsOf 139) 0 139 1=true:=by kernel_rfl
theorem rg:((Tryz.prog).info? 5).map (fun i=>(i.zero,i.size,i.bytes))=some (some (.int .u8 0),1,1):=Tryz.Builder_Extra_169.infoByte
set_option maxRecDepth 100000 in
theorem j3 (b:Nat) (w:World) (h0:w.cell? ⟨b,0,none⟩=some (.pointer (some ⟨b,0,none⟩))):
 Calls Tryz.prog 145 #[.pointer (some ⟨b,0,none⟩)] w fun e w'=>e= .returned (.tuple #[])/\w'=w:=by
 obtain⟨j,hj,_⟩:=Option.map_eq_some_iff.1 xq
 go_enter func145,ntmps145
 go_wp2
 rw[Lib.run_neq_ptr_same w _ underlying136 hj]
 go_wp2
 go_end0
 exact⟨rfl,rfl⟩
set_option maxRecDepth 100000 in
theorem jz (b:Nat) (w:World) (h0:w.cell? ⟨b,0,none⟩=some (.pointer none)) (hsh:w.shape? b=some (139,2)) (hfz:w.frozen? ⟨b,0,none⟩=false):
 Calls Tryz.prog 145 #[.pointer (some ⟨b,0,none⟩)] w fun e w'=>e= .returned (.tuple #[])/\w'=w.setCell ⟨b,0,none⟩ (.pointer (some ⟨b,0,none⟩)):=by
 obtain⟨j,hj,hjs⟩:=Option.map_eq_some_iff.1 xq
 go_enter func145,ntmps145
 go_wp2
 rw[Lib.run_to_unsafe w ⟨b,0,none⟩ underlying136 underlying214 hj (by rw[hjs];decide) hsh (Nat.zero_lt_succ 1)]
 simp only[Result.andThen]
 rw[Oper.upon_value]
 go_wp2
 rw[run_callFunc_extern func204 (by kernel_rfl) (by kernel_rfl) (by kernel_rfl) (e:=Extern.AbiNoEscape.same) (by kernel_rfl)];rw[Lib.run_noEscape]
 simp only[Result.andThen]
 rw[Oper.upon_value]
 go_wp2
 rw[Lib.run_from_unsafe w ⟨b,0,none⟩ underlying214 underlying136 hj hsh GP]
 simp only[Result.andThen]
 rw[Oper.upon_value]
 go_wp2
 go_end0
 exact⟨rfl,rfl⟩
theorem pd (B b:Nat) (bs:List Value) (w:World) (h:Lib.IsBuilderF 139 5 B b bs w):
 Calls Tryz.prog 145 #[.pointer (some ⟨b,0,none⟩)] w fun e w'=>e= .returned (.tuple #[])/\(Lib.BuilderAtF 139 5 B b (.pointer (some ⟨b,0,none⟩)) bs w'/\Below B w w'/\Lib.OthersKept 5 (some b) w w'):=by
 rcases h with h|h
 ·refine(jz b w h.cell0 h.shape h.frozen0).mono ?_
  rintro e w' ⟨rfl,rfl⟩;exact⟨rfl,h.used _,(Below.refl B w).setCell (p:=⟨b,0,none⟩) h.1 _,(Lib.OthersKept.refl _ _ w).setCell ⟨b,0,none⟩ rfl _⟩
 ·refine(j3 b w h.cell0).mono ?_
  rintro e w' ⟨rfl,rfl⟩;exact⟨rfl,h,Below.refl B _,Lib.OthersKept.refl _ _ _⟩
set_option maxRecDepth 100000 in
theorem yt (B b:Nat) (bs:List Value) (c:Int) (w:World) (h:Lib.IsBuilderF 139 5 B b bs w) (hlen:bs.length+1<=140737488355328) (hBw:B<=w.heap.size):
 Calls Tryz.prog 237 #[.pointer (some ⟨b,0,none⟩), .int .u8 c] w fun e w'=>e= .returned .nilIface/\(Lib.BuilderAtF 139 5 B b (.pointer (some ⟨b,0,none⟩)) (bs++[.int .u8 c]) w'/\Below B w w'/\Lib.OthersKept 5 (some b) w w'):=by
 obtain⟨i0,hi,hz0,hz1,hz2⟩:=info_parts rg
 go_enter func237,ntmps237
 go_wp2_with (go_at_call 145;refine(pd B b bs _ h).mono ?_)
 rintro e w1 ⟨rfl,h1,hb1,hk1⟩;obtain⟨hB,v,hbk,hown,hne⟩:=h1;have c0:w1.cell? ⟨b,0,none⟩=some (.pointer (some ⟨b,0,none⟩)):=by rw[Lib.cell_of_heap hbk];rfl
 have c1:w1.cell? ⟨b,1,none⟩=some v:=by rw[Lib.cell_of_heap hbk];rfl
 go_wp2_with (at_builtin;refine wpList_append_ownF _ rfl _ _ 137 rfl B 5 i0 (.int .u8 0) 1 1 underlying137 hi hz0 hz1 hz2 rfl (by decide) _ _ _ rfl (hown.alloc _) ⟨w1.heap.size,0,none⟩ 1 1 [.int .u8 c] rfl rfl ?c1 ?c2 ?c3 ?c4 ?c5 ?_)
 case c1=>
  intro j u hj
  match j,hj with
  |0,hj=>simp at hj;subst hj;simp[Addr.add]
 case c2=>intro u hu;simp at hu;subst hu;rfl
 case c3=>unfold maxLen;omega
 case c4=>omega
 case c5=>have:=hb1.size;simp;omega
 intro v' w2 hown' hgrow _
 have hlt:b<w1.heap.size:=by
  exact NA
 have hb2:w2.heap[b]? =some (.cells #[.pointer (some ⟨b,0,none⟩),v] 139 (0,0)):=by
  rw[hgrow.block b (by simp;omega) (fun e=>hne e.symm),Lib.alloc_old w1 _ b hlt];exact hbk
 have d0:w2.cell? ⟨b,0,none⟩=some (.pointer (some ⟨b,0,none⟩)):=by rw[Lib.cell_of_heap hb2];rfl
 have d1:w2.cell? ⟨b,1,none⟩=some v:=by rw[Lib.cell_of_heap hb2];rfl
 have f1:w2.frozen? ⟨b,1,none⟩=false:=Lib.frozen_of_heap hb2 1
 obtain⟨g,cap,rfl⟩:∃g cap,v'= .slice (some ⟨g,0,none⟩) (bs.length+1) cap:=by
  rcases hown'.2 with⟨_,h0⟩| ⟨g,cap,cur,fz,hv,_⟩
  ·omega
  ·exact⟨g,cap,hv⟩
 go_wp2
 go_ret
 refine⟨rfl,?_,?_,((hk1.alloc _).grown hgrow (Lib.ownsRowF_kind (hown.alloc _))).setCell ⟨b,1,none⟩ rfl _⟩
 ·exact Lib.BuilderAtF.put (T:=139) (e:=5) hB hb2 (bs':=bs++[.int .u8 c]) (by simpa using hown') (by decide)
 ·exact((hb1.alloc (by have:=hb1.size;omega) _).grown hgrow (by have:=hb1.size;simp;omega) (fun k hk=>(hown.lt k hk).1)).setCell (p:=⟨b,1,none⟩) hB _
set_option maxRecDepth 100000 in
theorem dK (B b:Nat) (bs:List Value) (s:ByteArray) (w:World) (h:Lib.IsBuilderF 139 5 B b bs w) (hlen:bs.length+s.size<=140737488355328) (hBw:B<=w.heap.size):
 Calls Tryz.prog 103 #[.pointer (some ⟨b,0,none⟩), .string s] w fun e w'=>e= .returned (.tuple #[.int .i64 s.size, .nilIface])/\(Lib.BuilderAtF 139 5 B b (.pointer (some ⟨b,0,none⟩)) (bs++Lib.strCells s) w'/\Below B w w'/\Lib.OthersKept 5 (some b) w w'):=by
 obtain⟨i0,hi,hz0,hz1,hz2⟩:=info_parts rg
 go_enter func103,ntmps103
 go_wp2_with (go_at_call 145;refine(pd B b bs _ h).mono ?_)
 rintro e w1 ⟨rfl,h1,hb1,hk1⟩;obtain⟨hB,v,hbk,hown,hne⟩:=h1;have c0:w1.cell? ⟨b,0,none⟩=some (.pointer (some ⟨b,0,none⟩)):=by rw[Lib.cell_of_heap hbk];rfl
 have c1:w1.cell? ⟨b,1,none⟩=some v:=by rw[Lib.cell_of_heap hbk];rfl
 go_wp2_with (at_builtin;refine Lib.wpList_append_own_stringF _ rfl _ _ 137 9 rfl B 5 i0 underlying137 underlying9 hi hz0 hz1 hz2 _ _ _ rfl hown s rfl ?c3 ?c4 ?c5 ?_)
 case c3=>unfold maxLen;omega
 case c4=>omega
 case c5=>have:=hb1.size;omega
 intro v' w2 hown' hgrow _
 have hlt:b<w1.heap.size:=by
  exact NA
 have hb2:w2.heap[b]? =some (.cells #[.pointer (some ⟨b,0,none⟩),v] 139 (0,0)):=by
  rw[hgrow.block b hlt (fun e=>hne e.symm)];exact hbk
 have d0:w2.cell? ⟨b,0,none⟩=some (.pointer (some ⟨b,0,none⟩)):=by rw[Lib.cell_of_heap hb2];rfl
 have d1:w2.cell? ⟨b,1,none⟩=some v:=by rw[Lib.cell_of_heap hb2];rfl
 have f1:w2.frozen? ⟨b,1,none⟩=false:=Lib.frozen_of_heap hb2 1
 obtain⟨ao,n',cap,rfl⟩:∃ao n' cap,v'= .slice ao n' cap:=by
  rcases hown'.2 with⟨hv,_⟩| ⟨g,cap,cur,fz,hv,_⟩
  ·exact⟨_,_,_,hv⟩
  ·exact⟨_,_,_,hv⟩
 go_wp2
 go_ret2
 refine⟨rfl,?_,?_,(hk1.grown hgrow (Lib.ownsRowF_kind hown)).setCell ⟨b,1,none⟩ rfl _⟩
 ·exact Lib.BuilderAtF.put (T:=139) (e:=5) hB hb2 (bs':=bs++Lib.strCells s) (by simpa[Lib.strCells_length]using hown') (by decide)
 ·exact(hb1.grown hgrow (by have:=hb1.size;omega) (fun k hk=>(hown.lt k hk).1)).setCell (p:=⟨b,1,none⟩) hB _
end
section
open Go.RowKit Go.Shelf
attribute [local go_sem] Oper.semAt_some
set_option maxRecDepth 100000 in
theorem Fx (A:Option Addr) (n c:Nat) (xs:List Nat) (w:World) (hx:ba w A n c xs) (h0:0<n) (hs:n<=4294967296):
 Calls Tryz.prog 236 #[.slice A n c] w fun e w'=>∃v',e= .returned v'/\w'.ownsRow w.heap.size 135 1 v' n (xs.map bR)/\Below w.heap.size w w':=by
 obtain⟨i0,hi,hz0,hz1,hz2⟩:=info_parts Tryz.infoU32;rcases hx.cells with h1| ⟨b,off,e,hc⟩
 ·have:=hx.len
  have h2:xs=[]:=by simpa using h1
  rw[h2]at this
  simp at this
  omega
 ·cases e
  ·refine(Tryz.slices_Clone i0 (.int .u32 0) 1 4 hi hz0 hz1 hz2 rfl (by decide) (fun w=>by first|exact sizeOf135 w|exact bE (by rw[hi];exact congrArg some hz1) w) b off n c (xs.map bR) w (by simp[hx.len]) (by unfold maxLen;omega) (by omega) (fun j u hj=>?_) (fun u hu=>?_)).mono ?_
   ·rw[List.getElem?_map]at hj
    cases hxj:xs[j]? with
    |none=>rw[hxj]at hj;cases hj
    |some x=>
     rw[hxj]at hj
     simp only[Option.map_some,Option.some.injEq]at hj
     subst hj;have hjl:=(List.getElem?_eq_some_iff.1 hxj).1;have:=hc j (bR x) (by rw[List.getElem?_map,hxj];rfl);exact this
   ·obtain⟨x,_,rfl⟩:=List.mem_map.1 hu
    rfl
   ·rintro e w' ⟨v',rfl,ho,_,hb⟩
    exact⟨v',rfl,ho,hb⟩
theorem iS {w w':World} {B g k:Nat} {e:TypeId} {v:Value} {n:Nat} {xs:List Value} (h:w.ownsRow B e k v n xs) (hb:∀b,b≠g->w'.heap[b]? =w.heap[b]?) (hne:v.ownBlock≠some g):w'.ownsRow B e k v n xs:=by
 refine⟨h.1,h.2.imp id ?_⟩;rintro⟨g',cap,cur,rfl,h1,h2,h3⟩;exact⟨g',cap,cur,rfl,h1,by rw[hb g' (fun e=>hne (by rw[<- e];rfl))];exact h2,h3⟩
theorem Hp {d r1 rr x V U:Nat} (h:V*1000000000+rr=U) (hd:(rr*4294967296+x)/1000000000=d) (hr:(rr*4294967296+x)%1000000000=r1):(d+4294967296*V)*1000000000+r1=x+4294967296*U:=by
 have:=Nat.div_add_mod (rr*4294967296+x) 1000000000;rw[hd,hr]at this;subst h;rw[Nat.add_mul,Nat.mul_add,Nat.mul_comm d,Nat.mul_assoc];generalize V*1000000000=W;omega
def An (len:Nat) (p:Nat × Nat):List UInt8:=if(p.1:Int)<(len:Int)-1 then ui (p.2%1000000000)else dd (p.2%1000000000)
def oH (len:Nat) (l:List (Nat × Nat)):List UInt8:=l.flatMap (An len)
theorem uS (len:Nat) (l:List (Nat × Nat)) (p:Nat × Nat):oH len (l++[p])=oH len l++An len p:=by unfold oH;simp
theorem qd (n:Nat):n%1000000000<1000000000:=Nat.mod_lt _ (by decide)
theorem Gv {c:Nat} (h:c<1000000000):(ui c).length=9:=by
 have:=(vX h).2;unfold ui;simp;omega
theorem Lp (len:Nat) (p:Nat × Nat):(An len p).length<=9:=by
 unfold An;split
 ·exact Nat.le_of_eq (Gv (qd _))
 ·exact(vX (qd _)).2
theorem yj (len:Nat) (l:List (Nat × Nat)):(oH len l).length<=9*l.length:=by
 induction l with
 |nil=>simp[oH]
 |cons p l ih=>
  have e:oH len (p::l)=An len p++oH len l:=rfl;have:=Lp len p;rw[e,List.length_append,List.length_cons];omega
theorem uR {xs:List Nat} (h9:∀x∈xs,x<1000000000) (hne:xs≠[]):oH xs.length (upto (dj xs) xs.length)=RI xs.reverse:=by
 obtain⟨m,hm⟩:∃m,xs.length=m+1:=⟨xs.length-1,by have:=List.length_pos_iff.2 hne;omega⟩
 have hr:xs.reverse=xs.getD m 0::(List.range m).map fun j=>xs.getD (m-1-j) 0:=by
  apply List.ext_getElem
  ·simp[hm]
  ·intro i h1 h2
   rw[List.getElem_reverse];have hi:i<m+1:=by simpa[hm]using h1
   match i,hi with
   |0,_=>simp[List.getD_eq_getElem?_getD,hm]
   |i+1,hi=>
    simp only[List.getElem_cons_succ,List.getElem_map,List.getElem_range,List.getD_eq_getElem?_getD]
    rw[List.getElem?_eq_getElem (by omega)]
    simp only[Option.getD_some]
    congr 1
    omega
 rw[hr];unfold upto oH;rw[hm,List.range_succ_eq_map,List.map_cons,List.flatMap_cons,List.map_map]
 have e0:An (m+1) (dj xs 0)=dd (xs.getD m 0):=by
  unfold An dj;dsimp only;rw[if_neg (by omega),hm,Nat.mod_eq_of_lt (vT (by decide) h9 _)];rfl
 rw[e0];show _=dd _++((List.range m).map _).flatMap ui
 congr 1
 rw[List.flatMap_map,List.flatMap_map]
 have hh:∀j∈List.range m,An (m+1) (dj xs (j+1))=ui (xs.getD (m-1-j) 0):=by
  intro j hj;have hj:=List.mem_range.1 hj;unfold An dj;dsimp only;rw[if_pos (by omega),Nat.mod_eq_of_lt (vT (by decide) h9 _)]
  congr 2
  omega
 clear e0 hr
 revert hh
 generalize List.range m=R;intro hh
 induction R with
 |nil=>rfl
 |cons j R ih=>
  rw[List.flatMap_cons,List.flatMap_cons,ih (fun j hj=>hh j (by simp[hj]))]
  congr 1
  exact hh j (by simp)
theorem eL {T e:TypeId} {B b:Nat} {bs:List Value} {W W':World} (h:Lib.IsBuilderF T e B b bs W) (hk:∀(k:Nat) c t f,W.heap[k]? =some (Obj.cells c t f)->W'.heap[k]? =some (Obj.cells c t f)):Lib.IsBuilderF T e B b bs W':=by
 have key:∀p,Lib.BuilderAtF T e B b p bs W->Lib.BuilderAtF T e B b p bs W':=by
  rintro p ⟨hB,v,hb,ho,hne⟩;refine⟨hB,v,hk _ _ _ _ hb,⟨ho.1,ho.2.imp id ?_⟩,hne⟩;rintro⟨g,cap,cur,fz,h1,h2,h3,h4⟩;exact⟨g,cap,cur,fz,h1,h2,hk _ _ _ _ h3,h4⟩
 exact h.imp (key _) (key _)
theorem dw {W W':World} (h:Below W.heap.size W W'):∀(k:Nat) c t f,W.heap[k]? =some (Obj.cells c t f)->W'.heap[k]? =some (Obj.cells c t f):=fun k _ _ _ hk=>(h.block k (Array.getElem?_eq_some_iff.1 hk).1).trans hk
theorem Ed {T e:TypeId} {N B b:Nat} {f:List (Nat × Nat)->List Value}:OwnFrom N (fun pre W=>Lib.IsBuilderF T e B b (f pre) W):=by
 intro s W W' row hs hg hr;refine eL hs fun k c t fz hk=>?_
 rw[hg.block k (Array.getElem?_eq_some_iff.1 hk).1 (fun e=>?_)]
 ·exact hk
 ·obtain⟨_,o,ho,hc⟩:=hr k e.symm
  rw[hk]at ho;cases ho;cases hc
theorem uK {β:Type} (N g:Nat) (cs:Array Value) (t:TypeId):OwnFrom N (fun(_:β) W=>W.heap[g]? =some (Obj.cells cs t (0,0))):=by
 intro s W W' row hs hg hr;show W'.heap[g]? =_;rw[hg.block g (Array.getElem?_eq_some_iff.1 hs).1 (fun e=>?_)]
 ·exact hs
 ·obtain⟨_,o,ho,hc⟩:=hr g e.symm
  rw[hs]at ho;cases ho;cases hc
theorem mP {W W':World} (h:Below W.heap.size W W'):KeepsOthers W W':=⟨h.size,fun k _ hk _=>(h.block k (Array.getElem?_eq_some_iff.1 hk).1).trans hk⟩
theorem kz {T e:TypeId} {B b:Nat} {bs:List Value} {W W':World} (hb:Lib.IsBuilderF T e B b bs W) (hs:W.heap.size<=W'.heap.size) (h:Lib.OthersKept e (some b) W W'):KeepsOthers W W':=by
 refine⟨hs,fun k o hk ho=>h k o hk (fun e0=>?_) (fun c fz e0=>by subst e0;cases ho)⟩;cases e0
 have key:∀p,Lib.BuilderAtF T e B b p bs W->False:=by
  rintro p ⟨_,v,hb,_⟩;rw[hk]at hb;cases hb;cases ho
 exact hb.elim (key _) (key _)
theorem ks {e t:TypeId} {N b Bs:Nat} {v:Value} {W W':World} (hb:Below N W W') (hc:W.heap[Bs]? =some (Obj.cells #[v] t (0,0))) (ht:t≠e) (hne:Bs≠b) (h:Lib.OthersKept e (some b) W W'):KB N Bs W W':=
 ⟨hb,(h Bs _ hc (fun e0=>hne (Option.some.inj e0)) (fun c fz e0=>ht (by cases e0;rfl))).trans hc.symm⟩
theorem gn (l m:List UInt8):Lib.byteCells l++Lib.strCells ⟨m.toArray⟩=Lib.byteCells (l++m):=by
 rw[Lib.strCells_toArray]
 simp[Lib.byteCells]
theorem yP (l:List UInt8):(ByteArray.mk l.toArray).size=l.length:=aF l
theorem S9 (q:Nat):Lib.repeatL [48] q=List.replicate q 48:=by
 induction q with
 |zero=>rfl
 |succ q ih=>rw[Lib.repeatL,ih];rfl
theorem Do {cc m:Nat} (hS9:1<=(dd cc).length/\(dd cc).length<=9) (hm:m=(dd cc).length) (W:World):Calls Tryz.prog 178 #[.string ⟨#[48]⟩, .int .i64 ((9:Int)-(m:Int))] W fun e w'=>e= .returned (.string ⟨(List.replicate (9-(dd cc).length) (48:UInt8)).toArray⟩)/\Below W.heap.size W w':=by
 have h:=Tryz.strings_Repeat ⟨#[48]⟩ (9-(dd cc).length) W (by omega) (by show 1*_<=_;omega);rw[show((9-(dd cc).length:Nat):Int)=(9:Int)-(m:Int) by omega]at h;refine h.mono ?_;rintro e w' ⟨rfl,hb⟩;exact⟨by rw[show((⟨#[48]⟩:ByteArray).data.toList)=[48] from rfl,S9],hb⟩
theorem Fz {xs:List Nat} (h:val xs≠0):[]++i8 (val xs)=fmt (bC false xs):=by
 have e:bC false xs=(val xs:Int):=rfl;rw[e];unfold fmt;rw[if_neg (by omega),if_neg (by omega),Int.natAbs_natCast]
theorem G1 {xs:List Nat} (h:val xs≠0):[45]++i8 (val xs)=fmt (bC true xs):=by
 have e:bC true xs= -(val xs:Int):=rfl;rw[e];unfold fmt;rw[if_neg (by omega),if_pos (by omega),Int.natAbs_neg,Int.natAbs_natCast]
def vn:Value->World->Nat
 | .slice (some a) n _,w=>val ((List.range n).map fun i=>match w.cell? ⟨a.block,a.off+i,none⟩with|some (.int _ k)=>k.toNat|_=>0)
 |_,_=>0
theorem sL {w:World} {B g cap:Nat} {e:TypeId} {ms:List Nat} (h:w.ownsRow B e 1 (.slice (some ⟨g,0,none⟩) ms.length cap) ms.length (ms.map bR)):vn (.slice (some ⟨g,0,none⟩) ms.length cap) w=val ms:=by
 show val _=_
 congr 1
 apply List.ext_getElem
 ·simp
 ·intro i h1 h2
  have hc:=h.cells (g:=g) rfl i (bR ms[i]) (by simp[h2]);have hadd:(⟨g,0,none⟩:Addr).add i=⟨g,i,none⟩:=by unfold Addr.add;split <;>simp_all
  rw[hadd]at hc
  simp[hc,bR]
theorem IE {w:World} {B g n k cap:Nat} {e:TypeId} {xs:List Value} (h:w.ownsRow B e 1 (.slice (some ⟨g,0,none⟩) n cap) n xs) (hk:k<=n):w.ownsRow B e 1 (.slice (some ⟨g,0,none⟩) k cap) k (xs.take k):=by
 have hl:=h.1;refine⟨by simp;omega, .inr ?_⟩;rcases h.2 with⟨h1,_⟩| ⟨g',cap',cur,h1,h2,h3,h4,h5,h6,h7⟩
 ·cases h1
 ·cases h1
  refine⟨g,cap,cur,rfl,h2,h3,by omega,h5,h6,?_⟩;rw[<- h7,List.take_take]
  congr 1
  omega
set_option maxRecDepth 100000 in
theorem FU (v:Value) (na:Bool) (xs:List Nat) (w:World) (h:JF w v na xs) (hl:xs.length<=1000) (htab:mB w):
 CallsIn Fence.wide 4 Tryz.prog 177 #[v] w fun e w'=>e= .returned (.string (Bs (fmt (bC na xs))))/\Below w.heap.size w w':=by
 obtain⟨A,n,c,rfl,hx⟩:=h;have hro:Fence.wide.round=none:=rfl;have hcap:=hx.cap;have hlim:=hx.lim;have htrim:=fY A n c xs;have Hx:=Lib.hid hx;have Htrim:=Lib.hid htrim;have Htab:=Lib.hid htab;clear hx htab htrim;refine callsIn_of_wp_marks func177 rfl trivial ?_ hro
 simp only[ntmps177,List.size_toArray,List.length_cons,List.length_nil,Nat.reduceAdd,Nat.reduceSub,Array.replicate_succ,Array.replicate_zero,List.push_toArray,List.append_toArray,List.nil_append,List.cons_append]
 by_cases ht:trim xs=[]
 ·have hv0:val xs=0:=by rw[<- cX,ht];rfl
  have hz:fmt (bC na xs)=[48]:=by
   have:bC na xs=0:=by unfold bC;rw[hv0];cases na<;>rfl
   rw[this];rfl
  rw[hz];rw[ht]at Htrim;have hw0:ba w A 0 c []:=⟨rfl,Nat.zero_le _,hlim,Wd.nil, .nil _ _,Hx.out.isnil⟩;have Hcl:=Lib.hid (n7 A 0 c [] (w.alloc (.cells #[.bool na, .slice A n c] 36)) (hw0.alloc _) (by decide));clear hw0 hz hv0
  gi_wp2_with (first|(refine⟨trivial,?_⟩;gi_at_call 194;refine(callsIn_wide.2 (Htrim.out _ (Hx.out.alloc _))).mono ?_;rintro e w' ⟨rfl,rfl⟩)|(refine⟨trivial,?_⟩;gi_at_call 236;refine(callsIn_wide.2 Hcl.out).mono ?_;rintro e w' ⟨A',n',c',zs,rfl,hz',rfl,hb'⟩;obtain rfl:=hz'.len))
  refine⟨_,results_tmp rfl _ _ _,rfl,?_⟩;exact((Below.refl _ w).alloc (Nat.le_refl _) _).trans (hb'.mono (by simp))
 ·have hpos:0<(trim xs).length:=List.length_pos_iff.2 ht
  have hw0:ba w A (trim xs).length c (trim xs):=Hx.out.trim;have htl:(trim xs).length<=1000:=by have:=bK Hx.out.wd;omega
  have Hcl:=Lib.hid (Fx A (trim xs).length c (trim xs) (w.alloc (.cells #[.bool na, .slice A n c] 36)) (hw0.alloc _) hpos (by omega));clear hw0;have Hpos:=Lib.hid hpos;have hi1:((trim xs).length:Int)≠0:=by omega
  gi_wp2_with (first|(refine⟨trivial,?_⟩;gi_at_call 194;refine(callsIn_wide.2 (Htrim.out _ (Hx.out.alloc _))).mono ?_;rintro e w' ⟨rfl,rfl⟩)|(refine⟨trivial,?_⟩;gi_at_call 236;refine(callsIn_wide.2 Hcl.out).mono ?_;rintro e w' ⟨v',rfl,ho',hb'⟩;obtain⟨g,cap,cur,rfl,hg1,hg2,hg3,hg4,hg5,hg6⟩:=ho'.2.resolve_left (by rintro⟨_,h0⟩;omega)))
  simp only[show(((trim xs).length:Int) == 0)=false from beq_eq_false_iff_ne.2 hi1]
  gi_loopw [3] (fun m wr=>∃(ms chs:List Nat) (cv:Value),m= .slice (some ⟨g,0,none⟩) ms.length cap/\wr.ownsRow (w.heap.size+1) 135 1 m ms.length (ms.map bR)/\ms=digs (val ms)/\ms.length<=1000/\chs++ch (val ms)=ch (val xs) /\
   wr.heap[w'.heap.size]? =some (.cells #[cv] 34 (0,0))/\wr.ownsRow (w'.heap.size+1) 135 1 cv chs.length (chs.map bR)/\Below (w.heap.size+1) w' wr)
   (fun m wr=>vn m wr)
  case atStart=>
   rw[World.size_alloc]at ho' hb' hg1;have hg:g<w'.heap.size:=(Array.getElem?_eq_some_iff.1 hg2).1
   refine⟨trim xs,[], .slice none 0 0,rfl,ho'.alloc _,by rw[cX];rfl,htl,by rw[cX];rfl,by rw[heap_alloc_new],World.ownsRow_nil _ _ _ _,(Below.refl _ _).alloc (by have:=hb'.size;simp at this;omega) _⟩
  case round=>
   obtain⟨ms,chs,cv,rfl,hm,hmd,hml,hch,hcv,hcr,hbw⟩:=hrel;have hne1:cv.ownBlock≠some g:=fun e=>by have:=(hcr.lt g e).1;have:=(Array.getElem?_eq_some_iff.1 hg2).1;omega
   have hne2:cv.ownBlock≠some w'.heap.size:=fun e=>by have:=(hcr.lt _ e).1;omega
   have Hm:=Lib.hid hm;have Hmd:=Lib.hid hmd;have Hch:=Lib.hid hch;have Hcv:=Lib.hid hcv;have Hcr:=Lib.hid hcr;have Hw':=Lib.hid hbw;clear hm hmd hch hcv hcr hbw
   by_cases hz:ms.length=0
   ·have hz1:¬((ms.length:Int) > 0):=by omega
    have hmn:ms=[]:=List.eq_nil_of_length_eq_zero hz
    have hchs:chs=ch (val xs):=by
     have:=Hch.out;rw[hmn,show val []=0 from rfl,ku,List.append_nil]at this;exact this
    have hv0:val xs≠0:=fun e=>ht (by show digs (val xs)=[];rw[e,aK])
    have hne:chs≠[]:=by rw[hchs];exact Pz hv0
    have h9:∀x∈chs,x<1000000000:=by rw[hchs];exact Up _
    have hcl:chs.length<=2000:=by
     have h2:=np Hx.out.wd;rw[hchs];omega
    have hwd9:Wd chs:=fun x hx=>Nat.lt_trans (h9 x hx) (by decide)
    obtain⟨k,cap2,cur2,rfl,hk1,hk2,hk3,hk4,hk5,hk6⟩:=Hcr.out.2.resolve_left (by rintro⟨_,h0⟩;exact hne (List.eq_nil_of_length_eq_zero h0));have hW:ba wr (some ⟨k,0,none⟩) chs.length cap2 chs:=gF Hcr.out hwd9 hk3 (by unfold maxLen at hk4;omega)
    have hneg:wr.cell? ⟨w.heap.size,0,none⟩=some (.bool na):=by
     have h1:(w.alloc (.cells #[.bool na, .slice A n c] 36)).cell? ⟨w.heap.size,0,none⟩=some (.bool na):=by rw[Lib.cell_of_heap (heap_alloc_new _ _)];rfl
     rw[World.size_alloc]at hb';exact(Hw'.out.cell (p:=⟨w.heap.size,0,none⟩) (Nat.lt_succ_self _)).trans ((hb'.cell (p:=⟨w.heap.size,0,none⟩) (Nat.lt_succ_self _)).trans h1)
    have hchunk:wr.cell? ⟨w'.heap.size,0,none⟩=some (.slice (some ⟨k,0,none⟩) chs.length cap2):=by rw[Lib.cell_of_heap Hcv.out];rfl
    have htxt:RI chs.reverse=i8 (val xs):=by rw[hchs];exact Qg _
    have hBx:Below w.heap.size w wr:=by
     rw[World.size_alloc]at hb';exact((Below.refl _ w).alloc (Nat.le_refl _) _).trans ((hb'.trans Hw'.out).mono (Nat.le_succ _))
    have hB0:Lib.IsBuilderF 139 5 wr.heap.size wr.heap.size (Lib.byteCells []) (wr.alloc (.cells #[.pointer none, .slice none 0 0] 139)):= .inl ⟨Nat.le_refl _,_,heap_alloc_new _ _,World.ownsRowF_nil _ _ _ _,by simp[Value.ownBlock]⟩;have Hchs:=Lib.hid hchs;have Hne:=Lib.hid hne;have H9:=Lib.hid h9;have HW:=Lib.hid hW;have Htxt:=Lib.hid htxt;have HBx:=Lib.hid hBx;have HB0:=Lib.hid hB0;have Hv0:=Lib.hid hv0;have Htab':Hid (mB wr):=Lib.hid (Htab.out.mono hBx rfl);clear hchs hne h9 hW htxt hBx hB0 hv0 hwd9 hk2 hk5 hk6 hmn
    have hbs:w.heap.size+1<=wr.heap.size:=by
     have h1:=hg1;have h2:=(Array.getElem?_eq_some_iff.1 Hcv.out).1;rw[World.size_alloc]at h1 hb';have:=hb'.size
     simp at this
     omega
    have hws:w.heap.size<wr.heap.size:=by omega
    have hBlt:=(Array.getElem?_eq_some_iff.1 Hcv.out).1;have hneg1:(wr.alloc (.cells #[.pointer none, .slice none 0 0] 139)).cell? ⟨w.heap.size,0,none⟩=some (.bool na):=by rw[World.cell?_of_block (w:=wr) (a:=⟨w.heap.size,0,none⟩) (Lib.alloc_old wr _ _ hws)];exact hneg
    have hchunk1:(wr.alloc (.cells #[.pointer none, .slice none 0 0] 139)).cell? ⟨w'.heap.size,0,none⟩=some (.slice (some ⟨k,0,none⟩) chs.length cap2):=by rw[World.cell?_of_block (w:=wr) (a:=⟨w'.heap.size,0,none⟩) (Lib.alloc_old wr _ _ hBlt)];exact hchunk
    have Hchunk:=Lib.hid hchunk;clear hneg hchunk;cases na
    ·gi_wp2_with (refine⟨trivial,?_⟩;gi_at_call 238;refine(jJ _ _ trivial hro _ _ _ _).mono ?_;rintro e w5 ⟨rfl,rfl⟩)
     have hbV:=HB0.out;have hBV:Below wr.heap.size wr (wr.alloc (.cells #[.pointer none, .slice none 0 0] 139)):=(Below.refl _ _).alloc (Nat.le_refl _) _;have hlt0:wr.heap.size<(wr.alloc (.cells #[.pointer none, .slice none 0 0] 139)).heap.size:=by simp
     obtain⟨V,hV⟩:∃V,V=(wr.alloc (.cells #[.pointer none, .slice none 0 0] 139)):=⟨_,rfl⟩;rw[<- hV]at hbV hBV hlt0 ⊢;have hVS:V.heap.size=(wr.heap.size+1):=by first|rfl|(rw[hV,World.size_alloc])
     clear hV;have hVs:=hBV.size;have HbV:=Lib.hid hbV;clear hbV hneg1 hchunk1 hne1 hne2 hk4 hg5 hg6 hg4 hg3 ho' Htrim Hcl Hm Hmd Hch Hcr;have hVa:Below wr.heap.size wr (V.alloc (.cells #[.slice (some ⟨k,0,none⟩) chs.length cap2] 34)):=hBV.alloc hVs _;have hbs1:(V.alloc (.cells #[.slice (some ⟨k,0,none⟩) chs.length cap2] 34)).heap[(wr.heap.size+1)]? =some (.cells #[.slice (some ⟨k,0,none⟩) chs.length cap2] 34 (0,0)):=(by rw[<- hVS];exact heap_alloc_new _ _);have hltZ:wr.heap.size<(wr.heap.size+1):=by omega
     clear hlt0
     refine wpIn_rangeFunc_ownG hro (by decide) (gf:=286) (lb:= #[.pointer (some ⟨(wr.heap.size+1),0,none⟩)]) rfl trivial (enters_of func286 (by kernel_rfl) rfl)
      (pg Fence.wide 3 trivial hro (by decide) (wr.heap.size+1) (some ⟨k,0,none⟩) chs.length cap2 chs 1000000000 (by decide) H9.out wr _ HW.out hVa (by rw[World.size_alloc];have:=hVS;omega) (by rw[Lib.cell_of_heap hbs1];rfl)) (fun h k=>KB.trans h k) (KB.put (by simp;omega) (by rw[World.size_alloc];have:=hVS;omega)) (Below.refl _ _) (fun _=>rfl)
      (fun pre W=>Lib.IsBuilderF 139 5 wr.heap.size wr.heap.size (Lib.byteCells ([]++oH chs.length pre)) W/\Below wr.heap.size wr W/\W.heap[(wr.heap.size+1)]? =some (.cells #[.slice (some ⟨k,0,none⟩) chs.length cap2] 34 (0,0)))
      (fun _ _ _=>False)
      (OwnFrom.and Ed (OwnFrom.and (ownFrom_below (Nat.le_refl _) (by simp;omega)) (uK _ _ _ _)))
      (fun _ _ _ _ _ hs _ _=>hs)
      ⟨eL HbV.out (dw ((Below.refl _ _).alloc (Nat.le_refl _) _)),hVa,hbs1⟩ ?afalse ?assign ?body ?done ?stop
     all_goals clear hVS
     case assign=>
      intro l x W K hK
      gi_wp2
      exact hK
     case body=>
      rintro l pre x W ⟨hb,hB,hbs⟩ hlt;obtain⟨cc,hcc⟩:∃cc,cc=x.2%1000000000:=⟨_,rfl⟩;obtain⟨ix,hix⟩:∃ix,ix=x.1:=⟨_,rfl⟩;have hc9:cc<1000000000:=by rw[hcc];exact qd _
      have hS9:=vX hc9;have hL:=yj chs.length pre;have hsn:=uS chs.length pre x;have hpx:An chs.length x=if(ix:Int)<(chs.length:Int)-1 then ui cc else dd cc:=by rw[hcc,hix];rfl
      rw[<- hcc,<- hix];have hfu:=gy cc (by omega) W (Htab'.out.mono hB rfl).here;rw[eQ]at hfu;have hcW:W.cell? ⟨w'.heap.size,0,none⟩=some (.slice (some ⟨k,0,none⟩) chs.length cap2):=(hB.cell (p:=⟨w'.heap.size,0,none⟩) hBlt).trans Hchunk.out;have hwr:IntKind.u64.wrap (cc:Int)=cc:=by rw[IntKind.wrap_u64];omega
      have hWs:=hB.size;have hl1:(Lib.byteCells ([]++oH chs.length pre)).length<=20000:=by rw[Lib.byteCells_length];simp;omega
      have Hcc:=Lib.hid hcc;have Hix:=Lib.hid hix;have Hsn:=Lib.hid hsn;have Hpx:=Lib.hid hpx;have Hfu:=Lib.hid hfu;have Hb:=Lib.hid hb;have HB:=Lib.hid hB;have Hbs:=Lib.hid hbs;clear hcc hix hsn hpx hfu hb hB hbs
      by_cases hp:(ix:Int)<(chs.length:Int)-1
      ·have hpt:An chs.length x=List.replicate (9-(dd cc).length) 48++dd cc:=by rw[Hpx.out,if_pos hp];rfl
       have hrep:=fun W=>Do (cc:=cc) hS9 rfl W
       have hsz:(ByteArray.mk (dd cc).toArray).size=(dd cc).length:=aF _;have Hpt:=Lib.hid hpt;clear hpt
       gi_wp2
       refine⟨trivial,?_⟩
       gi_at_call 239
       refine(CallsIn.inRound l (callsIn_wide.2 Hfu.out)).mono ?_;rintro e w6 ⟨rfl,hb6⟩;have hc6:=(hb6.cell (p:=⟨w'.heap.size,0,none⟩) (by dsimp only;omega)).trans hcW;have Hb6:=Lib.hid (eL Hb.out (dw hb6));have hs6:=hb6.size
       gi_wp2
       refine⟨trivial,?_⟩
       gi_at_call 178
       refine(CallsIn.inRound l (callsIn_wide.2 (hrep _))).mono ?_;rintro e w7 ⟨rfl,hb7⟩;have Hb7:=Lib.hid (eL Hb6.out (dw hb7));have hs7:=hb7.size
       gi_wp2
       refine⟨trivial,?_⟩
       gi_at_call 103
       refine(CallsIn.inRound l (callsIn_wide.2 (dK wr.heap.size wr.heap.size _ ⟨(List.replicate (9-(dd cc).length) (48:UInt8)).toArray⟩ w7 Hb7.out (by rw[show(ByteArray.mk (List.replicate (9-(dd cc).length) (48:UInt8)).toArray).size=9-(dd cc).length by rw[yP _];simp];omega) (by omega)))).mono ?_;rintro e w8 ⟨rfl,hb8,hw8,ho8⟩;rw[gn]at hb8;have Hb8:=Lib.hid (show Lib.IsBuilderF 139 5 wr.heap.size wr.heap.size _ w8 from .inr hb8);have hs8:=hw8.size;have Hw8:=Lib.hid hw8;have Ho8:=Lib.hid ho8;clear hb8 hw8 ho8
       gi_wp2
       refine⟨trivial,?_⟩
       gi_at_call 103
       refine(CallsIn.inRound l (callsIn_wide.2 (dK wr.heap.size wr.heap.size _ ⟨(dd cc).toArray⟩ w8 Hb8.out (by rw[hsz,Lib.byteCells_length];simp;omega) (by omega)))).mono ?_;rintro e w9 ⟨rfl,hb9,hw9,ho9⟩;rw[gn]at hb9;have Hb9:=Lib.hid (show Lib.IsBuilderF 139 5 wr.heap.size wr.heap.size _ w9 from .inr hb9);have hs9:=hw9.size;have Hw9:=Lib.hid hw9;have Ho9:=Lib.hid ho9;clear hb9 hw9 ho9
       gi_wp2
       have h1:KB wr.heap.size (wr.heap.size+1) W w7:=⟨(hb6.mono hWs).trans (hb7.mono (by omega)),(hb7.block _ (by have:=(Array.getElem?_eq_some_iff.1 Hbs.out).1;omega)).trans (hb6.block _ (Array.getElem?_eq_some_iff.1 Hbs.out).1)⟩;have h2:=ks Hw8.out (h1.2.trans Hbs.out) (by decide) (by omega) Ho8.out;have h3:=ks Hw9.out ((h1.trans h2).2.trans Hbs.out) (by decide) (by omega) Ho9.out;refine⟨?_,(h1.trans h2).trans h3,?_,?_,((h1.trans h2).trans h3).2.trans Hbs.out⟩
       ·exact Oq
       ·exact OG
       ·exact O3
      ·have hpt:An chs.length x=dd cc:=by rw[Hpx.out,if_neg hp]
       have hsz:(ByteArray.mk (dd cc).toArray).size=(dd cc).length:=aF _;have Hpt:=Lib.hid hpt;clear hpt
       gi_wp2
       refine⟨trivial,?_⟩
       gi_at_call 239
       refine(CallsIn.inRound l (callsIn_wide.2 Hfu.out)).mono ?_;rintro e w6 ⟨rfl,hb6⟩;have hc6:=(hb6.cell (p:=⟨w'.heap.size,0,none⟩) (by dsimp only;omega)).trans hcW;have Hb6:=Lib.hid (eL Hb.out (dw hb6));have hs6:=hb6.size
       gi_wp2
       refine⟨trivial,?_⟩
       gi_at_call 103
       refine(CallsIn.inRound l (callsIn_wide.2 (dK wr.heap.size wr.heap.size _ ⟨(dd cc).toArray⟩ w6 Hb6.out (by rw[hsz,Lib.byteCells_length];simp;omega) (by omega)))).mono ?_;rintro e w9 ⟨rfl,hb9,hw9,ho9⟩;rw[gn]at hb9;have Hb9:=Lib.hid (show Lib.IsBuilderF 139 5 wr.heap.size wr.heap.size _ w9 from .inr hb9);have hs9:=hw9.size;have Hw9:=Lib.hid hw9;have Ho9:=Lib.hid ho9;clear hb9 hw9 ho9
       gi_wp2
       have h1:KB wr.heap.size (wr.heap.size+1) W w6:=⟨hb6.mono hWs,hb6.block _ (Array.getElem?_eq_some_iff.1 Hbs.out).1⟩;have h3:=ks Hw9.out (h1.2.trans Hbs.out) (by decide) (by omega) Ho9.out;refine⟨?_,h1.trans h3,?_,?_,(h1.trans h3).2.trans Hbs.out⟩
       ·exact((mP hb6).trans (kz Hb6.out hs9 Ho9.out)).from _
       ·have h4:=Hb9.out
        rw[List.append_assoc,<- Hpt.out,<- Hsn.out]at h4;exact h4
       ·exact(HB.out.trans (hb6.mono hWs)).trans Hw9.out
     case done=>
      rintro D ys W hD rfl ⟨hb,hB,_⟩ hK;rw[uR H9.out Hne.out,Htxt.out,Fz Hv0.out]at hb;have hWs:=hB.size;have hDs:w.heap.size<=D:=by rw[World.size_alloc]at hD;omega
      gi_wp2_with (refine⟨trivial,?_⟩;gi_at_call 104;refine(callsIn_wide.2 (Tryz.Builder_String_any_k wr.heap.size wr.heap.size _ W hb hWs)).mono ?_;rintro e w6 ⟨rfl,hb6,hw6,ho6⟩)
      have hK6:=(kz hb hw6.size ho6).same D _ hK rfl;refine⟨by simp, .inl ⟨_,_,rfl,run_takeDeferred hK6,?_⟩⟩;refine⟨_,results_tmp rfl _ _ _,rfl,?_⟩;exact(HBx.out.trans ((hB.trans hw6).mono (by omega))).trans (belowK_b (w:=w) (Nat.le_refl _) w6 D _ _ hDs hK6 rfl rfl)
     case stop=>
      rintro D c pre W _ _ h _;exact h.elim
    ·gi_wp2_with (first|(refine⟨trivial,?_⟩;gi_at_call 237;refine(callsIn_wide.2 (yt wr.heap.size wr.heap.size (Lib.byteCells []) 45 _ HB0.out (by simp[Lib.byteCells]) (by simp))).mono ?_;rintro e w4 ⟨rfl,hb4,hw4,ho4⟩;have hcV:w4.cell? ⟨w'.heap.size,0,none⟩=some (.slice (some ⟨k,0,none⟩) chs.length cap2):=(hw4.cell (p:=⟨w'.heap.size,0,none⟩) hBlt).trans hchunk1)|(refine⟨trivial,?_⟩;gi_at_call 238;refine(jJ _ _ trivial hro _ _ _ _).mono ?_;rintro e w5 ⟨rfl,rfl⟩))
     have hbV:Lib.IsBuilderF 139 5 wr.heap.size wr.heap.size (Lib.byteCells [45]) w4:= .inr hb4;have hBV:Below wr.heap.size wr w4:=((Below.refl _ _).alloc (Nat.le_refl _) _).trans hw4;have hlt0:=hb4.lt;clear ho4 hw4 hb4 hcV
     obtain⟨V,hV⟩:∃V,V=w4:=⟨_,rfl⟩;rw[<- hV]at hbV hBV hlt0 ⊢;have hVS:V.heap.size=V.heap.size:=by first|rfl|(rw[hV,World.size_alloc])
     clear hV;have hVs:=hBV.size;have HbV:=Lib.hid hbV;clear hbV hneg1 hchunk1 hne1 hne2 hk4 hg5 hg6 hg4 hg3 ho' Htrim Hcl Hm Hmd Hch Hcr;have hVa:Below wr.heap.size wr (V.alloc (.cells #[.slice (some ⟨k,0,none⟩) chs.length cap2] 34)):=hBV.alloc hVs _;have hbs1:(V.alloc (.cells #[.slice (some ⟨k,0,none⟩) chs.length cap2] 34)).heap[V.heap.size]? =some (.cells #[.slice (some ⟨k,0,none⟩) chs.length cap2] 34 (0,0)):=(by rw[<- hVS];exact heap_alloc_new _ _);have hltZ:wr.heap.size<V.heap.size:=by omega
     clear hlt0
     refine wpIn_rangeFunc_ownG hro (by decide) (gf:=286) (lb:= #[.pointer (some ⟨V.heap.size,0,none⟩)]) rfl trivial (enters_of func286 (by kernel_rfl) rfl)
      (pg Fence.wide 3 trivial hro (by decide) V.heap.size (some ⟨k,0,none⟩) chs.length cap2 chs 1000000000 (by decide) H9.out wr _ HW.out hVa (by rw[World.size_alloc];have:=hVS;omega) (by rw[Lib.cell_of_heap hbs1];rfl)) (fun h k=>KB.trans h k) (KB.put (by simp;omega) (by rw[World.size_alloc];have:=hVS;omega)) (Below.refl _ _) (fun _=>rfl)
      (fun pre W=>Lib.IsBuilderF 139 5 wr.heap.size wr.heap.size (Lib.byteCells ([45]++oH chs.length pre)) W/\Below wr.heap.size wr W/\W.heap[V.heap.size]? =some (.cells #[.slice (some ⟨k,0,none⟩) chs.length cap2] 34 (0,0)))
      (fun _ _ _=>False)
      (OwnFrom.and Ed (OwnFrom.and (ownFrom_below (Nat.le_refl _) (by simp;omega)) (uK _ _ _ _)))
      (fun _ _ _ _ _ hs _ _=>hs)
      ⟨eL HbV.out (dw ((Below.refl _ _).alloc (Nat.le_refl _) _)),hVa,hbs1⟩ ?atrue ?assign ?body ?done ?stop
     all_goals clear hVS
     case assign=>
      intro l x W K hK
      gi_wp2
      exact hK
     case body=>
      rintro l pre x W ⟨hb,hB,hbs⟩ hlt;obtain⟨cc,hcc⟩:∃cc,cc=x.2%1000000000:=⟨_,rfl⟩;obtain⟨ix,hix⟩:∃ix,ix=x.1:=⟨_,rfl⟩;have hc9:cc<1000000000:=by rw[hcc];exact qd _
      have hS9:=vX hc9;have hL:=yj chs.length pre;have hsn:=uS chs.length pre x;have hpx:An chs.length x=if(ix:Int)<(chs.length:Int)-1 then ui cc else dd cc:=by rw[hcc,hix];rfl
      rw[<- hcc,<- hix];have hfu:=gy cc (by omega) W (Htab'.out.mono hB rfl).here;rw[eQ]at hfu;have hcW:W.cell? ⟨w'.heap.size,0,none⟩=some (.slice (some ⟨k,0,none⟩) chs.length cap2):=(hB.cell (p:=⟨w'.heap.size,0,none⟩) hBlt).trans Hchunk.out;have hwr:IntKind.u64.wrap (cc:Int)=cc:=by rw[IntKind.wrap_u64];omega
      have hWs:=hB.size;have hl1:(Lib.byteCells ([45]++oH chs.length pre)).length<=20000:=by rw[Lib.byteCells_length];simp;omega
      have Hcc:=Lib.hid hcc;have Hix:=Lib.hid hix;have Hsn:=Lib.hid hsn;have Hpx:=Lib.hid hpx;have Hfu:=Lib.hid hfu;have Hb:=Lib.hid hb;have HB:=Lib.hid hB;have Hbs:=Lib.hid hbs;clear hcc hix hsn hpx hfu hb hB hbs
      by_cases hp:(ix:Int)<(chs.length:Int)-1
      ·have hpt:An chs.length x=List.replicate (9-(dd cc).length) 48++dd cc:=by rw[Hpx.out,if_pos hp];rfl
       have hrep:=fun W=>Do (cc:=cc) hS9 rfl W
       have hsz:(ByteArray.mk (dd cc).toArray).size=(dd cc).length:=aF _;have Hpt:=Lib.hid hpt;clear hpt
       gi_wp2
       refine⟨trivial,?_⟩
       gi_at_call 239
       refine(CallsIn.inRound l (callsIn_wide.2 Hfu.out)).mono ?_;rintro e w6 ⟨rfl,hb6⟩;have hc6:=(hb6.cell (p:=⟨w'.heap.size,0,none⟩) (by dsimp only;omega)).trans hcW;have Hb6:=Lib.hid (eL Hb.out (dw hb6));have hs6:=hb6.size
       gi_wp2
       refine⟨trivial,?_⟩
       gi_at_call 178
       refine(CallsIn.inRound l (callsIn_wide.2 (hrep _))).mono ?_;rintro e w7 ⟨rfl,hb7⟩;have Hb7:=Lib.hid (eL Hb6.out (dw hb7));have hs7:=hb7.size
       gi_wp2
       refine⟨trivial,?_⟩
       gi_at_call 103
       refine(CallsIn.inRound l (callsIn_wide.2 (dK wr.heap.size wr.heap.size _ ⟨(List.replicate (9-(dd cc).length) (48:UInt8)).toArray⟩ w7 Hb7.out (by rw[show(ByteArray.mk (List.replicate (9-(dd cc).length) (48:UInt8)).toArray).size=9-(dd cc).length by rw[yP _];simp];omega) (by omega)))).mono ?_;rintro e w8 ⟨rfl,hb8,hw8,ho8⟩;rw[gn]at hb8;have Hb8:=Lib.hid (show Lib.IsBuilderF 139 5 wr.heap.size wr.heap.size _ w8 from .inr hb8);have hs8:=hw8.size;have Hw8:=Lib.hid hw8;have Ho8:=Lib.hid ho8;clear hb8 hw8 ho8
       gi_wp2
       refine⟨trivial,?_⟩
       gi_at_call 103
       refine(CallsIn.inRound l (callsIn_wide.2 (dK wr.heap.size wr.heap.size _ ⟨(dd cc).toArray⟩ w8 Hb8.out (by rw[hsz,Lib.byteCells_length];simp;omega) (by omega)))).mono ?_;rintro e w9 ⟨rfl,hb9,hw9,ho9⟩;rw[gn]at hb9;have Hb9:=Lib.hid (show Lib.IsBuilderF 139 5 wr.heap.size wr.heap.size _ w9 from .inr hb9);have hs9:=hw9.size;have Hw9:=Lib.hid hw9;have Ho9:=Lib.hid ho9;clear hb9 hw9 ho9
       gi_wp2
       have h1:KB wr.heap.size V.heap.size W w7:=⟨(hb6.mono hWs).trans (hb7.mono (by omega)),(hb7.block _ (by have:=(Array.getElem?_eq_some_iff.1 Hbs.out).1;omega)).trans (hb6.block _ (Array.getElem?_eq_some_iff.1 Hbs.out).1)⟩;have h2:=ks Hw8.out (h1.2.trans Hbs.out) (by decide) (by omega) Ho8.out;have h3:=ks Hw9.out ((h1.trans h2).2.trans Hbs.out) (by decide) (by omega) Ho9.out;refine⟨?_,(h1.trans h2).trans h3,?_,?_,((h1.trans h2).trans h3).2.trans Hbs.out⟩
       ·exact Oq
       ·exact OG
       ·exact O3
      ·have hpt:An chs.length x=dd cc:=by rw[Hpx.out,if_neg hp]
       have hsz:(ByteArray.mk (dd cc).toArray).size=(dd cc).length:=aF _;have Hpt:=Lib.hid hpt;clear hpt
       gi_wp2
       refine⟨trivial,?_⟩
       gi_at_call 239
       refine(CallsIn.inRound l (callsIn_wide.2 Hfu.out)).mono ?_;rintro e w6 ⟨rfl,hb6⟩;have hc6:=(hb6.cell (p:=⟨w'.heap.size,0,none⟩) (by dsimp only;omega)).trans hcW;have Hb6:=Lib.hid (eL Hb.out (dw hb6));have hs6:=hb6.size
       gi_wp2
       refine⟨trivial,?_⟩
       gi_at_call 103
       refine(CallsIn.inRound l (callsIn_wide.2 (dK wr.heap.size wr.heap.size _ ⟨(dd cc).toArray⟩ w6 Hb6.out (by rw[hsz,Lib.byteCells_length];simp;omega) (by omega)))).mono ?_;rintro e w9 ⟨rfl,hb9,hw9,ho9⟩;rw[gn]at hb9;have Hb9:=Lib.hid (show Lib.IsBuilderF 139 5 wr.heap.size wr.heap.size _ w9 from .inr hb9);have hs9:=hw9.size;have Hw9:=Lib.hid hw9;have Ho9:=Lib.hid ho9;clear hb9 hw9 ho9
       gi_wp2
       have h1:KB wr.heap.size V.heap.size W w6:=⟨hb6.mono hWs,hb6.block _ (Array.getElem?_eq_some_iff.1 Hbs.out).1⟩;have h3:=ks Hw9.out (h1.2.trans Hbs.out) (by decide) (by omega) Ho9.out;refine⟨?_,h1.trans h3,?_,?_,(h1.trans h3).2.trans Hbs.out⟩
       ·exact((mP hb6).trans (kz Hb6.out hs9 Ho9.out)).from _
       ·have h4:=Hb9.out
        rw[List.append_assoc,<- Hpt.out,<- Hsn.out]at h4;exact h4
       ·exact(HB.out.trans (hb6.mono hWs)).trans Hw9.out
     case done=>
      rintro D ys W hD rfl ⟨hb,hB,_⟩ hK;rw[uR H9.out Hne.out,Htxt.out,G1 Hv0.out]at hb;have hWs:=hB.size;have hDs:w.heap.size<=D:=by rw[World.size_alloc]at hD;omega
      gi_wp2_with (refine⟨trivial,?_⟩;gi_at_call 104;refine(callsIn_wide.2 (Tryz.Builder_String_any_k wr.heap.size wr.heap.size _ W hb hWs)).mono ?_;rintro e w6 ⟨rfl,hb6,hw6,ho6⟩)
      have hK6:=(kz hb hw6.size ho6).same D _ hK rfl;refine⟨by simp, .inl ⟨_,_,rfl,run_takeDeferred hK6,?_⟩⟩;refine⟨_,results_tmp rfl _ _ _,rfl,?_⟩;exact(HBx.out.trans ((hB.trans hw6).mono (by omega))).trans (belowK_b (w:=w) (Nat.le_refl _) w6 D _ _ hDs hK6 rfl rfl)
     case stop=>
      rintro D c pre W _ _ h _;exact h.elim
   ·have hz1:(ms.length:Int) > 0:=by omega
    have hz2:(0:Int)<ms.length:=by omega
    gi_wp2
    gi_loopw [5,6] (fun r i w2=>∃(k:Nat) (zs:List Nat) (rr:Nat),k<=ms.length/\i= .int .i64 ((ms.length:Int)-1-k)/\r= .int .u64 (rr:Int)/\rr<1000000000/\zs.length=ms.length/\Wd zs /\
     w2.ownsRow (w.heap.size+1) 135 1 (.slice (some ⟨g,0,none⟩) ms.length cap) ms.length (zs.map bR)/\zs.take (ms.length-k)=ms.take (ms.length-k)/\val (zs.drop (ms.length-k))*1000000000+rr=val (ms.drop (ms.length-k)) /\
     (∀b,b≠g->w2.heap[b]? =wr.heap[b]?)/\Below (w.heap.size+1) wr w2)
     (fun r i w2=>(intOf i+1).toNat)
    case atStart=>exact⟨0,ms,0,Nat.zero_le _,by go_num,rfl,by decide,rfl,by rw[Hmd.out];exact ac _,Hm.out,rfl,by rw[Nat.sub_zero,List.drop_length];rfl,fun _ _=>rfl,Below.refl _ _⟩
    case round=>
     obtain⟨k,zs,rr,hk,rfl,rfl,hrr,hzl,hzw,hzo,hzt,hzv,hzb,hzB⟩:=hrel;have Hzl:=Lib.hid hzl;have Hzw:=Lib.hid hzw;have Hzt:=Lib.hid hzt;have Hzv:=Lib.hid hzv;have Hzb:=Lib.hid hzb;have HzB:=Lib.hid hzB
     by_cases hlt:k<ms.length
     ·obtain⟨j,hj⟩:∃j,j=ms.length-1-k:=⟨_,rfl⟩
      have hjl:j<ms.length:=by omega
      have hjz:j<zs.length:=by omega
      have hcell:=hzo.cellAt j (by omega);have hfr:=hzo.frozenAt j;rw[List.getElem?_map,List.getElem?_eq_getElem hjz]at hcell;have hxw:zs[j]<4294967296:=hzw _ (List.getElem_mem hjz)
      obtain⟨x,hx⟩:∃x,zs[j]=x:=⟨_,rfl⟩;rw[hx]at hcell hxw;have hor:=gT rr x (by omega) hxw;have Hx':=Lib.hid hx;have Hzo:=Lib.hid hzo;have g1:(0:Int)<=(ms.length:Int)-1-k:=by omega
      have g2:(ms.length:Int)-1-k<ms.length:=by omega
      have g3:((ms.length:Int)-1-k).toNat=j:=by omega
      rw[hj]at hcell hfr g3;have HJ:=Lib.hid hj;have Hjl:=Lib.hid hjl;clear hzo hzl hzw hzt hzv hzb hzB hx hj hjl
      gi_wp2
      obtain⟨d,hd⟩:∃d:Nat,(rr*4294967296+x)/1000000000=d:=⟨_,rfl⟩;obtain⟨r1,hr1⟩:∃r1:Nat,(rr*4294967296+x)%1000000000=r1:=⟨_,rfl⟩;have ed:((rr:Int)*4294967296+x)/1000000000=(d:Nat):=by omega
      have er:((rr:Int)*4294967296+x)%1000000000=(r1:Nat):=by omega
      rw[ed,er];have hst:=Hzo.out.stored j (bR d);rw[HJ.out]at hst;have hjl:=Hjl.out;refine⟨⟨k+1,zs.set j d,r1,by omega,by go_num,rfl,by omega,by rw[List.length_set];exact Hzl.out,?_,by rw[List.map_set,HJ.out];exact hst.1,?_,?_,fun b hb=>(Below.heap_setCell _ _ _ _ hb).trans (Hzb.out b hb),HzB.out.setCell (p:=⟨g,ms.length-1-k,none⟩) (by have h1:=hg1;rw[World.size_alloc]at h1;exact h1) _⟩,by simp[intOf];omega⟩
      ·exact cZ Hzw.out j d (by omega)
      ·have ht:=congrArg (List.take (ms.length-(k+1))) Hzt.out
       rw[List.take_take,List.take_take,Nat.min_eq_left (by omega)]at ht;have hj:=HJ.out;rw[List.take_set_of_le (by omega)];exact ht
      ·have hj:=HJ.out
       have hzl:=Hzl.out
       have hmx:ms.getD j 0=x:=by
        have h1:=congrArg (fun l:List Nat=>l.getD j 0) Hzt.out
        simp only[List.getD_eq_getElem?_getD,List.getElem?_take]at h1
        rw[if_pos (by omega),if_pos (by omega)]at h1;rw[List.getD_eq_getElem?_getD,<- h1,List.getElem?_eq_getElem hjz,Hx'.out];rfl
       have e1:=bX ms (ms.length-k) (by omega) (by omega);have e2:=bX (zs.set j d) (ms.length-k) (by omega) (by rw[List.length_set];omega);rw[show ms.length-k-1=j by omega]at e1 e2;rw[show ms.length-(k+1)=j by omega,e1,e2,hmx,List.drop_set_of_lt (by omega)];have h3:(zs.set j d).getD j 0=d:=by rw[List.getD_eq_getElem?_getD,List.getElem?_set_self hjz];rfl
       rw[h3];exact Hp Hzv.out hd hr1
     ·obtain rfl:k=ms.length:=by omega
      have hmc:ms.length<=cap:=by
       rcases hzo.2 with⟨h1,_⟩| ⟨g',c',_,h1,_,_,h2,_⟩
       ·cases h1
       ·cases h1;exact h2
      have hw2:ba wr (some ⟨g,0,none⟩) ms.length cap zs:=gF hzo hzw hmc (by unfold maxLen at hg4;omega);have Hzo:=Lib.hid hzo;have htr:=fY (some ⟨g,0,none⟩) ms.length cap zs wr hw2;have Htr:=Lib.hid htr;have g1:¬((0:Int)<=(ms.length:Int)-1-ms.length):=by omega
      have hgq:w'.heap.size≠g:=by have:=(Array.getElem?_eq_some_iff.1 hg2).1;omega
      have hq:=(hzb w'.heap.size hgq).trans Hcv.out;have hcr2:=iS Hcr.out hzb hne1;have c0:wr.cell? ⟨w'.heap.size,0,none⟩=some cv:=by rw[Lib.cell_of_heap hq];rfl
      have f0:wr.frozen? ⟨w'.heap.size,0,none⟩=false:=Lib.frozen_of_heap hq 0;have Hq:=Lib.hid hq;have Hcr2:=Lib.hid hcr2;clear hq hcr2;clear hzo hzl hzw hzt hzv hzb hzB hw2 htr
      have hcl:chs.length<=2000:=by
       have h1:=congrArg List.length Hch.out;have h2:=np Hx.out.wd;rw[List.length_append]at h1;omega
      obtain⟨i0,hi,hz0,hz1',hz2'⟩:=info_parts Tryz.infoU32
      have hbs:w.heap.size+1<=wr.heap.size:=by
       have h1:=hg1;have h2:=(Array.getElem?_eq_some_iff.1 Hq.out).1;rw[World.size_alloc]at h1 hb';have:=hb'.size
       simp at this
       omega
      gi_wp2_with (first|(refine⟨trivial,?_⟩;gi_at_call 194;refine(callsIn_wide.2 Htr.out).mono ?_;rintro e w3 ⟨rfl,rfl⟩)|(gi_at_builtin;refine wpListIn_append_own _ rfl _ _ 34 rfl (w'.heap.size+1) 135 i0 (.int .u32 0) 1 4 underlying34 hi hz0 hz1' hz2' rfl (by decide) _ _ _ rfl (Hcr2.out.alloc _) ⟨wr.heap.size,0,none⟩ 1 1 [bR rr] rfl rfl ?c1 ?c2 ?c3 ?c4 ?c5 ?_))
      case c1=>
       intro j u hj
       match j,hj with
       |0,hj=>simp at hj;subst hj;simp[Addr.add]
      case c2=>intro u hu;simp at hu;subst hu;rfl
      case c3=>unfold maxLen;omega
      case c4=>omega
      case c5=>have:=(Array.getElem?_eq_some_iff.1 Hq.out).1;simp;omega
      intro v2 w2 hown2 hgrow _;have hBlt:=(Array.getElem?_eq_some_iff.1 Hq.out).1
      have hq2:w2.heap[w'.heap.size]? =some (.cells #[cv] 34 (0,0)):=by
       rw[hgrow.block w'.heap.size (by simp;omega) (fun e=>hne2 e.symm),Lib.alloc_old wr _ w'.heap.size hBlt];exact Hq.out
      have e0:w2.cell? ⟨w'.heap.size,0,none⟩=some cv:=by rw[Lib.cell_of_heap hq2];rfl
      have g0:w2.frozen? ⟨w'.heap.size,0,none⟩=false:=Lib.frozen_of_heap hq2 0
      obtain⟨ao,n2,c2,rfl⟩:∃ao n2 c2,v2= .slice ao n2 c2:=by
       rcases hown2.2 with⟨hv,_⟩| ⟨g2,cap2,cur2,hv,_⟩
       ·exact⟨_,_,_,hv⟩
       ·exact⟨_,_,_,hv⟩
      have Hown2:=Lib.hid hown2;have Hgrow:=Lib.hid hgrow;clear hown2 hgrow
      gi_wp2
      have hvz:val zs*1000000000+rr=val ms:=by
       have:=Hzv.out;rw[Nat.sub_self,List.drop_zero,List.drop_zero]at this;exact this
      have hm0:val ms≠0:=fun e=>by
       have:=Hmd.out;rw[e,aK]at this;rw[this]at hz;exact hz rfl
      have hzl:=Hzl.out;have htz:=bK Hzw.out
      have hog:(w2.setCell ⟨w'.heap.size,0,none⟩ (.slice ao n2 c2)).ownsRow (w.heap.size+1) 135 1 (.slice (some ⟨g,0,none⟩) (trim zs).length cap) (trim zs).length ((trim zs).map bR):=by
       have h1:w2.ownsRow (w.heap.size+1) 135 1 (.slice (some ⟨g,0,none⟩) ms.length cap) ms.length (zs.map bR):=(Hzo.out.alloc _).kept Hgrow.out (.inr (fun e=>hne1 e.symm));have h2:=IE h1 (k:=(trim zs).length) (by omega);rw[<- List.map_take,(kb Hzw.out).1]at h2;exact iS h2 (g:=w'.heap.size) (fun b hb=>Below.heap_setCell _ _ _ _ hb) (fun e=>hgq (Option.some.inj e).symm)
      have hos:∀k,(Value.slice ao n2 c2).ownBlock=some k->w'.heap.size+1<=k:=fun k hk=>(Hown2.out.lt k hk).1
      go_roundw
      case rel=>
       refine⟨trim zs,chs++[rr], .slice ao n2 c2,rfl,hog,by rw[cX];rfl,by omega,?_,?_,?_,?_⟩
       ·rw[cX,<- Hch.out,sx hm0,show val ms%1000000000=rr by omega,show val ms/1000000000=val zs by omega]
        simp
       ·rw[heap_setCell_same _ _ _ _ _ _ hq2];rfl
       ·rw[List.length_append,List.map_append]
        exact iS Hown2.out (g:=w'.heap.size) (fun b hb=>Below.heap_setCell _ _ _ _ hb) (fun e=>by have:=hos _ e;omega)
       ·refine((Hw'.out.trans HzB.out).alloc (by omega) _ |>.grown Hgrow.out (by simp;omega) (fun k hk=>?_)).setCell (p:=⟨w'.heap.size,0,none⟩) ?_ _
        ·have:=(Hcr2.out.lt k hk).1
         have:=hb'.size
         simp at this
         omega
        ·have:=hb'.size
         simp at this
         exact this
      case measure=>
       show vn (.slice (some ⟨g,0,none⟩) (trim zs).length cap) _<vn (.slice (some ⟨g,0,none⟩) ms.length cap) _
       rw[sL hog,sL Hm.out,cX];omega
theorem Id (v:Value) (na:Bool) (xs:List Nat) (w:World) (h:JF w v na xs) (hl:xs.length<=1000) (htab:mB w):
 Calls Tryz.prog 177 #[v] w fun e w'=>e= .returned (.string (Bs (fmt (bC na xs))))/\Below w.heap.size w w':=callsIn_wide.1 (FU v na xs w h hl htab)
theorem yy {na:Bool} {xs:List Nat} (hw:Wd xs) (hl:xs.length<=1000) {z:Int} (hz:bC na xs=z):aa Tryz.prog 177 [dI na xs] (.one (dL (fmt z))):=by
 refine⟨aA func177 rfl rfl,fun S w vs hS hv=>?_⟩
 match vs,hv with
 | [v],⟨h,_⟩=>
  refine(Id v na xs w (K4 h hw) hl hS.1).mono ?_;rintro e w' ⟨rfl,hb⟩;exact⟨_,rfl,by rw[hz];exact AV.M.val rfl,hb⟩
theorem wF {z:Int} (h:(digs z.natAbs).length<=1000):aa Tryz.prog 177 [dZ z] (.one (dL (fmt z))):=yy (ac _) h (aU z)
end
end Go.Proofs.YtnchbpoopnjghaaGreatDoor
