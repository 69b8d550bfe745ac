/- Slices of words in memory: what a slice value reads as, and how that is kept from world to world. trim of both packages, and what it returns: the same slice, cut to the words before the last zeros. Integers as values in memory; signed of both packages. -/
import Derived.Test.YtnchbpoopnjghaaGreatDoorProg
import Derived.Test.YtnchbpoopnjghaaGreatDoorHAa
set_option maxHeartbeats 100000000
set_option linter.all false
open Go.Proofs.Tryz
namespace Go.Proofs.YtnchbpoopnjghaaGreatDoor
open Go.RowKit
theorem PQ {k:IntKind} {a b:Int} (h:a=b):Ending.returned (.int k a)= .returned (.int k b):=by rw[h]
theorem SH {a b:Bool} (h:a=b):Ending.returned (.bool a)= .returned (.bool b):=by rw[h]
def lenOf:Value->Nat| .slice _ k _=>k|_=>0
abbrev bR (x:Nat):Value:= .int .u32 (x:Int)
def fI (w:World) (A:Option Addr) (vs:List Value):Prop:=
 vs=[]∨ ∃b off,A=some ⟨b,off,none⟩/\ ∀i v,vs[i]? =some v->w.cell? ⟨b,off+i,none⟩=some v
theorem fI.nil (w:World) (A:Option Addr):fI w A []:= .inl rfl
theorem fI.below {w w':World} {A:Option Addr} {vs:List Value} (h:fI w A vs) (hb:Below w.heap.size w w'):fI w' A vs:=by
 rcases h with h| ⟨b,off,rfl,hc⟩
 ·exact .inl h
 ·refine .inr ⟨b,off,rfl,fun i v hv=>?_⟩
  have h1:=hc i v hv;exact(hb.cell (p:=⟨b,off+i,none⟩) (World.block_lt_of_cell? w _ h1)).trans h1
theorem fI.alloc {w:World} {A:Option Addr} {vs:List Value} (h:fI w A vs) (o:Obj):fI (w.alloc o) A vs:=
 h.below ((Below.refl _ _).alloc (Nat.le_refl _) o)
theorem fI.take {w:World} {A:Option Addr} {vs:List Value} (h:fI w A vs) (k:Nat):fI w A (vs.take k):=by
 rcases h with rfl| ⟨b,off,rfl,hc⟩
 ·exact .inl (by simp)
 ·refine .inr ⟨b,off,rfl,fun i v hv=>?_⟩
  rw[List.getElem?_take]at hv
  split at hv
  ·exact hc i v hv
  ·cases hv
theorem fI.at {w:World} {A:Option Addr} {vs:List Value} (h:fI w A vs) (hpos:0<vs.length):
 ∃b off,A=some ⟨b,off,none⟩/\b<w.heap.size/\ ∀i v,vs[i]? =some v->w.cell? ⟨b,off+i,none⟩=some v:=by
 rcases h with rfl| ⟨b,off,rfl,hc⟩
 ·simp at hpos
 ·refine⟨b,off,rfl,?_,hc⟩
  have h1:=hc 0 vs[0] (by simp);exact World.block_lt_of_cell? w _ h1
structure ba (w:World) (A:Option Addr) (n c:Nat) (xs:List Nat):Prop where
 len:xs.length=n
 cap:n<=c
 lim:c<=9223372036854775807
 wd:Wd xs
 cells:fI w A (xs.map bR)
 isnil:A=none->c=0
theorem ba.below {w w':World} {A:Option Addr} {n c:Nat} {xs:List Nat} (h:ba w A n c xs) (hb:Below w.heap.size w w'):ba w' A n c xs:=
 ⟨h.len,h.cap,h.lim,h.wd,h.cells.below hb,h.isnil⟩
theorem ba.alloc {w:World} {A:Option Addr} {n c:Nat} {xs:List Nat} (h:ba w A n c xs) (o:Obj):ba (w.alloc o) A n c xs:=
 ⟨h.len,h.cap,h.lim,h.wd,h.cells.alloc o,h.isnil⟩
theorem ba.nil (w:World):ba w none 0 0 []:=⟨rfl,Nat.zero_le _,by omega,Wd.nil, .nil _ _,fun _=>rfl⟩
theorem ba.take {w:World} {A:Option Addr} {n c:Nat} {xs:List Nat} (h:ba w A n c xs) {k:Nat} (hk:k<=n):ba w A k c (xs.take k):=
 ⟨by rw[List.length_take,h.len];omega,Nat.le_trans hk h.cap,h.lim,h.wd.take k,by rw[List.map_take];exact h.cells.take k,h.isnil⟩
theorem ba.at {w:World} {A:Option Addr} {n c:Nat} {xs:List Nat} (h:ba w A n c xs) (hpos:0<n):
 ∃b off,A=some ⟨b,off,none⟩/\b<w.heap.size/\ ∀i,i<n->w.cell? ⟨b,off+i,none⟩=some (bR (xs.getD i 0)):=by
 obtain⟨b,off,rfl,hb,hc⟩:=h.cells.at (by rw[List.length_map,h.len];exact hpos);refine⟨b,off,rfl,hb,fun i hi=>hc i _ ?_⟩;rw[List.getElem?_map,List.getD_eq_getElem?_getD,List.getElem?_eq_getElem (by rw[h.len];exact hi)];rfl
def ek (w:World) (g:Nat) (zs:List Nat):Prop:=w.heap[g]? =some (.cells ((zs.map bR).toArray) 135 (0,0))
theorem ek.lt {w:World} {g:Nat} {zs:List Nat} (h:ek w g zs):g<w.heap.size:=(Array.getElem?_eq_some_iff.1 h).1
theorem ek.cell {w:World} {g:Nat} {zs:List Nat} (h:ek w g zs) (i:Nat) (hi:i<zs.length):w.cell? ⟨g,i,none⟩=some (bR (zs.getD i 0)):=by
 unfold ek at h
 simp[World.cell?,h,hi]
theorem ek.frozen {w:World} {g:Nat} {zs:List Nat} (h:ek w g zs) (i:Nat):w.frozen? ⟨g,i,none⟩=false:=by
 unfold ek at h
 simp[World.frozen?,h]
theorem ek.set {w:World} {g:Nat} {zs:List Nat} (h:ek w g zs) (i x:Nat):ek (w.setCell ⟨g,i,none⟩ (bR x)) g (zs.set i x):=by
 unfold ek at h ⊢
 simp[World.setCell,Array.getElem?_modify,h,List.map_set]
theorem ek.alloc {w:World} {g:Nat} {zs:List Nat} (h:ek w g zs) (o:Obj):ek (w.alloc o) g zs:=(Below.heap_alloc w o g h.lt).trans h
theorem ek.below {w w':World} {g B:Nat} {zs:List Nat} (h:ek w g zs) (hb:Below B w w') (hg:g<B):ek w' g zs:=(hb.block g hg).trans h
theorem ek.drew {w:World} {g:Nat} {zs:List Nat} (h:ek w g zs):ek w.drew g zs:=h
theorem ek.drewN {w:World} {g:Nat} {zs:List Nat} (h:ek w g zs) (n:Nat):ek (w.drewN n) g zs:=h
theorem fI.drewN {w:World} {A:Option Addr} {vs:List Value} (h:fI w A vs) (n:Nat):fI (w.drewN n) A vs:=h
theorem ba.drewN {w:World} {A:Option Addr} {n c:Nat} {xs:List Nat} (h:ba w A n c xs) (k:Nat):ba (w.drewN k) A n c xs:=
 ⟨h.len,h.cap,h.lim,h.wd,h.cells.drewN k,h.isnil⟩
theorem ek.wrd {w:World} {g:Nat} {zs:List Nat} (h:ek w g zs) (hw:Wd zs) (hl:zs.length<=9223372036854775807):ba w (some ⟨g,0,none⟩) zs.length zs.length zs:=by
 refine⟨rfl,Nat.le_refl _,hl,hw, .inr ⟨g,0,rfl,fun i v hv=>?_⟩,fun h=>by cases h⟩;rw[List.getElem?_map]at hv;cases hx:zs[i]? with
 |none=>rw[hx]at hv;cases hv
 |some x=>
  rw[hx]at hv;have hi:i<zs.length:=(List.getElem?_eq_some_iff.1 hx).1
  have:=h.cell i hi;rw[Nat.zero_add,this];rw[List.getD_eq_getElem?_getD,hx];exact hv
theorem ek.part {w:World} {g:Nat} {zs:List Nat} (h:ek w g zs) (hw:Wd zs) (o n c:Nat) (ho:o+n<=zs.length) (hn:n<=c) (hc:c<=9223372036854775807):
 ba w (some ⟨g,o,none⟩) n c ((zs.drop o).take n):=by
 refine⟨by rw[List.length_take,List.length_drop];omega,hn,hc,(hw.drop o).take n, .inr ⟨g,o,rfl,fun i v hv=>?_⟩,fun h=>by cases h⟩;rw[List.getElem?_map,List.getElem?_take]at hv
 split at hv
 ·rename_i hi
  rw[List.getElem?_drop]at hv;have hl:o+i<zs.length:=by omega
  rw[h.cell (o+i) hl,List.getD_eq_getElem?_getD];rw[List.getElem?_eq_getElem hl]at hv ⊢;exact hv
 ·cases hv
theorem Tryz.infoU32:(Tryz.prog.info? 135).map (fun i=>(i.zero,i.size,i.bytes))=some (some (.int .u32 0),1,4):=by kernel_rfl
theorem tO (n:Nat):madeCells #[Value.int .u32 0] n=((List.replicate n 0).map bR).toArray:=by
 apply Array.ext'
 rw[toList_madeCells_one]
 simp[List.map_replicate]
theorem xi (n:Nat):Wd (List.replicate n 0):=by
 intro x hx;rw[List.mem_replicate]at hx;omega
theorem cZ {zs:List Nat} (h:Wd zs) (i x:Nat) (hx:x<4294967296):Wd (zs.set i x):=by
 intro y hy;rcases List.mem_or_eq_of_mem_set hy with h1|h1
 ·exact h y h1
 ·omega
def az (n:Nat):List Nat:=List.replicate n 0
def cY (zs:List Nat):Obj:= .cells ((zs.map bR).toArray) 135 (0,0)
theorem db (w:World) (zs:List Nat):ek (w.alloc (cY zs)) w.heap.size zs:=heap_alloc_new w _
theorem eh (n:Nat) (N:Int) (h:N=n) (hb:n<=70368744177664) (w:World):
 (Instr.makeSlice 34 (.int .i64 N) (.int .i64 N)).run Tryz.prog w= .ok (.slice (some ⟨w.heap.size,0,none⟩) n n) (w.alloc (cY (az n))):=by
 subst h;obtain⟨i0,hi,hz0,hz1,hz2⟩:=info_parts Tryz.infoU32;have hr:=run_make (P:=Tryz.prog) w 34 135 i0 (.int .u32 0) underlying34 hi hz0 .i64 .i64 n n (by omega) (Int.le_refl _) (by rw[hz2];omega) (by omega)
 simp only[Int.toNat_natCast]at hr
 rw[hr,hz1];unfold cY az;rw[<- tO,Nat.mul_one];rfl
theorem aN (n:Nat):(az n).length=n:=List.length_replicate ..
theorem b6 (n:Nat):Wd (az n):=xi n
theorem re {P:Program} {f:FuncId} {args:Array Value} {w:World} {a n:Nat} {v:Value}
 (h:Calls P f args (w.drewN (a+n)) fun e w'=>e= .returned v/\w.drewN (a+n)=w'):
 Calls P f args (w.drewN (a+n)) fun e w''=>e= .returned v/\ ∃m,w''=w.drewN (a+m):=
 h.mono fun _ _ ⟨he,hm⟩=>⟨he,n,hm.symm⟩
theorem VT (w:World) (a b:Nat):(w.drewN a).drewN b=w.drewN (a+b):=World.drewN_drewN _ _ _
theorem Vh (w:World) (a b c:Nat):((w.drewN a).drewN b).drewN c=w.drewN (a+(b+c)):=by rw[World.drewN_drewN,World.drewN_drewN]
theorem Below.drewN {B:Nat} {a w:World} (h:Below B a w) (n:Nat):Below B a (w.drewN n):=⟨h.os,h.tape,h.output,h.size,h.block⟩
theorem jI {xs:List Nat} {k:Nat} (hk:k<=xs.length) (hpos:0<k) (hx:xs.getD (k-1) 0=0):trim (xs.take (k-1))=trim (xs.take k):=by
 have h1:xs.take k=xs.take (k-1)++[0]:=by
  have h2:k=(k-1)+1:=by omega
  rw[h2,List.take_succ_eq_append_getElem (by omega)]
  simp only[Nat.add_sub_cancel]
  rw[List.getD_eq_getElem?_getD,List.getElem?_eq_getElem (by omega)]at hx
  simp at hx
  rw[hx]
 rw[h1,qN]
theorem gD {xs:List Nat} (hw:Wd xs) {k:Nat} (hk:k<=xs.length) (hx:k=0∨xs.getD (k-1) 0≠0):trim (xs.take k)=xs.take k:=by
 refine Ap (hw.take k) ?_;unfold Nz;rcases hx with rfl|hx
 ·simp
 ·rcases Nat.eq_zero_or_pos k with rfl|hpos
  ·simp
  ·rw[List.getLast?_eq_getElem?,List.length_take,Nat.min_eq_left hk,List.getElem?_take,if_pos (by omega)]
   intro h;rw[List.getD_eq_getElem?_getD,h]at hx;exact hx rfl
theorem fY (A:Option Addr) (n c:Nat) (xs:List Nat) (w:World) (h:ba w A n c xs):
 Calls Tryz.prog 194 #[.slice A n c] w fun e w'=>e= .returned (.slice A (trim xs).length c)/\w=w':=by
 have hn:=h.cap;have hc:=h.lim;have hl:=h.len;have hwd:=h.wd;have Hw:=Lib.hid h;have Hwd:=Lib.hid hwd;have Hl:=Lib.hid hl;clear h hwd hl
 go_enter func194,ntmps194
 go_wp2
 go_loop [0] (fun m=>∃k:Nat,k<=n/\m= .slice A k c/\trim (xs.take k)=trim xs) (fun m=>lenOf m)
 case atStart=>exact⟨n,Nat.le_refl _,rfl,by rw[List.take_of_length_le (by rw[Hl.out];exact Nat.le_refl _)]⟩
 case round=>
  exact Vu
theorem c8 (A:Option Addr) (n c:Nat) (xs:List Nat) (w:World) (h:ba w A n c xs):
 Calls Tryz.prog 172 #[.slice A n c] w fun e w'=>e= .returned (.slice A (trim xs).length c)/\w=w':=by
 have hn:=h.cap;have hc:=h.lim;have hl:=h.len;have hwd:=h.wd;have Hw:=Lib.hid h;have Hwd:=Lib.hid hwd;have Hl:=Lib.hid hl;clear h hwd hl
 go_enter func172,ntmps172
 go_wp2
 go_loop [0] (fun m=>∃k:Nat,k<=n/\m= .slice A k c/\trim (xs.take k)=trim xs) (fun m=>lenOf m)
 case atStart=>exact⟨n,Nat.le_refl _,rfl,by rw[List.take_of_length_le (by rw[Hl.out];exact Nat.le_refl _)]⟩
 case round=>
  exact Vu
def bC (neg:Bool) (xs:List Nat):Int:=if neg then -(val xs:Int)else(val xs:Int)
def JF (w:World) (v:Value) (neg:Bool) (xs:List Nat):Prop:=∃A n c,v= .agg #[.bool neg, .slice A n c]/\ba w A n c xs
def xj (w:World) (v:Value) (z:Int):Prop:=JF w v (decide (z<0)) (digs z.natAbs)
theorem eB (neg:Bool) (xs:List Nat):(bC neg xs).natAbs=val xs:=by
 unfold bC;split <;>simp
theorem A2 (neg:Bool) (xs:List Nat):decide (bC neg xs<0)=(neg && decide (val xs≠0)):=by
 unfold bC;cases neg
 ·simp
 ·by_cases h:val xs=0<;>simp[h];omega
theorem Iq {w:World} {neg:Bool} {xs:List Nat} {A:Option Addr} {n c:Nat} (h:ba w A n c (trim xs)) (h0:val xs≠0):xj w (.agg #[.bool neg, .slice A n c]) (bC neg xs):=by
 unfold xj;rw[eB,A2];refine⟨A,n,c,?_,h⟩
 simp[h0]
theorem EB (w:World) (neg:Bool) {xs:List Nat} (h0:val xs=0):xj w (.agg #[.bool false, .slice none 0 0]) (bC neg xs):=by
 unfold xj;rw[eB,A2,h0,aK];exact⟨none,0,0,by simp, .nil _⟩
def r6 (z:Int) (w:World) (e:Ending) (w':World):Prop:=∃v,e= .returned v/\xj w' v z/\Below w.heap.size w w'
theorem ba.trim {w:World} {A:Option Addr} {n c:Nat} {xs:List Nat} (h:ba w A n c xs):ba w A (trim xs).length c (trim xs):=by
 have h1:=(kb h.wd).1;have h2:(Go.Proofs.YtnchbpoopnjghaaGreatDoor.trim xs).length<=n:=by rw[<- h.len];exact bK h.wd
 have:=h.take h2
 rwa[h1]at this
theorem JT (neg:Bool) (A:Option Addr) (n c:Nat) (xs:List Nat) (w:World) (h:ba w A n c xs):
 Calls Tryz.prog 232 #[.bool neg, .slice A n c] w (r6 (bC neg xs) w):=by
 have htr:=h.trim;have hz0:(trim xs).length=0->val xs=0:=fun e=>by rw[<- cX xs,List.eq_nil_of_length_eq_zero e];rfl
 have hz1:(trim xs).length≠0->val xs≠0:=fun e e0=>e (by unfold trim;rw[e0,aK];rfl)
 have H:=Lib.hid h;have Htr:=Lib.hid htr;have Hz0:=Lib.hid hz0;have Hz1:=Lib.hid hz1;clear h htr hz0 hz1;generalize hm:(trim xs).length=m at *;have Hm:=Lib.hid hm;clear hm
 by_cases h0:m=0
 ·subst h0
  go_enter func232,ntmps232
  go_wp2_with (go_at_call 194;refine(fY _ _ _ xs _ (H.out.alloc _)).mono ?_;rw[Hm.out];rintro e w' ⟨rfl,rfl⟩)
  exact bodyPost_ret (v:= .agg #[.bool false, .slice none 0 0]) (by simp[results,results232,go_sem]) rfl ⟨_,rfl,EB _ _ (Hz0.out (by simp)),((Below.refl _ _).alloc (Nat.le_refl _) _)⟩
 ·have h0':((m:Int) == 0)=false:=by simpa using h0
  go_enter func232,ntmps232
  go_wp2_with (go_at_call 194;refine(fY _ _ _ xs _ (H.out.alloc _)).mono ?_;rw[Hm.out];rintro e w' ⟨rfl,rfl⟩)
  exact bodyPost_ret (v:= .agg #[.bool neg, .slice A m c]) (by simp[results,results232,go_sem]) rfl ⟨_,rfl,Iq (Htr.out.alloc _) (Hz1.out h0),((Below.refl _ _).alloc (Nat.le_refl _) _)⟩
theorem KE {w:World} {neg b:Bool} {xs:List Nat} {A:Option Addr} {n c:Nat} (h:ba w A n c (trim xs)) (hb:b=(neg && decide (val xs≠0))):xj w (.agg #[.bool b, .slice A n c]) (bC neg xs):=by
 unfold xj;rw[eB,A2];exact⟨A,n,c,by rw[hb],h⟩
theorem EN (neg:Bool) (A:Option Addr) (n c:Nat) (xs:List Nat) (w:World) (h:ba w A n c xs):
 Calls Tryz.prog 122 #[.bool neg, .slice A n c] w (r6 (bC neg xs) w):=by
 have htr:=h.trim;have hz0:(trim xs).length=0->val xs=0:=fun e=>by rw[<- cX xs,List.eq_nil_of_length_eq_zero e];rfl
 have hz1:(trim xs).length≠0->val xs≠0:=fun e e0=>e (by unfold trim;rw[e0,aK];rfl)
 have H:=Lib.hid h;have Htr:=Lib.hid htr;have Hz0:=Lib.hid hz0;have Hz1:=Lib.hid hz1;clear h htr hz0 hz1;generalize hm:(trim xs).length=m at *;have Hm:=Lib.hid hm;clear hm
 have fin:∀b:Bool,(b=(neg && decide (m≠0)))->xj (w.alloc (.cells #[.bool b, .slice A m c] 36)) (.agg #[.bool b, .slice A m c]) (bC neg xs):=by
  intro b hb;refine KE (Htr.out.alloc _) ?_;rw[hb]
  by_cases h0:m=0
  ·rw[Hz0.out h0];simp[h0]
  ·have:=Hz1.out h0;simp[h0,this]
 have Hfin:=Lib.hid fin;clear fin;cases neg
 ·go_enter func122,ntmps122
  go_wp2_with (go_at_call 172;refine(c8 _ _ _ xs _ (H.out.alloc _)).mono ?_;rw[Hm.out];rintro e w' ⟨rfl,rfl⟩)
  exact bodyPost_ret (v:= .agg #[.bool false, .slice A m c]) (by simp[results,results122,go_sem]) rfl ⟨_,rfl,Hfin.out false (by simp),((Below.refl _ _).alloc (Nat.le_refl _) _)⟩
 ·by_cases h0:0<m
  ·have h0':(0:Int)<m:=by omega
   go_enter func122,ntmps122
   go_wp2_with (go_at_call 172;refine(c8 _ _ _ xs _ (H.out.alloc _)).mono ?_;rw[Hm.out];rintro e w' ⟨rfl,rfl⟩)
   exact bodyPost_ret (v:= .agg #[.bool true, .slice A m c]) (by simp[results,results122,go_sem]) rfl ⟨_,rfl,Hfin.out true (by simp;omega),((Below.refl _ _).alloc (Nat.le_refl _) _)⟩
  ·have h0':¬(0:Int)<m:=by omega
   go_enter func122,ntmps122
   go_wp2_with (go_at_call 172;refine(c8 _ _ _ xs _ (H.out.alloc _)).mono ?_;rw[Hm.out];rintro e w' ⟨rfl,rfl⟩)
   exact bodyPost_ret (v:= .agg #[.bool false, .slice A m c]) (by simp[results,results122,go_sem]) rfl ⟨_,rfl,Hfin.out false (by simp;omega),((Below.refl _ _).alloc (Nat.le_refl _) _)⟩
end Go.Proofs.YtnchbpoopnjghaaGreatDoor
