/- Slices of words in memory: what a slice value reads as, and how that is kept from world to world. trim of both packages, and what it returns: the same slice, cut to the words before the last zeros. Integers as values in memory; signed of both packages. -/
import Derived.Test.YtnchbpoopnjghaaGreatDoorProg
import Derived.Test.YtnchbpoopnjghaaGreatDoorQAa
set_option maxHeartbeats 100000000
set_option linter.all false
open Go.Proofs.Tryz
namespace Go.Proofs.YtnchbpoopnjghaaGreatDoor
open Go.RowKit
theorem Qt {k:IntKind} {a b:Int} (h:a=b):Ending.returned (.int k a)= .returned (.int k b):=by rw[h]
theorem TH {a b:Bool} (h:a=b):Ending.returned (.bool a)= .returned (.bool b):=by rw[h]
def lenOf:Value->Nat| .slice _ k _=>k|_=>0
abbrev bZ (x:Nat):Value:= .int .u32 (x:Int)
def fZ (w:World) (A:Option Addr) (vs:List Value):Prop:=
 vs=[]∨ ∃b off,A=some ⟨b,off,none⟩/\ ∀i v,vs[i]? =some v->w.cell? ⟨b,off+i,none⟩=some v
theorem fZ.nil (w:World) (A:Option Addr):fZ w A []:= .inl rfl
theorem fZ.below {w w':World} {A:Option Addr} {vs:List Value} (h:fZ w A vs) (hb:Below w.heap.size w w'):fZ w' A vs:=by
 rcases h with h| ⟨b,off,rfl,hc⟩
 ·exact .inl h
 ·refine .inr ⟨b,off,rfl,fun i v hv=>?_⟩
  have h1:=hc i v hv;exact(hb.cell (p:=⟨b,off+i,none⟩) (World.block_lt_of_cell? w _ h1)).trans h1
theorem fZ.alloc {w:World} {A:Option Addr} {vs:List Value} (h:fZ w A vs) (o:Obj):fZ (w.alloc o) A vs:=
 h.below ((Below.refl _ _).alloc (l_ _) o)
theorem fZ.take {w:World} {A:Option Addr} {vs:List Value} (h:fZ w A vs) (k:Nat):fZ w A (vs.take k):=by
 rcases h with rfl| ⟨b,off,rfl,hc⟩
 ·exact .inl S_
 ·refine .inr ⟨b,off,rfl,fun i v hv=>?_⟩
  rw[List.getElem?_take]at hv
  split at hv
  ·exact hc i v hv
  ·cases hv
theorem fZ.at {w:World} {A:Option Addr} {vs:List Value} (h:fZ w A vs) (hpos:0<vs.length):
 ∃b off,A=some ⟨b,off,none⟩/\b<w.heap.size/\ ∀i v,vs[i]? =some v->w.cell? ⟨b,off+i,none⟩=some v:=by
 rcases h with rfl| ⟨b,off,rfl,hc⟩
 ·simp at hpos
 ·refine⟨b,off,rfl,?_,hc⟩
  have h1:=hc 0 vs[0] S_;exact World.block_lt_of_cell? w _ h1
structure bi (w:World) (A:Option Addr) (n c:Nat) (xs:List Nat):Prop where
 len:xs.length=n
 cap:n<=c
 lim:c<=9223372036854775807
 wd:Wd xs
 cells:fZ w A (xs.map bZ)
 isnil:A=none->c=0
theorem bi.below {w w':World} {A:Option Addr} {n c:Nat} {xs:List Nat} (h:bi w A n c xs) (hb:Below w.heap.size w w'):bi w' A n c xs:=
 ⟨h.len,h.cap,h.lim,h.wd,h.cells.below hb,h.isnil⟩
theorem bi.alloc {w:World} {A:Option Addr} {n c:Nat} {xs:List Nat} (h:bi w A n c xs) (o:Obj):bi (w.alloc o) A n c xs:=
 ⟨h.len,h.cap,h.lim,h.wd,h.cells.alloc o,h.isnil⟩
theorem bi.nil (w:World):bi w none 0 0 []:=⟨rfl,Nat.zero_le _,by omega,Wd.nil, .nil _ _,fun _=>rfl⟩
theorem bi.take {w:World} {A:Option Addr} {n c:Nat} {xs:List Nat} (h:bi w A n c xs) {k:Nat} (hk:k<=n):bi w A k c (xs.take k):=
 ⟨by rw[U_,h.len];omega,V_ hk h.cap,h.lim,h.wd.take k,by rw[List.map_take];exact h.cells.take k,h.isnil⟩
theorem bi.at {w:World} {A:Option Addr} {n c:Nat} {xs:List Nat} (h:bi w A n c xs) (hpos:0<n):
 ∃b off,A=some ⟨b,off,none⟩/\b<w.heap.size/\ ∀i,i<n->w.cell? ⟨b,off+i,none⟩=some (bZ (xs.getD i 0)):=by
 obtain⟨b,off,rfl,hb,hc⟩:=h.cells.at (by rw[j_,h.len];exact hpos);refine⟨b,off,rfl,hb,fun i hi=>hc i _ ?_⟩;rw[List.getElem?_map,H_,Q_ (by rw[h.len];exact hi)];rfl
def eS (w:World) (g:Nat) (zs:List Nat):Prop:=w.heap[g]? =some (.cells ((zs.map bZ).toArray) 135 (0,0))
theorem eS.lt {w:World} {g:Nat} {zs:List Nat} (h:eS w g zs):g<w.heap.size:=(A_.1 h).1
theorem eS.cell {w:World} {g:Nat} {zs:List Nat} (h:eS w g zs) (i:Nat) (hi:i<zs.length):w.cell? ⟨g,i,none⟩=some (bZ (zs.getD i 0)):=by
 unfold eS at h
 simp[World.cell?,h,hi]
theorem eS.frozen {w:World} {g:Nat} {zs:List Nat} (h:eS w g zs) (i:Nat):w.frozen? ⟨g,i,none⟩=false:=by
 unfold eS at h
 simp[World.frozen?,h]
theorem eS.set {w:World} {g:Nat} {zs:List Nat} (h:eS w g zs) (i x:Nat):eS (w.setCell ⟨g,i,none⟩ (bZ x)) g (zs.set i x):=by
 unfold eS at h ⊢
 simp[World.setCell,Array.getElem?_modify,h,List.map_set]
theorem eS.alloc {w:World} {g:Nat} {zs:List Nat} (h:eS w g zs) (o:Obj):eS (w.alloc o) g zs:=(Below.heap_alloc w o g h.lt).trans h
theorem eS.below {w w':World} {g B:Nat} {zs:List Nat} (h:eS w g zs) (hb:Below B w w') (hg:g<B):eS w' g zs:=(hb.block g hg).trans h
theorem eS.drew {w:World} {g:Nat} {zs:List Nat} (h:eS w g zs):eS w.drew g zs:=h
theorem eS.drewN {w:World} {g:Nat} {zs:List Nat} (h:eS w g zs) (n:Nat):eS (w.drewN n) g zs:=h
theorem fZ.drewN {w:World} {A:Option Addr} {vs:List Value} (h:fZ w A vs) (n:Nat):fZ (w.drewN n) A vs:=h
theorem bi.drewN {w:World} {A:Option Addr} {n c:Nat} {xs:List Nat} (h:bi w A n c xs) (k:Nat):bi (w.drewN k) A n c xs:=
 ⟨h.len,h.cap,h.lim,h.wd,h.cells.drewN k,h.isnil⟩
theorem eS.wrd {w:World} {g:Nat} {zs:List Nat} (h:eS w g zs) (hw:Wd zs) (hl:zs.length<=9223372036854775807):bi w (some ⟨g,0,none⟩) zs.length zs.length zs:=by
 refine⟨rfl,l_ _,hl,hw, .inr ⟨g,0,rfl,fun i v hv=>?_⟩,fun h=>by cases h⟩;rw[List.getElem?_map]at hv;cases hx:zs[i]? with
 |none=>rw[hx]at hv;cases hv
 |some x=>
  rw[hx]at hv;have hi:i<zs.length:=(G_.1 hx).1
  have:=h.cell i hi;rw[J_,this];rw[H_,hx];exact hv
theorem eS.part {w:World} {g:Nat} {zs:List Nat} (h:eS w g zs) (hw:Wd zs) (o n c:Nat) (ho:o+n<=zs.length) (hn:n<=c) (hc:c<=9223372036854775807):
 bi w (some ⟨g,o,none⟩) n c ((zs.drop o).take n):=by
 refine⟨by rw[U_,n_];omega,hn,hc,(hw.drop o).take n, .inr ⟨g,o,rfl,fun i v hv=>?_⟩,fun h=>by cases h⟩;rw[List.getElem?_map,List.getElem?_take]at hv
 split at hv
 ·rename_i hi
  rw[List.getElem?_drop]at hv;have hl:o+i<zs.length:=O_
  rw[h.cell (o+i) hl,H_];rw[Q_ hl]at hv ⊢;exact hv
 ·cases hv
theorem Tryz.infoU32:(Tryz.prog.info? 135).map (fun i=>(i.zero,i.size,i.bytes))=some (some (.int .u32 0),1,4):=by kernel_rfl
theorem uV (n:Nat):madeCells #[Value.int .u32 0] n=((List.replicate n 0).map bZ).toArray:=by
 apply Array.ext'
 rw[toList_madeCells_one]
 simp[List.map_replicate]
theorem xM (n:Nat):Wd (List.replicate n 0):=by
 intro x hx;rw[List.mem_replicate]at hx;omega
theorem dr {zs:List Nat} (h:Wd zs) (i x:Nat) (hx:x<4294967296):Wd (zs.set i x):=by
 intro y hy;rcases List.mem_or_eq_of_mem_set hy with h1|h1
 ·exact h y h1
 ·omega
def aF (n:Nat):List Nat:=List.replicate n 0
def du (zs:List Nat):Obj:= .cells ((zs.map bZ).toArray) 135 (0,0)
theorem dy (w:World) (zs:List Nat):eS (w.alloc (du zs)) w.heap.size zs:=heap_alloc_new w _
theorem eJ (n:Nat) (N:Int) (h:N=n) (hb:n<=70368744177664) (w:World):
 (Instr.makeSlice 34 (.int .i64 N) (.int .i64 N)).run Tryz.prog w= .ok (.slice (some ⟨w.heap.size,0,none⟩) n n) (w.alloc (du (aF n))):=by
 subst h;obtain⟨i0,hi,hz0,hz1,hz2⟩:=info_parts Tryz.infoU32;have hr:=run_make (P:=Tryz.prog) w 34 135 i0 (.int .u32 0) underlying34 hi hz0 .i64 .i64 n n O_ (Int.le_refl _) (by rw[hz2];omega) O_
 simp only[Int.toNat_natCast]at hr
 rw[hr,hz1];unfold du aF;rw[<- uV,o_];rfl
theorem aO (n:Nat):(aF n).length=n:=List.length_replicate ..
theorem cH (n:Nat):Wd (aF n):=xM n
theorem r7 {P:Program} {f:FuncId} {args:Array Value} {w:World} {a n:Nat} {v:Value}
 (h:Calls P f args (w.drewN (a+n)) fun e w'=>e= .returned v/\w.drewN (a+n)=w'):
 Calls P f args (w.drewN (a+n)) fun e w''=>e= .returned v/\ ∃m,w''=w.drewN (a+m):=
 h.mono fun _ _ ⟨he,hm⟩=>⟨he,n,hm.symm⟩
theorem WO (w:World) (a b:Nat):(w.drewN a).drewN b=w.drewN (a+b):=World.drewN_drewN _ _ _
theorem V4 (w:World) (a b c:Nat):((w.drewN a).drewN b).drewN c=w.drewN (a+(b+c)):=by rw[World.drewN_drewN,World.drewN_drewN]
theorem Below.drewN {B:Nat} {a w:World} (h:Below B a w) (n:Nat):Below B a (w.drewN n):=⟨h.os,h.tape,h.output,h.size,h.block⟩
theorem ko {xs:List Nat} {k:Nat} (hk:k<=xs.length) (hpos:0<k) (hx:xs.getD (k-1) 0=0):trim (xs.take (k-1))=trim (xs.take k):=by
 have h1:xs.take k=xs.take (k-1)++[0]:=by
  have h2:k=(k-1)+1:=O_
  rw[h2,List.take_succ_eq_append_getElem O_]
  simp only[Nat.add_sub_cancel]
  rw[H_,Q_ O_]at hx
  simp at hx
  rw[hx]
 rw[h1,ry]
theorem gS {xs:List Nat} (hw:Wd xs) {k:Nat} (hk:k<=xs.length) (hx:k=0∨xs.getD (k-1) 0≠0):trim (xs.take k)=xs.take k:=by
 refine BS (hw.take k) ?_;unfold Nz;rcases hx with rfl|hx
 ·simp
 ·rcases Nat.eq_zero_or_pos k with rfl|hpos
  ·simp
  ·rw[List.getLast?_eq_getElem?,U_,Nat.min_eq_left hk,List.getElem?_take,if_pos O_]
   intro h;rw[H_,h]at hx;exact hx rfl
theorem gi (A:Option Addr) (n c:Nat) (xs:List Nat) (w:World) (h:bi w A n c xs):
 Calls Tryz.prog 194 #[.slice A n c] w fun e w'=>e= .returned (.slice A (trim xs).length c)/\w=w':=by
 have hn:=h.cap;have hc:=h.lim;have hl:=h.len;have hwd:=h.wd;have Hw:=Lib.hid h;have Hwd:=Lib.hid hwd;have Hl:=Lib.hid hl;clear h hwd hl
 go_enter func194,ntmps194
 go_wp2
 go_loop [0] (fun m=>∃k:Nat,k<=n/\m= .slice A k c/\trim (xs.take k)=trim xs) (fun m=>lenOf m)
 case atStart=>exact⟨n,l_ _,rfl,by rw[K_ (by rw[Hl.out];exact l_ _)]⟩
 case round=>
  exact Wu
theorem dz (A:Option Addr) (n c:Nat) (xs:List Nat) (w:World) (h:bi w A n c xs):
 Calls Tryz.prog 172 #[.slice A n c] w fun e w'=>e= .returned (.slice A (trim xs).length c)/\w=w':=by
 have hn:=h.cap;have hc:=h.lim;have hl:=h.len;have hwd:=h.wd;have Hw:=Lib.hid h;have Hwd:=Lib.hid hwd;have Hl:=Lib.hid hl;clear h hwd hl
 go_enter func172,ntmps172
 go_wp2
 go_loop [0] (fun m=>∃k:Nat,k<=n/\m= .slice A k c/\trim (xs.take k)=trim xs) (fun m=>lenOf m)
 case atStart=>exact⟨n,l_ _,rfl,by rw[K_ (by rw[Hl.out];exact l_ _)]⟩
 case round=>
  exact Wu
def bI (neg:Bool) (xs:List Nat):Int:=if neg then -(val xs:Int)else(val xs:Int)
def Jt (w:World) (v:Value) (neg:Bool) (xs:List Nat):Prop:=∃A n c,v= .agg #[.bool neg, .slice A n c]/\bi w A n c xs
def xG (w:World) (v:Value) (z:Int):Prop:=Jt w v (decide (z<0)) (digs z.natAbs)
theorem eY (neg:Bool) (xs:List Nat):(bI neg xs).natAbs=val xs:=by
 unfold bI;split <;>simp
theorem Ca (neg:Bool) (xs:List Nat):decide (bI neg xs<0)=(neg && decide (val xs≠0)):=by
 unfold bI;cases neg
 ·simp
 ·by_cases h:val xs=0<;>simp[h];omega
theorem Jd {w:World} {neg:Bool} {xs:List Nat} {A:Option Addr} {n c:Nat} (h:bi w A n c (trim xs)) (h0:val xs≠0):xG w (.agg #[.bool neg, .slice A n c]) (bI neg xs):=by
 unfold xG;rw[eY,Ca];refine⟨A,n,c,?_,h⟩
 simp[h0]
theorem Fg (w:World) (neg:Bool) {xs:List Nat} (h0:val xs=0):xG w (.agg #[.bool false, .slice none 0 0]) (bI neg xs):=by
 unfold xG;rw[eY,Ca,h0,aK];exact⟨none,0,0,by simp, .nil _⟩
def tu (z:Int) (w:World) (e:Ending) (w':World):Prop:=∃v,e= .returned v/\xG w' v z/\Below w.heap.size w w'
theorem bi.trim {w:World} {A:Option Addr} {n c:Nat} {xs:List Nat} (h:bi w A n c xs):bi w A (trim xs).length c (trim xs):=by
 have h1:=(kb h.wd).1;have h2:(Go.Proofs.YtnchbpoopnjghaaGreatDoor.trim xs).length<=n:=by rw[<- h.len];exact bR h.wd
 have:=h.take h2
 rwa[h1]at this
theorem J9 (neg:Bool) (A:Option Addr) (n c:Nat) (xs:List Nat) (w:World) (h:bi w A n c xs):
 Calls Tryz.prog 232 #[.bool neg, .slice A n c] w (tu (bI neg xs) w):=by
 have htr:=h.trim;have hz0:(trim xs).length=0->val xs=0:=fun e=>by rw[<- dm xs,E_ e];rfl
 have hz1:(trim xs).length≠0->val xs≠0:=fun e e0=>e (by unfold trim;rw[e0,aK];rfl)
 have H:=Lib.hid h;have Htr:=Lib.hid htr;have Hz0:=Lib.hid hz0;have Hz1:=Lib.hid hz1;clear h htr hz0 hz1;generalize hm:(trim xs).length=m at *;have Hm:=Lib.hid hm;clear hm
 by_cases h0:m=0
 ·subst h0
  go_enter func232,ntmps232
  go_wp2_with (go_at_call 194;refine(gi _ _ _ xs _ (H.out.alloc _)).mono ?_;rw[Hm.out];rintro e w' ⟨rfl,rfl⟩)
  exact bodyPost_ret (v:= .agg #[.bool false, .slice none 0 0]) (by simp[results,results232,go_sem]) rfl ⟨_,rfl,Fg _ _ (Hz0.out S_),((Below.refl _ _).alloc (l_ _) _)⟩
 ·have h0':((m:Int) == 0)=false:=by simpa using h0
  go_enter func232,ntmps232
  go_wp2_with (go_at_call 194;refine(gi _ _ _ xs _ (H.out.alloc _)).mono ?_;rw[Hm.out];rintro e w' ⟨rfl,rfl⟩)
  exact bodyPost_ret (v:= .agg #[.bool neg, .slice A m c]) (by simp[results,results232,go_sem]) rfl ⟨_,rfl,Jd (Htr.out.alloc _) (Hz1.out h0),((Below.refl _ _).alloc (l_ _) _)⟩
theorem J3 {w:World} {neg b:Bool} {xs:List Nat} {A:Option Addr} {n c:Nat} (h:bi w A n c (trim xs)) (hb:b=(neg && decide (val xs≠0))):xG w (.agg #[.bool b, .slice A n c]) (bI neg xs):=by
 unfold xG;rw[eY,Ca];exact⟨A,n,c,by rw[hb],h⟩
theorem Gt (neg:Bool) (A:Option Addr) (n c:Nat) (xs:List Nat) (w:World) (h:bi w A n c xs):
 Calls Tryz.prog 122 #[.bool neg, .slice A n c] w (tu (bI neg xs) w):=by
 have htr:=h.trim;have hz0:(trim xs).length=0->val xs=0:=fun e=>by rw[<- dm xs,E_ e];rfl
 have hz1:(trim xs).length≠0->val xs≠0:=fun e e0=>e (by unfold trim;rw[e0,aK];rfl)
 have H:=Lib.hid h;have Htr:=Lib.hid htr;have Hz0:=Lib.hid hz0;have Hz1:=Lib.hid hz1;clear h htr hz0 hz1;generalize hm:(trim xs).length=m at *;have Hm:=Lib.hid hm;clear hm
 have fin:∀b:Bool,(b=(neg && decide (m≠0)))->xG (w.alloc (.cells #[.bool b, .slice A m c] 36)) (.agg #[.bool b, .slice A m c]) (bI neg xs):=by
  intro b hb;refine J3 (Htr.out.alloc _) ?_;rw[hb]
  by_cases h0:m=0
  ·rw[Hz0.out h0];simp[h0]
  ·have:=Hz1.out h0;simp[h0,this]
 have Hfin:=Lib.hid fin;clear fin;cases neg
 ·go_enter func122,ntmps122
  go_wp2_with (go_at_call 172;refine(dz _ _ _ xs _ (H.out.alloc _)).mono ?_;rw[Hm.out];rintro e w' ⟨rfl,rfl⟩)
  exact bodyPost_ret (v:= .agg #[.bool false, .slice A m c]) (by simp[results,results122,go_sem]) rfl ⟨_,rfl,Hfin.out false S_,((Below.refl _ _).alloc (l_ _) _)⟩
 ·by_cases h0:0<m
  ·have h0':(0:Int)<m:=O_
   go_enter func122,ntmps122
   go_wp2_with (go_at_call 172;refine(dz _ _ _ xs _ (H.out.alloc _)).mono ?_;rw[Hm.out];rintro e w' ⟨rfl,rfl⟩)
   exact bodyPost_ret (v:= .agg #[.bool true, .slice A m c]) (by simp[results,results122,go_sem]) rfl ⟨_,rfl,Hfin.out true (by simp;omega),((Below.refl _ _).alloc (l_ _) _)⟩
  ·have h0':¬(0:Int)<m:=O_
   go_enter func122,ntmps122
   go_wp2_with (go_at_call 172;refine(dz _ _ _ xs _ (H.out.alloc _)).mono ?_;rw[Hm.out];rintro e w' ⟨rfl,rfl⟩)
   exact bodyPost_ret (v:= .agg #[.bool false, .slice A m c]) (by simp[results,results122,go_sem]) rfl ⟨_,rfl,Hfin.out false (by simp;omega),((Below.refl _ _).alloc (l_ _) _)⟩
end Go.Proofs.YtnchbpoopnjghaaGreatDoor
