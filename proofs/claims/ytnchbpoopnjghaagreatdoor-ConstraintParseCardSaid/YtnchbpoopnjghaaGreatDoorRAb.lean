/- Slices of words in memory: what a slice value reads as, and how that is kept from world to world. trim of both packages, and what it returns: the same slice, cut to the words before the last zeros. Integers as values in memory; signed of both packages. -/
import Derived.Test.YtnchbpoopnjghaaGreatDoorProg
import Derived.Test.YtnchbpoopnjghaaGreatDoorRAa
set_option maxHeartbeats 100000000
set_option linter.all false
open Go.Proofs.Tryz
namespace Go.Proofs.YtnchbpoopnjghaaGreatDoor
open Go.RowKit
def Oj{k:IntKind}{a b:Int}(h:a=b):Ending.returned (.int k a)= .returned (.int k b):=by rw[h]
def Ul{a b:Bool}(h:a=b):Ending.returned (.bool a)= .returned (.bool b):=by rw[h]
def lenOf:Value->Nat| .slice _ k _=>k|_=>0
abbrev bP(x:Nat):Value:= .int .u32 (x:Int)
def f5(w:World)(A:Option Addr)(vs:List Value):Prop:=
 vs=[]∨ ∃b a,A=some ⟨b,a,none⟩/\ ∀i v,vs[i]? =some v->w.cell? ⟨b,a+i,none⟩=some v
def f5.nil(w:World)(A:Option Addr):f5 w A []:= .inl rfl
def f5.below{w w':World}{A:Option Addr}{vs:List Value}(h:f5 w A vs)(d:Below w.heap.size w w'):f5 w' A vs:=by
 rcases h with h| ⟨b,a,rfl,e⟩
 ·exact .inl h
 ·refine .inr ⟨b,a,rfl,fun i v f=>?_⟩;have c:=e i v f;exact(d.cell (p:=⟨b,a+i,none⟩) (World.block_lt_of_cell? w _ c)).trans c
def f5.alloc{w:World}{A:Option Addr}{vs:List Value}(h:f5 w A vs)(o:Obj):f5 (w.alloc o) A vs:=
 h.below ((Below.refl _ _).alloc (l_ _) o)
def f5.take{w:World}{A:Option Addr}{vs:List Value}(h:f5 w A vs)(k:Nat):f5 w A (vs.take k):=by
 rcases h with rfl| ⟨b,c,rfl,d⟩
 ·exact .inl S_
 ·refine .inr ⟨b,c,rfl,fun i v a=>?_⟩;rw[List.getElem?_take]at a;split at a
  ·exact d i v a
  ·cases a
def f5.at{w:World}{A:Option Addr}{vs:List Value}(h:f5 w A vs)(c:0<vs.length):
 ∃b a,A=some ⟨b,a,none⟩/\b<w.heap.size/\ ∀i v,vs[i]? =some v->w.cell? ⟨b,a+i,none⟩=some v:=by
 rcases h with rfl| ⟨b,a,rfl,d⟩
 ·simp at c
 ·refine⟨b,a,rfl,?_,d⟩;have e:=d 0 vs[0] S_;exact World.block_lt_of_cell? w _ e
structure a7 (w:World) (A:Option Addr) (n c:Nat) (xs:List Nat):Prop where
 len:xs.length=n
 cap:n<=c
 lim:c<=9223372036854775807
 wd:Wd xs
 cells:f5 w A (xs.map bP)
 isnil:A=none->c=0
def a7.below{w w':World}{A:Option Addr}{n c:Nat}{xs:List Nat}(h:a7 w A n c xs)(a:Below w.heap.size w w'):a7 w' A n c xs:=
 ⟨h.len,h.cap,h.lim,h.wd,h.cells.below a,h.isnil⟩
def a7.alloc{w:World}{A:Option Addr}{n c:Nat}{xs:List Nat}(h:a7 w A n c xs)(o:Obj):a7 (w.alloc o) A n c xs:=
 ⟨h.len,h.cap,h.lim,h.wd,h.cells.alloc o,h.isnil⟩
def a7.nil(w:World):a7 w none 0 0 []:=⟨rfl,Nat.zero_le _,by omega,Wd.nil, .nil _ _,fun _=>rfl⟩
def a7.take{w:World}{A:Option Addr}{n c:Nat}{xs:List Nat}(h:a7 w A n c xs){k:Nat}(a:k<=n):a7 w A k c (xs.take k):=
 ⟨by rw[U_,h.len];omega,V_ a h.cap,h.lim,h.wd.take k,by rw[List.map_take];exact h.cells.take k,h.isnil⟩
def a7.at{w:World}{A:Option Addr}{n c:Nat}{xs:List Nat}(h:a7 w A n c xs)(d:0<n):
 ∃b a,A=some ⟨b,a,none⟩/\b<w.heap.size/\ ∀i,i<n->w.cell? ⟨b,a+i,none⟩=some (bP (xs.getD i 0)):=by
 obtain⟨b,a,rfl,e,f⟩:=h.cells.at (by rw[j_,h.len];exact d);refine⟨b,a,rfl,e,fun i g=>f i _ ?_⟩;rw[List.getElem?_map,H_,Q_ (by rw[h.len];exact g)];rfl
def eK(w:World)(g:Nat)(zs:List Nat):Prop:=w.heap[g]? =some (.cells ((zs.map bP).toArray) 135 (0,0))
def eK.lt{w:World}{g:Nat}{zs:List Nat}(h:eK w g zs):g<w.heap.size:=(A_.1 h).1
def eK.cell{w:World}{g:Nat}{zs:List Nat}(h:eK w g zs)(i:Nat)(a:i<zs.length):w.cell? ⟨g,i,none⟩=some (bP (zs.getD i 0)):=by unfold eK at h;simp[World.cell?,h,a]
def eK.frozen{w:World}{g:Nat}{zs:List Nat}(h:eK w g zs)(i:Nat):w.frozen? ⟨g,i,none⟩=false:=by unfold eK at h;simp[World.frozen?,h]
def eK.set{w:World}{g:Nat}{zs:List Nat}(h:eK w g zs)(i x:Nat):eK (w.setCell ⟨g,i,none⟩ (bP x)) g (zs.set i x):=by unfold eK at h ⊢;simp[World.setCell,Array.getElem?_modify,h,List.map_set]
def eK.alloc{w:World}{g:Nat}{zs:List Nat}(h:eK w g zs)(o:Obj):eK (w.alloc o) g zs:=(Below.heap_alloc w o g h.lt).trans h
def eK.below{w w':World}{g B:Nat}{zs:List Nat}(h:eK w g zs)(a:Below B w w')(b:g<B):eK w' g zs:=(a.block g b).trans h
def eK.drew{w:World}{g:Nat}{zs:List Nat}(h:eK w g zs):eK w.drew g zs:=h
def eK.drewN{w:World}{g:Nat}{zs:List Nat}(h:eK w g zs)(n:Nat):eK (w.drewN n) g zs:=h
def f5.drewN{w:World}{A:Option Addr}{vs:List Value}(h:f5 w A vs)(n:Nat):f5 (w.drewN n) A vs:=h
def a7.drewN{w:World}{A:Option Addr}{n c:Nat}{xs:List Nat}(h:a7 w A n c xs)(k:Nat):a7 (w.drewN k) A n c xs:=
 ⟨h.len,h.cap,h.lim,h.wd,h.cells.drewN k,h.isnil⟩
def eK.wrd{w:World}{g:Nat}{zs:List Nat}(h:eK w g zs)(d:Wd zs)(c:zs.length<=9223372036854775807):a7 w (some ⟨g,0,none⟩) zs.length zs.length zs:=by
 refine⟨rfl,l_ _,c,d, .inr ⟨g,0,rfl,fun i v a=>?_⟩,fun h=>by cases h⟩;rw[List.getElem?_map]at a;cases hx:zs[i]? with
 |none=>rw[hx]at a;cases a
 |some x=>rw[hx]at a;have b:i<zs.length:=(G_.1 hx).1;have:=h.cell i b;rw[J_,this];rw[H_,hx];exact a
def eK.part{w:World}{g:Nat}{zs:List Nat}(h:eK w g zs)(f:Wd zs)(o n c:Nat)(k:o+n<=zs.length)(e:n<=c)(d:c<=9223372036854775807):
 a7 w (some ⟨g,o,none⟩) n c ((zs.drop o).take n):=by
 refine⟨by rw[U_,n_];omega,e,d,(f.drop o).take n, .inr ⟨g,o,rfl,fun i v a=>?_⟩,fun h=>by cases h⟩;rw[List.getElem?_map,List.getElem?_take]at a;split at a
 ·rename_i j;rw[List.getElem?_drop]at a;have b:o+i<zs.length:=O_;rw[h.cell (o+i) b,H_];rw[Q_ b]at a ⊢;exact a
 ·cases a
def Tryz.infoU32:(Tryz.prog.info? 135).map (fun i=>(i.zero,i.size,i.bytes))=some (some (.int .u32 0),1,4):=by kernel_rfl
def um(n:Nat):madeCells #[Value.int .u32 0] n=((List.replicate n 0).map bP).toArray:=by apply Array.ext';rw[toList_madeCells_one];simp[List.map_replicate]
def xK(n:Nat):Wd (List.replicate n 0):=by intro x a;rw[List.mem_replicate]at a;omega
def di{zs:List Nat}(h:Wd zs)(i x:Nat)(c:x<4294967296):Wd (zs.set i x):=by
 intro y b;rcases List.mem_or_eq_of_mem_set b with a|a
 ·exact h y a
 ·omega
def ax(n:Nat):List Nat:=List.replicate n 0
def de(zs:List Nat):Obj:= .cells ((zs.map bP).toArray) 135 (0,0)
def dp(w:World)(zs:List Nat):eK (w.alloc (de zs)) w.heap.size zs:=heap_alloc_new w _
def eD(n:Nat)(N:Int)(h:N=n)(g:n<=70368744177664)(w:World):
 (Instr.makeSlice 34 (.int .i64 N) (.int .i64 N)).run prog w= .ok (.slice (some ⟨w.heap.size,0,none⟩) n n) (w.alloc (de (ax n))):=by
 subst h;obtain⟨f,e,a,b,c⟩:=info_parts Tryz.infoU32;have d:=run_make (P:=prog) w 34 135 f (.int .u32 0) underlying34 e a .i64 .i64 n n O_ (Int.le_refl _) (by rw[c];omega) O_;simp only[Int.toNat_natCast]at d;rw[d,b];unfold de ax;rw[<- um,o_];rfl
def aN(n:Nat):(ax n).length=n:=List.length_replicate ..
def b6(n:Nat):Wd (ax n):=xK n
def rP{P:Program}{f:FuncId}{args:Array Value}{w:World}{a n:Nat}{v:Value}(h:Calls P f args (w.drewN (a+n)) fun e g=>e= .returned v/\w.drewN (a+n)=g):
 Calls P f args (w.drewN (a+n)) fun e b=>e= .returned v/\ ∃m,b=w.drewN (a+m):=
 h.mono fun _ _⟨c,d⟩=>⟨c,n,d.symm⟩
def V1(w:World)(a b:Nat):(w.drewN a).drewN b=w.drewN (a+b):=World.drewN_drewN _ _ _
def U2(w:World)(a b c:Nat):((w.drewN a).drewN b).drewN c=w.drewN (a+(b+c)):=by rw[World.drewN_drewN,World.drewN_drewN]
def Below.drewN{B:Nat}{a w:World}(h:Below B a w)(n:Nat):Below B a (w.drewN n):=⟨h.os,h.tape,h.output,h.size,h.block⟩
def lr{xs:List Nat}{k:Nat}(e:k<=xs.length)(b:0<k)(a:xs.getD (k-1) 0=0):trim (xs.take (k-1))=trim (xs.take k):=by
 have c:xs.take k=xs.take (k-1)++[0]:=by have d:k=(k-1)+1:=O_;rw[d,List.take_succ_eq_append_getElem O_];simp only[Nat.add_sub_cancel];rw[H_,Q_ O_]at a;simp at a;rw[a]
 rw[c,tp]
def ig{xs:List Nat}(d:Wd xs){k:Nat}(c:k<=xs.length)(a:k=0∨xs.getD (k-1) 0≠0):trim (xs.take k)=xs.take k:=by
 refine A2 (d.take k) ?_;unfold Nz;rcases a with rfl|a
 ·simp
 ·rcases Nat.eq_zero_or_pos k with rfl|b
  ·simp
  ·rw[List.getLast?_eq_getElem?,U_,Nat.min_eq_left c,List.getElem?_take,if_pos O_];intro h;rw[H_,h]at a;exact a rfl
def gk(A:Option Addr)(n c:Nat)(xs:List Nat)(w:World)(h:a7 w A n c xs):
 Calls prog 194 #[.slice A n c] w fun e f=>e= .returned (.slice A (trim xs).length c)/\w=f:=by
 have i:=h.cap;have g:=h.lim;have d:=h.len;have a:=h.wd;have Hw:=Lib.hid h;have Hwd:=Lib.hid a;have Hl:=Lib.hid d;clear h a d
 go_enter func194,ntmps194
 go_wp2
 go_loop [0] (fun m=>∃k:Nat,k<=n/\m= .slice A k c/\trim (xs.take k)=trim xs) (fun m=>lenOf m)
 case atStart=>exact⟨n,l_ _,rfl,by rw[K_ (by rw[Hl.out];exact l_ _)]⟩
 case round=>exact VG
def dm(A:Option Addr)(n c:Nat)(xs:List Nat)(w:World)(h:a7 w A n c xs):
 Calls prog 172 #[.slice A n c] w fun e f=>e= .returned (.slice A (trim xs).length c)/\w=f:=by
 have i:=h.cap;have g:=h.lim;have d:=h.len;have a:=h.wd;have Hw:=Lib.hid h;have Hwd:=Lib.hid a;have Hl:=Lib.hid d;clear h a d
 go_enter func172,ntmps172
 go_wp2
 go_loop [0] (fun m=>∃k:Nat,k<=n/\m= .slice A k c/\trim (xs.take k)=trim xs) (fun m=>lenOf m)
 case atStart=>exact⟨n,l_ _,rfl,by rw[K_ (by rw[Hl.out];exact l_ _)]⟩
 case round=>exact VG
def bv(neg:Bool)(xs:List Nat):Int:=if neg then -(val xs:Int)else(val xs:Int)
def IJ(w:World)(v:Value)(neg:Bool)(xs:List Nat):Prop:=∃A n c,v= .agg #[.bool neg, .slice A n c]/\a7 w A n c xs
def wC(w:World)(v:Value)(z:Int):Prop:=IJ w v (decide (z<0)) (digs z.natAbs)
def fN(neg:Bool)(xs:List Nat):(bv neg xs).natAbs=val xs:=by unfold bv;split <;>simp
def Cl(neg:Bool)(xs:List Nat):decide (bv neg xs<0)=(neg && decide (val xs≠0)):=by
 unfold bv;cases neg
 ·simp
 ·by_cases h:val xs=0<;>simp[h];omega
def IA{w:World}{neg:Bool}{xs:List Nat}{A:Option Addr}{n c:Nat}(h:a7 w A n c (trim xs))(h0:val xs≠0):wC w (.agg #[.bool neg, .slice A n c]) (bv neg xs):=by unfold wC;rw[fN,Cl];refine⟨A,n,c,?_,h⟩;simp[h0]
def Ff(w:World)(neg:Bool){xs:List Nat}(h0:val xs=0):wC w (.agg #[.bool false, .slice none 0 0]) (bv neg xs):=by unfold wC;rw[fN,Cl,h0,aG];exact⟨none,0,0,by simp, .nil _⟩
def tu(z:Int)(w:World)(e:Ending)(w':World):Prop:=∃v,e= .returned v/\wC w' v z/\Below w.heap.size w w'
def a7.trim{w:World}{A:Option Addr}{n c:Nat}{xs:List Nat}(h:a7 w A n c xs):a7 w A (trim xs).length c (trim xs):=by
 have a:=(kl h.wd).1;have b:(Go.Proofs.YtnchbpoopnjghaaGreatDoor.trim xs).length<=n:=by rw[<- h.len];exact bJ h.wd
 have:=h.take b;rwa[a]at this
def Kf(neg:Bool)(A:Option Addr)(n c:Nat)(xs:List Nat)(w:World)(h:a7 w A n c xs):
 Calls prog 232 #[.bool neg, .slice A n c] w (tu (bv neg xs) w):=by
 have a:=h.trim;have b:(trim xs).length=0->val xs=0:=fun e=>by rw[<- c6 xs,E_ e];rfl
 have d:(trim xs).length≠0->val xs≠0:=fun e e0=>e (by unfold trim;rw[e0,aG];rfl);have H:=Lib.hid h;have Htr:=Lib.hid a;have Hz0:=Lib.hid b;have Hz1:=Lib.hid d;clear h a b d;generalize g:(trim xs).length=m at *;have f:=Lib.hid g;clear g;by_cases h0:m=0
 ·subst h0
  go_enter func232,ntmps232
  go_wp2_with (go_at_call 194;refine(gk _ _ _ xs _ (H.out.alloc _)).mono ?_;rw[f.out];rintro e j ⟨rfl,rfl⟩)
  exact bodyPost_ret (v:= .agg #[.bool false, .slice none 0 0]) (by simp[results,results232,go_sem]) rfl ⟨_,rfl,Ff _ _ (Hz0.out S_),((Below.refl _ _).alloc (l_ _) _)⟩
 ·have i:((m:Int) == 0)=false:=by simpa using h0
  go_enter func232,ntmps232
  go_wp2_with (go_at_call 194;refine(gk _ _ _ xs _ (H.out.alloc _)).mono ?_;rw[f.out];rintro e j ⟨rfl,rfl⟩)
  exact bodyPost_ret (v:= .agg #[.bool neg, .slice A m c]) (by simp[results,results232,go_sem]) rfl ⟨_,rfl,IA (Htr.out.alloc _) (Hz1.out h0),((Below.refl _ _).alloc (l_ _) _)⟩
def H5{w:World}{neg b:Bool}{xs:List Nat}{A:Option Addr}{n c:Nat}(h:a7 w A n c (trim xs))(a:b=(neg && decide (val xs≠0))):wC w (.agg #[.bool b, .slice A n c]) (bv neg xs):=by unfold wC;rw[fN,Cl];exact⟨A,n,c,by rw[a],h⟩
def Fo(neg:Bool)(A:Option Addr)(n c:Nat)(xs:List Nat)(w:World)(h:a7 w A n c xs):
 Calls prog 122 #[.bool neg, .slice A n c] w (tu (bv neg xs) w):=by
 have d:=h.trim;have f:(trim xs).length=0->val xs=0:=fun e=>by rw[<- c6 xs,E_ e];rfl
 have g:(trim xs).length≠0->val xs≠0:=fun e e0=>e (by unfold trim;rw[e0,aG];rfl);have H:=Lib.hid h;have Htr:=Lib.hid d;have Hz0:=Lib.hid f;have Hz1:=Lib.hid g;clear h d f g;generalize k:(trim xs).length=m at *;have i:=Lib.hid k;clear k;have a:∀b:Bool,(b=(neg && decide (m≠0)))->wC (w.alloc (.cells #[.bool b, .slice A m c] 36)) (.agg #[.bool b, .slice A m c]) (bv neg xs):=by
  intro b o;refine H5 (Htr.out.alloc _) ?_;rw[o];by_cases h0:m=0
  ·rw[Hz0.out h0];simp[h0]
  ·have:=Hz1.out h0;simp[h0,this]
 have Hfin:=Lib.hid a;clear a;cases neg
 ·go_enter func122,ntmps122
  go_wp2_with (go_at_call 172;refine(dm _ _ _ xs _ (H.out.alloc _)).mono ?_;rw[i.out];rintro e l ⟨rfl,rfl⟩)
  exact bodyPost_ret (v:= .agg #[.bool false, .slice A m c]) (by simp[results,results122,go_sem]) rfl ⟨_,rfl,Hfin.out false S_,((Below.refl _ _).alloc (l_ _) _)⟩
 ·by_cases h0:0<m
  ·have j:(0:Int)<m:=O_
   go_enter func122,ntmps122
   go_wp2_with (go_at_call 172;refine(dm _ _ _ xs _ (H.out.alloc _)).mono ?_;rw[i.out];rintro e l ⟨rfl,rfl⟩)
   exact bodyPost_ret (v:= .agg #[.bool true, .slice A m c]) (by simp[results,results122,go_sem]) rfl ⟨_,rfl,Hfin.out true (by simp;omega),((Below.refl _ _).alloc (l_ _) _)⟩
  ·have j:¬(0:Int)<m:=O_
   go_enter func122,ntmps122
   go_wp2_with (go_at_call 172;refine(dm _ _ _ xs _ (H.out.alloc _)).mono ?_;rw[i.out];rintro e l ⟨rfl,rfl⟩)
   exact bodyPost_ret (v:= .agg #[.bool false, .slice A m c]) (by simp[results,results122,go_sem]) rfl ⟨_,rfl,Hfin.out false (by simp;omega),((Below.refl _ _).alloc (l_ _) _)⟩
end Go.Proofs.YtnchbpoopnjghaaGreatDoor
