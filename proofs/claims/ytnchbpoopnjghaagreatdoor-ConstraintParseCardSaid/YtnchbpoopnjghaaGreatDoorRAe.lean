/- Mul of the program. Norm and Neg of both packages. Mul of the reference. Integers out of machine numbers. short of the reference: the number of at most two words. slices.Backward over words, and toUint of the program, which ranges over it. -/
import Derived.Test.YtnchbpoopnjghaaGreatDoorRAd
set_option maxHeartbeats 100000000
set_option linter.all false
open Go.Proofs.Tryz
namespace Go.Proofs.YtnchbpoopnjghaaGreatDoor
open Go.RowKit
section
attribute [local go_sem ↓] Go.wp_at_zero Go.wp_at_succ
def B9{neg:Bool}{A:Option Addr}{n c:Nat}{xs:List Nat}{w:World}{z:Int}(h:a7 w A n c xs)(a:bv neg xs=z):Calls prog 232 #[.bool neg, .slice A n c] w (tu z w):=a ▸ Kf neg A n c xs w h
def Ax{neg:Bool}{A:Option Addr}{n c:Nat}{xs:List Nat}{w:World}{z:Int}(h:a7 w A n c xs)(a:bv neg xs=z):Calls prog 122 #[.bool neg, .slice A n c] w (tu z w):=a ▸ Fo neg A n c xs w h
def NI(na nb:Bool)(xs ys zs:List Nat)(h:val zs=val xs*val ys):bv (!(na == nb)) zs=bv na xs*bv nb ys:=by unfold bv;rw[h];cases na<;>cases nb<;>simp[Int.neg_mul,Int.mul_neg]
end
section
attribute [local go_sem ↓] Go.wp_at_zero Go.wp_at_succ
def FM(c d:Int):bv (!(decide (c<0) == decide (d<0))) (digs (val (digs c.natAbs)*val (digs d.natAbs)))=c*d:=by
 rw[ae,ae];have e:∀x:Int,(if decide (x<0)then -(x.natAbs:Int)else(x.natAbs:Int))=x:=by intro x;by_cases h:x<0<;>simp[h]<;>omega
 have f:=e c;have g:=e d;generalize decide (c<0)=p at *;generalize decide (d<0)=q at *;generalize c.natAbs=a at *;generalize d.natAbs=b at *;rw[<- f,<- g];unfold bv;rw[ae];cases p<;>cases q<;>simp[Int.neg_mul,Int.mul_neg]
end
def D5(n:Nat):val [n%4294967296,n/4294967296]=n:=by simp only[val];omega
def Jf(n:Nat)(h:n<18446744073709551616):Wd [n%4294967296,n/4294967296]:=
 Wd.cons O_ (Wd.cons O_ Wd.nil)
def jS(n:Nat)(h:n<18446744073709551616)(w:World):Calls prog 233 #[.int .u64 (n:Int)] w (jo (fun i=>i=digs n) w):=by
 have f:eK (w.alloc (.cells #[.int .u32 ((n:Int)%4294967296), .int .u32 ((n:Int)/4294967296)] 135)) w.heap.size [n%4294967296,n/4294967296]:=by exact UI
 have c:=f.wrd' (n:=2) (Jf n h) rfl O_;have a:trim [n%4294967296,n/4294967296]=digs n:=by unfold trim;rw[D5 n]
 have b:=c.trim;rw[a]at b;have d:Below w.heap.size w (w.alloc (.cells #[.int .u32 ((n:Int)%4294967296), .int .u32 ((n:Int)/4294967296)] 135)):=(Below.refl _ _).alloc (l_ _) _;have g:=Lib.hid c;have Htr:=Lib.hid a;have Hw3:=Lib.hid b;have Hb:=Lib.hid d;clear f c a b d;have j:(n:Int)/4294967296%4294967296=(n:Int)/4294967296:=O_;have h0:(0:Int)<=n:=O_;have k:(n:Int)<18446744073709551616:=O_
 go_enter func233,ntmps233
 go_wp2_with (go_at_call 194;(with_reducible refine(gk _ _ _ _ _ g.out).mono ?_);rw[Htr.out];rintro e l ⟨rfl,rfl⟩)
 exact Mw
def nJ(n:Nat)(h:n<18446744073709551616)(w:World):Calls prog 123 #[.int .u64 (n:Int)] w (jo (fun i=>i=digs n) w):=by
 have f:eK (w.alloc (.cells #[.int .u32 ((n:Int)%4294967296), .int .u32 ((n:Int)/4294967296)] 135)) w.heap.size [n%4294967296,n/4294967296]:=by exact UI
 have c:=f.wrd' (n:=2) (Jf n h) rfl O_;have a:trim [n%4294967296,n/4294967296]=digs n:=by unfold trim;rw[D5 n]
 have b:=c.trim;rw[a]at b;have d:Below w.heap.size w (w.alloc (.cells #[.int .u32 ((n:Int)%4294967296), .int .u32 ((n:Int)/4294967296)] 135)):=(Below.refl _ _).alloc (l_ _) _;have g:=Lib.hid c;have Htr:=Lib.hid a;have Hw3:=Lib.hid b;have Hb:=Lib.hid d;clear f c a b d;have j:(n:Int)/4294967296%4294967296=(n:Int)/4294967296:=O_;have h0:(0:Int)<=n:=O_;have k:(n:Int)<18446744073709551616:=O_
 go_enter func123,ntmps123
 go_wp2_with (go_at_call 172;(with_reducible refine(dm _ _ _ _ _ g.out).mono ?_);rw[Htr.out];rintro e l ⟨rfl,rfl⟩)
 exact Mw
def iE(a x:Nat)(d:a<4294967296)(c:x<4294967296):bits BinOp.or IntKind.u64 ((a:Int)*4294967296) (x:Int)=((a*4294967296+x:Nat):Int):=by have e:(a:Int)*4294967296=((a*4294967296:Nat):Int):=O_;rw[e,u64_or_nat _ _ O_ O_];congr 1;have h:=Nat.shiftLeft_add_eq_or_of_lt (i:=32) (b:=x) (Nat.lt_of_lt_of_eq c D_) a;rw[Nat.shiftLeft_eq]at h;exact h.symm
def Aw(A:Option Addr)(n c:Nat)(xs:List Nat)(w:World)(p:a7 w A n c xs)(v:n<=2):
 Calls prog 306 #[.slice A n c] w fun e r=>e= .returned (.int .u64 (val xs))/\w=r:=by
 have j:=Lib.hid p;clear p
 go_enter func306,ntmps306
 go_wp2
 go_loop [3,4] (fun a i=>∃(k b:Nat),k<=n/\i= .int .i64 ((k:Int)-1)/\a= .int .u64 b/\b=val (xs.drop k)/\b<4294967296^(n-k)) (fun _ i=>(intOf i+1).toNat)
 case atStart=>exact⟨n,0,l_ _,rfl,rfl,by rw[List.drop_of_length_le (by rw[j.out.len];exact l_ _)];rfl,Nat.pow_pos O_⟩
 case round=>
  obtain⟨k,b,q,rfl,rfl,l,d⟩:=hrel;by_cases h0:0<k
  ·obtain⟨s,y,rfl,_,hc1⟩:=j.out.at O_;have hc1:=hc1 (k-1) O_;have t:(0:Int)<=(k:Int)-1:=O_;have u:(k:Int)-1<n:=O_;have g:=j.out.wd.getD (k-1);generalize h:xs.getD (k-1) 0=x at hc1 g;have f:b<4294967296:=by have:4294967296^(n-k)<=4294967296^1:=Nat.pow_le_pow_right O_ O_;omega
   have Hxx:=Lib.hid h;have m:=Lib.hid l;have Hab:=Lib.hid d;clear h l d
   go_wp2
   go_round
   case rel=>
    rw[iE b x f g];refine⟨k-1,b*4294967296+x,by omega,by go_num,rfl,?_,?_⟩
    ·rw[bQ xs k h0 (by rw[j.out.len];exact q),Hxx.out];simp only[val];rw[<- m.out];omega
    ·have e:n-(k-1)=(n-k)+1:=O_;rw[e,aY];have:=Hab.out;omega
   case measure=>simp[intOf];omega
  ·have o:k=0:=O_;subst o;have m:=Lib.hid l;clear l d
   go_wp2
   go_ret
   exact⟨by rw[show val xs=b from m.out.symm];rfl,rfl⟩
section
open Go.RowKit Go.Shelf
attribute [local go_sem] Oper.semAt_some
def upto{α:Type}(f:Nat->α)(k:Nat):List α:=(List.range k).map f
def p8{α:Type}(f:Nat->α)(k:Nat):upto f (k+1)=upto f k++[f k]:=by simp[upto,List.range_succ]
def qQ{α:Type}(f:Nat->α)(k:Nat):(upto f k).length=k:=by simp[upto]
def du(xs:List Nat)(j:Nat):Nat × Nat:=(xs.length-1-j,xs.getD (xs.length-1-j) 0)
abbrev KQ(x:Nat × Nat):Array Value:= #[.int .i64 (x.1:Int),bP (x.2%4294967296)]
def KB(a Bs:Nat)(A B:World):Prop:=Below a A B/\B.heap[Bs]? =A.heap[Bs]?
def KB.refl(a Bs:Nat)(A:World):KB a Bs A A:=⟨Below.refl _ _,rfl⟩
def KB.trans{a Bs:Nat}{A B C:World}(h:KB a Bs A B)(k:KB a Bs B C):KB a Bs A C:=⟨h.1.trans k.1,k.2.trans h.2⟩
def KB.put{a Bs:Nat}{w:World}(f:a<=w.heap.size)(g:Bs<w.heap.size)(W:World)(l:Nat)(o b:Obj)(e:w.heap.size<=l)(h:W.heap[l]? =some o)(c:o.isCells=false)(d:o.isWalk=false):KB a Bs W (W.putObj l b):=
 ⟨belowK_b f W l o b e h c d,World.putObj_heap_other O_⟩
def KB.cell{b Bs:Nat}{A B:World}(h:KB b Bs A B)(i:Nat):B.cell? ⟨Bs,i,none⟩=A.cell? ⟨Bs,i,none⟩:=World.cell?_of_block (a:=⟨Bs,i,none⟩) h.2
set_option maxRecDepth 100000 in
def KR(F:Fence)(n:Nat)(U:F.fn 286)(E:F.round=none)(hn:1<=n)(l Bs:Nat)(A:Option Addr)(a m:Nat)(g:List Nat)(w:World)(j:a7 w A a m g)(J G:List (Nat × Nat)->World->Prop)(X:∀pre x W,J pre W->pre.length<a->YieldAt F (n-1) prog l (KQ x) W fun e h=>
  (e= .returned (.bool true)/\J (pre++[x]) h/\KB w.heap.size Bs W h)∨(e= .returned (.bool false)/\G (pre++[x]) h))(W:World)(z:gi w W)(u:W.cell? ⟨Bs,0,none⟩=some (.slice A a m))(h0:J [] W):
 CallsIn F n prog 286 #[.func (.yield l) #[] #[], .pointer (some ⟨Bs,0,none⟩)] W fun e h=>(∃v,e= .returned v) /\
  ((∃R,R=upto (du g) a/\J R h)∨(∃pre,True/\G pre h)):=by
 have O:=j.cap;have P:=j.lim;have hlen:=j.len;have q:=j.wd;have S:=Lib.hid j;have Hlen:=Lib.hid hlen;have Hwd:=Lib.hid q;clear j hlen q;refine callsIn_of_wp func286 rfl U ?_ E;simp only[ntmps286,List.size_toArray,List.length_cons,List.length_nil,Nat.reduceAdd,Nat.reduceSub,Array.replicate_succ,Array.replicate_zero,List.push_toArray,List.append_toArray,List.nil_append,List.cons_append]
 gi_wp2
 gi_loopw [3] (fun i wr=>∃k:Nat,k<=a/\i= .int .i64 ((a:Int)-1-k)/\J (upto (du g) k) wr/\KB w.heap.size Bs W wr)
  (fun i _=>(intOf i+1).toNat)
 case atStart=>exact⟨0,Nat.zero_le _,by go_num,h0,KB.refl _ _ _⟩
 case round=>
  obtain⟨k,hk,rfl,d,f⟩:=hrel;have Y:=(f.cell 0).trans u;by_cases D:k<a
  ·obtain⟨b,s,rfl,L,N⟩:=S.out.at O_;have B:=(f.1.cell (p:=⟨b,s+(a-1-k),none⟩) L).trans ((z.cell (p:=⟨b,s+(a-1-k),none⟩) L).trans (N (a-1-k) O_));obtain⟨fn,Q,t,H,r,V⟩:=X _ (du g k) wr d (by rw[qQ];exact D);have I:du g k=(a-1-k,g.getD (a-1-k) 0):=by unfold du;rw[Hlen.out]
   rw[I]at r;have K:((a-1-k:Nat):Int)=(a:Int)-1-k:=O_;dsimp only[KQ]at r;rw[K]at r;obtain⟨x,c⟩:∃x,x=g.getD (a-1-k) 0:=⟨_,rfl⟩;rw[<- c]at r B;rw[Nat.mod_eq_of_lt (by rw[c];exact Hwd.out.getD _)]at r;have T:(0:Int)<=(a:Int)-1-k:=O_;have g2:(a:Int)-1-k<a:=O_;have g3:((a:Int)-1-k).toNat=a-1-k:=O_;clear I K N;have Hxx:=Lib.hid c;clear c
   gi_wp2
   refine V.mono ?_;rintro e Z (⟨rfl,y,C⟩| ⟨rfl,o⟩)
   ·gi_wp2
    go_roundw
    case rel=>exact⟨k+1,by omega,by go_num,by rw[p8];exact y,f.trans C⟩
    case measure=>simp[intOf];omega
   ·gi_wp2
    refine bodyPost_ret (results_none rfl _ _ _) rfl ?_;exact⟨⟨_,rfl⟩, .inr ⟨_,trivial,o⟩⟩
  ·obtain rfl:k=a:=O_;have T:¬((k:Int)<=(k:Int)-1):=O_
   gi_wp2
   go_end0
   first|exact⟨⟨_,rfl⟩, .inl ⟨_,rfl,d⟩⟩|exact⟨⟨_,rfl⟩, .inl d⟩
def kK(F:Fence)(n:Nat)(c:F.fn 238)(b:F.round=none)(a:Option Addr)(len cap:Nat)(w:World):
 CallsIn F n prog 238 #[.slice a len cap] w fun e d=>e= .returned (.func (.func 286) #[] #[.pointer (some ⟨w.heap.size,0,none⟩)])/\d=w.alloc (.cells #[.slice a len cap] 34):=by
 refine callsIn_of_wp func238 rfl c ?_ b;simp only[ntmps238,List.size_toArray,List.length_cons,List.length_nil,Nat.reduceAdd,Nat.reduceSub,Array.replicate_succ,Array.replicate_zero,List.push_toArray,List.append_toArray,List.nil_append,List.cons_append]
 gi_wp2
 go_ret
 exact⟨rfl,rfl⟩
def Bk(F:Fence)(n:Nat)(f:F.fn 286)(c:F.round=none)(i:1<=n)(Bs:Nat)(A:Option Addr)(len cap:Nat)(xs:List Nat)(w0 w:World)(j:a7 w0 A len cap xs)(h0:gi w0 w)(a:Bs<w.heap.size)(h:w.cell? ⟨Bs,0,none⟩=some (.slice A len cap)):
 SeqStopsK F n prog 286 #[.pointer (some ⟨Bs,0,none⟩)] KQ (KB w0.heap.size Bs) (fun k=>k=upto (du xs) len) (fun _=>True) len w:=fun l J e W d _ _ g b=>
 KR F n f c i l Bs A len cap xs w0 j J e g W (h0.more d) ((d.cell (p:=⟨Bs,0,none⟩) a).trans h) b
def xH(l:List (Nat × Nat)):Nat:=l.foldl (fun a p=>a*4294967296+p.2%4294967296) 0
def vj(l:List (Nat × Nat))(p:Nat × Nat):xH (l++[p])=xH l*4294967296+p.2%4294967296:=by unfold xH;simp
def JX(l:List (Nat × Nat))(h:l.length<2):xH l<4294967296:=by
 match l,h with
 | [],_=>simp[xH]
 | [p],_=>simp[xH];omega
def E4{xs:List Nat}(a:Wd xs)(k:Nat)(c:k<=xs.length):xH (upto (du xs) k)=val (xs.drop (xs.length-k)):=by
 induction k with
 |zero=>rw[Nat.sub_zero,List.drop_of_length_le (l_ _)];rfl
 |succ k b=>
  rw[p8,vj,b O_];have h:=bQ xs (xs.length-k) O_ O_;rw[show xs.length-(k+1)=xs.length-k-1 by omega,h];simp only[val];have e:(du xs k).2=xs.getD (xs.length-k-1) 0:=by unfold du;dsimp only;rw[show xs.length-1-k=xs.length-k-1 by omega]
  rw[e,Nat.mod_eq_of_lt (a.getD _)];omega
set_option maxRecDepth 100000 in
def Fg(F:Fence)(n:Nat)(J:F.fn 283)(L:F.fn 238)(u:F.fn 286)(f:F.round=none)(V:3<=n)(A:Option Addr)(b d:Nat)(r:List Nat)(w:World)(o:a7 w A b d r)(S:b<=2):
 CallsIn F n prog 283 #[.slice A b d] w fun e H=>e= .returned (.int .u64 (val r:Int))/\Below w.heap.size w H:=by
 have I:1<=n:=O_;have hlen:=o.len;have j:=o.wd;have G:=Lib.hid o;have Hlen:=Lib.hid hlen;have Hwd:=Lib.hid j;clear o hlen j;refine callsIn_of_wp_marks func283 rfl J ?_ f;simp only[ntmps283,List.size_toArray,List.length_cons,List.length_nil,Nat.reduceAdd,Nat.reduceSub,Array.replicate_succ,Array.replicate_zero,List.push_toArray,List.append_toArray,List.nil_append,List.cons_append]
 gi_wp2_with (gi_at_call 238;refine(kK F (n-1) L f _ _ _ _).mono ?_;rintro e X ⟨rfl,rfl⟩)
 have bS:=Boxed.new w 169 (.int .u64 0);have t:=Boxed.new (w.alloc (.cells #[.int .u64 0] 169)) 34 (.slice A b d);rw[World.size_alloc]at t;have i:Below w.heap.size w ((w.alloc (.cells #[.int .u64 0] 169)).alloc (.cells #[.slice A b d] 34)):=((Below.refl _ w).alloc (l_ _) _).alloc S_ _;refine wpIn_rangeFunc_ownG f I (gf:=286) (lb:= #[.pointer (some ⟨w.heap.size+1,0,none⟩)]) rfl u (enters_of func286 (by kernel_rfl) rfl)
  (Bk F (n-1) u f O_ (w.heap.size+1) A b d r w _ G.out i S_ t.cell) (fun h k=>KB.trans h k) (KB.put (by simp;omega) S_) (Below.refl _ _) (fun _=>rfl)
  (fun pre W=>(W.cell? ⟨w.heap.size,0,none⟩=some (.int .u64 (xH pre:Int))/\W.frozen? ⟨w.heap.size,0,none⟩=false)/\Below w.heap.size w W)
  (fun _ _ _=>False)
  (OwnFrom.and (Own.from (fun s A B U g z C=>⟨cell_kept g.1 z C,(frozen_kept g.1 z C).trans g.2⟩) _) (ownFrom_below (l_ _) (by simp;omega)))
  (fun _ _ _ _ _ g _ _=>g)
  ⟨⟨(bS.alloc (.cells #[.slice A b d] 34)).cell,(bS.alloc _).frozen⟩,i⟩
  (fun x=>{ tmps:= #[.slice A b d,undef, .int .u64 0, .pointer (some ⟨w.heap.size,0,none⟩),undef,bP (x.2%4294967296), .slice A b d, .func (.func 286) #[] #[.pointer (some ⟨w.heap.size+1,0,none⟩)], .int .i64 (x.1:Int),bP (x.2%4294967296),undef,undef,undef,undef,undef,undef],defers:=[] }) ?assign ?body ?done ?stop
 case assign=>
  intro l x W K m
  gi_wp2
  exact m
 case body=>
  rintro l pre x W ⟨⟨v,R⟩,q⟩ T;have O:=JX pre O_;have P:x.2%4294967296<4294967296:=Nat.mod_lt _ D_;have g:=vj pre x;generalize x.2%4294967296=y at *;generalize xH pre=a at *;have E:=Lib.hid g;clear g
  gi_wp2
  exact⟨(KeepsOthers.setCell _ _ _).from _,⟨(Below.refl w.heap.size W).setCell (p:=⟨w.heap.size,0,none⟩) (l_ _) _,Below.heap_setCell _ _ _ _ S_⟩,⟨by rw[World.cell?_setCell_same' _ _ _ (by rw[v];rfl),iE a y O P,E.out],by rw[World.frozen?_setCell];exact R⟩,q.setCell (p:=⟨w.heap.size,0,none⟩) (l_ _) _⟩
 case done=>
  rintro D Y W N rfl ⟨⟨v,_⟩,q⟩ m;have Q:=E4 Hwd.out b (by rw[Hlen.out];exact l_ _);rw[Hlen.out,Nat.sub_self,List.drop_zero]at Q
  gi_wp2
  refine⟨by simp, .inl ⟨_,_,rfl,run_takeDeferred m,?_⟩⟩;refine⟨_,results_tmp rfl _ _ _,?_,?_⟩
  ·rfl
  ·exact q.trans (belowK_b (w:=w) (l_ _) W D _ _ (by simp at N;omega) m rfl rfl)
 case stop=>rintro D c pre W _ _ h _;exact h.elim
def n5(A:Option Addr)(len cap:Nat)(xs:List Nat)(w:World)(c:a7 w A len cap xs)(a:len<=2):
 Calls prog 283 #[.slice A len cap] w fun e b=>e= .returned (.int .u64 (val xs:Int))/\Below w.heap.size w b:=
 callsIn_wide.1 (Fg Fence.wide 3 trivial trivial trivial rfl (l_ _) A len cap xs w c a)
end
end Go.Proofs.YtnchbpoopnjghaaGreatDoor
