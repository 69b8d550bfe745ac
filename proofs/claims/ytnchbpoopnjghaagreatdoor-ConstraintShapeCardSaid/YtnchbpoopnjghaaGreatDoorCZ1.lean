/- Parts of a proof: contracts of the functions that the laws reach. -/
import Derived.Test.YtnchbpoopnjghaaGreatDoorCAmI
set_option maxHeartbeats 100000000
set_option maxRecDepth 100000
set_option linter.all false
open Go.Proofs.Tryz
namespace Go.Proofs.YtnchbpoopnjghaaGreatDoor
open Go.RowKit
def vT (xs:List Nat):Prop:=xs.length<=2147483648
def iV (z:Int):Prop:=(digs z.natAbs).length<=2147483648
theorem iV.of_lt {z:Int} {k:Nat} (h:z.natAbs<4294967296^k) (hk:k<=2147483648):iV z:=Nat.le_trans (a8 h) hk
theorem iV.small {z:Int} (h:z.natAbs<4294967296):iV z:= .of_lt (k:=1) (by simpa using h) (by decide)
theorem wq {na nb:Bool} {xs ys:List Nat} (hw:Wd xs) (hw':Wd ys) (h1:vT xs) (h2:vT ys) {z:Int} (hz:aN na xs+aN nb ys=z):aa Tryz.prog 190 [dI na xs,dI nb ys] (.one (dZ z)):=
 R9 (av func190 rfl rfl) hw hw' (fun v u w h k=>by have:=P2 v u na nb xs ys w h k h1 h2;rwa[hz]at this) (fun _ _ _ _ hS h=>gy hS h)
theorem oe {a b:Int} (h1:iV a) (h2:iV b):aa Tryz.prog 190 [dZ a,dZ b] (.one (dZ (a+b))):=wq (aH _) (aH _) h1 h2 (by rw[bA,bA])
theorem Gg {na nb:Bool} {xs ys:List Nat} (hw:Wd xs) (hw':Wd ys) (h1:vT xs) (h2:vT ys) {z:Int} (hz:aN na xs*aN nb ys=z):aa Tryz.prog 192 [dI na xs,dI nb ys] (.one (dZ z)):=
 R9 (av func192 rfl rfl) hw hw' (fun v u w h k=>by have:=MT v u na nb xs ys w h k h1 h2;rwa[hz]at this) (fun _ _ _ _ hS h=>gy hS h)
theorem dp {a b:Int} (h1:iV a) (h2:iV b):aa Tryz.prog 192 [dZ a,dZ b] (.one (dZ (a*b))):=Gg (aH _) (aH _) h1 h2 (by rw[bA,bA])
theorem tI {na:Bool} {xs:List Nat} (hw:Wd xs) (h1:vT xs) {z:Int} (hz:(aN na xs)=z):aa Tryz.prog 326 [dI na xs] (.one (dZ z)):=
 R8 (av func326 rfl rfl) hw (fun v w h=>by have:=IC v na xs w h h1;rwa[hz]at this) (fun _ _ _ _ hS h=>gy hS h)
theorem GX {na:Bool} {xs:List Nat} (hw:Wd xs) (h1:vT xs) {z:Int} (hz: -(aN na xs)=z):aa Tryz.prog 260 [dI na xs] (.one (dZ z)):=
 R8 (av func260 rfl rfl) hw (fun v w h=>by have:=Rt v na xs w h h1;rwa[hz]at this) (fun _ _ _ _ hS h=>gy hS h)
theorem tG {a:Int} (h1:iV a):aa Tryz.prog 260 [dZ a] (.one (dZ (- a))):=GX (aH _) h1 (by rw[bA])
theorem E7 {S:Nat->Prop} {w w':World} {e:Ending} {z:Int} (hr:H0 z w e w'):r7 S (.one (dN .i64 z)) w e w':=by
 obtain⟨rfl,hb⟩:=hr;exact⟨_,rfl,AV.M.val rfl,hb⟩
theorem oc {na:Bool} {xs:List Nat} (hw:Wd xs) {z:Int} (hz:(aN na xs).sign=z):aa Tryz.prog 136 [dI na xs] (.one (dN .i64 z)):=
 R8 (av func136 rfl rfl) hw (fun v w h=>by have:=zt v na xs w h;first|rwa[hz]at this|rwa[FV,hz]at this) (fun _ _ _ _ _ h=>E7 h)
theorem zf (a:Int):aa Tryz.prog 136 [dZ a] (.one (dN .i64 a.sign)):=oc (aH _) (by rw[bA])
theorem lL {na:Bool} {xs:List Nat} (hw:Wd xs) {b:Bool} (hb:d4 na xs=b):aa Tryz.prog 230 [dI na xs] (.one (dB b)):=
 R8 (av func230 rfl rfl) hw (fun v w h=>by have:=KQ v na xs w h;rwa[hb]at this) (fun _ _ _ _ _ h=>N6 h)
theorem HQ {na nb:Bool} {xs ys:List Nat} (hw:Wd xs) (hw':Wd ys) {z:Int} (hz:bF (aN na xs) (aN nb ys)=z):aa Tryz.prog 175 [dI na xs,dI nb ys] (.one (dN .i64 z)):=
 R9 (av func175 rfl rfl) hw hw' (fun v u w h k=>by have:=RO v u na nb xs ys w h k;rwa[hz]at this) (fun _ _ _ _ _ h=>E7 h)
theorem Dw (a b:Int):aa Tryz.prog 175 [dZ a,dZ b] (.one (dN .i64 (bF a b))):=HQ (aH _) (aH _) (by rw[bA,bA])
theorem dM (k:Int) (h1: -9223372036854775808<=k) (h2:k<9223372036854775808):aa Tryz.prog 174 [dN .i64 k] (.one (dZ k)):=
 ⟨av func174 rfl rfl,fun S w vs hS hv=>by
  match vs,hv with
  | [v],⟨h,_⟩=>
   obtain rfl:=aT h;exact(tH k h1 h2 w).mono fun e w' he=>gy hS he⟩
theorem ld (k:Int) (h1: -9223372036854775808<=k) (h2:k<9223372036854775808):aa Tryz.prog 82 [dN .i64 k] (.one (dZ k)):=
 ⟨av func82 rfl rfl,fun S w vs hS hv=>by
  match vs,hv with
  | [v],⟨h,_⟩=>
   obtain rfl:=aT h;exact(yY k h1 h2 w).mono fun e w' he=>gy hS he⟩
theorem Fs {na:Bool} {xs:List Nat}:aN na xs=0↔val xs=0:=by unfold aN;cases na<;>simp
theorem xy {na nb:Bool} {xs ys:List Nat} (hw:Wd xs) (hw':Wd ys) (h1:vT xs) (h2:vT ys) (h0:aN nb ys≠0) {q r:Int} (hq:(aN na xs).fdiv (aN nb ys)=q) (hr:(aN na xs).fmod (aN nb ys)=r):aa Tryz.prog 299 [dI na xs,dI nb ys] (.tup [dZ q,dZ r,dN .i64 0]):=
 R9 (av func299 rfl rfl) hw hw' (fun v u w h k=>by
  have hy:val ys≠0:=fun e=>h0 (Fs.2 e)
  have:=F0 v u na nb xs ys w h k h1 h2 (LA (by have:=b4 hw;unfold trim at this;unfold vT at h1;omega) (by omega)) hy
  rwa[hq,hr]at this) (fun _ _ _ _ hS h=>J4 hS h)
section
open Go.ChangeShapes Go.WideShapes Go.ChangeAt Go.RowKit Go.Joins
theorem Tn (w:World) (hT:bP (fun _=>False) w):bP (fun _=>False) w:=hT
theorem kz {f:FuncId} {ds:List DV} (h:aa Tryz.prog f ds (.one (dB true))) {w:World} (hT:bP (fun _=>False) w) {vs:List Value} (hv:VM (fun _=>False) w ds vs):Calls Tryz.prog f vs.toArray w (CW true w):=
 (h.calls _ w vs (Tn w hT) hv).mono fun e w' ⟨v,he,hm,hb⟩=>by
  obtain rfl:=aT (show AV.M _ _ _ _ from hm);exact⟨he,hb⟩
end
def dW (xs:List Nat):DV:= .leaf (aW xs)
theorem K0 {S:Nat->Prop} {w w':World} {e:Ending} {q r:Nat} (h:bP S w) (hr:lh q r w e w'):r7 S (.tup [dW (digs q),dW (digs r)]) w e w':=by
 obtain⟨A,n,c,B,m,d,rfl,hq,hr,hb⟩:=hr;refine⟨_,rfl,⟨[.slice A n c, .slice B m d],rfl,rfl,fun i x u h1 h2=>?_⟩,hb⟩
 match i with
 |0=>simp at h1 h2;subst h1 h2;exact tY (h.grow hb) hq
 |1=>simp at h1 h2;subst h1 h2;exact tY (h.grow hb) hr
 |i+2=>simp at h1
theorem uc {xs:List Nat} (hw:Wd xs):aa Tryz.prog 194 [dW xs] (.one (dW (trim xs))):=
 ⟨av func194 rfl rfl,fun S w vs hS hv=>by
  match vs,hv with
  | [v],⟨h,_⟩=>
   obtain⟨A,n,c,rfl,hx⟩:=lD h hw;refine(bv A n c xs w hx).mono ?_;rintro e w' ⟨rfl,rfl⟩;exact⟨_,rfl,tY hS hx.trim,Below.refl _ _⟩⟩
theorem wT {a b:Nat} (h:(digs a).length<=2147483648) (hb:0<b):aa Tryz.prog 282 [dW (digs a),dW (digs b)] (.tup [dW (digs (a/b)),dW (digs (a%b))]):=
 ⟨av func282 rfl rfl,fun S w vs hS hv=>by
  match vs,hv with
  | [v,u],⟨h1,h2,_⟩=>
   obtain⟨A,n,c,rfl,hx⟩:=lD h1 (aH _);obtain⟨B,m,d,rfl,hy⟩:=lD h2 (aH _);exact(LA h hb A n c B m d w hx hy).mono fun e w' he=>K0 hS he⟩
theorem j3 {neg:Bool} {xs:List Nat} (hw:Wd xs) {z:Int} (hz:aN neg xs=z):aa Tryz.prog 232 [dB neg,dW xs] (.one (dZ z)):=
 ⟨av func232 rfl rfl,fun S w vs hS hv=>by
  match vs,hv with
  | [v,u],⟨h1,h2,_⟩=>
   obtain rfl:=aT h1;obtain⟨A,n,c,rfl,hx⟩:=lD h2 hw;exact(bu hx hz).mono fun e w' he=>gy hS he⟩
theorem GF {xs:List Nat} (hw:Wd xs) (hl:xs.length<=4294967296):aa Tryz.prog 236 [dW xs] (.one (dW xs)):=
 ⟨av func236 rfl rfl,fun S w vs hS hv=>by
  match vs,hv with
  | [v],⟨h,_⟩=>
   obtain⟨A,n,c,rfl,hx⟩:=lD h hw;refine(iD A n c xs w hx (by rw[<- hx.len];exact hl)).mono ?_;rintro e w' ⟨A',n',c',zs,rfl,hz,rfl,hb⟩;exact⟨_,rfl,tY (hS.grow hb) hz,hb⟩⟩
theorem ti {xs:List Nat} (hw:Wd xs) (hl:xs.length<=2):aa Tryz.prog 283 [dW xs] (.one (dN .u64 (val xs))):=
 ⟨av func283 rfl rfl,fun S w vs hS hv=>by
  match vs,hv with
  | [v],⟨h,_⟩=>
   obtain⟨A,n,c,rfl,hx⟩:=lD h hw;refine(qJ A n c xs w hx (by rw[<- hx.len];exact hl)).mono ?_;rintro e w' ⟨rfl,hb⟩;exact⟨_,rfl,AV.M.val rfl,hb⟩⟩
theorem yq (n:Nat) (hn:n<18446744073709551616):aa Tryz.prog 233 [dN .u64 n] (.one (dW (digs n))):=
 ⟨av func233 rfl rfl,fun S w vs hS hv=>by
  match vs,hv with
  | [v],⟨h,_⟩=>
   obtain rfl:=aT h;refine(fh n hn w).mono ?_;rintro e w' ⟨A',n',c',zs,rfl,hz,rfl,hb⟩;exact⟨_,rfl,tY (hS.grow hb) hz,hb⟩⟩
theorem fm {n:Nat}:(digs n).length=0↔n=0:=by
 constructor
 ·intro h;exact fF.1 (List.eq_nil_of_length_eq_zero h)
 ·rintro rfl;rw[ay];rfl
theorem vZ {a b:Nat}:Nat.gcd b (a%b)=Nat.gcd a b:=by rw[Nat.gcd_comm a b,Nat.gcd_rec b a,Nat.gcd_comm]
theorem x6 {na nb:Bool} {xs ys:List Nat} (hw:Wd xs) (hw':Wd ys) (h1:vT xs) (h2:vT ys):aa Tryz.prog 231 [dI na xs,dI nb ys] (.one (dZ (Nat.gcd (val xs) (val ys)))):=by
 have f1:(digs (val xs)).length<=2147483648:=by have:=b4 hw;unfold trim at this;unfold vT at h1;omega
 have f2:(digs (val ys)).length<=2147483648:=by have:=b4 hw';unfold trim at this;unfold vT at h2;omega
 refine kV func231 ?_;refine kQ (uc hw) ?_;refine kQ (uc hw') ?_;refine ax (Nat × Nat) (fun p=>Nat.gcd p.1 p.2=Nat.gcd (val xs) (val ys)/\(digs p.1).length<=2147483648/\(digs p.2).length<=2147483648) (fun p=>⟨[(4, .box 2 0),(5, .d (dW (digs p.1))),(6, .d (dW (digs p.2)))],[(2,some [.val (.bool false), .sl 0 []])]⟩) (fun p=>p.2) (val xs,val ys) ⟨rfl,f1,f2⟩ kw ?_;rintro⟨u,v⟩ ⟨hg,g1,g2⟩;dsimp only at hg g1 g2 ⊢
 by_cases hb:2<(digs v).length∨(2<(digs u).length/\0<(digs v).length)
 ·have hv:0<v:=by
   rcases Nat.eq_zero_or_pos v with hv|hv
   ·rw[hv,ay]at hb;simp at hb
   ·exact hv
  have hm:=Nat.mod_lt u hv
  by_cases h2:2<(digs v).length
  ·refine tt ?_
   exact tk
  ·have h3:2<(digs u).length/\0<(digs v).length:=by omega
   refine tt ?_;refine kE ?_;refine SJ ?_;exact tk
 ·have hz:v=0∨(0<v/\(digs v).length<=2/\(digs u).length<=2):=by
   rcases Nat.eq_zero_or_pos v with hv|hv
   ·exact .inl hv
   ·have:0<(digs v).length:=by
     exact Na
    exact .inr ⟨hv,by omega,by omega⟩
  rcases hz with hv| ⟨hv,hv2,hu2⟩
  ·subst hv
   rw[Nat.gcd_zero_right]at hg;have hl0:(digs 0).length=0:=fm.2 rfl
   by_cases hu2:2<(digs u).length
   ·refine tt ?_
    refine kE ?_;refine SJ ?_;refine M0 ?_;refine NS ?_;exact ar
   ·refine tt ?_
    refine kE ?_
    refine kO3 ?_
    refine M0 ?_;refine NS ?_;exact ar
  ·have hvl:0<(digs v).length:=by
    exact Na
   have hu64:u<18446744073709551616:=by have:=dc hu2;simpa using this
   have hv64:v<18446744073709551616:=by have:=dc hv2;simpa using this
   refine tt ?_;refine kE ?_
   refine kO3 ?_
   refine kY ?_;refine iR (T:=TT) rfl ?_ ?_
   ·exact beq_eq_false_iff_ne.2 (by omega)
   refine kW ?_;refine kQ (ti (aH u) hu2) ?_;refine kQ (ti (aH v) hv2) ?_;rw[az,az];refine ax (Nat × Nat) (fun p=>Nat.gcd p.1 p.2=Nat.gcd (val xs) (val ys)/\p.1<18446744073709551616/\p.2<18446744073709551616) (fun p=>⟨[(4, .box 2 0),(9, .d (dN .u64 p.1)),(10, .d (dN .u64 p.2))],[(2,some [.val (.bool false), .sl 0 []])]⟩) (fun p=>p.2) (u,v) ⟨hg,hu64,hv64⟩ kw ?_;clear hg hu64 hv64 g1 g2 hu2 hv2 hvl hv hb;clear u v;rintro⟨u,v⟩ ⟨hg,hu,hv⟩;dsimp only at hg hu hv ⊢;rcases Nat.eq_zero_or_pos v with h0|h0
   ·subst h0
    rw[Nat.gcd_zero_right]at hg;refine kW ?_;refine kC (yq u hu) ?_;refine NS ?_;exact ar
   ·refine Ch ?_
    refine kB true ?_ ?_
    ·exact bne_iff_ne.2 (by omega)
    refine kW ?_;refine aD rfl rfl rfl rfl ?_ rfl rfl (rf (by omega)) ?_
    ·rfl
    refine kW ?_;have hm:=Nat.mod_lt u h0;refine⟨(v,u%v),⟨vZ.trans hg,hv,by dsimp only;omega⟩,hm,weak ⟨rfl,rfl,?_,trivial⟩ ⟨rfl,trivial⟩ rfl⟩;show TV.d (.leaf (.val (.int .u64 ((u:Int).tmod v))))=TV.d (dN .u64 ((u%v:Nat):Int));rw[Int.ofNat_tmod];rfl
def Bs (l:List UInt8):ByteArray:=⟨l.toArray⟩
def dL (l:List UInt8):DV:=dS (Bs l)
def vL (l:List UInt8):Value:= .string (Bs l)
theorem NK (s:ByteArray):Bs s.data.toList=s:=rfl
theorem aw (l:List UInt8):(Bs l).size=l.length:=by simp[Bs,ByteArray.size]
theorem ff (l:List UInt8):(Bs l).toList=l:=ByteArray.toList_mk l
theorem DT (a b:List UInt8):Bs a++Bs b=Bs (a++b):=by
 apply ByteArray.ext
 simp[Bs]
theorem lQ (l:List UInt8) (i j:Nat):(Bs l).extract i j=Bs ((l.take j).drop i):=by
 apply ByteArray.ext
 simp[Bs,ByteArray.data_extract,List.extract_eq_take_drop,List.drop_take]
theorem jF {t:TypeId} {x y:Operand} {a b:List UInt8}:lJ .eql t x y (vL a) (vL b)=some (.bool (decide (a=b))):=by
 show some (Value.bool ((Bs a).toList == (Bs b).toList))=_;rw[ff,ff]
 congr 2
 by_cases h:a=b<;>simp[h]
theorem qg {t:TypeId} {x y:Operand} {a b:List UInt8}:lJ .neq t x y (vL a) (vL b)=some (.bool (!decide (a=b))):=by
 show some (Value.bool (!((Bs a).toList == (Bs b).toList)))=_;rw[ff,ff]
 congr 3
 by_cases h:a=b<;>simp[h]
theorem eg {t:TypeId} {x y:Operand} {a b:List UInt8} (h:a.length+b.length<=9223372036854775807):lJ .add t x y (vL a) (vL b)=some (vL (a++b)):=by
 have h1:¬(((Bs a).size+(Bs b).size:Nat):Int) > IntKind.i64.max:=by
  rw[aw,aw,show IntKind.i64.max=9223372036854775807 from by decide];omega
 have:binOp .add t (vL a) (vL b)= .pure (vL (a++b)):=by
  simp only[binOp,vL,Op.stringOp,h1,if_false,DT]
  rfl
 show wn (do eqGuard .add t x y (vL a) (vL b);binOp .add t (vL a) (vL b))=_
 simp only[this]
 rfl
section
variable {P:Program} {T:TypeId->Option Ty} {n:Nat} {ops:Array Oper} {id:Nat} {draw:Bool} {K:AS->Prop} {s:AS} {k:Nat} {o:Oper} {os:List Oper} {fps:List FP}
theorem qh {t:TypeId} {ty:Ty} (hT:aO P t ty) (hs:ty.isStr=true):P.underlying t=some .string:=by
 obtain⟨d,hu,_,_,_,_,hst,_⟩:=hT.und;rw[hu,hst hs]
theorem jy (hT:∀t d,T t=some d->aO P t d) {t:TypeId} {ty:Ty} {x y:Operand} {l:List UInt8} {c:UInt8} {i:Nat} {ik:IntKind} (hi:l[i]? =some c) (h1:gd ops s o=some true) (h2:o.op= .index t x y) (h5:T t=some ty) (h6:ty.isStr=true) (h7:s.ev x= .d (.leaf (.val (vL l)))) (h8:s.ev y= .d (.leaf (.val (.int ik (i:Nat)))))
 (h3:aB n o.dst=true) (h4:eZ draw ops (au ops o ⟨.d (dN .u8 c.toNat),none⟩ []) k fps=true) (h:ak P T n ops id draw K (k+1) os (s.eff o.dst ⟨.d (dN .u8 c.toNat),none⟩) (au ops o ⟨.d (dN .u8 c.toNat),none⟩ []::fps)):ak P T n ops id draw K k (o::os) s fps:=by
 refine .run h1 (.gen fun s2 ht _=>?_) h3 h4 h;have hx:=(aq ht (x:=x) (by simp[h2,Op.operands])).trans h7;have hy:=(aq ht (x:=y) (by simp[h2,Op.operands])).trans h8;have hu:=qh (hT _ _ h5) h6;have hl:i<l.length:=(List.getElem?_eq_some_iff.1 hi).1
 refine ah fun n S0 w0 g a w hM=>⟨.int .u8 c.toNat,w,?_,Below.refl _ _,AV.M.val rfl⟩
 unfold execOp;rw[h2];have hsz:=aw l
 have hget:(Bs l)[i]'(by rw[hsz];exact hl)=c:=by
  have:=(List.getElem?_eq_some_iff.1 hi).2;show(Bs l).data[i]'_=c
  simpa[Bs]using this
 simp only[aY hM hx,aY hM hy,vL,Sem.run_bind,run_index_string _ t (Bs l) ik i hu]
 rw[dif_pos (by rw[hsz];omega)]
 simp only[Result.andThen_ok,Int.toNat_natCast,hget]
 rfl
theorem vY (hT:∀t d,T t=some d->aO P t d) {t:TypeId} {ty:Ty} {x y:Operand} {l:List UInt8} {i:Nat} {ik:IntKind} (hi:i<=l.length) (h1:gd ops s o=some true) (h2:o.op= .slice t x (some y) none none) (h5:T t=some ty) (h6:ty.isStr=true) (h7:s.ev x= .d (.leaf (.val (vL l)))) (h8:s.ev y= .d (.leaf (.val (.int ik (i:Nat)))))
 (h3:aB n o.dst=true) (h4:eZ draw ops (au ops o ⟨.d (dL (l.drop i)),none⟩ []) k fps=true) (h:ak P T n ops id draw K (k+1) os (s.eff o.dst ⟨.d (dL (l.drop i)),none⟩) (au ops o ⟨.d (dL (l.drop i)),none⟩ []::fps)):ak P T n ops id draw K k (o::os) s fps:=by
 refine .run h1 (.gen fun s2 ht _=>?_) h3 h4 h;have hx:=(aq ht (x:=x) (by simp[h2,Op.operands])).trans h7;have hy:=(aq ht (x:=y) (by simp[h2,Op.operands])).trans h8;have hu:=qh (hT _ _ h5) h6;refine ah fun n S0 w0 g a w hM=>⟨vL (l.drop i),w,?_,Below.refl _ _,AV.M.val rfl⟩
 unfold execOp;rw[h2]
 have e1:(Instr.sliceAt t (.string (Bs l)) (some (.int ik i)) none none).run P w= .ok (vL (l.drop i)) w:=by
  refine Nt ?_;rw[run_slice_string_l w t (Bs l) hu ik i (by omega) (by rw[aw];omega),lQ,aw]
  simp[vL]
 simp only[aY hM hx,aY hM hy,vL,Option.map_some,Option.map_none,Sem.run_bind,e1,Result.andThen_ok]
 rfl
end
section
variable {P:Program} {T:TypeId->Option Ty} {n:Nat} {s:AS}
theorem pO {x y:Code} {Q:AX->AS->Prop} (σ:AS) (hy:∀s',aL s' σ->ft P T n y Q s') (hx:∀R:AX->AS->Prop,(∀s',aL s' σ->R .normal s')->R .ret=Q .ret->ft P T n x R s):ft P T n (.seq x y) Q s:=bl (hx _ hy rfl)
theorem NO {x y:Code} {Q:AX->AS->Prop} (σ:AS) (φ:Prop) (hy:φ-> ∀s',aL s' σ->ft P T n y Q s') (hx:∀R:AX->AS->Prop,(φ-> ∀s',aL s' σ->R .normal s')->R .ret=Q .ret->ft P T n x R s):ft P T n (.seq x y) Q s:=bl (hx _ hy rfl)
theorem aL.trans {a b c:AS} (h:aL a b) (h':aL b c):aL a c:=fun n S0 w0 x w m=>h' n S0 w0 x w (h n S0 w0 x w m)
theorem MG.rename {S0:Nat->Prop} {w0:ee} {g:Nat->Nat} {a:Act} {w:World} (h:MG n S0 w0 g s a w) {j j':Nat} {cs:List AV} (hj:s.bx j=some cs) (hn:af s.b j'=none) (hw:bC j'=bC j) (hrv:gP j'=false) (hlb:bM j'=false):
 ∃g',MG n S0 w0 g' ⟨s.t,(j',some cs)::(j,none)::s.b⟩ a w/\(∀(m k e:Nat) (v:Value),TV.M (Own S0 g s) g s w (.own j m k e) v->TV.M (Own S0 g' ⟨s.t,(j',some cs)::(j,none)::s.b⟩) g' ⟨s.t,(j',some cs)::(j,none)::s.b⟩ w (.own j' m k e) v)/\ ∀i,i≠j'->g' i=g i:=by
 have hjj:j'≠j:=fun e=>by
  subst e;obtain⟨x,hx⟩:=AS.kn_of hj;rw[hn]at hx;cases hx
 have hkn:∀i,s.kn i->i≠j':=fun i ⟨x,hx⟩ e=>by subst e;rw[hn]at hx;cases hx
 have hbx:∀i ci,(AS.mk s.t ((j',some cs)::(j,none)::s.b)).bx i=some ci->(i=j'/\ci=cs)∨(i≠j'/\i≠j/\s.bx i=some ci):=fun i ci hi=>by
  by_cases e1:i=j'
  ·subst e1;rw[AS.bx_same]at hi;cases hi;exact .inl ⟨rfl,rfl⟩
  ·rw[AS.bx_ne _ s.t _ _ e1]at hi
   by_cases e2:i=j
   ·subst e2;rw[AS.bx_dead]at hi;cases hi
   ·rw[AS.bx_ne _ s.t _ _ e2]at hi;exact .inr ⟨e1,e2,hi⟩
 have hO:Own S0 (fun i=>if i=j' then g j else g i) (AS.mk s.t ((j',some cs)::(j,none)::s.b))=Own S0 g s:=by
  funext b
  apply propext
  constructor
  ·rintro(h0| ⟨i,ci,hi,e0⟩)
   ·exact .inl h0
   ·rcases hbx i ci hi with⟨rfl,rfl⟩| ⟨h1,h2,h3⟩
    ·simp only[if_true]at e0;exact .inr ⟨j,ci,hj,e0⟩
    ·simp only[h1,if_false]at e0;exact .inr ⟨i,ci,h3,e0⟩
  ·rintro(h0| ⟨i,ci,hi,e0⟩)
   ·exact .inl h0
   ·by_cases e2:i=j
    ·subst e2
     exact .inr ⟨j',cs,AS.bx_same _ _ _ _,by simp only[if_true];exact e0⟩
    ·have h1:=hkn i (AS.kn_of hi)
     refine .inr ⟨i,ci,?_,by simp only[h1,if_false];exact e0⟩;rw[AS.bx_ne _ s.t _ _ h1,AS.bx_ne _ s.t _ _ e2];exact hi
 have hF:iv s (AS.mk s.t ((j',some cs)::(j,none)::s.b)) g (fun i=>if i=j' then g j else g i) w w:=⟨fun z hz=>AS.kn_cons (t:=s.t) _ (AS.kn_cons (t:=s.t) _ hz),fun z cz hk hz=>by
  rcases hbx z cz hz with⟨e1,_⟩| ⟨h1,h2,h3⟩
  ·exact absurd e1 (hkn z hk)
  ·exact⟨cz,h3,Nat.le_refl _,by simp only[h1,if_false],fun a1 e1 h4=>⟨a1,h4,rfl⟩⟩⟩
 refine⟨fun i=>if i=j' then g j else g i,⟨fun i=>?_,fun i ci hi=>?_,fun i i' ci ci' hi hi' e0=>?_,h.grow,h.df.agree hF,h.sz,h.cl,h.tg,fun k cs hk=>by rw[hO];exact(h.gl k cs hk).agree (bG.refl _ _) (fun _ _ h=>h) hF,fun i q ci h1 h2 hi=>by
  rcases hbx i ci hi with⟨e1,_⟩| ⟨h3,h4,h5⟩
  ·subst e1;rw[hrv]at h1;cases h1
  ·simp only[h3,if_false];exact h.gp i q ci h1 h2 h5,h.nk⟩,fun m k e v hm=>?_,fun i hi=>by simp only[hi,if_false]⟩
 ·rw[hO]
  exact(h.tm i).agree (bG.refl _ _) (fun _ _ h=>h) hF
 ·rw[hO]
  rcases hbx i ci hi with⟨rfl,rfl⟩| ⟨h1,h2,h3⟩
  ·simp only[if_true]
   obtain⟨h1,arr,e1,h4,h5,h6,_⟩:=h.bm j ci hj;exact⟨h1,arr,e1,h4,h5,fun hb=>h6 (by rw[<- hw];exact hb),fun hl=>absurd hl (by rw[hlb];decide),fun ht=>absurd (mx ht) (by rw[hlb];decide)⟩
  ·simp only[h1,if_false]
   obtain⟨h4,h5⟩:=h.bm i ci h3;exact⟨h4,h5.agree rfl (bG.refl _ _) (fun _ _ h=>h) hF⟩
 ·rcases hbx i ci hi with⟨e1,_⟩| ⟨h1,h2,h3⟩<;>rcases hbx i' ci' hi' with⟨e1',_⟩| ⟨h1',h2',h3'⟩
  ·rw[e1,e1']
  ·rw[if_pos e1,if_neg h1']at e0
   exact absurd (h.inj j i' cs ci' hj h3' e0).symm h2'
  ·rw[if_neg h1,if_pos e1']at e0
   exact absurd (h.inj i j ci cs h3 hj e0) h2
  ·rw[if_neg h1,if_neg h1']at e0
   exact h.inj i i' ci ci' h3 h3' e0
 ·obtain⟨c,e1,e2,e3,e4,e5⟩:=hm.2 cs hj
  refine⟨⟨_,ae _ _ _⟩,fun ci hc=>?_⟩;rw[AS.bx_same]at hc;cases hc
  simp only[if_true]
  exact⟨c,e1,e2,e3,e4,e5⟩
theorem MG.reslot {S0:Nat->Prop} {w0:ee} {g:Nat->Nat} {a:Act} {w:World} (h:MG n S0 w0 g s a w) {q:Nat} {x:TV} (hx:TV.M (Own S0 g s) g s w x (a.tmps.getD q Go.undef)) (hx1:nA x=true) (hx2:nA (s.tv q)=true):MG n S0 w0 g ⟨(q,x)::s.t,s.b⟩ a w:=by
 refine⟨fun i=>?_,fun i ci hi=>?_,h.inj,h.grow,?_,h.sz,h.cl,h.tg,fun k cs hk=>(h.gl k cs hk).sameB rfl,h.gp,h.nk⟩
 ·by_cases hi:q=i
  ·subst hi
   have e0:(AS.mk ((q,x)::s.t) s.b).tv q=x:=by simp[AS.tv,ae]
   rw[e0];exact hx.sameB rfl
  ·have e0:(AS.mk ((q,x)::s.t) s.b).tv i=s.tv i:=by simp[AS.tv,aj _ _ hi]
   rw[e0];exact(h.tm i).sameB rfl
 ·obtain⟨h1,h2⟩:=h.bm i ci hi
  exact⟨h1,h2.sameB rfl⟩
 ·by_cases hi:q=DK
  ·have e0:(AS.mk ((q,x)::s.t) s.b).tv DK=x:=by rw[<- hi];simp[AS.tv,ae]
   rw[e0];have h0:=h.df;rw[<- hi]at h0;exact(yN.no hx1).2 ((yN.no hx2).1 h0)
  ·have e0:(AS.mk ((q,x)::s.t) s.b).tv DK=s.tv DK:=by simp[AS.tv,aj _ _ hi]
   rw[e0];exact h.df.sameB rfl
theorem aK {q j j' m k e:Nat} {cs:List AV} (hq:s.tv q= .own j m k e) (hj:s.bx j=some cs) (hn:af s.b j'=none) (hw:bC j'=bC j) (hrv:gP j'=false:=by rfl) (hlb:bM j'=false:=by rfl):aL s ⟨(q, .own j' m k e)::s.t,(j',some cs)::(j,none)::s.b⟩:=by
 rintro n S0 w0 a w ⟨g,h⟩;obtain⟨g',h1,h2,_⟩:=h.rename hj hn hw hrv hlb;have hm:=h.tm q;rw[hq]at hm;exact⟨g',h1.reslot (h2 m k e _ hm) rfl (by show nA (s.tv q)=true;rw[hq];rfl)⟩
theorem mG {i off j j' m k e:Nat} {cb cs:List AV} (hlbi:bM i=true) (hi:s.bx i=some cb) (hq:cb[off]? =some (.ow j m k e)) (hj:s.bx j=some cs) (hn:af s.b j'=none) (hw:bC j'=bC j) (hij:Nat.beq i j=false) (hrv:gP j'=false:=by rfl) (hlb:bM j'=false:=by rfl):
 aL s ⟨s.t,(i,some (cb.set off (.ow j' m k e)))::(j',some cs)::(j,none)::s.b⟩:=by
 rintro n S0 w0 a w ⟨g,h⟩;have hij:i≠j:=fun e=>by subst e;simp at hij
 have hij':i≠j':=fun e=>by subst e;obtain⟨x,hx⟩:=AS.kn_of hi;rw[hn]at hx;cases hx
 obtain⟨g',h1,h2,h3⟩:=h.rename hj hn hw hrv hlb;obtain⟨_,arr,e0,k1,k2,k3,k4,_⟩:=h.bm i cb hi;refine⟨g',h1.recell (by rw[AS.bx_ne _ s.t _ _ hij',AS.bx_ne _ s.t _ _ hij];exact hi) fun arr' e1 q1 v hlt hv=>?_⟩;rw[h3 i hij',k1]at q1
 injection q1 with q1
 injection q1 with q1 q1'
 subst q1 q1';exact⟨.ow (k2.2 off _ v hq hv).plain,fun _=>h2 m k e v (k4 hlbi off _ v hq hv)⟩
theorem BW {i off:Nat} {cb:List AV} (hi:s.bx i=some cb) (hq:cb[off]? =some .nl):aL s ⟨s.t,(i,some (cb.set off (.sl 0 [])))::s.b⟩:=by
 rintro n S0 w0 a w ⟨g,h⟩;obtain⟨_,arr,e0,k1,k2,_⟩:=h.bm i cb hi;refine⟨g,h.recell hi fun arr' e1 q1 v hlt hv=>?_⟩;rw[k1]at q1
 injection q1 with q1
 injection q1 with q1 q1'
 subst q1 q1';have:=k2.2 off _ v hq hv;cases this;exact⟨.emp (Nat.le_refl _) (by decide) (fun _=>rfl),fun _=>trivial⟩
theorem iW {i off j m k e:Nat} {cb cs:List AV} (hlbi:bM i=true) (hi:s.bx i=some cb) (hq:cb[off]? =some (.ow j m k e)) (hj:s.bx j=some cs) (hij:Nat.beq i j=false):aL s ⟨s.t,(i,some (cb.set off (.sl m cs)))::(j,none)::s.b⟩:=by
 rintro n S0 w0 a w ⟨g,h⟩;exact⟨g,h.freezeC hlbi hi hq hj (fun e=>by subst e;simp at hij)⟩
end
section
variable {P:Program} {T:TypeId->Option Ty} {n:Nat} {ops:Array Oper} {id:Nat} {draw:Bool} {K:AS->Prop} {s:AS} {k:Nat} {o:Oper} {os:List Oper} {fps:List FP}
theorem B6 {t:TypeId} {ty:Ty} {x:Operand} {i off:Nat} {cs:List AV} {a:AV} (ha:cs[off]? =some a) (h1:gd ops s o=some true) (h2:o.op= .load t x) (h5:T t=some ty) (h6:ty.agg=false) (h7:ty.size=1) (h8:s.ev x= .box i off) (h9:s.bx i=some cs)
 (h3:aB n o.dst=true) (h4:eZ draw ops (au ops o ⟨.d (.leaf a),none⟩ [i]) k fps=true) (h:ak P T n ops id draw K (k+1) os (s.eff o.dst ⟨.d (.leaf a),none⟩) (au ops o ⟨.d (.leaf a),none⟩ [i]::fps)) (hlb:bM i=false:=by rfl):ak P T n ops id draw K k (o::os) s fps:=by
 refine gh h1 ?_ h3 h4 h;obtain⟨hl,hg⟩:=List.getElem?_eq_some_iff.1 ha;have hb:Nat.ble (off+1) cs.length=true:=Nat.ble_eq_true_of_le hl
 have hd:(cs.drop off).take 1=[a]:=by
  rw[List.drop_eq_getElem_cons hl,hg];rfl
 unfold eP
 simp only[h2,h5,h8,h9,h6,h7,hb,hd,hlb]
 rfl
theorem xA {t:TypeId} {ty:Ty} {x y:Operand} {i off:Nat} {cs cs':List AV} {a:AV} (hl:off<cs.length) (hs:ba cs off [a]=cs') (h1:gd ops s o=some true) (h2:o.op= .store t x y) (h0:o.dst=none) (h5:T t=some ty) (h7:ty.size=1) (h8:s.ev x= .box i off) (h9:s.bx i=some cs) (h10:II (s.ev y)=some (.leaf a)) (h11:Sg i [a]=true)
 (h4:eZ draw ops (au ops o ⟨.junk,some [(i,some cs')]⟩ [i]) k fps=true) (h:ak P T n ops id draw K (k+1) os (s.eff o.dst ⟨.junk,some [(i,some cs')]⟩) (au ops o ⟨.junk,some [(i,some cs')]⟩ [i]::fps)) (hlb:bM i=false:=by rfl):ak P T n ops id draw K k (o::os) s fps:=by
 refine gh h1 ?_ (by rw[h0];rfl) h4 h;have hb:Nat.ble (off+1) cs.length=true:=Nat.ble_eq_true_of_le hl;unfold eP
 simp only[h0,h2,h5,h8,h9,h7,hb,h10,DV.cells,h11,hs,hlb,Lh]
 rfl
end
theorem bf {t:TypeId} {x y:Operand} {a b:List UInt8} (h:a=b):lJ .eql t x y (vL a) (vL b)=some (.bool true):=by rw[jF,decide_eq_true h]
theorem bT {t:TypeId} {x y:Operand} {a b:List UInt8} (h:a≠b):lJ .eql t x y (vL a) (vL b)=some (.bool false):=by rw[jF,decide_eq_false h]
theorem jJ {t:TypeId} {x y:Operand} {a b:List UInt8} (h:a≠b):lJ .neq t x y (vL a) (vL b)=some (.bool true):=by rw[qg,decide_eq_false h];rfl
theorem jH {t:TypeId} {x y:Operand} {a b:List UInt8} (h:a=b):lJ .neq t x y (vL a) (vL b)=some (.bool false):=by rw[qg,decide_eq_true h];rfl
section
variable {P:Program} {T:TypeId->Option Ty} {n:Nat} {ops:Array Oper} {id:Nat} {draw:Bool} {K:AS->Prop} {s:AS} {k:Nat} {o:Oper} {os:List Oper} {fps:List FP}
theorem Nn (hT:∀t d,T t=some d->aO P t d) {t:TypeId} {ty:Ty} {x y:Operand} {l:List UInt8} {i:Nat} {ik:IntKind} (hi:i<=l.length) (h1:gd ops s o=some true) (h2:o.op= .slice t x none (some y) none) (h5:T t=some ty) (h6:ty.isStr=true) (h7:s.ev x= .d (.leaf (.val (vL l)))) (h8:s.ev y= .d (.leaf (.val (.int ik (i:Nat)))))
 (h3:aB n o.dst=true) (h4:eZ draw ops (au ops o ⟨.d (dL (l.take i)),none⟩ []) k fps=true) (h:ak P T n ops id draw K (k+1) os (s.eff o.dst ⟨.d (dL (l.take i)),none⟩) (au ops o ⟨.d (dL (l.take i)),none⟩ []::fps)):ak P T n ops id draw K k (o::os) s fps:=by
 refine .run h1 (.gen fun s2 ht _=>?_) h3 h4 h;have hx:=(aq ht (x:=x) (by simp[h2,Op.operands])).trans h7;have hy:=(aq ht (x:=y) (by simp[h2,Op.operands])).trans h8;have hu:=qh (hT _ _ h5) h6;refine ah fun n S0 w0 g a w hM=>⟨vL (l.take i),w,?_,Below.refl _ _,AV.M.val rfl⟩
 unfold execOp;rw[h2]
 have e1:(Instr.sliceAt t (.string (Bs l)) none (some (.int ik i)) none).run P w= .ok (vL (l.take i)) w:=by
  refine Nt ?_;rw[run_slice_string_h w t (Bs l) hu ik i (by omega) (by rw[aw];omega),lQ]
  simp[vL]
 simp only[aY hM hx,aY hM hy,vL,Option.map_some,Option.map_none,Sem.run_bind,e1,Result.andThen_ok]
 rfl
end
def jt (c:UInt8):Bool:=(decide (97<=c.toNat) && decide (c.toNat<=122)) || (decide (65<=c.toNat) && decide (c.toNat<=90))
def fQ (c:UInt8):Bool:=decide (48<=c.toNat) && decide (c.toNat<=57)
def z6 (c:UInt8):Bool:=jt c || fQ c || decide (c.toNat=95)
def dU (p:UInt8->Bool) (s:List UInt8):Nat:=(s.takeWhile p).length
theorem jV (p:UInt8->Bool) (s:List UInt8):dU p s<=s.length:=by
 induction s with
 |nil=>exact Nat.le_refl _
 |cons c r ih=>
  unfold dU at *;rw[List.takeWhile_cons]
  split
  ·simpa using ih
  ·simp
theorem re {p:UInt8->Bool}:∀{s:List UInt8} {i:Nat},(∀(q:Nat) c,q<i->s[q]? =some c->p c=true)->(s[i]? =none/\i<=s.length∨ ∃c,s[i]? =some c/\p c=false)->dU p s=i
 | [],i,_,h=>by
  rcases h with⟨_,h⟩| ⟨c,h,_⟩
  ·simp at h;simp[dU,h]
  ·simp at h
 |a::s,0,_,h=>by
  rcases h with⟨h,_⟩| ⟨c,h,k⟩
  ·simp at h
  ·simp at h;subst h;simp[dU,List.takeWhile,k]
 |a::s,i+1,hq,h=>by
  have h0:=hq 0 a (by omega) rfl;have ih:=re (s:=s) (i:=i) (fun q c h1 h2=>hq (q+1) c (by omega) (by simpa using h2)) (by simpa using h);unfold dU at *
  simp only[List.takeWhile,h0,List.length_cons]
  omega
def dF (f:FuncId):DV:= .leaf (.val (.func (.func f) #[] #[]))
theorem gQ (c:UInt8):aa Tryz.prog 38 [dN .u8 c.toNat] (.one (dB (jt c))):=by
 by_cases h1:97<=c.toNat
 ·by_cases h2:c.toNat<=122
  ·rw[show jt c=true by unfold jt;simp[h1,h2]]
   refine kU func38 ?_;refine S8 ?_;refine xc ?_;exact ar
  ·rw[show jt c=false by unfold jt;rw[decide_eq_false h2,decide_eq_false (show ¬c.toNat<=90 by omega)];simp]
   refine kU func38 ?_;refine S8 ?_;refine kT ?_
   refine kO2 ?_
   refine kE ?_
   refine kO3 ?_
   refine kT ?_;exact L5
 ·by_cases h2:65<=c.toNat
  ·by_cases h3:c.toNat<=90
   ·rw[show jt c=true by unfold jt;simp[h2,h3]]
    refine kU func38 ?_;refine S8 ?_;refine kE ?_
    iterate 6 refine kO ?_
    refine xc ?_;exact ar
   ·rw[show jt c=false by unfold jt;rw[decide_eq_false h1,decide_eq_false h3];simp]
    refine kU func38 ?_;refine S8 ?_;refine kE ?_
    iterate 6 refine kO ?_
    refine kT ?_;exact L5
  ·rw[show jt c=false by unfold jt;rw[decide_eq_false h1,decide_eq_false h2];simp]
   refine kU func38 ?_;refine S8 ?_;refine kE ?_
   iterate 6 refine kO ?_
   refine kE ?_;exact ar
theorem fR (c:UInt8):aa Tryz.prog 83 [dN .u8 c.toNat] (.one (dB (fQ c))):=by
 by_cases h1:48<=c.toNat
 ·by_cases h2:c.toNat<=57
  ·rw[show fQ c=true by unfold fQ;simp[h1,h2]]
   refine kU func83 ?_;refine S8 ?_;refine xc ?_;exact ar
  ·rw[show fQ c=false by unfold fQ;rw[decide_eq_false h2];simp]
   refine kU func83 ?_;refine S8 ?_;refine kT ?_;exact L5
 ·rw[show fQ c=false by unfold fQ;rw[decide_eq_false h1];simp]
  refine kU func83 ?_;refine S8 ?_;refine kE ?_;exact ar
theorem oO (c:UInt8):aa Tryz.prog 40 [dN .u8 c.toNat] (.one (dB (z6 c))):=by
 have c1:=gQ c;have c2:=fR c;unfold z6;cases h1:jt c
 ·rw[h1]at c1
  cases h2:fQ c
  ·rw[h2]at c2
   refine kU func40 ?_;refine dm ?_;refine kC (c2) ?_
   refine kO3 ?_
   by_cases h3:c.toNat=95
   ·refine kT ?_
    rw[decide_eq_true h3];exact ar
   ·refine kE ?_
    rw[decide_eq_false h3];exact ar
  ·rw[h2]at c2
   refine kU func40 ?_;refine dm ?_;refine kC (c2) ?_;exact ar
 ·rw[h1]at c1
  refine kU func40 ?_;exact oJ
theorem km {fid:FuncId} {p:UInt8->Bool} (hp:∀c:UInt8,aa Tryz.prog fid [dN .u8 c.toNat] (.one (dB (p c)))) (s:List UInt8) (hl:s.length<=4611686018427387904):aa Tryz.prog 39 [dL s,dF fid] (.one (dN .i64 (dU p s))):=by
 have hB:=aw s;refine kV func39 ?_
 refine ax Nat (fun i=>i<=s.length/\ ∀(q:Nat) c,q<i->s[q]? =some c->p c=true) (fun i=>⟨[(0, .d (dL s)),(1, .d (dF fid)),(4, .d (dN .i64 0)),(5, .d (dN .i64 i))],[]⟩) (fun i=>s.length-i) 0 ⟨Nat.zero_le _,fun q c h=>absurd h (Nat.not_lt_zero _)⟩
  kw ?_
 rintro i ⟨hi,hq⟩;refine kI ?_
 refine kO3 ?_
 by_cases hlt:i<s.length
 ·have hx:s[i]? =some s[i]:=by simp[hlt]
  have hc:=hp s[i];refine kT ?_
  refine kO4 ?_
  refine jy ac (i:=i) (c:=s[i]) hx rfl rfl rfl rfl rfl rfl rfl rfl ?_;cases hb:p s[i]
  ·rw[hb]at hc
   refine kQ (hc) ?_;rw[re hq (.inr ⟨_,hx,hb⟩)];exact dx (T:=TT) rfl rfl
  ·rw[hb]at hc
   refine kQ (hc) ?_
   exact⟨i+1,⟨hlt,fun q c h1 h2=>by
    by_cases e:q=i
    ·subst e;rw[hx]at h2;cases h2;exact hb
    ·exact hq q c (by omega) h2⟩,by omega,weak ⟨rfl,rfl,rfl,aA (by omega) (by omega),trivial⟩ trivial rfl⟩
 ·refine kE ?_
  refine kW ?_;rw[re hq (.inl ⟨List.getElem?_eq_none (by omega),hi⟩)];exact dx (T:=TT) rfl rfl
def C0 (s:List UInt8):Nat:=if s[dU fQ s]? =some 46/\0<dU fQ (s.drop (dU fQ s+1))then dU fQ s+1+dU fQ (s.drop (dU fQ s+1))else dU fQ s
theorem yM (s:List UInt8) (hl:s.length<=4611686018427387903):aa Tryz.prog 166 [dL s] (.one (dN .i64 (C0 s))):=by
 have hB:=aw s;have c1:=km fR s (by omega);have hn:=jV fQ s;unfold C0;generalize dU fQ s=n at *
 by_cases h1:n<s.length
 ·have hx:s[n]? =some s[n]:=by simp[h1]
  by_cases h2:s[n]=46
  ·have c2:=km fR (s.drop (n+1)) (by rw[List.length_drop];omega)
   have hm:=jV fQ (s.drop (n+1));rw[List.length_drop]at hm;generalize dU fQ (s.drop (n+1))=m at *;have hx2:s[n]? =some 46:=by rw[hx,h2]
   have h2':s[n].toNat=46:=by rw[h2];rfl
   by_cases h3:0<m
   ·rw[if_pos ⟨hx2,h3⟩]
    refine Gl ?_;refine SJ ?_;refine Cc ?_;refine kT ?_;refine kG ?_;refine kO ?_;refine kJ ((n+1:Nat)) ?_;refine kO ?_;refine kJ ((n+1+m:Nat)) ?_;exact ar
   ·rw[if_neg (fun h=>h3 h.2)]
    refine Gl ?_;refine SJ ?_;refine Cc ?_;refine kE ?_;exact ar
  ·have h2':¬s[n].toNat=46:=fun e=>h2 (UInt8.toNat_inj.1 e)
   rw[if_neg (fun h=>by rw[hx]at h;exact h2 (Option.some.inj h.1))];refine Gl ?_;refine SJ ?_;refine jy ac (i:=n) (c:=s[n]) hx rfl rfl rfl rfl rfl rfl rfl rfl ?_;refine kE ?_;exact ar
 ·rw[if_neg (fun h=>by rw[List.getElem?_eq_none (by omega)]at h;cases h.1)]
  refine Gl ?_
  refine kO3 ?_
  refine kE ?_;exact ar
theorem jk (s:List UInt8) (c:UInt8):aa Tryz.prog 168 [dL s,dN .u8 c.toNat] (.one (dN .i64 (Lib.indexByte s c))):=
 ⟨av func168 rfl rfl,fun S w vs hS hv=>by
  match vs,hv with
  | [v,u],⟨h1,h2,_⟩=>
   obtain rfl:=aT h1;obtain rfl:=aT h2;refine(Tryz.strings_IndexByte (Bs s) c.toNat w).mono ?_;rintro e w' ⟨rfl,rfl⟩;have e1:Lib.indexByte (Bs s).data.toList ((c.toNat:Int).toNat.toUInt8)=Lib.indexByte s c:=by simp[Bs]
   rw[e1];exact⟨_,rfl,AV.M.val rfl,Below.refl _ _⟩⟩
def gv:List UInt8->Nat->Nat
 | [],_=>0
 | [c],i=>if c=34 then i+1 else 0
 |c::d::r,i=>if c=34 then i+1 else if c.toNat<32 then 0 else if c=92 then(if Lib.indexByte [34,92,110] d<0 then 0 else gv r (i+2))else gv (d::r) (i+1)
def Kr (s:List UInt8):Nat:=gv (s.drop 1) 1
theorem Ot {r:List UInt8} {i:Nat}:gv (34::r) i=i+1:=by cases r<;>simp[gv]
theorem Fy {c:UInt8} {r:List UInt8} {i:Nat} (h:c≠34) (h':c.toNat<32):gv (c::r) i=0:=by cases r<;>simp[gv,h,h']
theorem EA {c:UInt8} {i:Nat} (h:c≠34):gv [c] i=0:=by simp[gv,h]
theorem F5 {d:UInt8} {r:List UInt8} {i:Nat}:gv (92::d::r) i=if Lib.indexByte [34,92,110] d<0 then 0 else gv r (i+2):=by simp[gv]
theorem Kf {c:UInt8} {r:List UInt8} {i:Nat} (h:c≠34) (h':¬c.toNat<32) (h2:c≠92):gv (c::r) i=gv r (i+1):=by
 cases r with
 |nil=>simp[gv,h]
 |cons d r=>simp[gv,h,h',h2]
theorem lG {c:UInt8} {n:UInt8} (h:¬c=n):¬c.toNat=n.toNat:=fun e=>h (UInt8.toNat_inj.1 e)
theorem yn (s:List UInt8) (hl:s.length<=4611686018427387903):aa Tryz.prog 167 [dL s] (.one (dN .i64 (Kr s))):=by
 have hB:=aw s;refine kV func167 ?_
 refine ax Nat (fun i=>1<=i/\(i<=s.length∨i=1)/\gv (s.drop i) i=Kr s) (fun i=>⟨[(0, .d (dL s)),(2, .d (dN .i64 0)),(3, .d (dN .i64 i))],[]⟩) (fun i=>s.length+1-i) 1 ⟨Nat.le_refl _, .inr rfl,rfl⟩
  kw ?_
 rintro i ⟨h1,h2,h3⟩;refine kI ?_
 refine kO3 ?_
 by_cases hlt:i<s.length
 ·have hx:s[i]? =some s[i]:=by simp[hlt]
  rw[List.drop_eq_getElem_cons hlt]at h3;generalize hc:s[i]=c at *;refine kT ?_;refine kG ?_
  refine kO2 ?_
  refine AP ?_
  by_cases c34:c=34
  ·have e34:c.toNat=34:=by rw[c34];rfl
   rw[c34,Ot]at h3;refine kT ?_;refine kG ?_;refine kO ?_;refine kJ ((i+1:Nat)) ?_;rw[<- h3];exact ar
  ·have e34:¬c.toNat=34:=lG c34
   refine kE ?_;refine kG ?_
   refine kO2 ?_
   refine AP ?_
   by_cases c32:c.toNat<32
   ·rw[Fy c34 c32]at h3
    refine kT ?_;rw[<- h3];exact ar
   ·refine kE ?_
    refine kG ?_
    refine kO2 ?_
    refine AP ?_
    by_cases c92:c=92
    ·have e92:c.toNat=92:=by rw[c92];rfl
     refine kT ?_;refine kG ?_;refine kO ?_;refine kJ ((i+1:Nat)) ?_;refine kG ?_
     refine kO3 ?_
     by_cases hend:i+1=s.length
     ·rw[List.drop_eq_nil_of_le (by omega),EA c34]at h3
      refine kT ?_;rw[<- h3];exact ar
     ·have hlt2:i+1<s.length:=by omega
      have hx2:s[i+1]? =some s[i+1]:=by simp[hlt2]
      rw[List.drop_eq_getElem_cons hlt2,c92,F5]at h3;generalize s[i+1]=d at *;refine kE ?_
      refine kO3 ?_
      refine jy ac (i:=i+1) (c:=d) hx2 rfl rfl rfl rfl rfl rfl rfl rfl ?_;refine kC (jk [34,92,110] d) ?_
      by_cases hd:Lib.indexByte [34,92,110] d<0
      ·rw[if_pos hd]at h3
       refine kB true ?_ ?_
       ·exact decide_eq_true hd
       rw[<- h3];exact ar
      ·rw[if_neg hd]at h3
       refine kB false ?_ ?_
       ·exact decide_eq_false hd
       refine kW ?_;exact⟨i+2,⟨by omega, .inl (by omega),h3⟩,by omega,weak ⟨rfl,rfl,aA (by omega) (by omega),trivial⟩ trivial rfl⟩
    ·have e92:¬c.toNat=92:=lG c92
     rw[Kf c34 c32 c92]at h3;refine kY ?_;exact⟨i+1,⟨by omega, .inl (by omega),h3⟩,by omega,weak ⟨rfl,rfl,aA (by omega) (by omega),trivial⟩ trivial rfl⟩
 ·refine kE ?_
  rw[List.drop_eq_nil_of_le (by omega),gv]at h3;rw[<- h3];exact ar
def nN:List UInt8:=[43,45,42,47,40,41,91,93,123,125,44,58,59,61,46,60,62,64,35]
def Pq (c:UInt8):Bool:=decide (0<=Lib.indexByte nN c)
def oW:List UInt8->Nat × Nat
 | []=>(0,0)
 |c::r=>if jt c then(1,dU z6 (c::r))else if fQ c then(2,C0 (c::r))else if c=34 then(3,Kr (c::r))else if c=10 then(5,1)else if Pq c then(4,1)else(0,0)
theorem C2 (c:UInt8) (r:List UInt8) (hl:(c::r).length<=4611686018427387903):aa Tryz.prog 119 [dL (c::r)] (.tup [dN .i64 (oW (c::r)).1,dN .i64 (oW (c::r)).2]):=by
 have c1:=gQ c;have c2:=fR c;cases h1:jt c
 ·rw[h1]at c1
  cases h2:fQ c
  ·rw[h2]at c2
   by_cases h3:c=34
   ·have e3:c.toNat=34:=by rw[h3];rfl
    rw[show oW (c::r)=(3,Kr (c::r)) by rw[oW,h1,h2];simp[h3]];refine tc ?_;refine kG ?_;refine kO ?_;refine kX ?_;refine kC (yn (c::r) hl) ?_;exact ar
   ·have e3:¬c.toNat=34:=lG h3
    by_cases h4:c=10
    ·have e4:c.toNat=10:=by rw[h4];rfl
     rw[show oW (c::r)=(5,1) by rw[oW,h1,h2];simp[h3,h4]];refine tc ?_;refine kG ?_;refine kO ?_;refine MD ?_;refine kT ?_;exact ar
    ·have e4:¬c.toNat=10:=lG h4
     by_cases h5:0<=Lib.indexByte nN c
     ·rw[show oW (c::r)=(4,1) by simp[oW,h1,h2,h3,h4,Pq,h5]]
      refine tc ?_;refine kG ?_;refine kO ?_;refine MD ?_;refine kY ?_;refine kC (jk nN c) ?_;refine kB true ?_ ?_
      ·exact decide_eq_true h5
      exact ar
     ·rw[show oW (c::r)=(0,0) by simp[oW,h1,h2,h3,h4,Pq,h5]]
      refine tc ?_;refine kG ?_;refine kO ?_;refine MD ?_;refine kY ?_;refine kC (jk nN c) ?_;refine kB false ?_ ?_
      ·exact decide_eq_false h5
      exact ar
  ·rw[h2]at c2
   rw[show oW (c::r)=(2,C0 (c::r)) by simp[oW,h1,h2]];refine tc ?_;refine kW ?_;refine kC (yM (c::r) hl) ?_;exact ar
 ·rw[h1]at c1
  rw[show oW (c::r)=(1,dU z6 (c::r)) by simp[oW,h1]];refine kU func119 ?_;refine S8 ?_;refine RF ?_;refine dm ?_;refine am (km oO (c::r) (by omega)) rfl rfl rfl rfl rfl rfl rfl ?_;exact ar
end Go.Proofs.YtnchbpoopnjghaaGreatDoor
