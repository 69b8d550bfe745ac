/- Integers as plain data; the proved contracts of the integer functions as contracts over plain data. -/
import Derived.Test.YtnchbpoopnjghaaGreatDoorRK2
import Derived.Test.YtnchbpoopnjghaaGreatDoorRAm
import Derived.Test.YtnchbpoopnjghaaGreatDoorRDivZero
set_option maxHeartbeats 100000000
set_option linter.all false
namespace Go.Proofs.YtnchbpoopnjghaaGreatDoor
open Go.RowKit
def aW(xs:List Nat):AV:= .sl xs.length (xs.map fun x:Nat=>AV.val (bP x))
def aI(na:Bool)(xs:List Nat):List AV:=[.val (.bool na),aW xs]
def aZ(z:Int):List AV:=aI (decide (z<0)) (digs z.natAbs)
def dI(na:Bool)(xs:List Nat):DV:= .agg (aI na xs)
def dZ(z:Int):DV:= .agg (aZ z)
def dB(b:Bool):DV:= .leaf (.val (.bool b))
def dN(k:IntKind)(n:Int):DV:= .leaf (.val (.int k n))
def aq{a b:Int}(h:a=b)(c: -9223372036854775808<=a/\a<=9223372036854775807):TV.d (.leaf (.val (.int .i64 (IntKind.i64.wrap a))))=TV.d (dN .i64 b):=by subst h;rw[IntWalk.i64_in _ c];rfl
def dS(s:ByteArray):DV:= .leaf (.val (.string s))
section
variable {S:Nat->Prop}{w w':World}
def db.grow(h:db S w)(a:Below w.heap.size w w'):db S w':=⟨h.1.mono a rfl,fun b g=>by obtain⟨c,d⟩:=h.2 b g;exact⟨k_ c a.size,fun off v hv=>d off v (by rw[a.cell (p:=⟨b,off,none⟩) c]at hv;exact hv)⟩,fun k cs hk=>(h.gl k cs hk).agree (.of_below a) (fun _ _ h=>h) (jP.same a rfl)⟩
def mc(h:db S w){A:Option Addr}{n c:Nat}{xs:List Nat}(g:a7 w A n c xs):AV.M S w (aW xs) (.slice A n c):=by
 unfold aW;rw[g.len];rcases g.cells with h0| ⟨b,r,rfl,m⟩
 ·have:xs=[]:=by simpa using h0
  subst this;exact .emp g.cap g.lim g.isnil
 ·cases xs with
  |nil=>exact .emp g.cap g.lim g.isnil
  |cons x xs=>
   have l:=m 0 (bP x) rfl;have q:b<w.heap.size:=World.block_lt_of_cell? w _ l;refine AV.M.sl (fun i=>bP ((x::xs).getD i 0)) g.cap g.lim (fun p=>?_) q (fun i a j=>?_) (fun i a j=>?_)
   ·have:=(h.2 b p).2 _ _ l;cases this
   ·have d:i<(x::xs).length:=by have:=(G_.1 j).1;simpa using this
    exact m i _ (by rw[List.getElem?_map,Q_ d,H_,Q_ d];rfl)
   ·have d:i<(x::xs).length:=by have:=(G_.1 j).1;simpa using this
    have e:a= .val (bP ((x::xs).getD i 0)):=by rw[List.getElem?_map,Q_ d]at j;rw[H_,Q_ d];exact(Option.some.inj j).symm
    rw[e];exact .val rfl
def fB{v:Value}{xs:List Nat}(h:AV.M S w (aW xs) v)(q:Wd xs):∃A n c,v= .slice A n c/\a7 w A n c xs:=by
 unfold aW at h;generalize d:(xs.map fun x:Nat=>AV.val (bP x))=cs at h;cases h with
 |emp g j m=>
  have:xs=[]:=by simpa using d
  subst this;exact⟨_,_,_,rfl,rfl,g,j,q, .nil _ _,m⟩
 |sl f g j m y r t=>
  rename_i b l c;refine⟨_,_,_,rfl,rfl,g,j,q, .inr ⟨b,l,rfl,fun i u a=>?_⟩,fun e=>by cases e⟩;rw[List.getElem?_map]at a;cases hx:xs[i]? with
  |none=>rw[hx]at a;cases a
  |some x=>
   rw[hx]at a;simp only[Option.map_some,X_]at a;have p:cs[i]? =some (AV.val (bP x)):=by rw[<- d];simp[hx]
   have:=t i _ p;rw[r i _ p,<- a,bc this]
def Te(h:db S w){v:Value}{na:Bool}{xs:List Nat}(a:IJ w v na xs):DV.M S w (dI na xs) v:=by obtain⟨A,n,c,rfl,b⟩:=a;exact⟨[.bool na, .slice A n c],rfl,CM.cons (.val rfl) (CM.cons (mc h b) (CM.nil _ _))⟩
def M6{v:Value}{na:Bool}{xs:List Nat}(h:DV.M S w (dI na xs) v)(g:Wd xs):IJ w v na xs:=by
 obtain⟨l,rfl,d,a⟩:=h
 match l,d with
 | [u,j],_=>have h0:=a 0 _ u rfl rfl;have b:=a 1 _ j rfl rfl;obtain rfl:=bc h0;obtain⟨A,n,c,rfl,i⟩:=fB b g;exact⟨A,n,c,rfl,i⟩
def S6(h:db S w){v:Value}{z:Int}(a:wC w v z):DV.M S w (dZ z) v:=Te h a
end
def aD{P:Program}{f:FuncId}{b:Func}(i:P.funcs[f]? =some b)(j:(b.name == "runtime.NumGoroutine")=false)(g:b.body.isSome=true):∀a w,(callFunc f a).run P w= .ok (.enter f a) w:=by
 intro a w;obtain⟨c,h⟩:=Option.isSome_iff_exists.1 g;have d:¬b.name= "runtime.NumGoroutine" :=by simpa using j
 simp[callFunc,Y_,i,d,h]
section
variable {f:FuncId}{P:Program}
end
section
variable {S:Nat->Prop}{w w':World}{e:Ending}
def yy{z:Int}(h:db S w)(b:tu z w e w'):FA S (.one (dZ z)) w e w':=by obtain⟨v,rfl,c,a⟩:=b;exact⟨v,rfl,S6 (h.grow a) c,a⟩
end
def tys:List (Nat × Ty):=
 [
  (3,⟨false,1,8,[.val (.int .i64 0)],[],none,false,false,some .i64⟩),
  (36,⟨true,2,32,[.val (.bool false), .sl 0 []],[(0,1,false),(1,1,false)],none,false,false,none⟩),
  (34,⟨false,1,24,[.sl 0 []],[],some (135,1),false,false,none⟩),
  (135,⟨false,1,4,[.val (.int .u32 0)],[],none,false,false,some .u32⟩),
  (44,⟨false,1,8,[.val (.int .i64 0)],[],none,false,false,some .i64⟩),
  (9,⟨false,1,16,[.val (.string ByteArray.empty)],[],none,false,true,none⟩),
  (5,⟨false,1,1,[.val (.int .u8 0)],[],none,false,false,some .u8⟩),
  (2,⟨false,1,8,[.val (.int .i64 0)],[],none,false,false,some .i64⟩),
  (169,⟨false,1,8,[.val (.int .u64 0)],[],none,false,false,some .u64⟩),
  (137,⟨false,1,24,[.sl 0 []],[],some (5,1),false,false,none⟩),
  (38,⟨true,4,64,[.val (.bool false), .sl 0 [], .val (.bool false), .sl 0 []],[(0,2,true),(2,2,true)],none,false,false,none⟩),
  (47,⟨false,1,24,[.sl 0 []],[],some (38,4),false,false,none⟩),
  (92,⟨true,5,72,[.val (.bool false), .sl 0 [], .val (.bool false), .sl 0 [], .val (.int .i64 0)],[(0,4,true),(4,1,false)],none,false,false,none⟩),
  (130,⟨false,1,24,[.sl 0 []],[],some (92,5),false,false,none⟩),
  (86,⟨false,1,24,[.sl 0 []],[],some (9,1),false,false,none⟩),
  (40,⟨true,7,112,[.val (.int .i64 0), .val (.bool false), .sl 0 [], .val (.bool false), .sl 0 [], .val (.string ByteArray.empty), .sl 0 []],[(0,1,false),(1,4,true),(5,1,false),(6,1,false)],none,false,false,none⟩),
  (28,⟨false,1,24,[.sl 0 []],[],some (40,7),false,false,none⟩),
  (244,⟨true,3,32,[.val (.string ByteArray.empty), .val (.int .i64 0), .val (.int .i64 0)],[(0,1,false),(1,1,false),(2,1,false)],none,false,false,none⟩),
  (243,⟨false,1,24,[.sl 0 []],[],some (244,3),false,false,none⟩),
  (118,⟨true,3,32,[.val (.int .i64 0), .val (.string ByteArray.empty), .val (.int .i64 0)],[(0,1,false),(1,1,false),(2,1,false)],none,false,false,none⟩),
  (110,⟨false,1,24,[.sl 0 []],[],some (118,3),false,false,none⟩),
  (160,⟨true,3,32,[.val (.int .i64 0), .val (.string ByteArray.empty), .val (.int .i64 0)],[(0,1,false),(1,1,false),(2,1,false)],none,false,false,none⟩),
  (154,⟨false,1,24,[.sl 0 []],[],some (160,3),false,false,none⟩),
  (115,⟨true,3,40,[.sl 0 [], .val (.int .i64 0), .val (.int .i64 0)],[(0,1,false),(1,1,false),(2,1,false)],none,false,false,none⟩),
  (159,⟨true,4,48,[.sl 0 [], .val (.int .i64 0), .val (.int .i64 0), .val (.int .i64 0)],[(0,1,false),(1,1,false),(2,1,false),(3,1,false)],none,false,false,none⟩),
  (42,⟨true,8,128,[.val (.string ByteArray.empty), .val (.int .i64 0), .val (.bool false), .sl 0 [], .val (.bool false), .sl 0 [], .val (.string ByteArray.empty), .sl 0 []],[(0,1,false),(1,7,true)],none,false,false,none⟩),
  (33,⟨false,1,24,[.sl 0 []],[],some (42,8),false,false,none⟩),
  (27,⟨false,1,24,[.sl 0 []],[],some (3,1),false,false,none⟩),
  (30,⟨true,5,88,[.val (.int .i64 0), .sl 0 [], .sl 0 [], .sl 0 [], .val (.int .i64 0)],[(0,1,false),(1,1,false),(2,1,false),(3,1,false),(4,1,false)],none,false,false,none⟩),
  (60,⟨true,7,40,[.val (.int .i64 0), .val (.int .i64 0), .val (.int .i64 0), .val (.int .i64 0), .val (.bool false), .val (.bool false), .val (.bool false)],[(0,1,false),(1,1,false),(2,1,false),(3,1,false),(4,1,false),(5,1,false),(6,1,false)],none,false,false,none⟩),
  (72,⟨true,8,56,[.val (.string ByteArray.empty), .val (.int .i64 0), .val (.int .i64 0), .val (.int .i64 0), .val (.int .i64 0), .val (.bool false), .val (.bool false), .val (.bool false)],[(0,1,false),(1,7,true)],none,false,false,none⟩),
  (64,⟨true,7,64,[.val (.string ByteArray.empty), .val (.int .i64 0), .val (.int .i64 0), .val (.int .i64 0), .val (.int .i64 0), .val (.int .i64 0), .val (.bool false)],[(0,1,false),(1,1,false),(2,1,false),(3,1,false),(4,1,false),(5,1,false),(6,1,false)],none,false,false,none⟩),
  (74,⟨false,1,24,[.sl 0 []],[],some (64,7),false,false,none⟩),
  (21,⟨false,1,4,[.val (.int .i32 0)],[],none,false,false,some .i32⟩),
  (195,⟨false,1,8,[.val (.int .u64 0)],[],none,false,false,some .u64⟩),
  (4,⟨false,1,1,[.val (.bool false)],[],none,true,false,none⟩)]
def TT:TypeId->Option Ty:=ak tys
def Qz:tys.map (fun p=>LK Tryz.prog p.1)=tys.map (fun p=>some p.2):=by kernel_rfl
def ah:∀t d,TT t=some d->bl Tryz.prog t d:=by
 have h:∀(l:List (Nat × Ty)),l.map (fun p=>LK Tryz.prog p.1)=l.map (fun p=>some p.2)-> ∀t d,ak l t=some d->bl Tryz.prog t d:=by
  intro l;induction l with
  |nil=>intro _ t d a;cases a
  |cons p l c=>
   obtain⟨k,x⟩:=p;intro b t d a;simp only[List.map_cons,List.cons.injEq]at b;by_cases e:k=t
   ·subst e;rw[ap]at a;cases a;exact LN b.1
   ·rw[az _ _ e]at a;exact c b.2 t d a
 exact h tys Qz
def dz:Tryz.prog.follows .mixedOrders=true:=by kernel_rfl
def kW{p q:Prop}(h:q)(e:q->p:=by intro h;(repeat(first|refine iw rfl rfl rfl rfl ?_|refine ba rfl rfl rfl ?_|refine .done ?_|refine bH (T:=TT) ?_|refine bz (T:=TT) rfl ?_|refine bR (T:=TT) ?_|refine eG (T:=TT) rfl ?_|refine dX (T:=TT) rfl ?_));exact h):p:=e h
def kG{p q:Prop}(h:q)(e:q->p:=by intro h;(repeat(first|refine iw rfl rfl rfl rfl ?_|refine ba rfl rfl rfl ?_|refine .done ?_|refine bH (T:=TT) ?_|refine bR (T:=TT) ?_|refine eG (T:=TT) rfl ?_|refine dX (T:=TT) rfl ?_));refine bz (T:=TT) rfl ?_;exact h):p:=e h
def kO{p q:Prop}(h:q)(e:q->p:=by intro h;(first|refine iw rfl rfl rfl rfl ?_|refine ba rfl rfl rfl ?_);exact h):p:=e h
def kO2{p q:Prop}(h:q)(e:q->p:=by intro h;(iterate 2 (first|refine iw rfl rfl rfl rfl ?_|refine ba rfl rfl rfl ?_));exact h):p:=e h
def kO3{p q:Prop}(h:q)(e:q->p:=by intro h;(iterate 3 (first|refine iw rfl rfl rfl rfl ?_|refine ba rfl rfl rfl ?_));exact h):p:=e h
def kO4{p q:Prop}(h:q)(e:q->p:=by intro h;(iterate 4 (first|refine iw rfl rfl rfl rfl ?_|refine ba rfl rfl rfl ?_));exact h):p:=e h
def kO5{p q:Prop}(h:q)(e:q->p:=by intro h;(iterate 5 (first|refine iw rfl rfl rfl rfl ?_|refine ba rfl rfl rfl ?_));exact h):p:=e h
def kG2{p q:Prop}(h:q)(e:q->p:=by intro h;((repeat(first|refine iw rfl rfl rfl rfl ?_|refine ba rfl rfl rfl ?_|refine .done ?_|refine bH (T:=TT) ?_|refine bR (T:=TT) ?_|refine eG (T:=TT) rfl ?_|refine dX (T:=TT) rfl ?_));refine bz (T:=TT) rfl ?_);(iterate 2 (first|refine iw rfl rfl rfl rfl ?_|refine ba rfl rfl rfl ?_));exact h):p:=e h
def kG3{p q:Prop}(h:q)(e:q->p:=by intro h;((repeat(first|refine iw rfl rfl rfl rfl ?_|refine ba rfl rfl rfl ?_|refine .done ?_|refine bH (T:=TT) ?_|refine bR (T:=TT) ?_|refine eG (T:=TT) rfl ?_|refine dX (T:=TT) rfl ?_));refine bz (T:=TT) rfl ?_);(iterate 3 (first|refine iw rfl rfl rfl rfl ?_|refine ba rfl rfl rfl ?_));exact h):p:=e h
def kG4{p q:Prop}(h:q)(e:q->p:=by intro h;((repeat(first|refine iw rfl rfl rfl rfl ?_|refine ba rfl rfl rfl ?_|refine .done ?_|refine bH (T:=TT) ?_|refine bR (T:=TT) ?_|refine eG (T:=TT) rfl ?_|refine dX (T:=TT) rfl ?_));refine bz (T:=TT) rfl ?_);(iterate 4 (first|refine iw rfl rfl rfl rfl ?_|refine ba rfl rfl rfl ?_));exact h):p:=e h
section
variable {P:Program}{T:TypeId->Option Ty}{n:Nat}{ops:Array Oper}{id:Nat}{draw:Bool}{K:AS->Prop}{s:AS}{k:Nat}{o:Oper}{os:List Oper}{fps:List FP}
def kB(t:Bool){b:Bool}{a:List Nat}(l:b=t)(h:aw P T n ops id draw K (k+1) os (s.eff o.dst ⟨.d (.leaf (.val (.bool t))),none⟩) (aH ops o ⟨.d (.leaf (.val (.bool t))),none⟩ a::fps))(c:gd ops s o=some true:=by rfl)(g:fA T (id*1000+k) s o=some (⟨.d (.leaf (.val (.bool b))),none⟩,a):=by rfl)(i:aO n o.dst=true:=by rfl)(j:gO draw ops (aH ops o ⟨.d (.leaf (.val (.bool t))),none⟩ a) k fps=true:=by rfl):aw P T n ops id draw K k (o::os) s fps:=bW c g i j (congrArg Value.bool l) h
def kC{f:Operand}{fid:FuncId}{args:Array Operand}{ts:Array TypeId}{ds:List DV}{r:RV}(p:aa P fid ds r)(h:aw P T n ops id draw K (k+1) os (s.eff o.dst ⟨r.tv,none⟩) (aH ops o ⟨r.tv,none⟩ []::fps))(c:gd ops s o=some true:=by rfl)(a:dV [] s.b=true:=by rfl)(g:o.op= .call ⟨.value f,args,ts⟩:=by rfl)(l:s.ev f= .d (.leaf (.val (.func (.func fid) #[] #[]))):=by rfl)(m:HY s args.toList=some ds:=by rfl)(i:aO n o.dst=true:=by rfl)(j:gO draw ops (aH ops o ⟨r.tv,none⟩ []) k fps=true:=by rfl):aw P T n ops id draw K k (o::os) s fps:=ac p c a g l m i j h
end
def kI{p q:Prop}(h:q)(e:q->p:=by intro h;(repeat refine bH (T:=TT) ?_);refine bz (T:=TT) rfl ?_;exact h):p:=e h
def kR{p q:Prop}(h:q)(e:q->p:=by intro h;(repeat refine bH (T:=TT) ?_);refine bz (T:=TT) rfl ?_;(repeat(first|refine iw rfl rfl rfl rfl ?_|refine ba rfl rfl rfl ?_));(try refine .done ?_);exact h):p:=e h
def kN{p q:Prop}(h:q)(e:q->p:=by intro h;(repeat(first|refine iw rfl rfl rfl rfl ?_|refine ba rfl rfl rfl ?_|refine .done ?_));exact h):p:=e h
def kF{p:Prop}(e:p:=by(repeat(first|refine iw rfl rfl rfl rfl ?_|refine ba rfl rfl rfl ?_|refine .done ?_|refine bH (T:=TT) ?_|refine bz (T:=TT) rfl ?_|refine bR (T:=TT) ?_|refine eG (T:=TT) rfl ?_|refine dX (T:=TT) rfl ?_));exact co (T:=TT) rfl rfl):p:=e
def kU{f:FuncId}{a:Func}{c:Code}{ds:List DV}{r:RV}(d:Tryz.prog.funcs[f]? =some a)(h:fT Tryz.prog TT a.ntmps c (fun e s=>match e with| .exit _=>False|_=>∃l,jW TT s a.results.toList=some l/\x3 l=r) ⟨q9 0 ds,[]⟩)(b:a.body=some c:=by rfl)(g:(a.name == "runtime.NumGoroutine")=false:=by rfl)(hsz:(Nat.ble ds.length a.ntmps && Nat.ble a.ntmps DK)=true:=by rfl):aa Tryz.prog f ds r:=vE ah dz d b g hsz h
def kV{q:Prop}{f:FuncId}{a:Func}{c:Code}{ds:List DV}{r:RV}(d:Tryz.prog.funcs[f]? =some a)(h:q)(b:a.body=some c:=by rfl)(g:(a.name == "runtime.NumGoroutine")=false:=by rfl)(hsz:(Nat.ble ds.length a.ntmps && Nat.ble a.ntmps DK)=true:=by rfl)(e:q->fT Tryz.prog TT a.ntmps c (fun e s=>match e with| .exit _=>False|_=>∃l,jW TT s a.results.toList=some l/\x3 l=r) ⟨q9 0 ds,[]⟩:=by intro h;(repeat(first|refine iw rfl rfl rfl rfl ?_|refine ba rfl rfl rfl ?_|refine .done ?_|refine bH (T:=TT) ?_|refine bz (T:=TT) rfl ?_|refine bR (T:=TT) ?_|refine eG (T:=TT) rfl ?_|refine dX (T:=TT) rfl ?_));exact h):aa Tryz.prog f ds r:=vE ah dz d b g hsz (e h)
section
variable {P:Program}{T:TypeId->Option Ty}{n:Nat}{ops:Array Oper}{id:Nat}{draw:Bool}{K:AS->Prop}{s:AS}{k:Nat}{o:Oper}{os:List Oper}{fps:List FP}
def kT{b:Bool}{a:List Nat}(h:aw P T n ops id draw K (k+1) os (s.eff o.dst ⟨.d (.leaf (.val (.bool true))),none⟩) (aH ops o ⟨.d (.leaf (.val (.bool true))),none⟩ a::fps))(c:gd ops s o=some true:=by rfl)(g:fA T (id*1000+k) s o=some (⟨.d (.leaf (.val (.bool b))),none⟩,a):=by rfl)(i:aO n o.dst=true:=by rfl)(j:gO draw ops (aH ops o ⟨.d (.leaf (.val (.bool true))),none⟩ a) k fps=true:=by rfl)(l:b=true:=by exact T_ O_):aw P T n ops id draw K k (o::os) s fps:=kB true l h c g i j
def kE{b:Bool}{a:List Nat}(h:aw P T n ops id draw K (k+1) os (s.eff o.dst ⟨.d (.leaf (.val (.bool false))),none⟩) (aH ops o ⟨.d (.leaf (.val (.bool false))),none⟩ a::fps))(c:gd ops s o=some true:=by rfl)(g:fA T (id*1000+k) s o=some (⟨.d (.leaf (.val (.bool b))),none⟩,a):=by rfl)(i:aO n o.dst=true:=by rfl)(j:gO draw ops (aH ops o ⟨.d (.leaf (.val (.bool false))),none⟩ a) k fps=true:=by rfl)(l:b=false:=by exact F_ O_):aw P T n ops id draw K k (o::os) s fps:=kB false l h c g i j
def kX{q:Prop}{b:Bool}{a:List Nat}(h:q)(c:gd ops s o=some true:=by rfl)(g:fA T (id*1000+k) s o=some (⟨.d (.leaf (.val (.bool b))),none⟩,a):=by rfl)(i:aO n o.dst=true:=by rfl)(j:gO draw ops (aH ops o ⟨.d (.leaf (.val (.bool true))),none⟩ a) k fps=true:=by rfl)(l:b=true:=by exact T_ O_)(e:q->aw P T n ops id draw K (k+1) os (s.eff o.dst ⟨.d (.leaf (.val (.bool true))),none⟩) (aH ops o ⟨.d (.leaf (.val (.bool true))),none⟩ a::fps):=by intro h;(repeat(first|refine iw rfl rfl rfl rfl ?_|refine ba rfl rfl rfl ?_|refine .done ?_|refine bH (T:=TT) ?_|refine bz (T:=TT) rfl ?_|refine bR (T:=TT) ?_|refine eG (T:=TT) rfl ?_|refine dX (T:=TT) rfl ?_));exact h):aw P T n ops id draw K k (o::os) s fps:=kB true l (e h) c g i j
def kY{q:Prop}{b:Bool}{a:List Nat}(h:q)(c:gd ops s o=some true:=by rfl)(g:fA T (id*1000+k) s o=some (⟨.d (.leaf (.val (.bool b))),none⟩,a):=by rfl)(i:aO n o.dst=true:=by rfl)(j:gO draw ops (aH ops o ⟨.d (.leaf (.val (.bool false))),none⟩ a) k fps=true:=by rfl)(l:b=false:=by exact F_ O_)(e:q->aw P T n ops id draw K (k+1) os (s.eff o.dst ⟨.d (.leaf (.val (.bool false))),none⟩) (aH ops o ⟨.d (.leaf (.val (.bool false))),none⟩ a::fps):=by intro h;(repeat(first|refine iw rfl rfl rfl rfl ?_|refine ba rfl rfl rfl ?_|refine .done ?_|refine bH (T:=TT) ?_|refine bz (T:=TT) rfl ?_|refine bR (T:=TT) ?_|refine eG (T:=TT) rfl ?_|refine dX (T:=TT) rfl ?_));exact h):aw P T n ops id draw K k (o::os) s fps:=kB false l (e h) c g i j
def kJ{i:Int}{a:List Nat}(m:Int)(h:aw P T n ops id draw K (k+1) os (s.eff o.dst ⟨.d (.leaf (.val (.int .i64 m))),none⟩) (aH ops o ⟨.d (.leaf (.val (.int .i64 m))),none⟩ a::fps))(b:gd ops s o=some true:=by rfl)(c:fA T (id*1000+k) s o=some (⟨.d (.leaf (.val (.int .i64 i))),none⟩,a):=by rfl)(g:aO n o.dst=true:=by rfl)(j:gO draw ops (aH ops o ⟨.d (.leaf (.val (.int .i64 m))),none⟩ a) k fps=true:=by rfl)(l:i=m:=by rw[IntWalk.i64_in _ O_];omega):aw P T n ops id draw K k (o::os) s fps:=bW b c g j (congrArg (Value.int .i64) l) h
def kQ{q:Prop}{f:Operand}{fid:FuncId}{args:Array Operand}{ts:Array TypeId}{ds:List DV}{r:RV}(p:aa P fid ds r)(h:q)(c:gd ops s o=some true:=by rfl)(a:dV [] s.b=true:=by rfl)(g:o.op= .call ⟨.value f,args,ts⟩:=by rfl)(l:s.ev f= .d (.leaf (.val (.func (.func fid) #[] #[]))):=by rfl)(m:HY s args.toList=some ds:=by rfl)(i:aO n o.dst=true:=by rfl)(j:gO draw ops (aH ops o ⟨r.tv,none⟩ []) k fps=true:=by rfl)(e:q->aw P T n ops id draw K (k+1) os (s.eff o.dst ⟨r.tv,none⟩) (aH ops o ⟨r.tv,none⟩ []::fps):=by intro h;(repeat(first|refine iw rfl rfl rfl rfl ?_|refine ba rfl rfl rfl ?_|refine .done ?_|refine bH (T:=TT) ?_|refine bz (T:=TT) rfl ?_|refine bR (T:=TT) ?_|refine eG (T:=TT) rfl ?_|refine dX (T:=TT) rfl ?_));exact h):aw P T n ops id draw K k (o::os) s fps:=ac p c a g l m i j (e h)
end
def kw{s s':AS}(d:UC s s'.t:=by(repeat refine⟨rfl,?_⟩);exact trivial)(c:ug s s'.b:=by(repeat refine⟨rfl,?_⟩);exact trivial)(g:Vu s'.b s'.t=true:=by rfl)(a:s'.tv DK=s.tv DK:=by rfl):au s s':=weak d c g a
end Go.Proofs.YtnchbpoopnjghaaGreatDoor
