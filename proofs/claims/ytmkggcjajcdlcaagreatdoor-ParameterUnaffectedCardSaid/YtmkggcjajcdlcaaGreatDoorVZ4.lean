/- Parts of a proof: contracts of the functions that the laws reach. -/
import Derived.Test.YtmkggcjajcdlcaaGreatDoorVAmO
set_option maxHeartbeats 100000000
set_option linter.all false
open Go.Proofs.Tryz
namespace Go.Proofs.YtmkggcjajcdlcaaGreatDoor
open Go.RowKit
theorem bC {j i:Nat} {cs ci:List AV}:(sB [(j,cs)]).bx i=some ci↔i=j/\ci=cs:=by
 rw[cw]
 by_cases e:j=i
 ·subst e
  rw[aw,ah]
  constructor
  ·intro h;cases h;exact⟨rfl,rfl⟩
  ·rintro⟨_,rfl⟩;rfl
 ·rw[aw,aq _ _ e]
  constructor
  ·intro h;cases h
  ·rintro⟨h,_⟩;exact absurd h.symm e
theorem pW {S:Nat->Prop} {g:Nat->Nat} {j:Nat} {cs:List AV}:Own S g (sB [(j,cs)])=fun q=>S q∨g j=q:=by
 funext q
 unfold Own;refine propext ⟨?_,?_⟩
 ·rintro(h| ⟨i,ci,h,e⟩)
  ·exact .inl h
  ·obtain⟨rfl,_⟩:=bC.1 h;exact .inr e
 ·rintro(h|e)
  ·exact .inl h
  ·exact .inr ⟨j,cs,bC.2 ⟨rfl,rfl⟩,e⟩
theorem nU {g:Nat->Nat} {j:Nat} {cs:List AV}:BX g [(j,cs)]=fun q=>g j=q:=by
 funext q
 unfold BX;refine propext ⟨?_,?_⟩
 ·rintro⟨i,ci,h,e⟩
  obtain⟨rfl,_⟩:=bC.1 h;exact e
 ·intro e;exact⟨j,cs,bC.2 ⟨rfl,rfl⟩,e⟩
def sw (a b j:Nat):Nat:=if j=a then b else if j=b then a else j
theorem js (a b j:Nat):sw a b (sw a b j)=j:=by
 unfold sw
 split <;>split <;>(try split)<;>omega
theorem AB {a b i j:Nat} (h:sw a b i=sw a b j):i=j:=by
 have:=congrArg (sw a b) h
 rwa[js,js]at this
def PF (a b:Nat):AV->AV
 | .ow j n k e=> .ow (sw a b j) n k e
 | .bp j o=> .bp (sw a b j) o
 |x=>x
def Ec (a b j:Nat) (cs:List AV):List AV:=match fO j with
 |true=>cs.map (PF a b)
 |false=>cs
def sf (a b:Nat):BL->BL
 | []=>[]
 |(j,cs)::r=>(sw a b j,Ec a b j cs)::sf a b r
def R4 (a b:Nat):CV->CV
 | .val v=> .val v
 | .box j o=> .box (sw a b j) o
def RL (a b:Nat):TV->TV
 | .box j o=> .box (sw a b j) o
 | .own j n k e=> .own (sw a b j) n k e
 | .vw j o n k=> .vw (sw a b j) o n k
 | .vs j o n c k e=> .vs (sw a b j) o n c k e
 | .ot j n k e ds=> .ot (sw a b j) n k e ds
 | .clo fn fs cs=> .clo fn (fs.map (R4 a b)) (cs.map (R4 a b))
 |x=>x
def R8 (a b:Nat):RT->RT
 | .ot j n k e ds=> .ot (sw a b j) n k e ds
 | .own j n k e=> .own (sw a b j) n k e
 | .nil=> .nil
 | .v r=> .v r
theorem jl (a b j:Nat) (cs:List AV):(Ec a b j cs).length=cs.length:=by
 unfold Ec;split <;>simp
theorem Ud (a b:Nat) (r:RT):(R8 a b r).tv=RL a b r.tv:=by
 cases r with
 |own=>rfl
 |ot=>rfl
 |nil=>rfl
 |v r=>cases r<;>rfl
theorem qb {a b:Nat}:∀(l:BL) (j:Nat),ai (aw (sf a b l)) (sw a b j)=(ai (aw l) j).map fun o=>o.map (Ec a b j)
 | [],_=>rfl
 |(i,cs)::r,j=>by
  by_cases e:i=j
  ·subst e
   rw[sf,aw,aw,ah,ah];rfl
  ·rw[sf,aw,aw,aq _ _ e,aq _ _ (fun h=>e (AB h))]
   exact qb r j
theorem Jd {a b:Nat} (l:BL) (j:Nat):ai (aw (sf a b l)) j=(ai (aw l) (sw a b j)).map fun o=>o.map (Ec a b (sw a b j)):=by
 have:=qb (a:=a) (b:=b) l (sw a b j)
 rwa[js]at this
theorem m4 {a b:Nat} {l:BL} {j:Nat} {cs:List AV} (h:(sB l).bx j=some cs):(sB (sf a b l)).bx (sw a b j)=some (Ec a b j cs):=by
 rw[cw]at h ⊢;rw[qb,h];rfl
theorem gF {a b:Nat} {l:BL} {j:Nat} {cs:List AV} (h:(sB (sf a b l)).bx j=some cs):∃c0,(sB l).bx (sw a b j)=some c0/\cs=Ec a b (sw a b j) c0:=by
 rw[cw,Jd]at h;cases hl:ai (aw l) (sw a b j)with
 |none=>rw[hl]at h;cases h
 |some o=>
  rw[hl]at h;cases o with
  |none=>cases h
  |some c0=>
   simp only[Option.map_some,Option.some.injEq]at h
   exact⟨c0,cw.2 hl,h.symm⟩
theorem TU {a b:Nat} {l:BL} {j:Nat}:(sB (sf a b l)).kn (sw a b j)↔(sB l).kn j:=by
 unfold AS.kn sB;dsimp only;rw[qb]
 constructor
 ·rintro⟨x,h⟩
  cases hl:ai (aw l) j with
  |none=>rw[hl]at h;cases h
  |some o=>exact⟨o,rfl⟩
 ·rintro⟨x,h⟩
  rw[h];exact⟨_,rfl⟩
theorem rL {a b:Nat} {S:Nat->Prop} {g:Nat->Nat} {l:BL}:Own S g (sB (sf a b l))=Own S (fun j=>g (sw a b j)) (sB l):=by
 funext q
 refine propext ⟨?_,?_⟩
 ·rintro(h| ⟨j,cs,h,e⟩)
  ·exact .inl h
  ·obtain⟨c0,h0,_⟩:=gF h
   exact .inr ⟨sw a b j,c0,h0,by dsimp only;rw[js];exact e⟩
 ·rintro(h| ⟨j,cs,h,e⟩)
  ·exact .inl h
  ·exact .inr ⟨sw a b j,_,m4 h,e⟩
theorem Dl {a b:Nat} {g:Nat->Nat} {l:BL}:BX g (sf a b l)=BX (fun j=>g (sw a b j)) l:=by
 funext q
 refine propext ⟨?_,?_⟩
 ·rintro⟨j,cs,h,e⟩
  obtain⟨c0,h0,_⟩:=gF h;exact⟨sw a b j,c0,h0,by dsimp only;rw[js];exact e⟩
 ·rintro⟨j,cs,h,e⟩
  exact⟨sw a b j,_,m4 h,e⟩
section
variable {a b:Nat} {S:Nat->Prop} {g:Nat->Nat} {l:BL} {w:World}
theorem Ub {x:CV} {v:Value}:CV.M g (sB (sf a b l)) (R4 a b x) v↔CV.M (fun j=>g (sw a b j)) (sB l) x v:=by
 cases x with
 |val u=>exact Iff.rfl
 |box j o=>
  constructor
  ·rintro⟨h1,h2⟩
   exact⟨TU.1 h1,fun cs hc=>h2 _ (m4 hc)⟩
  ·rintro⟨h1,h2⟩
   refine⟨TU.2 h1,fun cs hc=>?_⟩;obtain⟨c0,h0,_⟩:=gF hc;rw[js]at h0;exact h2 c0 h0
theorem TY:∀{xs:List CV} {vs:List Value},pN g (sB (sf a b l)) (xs.map (R4 a b)) vs↔pN (fun j=>g (sw a b j)) (sB l) xs vs
 | [],[]=>Iff.rfl
 |x::xs,v::vs=>and_congr Ub TY
 | [],_::_=>Iff.rfl
 |_::_,[]=>Iff.rfl
theorem T3 {x:TV} {v:Value}:TV.M S g (sB (sf a b l)) w (RL a b x) v↔TV.M S (fun j=>g (sw a b j)) (sB l) w x v:=by
 cases x with
 |d x=>exact Iff.rfl
 |tup ts=>exact Iff.rfl
 |box j o=>exact Ub (x:= .box j o)
 |rp cs=>exact Iff.rfl
 |own j n k e=>
  exact Gj
 |clo fn fs cs=>
  constructor
  ·rintro⟨us,vs,e,h1,h2⟩;exact⟨us,vs,e,TY.1 h1,TY.1 h2⟩
  ·rintro⟨us,vs,e,h1,h2⟩;exact⟨us,vs,e,TY.2 h1,TY.2 h2⟩
 |mp es=>exact Iff.rfl
 |nil=>exact Iff.rfl
 |und=>exact Iff.rfl
 |junk=>exact Iff.rfl
 |dfr f cs=>exact Iff.rfl
 |vw j o n k=>
  exact Gj
 |vs j o n c k e=>
  constructor
  ·rintro⟨h1,h2⟩
   exact⟨TU.1 h1,fun cs hc=>h2 _ (m4 hc)⟩
  ·rintro⟨h1,h2⟩
   refine⟨TU.2 h1,fun cs hc=>?_⟩;obtain⟨c0,h0,rfl⟩:=gF hc;rw[js]at h0;exact h2 c0 h0
 |ot j n k e ds=>
  constructor
  ·rintro⟨u,us,h0,⟨h1,h2⟩,h3⟩
   refine⟨u,us,h0,⟨TU.1 h1,fun cs hc=>?_⟩,h3⟩;have:=h2 _ (m4 hc)
   rwa[jl]at this
  ·rintro⟨u,us,h0,⟨h1,h2⟩,h3⟩
   refine⟨u,us,h0,⟨TU.2 h1,fun cs hc=>?_⟩,h3⟩;obtain⟨c0,h0,rfl⟩:=gF hc;rw[js]at h0;rw[jl];exact h2 c0 h0
theorem Fy:∀{xs:List TV} {vs:List Value},nP S g (sB (sf a b l)) w (xs.map (RL a b)) vs↔nP S (fun j=>g (sw a b j)) (sB l) w xs vs
 | [],[]=>Iff.rfl
 |x::xs,v::vs=>and_congr T3 Fy
 | [],_::_=>Iff.rfl
 |_::_,[]=>Iff.rfl
theorem M7 {x:AV} {v:Value}:wP S g (sB (sf a b l)) w (PF a b x) v↔wP S (fun j=>g (sw a b j)) (sB l) w x v:=by
 cases x with
 |ow j n k e=>exact T3 (S:=S) (w:=w) (x:= .own j n k e)
 |bp j o=>exact T3 (S:=S) (w:=w) (x:= .box j o)
 |val=>exact Iff.rfl
 |sl=>exact Iff.rfl
 |nl=>exact Iff.rfl
theorem Mc {x:AV} {v:Value}:AV.M S w (PF a b x) v↔AV.M S w x v:=by
 cases x with
 |ow j n k e=>constructor <;>(intro h;cases h;exact .ow (by assumption))
 |bp j o=>constructor <;>(intro h;cases h;exact .bp (by assumption))
 |val=>exact Iff.rfl
 |sl=>exact Iff.rfl
 |nl=>exact Iff.rfl
theorem Cl {j i:Nat} {cs:List AV} {x:AV} (h:(Ec a b j cs)[i]? =some x):∃y,cs[i]? =some y/\ ∀(v:Value),(AV.M S w x v↔AV.M S w y v)/\(fO j=true->x=PF a b y):=by
 unfold Ec at h
 split at h
 ·rw[List.getElem?_map]at h
  cases hc:cs[i]? with
  |none=>rw[hc]at h;cases h
  |some y=>
   rw[hc]at h;cases h;exact⟨y,rfl,fun v=>⟨Mc,fun _=>rfl⟩⟩
 ·rename_i hl
  exact⟨x,h,fun v=>⟨Iff.rfl,fun h=>by rw[hl]at h;cases h⟩⟩
theorem yl {j i:Nat} {cs:List AV} {y:AV} (h:cs[i]? =some y):∃x,(Ec a b j cs)[i]? =some x/\ ∀(v:Value),(AV.M S w x v↔AV.M S w y v)/\(fO j=true->x=PF a b y):=by
 unfold Ec
 split
 ·exact⟨PF a b y,by rw[List.getElem?_map,h];rfl,fun v=>⟨Mc,fun _=>rfl⟩⟩
 ·rename_i hl
  exact⟨y,h,fun v=>⟨Iff.rfl,fun h=>by rw[hl]at h;cases h⟩⟩
theorem MY {j:Nat} {cs:List AV} {vs:List Value}:fH S w (Ec a b j cs) vs↔fH S w cs vs:=by
 unfold fH;rw[jl]
 constructor
 ·rintro⟨h1,h2⟩
  refine⟨h1,fun i y v hy hv=>?_⟩;obtain⟨x,hx,h⟩:=yl (a:=a) (b:=b) (S:=S) (w:=w) (j:=j) hy;exact(h v).1.1 (h2 i x v hx hv)
 ·rintro⟨h1,h2⟩
  refine⟨h1,fun i x v hx hv=>?_⟩;obtain⟨y,hy,h⟩:=Cl (S:=S) (w:=w) hx;exact(h v).1.2 (h2 i y v hy hv)
theorem Da {j B:Nat} {cs:List AV} (hw:bR (sw a b j)=bR j) (hl:fO (sw a b j)=fO j) (ht:iU (sw a b j)=iU j):lV S g (sB (sf a b l)) w (sw a b j) (Ec a b j cs) B↔lV S (fun j=>g (sw a b j)) (sB l) w j cs B:=by
 constructor
 ·rintro⟨arr,e,h1,h2,h3,h4,h5⟩
  refine⟨arr,e,h1,MY.1 h2,by rw[<- hw];exact h3,fun hj i y v hy hv=>?_,by rw[<- ht];exact h5⟩;obtain⟨x,hx,h⟩:=yl (a:=a) (b:=b) (S:=S) (w:=w) (j:=j) hy;have h6:=h4 (by rw[hl];exact hj) i x v hx hv;rw[(h v).2 hj]at h6;exact M7.1 h6
 ·rintro⟨arr,e,h1,h2,h3,h4,h5⟩
  refine⟨arr,e,h1,MY.2 h2,by rw[hw];exact h3,fun hj i x v hx hv=>?_,by rw[ht];exact h5⟩;obtain⟨y,hy,h⟩:=Cl (S:=S) (w:=w) hx;rw[(h v).2 (by rw[<- hl];exact hj)];exact M7.2 (h4 (by rw[<- hl];exact hj) i y v hy hv)
end
def tF (a b:Nat):Bool:=(bR a == bR b) && ((fO a == fO b) && (iU a == iU b))
theorem Dw {a b:Nat} (h:tF a b=true) (j:Nat):bR (sw a b j)=bR j/\fO (sw a b j)=fO j/\iU (sw a b j)=iU j:=by
 simp only[tF,Bool.and_eq_true,beq_iff_eq]at h
 unfold sw
 split
 ·rename_i e;subst e;exact⟨h.1.symm,h.2.1.symm,h.2.2.symm⟩
 ·split
  ·rename_i e;subst e;exact⟨h.1,h.2.1,h.2.2⟩
  ·exact⟨rfl,rfl,rfl⟩
section
variable {P:Program} {f:FuncId} {ts:List TV} {l l':BL} {r:RT} {a b:Nat}
theorem NS (hab:tF a b=true) {S:Nat->Prop} {g:Nat->Nat} {w:World} (h:Fi S g w (sf a b l)):Fi S (fun j=>g (sw a b j)) w l:=by
 refine⟨?_,?_,?_,?_,?_⟩
 ·rw[<- Dl];exact h.tab
 ·rw[<- Dl];exact h.blk
 ·intro k cs hk
  have:=h.gl k cs hk;rw[rL]at this;exact this
 ·intro j cs hj
  have h1:=h.bm _ _ (m4 (a:=a) (b:=b) hj);obtain⟨k1,k2,k3⟩:=Dw hab j;rw[rL]at h1;exact(Da k1 k2 k3).1 h1
 ·intro i j ci cj hi hj e
  exact AB (h.inj _ _ _ _ (m4 (a:=a) (b:=b) hi) (m4 (a:=a) (b:=b) hj) e)
theorem Od (hab:tF a b=true) {S:Nat->Prop} {g:Nat->Nat} {w w':World} {e:Ending} (h:Au S (fun j=>g (sw a b j)) l r l' w e w'):Au S g (sf a b l) (R8 a b r) (sf a b l') w e w':=by
 obtain⟨v,g',he,h1,h2,h3,h4,h5⟩:=h;have hg:(fun j=>(fun i=>g' (sw a b i)) (sw a b j))=g':=by funext j;dsimp only;rw[js]
 refine⟨v,fun i=>g' (sw a b i),he,?_,?_,?_,?_,?_⟩
 ·intro j cs cs' hj hj'
  obtain⟨c0,k1,rfl⟩:=gF hj;obtain⟨c1,k2,rfl⟩:=gF hj';obtain⟨k3,k4⟩:=h1 _ _ _ k1 k2;dsimp only at k3 ⊢;rw[js]at k3;rw[jl,jl];exact⟨k3,k4⟩
 ·intro j cs' hj
  obtain⟨c0,k1,rfl⟩:=gF hj;obtain⟨k2,k3⟩:=h2 _ _ k1;rw[Dl];refine⟨k2,?_⟩;obtain⟨q1,q2,q3⟩:=Dw hab (sw a b j);have:=(Da (a:=a) (b:=b) (S:=Own S g' (sB l')) (g:=fun i=>g' (sw a b i)) (l:=l') (w:=w') (cs:=c0) (B:=g' (sw a b j)) q1 q2 q3).2 (by rw[hg];exact k3);rw[rL,hg];rw[js]at this;exact this
 ·intro i j ci cj hi hj e
  obtain⟨c0,k1,_⟩:=gF hi;obtain⟨c1,k2,_⟩:=gF hj;exact AB (h3 _ _ _ _ k1 k2 e)
 ·rw[Ud,rL,hg,T3,hg]
  exact h4
 ·rw[Dl];exact h5
theorem bw.swap (a b:Nat) (hab:tF a b=true) (h:bw P f ts l r l'):bw P f (ts.map (RL a b)) (sf a b l) (R8 a b r) (sf a b l'):=by
 refine⟨h.enter,fun S g w vs hpre hv=>?_⟩;rw[rL,Fy]at hv;exact(h.calls S _ w vs (NS hab hpre) hv).mono fun e w' hr=>Od hab hr
end
theorem em.no {b b':BL} (h:∀j cs cs',(sB b).bx j=some cs->(sB b').bx j=some cs'->False):em b b':=fun j cs cs' h1 h2=>(h j cs cs' h1 h2).elim
theorem GH {x cs':List AV}:em [(902,x)] [(1003,cs')]:=em.no fun j c c' h1 h2=>by
 exact CY
theorem vg {x cs cs':List AV}:em [(901,cs),(902,x)] [(1003,cs')]:=em.no fun j c c' h1 h2=>by
 exact CY
def oi (q:Nat) (cs:List AV) (i:Nat) (x:List AV):List AV:=cs.take (i*q)++x++cs.drop (i*q)
theorem fK {a b c:List AV} {p:Nat} (h:a.length=p):aB (a++b) p c=a++c++b.drop c.length:=by
 subst h;unfold aB;rw[List.take_left,<- List.drop_drop,List.drop_left]
section
variable {q m i:Nat} {cs x:List AV}
theorem Cc (hi:i=m) (hcs:cs.length=m*q) (hx:x.length=1*q):cs.take (m*q)++x.take (1*q)=oi q cs i x:=by
 subst hi;unfold oi;rw[List.drop_of_length_le (Nat.le_of_eq hcs),List.append_nil,List.take_of_length_le (l:=x) (Nat.le_of_eq hx)]
theorem FU (hi:i<m) (hcs:cs.length=m*q) (hx:x.length=1*q) (Z:List AV):aB ((cs.drop (0*q)).take (i*q)++Z) (i*q) (x.take (1*q))=cs.take (i*q)++x++Z.drop x.length:=by
 rw[Nat.zero_mul,List.drop_zero,List.take_of_length_le (l:=x) (Nat.le_of_eq hx)];refine fK ?_;rw[List.length_take,hcs];exact Nat.min_eq_left (Nat.mul_le_mul_right _ (Nat.le_of_lt hi))
theorem Jh (hi:i<m) (hcs:cs.length=m*q) (hx:x.length=1*q) {Z:List AV} (hZ:Z.length=(m+1-i)*q):aB (cs.take (i*q)++x++Z.drop x.length) ((i+1)*q) ((cs.drop ((0+i)*q)).take ((m-i)*q))=oi q cs i x:=by
 have h1:(m-i)*q=m*q-i*q:=Nat.sub_mul _ _ _;have h2:(i+1)*q=i*q+1*q:=Nat.add_mul _ _ _;have h3:i*q<=m*q:=Nat.mul_le_mul_right _ (Nat.le_of_lt hi);have h4:(m+1-i)*q=(m-i)*q+1*q:=by rw[<- Nat.add_mul];congr 1;omega
 rw[Nat.zero_add,List.take_of_length_le (l:=cs.drop (i*q)) (by rw[List.length_drop];omega),fK (by rw[List.length_append,List.length_take];omega)];rw[List.drop_drop,List.drop_of_length_le (l:=Z) (by rw[List.length_drop];omega),List.append_nil];rfl
theorem GR (hi:i<m) (hcs:cs.length=m*q):aB cs ((0+(i+1))*q) ((cs.drop ((0+i)*q)).take ((m-i)*q))=cs.take ((i+1)*q)++cs.drop (i*q):=by
 have h1:(m-i)*q=m*q-i*q:=Nat.sub_mul _ _ _;have h2:(i+1)*q=i*q+1*q:=Nat.add_mul _ _ _;have h3:i*q<=m*q:=Nat.mul_le_mul_right _ (Nat.le_of_lt hi);rw[Nat.zero_add,Nat.zero_add,List.take_of_length_le (l:=cs.drop (i*q)) (by rw[List.length_drop];omega)];have hd:cs.drop ((i+1)*q+(cs.drop (i*q)).length)=[]:=List.drop_of_length_le (by rw[List.length_drop];omega);unfold aB;rw[hd,List.append_nil]
theorem Ig (hi:i<m) (hcs:cs.length=m*q) (hx:x.length=1*q):aB (cs.take ((i+1)*q)++cs.drop (i*q)) ((0+i)*q) (x.take (1*q))=oi q cs i x:=by
 have h2:(i+1)*q=i*q+1*q:=Nat.add_mul _ _ _;have h3:(i+1)*q<=m*q:=Nat.mul_le_mul_right _ hi;rw[Nat.zero_add,List.take_of_length_le (l:=x) (Nat.le_of_eq hx)];unfold aB oi;rw[List.take_append_of_le_length (by rw[List.length_take];omega),List.take_take,Nat.min_eq_left (by omega),List.drop_append_of_le_length (by rw[List.length_take];omega),hx,<- h2,List.drop_eq_nil_of_le (by rw[List.length_take];omega),List.nil_append]
theorem C1 (hi:i<=m) (hcs:cs.length=m*q) (hx:x.length=1*q):(oi q cs i x).length=(m+1)*q:=by
 have h1:i*q<=m*q:=Nat.mul_le_mul_right _ hi;have h2:(m+1)*q=m*q+1*q:=Nat.add_mul _ _ _;unfold oi;rw[List.length_append,List.length_append,List.length_take,List.length_drop];omega
theorem kH {l:List AV} (h:a8 l=true) (r:Nat):a8 (l.drop r)=true:=jO fun b hb=>mL h b (List.mem_of_mem_drop hb)
end
theorem IM (x:List AV) (hx:x.length=1*1) (hB:a8 x=true):bw Tryz.prog 76 [.nil, .d (dN .i64 0), .own 902 1 1 9] [(902,x)] (.own 1003 1 1 9) [(1003,x)]:=by
 have hcs:([]:List AV).take (0*1)++x.take (1*1)=x:=by rw[List.take_nil,List.nil_append,List.take_of_length_le (Nat.le_of_eq hx)]
 refine bf ac fo func76 rfl rfl rfl rfl rfl (GH) ?_;refine Qm ?_;exact KK
theorem JS {m i:Nat} {cs x:List AV} (hi:i<=m) (hm:0<m) (hl:m<=1000000) (hcs:cs.length=m*1) (hx:x.length=1*1) (hB:a8 cs=true) (hX:a8 x=true):bw Tryz.prog 76 [.own 901 m 1 9, .d (dN .i64 i), .own 902 1 1 9] [(901,cs),(902,x)] (.own 1003 (m+1) 1 9) [(1003,oi 1 cs i x)]:=by
 have hby:∀k,k<=1000001->k*16<=140737488355328:=fun k hk=>by omega
 by_cases e:i=m
 ·have hfin:=Cc e hcs hx
  subst e;refine bf ac fo func76 rfl rfl rfl rfl rfl (vg) ?_;refine Qm ?_;exact NR
 have him:i<m:=by omega
 have g1:=FU him hcs hx;have g2:=fun Z=> @Jh 1 m i cs x him hcs hx Z
 have r1:=GR him hcs;have r2:=Ig him hcs hx;have hlen:=C1 hi hcs hx;have hik:i*1<=m*1:=Nat.mul_le_mul_right _ hi;have hik2:(i+1)*1<=m*1:=Nat.mul_le_mul_right _ him;refine bf ac fo func76 rfl rfl rfl rfl rfl (vg) ?_;refine Nf ?_;refine mJ 0 rfl rfl fun c hc1 hc2=>?_
 refine Nn ?_
 by_cases hc:c=m
 ·refine RB ?_
  refine ka ac (r:=1) (p:=i*1) (Nat.min_eq_left (by omega)) ?_ (g1 _) ?_ rfl rfl rfl rfl rfl (.vw rfl rfl rfl) (.of (.own rfl rfl rfl) (Nat.le_refl 1) (List.take_take ..)) rfl rfl ?_
  ·rw[List.length_append,List.length_take,Nat.zero_mul,List.drop_zero];omega
  ·rw[eU hX];rfl
  refine Mm ?_;refine ka ac (r:=m-i) (p:=(i+1)*1) (by show min _ _=_;omega) ?_ (g2 _ ?_) ?_ rfl rfl rfl rfl rfl (.vw rfl rfl rfl) (.vs rfl rfl (by omega) ?_ rfl) rfl rfl ?_
  ·rw[List.length_append,List.length_append,List.length_take];omega
  ·exact cP _ _
  ·rw[eU (kH hB _)];rfl
  ·exact LL
  exact Sl
 ·refine Cp ?_
  refine Oj ?_;refine rB ac (j1:=902) (j2:=901) (tS:=25) (tR:=4) (by decide) (show 0<m+1-(i+1) by omega) rfl rfl rfl func132 (by kernel_rfl) (by kernel_rfl) (by kernel_rfl) (by kernel_rfl) rfl rfl rfl rfl rfl rfl rfl rfl rfl ?_;refine kG ?_
  refine kO3 ?_
  refine Oj ?_
  refine kO2 ?_
  refine MA ?_;refine ka ac (r:=m-i) (p:=(0+(i+1))*1) (by show min _ _=_;omega) (by rw[Nat.zero_add];omega) r1 ?_ rfl rfl rfl rfl rfl (.vs rfl rfl rfl) (.vs rfl rfl (by omega) ?_ rfl) rfl rfl ?_
  ·rw[eU (kH hB _)];rfl
  ·exact LL
  refine kW ?_;refine MA ?_;refine kO ?_;refine ka ac (r:=1) (p:=(0+i)*1) (Nat.min_eq_left (by omega)) ?_ r2 ?_ rfl rfl rfl rfl rfl (.vs rfl rfl rfl) (.of (.own rfl rfl rfl) (Nat.le_refl 1) (List.take_take ..)) rfl rfl ?_
  ·rw[List.length_append,List.length_take,Nat.zero_add];omega
  ·rw[eU hX];rfl
  refine P9 ?_;refine M0 ?_;exact Sl
theorem IU (x:List AV) (hx:x.length=1*5) (hB:a8 x=true):bw Tryz.prog 77 [.nil, .d (dN .i64 0), .own 902 1 5 50] [(902,x)] (.own 1003 1 5 50) [(1003,x)]:=by
 have hcs:([]:List AV).take (0*5)++x.take (1*5)=x:=by rw[List.take_nil,List.nil_append,List.take_of_length_le (Nat.le_of_eq hx)]
 refine bf ac fo func77 rfl rfl rfl rfl rfl (GH) ?_;refine Qm ?_;exact KK
theorem Lb {m i:Nat} {cs x:List AV} (hi:i<=m) (hm:0<m) (hl:m<=1000000) (hcs:cs.length=m*5) (hx:x.length=1*5) (hB:a8 cs=true) (hX:a8 x=true):bw Tryz.prog 77 [.own 901 m 5 50, .d (dN .i64 i), .own 902 1 5 50] [(901,cs),(902,x)] (.own 1003 (m+1) 5 50) [(1003,oi 5 cs i x)]:=by
 have hby:∀k,k<=1000001->k*72<=140737488355328:=fun k hk=>by omega
 by_cases e:i=m
 ·have hfin:=Cc e hcs hx
  subst e;refine bf ac fo func77 rfl rfl rfl rfl rfl (vg) ?_;refine Qm ?_;exact NR
 have him:i<m:=by omega
 have g1:=FU him hcs hx;have g2:=fun Z=> @Jh 5 m i cs x him hcs hx Z
 have r1:=GR him hcs;have r2:=Ig him hcs hx;have hlen:=C1 hi hcs hx;have hik:i*5<=m*5:=Nat.mul_le_mul_right _ hi;have hik2:(i+1)*5<=m*5:=Nat.mul_le_mul_right _ him;refine bf ac fo func77 rfl rfl rfl rfl rfl (vg) ?_;refine Nf ?_;refine mJ 0 rfl rfl fun c hc1 hc2=>?_
 refine Nn ?_
 by_cases hc:c=m
 ·refine RB ?_
  refine ka ac (r:=1) (p:=i*5) (Nat.min_eq_left (by omega)) ?_ (g1 _) ?_ rfl rfl rfl rfl rfl (.vw rfl rfl rfl) (.of (.own rfl rfl rfl) (Nat.le_refl 1) (List.take_take ..)) rfl rfl ?_
  ·rw[List.length_append,List.length_take,Nat.zero_mul,List.drop_zero];omega
  ·rw[eU hX];rfl
  refine Mm ?_;refine ka ac (r:=m-i) (p:=(i+1)*5) (by show min _ _=_;omega) ?_ (g2 _ ?_) ?_ rfl rfl rfl rfl rfl (.vw rfl rfl rfl) (.vs rfl rfl (by omega) ?_ rfl) rfl rfl ?_
  ·rw[List.length_append,List.length_append,List.length_take];omega
  ·exact cP _ _
  ·rw[eU (kH hB _)];rfl
  ·exact LL
  exact Sl
 ·refine Cp ?_
  refine Oj ?_;refine rB ac (j1:=902) (j2:=901) (tS:=59) (tR:=4) (by decide) (show 0<m+1-(i+1) by omega) rfl rfl rfl func134 (by kernel_rfl) (by kernel_rfl) (by kernel_rfl) (by kernel_rfl) rfl rfl rfl rfl rfl rfl rfl rfl rfl ?_;refine kG ?_
  refine kO3 ?_
  refine Oj ?_
  refine kO2 ?_
  refine MA ?_;refine ka ac (r:=m-i) (p:=(0+(i+1))*5) (by show min _ _=_;omega) (by rw[Nat.zero_add];omega) r1 ?_ rfl rfl rfl rfl rfl (.vs rfl rfl rfl) (.vs rfl rfl (by omega) ?_ rfl) rfl rfl ?_
  ·rw[eU (kH hB _)];rfl
  ·exact LL
  refine kW ?_;refine MA ?_;refine kO ?_;refine ka ac (r:=1) (p:=(0+i)*5) (Nat.min_eq_left (by omega)) ?_ r2 ?_ rfl rfl rfl rfl rfl (.vs rfl rfl rfl) (.of (.own rfl rfl rfl) (Nat.le_refl 1) (List.take_take ..)) rfl rfl ?_
  ·rw[List.length_append,List.length_take,Nat.zero_add];omega
  ·rw[eU hX];rfl
  refine P9 ?_;refine M0 ?_;exact Sl
def dg (k:Nat):UInt8:=UInt8.ofNat (48+k)
theorem nI {k:Nat} (h:k<10):(dg k).toNat=48+k:=by unfold dg;rw[UInt8.toNat_ofNat'];omega
def mc (n:Nat):List UInt8:=if _h:n=0 then []else mc (n/10)++[dg (n%10)]
termination_by n
decreasing_by omega
theorem ef:mc 0=[]:=by rw[mc];simp
theorem ek {n:Nat} (h:n≠0):mc n=mc (n/10)++[dg (n%10)]:=by rw[mc];simp[h]
def fmt (z:Int):List UInt8:=if z=0 then [48]else(if z<0 then [45]else [])++mc z.natAbs
def dv (c:UInt8):Nat:=c.toNat-48
def fV (c:UInt8):Prop:=48<=c.toNat/\c.toNat<=57
instance (c:UInt8):Decidable (fV c):=inferInstanceAs (Decidable (_/\_))
def num (l:List UInt8):Nat:=l.foldl (fun a c=>10*a+dv c) 0
theorem iT (l:List UInt8) (c:UInt8):num (l++[c])=10*num l+dv c:=by simp[num]
theorem QM {c:UInt8} (h:fV c):dg (dv c)=c:=by
 unfold dg dv
 apply UInt8.toNat_inj.1
 rw[UInt8.toNat_ofNat'];unfold fV at h;omega
theorem F2 {c:UInt8} (h:fV c):dv c<10:=by unfold dv;unfold fV at h;omega
theorem mV {n:Nat} (h:n≠0):∃c r,mc n=c::r/\c≠48:=by
 induction n using Nat.strongRecOn with
 |_ n ih=>
  rw[ek h]
  by_cases h1:n/10=0
  ·rw[h1,ef]
   refine⟨dg (n%10),[],rfl,fun e=>?_⟩;have h2:=nI (show n%10<10 by omega);rw[e]at h2;have:(48:UInt8).toNat=48:=rfl;omega
  ·obtain⟨c,r,e,hc⟩:=ih (n/10) (by omega) h1
   exact⟨c,r++[dg (n%10)],by rw[e];rfl,hc⟩
theorem Cx {l:List UInt8} (hd:∀c∈l,fV c) {c:UInt8} {r:List UInt8} (h:l=c::r) (hc:c≠48):0<num l:=by
 have h1:∀(r:List UInt8) (a:Nat),0<a->0<r.foldl (fun a c=>10*a+dv c) a:=by
  intro r
  induction r with
  |nil=>intro a h;exact h
  |cons x r ih=>intro a h;exact ih _ (by dsimp only;omega)
 subst h;have h2:=hd c (by simp);refine h1 r _ ?_;dsimp only;have h3:c.toNat≠48:=fun e=>hc (UInt8.toNat_inj.1 e)
 unfold dv;unfold fV at h2;omega
theorem KA:∀(n:Nat) (l:List UInt8),l.length=n->(∀c∈l,fV c)->(∀c r,l=c::r->c≠48)->mc (num l)=l:=by
 intro n
 induction n with
 |zero=>intro l hl _ _;rw[List.eq_nil_of_length_eq_zero hl];exact ef
 |succ n ih=>
  intro l hl hd hh
  obtain⟨l',c,rfl⟩:∃l' c,l=l'++[c]:=by
   exact Mt
  have hc:=hd c (by simp);have hc10:=F2 hc;have hl':l'.length=n:=by simpa using hl
  rw[iT]
  have hn0:10*num l'+dv c≠0:=by
   cases l' with
   |nil=>
    have h1:=hh c [] rfl;have h3:c.toNat≠48:=fun e=>h1 (UInt8.toNat_inj.1 e)
    unfold dv;unfold fV at hc;omega
   |cons x r=>
    have:=Cx (l:=x::r) (fun c hc=>hd c (by simp at hc ⊢;rcases hc with h|h<;>simp[h])) rfl (hh x (r++[c]) rfl);omega
  rw[ek hn0,show(10*num l'+dv c)/10=num l' by omega,show(10*num l'+dv c)%10=dv c by omega,QM hc]
  congr 1
  refine ih l' hl' (fun c hc=>hd c (by simp[hc])) (fun x r e=>?_);subst e;exact hh x (r++[c]) rfl
theorem vK:∀(k n:Nat),n<10^k->(mc n).length<=k
 |0,n,h=>by simp at h;subst h;rw[ef];simp
 |k+1,n,h=>by
  by_cases h0:n=0
  ·subst h0;rw[ef];simp
  ·rw[ek h0,List.length_append]
   have:=vK k (n/10) (by rw[Nat.pow_succ]at h;omega)
   simp;omega
def zy (neg:Bool) (ds:List UInt8):Prop:=ds≠[]/\(∀c∈ds,fV c)/\((∀c r,ds=c::r->c≠48)∨(ds.length=1/\neg=false))
def lU (neg:Bool) (n:Nat):Int:=if neg then -(n:Int)else n
def sg (neg:Bool) (ds:List UInt8):List UInt8:=if neg then 45::ds else ds
theorem Oa {neg:Bool} {ds:List UInt8} (h:zy neg ds):fmt (lU neg (num ds))=sg neg ds:=by
 obtain⟨h1,h2,h3⟩:=h
 by_cases hh:∀c r,ds=c::r->c≠48
 ·obtain⟨c,r,e⟩:∃c r,ds=c::r:=by cases ds with|nil=>exact absurd rfl h1|cons c r=>exact⟨c,r,rfl⟩
  have hp:=Cx h2 e (hh c r e);have hdn:=KA _ ds rfl h2 hh;unfold fmt lU sg;cases neg
  ·simp only[Bool.false_eq_true,if_false]
   rw[if_neg (by omega),if_neg (by omega),Int.natAbs_natCast,hdn];rfl
  ·simp only[if_true]
   rw[if_neg (by omega),if_pos (by omega),Int.natAbs_neg,Int.natAbs_natCast,hdn];rfl
 ·rcases h3 with h3| ⟨h3,h4⟩
  ·exact absurd h3 hh
  ·subst h4
   match ds,h3 with
   | [c],_=>
    have hc:c=48:=by
     apply Classical.byContradiction
     intro hne;exact hh fun x r e=>by cases e;exact hne
    subst hc;rfl
theorem Fb {neg:Bool} {ds:List UInt8} (hd:∀c∈ds,fV c) (h:fmt (lU neg (num ds))=sg neg ds):zy neg ds:=by
 have h45:neg=false-> ∀l:List UInt8,ds≠45::l:=fun _ l e=>by
  have:=hd 45 (by rw[e];simp);unfold fV at this;have h2:(45:UInt8).toNat=45:=rfl;omega
 by_cases hz:num ds=0
 ·have h0:lU neg (num ds)=0:=by unfold lU;rw[hz];cases neg<;>simp
  rw[h0]at h;have h1:[48]=sg neg ds:=h;unfold sg at h1;cases neg
  ·simp only[Bool.false_eq_true,if_false]at h1
   rw[<- h1]at hd ⊢;exact⟨by simp,hd, .inr ⟨rfl,rfl⟩⟩
  ·simp only[if_true,List.cons.injEq]at h1
   exact absurd h1.1 (by decide)
 ·obtain⟨c,r,e,hc⟩:=mV hz
  have key:ds=mc (num ds):=by
   unfold fmt lU sg at h;cases neg
   ·simp only[Bool.false_eq_true,if_false]at h
    rw[if_neg (by omega),if_neg (by omega),Int.natAbs_natCast]at h;exact h.symm
   ·simp only[if_true]at h
    rw[if_neg (by omega),if_pos (by omega),Int.natAbs_neg,Int.natAbs_natCast]at h
    simpa using h.symm
  refine⟨fun e2=>?_,hd, .inl fun x q e2=>?_⟩
  ·rw[<- key,e2]at e;cases e
  ·rw[<- key,e2]at e;cases e;exact hc
def jA:List UInt8->Bool
 |c::_=>c == 45
 | []=>false
def gb:List UInt8->List UInt8
 |c::r=>if c == 45 then r else c::r
 | []=>[]
theorem Qb (s:List UInt8):sg (jA s) (gb s)=s:=by
 cases s with
 |nil=>rfl
 |cons c r=>
  unfold sg jA gb
  by_cases h:c=45
  ·subst h;rfl
  ·have:(c == 45)=false:=beq_eq_false_iff_ne.2 h
   simp[this]
theorem Kv (s:List UInt8):(gb s).length<=s.length:=by
 cases s with
 |nil=>exact Nat.le_refl _
 |cons c r=>show(if(c == 45)=true then r else c::r).length<=_;split <;>simp
theorem Pk (s:List UInt8):decide ((gb s).length<s.length)=jA s:=by
 cases s with
 |nil=>rfl
 |cons c r=>
  unfold gb jA
  by_cases h:c=45
  ·subst h;simp
  ·have:(c == 45)=false:=beq_eq_false_iff_ne.2 h
   simp[this]
theorem Pj:∀(n:Nat) (l:List UInt8),l.length=n->(∀c∈l,fV c)->num l<10^n:=by
 intro n
 induction n with
 |zero=>intro l hl _;rw[List.eq_nil_of_length_eq_zero hl];decide
 |succ n ih=>
  intro l hl hd
  obtain⟨l',c,rfl⟩:∃l' c,l=l'++[c]:=by
   exact Mt
  have:=ih l' (by simpa using hl) (fun c hc=>hd c (by simp[hc]));have hc:=F2 (hd c (by simp));rw[iT,Nat.pow_succ];omega
theorem CF {l:List UInt8} (hd:∀c∈l,fV c):(digs (num l)).length<=l.length:=by
 refine aV (Nat.lt_of_lt_of_le (Pj _ l rfl hd) ?_);exact Nat.pow_le_pow_left (by decide) _
theorem zK {n k:Nat} (h:(digs n).length<=k) {m:Nat} (hm:m<=10*n+10):(digs m).length<=k+1:=by
 refine aV (Nat.lt_of_le_of_lt hm ?_);have:=cI h;rw[Nat.pow_succ];omega
def Qr (s:List UInt8):Prop:=s.length<=65536/\zy (jA s) (gb s)
open Classical in
noncomputable def pz (s:List UInt8):Int × Int:=if Qr s then(lU (jA s) (num (gb s)),0)else(0,2)
theorem Mh {s:List UInt8} (h:Qr s):pz s=(lU (jA s) (num (gb s)),0):=by unfold pz;rw[if_pos h]
theorem rj {s:List UInt8} (h:¬Qr s):pz s=(0,2):=by unfold pz;rw[if_neg h]
theorem e0:aZ 0=[.val (.bool false), .sl 0 []]:=by
 unfold aZ aI aW;rw[show(0:Int).natAbs=0 from rfl,aG];rfl
def dk:Nat->Nat->List UInt8
 |0,_=>[]
 |k+1,c=>dk k (c/10)++[dg (c%10)]
def dd (c:Nat):List UInt8:=if c=0 then [48]else mc c
theorem E3 (k m c:Nat) (hm:0<m) (hc:c<10^k):mc (m*10^k+c)=mc m++dk k c:=by
 induction k generalizing c with
 |zero=>simp at hc;subst hc;simp[dk]
 |succ k ih=>
  rw[Nat.pow_succ]at hc;have hp:0<10^k:=Nat.pow_pos (by decide)
  have hmp:0<m*10^k:=Nat.mul_pos hm hp
  have e:m*10^(k+1)+c=10*(m*10^k)+c:=by rw[Nat.pow_succ,<- Nat.mul_assoc,Nat.mul_comm]
  rw[e,ek (by omega),show(10*(m*10^k)+c)/10=m*10^k+c/10 by omega,show(10*(m*10^k)+c)%10=c%10 by omega,ih (c/10) (by omega),dk,List.append_assoc]
theorem K0 (k:Nat):dk k 0=List.replicate k 48:=by
 induction k with
 |zero=>rfl
 |succ k ih=>rw[dk,Nat.zero_div,ih,List.replicate_succ'];rfl
theorem su {c:Nat} (h:c<10):dd c=[dg c]:=by
 unfold dd
 by_cases h0:c=0
 ·subst h0;rfl
 ·rw[if_neg h0,ek h0,show c/10=0 by omega,ef,show c%10=c by omega];rfl
theorem G4 {c:Nat} (h:10<=c):dd c=dd (c/10)++[dg (c%10)]:=by
 unfold dd;rw[if_neg (by omega),if_neg (by omega),ek (by omega)]
theorem M6 (k:Nat):∀c,c<10^(k+1)->(dd c).length<=k+1/\dk (k+1) c=List.replicate (k+1-(dd c).length) 48++dd c:=by
 induction k with
 |zero=>
  intro c hc;have:c<10:=by simpa using hc
  rw[su this,dk,dk,show c%10=c by omega];exact⟨Nat.le_refl _,rfl⟩
 |succ k ih=>
  intro c hc
  by_cases h:c<10
  ·rw[su h,dk,show c/10=0 by omega,K0,show c%10=c by omega]
   exact⟨by simp,by simp⟩
  ·rw[Nat.pow_succ]at hc
   obtain⟨h1,h2⟩:=ih (c/10) (by omega);rw[G4 (by omega),dk,h2,List.length_append,List.length_singleton];refine⟨by omega,?_⟩;rw[show k+1+1-((dd (c/10)).length+1)=k+1-(dd (c/10)).length by omega,List.append_assoc]
theorem m6 (u:Nat):Lib.decDigits u=dd u:=by
 induction u using Nat.strongRecOn with
 |_ u ih=>
  by_cases h:u<10
  ·rw[Lib.decDigits,dif_pos h,su h];rfl
  ·rw[Lib.decDigits,dif_neg h,G4 (by omega),ih _ (by omega)];rfl
def sM (c:Nat):List UInt8:=List.replicate (9-(dd c).length) 48++dd c
theorem Aa (m c:Nat) (hm:0<m) (hc:c<1000000000):mc (m*1000000000+c)=mc m++sM c:=by
 have h:=E3 9 m c hm (by simpa using hc);rw[show(10:Nat)^9=1000000000 from rfl]at h;rw[h,(M6 8 c (by simpa using hc)).2];rfl
theorem vf {c:Nat} (hc:c<1000000000):1<=(dd c).length/\(dd c).length<=9:=by
 refine⟨?_,(M6 8 c (by simpa using hc)).1⟩;unfold dd
 by_cases h0:c=0
 ·rw[if_pos h0];exact Nat.le_refl _
 ·rw[if_neg h0,ek h0];simp
def ch (n:Nat):List Nat:=if _h:n=0 then []else n%1000000000::ch (n/1000000000)
termination_by n
decreasing_by omega
theorem ku:ch 0=[]:=by rw[ch];simp
theorem qU {n:Nat} (h:n≠0):ch n=n%1000000000::ch (n/1000000000):=by rw[ch];simp[h]
def PA:List Nat->List UInt8
 | []=>[]
 |c::r=>dd c++r.flatMap sM
theorem GG {l:List Nat} (h:l≠[]) (c:Nat):PA (l++[c])=PA l++sM c:=by
 cases l with
 |nil=>exact absurd rfl h
 |cons a r=>simp[PA,List.flatMap_append]
theorem F0:∀(k n:Nat),n<1000000000^k->(ch n).length<=k
 |0,n,h=>by simp at h;subst h;rw[ku];simp
 |k+1,n,h=>by
  by_cases h0:n=0
  ·subst h0;rw[ku];simp
  ·rw[qU h0]
   have:=F0 k (n/1000000000) (by rw[Nat.pow_succ]at h;omega)
   simp;omega
theorem PJ (n:Nat):∀c∈ch n,c<1000000000:=by
 induction n using Nat.strongRecOn with
 |_ n ih=>
  by_cases h:n=0
  ·subst h;rw[ku];simp
  ·rw[qU h]
   intro c hc;rcases List.mem_cons.1 hc with rfl|hc
   ·omega
   ·exact ih _ (by omega) c hc
theorem mC {xs:List Nat} (hw:Wd xs):(ch (val xs)).length<=2*xs.length:=by
 refine F0 _ _ (Nat.lt_of_lt_of_le (fm hw) ?_);rw[Nat.pow_mul];exact Nat.pow_le_pow_left (by decide) _
theorem M5 {n:Nat} (h:n≠0):ch n≠[]:=by rw[qU h];simp
theorem O4 (n:Nat):PA (ch n).reverse=mc n:=by
 induction n using Nat.strongRecOn with
 |_ n ih=>
  by_cases h:n=0
  ·subst h;rw[ku,ef];rfl
  ·rw[qU h,List.reverse_cons]
   by_cases h1:n/1000000000=0
   ·rw[h1,ku]
    have:n%1000000000=n:=by omega
    rw[this];show dd n++[]=_;rw[List.append_nil];unfold dd;rw[if_neg h]
   ·rw[GG (by simpa using M5 h1),ih _ (by omega),<- Aa _ _ (by omega) (by omega)]
    congr 1
    omega
theorem Pc {k:Nat} (h:k<10):fV (dg k):=by
 unfold fV;rw[nI h];omega
theorem KT (n:Nat):∀c∈mc n,fV c:=by
 induction n using Nat.strongRecOn with
 |_ n ih=>
  by_cases h:n=0
  ·subst h;rw[ef];simp
  ·rw[ek h]
   intro c hc;rcases List.mem_append.1 hc with hc|hc
   ·exact ih _ (by omega) c hc
   ·rw[List.mem_singleton]at hc;rw[hc];exact Pc (by omega)
theorem K4 (n:Nat):num (mc n)=n:=by
 induction n using Nat.strongRecOn with
 |_ n ih=>
  by_cases h:n=0
  ·subst h;rw[ef];rfl
  ·rw[ek h,iT,ih _ (by omega)]
   unfold dv;rw[nI (by omega)];omega
theorem uo {a b:Int} (h1:ew a) (h2:ew b) {g:Nat} (hg:Nat.gcd a.natAbs b.natAbs=g):aa Tryz.prog 205 [dZ a,dZ b] (.one (dZ g)):=by
 have:=xT (na:=decide (a<0)) (nb:=decide (b<0)) (av a.natAbs) (av b.natAbs) h1 h2;rw[ae,ae,hg]at this;exact this
theorem wh {a b q r:Int} (h1:ew a) (h2:ew b) (h0:b≠0) (hq:a.fdiv b=q) (hr:a.fmod b=r):aa Tryz.prog 153 [dZ a,dZ b] (.tup [dZ q,dZ r,dN .i64 0]):=
 yF (av _) (av _) h1 h2 (by rw[aP];exact h0) (by rw[aP,aP];exact hq) (by rw[aP,aP];exact hr)
theorem l0 {a b:Int} (h1:ew a) (h2:ew b) {g:Nat} (hg:Nat.gcd a.natAbs b.natAbs=g):aa Tryz.prog 100 [dZ a,dZ b] (.one (dZ g)):=by
 have:=uA (na:=decide (a<0)) (nb:=decide (b<0)) (av a.natAbs) (av b.natAbs) h1 h2;rw[ae,ae,hg]at this;exact this
theorem sE {a b q r:Int} (h1:ew a) (h2:ew b) (h0:b≠0) (hq:a.fdiv b=q) (hr:a.fmod b=r):aa Tryz.prog 165 [dZ a,dZ b] (.tup [dZ q,dZ r,dN .i64 0]):=
 vy (av _) (av _) h1 h2 (by rw[aP];exact h0) (by rw[aP,aP];exact hq) (by rw[aP,aP];exact hr)
theorem NY {q:Rat} {n:Int} {d:Nat} (hd:0<d) (hc:Nat.gcd n.natAbs d=1) (h:n*q.den=q.num*d):q.num=n/\q.den=d:=by
 have hp:(⟨n,d,by omega,hc⟩:Rat)=q:=by
  have h1:=Rat.num_divInt_den (⟨n,d,by omega,hc⟩:Rat);have h2:=Rat.num_divInt_den q;rw[<- h1,<- h2,Rat.divInt_eq_divInt_iff (by show(d:Int)≠0;omega) (by have:=q.den_nz;omega)];exact h
 exact⟨by rw[<- hp],by rw[<- hp]⟩
def gz (n d:Int):Int:=if d<0 then -((Nat.gcd n.natAbs d.natAbs:Nat):Int)else(Nat.gcd n.natAbs d.natAbs:Nat)
theorem zh {n d:Int} (h:d≠0):gz n d≠0:=by
 have:0<Nat.gcd n.natAbs d.natAbs:=Nat.gcd_pos_of_pos_right _ (by omega)
 unfold gz;split <;>omega
theorem oR {a b c:Int} (h:b≠0) (e:a=b*c):a.fdiv b=c:=by rw[e];exact Int.mul_fdiv_cancel_left _ h
theorem ml {n d:Int} (hd:d≠0):n.fdiv (gz n d)=(Rat.divInt n d).num/\d.fdiv (gz n d)=((Rat.divInt n d).den:Int)/\n=gz n d*(Rat.divInt n d).num/\d=gz n d*((Rat.divInt n d).den:Int):=by
 have hg0:=zh (n:=n) hd;obtain⟨a,ha⟩:((Nat.gcd n.natAbs d.natAbs:Nat):Int)∣n:=Int.ofNat_dvd_left.2 (Nat.gcd_dvd_left _ _);obtain⟨b,hb⟩:((Nat.gcd n.natAbs d.natAbs:Nat):Int)∣d:=Int.ofNat_dvd_left.2 (Nat.gcd_dvd_right _ _);have hp:0<Nat.gcd n.natAbs d.natAbs:=Nat.gcd_pos_of_pos_right _ (by omega)
 obtain⟨G,hG⟩:∃G,Nat.gcd n.natAbs d.natAbs=G:=⟨_,rfl⟩;have hG':=hG;rw[hG]at ha hb hp
 have hab:Nat.gcd a.natAbs b.natAbs=1:=by
  rw[ha,hb,Int.natAbs_mul,Int.natAbs_mul,Int.natAbs_natCast,Nat.gcd_mul_left]at hG;exact Nat.eq_of_mul_eq_mul_left hp (by omega)
 obtain⟨s,hs1,hs2⟩:∃s:Int,gz n d=G*s/\(s=1/\0<b∨s= -1/\b<0):=by
  unfold gz;rw[hG'];have hb0:b≠0:=by rintro rfl;simp at hb;omega
  split
  ·refine⟨-1,by omega, .inr ⟨rfl,?_⟩⟩
   rcases Int.lt_trichotomy b 0 with h|h|h
   ·exact h
   ·omega
   ·have:0<(G:Int)*b:=Int.mul_pos (by omega) h
    omega
  ·refine⟨1,by omega, .inl ⟨rfl,?_⟩⟩
   rcases Int.lt_trichotomy b 0 with h|h|h
   ·have:0<(G:Int)*(-b):=Int.mul_pos (by omega) (by omega)
    rw[Int.mul_neg]at this;omega
   ·omega
   ·exact h
 have hq:(Rat.divInt n d).num=s*a/\(Rat.divInt n d).den=(s*b).toNat:=by
  refine NY ?_ ?_ ?_
  ·rcases hs2 with⟨rfl,h⟩| ⟨rfl,h⟩<;>omega
  ·have e:(s*b).toNat=b.natAbs:=by rcases hs2 with⟨rfl,h⟩| ⟨rfl,h⟩<;>omega
   have e2:(s*a).natAbs=a.natAbs:=by rcases hs2 with⟨rfl,h⟩| ⟨rfl,h⟩<;>omega
   rw[e,e2,hab]
  ·have h1:=Rat.num_divInt_den (Rat.divInt n d)
   have h0:((Rat.divInt n d).den:Int)≠0:=by have:=(Rat.divInt n d).den_nz;omega
   have h2:=(Rat.divInt_eq_divInt_iff h0 hd).1 h1
   have h3:((s*b).toNat:Int)=s*b:=by
    have:0<=s*b:=by rcases hs2 with⟨rfl,h⟩| ⟨rfl,h⟩<;>omega
    omega
   rw[h3];generalize(Rat.divInt n d).num=p at *;generalize((Rat.divInt n d).den:Int)=q at *;rw[ha,hb]at h2
   have h4:(G:Int)*(p*b)=G*(a*q):=by
    rw[<- Int.mul_assoc,Int.mul_comm (G:Int) p,Int.mul_assoc,h2,Int.mul_assoc]
   have h5:=Int.eq_of_mul_eq_mul_left (by omega) h4;rw[Int.mul_assoc,<- h5]
   simp[Int.mul_left_comm,Int.mul_comm]
 have hss:s*s=1:=by rcases hs2 with⟨rfl,_⟩| ⟨rfl,_⟩<;>rfl
 have e1:n=gz n d*(Rat.divInt n d).num:=by
  rw[hs1,hq.1,Int.mul_assoc,<- Int.mul_assoc s s a,hss,Int.one_mul];exact ha
 have e2:d=gz n d*((Rat.divInt n d).den:Int):=by
  have h3:((s*b).toNat:Int)=s*b:=by
   have:0<=s*b:=by rcases hs2 with⟨rfl,h⟩| ⟨rfl,h⟩<;>omega
   omega
  rw[hs1,hq.2,h3,Int.mul_assoc,<- Int.mul_assoc s s b,hss,Int.one_mul];exact hb
 exact⟨oR hg0 e1,oR hg0 e2,e1,e2⟩
theorem cG (q:Rat):0<(q.den:Int):=by have:=q.den_nz;omega
theorem ma (a b:Rat):Rat.divInt (a.num*b.den+b.num*a.den) (a.den*b.den)=a+b:=by
 have h:=Rat.divInt_add_divInt a.num b.num (d₁:=a.den) (d₂:=b.den) (by have:=cG a;omega) (by have:=cG b;omega);rw[Rat.num_divInt_den,Rat.num_divInt_den]at h;exact h.symm
theorem lM (a b:Rat):Rat.divInt (a.num*b.num) (a.den*b.den)=a*b:=by
 have h:=Rat.divInt_mul_divInt a.num b.num (d₁:=a.den) (d₂:=b.den);rw[Rat.num_divInt_den,Rat.num_divInt_den]at h;exact h.symm
theorem me (a b:Rat):Rat.divInt (a.num*b.den) (a.den*b.num)=a/b:=by
 rw[Rat.div_def,Rat.inv_def];have h:=Rat.divInt_mul_divInt a.num b.den (d₁:=a.den) (d₂:=b.num);rw[Rat.num_divInt_den]at h;exact h.symm
theorem ry {q:Rat} {n:Int} (h:q=n):q.num=n/\q.den=1:=by subst h;exact⟨rfl,rfl⟩
theorem kq {q:Rat} (h:q.den=1):q=(q.num:Rat):=Rat.ext rfl h
theorem B9 {a b:Rat} (ha:a.den=1) (hb:b.den=1):(a+b).num=a.num+b.num/\(a+b).den=1:=by
 refine ry ?_;rw[kq ha,kq hb]
 simp
theorem nz {a b:Rat} (ha:a.den=1) (hb:b.den=1):(a*b).num=a.num*b.num/\(a*b).den=1:=by
 refine ry ?_;rw[kq ha,kq hb]
 simp
theorem Ks (a b:Rat):(a*b).num=(a.num/(Nat.gcd a.num.natAbs b.den:Nat))*(b.num/(Nat.gcd b.num.natAbs a.den:Nat))/\(a*b).den=(a.den/Nat.gcd b.num.natAbs a.den)*(b.den/Nat.gcd a.num.natAbs b.den):=by
 show(Rat.mul a b).num=_/\(Rat.mul a b).den=_;rw[Rat.mul.eq_1]
 simp only[Int.divExact_eq_ediv,Nat.divExact_eq_div]
 exact⟨trivial,trivial⟩
def LR (q:Rat):Int:=q.num.sign
def DP (c:UInt8):Bool:=decide (fV c)
theorem nf {c:UInt8}:DP c=true↔fV c:=decide_eq_true_iff
def jx (t:List UInt8):List UInt8:=t.takeWhile DP
def pt (t:List UInt8):List UInt8:=t.dropWhile DP
theorem Jc (t:List UInt8):jx t++pt t=t:=List.takeWhile_append_dropWhile
theorem zr (t:List UInt8):∀c∈jx t,fV c:=fun c hc=>nf.1 (List.all_eq_true.1 (List.all_takeWhile (p:=DP) (l:=t)) c hc)
theorem jT {a b:List UInt8} (h:∀c∈a,fV c):jx (a++b)=a++jx b/\pt (a++b)=pt b:=by
 induction a with
 |nil=>exact⟨rfl,rfl⟩
 |cons x a ih=>
  have hx:=nf.2 (h x (by simp));obtain⟨h1,h2⟩:=ih (fun c hc=>h c (by simp[hc]));unfold jx pt at *;rw[List.cons_append,List.takeWhile_cons_of_pos hx,List.dropWhile_cons_of_pos hx,h1,h2];exact⟨rfl,rfl⟩
theorem kP {c:UInt8} {b:List UInt8} (h:¬fV c):jx (c::b)=[]/\pt (c::b)=c::b:=by
 have hc:¬DP c=true:=fun e=>h (nf.1 e)
 unfold jx pt;exact⟨List.takeWhile_cons_of_neg hc,List.dropWhile_cons_of_neg hc⟩
theorem tK {a:List UInt8} (h:∀c∈a,fV c):jx a=a/\pt a=[]:=by
 have:=jT (b:=[]) h
 simpa[jx,pt]using this
theorem EE {t:List UInt8} {c:UInt8} {b:List UInt8} (h:pt t=c::b):¬fV c:=by
 intro hc;unfold pt at h;have:=List.head?_dropWhile_not (p:=DP) (l:=t);rw[h]at this
 simp[nf.2 hc]at this
theorem xD {a:List UInt8} (h:¬∀c∈a,fV c):∃p c r,a=p++c::r/\(∀x∈p,fV x)/\ ¬fV c:=by
 have e:=Jc a;cases hr:pt a with
 |nil=>
  rw[hr,List.append_nil]at e;exact absurd (fun c hc=>zr a c (by rw[e];exact hc)) h
 |cons c r=>exact⟨jx a,c,r,by rw[<- hr,e],zr a,EE hr⟩
open Classical in
noncomputable def uJ (t:List UInt8):Option Rat:=
 if zy false (jx t)then
  match pt t with
  | []=>some ((num (jx t):Int):Rat)
  |c::b=>
   if c=46 then(if b≠[]/\(∀x∈b,fV x)then some (Rat.divInt ((num (jx t)*10^b.length+num b:Nat):Int) ((10^b.length:Nat):Int))else none)
   else if c=47 then(if zy false b/\num b≠0/\num b≠1/\Nat.gcd (num (jx t)) (num b)=1 then some (Rat.divInt (num (jx t):Int) (num b:Int))else none)
   else none
 else none
theorem Ps:¬fV 47:=by decide
theorem OR:¬fV 46:=by decide
theorem BP {a:List UInt8} (h:zy false a):∀c∈a,fV c:=h.2.1
open Classical in
theorem KP {a b:List UInt8} (h47:47 ∉ a++46::b) (ha:46 ∉ a):uJ (a++46::b)=if zy false a/\b≠[]/\(∀x∈b,fV x)then some (Rat.divInt ((num a*10^b.length+num b:Nat):Int) ((10^b.length:Nat):Int))else none:=by
 by_cases h:∀c∈a,fV c
 ·have h1:=jT (b:=46::b) h
  obtain⟨h2,h3⟩:=kP (b:=b) OR;rw[h2,h3,List.append_nil]at h1;unfold uJ;rw[h1.1,h1.2]
  by_cases ho:zy false a
  ·rw[if_pos ho]
   dsimp only;rw[if_pos rfl]
   by_cases hb:b≠[]/\(∀x∈b,fV x)
   ·rw[if_pos hb,if_pos ⟨ho,hb⟩]
   ·rw[if_neg hb,if_neg (fun h=>hb h.2)]
  ·rw[if_neg ho,if_neg (fun h=>ho h.1)]
 ·rw[if_neg (fun e=>h (BP e.1))]
  obtain⟨p,c,r,rfl,hp,hc⟩:=xD h;have h1:=jT (b:=c::(r++46::b)) hp;obtain⟨h2,h3⟩:=kP (b:=r++46::b) hc;rw[h2,h3,List.append_nil]at h1;unfold uJ;rw[show p++c::r++46::b=p++c::(r++46::b) by simp,h1.1,h1.2]
  split
  ·dsimp only
   rw[if_neg (fun e=>ha (by rw[e];simp)),if_neg (fun e=>h47 (by rw[e];simp))]
  ·rfl
open Classical in
theorem F7 {a:List UInt8} (h47:47 ∉ a) (h46:46 ∉ a):uJ a=if zy false a then some ((num a:Int):Rat)else none:=by
 by_cases h:∀c∈a,fV c
 ·have h1:=tK h
  unfold uJ;rw[h1.1,h1.2]
 ·rw[if_neg (fun e=>h (BP e))]
  obtain⟨p,c,r,rfl,hp,hc⟩:=xD h;have h1:=jT (b:=c::r) hp;obtain⟨h2,h3⟩:=kP (b:=r) hc;rw[h2,h3,List.append_nil]at h1;unfold uJ;rw[h1.1,h1.2]
  split
  ·dsimp only
   rw[if_neg (fun e=>h46 (by rw[e];simp)),if_neg (fun e=>h47 (by rw[e];simp))]
  ·rfl
open Classical in
noncomputable def vH (s:List UInt8):Option Rat:=
 if s.length<=65536 then
  match uJ (gb s)with
  |none=>none
  |some q=>if jA s=true then(if q=0 then none else some (-q))else some q
 else none
def ln (n:Nat):List UInt8:=if n=0 then [48]else mc n
theorem KQ (n:Nat):fmt (n:Int)=ln n:=by
 unfold fmt ln
 by_cases h:n=0
 ·subst h;rfl
 ·rw[if_neg (by omega),if_neg h,if_neg (by omega),Int.natAbs_natCast];rfl
theorem DU (z:Int):fmt z=(if z<0 then [45]else [])++ln z.natAbs:=by
 unfold fmt ln
 by_cases h:z=0
 ·subst h;rfl
 ·rw[if_neg h,if_neg (show ¬z.natAbs=0 by omega)]
theorem ye (n:Nat):∀c∈ln n,fV c:=by
 unfold ln
 split
 ·intro c hc;simp at hc;subst hc;decide
 ·exact KT n
theorem Kc (n:Nat):zy false (ln n):=by
 refine⟨?_,ye n,?_⟩
 ·unfold ln;split
  ·simp
  ·rename_i h;obtain⟨c,r,e,_⟩:=mV h;rw[e];simp
 ·unfold ln;split
  ·exact .inr ⟨rfl,rfl⟩
  ·rename_i h;obtain⟨c,r,e,hc⟩:=mV h
   exact .inl fun x y e2=>by rw[e]at e2;cases e2;exact hc
theorem IR (n:Nat):num (ln n)=n:=by
 unfold ln;split
 ·rename_i h;subst h;rfl
 ·exact K4 n
theorem BJ {b:Bool} {l:List UInt8} (h:∀c r,l=c::r->fV c):gb ((if b=true then [45]else [])++l)=l/\jA ((if b=true then [45]else [])++l)=b:=by
 cases b
 ·simp only[Bool.false_eq_true,if_false,List.nil_append]
  cases l with
  |nil=>exact⟨rfl,rfl⟩
  |cons c r=>
   have h1:=h c r rfl;have:(c == 45)=false:=beq_eq_false_iff_ne.2 (fun e=>by subst e;exact absurd h1 (by decide));exact⟨by show(if(c == 45)=true then r else c::r)=_;rw[this];rfl,this⟩
 ·exact⟨rfl,rfl⟩
theorem DH (k:Nat) (l:List UInt8):num (List.replicate k 48++l)=num l:=by
 induction k with
 |zero=>rfl
 |succ k ih=>rw[List.replicate_succ,List.cons_append];exact ih
def aQ (q:Rat):List AV:=aZ q.num++aZ q.den
def dQ (q:Rat):DV:= .agg (aQ q)
def Cr (na:Bool) (xs:List Nat) (nb:Bool) (ys:List Nat):List AV:=aI na xs++aI nb ys
def Jt (na:Bool) (xs:List Nat) (nb:Bool) (ys:List Nat):DV:= .agg (Cr na xs nb ys)
def ra:List AV:=[.val (.bool false), .sl 0 [], .val (.bool false), .sl 0 []]
def S4:DV:= .agg ra
def Sz (k:Nat) (z:Int):Prop:=z.natAbs<4294967296^k
theorem Sz.fit {k:Nat} {z:Int} (h:Sz k z) (hk:k<=2147483648):ew z:= .of_lt h hk
theorem Sz.mono {j k:Nat} {z:Int} (h:Sz j z) (hk:j<=k):Sz k z:=Nat.lt_of_lt_of_le h (Nat.pow_le_pow_right (by decide) hk)
theorem Sz.of_le {k:Nat} {a b:Int} (h:Sz k b) (hl:a.natAbs<=b.natAbs):Sz k a:=Nat.lt_of_le_of_lt hl h
theorem Sz.mul {j k:Nat} {a b:Int} (h:Sz j a) (h':Sz k b):Sz (j+k) (a*b):=by
 unfold Sz at *;rw[Int.natAbs_mul,Nat.pow_add];exact Nat.mul_lt_mul'' h h'
theorem Sz.add {k:Nat} {a b:Int} (h:Sz k a) (h':Sz k b):Sz (k+1) (a+b):=by
 unfold Sz at *;have:=Int.natAbs_add_le a b;have:0<4294967296^k:=Nat.pow_pos (by decide)
 rw[Nat.pow_succ];omega
theorem Sz.neg {k:Nat} {a:Int} (h:Sz k a):Sz k (-a):=by unfold Sz at *;rw[Int.natAbs_neg];exact h
theorem Sz.sub {k:Nat} {a b:Int} (h:Sz k a) (h':Sz k b):Sz (k+1) (a-b):=by rw[Int.sub_eq_add_neg];exact h.add h'.neg
theorem Sz.small {z:Int} (h:z.natAbs<4294967296):Sz 1 z:=by unfold Sz;simpa using h
theorem Sz.i64 {z:Int} (h1: -9223372036854775808<=z) (h2:z<9223372036854775808):Sz 2 z:=by unfold Sz;omega
theorem Sz.gcd {k:Nat} {n d:Int} (h:Sz k d) (hd:d≠0):Sz k (Nat.gcd n.natAbs d.natAbs:Nat):=by
 refine h.of_le ?_;rw[Int.natAbs_natCast];exact Nat.le_of_dvd (by omega) (Nat.gcd_dvd_right _ _)
theorem Sz.digs {k:Nat} {z:Int} (h:Sz k z):(digs z.natAbs).length<=k:=aV h
theorem Sz.of_digs {k:Nat} {z:Int} (h:(Go.Proofs.YtmkggcjajcdlcaaGreatDoor.digs z.natAbs).length<=k):Sz k z:=cI h
def dy (k:Nat) (q:Rat):Prop:=Sz k q.num/\Sz k q.den
theorem dy.mono {j k:Nat} {q:Rat} (h:dy j q) (hk:j<=k):dy k q:=⟨h.1.mono hk,h.2.mono hk⟩
theorem dy.divInt {k:Nat} {n d:Int} (h:Sz k n) (h':Sz k d) (hd:d≠0):dy k (Rat.divInt n d):=by
 obtain⟨_,_,h1,h2⟩:=ml (n:=n) (d:=d) hd;have hg:0<(gz n d).natAbs:=by have:=zh (n:=n) hd;omega
 refine⟨h.of_le ?_,h'.of_le ?_⟩
 ·conv=>rhs;rw[h1,Int.natAbs_mul]
  exact Nat.le_mul_of_pos_left _ hg
 ·conv=>rhs;rw[h2,Int.natAbs_mul]
  exact Nat.le_mul_of_pos_left _ hg
theorem dy.add {j k:Nat} {a b:Rat} (h:dy j a) (h':dy k b):dy (j+k+1) (a+b):=by
 rw[<- ma];refine .divInt ?_ ((h.2.mul h'.2).mono (by omega)) (by have:=Int.mul_pos (cG a) (cG b);omega);exact Sz.add (h.1.mul h'.2) ((h'.1.mul h.2).mono (by omega))
theorem dy.neg {k:Nat} {a:Rat} (h:dy k a):dy k (-a):=⟨by rw[Rat.neg_num];exact h.1.neg,h.2⟩
theorem dy.sub {j k:Nat} {a b:Rat} (h:dy j a) (h':dy k b):dy (j+k+1) (a-b):=by rw[Rat.sub_eq_add_neg];exact h.add h'.neg
theorem dy.mul {j k:Nat} {a b:Rat} (h:dy j a) (h':dy k b):dy (j+k) (a*b):=by
 rw[<- lM];exact .divInt (h.1.mul h'.1) (h.2.mul h'.2) (by have:=Int.mul_pos (cG a) (cG b);omega)
theorem dy.div {j k:Nat} {a b:Rat} (h:dy j a) (h':dy k b) (hb:b≠0):dy (j+k) (a/b):=by
 rw[<- me];have h0:b.num≠0:=fun e=>hb (Rat.num_eq_zero.1 e)
 refine .divInt (h.1.mul h'.2) (h.2.mul h'.1) ?_;exact Int.mul_ne_zero (by have:=cG a;omega) h0
theorem mw {z:Int}:(!decide (z<0) && decide (digs z.natAbs=[1]))=decide (z=1):=by
 by_cases h:z=1
 ·subst h;rw[show(1:Int).natAbs=1 from rfl,rU (by decide) (by decide)];rfl
 ·rw[decide_eq_false h]
  by_cases hn:z<0
  ·simp[hn]
  ·have:digs z.natAbs≠[1]:=fun e=>by
    have h1:=congrArg val e;rw[ae]at h1
    simp[val]at h1
    omega
   simp[this]
theorem ji {z:Int}:decide (((digs z.natAbs).length:Int)=0)=decide (z=0):=by
 have:=cX (n:=z.natAbs)
 by_cases h:z=0
 ·subst h;rw[decide_eq_true rfl];exact decide_eq_true (by have:=this.2 rfl;omega)
 ·rw[decide_eq_false h];exact decide_eq_false (fun e=>h (by have:=this.1 (by omega);omega))
theorem rJ:aa Tryz.prog 142 [] (.one (dZ 1)):=by
 refine kV func142 ?_;refine ax (fk 1 (by decide) (by decide)) rfl rfl rfl rfl rfl rfl rfl ?_;exact aD
theorem Bp {na:Bool} {xs:List Nat} {b:Bool} (hb:(!na && decide (xs=[1]))=b):aa Tryz.prog 140 [dI na xs] (.one (dB b)):=by
 subst hb;cases na
 ·match xs with
  | []=>
   refine kU func140 ?_;exact aD
  | [x]=>
   refine kV func140 ?_;refine bP (cs':=[AV.val (dh x)]) (i:=0) (Nat.lt_succ_self 0) (fun j a h=>by simpa using h) (Nat.lt_succ_self 0) rfl rfl rfl rfl rfl rfl rfl rfl ?_;refine kW ?_;rw[show(!false && decide ([x]=[1]))=decide ((x:Int)=1) by by_cases h:x=1<;>simp[h]<;>omega];exact de (T:=TT) rfl rfl
  |x::y::r=>
   refine kU func140 ?_;refine kR ?_;refine kI ?_
   iterate 7 refine kO ?_
   refine kB false ?_ ?_
   ·exact decide_eq_false (by simp only[List.length_cons];omega)
   refine kW ?_;rw[show(!false && decide (x::y::r=[1]))=false by simp];exact de (T:=TT) rfl rfl
 ·refine kU func140 ?_
  exact aD
theorem ER {na:Bool} {xs:List Nat} {b:Bool} (hb:(!na && decide (xs=[1]))=b):aa Tryz.prog 99 [dI na xs] (.one (dB b)):=by
 subst hb
 match xs with
 | []=>
  refine kV func99 ?_;rw[show(!na && decide (([]:List Nat)=[1]))=false by simp];exact de (T:=TT) rfl rfl
 | [x]=>
  refine kV func99 ?_;refine bP (cs':=[AV.val (dh x)]) (i:=0) (Nat.lt_succ_self 0) (fun j a h=>by simpa using h) (Nat.lt_succ_self 0) rfl rfl rfl rfl rfl rfl rfl rfl ?_;refine kO ?_
  by_cases h:x=1
  ·refine kT ?_
   refine kW ?_;rw[show(!na && decide ([x]=[1]))=!na by simp[h]];exact de (T:=TT) rfl rfl
  ·refine kE ?_
   refine kW ?_;rw[show(!na && decide ([x]=[1]))=false by simp[h]];exact de (T:=TT) rfl rfl
 |x::y::r=>
  refine kU func99 ?_;refine kR ?_;refine kI ?_
  refine kO3 ?_
  refine kB false ?_ ?_
  ·exact decide_eq_false (by simp only[List.length_cons];omega)
  refine kW ?_;rw[show(!na && decide (x::y::r=[1]))=false by simp];exact de (T:=TT) rfl rfl
theorem cT {z:Int} {b:Bool} (hb:decide (z=1)=b):aa Tryz.prog 140 [dZ z] (.one (dB b)):=Bp (by rw[mw,hb])
theorem fP {z:Int} {b:Bool} (hb:decide (z=1)=b):aa Tryz.prog 99 [dZ z] (.one (dB b)):=ER (by rw[mw,hb])
theorem gv {z:Int} {b:Bool} (hb:decide (z=0)=b):aa Tryz.prog 149 [dZ z] (.one (dB b)):=by
 refine kV func149 ?_;rw[<- hb,<- ji];exact de (T:=TT) rfl rfl
theorem mS {a b c:Int} (h1:ew a) (h2:ew b) (hb:b≠0) (h:a.fdiv b=c):aa Tryz.prog 207 [dZ a,dZ b] (.one (dZ c)):=by
 by_cases h1':b=1
 ·subst h1'
  rw[Int.fdiv_one]at h;subst h;refine kV func207 ?_;refine kC (cT (z:=1) (b:=true) rfl) ?_;exact aD
 ·refine kV func207 ?_;refine kQ (cT (z:=b) (b:=false) (decide_eq_false h1')) ?_;refine kC (wh h1 h2 hb h rfl) ?_;exact aD
theorem fh {a b c:Int} (h1:ew a) (h2:ew b) (hb:b≠0) (h:a.fdiv b=c):aa Tryz.prog 101 [dZ a,dZ b] (.one (dZ c)):=by
 refine kV func101 ?_;refine kC (sE h1 h2 hb h rfl) ?_;exact aD
theorem Iz {n d:Int} {g:Nat} (hg:Nat.gcd n.natAbs d.natAbs=g) (h:¬d<0):gz n d=g:=by unfold gz;rw[if_neg h,hg]
theorem Fo {n d:Int} {g:Nat} (hg:Nat.gcd n.natAbs d.natAbs=g) (h:d<0):gz n d= -(g:Int):=by unfold gz;rw[if_pos h,hg]
theorem ig {k:Nat} {n d:Int} {q:Rat} (h1:Sz k n) (h2:Sz k d) (hk:k<=2147483648) (hd:d≠0) (hq:Rat.divInt n d=q):aa Tryz.prog 144 [dZ n,dZ d] (.one (dQ q)):=by
 subst hq;obtain⟨e1,e2,_,_⟩:=ml (n:=n) hd;have hg0:=zh (n:=n) hd;have hsg:=h2.gcd (n:=n) hd;obtain⟨g,hg⟩:∃g,Nat.gcd n.natAbs d.natAbs=g:=⟨_,rfl⟩;rw[hg]at hsg
 by_cases h:d<0
 ·rw[Fo hg h]at e1 e2 hg0
  refine kV func144 ?_;refine kQ (uo (h1.fit hk) (h2.fit hk) hg) ?_;refine ft (T:=TT) rfl ?_ ?_
  ·exact decide_eq_true h
  refine kW ?_;refine kQ (tD (hsg.fit hk)) ?_;refine kQ (mS (h1.fit hk) (hsg.neg.fit hk) hg0 e1) ?_;refine kC (mS (h2.fit hk) (hsg.neg.fit hk) hg0 e2) ?_;exact aD
 ·rw[Iz hg h]at e1 e2 hg0
  refine kV func144 ?_;refine kQ (uo (h1.fit hk) (h2.fit hk) hg) ?_;refine im (T:=TT) rfl ?_ ?_
  ·exact decide_eq_false h
  refine kW ?_;refine kQ (mS (h1.fit hk) (hsg.fit hk) hg0 e1) ?_;refine kC (mS (h2.fit hk) (hsg.fit hk) hg0 e2) ?_;exact aD
theorem qY {k:Nat} {n d:Int} {q:Rat} (h1:Sz k n) (h2:Sz k d) (hk:k<=2147483648) (hd:d≠0) (hq:Rat.divInt n d=q):aa Tryz.prog 196 [dZ n,dZ d] (.one (dQ q)):=by
 subst hq;obtain⟨e1,e2,_,_⟩:=ml (n:=n) hd;have hg0:=zh (n:=n) hd;have hsg:=h2.gcd (n:=n) hd;obtain⟨g,hg⟩:∃g,Nat.gcd n.natAbs d.natAbs=g:=⟨_,rfl⟩;rw[hg]at hsg
 by_cases h:d<0
 ·rw[Fo hg h]at e1 e2 hg0
  have hs:aa Tryz.prog 103 [dZ d] (.one (dN .i64 (-1))):=by have:=jH d;rwa[Int.sign_eq_neg_one_of_neg h]at this
  refine MM ?_;refine kQ (rH g) ?_;refine kQ (fh (h1.fit hk) (hsg.neg.fit hk) hg0 e1) ?_;refine kC (fh (h2.fit hk) (hsg.neg.fit hk) hg0 e2) ?_;exact aD
 ·rw[Iz hg h]at e1 e2 hg0
  have hs:aa Tryz.prog 103 [dZ d] (.one (dN .i64 1)):=by have:=jH d;rwa[Int.sign_eq_one_of_pos (by omega)]at this
  refine MM ?_;refine kQ (fh (h1.fit hk) (hsg.fit hk) hg0 e1) ?_;refine kC (fh (h2.fit hk) (hsg.fit hk) hg0 e2) ?_;exact aD
theorem Sz.of_val {na:Bool} {xs:List Nat} {n:Int} {k:Nat} (hw:Wd xs) (h:xs.length<=k) (hn:ap na xs=n):Sz k n:=by
 rw[<- hn];unfold Sz;rw[bD];exact Nat.lt_of_lt_of_le (fm hw) (Nat.pow_le_pow_right (by decide) h)
theorem Es {na nb:Bool} {xs ys:List Nat} {n d:Int} {q:Rat} (hw:Wd xs) (hw':Wd ys) (h1:xs.length<=1000) (h2:ys.length<=1000) (hn:ap na xs=n) (hd:ap nb ys=d) (h0:d≠0) (hq:Rat.divInt n d=q):aa Tryz.prog 145 [dI na xs,dI nb ys] (.tup [dQ q,dN .i64 0]):=by
 have s1:Sz 1000 n:=Sz.of_val hw h1 hn;have s2:Sz 1000 d:=Sz.of_val hw' h2 hd;refine My ?_;refine kQ (gv (decide_eq_false h0)) ?_;refine ax (ig s1 s2 (by decide) h0 hq) rfl rfl rfl rfl rfl rfl rfl ?_;exact aD
theorem BH {na nb:Bool} {xs ys:List Nat} {n d:Int} (hw:Wd xs) (hw':Wd ys) (h1:xs.length<=1000) (h2:ys.length<=1000) (hn:ap na xs=n) (hd:ap nb ys=d) (h0:d=0):aa Tryz.prog 145 [dI na xs,dI nb ys] (.tup [S4,dN .i64 6]):=by
 refine My ?_;refine kC (gv (decide_eq_true h0)) ?_;exact aD
theorem BM {n d:Int} {q:Rat} (h1:Sz 1000 n) (h2:Sz 1000 d) (h0:d≠0) (hq:Rat.divInt n d=q):aa Tryz.prog 145 [dZ n,dZ d] (.tup [dQ q,dN .i64 0]):=
 Es (av _) (av _) h1.digs h2.digs (aP n) (aP d) h0 hq
theorem gw (k:Int) (h1: -9223372036854775808<=k) (h2:k<9223372036854775808) {q:Rat} (hq:(k:Rat)=q):aa Tryz.prog 121 [dN .i64 k] (.one (dQ q)):=by
 subst hq;refine kV func121 ?_;refine kQ (fk k h1 h2) ?_;refine kC (rJ) ?_;exact aD
theorem iz (k:Int) (h1: -9223372036854775808<=k) (h2:k<9223372036854775808) {q:Rat} (hq:(k:Rat)=q):aa Tryz.prog 52 [dN .i64 k] (.one (dQ q)):=by
 subst hq;refine kV func52 ?_;refine kQ (eQ k h1 h2) ?_;refine ax (eQ 1 (by decide) (by decide)) rfl rfl rfl rfl rfl rfl rfl ?_;exact aD
theorem uU (n:Int):Rat.divInt n 0=((0:Int):Rat):=by simp
theorem iI (n d:Int) (h1: -9223372036854775808<=n) (h2:n<9223372036854775808) (h3: -9223372036854775808<=d) (h4:d<9223372036854775808) {q:Rat} (hq:Rat.divInt n d=q):aa Tryz.prog 88 [dN .i64 n,dN .i64 d] (.one (dQ q)):=by
 by_cases h0:d=0
 ·refine MX ?_
  refine ax (BH (na:=decide (n<0)) (nb:=decide (d<0)) (av _) (av _) ((Sz.i64 h1 h2).mono (k:=1000) (by decide)).digs ((Sz.i64 h3 h4).mono (k:=1000) (by decide)).digs (aP n) (aP d) h0) rfl rfl rfl rfl rfl rfl rfl ?_;refine kW ?_;refine ax (gw 0 (by decide) (by decide) (q:=q) (by subst h0;rw[<- uU n];exact hq)) rfl rfl rfl rfl rfl rfl rfl ?_;exact aD
 ·refine MX ?_
  refine ax (BM ((Sz.i64 h1 h2).mono (by decide)) ((Sz.i64 h3 h4).mono (by decide)) h0 hq) rfl rfl rfl rfl rfl rfl rfl ?_;exact aD
theorem FG {k:Nat} {a q:Rat} (h:dy k a) (hk:k<=2147483648) (hq: -a=q):aa Tryz.prog 150 [dQ a] (.one (dQ q)):=by
 subst hq;refine kV func150 ?_;refine kC (tD (h.1.fit hk)) ?_;exact aD
theorem uw (a:Rat):aa Tryz.prog 242 [dQ a] (.one (dN .i64 (LR a))):=by
 refine kV func242 ?_;refine kC (Be a.num) ?_;exact aD
theorem qB (a:Rat):aa Tryz.prog 50 [dQ a] (.one (dN .i64 (LR a))):=by
 refine kV func50 ?_;refine kC (jH a.num) ?_;exact aD
theorem CA {q:Rat} {n d:Int} (h1:q.num=n) (h2:(q.den:Int)=d):dQ q= .agg (aZ n++aZ d):=by unfold dQ aQ;rw[h1,h2]
theorem Iu (a:Rat):decide ((a.den:Int)=1)=decide (a.den=1):=by by_cases h:a.den=1<;>simp[h]<;>omega
theorem tz {a:Rat} (h:a.den=1):decide ((a.den:Int)=1)=true:=by rw[Iu];exact decide_eq_true h
theorem ut {a:Rat} (h:¬a.den=1):decide ((a.den:Int)=1)=false:=by rw[Iu];exact decide_eq_false h
theorem NK {z:Int} (h:z=0):decide (((digs z.natAbs).length:Int)=0)=true:=ji.trans (decide_eq_true h)
theorem Jf {z:Int} (h:¬z=0):decide (((digs z.natAbs).length:Int)=0)=false:=ji.trans (decide_eq_false h)
theorem qO (a:Int) (g:Nat):a.fdiv g=a/g:=Int.fdiv_eq_ediv_of_nonneg _ (by omega)
theorem Cq (a g:Nat):(a:Int).fdiv g=((a/g:Nat):Int):=by rw[qO];rfl
theorem qK {j k:Nat} {a b q:Rat} (h:dy j a) (h':dy k b) (hk:j+k+1<=2147483648) (hq:a+b=q):aa Tryz.prog 87 [dQ a,dQ b] (.one (dQ q)):=by
 subst hq;have d0:(a.den:Int)*b.den≠0:=by have:=Int.mul_pos (cG a) (cG b);omega
 by_cases ha:a.den=1
 ·by_cases hb:b.den=1
  ·rw[CA (B9 ha hb).1 (d:=1) (by rw[(B9 ha hb).2];rfl)]
   refine kU func87 ?_;refine No ?_;refine kQ (cT (tz hb)) ?_;refine ax (tQ (h.1.fit (by omega)) (h'.1.fit (by omega))) rfl rfl rfl rfl rfl rfl rfl ?_;refine kW ?_;refine kC (rJ) ?_;exact aD
  ·refine kU func87 ?_
   refine No ?_;refine kC (cT (ut hb)) ?_;refine Fs ?_;exact aD
 ·refine kV func87 ?_;refine kC (cT (ut ha)) ?_;refine Fs ?_;exact aD
theorem rK {j k:Nat} {a b q:Rat} (h:dy j a) (h':dy k b) (hk:j+k<=2147483648) (hq:a*b=q):aa Tryz.prog 123 [dQ a,dQ b] (.one (dQ q)):=by
 subst hq;have d0:(a.den:Int)*b.den≠0:=by have:=Int.mul_pos (cG a) (cG b);omega
 by_cases ha:a.den=1
 ·by_cases hb:b.den=1
  ·rw[CA (nz ha hb).1 (d:=1) (by rw[(nz ha hb).2];rfl)]
   refine kU func123 ?_;refine No ?_;refine kQ (cT (tz hb)) ?_;refine ax (fe (h.1.fit (by omega)) (h'.1.fit (by omega))) rfl rfl rfl rfl rfl rfl rfl ?_;refine kW ?_;refine kC (rJ) ?_;exact aD
  ·refine kU func123 ?_
   refine No ?_;refine kC (cT (ut hb)) ?_;refine Nm ?_;exact aD
 ·refine kV func123 ?_;refine kC (cT (ut ha)) ?_;refine Nm ?_;exact aD
theorem yy {j k:Nat} {a b q:Rat} (h:dy j a) (h':dy k b) (hk:j+k<=2147483648) (hb:b≠0) (hq:a/b=q):aa Tryz.prog 182 [dQ a,dQ b] (.tup [dQ q,dN .i64 0]):=by
 subst hq;have h0:b.num≠0:=fun e=>hb (Rat.num_eq_zero.1 e)
 refine kV func182 ?_;refine kQ (gv (decide_eq_false h0)) ?_;refine ax (fe (h.1.fit (by omega)) (h'.2.fit (by omega))) rfl rfl rfl rfl rfl rfl rfl ?_;refine kW ?_;refine ax (fe (h.2.fit (by omega)) (h'.1.fit (by omega))) rfl rfl rfl rfl rfl rfl rfl ?_;refine kW ?_;refine ax (ig (h.1.mul h'.2) (h.2.mul h'.1) hk (Int.mul_ne_zero (by have:=cG a;omega) h0) (me a b)) rfl rfl rfl rfl rfl rfl rfl ?_;exact aD
theorem DO {a b:Rat} (hb:b=0):aa Tryz.prog 182 [dQ a,dQ b] (.tup [S4,dN .i64 6]):=by
 refine kV func182 ?_;refine kC (gv (decide_eq_true (Rat.num_eq_zero.2 hb))) ?_;exact aD
theorem Ej {j k:Nat} {a b q:Rat} (h:dy j a) (h':dy k b) (hk:j+k<=2147483648) (hq:a*b=q):aa Tryz.prog 48 [dQ a,dQ b] (.one (dQ q)):=by
 subst hq
 by_cases ha0:a.num=0
 ·have e:a*b=0:=by rw[Rat.num_eq_zero.1 ha0];exact Rat.zero_mul b
  refine kU func48 ?_;refine NW ?_;refine kB true ?_ ?_
  ·exact NK ha0
  exact Ts
 by_cases hb0:b.num=0
 ·have e:a*b=0:=by rw[Rat.num_eq_zero.1 hb0];exact Rat.mul_zero a
  refine MJ ?_;refine kB true ?_ ?_
  ·exact NK hb0
  exact Ts
 by_cases hab:a.den=1/\b.den=1
 ·rw[CA (nz hab.1 hab.2).1 (d:=a.den) (by rw[(nz hab.1 hab.2).2,hab.1])]
  refine MJ ?_;refine kB false ?_ ?_
  ·exact Jf hb0
  refine kW ?_;refine kQ (fP (tz hab.1)) ?_;refine kQ (fP (tz hab.2)) ?_;refine ax (jo (h.1.fit (by omega)) (h'.1.fit (by omega))) rfl rfl rfl rfl rfl rfl rfl ?_;exact aD
 have e:=Ks a b;obtain⟨g,hg⟩:∃g,Nat.gcd a.num.natAbs b.den=g:=⟨_,rfl⟩;obtain⟨t,ht⟩:∃t,Nat.gcd b.num.natAbs a.den=t:=⟨_,rfl⟩;rw[hg,ht]at e;have hgz:Nat.gcd a.num.natAbs (b.den:Int).natAbs=g:=by rw[Int.natAbs_natCast];exact hg
 have htz:Nat.gcd b.num.natAbs (a.den:Int).natAbs=t:=by rw[Int.natAbs_natCast];exact ht
 have hg0:0<g:=by rw[<- hg];exact Nat.gcd_pos_of_pos_right _ (Nat.pos_of_ne_zero b.den_nz)
 have ht0:0<t:=by rw[<- ht];exact Nat.gcd_pos_of_pos_right _ (Nat.pos_of_ne_zero a.den_nz)
 have sg:Sz k g:=by rw[<- hgz];exact h'.2.gcd (by have:=cG b;omega)
 have st:Sz j t:=by rw[<- htz];exact h.2.gcd (by have:=cG a;omega)
 have s1:Sz j (a.num/g):=h.1.of_le (Int.natAbs_ediv_le_natAbs _ _);have s2:Sz k (b.num/t):=h'.1.of_le (Int.natAbs_ediv_le_natAbs _ _);have s3:Sz j (a.den/t:Nat):=h.2.of_le (by rw[Int.natAbs_natCast,Int.natAbs_natCast];exact Nat.div_le_self _ _);have s4:Sz k (b.den/g:Nat):=h'.2.of_le (by rw[Int.natAbs_natCast,Int.natAbs_natCast];exact Nat.div_le_self _ _);rw[CA e.1 (d:=(a.den/t:Nat)*(b.den/g:Nat)) (by rw[e.2];rfl)];refine MJ ?_;refine kB false ?_ ?_
 ·exact Jf hb0
 refine kW ?_
 by_cases ha:a.den=1
 ·have hb:¬b.den=1:=fun e=>hab ⟨ha,e⟩
  refine kQ (fP (tz ha)) ?_;refine kC (fP (ut hb)) ?_;refine OG ?_;exact aD
 ·refine kC (fP (ut ha)) ?_
  refine OG ?_;exact aD
end Go.Proofs.YtmkggcjajcdlcaaGreatDoor
