/- Parts of a proof: contracts of the functions that the laws reach. -/
import Derived.Test.YtnchbpoopnjghaaGreatDoorRZ6
set_option maxHeartbeats 100000000
set_option linter.all false
open Go.Proofs.Tryz
namespace Go.Proofs.YtnchbpoopnjghaaGreatDoor
open Go.RowKit
def ct{j i:Nat}{cs c:List AV}:(sB [(j,cs)]).bx i=some c↔i=j/\c=cs:=by
 rw[dj];by_cases e:j=i
 ·subst e;rw[aB,ap];constructor
  ·intro h;cases h;exact⟨rfl,rfl⟩
  ·rintro⟨_,rfl⟩;rfl
 ·rw[aB,az _ _ e];constructor
  ·intro h;cases h
  ·rintro⟨h,_⟩;exact absurd h.symm e
def lL{S:Nat->Prop}{g:Nat->Nat}{j:Nat}{cs:List AV}:Own S g (sB [(j,cs)])=fun q=>S q∨g j=q:=by
 funext q;unfold Own;refine propext ⟨?_,?_⟩
 ·rintro(h| ⟨i,c,h,e⟩)
  ·exact .inl h
  ·obtain⟨rfl,_⟩:=ct.1 h;exact .inr e
 ·rintro(h|e)
  ·exact .inl h
  ·exact .inr ⟨j,cs,ct.2 ⟨rfl,rfl⟩,e⟩
def Bz{g:Nat->Nat}{j:Nat}{cs:List AV}:BX g [(j,cs)]=fun q=>g j=q:=by
 funext q;unfold BX;refine propext ⟨?_,?_⟩
 ·rintro⟨i,c,h,e⟩;obtain⟨rfl,_⟩:=ct.1 h;exact e
 ·intro e;exact⟨j,cs,ct.2 ⟨rfl,rfl⟩,e⟩
def sw(a b j:Nat):Nat:=if j=a then b else if j=b then a else j
def kg(a b j:Nat):sw a b (sw a b j)=j:=by unfold sw;split <;>split <;>(try split)<;>omega
def xC{a b i j:Nat}(h:sw a b i=sw a b j):i=j:=by have:=congrArg (sw a b) h;rwa[kg,kg]at this
def Sp(a b:Nat):AV->AV
 | .ow j n k e=> .ow (sw a b j) n k e
 | .bp j o=> .bp (sw a b j) o
 |x=>x
def vk(a b j:Nat)(cs:List AV):List AV:=match cX j with
 |true=>cs.map (Sp a b)
 |false=>cs
def pa(a b:Nat):BL->BL
 | []=>[]
 |(j,c)::r=>(sw a b j,vk a b j c)::pa a b r
def U1(a b:Nat):CV->CV
 | .val v=> .val v
 | .box j o=> .box (sw a b j) o
def RI(a b:Nat):TV->TV
 | .box j o=> .box (sw a b j) o
 | .own j n k e=> .own (sw a b j) n k e
 | .vw j o n k=> .vw (sw a b j) o n k
 | .vs j o n c k e=> .vs (sw a b j) o n c k e
 | .clo h i d=> .clo h (i.map (U1 a b)) (d.map (U1 a b))
 |x=>x
def SZ(a b:Nat):RT->RT
 | .own j n k e=> .own (sw a b j) n k e
 | .v r=> .v r
def nS(a b j:Nat)(cs:List AV):(vk a b j cs).length=cs.length:=by unfold vk;split <;>simp
def QH(a b:Nat)(r:RT):(SZ a b r).tv=RI a b r.tv:=by
 cases r with
 |own=>rfl
 |v r=>cases r<;>rfl
def rL{a b:Nat}:∀(l:BL)(j:Nat),ak (aB (pa a b l)) (sw a b j)=(ak (aB l) j).map fun o=>o.map (vk a b j)
 | [],_=>rfl
 |(i,c)::r,j=>by
  by_cases e:i=j
  ·subst e;rw[pa,aB,aB,ap,ap];rfl
  ·rw[pa,aB,aB,az _ _ e,az _ _ (fun h=>e (xC h))];exact rL r j
def JT{a b:Nat}(l:BL)(j:Nat):ak (aB (pa a b l)) j=(ak (aB l) (sw a b j)).map fun o=>o.map (vk a b (sw a b j)):=by have:=rL (a:=a) (b:=b) l (sw a b j);rwa[kg]at this
def qA{a b:Nat}{l:BL}{j:Nat}{cs:List AV}(h:(sB l).bx j=some cs):(sB (pa a b l)).bx (sw a b j)=some (vk a b j cs):=by rw[dj]at h ⊢;rw[rL,h];rfl
def iR{a b:Nat}{l:BL}{j:Nat}{cs:List AV}(h:(sB (pa a b l)).bx j=some cs):∃c,(sB l).bx (sw a b j)=some c/\cs=vk a b (sw a b j) c:=by
 rw[dj,JT]at h;cases hl:ak (aB l) (sw a b j)with
 |none=>rw[hl]at h;cases h
 |some o=>
  rw[hl]at h;cases o with
  |none=>cases h
  |some c=>simp only[Option.map_some,X_]at h;exact⟨c,dj.2 hl,h.symm⟩
def vv{a b:Nat}{l:BL}{j:Nat}:(sB (pa a b l)).kn (sw a b j)↔(sB l).kn j:=by
 unfold AS.kn sB;dsimp only;rw[rL];constructor
 ·rintro⟨x,h⟩;cases hl:ak (aB l) j with
  |none=>rw[hl]at h;cases h
  |some o=>exact⟨o,rfl⟩
 ·rintro⟨x,h⟩;rw[h];exact⟨_,rfl⟩
def oZ{a b:Nat}{S:Nat->Prop}{g:Nat->Nat}{l:BL}:Own S g (sB (pa a b l))=Own S (fun j=>g (sw a b j)) (sB l):=by
 funext q;refine propext ⟨?_,?_⟩
 ·rintro(h| ⟨j,d,h,e⟩)
  ·exact .inl h
  ·obtain⟨c,h0,_⟩:=iR h;exact .inr ⟨sw a b j,c,h0,by dsimp only;rw[kg];exact e⟩
 ·rintro(h| ⟨j,d,h,e⟩)
  ·exact .inl h
  ·exact .inr ⟨sw a b j,_,qA h,e⟩
def Du{a b:Nat}{g:Nat->Nat}{l:BL}:BX g (pa a b l)=BX (fun j=>g (sw a b j)) l:=by
 funext q;refine propext ⟨?_,?_⟩
 ·rintro⟨j,d,h,e⟩;obtain⟨c,h0,_⟩:=iR h;exact⟨sw a b j,c,h0,by dsimp only;rw[kg];exact e⟩
 ·rintro⟨j,d,h,e⟩;exact⟨sw a b j,_,qA h,e⟩
section
variable {a b:Nat}{S:Nat->Prop}{g:Nat->Nat}{l:BL}{w:World}
def O3{x:CV}{v:Value}:CV.M g (sB (pa a b l)) (U1 a b x) v↔CV.M (fun j=>g (sw a b j)) (sB l) x v:=by
 cases x with
 |val u=>exact Iff.rfl
 |box j o=>
  constructor
  ·rintro⟨c,d⟩;exact⟨vv.1 c,fun i e=>d _ (qA e)⟩
  ·rintro⟨c,d⟩;refine⟨vv.2 c,fun i e=>?_⟩;obtain⟨h,h0,_⟩:=iR e;rw[kg]at h0;exact d h h0
def tL:∀{d:List CV}{c:List Value},rd g (sB (pa a b l)) (d.map (U1 a b)) c↔rd (fun j=>g (sw a b j)) (sB l) d c
 | [],[]=>Iff.rfl
 |x::d,v::c=>and_congr O3 tL
 | [],_::_=>Iff.rfl
 |_::_,[]=>Iff.rfl
def EA{x:TV}{v:Value}:TV.M S g (sB (pa a b l)) w (RI a b x) v↔TV.M S (fun j=>g (sw a b j)) (sB l) w x v:=by
 cases x with
 |d x=>exact Iff.rfl
 |tup ts=>exact Iff.rfl
 |box j o=>exact O3 (x:= .box j o)
 |rp cs=>exact Iff.rfl
 |own j n k e=>exact NL
 |clo m q cs=>
  constructor
  ·rintro⟨h,vs,e,h1,h2⟩;exact⟨h,vs,e,tL.1 h1,tL.1 h2⟩
  ·rintro⟨h,vs,e,h1,h2⟩;exact⟨h,vs,e,tL.2 h1,tL.2 h2⟩
 |mp i=>exact Iff.rfl
 |nil=>exact Iff.rfl
 |und=>exact Iff.rfl
 |junk=>exact Iff.rfl
 |dfr f cs=>exact Iff.rfl
 |vw j o n k=>exact NL
 |vs j o n c k e=>
  constructor
  ·rintro⟨h1,h2⟩;exact⟨vv.1 h1,fun cs hc=>h2 _ (qA hc)⟩
  ·rintro⟨h1,h2⟩;refine⟨vv.2 h1,fun cs hc=>?_⟩;obtain⟨c0,h0,rfl⟩:=iR hc;rw[kg]at h0;exact h2 c0 h0
def Cy:∀{d:List TV}{c:List Value},qK S g (sB (pa a b l)) w (d.map (RI a b)) c↔qK S (fun j=>g (sw a b j)) (sB l) w d c
 | [],[]=>Iff.rfl
 |x::d,v::c=>and_congr EA Cy
 | [],_::_=>Iff.rfl
 |_::_,[]=>Iff.rfl
def N8{x:AV}{v:Value}:x1 S g (sB (pa a b l)) w (Sp a b x) v↔x1 S (fun j=>g (sw a b j)) (sB l) w x v:=by
 cases x with
 |ow j n k e=>exact EA (S:=S) (w:=w) (x:= .own j n k e)
 |bp j o=>exact EA (S:=S) (w:=w) (x:= .box j o)
 |val=>exact Iff.rfl
 |sl=>exact Iff.rfl
 |nl=>exact Iff.rfl
def NU{x:AV}{v:Value}:AV.M S w (Sp a b x) v↔AV.M S w x v:=by
 cases x with
 |ow j n k e=>constructor <;>(intro h;cases h;exact .ow (by assumption))
 |bp j o=>constructor <;>(intro h;cases h;exact .bp (by assumption))
 |val=>exact Iff.rfl
 |sl=>exact Iff.rfl
 |nl=>exact Iff.rfl
def Ep{j i:Nat}{cs:List AV}{x:AV}(h:(vk a b j cs)[i]? =some x):∃y,cs[i]? =some y/\ ∀(v:Value),(AV.M S w x v↔AV.M S w y v)/\(cX j=true->x=Sp a b y):=by
 unfold vk at h;split at h
 ·rw[List.getElem?_map]at h;cases hc:cs[i]? with
  |none=>rw[hc]at h;cases h
  |some y=>rw[hc]at h;cases h;exact⟨y,rfl,fun v=>⟨NU,fun _=>rfl⟩⟩
 ·rename_i c;exact⟨x,h,fun v=>⟨Iff.rfl,fun h=>by rw[c]at h;cases h⟩⟩
def yX{j i:Nat}{cs:List AV}{y:AV}(h:cs[i]? =some y):∃x,(vk a b j cs)[i]? =some x/\ ∀(v:Value),(AV.M S w x v↔AV.M S w y v)/\(cX j=true->x=Sp a b y):=by
 unfold vk;split
 ·exact⟨Sp a b y,by rw[List.getElem?_map,h];rfl,fun v=>⟨NU,fun _=>rfl⟩⟩
 ·rename_i c;exact⟨y,h,fun v=>⟨Iff.rfl,fun h=>by rw[c]at h;cases h⟩⟩
def P2{j:Nat}{cs:List AV}{vs:List Value}:jO S w (vk a b j cs) vs↔jO S w cs vs:=by
 unfold jO;rw[nS];constructor
 ·rintro⟨c,d⟩;refine⟨c,fun i y v p e=>?_⟩;obtain⟨x,m,h⟩:=yX (a:=a) (b:=b) (S:=S) (w:=w) (j:=j) p;exact(h v).1.1 (d i x v m e)
 ·rintro⟨c,d⟩;refine⟨c,fun i x v m e=>?_⟩;obtain⟨y,p,h⟩:=Ep (S:=S) (w:=w) m;exact(h v).1.2 (d i y v p e)
def Ef{j B:Nat}{cs:List AV}(H:cL (sw a b j)=cL j)(z:cX (sw a b j)=cX j)(G:im (sw a b j)=im j):nV S g (sB (pa a b l)) w (sw a b j) (vk a b j cs) B↔nV S (fun j=>g (sw a b j)) (sB l) w j cs B:=by
 constructor
 ·rintro⟨c,e,m,p,q,t,u⟩;refine⟨c,e,m,P2.1 p,by rw[<- H];exact q,fun d i y v E A=>?_,by rw[<- G];exact u⟩;obtain⟨x,D,h⟩:=yX (a:=a) (b:=b) (S:=S) (w:=w) (j:=j) E;have F:=t (by rw[z];exact d) i x v D A;rw[(h v).2 d]at F;exact N8.1 F
 ·rintro⟨c,e,m,p,q,t,u⟩;refine⟨c,e,m,P2.2 p,by rw[H];exact q,fun d i x v D A=>?_,by rw[G];exact u⟩;obtain⟨y,E,h⟩:=Ep (S:=S) (w:=w) D;rw[(h v).2 (by rw[<- z];exact d)];exact N8.2 (t (by rw[<- z];exact d) i y v E A)
end
def om(a b:Nat):Bool:=(cL a == cL b) && ((cX a == cX b) && (im a == im b))
def Do{a b:Nat}(h:om a b=true)(j:Nat):cL (sw a b j)=cL j/\cX (sw a b j)=cX j/\im (sw a b j)=im j:=by
 simp only[om,B_,beq_iff_eq]at h;unfold sw;split
 ·rename_i e;subst e;exact⟨h.1.symm,h.2.1.symm,h.2.2.symm⟩
 ·split
  ·rename_i e;subst e;exact⟨h.1,h.2.1,h.2.2⟩
  ·exact⟨rfl,rfl,rfl⟩
section
variable {P:Program}{f:FuncId}{ts:List TV}{l l':BL}{r:RT}{a b:Nat}
def H0(c:om a b=true){S:Nat->Prop}{g:Nat->Nat}{w:World}(h:NV S g w (pa a b l)):NV S (fun j=>g (sw a b j)) w l:=by
 refine⟨?_,?_,?_,?_,?_⟩
 ·rw[<- Du];exact h.tab
 ·rw[<- Du];exact h.blk
 ·intro k m t;have:=h.gl k m t;rw[oZ]at this;exact this
 ·intro j m d;have p:=h.bm _ _ (qA (a:=a) (b:=b) d);obtain⟨u,v,x⟩:=Do c j;rw[oZ]at p;exact(Ef u v x).1 p
 ·intro i j y z q d e;exact xC (h.inj _ _ _ _ (qA (a:=a) (b:=b) q) (qA (a:=a) (b:=b) d) e)
def JH(y:om a b=true){S:Nat->Prop}{g:Nat->Nat}{w w':World}{e:Ending}(h:wE S (fun j=>g (sw a b j)) l r l' w e w'):wE S g (pa a b l) (SZ a b r) (pa a b l') w e w':=by
 obtain⟨v,c,I,D,E,F,G,H⟩:=h;have t:(fun j=>(fun i=>c (sw a b i)) (sw a b j))=c:=by funext j;dsimp only;rw[kg]
 refine⟨v,fun i=>c (sw a b i),I,?_,?_,?_,?_,?_⟩
 ·intro j cs x d z;obtain⟨u,m,rfl⟩:=iR d;obtain⟨A,p,rfl⟩:=iR z;obtain⟨q,L⟩:=D _ _ _ m p;dsimp only at q ⊢;rw[kg]at q;rw[nS,nS];exact⟨q,L⟩
 ·intro j x d;obtain⟨u,m,rfl⟩:=iR d;obtain⟨p,q⟩:=E _ _ m;rw[Du];refine⟨p,?_⟩;obtain⟨N,O,Q⟩:=Do y (sw a b j);have:=(Ef (a:=a) (b:=b) (S:=Own S c (sB l')) (g:=fun i=>c (sw a b i)) (l:=l') (w:=w') (cs:=u) (B:=c (sw a b j)) N O Q).2 (by rw[t];exact q);rw[oZ,t];rw[kg]at this;exact this
 ·intro i j R U J d e;obtain⟨u,m,_⟩:=iR J;obtain⟨A,p,_⟩:=iR d;exact xC (F _ _ _ _ m p e)
 ·rw[QH,oZ,t,EA,t];exact G
 ·rw[Du];exact H
def uK{t:Func}{R q:Ending->World->Prop}(d:∀e w,R e w->q e w){x:Exit}{a:Act}{w:World}(h:bodyPost P t R x a w):bodyPost P t q x a w:=by
 cases x with
 |normal=>obtain⟨j,v,m,p⟩:=h;exact⟨j,v,m,d _ _ p⟩
 |ret=>obtain⟨j,v,m,p⟩:=h;exact⟨j,v,m,d _ _ p⟩
 |panic c=>exact⟨h.1,d _ _ h.2⟩
 |outgrown=>exact d _ _ h
 |exit i=>exact h
 |goto l=>exact h
def ay.swap(a b:Nat)(c:om a b=true)(h:ay P f ts l r l'):ay P f (ts.map (RI a b)) (pa a b l) (SZ a b r) (pa a b l'):=by refine⟨h.enter,fun S g w m d i=>?_⟩;rw[oZ,Cy]at i;exact(h.calls S _ w m (H0 c d) i).mono fun e p j=>JH c j
def g7.swap(a b:Nat)(d:om a b=true)(h:g7 P f ts l r l'):g7 P f (ts.map (RI a b)) (pa a b l) (SZ a b r) (pa a b l'):=by obtain⟨i,c,j,m,p⟩:=h.body;refine⟨h.enter,i,c,j,m,fun S g w vs hpre hv=>?_⟩;rw[oZ,Cy]at hv;exact wp_mono (p S _ w vs (H0 d hpre) hv) fun e a w' hq=>uK (fun e w' hr=>JH d hr) hq
end
section
variable {P:Program}{T:TypeId->Option Ty}{n:Nat}{ops:Array Oper}{id:Nat}{draw:Bool}{K:AS->Prop}{s:AS}{k:Nat}{o:Oper}{os:List Oper}{fps:List FP}
def mg(G:∀t d,T t=some d->bl P t d){t:TypeId}{ty:Ty}{x z:Operand}{l:List UInt8}{j:Nat}{ik:IntKind}(L:j<=l.length)(v:gd ops s o=some true)(c:o.op= .slice t x none (some z) none)(B:T t=some ty)(D:ty.isStr=true)(E:s.ev x= .d (.leaf (.val (vL l))))(F:s.ev z= .d (.leaf (.val (.int ik (j:Nat)))))(y:aO n o.dst=true)(A:gO draw ops (aH ops o ⟨.d (dL (l.take j)),none⟩ []) k fps=true)(h:aw P T n ops id draw K (k+1) os (s.eff o.dst ⟨.d (dL (l.take j)),none⟩) (aH ops o ⟨.d (dL (l.take j)),none⟩ []::fps)):aw P T n ops id draw K k (o::os) s fps:=by
 refine .run v (.gen fun N m _=>?_) y A h;have H:=(aP m (x:=x) (by simp[c,Op.operands])).trans E;have I:=(aP m (x:=z) (by simp[c,Op.operands])).trans F;have hu:=jv (G _ _ B) D;refine ar fun n J O g a w i=>⟨vL (l.take j),w,?_,Below.refl _ _,AV.M.val rfl⟩;unfold execOp;rw[c];have u:(Instr.sliceAt t (.string (Bs l)) none (some (.int ik j)) none).run P w= .ok (vL (l.take j)) w:=by refine H6 ?_;rw[run_slice_string_h w t (Bs l) hu ik j O_ (by rw[an];omega)];simp only[Int.toNat_natCast];rw[jy];rfl
 simp only[bn i H,bn i I,vL,Option.map_some,Option.map_none,Y_,u,R_];rfl
end
def OX{S i:Nat->Prop}{g g':Nat->Nat}{s s':AS}{w:World}(j:S=i):∀{c:List DV}{e:List Value},qK S g s w (c.map .d) e->qK i g' s' w (c.map .d) e
 | [],[],_=>trivial
 |d::c,v::e,h=>⟨by subst j;exact h.1,OX j h.2⟩
 | [],_::_,h=>h.elim
 |_::_,[],h=>h.elim
def ay.ren{P:Program}{f:FuncId}{j:Nat}{ds:List DV}{cs cs':List AV}{r:RV}(h:ay P f (.box j 0::ds.map .d) [(j,cs)] (.v r) [(j,cs')])(j':Nat)(R:cL j'=cL j)(I:cX j=false)(q:cX j'=false):ay P f (.box j' 0::ds.map .d) [(j',cs)] (.v r) [(j',cs')]:=by
 have Y:im j'=false:=by
  cases e:im j' with
  |false=>rfl
  |true=>rw[oC e]at q;cases q
 have J:im j=false:=by
  cases e:im j with
  |false=>rfl
  |true=>rw[oC e]at I;cases I
 refine⟨h.enter,fun S g w vs hpre hv=>?_⟩;have x:(fun i=>if i=j then g j' else g i) j=g j':=if_pos rfl;generalize X:(fun i=>if i=j then g j' else g i)=g1 at x;have G:Own S g1 (sB [(j,cs)])=Own S g (sB [(j',cs)]):=by rw[lL,lL,x]
 have D:BX g1 [(j,cs)]=BX g [(j',cs)]:=by rw[Bz,Bz,x]
 have t:NV S g1 w [(j,cs)]:=by
  refine⟨?_,?_,?_,?_,?_⟩
  ·rw[D];exact hpre.tab
  ·rw[D];exact hpre.blk
  ·rw[G];exact hpre.gl
  ·intro i m y;obtain⟨rfl,rfl⟩:=ct.1 y;obtain⟨p,e,z,A,O,_,_⟩:=hpre.bm j' m (ct.2 ⟨rfl,rfl⟩);rw[G,x];exact⟨p,e,z,A,by rw[<- R];exact O,fun h=>(by rw[I]at h;cases h),fun h=>(by rw[J]at h;cases h)⟩
  ·intro i Z m U z A _;rw[(ct.1 z).1,(ct.1 A).1]
 have L:qK (Own S g1 (sB [(j,cs)])) g1 (sB [(j,cs)]) w (.box j 0::ds.map .d) vs:=by
  cases vs with
  |nil=>exact hv.elim
  |cons v vs=>obtain⟨W,hv⟩:=hv;refine⟨⟨⟨some cs,by rw[sB,aB,ap]⟩,fun m y=>?_⟩,OX G.symm hv⟩;rw[x];exact W.2 cs (ct.2 ⟨rfl,rfl⟩)
 refine(h.calls S g1 w vs t L).mono ?_;rintro e w' ⟨v,u,rfl,z,A,O,Q,V⟩;have c:(fun i=>if i=j' then u j else u i) j'=u j:=if_pos rfl;generalize(fun i=>if i=j' then u j else u i)=g2 at c;have B:Own S g2 (sB [(j',cs')])=Own S u (sB [(j,cs')]):=by rw[lL,lL,c]
 refine⟨v,g2,rfl,?_,?_,?_,?_,?_⟩
 ·intro i m F y H;obtain⟨rfl,rfl⟩:=ct.1 y;obtain⟨_,rfl⟩:=ct.1 H;have:=z j m F (ct.2 ⟨rfl,rfl⟩) (ct.2 ⟨rfl,rfl⟩);rw[c,this.1,x];exact⟨rfl,this.2⟩
 ·intro i m y;obtain⟨rfl,rfl⟩:=ct.1 y;obtain⟨E,p,e,N,k3,k4,_,_⟩:=A j m (ct.2 ⟨rfl,rfl⟩);rw[D]at E;rw[c,B];exact⟨E,p,e,N,k3,by rw[R];exact k4,fun h=>(by rw[q]at h;cases h),fun h=>(by rw[Y]at h;cases h)⟩
 ·intro i Z m U E N _;rw[(ct.1 E).1,(ct.1 N).1]
 ·rw[B];cases r with
  |one d=>exact Q
  |tup l=>exact Q
 ·rw[<- D];exact V
def mE:∀(x:Rx),vY x->jx x<=1000000->aa prog 81 [dR x] (.one (dN .i64 (pZ x))):=by
 refine iN fun op na xs nb ys nm args E y hs=>?_;have v:=HO (.mk op na xs nb ys nm args);obtain⟨_,_,_,_,_,hlen,t⟩:=y;rw[jx]at hs;rw[pZ,jx]at v;refine C2 ?_;refine kV func81 ?_;refine av (Nat × Nat) (fun s=>s.1<=args.length/\s.2<=lU args/\max s.2 (lU (args.drop s.1))=lU args) (fun s=>⟨[(2, .d (dN .i64 0)),(3, .d (dN .i64 s.2)),(7, .d (.leaf (.sl args.length (gc args)))),(8, .d (dN .i64 args.length)),(9, .d (dN .i64 s.1))],[]⟩) (fun s=>args.length-s.1) (0,0) ⟨Nat.zero_le _,Nat.zero_le _,Nat.zero_max _⟩
  kw ?_
 rintro⟨i,d⟩ ⟨D,A,h2⟩;dsimp only at D A h2 ⊢;refine kI ?_;by_cases hlt:i<args.length
 ·refine kT ?_;obtain⟨o1,na1,xs1,nb1,ys1,nm1,n1,cs1,z⟩:=aJ args[i];have y:args[i]? =some args[i]:=by simp[hlt]
  have hat:∀(j:Nat)(a:AV),(af o1 na1 xs1 nb1 ys1 nm1 n1 cs1)[j]? =some a->(gc args)[i*7+j]? =some a:=fun j a h=>fO args i args[i] y j a (by rw[z];exact h);have u:=List.getElem_mem hlt;have hsz:=rD u;have B:=xp u;have c:=E args[i] u (t _ u) O_;rw[show dR args[i]= .agg (af o1 na1 xs1 nb1 ys1 nm1 n1 cs1) from congrArg DV.agg z]at c;rw[List.drop_eq_getElem_cons hlt,lU]at h2;generalize pZ args[i]=k at *;refine kW ?_;refine x4 ?_;refine kW ?_;refine kC c ?_;refine P4 (a:=d) (b:=k) (m:=(max d k:Nat)) O_ rfl rfl rfl rfl rfl rfl ?_;refine kW ?_;exact⟨(i+1,max d k),⟨hlt,by dsimp only;omega,by dsimp only;omega⟩,by dsimp only;omega,weak ⟨rfl,rfl,rfl,rfl,aq O_ O_,trivial⟩ trivial rfl⟩
 ·exact Ow
def gv:∀(f:Nat)(m:Md)(ts:List Tk)(e:Ex)(r:List Tk),pP f m ts=some (.ok (e,r))-> ∀t∈r,t∈ts
 |0,_,_,_,_,h=>by cases h
 |f+1, .sum,ts,e,r,h=>by rw[jE]at h;exact OM
 |f+1, .prod,ts,e,r,h=>by rw[gK]at h;exact OM
 |f+1, .more j e0,ts,e,r,h=>by
  rw[dl]at h;split at h
  ·rename_i k r1 h0;split at h
   ·rename_i e1 d h1;exact fun t ht=>uf h0 t (gv f _ _ _ _ h1 t (gv f _ _ _ _ h t ht))
   ·exact jK
  ·cases h;exact fun t ht=>ht
 |f+1, .un,ts,e,r,h=>by
  rw[i8]at h;split at h
  ·rename_i r1 h0;split at h
   ·rename_i e1 d h1;cases h;exact fun t ht=>fc h0 t (gv f _ _ _ _ h1 t ht)
   ·exact jK
  ·exact gv f _ _ _ _ h
 |f+1, .prim,ts,e,r,h=>by
  rw[eP]at h;split at h
  ·rename_i r1 h0;split at h
   ·rename_i e1 d h1;split at h
    ·rename_i v i;cases h;exact fun t ht=>fc h0 t (gv f _ _ _ _ h1 t (fc i t ht))
    ·cases h
   ·exact jK
  ·split at h
   ·rename_i t r1 _;split at h
    ·injection h with h;obtain⟨q,u,_,_,c⟩:=ze h;exact fun t ht=>List.mem_cons_of_mem _ (c t ht)
    ·exact I5
   ·cases h
def eU{E:Nat}:∀(f:Nat)(m:Md)(ts:List Tk)(x:gG),bX ts->(∀t∈ts,t.2.2<=E)->pP f m ts=some x->(match x with
  | .ok (_,r)=>bX r
  | .error (p,c)=>p<=E/\c≠0)
 |0,_,_,_,_,_,h=>by cases h
 |f+1, .sum,ts,x,hw,hE,h=>by rw[jE]at h;exact OT
 |f+1, .prod,ts,x,hw,hE,h=>by rw[gK]at h;exact OT
 |f+1, .more y e0,ts,x,hw,hE,h=>by
  rw[dl]at h;obtain⟨t,r,rfl⟩:=hw.ne;split at h
  ·rename_i k r1 h0;obtain⟨rfl,v,_⟩:=jF h0;have d:=hw.tail O_;have i:∀t∈r1,t.2.2<=E:=fun t ht=>hE t (List.mem_cons_of_mem _ ht);split at h
   ·rename_i e1 j h1;have a:=eU f _ _ _ d i h1;have hsub:=gv f _ _ _ _ h1;exact eU f _ _ _ a (fun t ht=>i t (hsub t ht)) h
   ·exact eU f _ _ _ d i h
  ·cases h;exact hw
 |f+1, .un,ts,x,hw,hE,h=>by
  rw[i8]at h;obtain⟨t,r,rfl⟩:=hw.ne;split at h
  ·rename_i r1 h0;obtain⟨rfl,v⟩:=jN h0;have d:=hw.tail O_;have i:∀t∈r1,t.2.2<=E:=fun t ht=>hE t (List.mem_cons_of_mem _ ht);split at h
   ·rename_i e1 j h1;have a:=eU f _ _ _ d i h1;cases h;exact a
   ·exact eU f _ _ _ d i h
  ·exact eU f _ _ _ hw hE h
 |f+1, .prim,ts,x,hw,hE,h=>by
  rw[eP]at h;obtain⟨t,r,rfl⟩:=hw.ne;split at h
  ·rename_i r1 h0;obtain⟨rfl,v⟩:=jN h0;have d:=hw.tail O_;have i:∀t∈r1,t.2.2<=E:=fun t ht=>hE t (List.mem_cons_of_mem _ ht);split at h
   ·rename_i e1 j h1;have a:=eU f _ _ _ d i h1;have a:bX j:=a;have hsub:=gv f _ _ _ _ h1;obtain⟨u,A,rfl⟩:=a.ne;split at h
    ·rename_i B q;obtain⟨rfl,z⟩:=jN q;cases h;exact a.tail O_
    ·cases h;exact⟨i _ (hsub u S_),by decide⟩
   ·exact eU f _ _ _ d i h
  ·dsimp only at h;have ht:=hE t S_;split at h
   ·rename_i q;have d:=hw.tail O_;injection h with h;unfold fg at h;split at h
    ·subst h;exact⟨ht,by decide⟩
    ·split at h
     ·subst h;exact⟨ht,by decide⟩
     ·split at h
      ·split at h
       ·subst h;exact d.tail O_
       ·subst h;exact d
      ·subst h;exact d
   ·split at h
    ·cases h;exact hw.tail O_
    ·cases h;exact⟨ht,by decide⟩
def ay.ren0{P:Program}{f:FuncId}{j:Nat}{cs cs':List AV}{r:RV}(h:ay P f [.box j 0] [(j,cs)] (.v r) [(j,cs')])(j':Nat)(e:cL j'=cL j)(d:cX j=false)(c:cX j'=false):ay P f [.box j' 0] [(j',cs)] (.v r) [(j',cs')]:=ay.ren (ds:=[]) h j' e d c
def ay.ren1{P:Program}{f:FuncId}{j:Nat}{d:DV}{cs cs':List AV}{r:RV}(h:ay P f [.box j 0, .d d] [(j,cs)] (.v r) [(j,cs')])(j':Nat)(i:cL j'=cL j)(e:cX j=false)(c:cX j'=false):ay P f [.box j' 0, .d d] [(j',cs)] (.v r) [(j',cs')]:=ay.ren (ds:=[d]) h j' i e c
noncomputable def l0(T:List Tk)(b:Int)(E:Nat):Except (Nat × Int) Ex:=match pP (5*T.length+5) .sum T with
 |some (.ok (e,t::_))=>if t.1≠0 then .error (t.2.2,2)else if b≠0 then .error (E,b)else if pZ (rx e)<=40 then .ok e else .error (Jz T,3)
 |some (.error (p,c))=> .error (p,qd E b p c)
 |_=> .error (0,2)
noncomputable def fY(s:List UInt8):Except (Nat × Int) Ex:=match dw (s.length+1) s 0 []with
 | .ok T=>l0 T 0 s.length
 | .error (a,b)=>match dw ((s.take a).length+1) (s.take a) 0 []with
  | .ok T=>l0 T b a
  | .error _=> .error (0,2)
noncomputable def gD(x:Except (Nat × Int) Ex):RV:=match x with
 | .ok e=> .tup [dE e,dN .i64 0,dN .i64 0]
 | .error (p,c)=> .tup [dR z7,dN .i64 p,dN .i64 c]
structure wS (T:List Tk) (E:Nat):Prop where
 w:bX T
 z:c7 E T
 s:∀t∈T,t.2.1.length<=65536
 l:T.length<=999999
def wS.le{T:List Tk}{E:Nat}(h:wS T E):∀t∈T,t.2.2<=E:=fun t c=>by
 by_cases h0:t.1=0
 ·exact Nat.le_of_eq ((h.z t c).1 h0)
 ·exact Nat.le_of_lt ((h.z t c).2 h0)
def fP(T:List Tk):∃x,pP (5*T.length+5) .sum T=some x:=Rk _ .sum T (l_ _)
def rC{T:List Tk}{E:Nat}(c:wS T E){e:Ex}{r:List Tk}{f:Nat}(h:pP f .sum T=some (.ok (e,r))):vY (rx e)/\jx (rx e)<=1000000/\bX r/\ ∀t∈r,t∈T:=by have a:=jr _ _ _ _ _ c.s (fun _ _ h=>by cases h) h;have b:=eU (E:=E) _ _ _ _ c.w c.le h;have:=a.2.2;have:=c.l;exact⟨a.1,by dsimp only at *;omega,b,a.2.1⟩
def qD(s:List UInt8)(T:List Tk)(cT:aa prog 77 [dL s] (ma (.ok T)))(I:wS T s.length):aa prog 35 [dL s] (gD (l0 T 0 s.length)):=by
 have cT:aa prog 77 [dL s] (.tup [.leaf (.sl T.length (ce T)),dN .i64 0,dN .i64 0]):=cT;obtain⟨x,L⟩:=fP T;have cs:=(Bj 0 _).sum T x I.w L;unfold l0;rw[L];cases x with
 |ok z=>
  obtain⟨e,r⟩:=z;obtain⟨J,hsz,hwr,Q⟩:=rC I L;obtain⟨t,r,rfl⟩:=hwr.ne;have cs:=cs.1.ren0 4002 rfl rfl rfl;have cn:=(cH t r 0 0).ren0 4002 rfl rfl rfl;have H:=(i7 t r 0 2).ren1 4002 rfl rfl rfl;have G:=mE (rx e) J hsz;dsimp only;obtain⟨F,m,A,u,B,v,E,d,D⟩:=aM e;rw[show dR (rx e)= .agg (af F m A u B v E d) from congrArg DV.agg D]at G;have N:dE e= .agg (af F m A u B v E d):=congrArg DV.agg D;rw[N]at cs;by_cases h0:t.1=0
  ·rw[if_neg (fun h=>h h0),if_neg (fun h=>h rfl)];by_cases O:pZ (rx e)<=40
   ·rw[if_pos O];unfold gD;dsimp only;rw[N];refine zY ?_;refine l6 ?_;refine kW ?_;refine kC G ?_;refine kE ?_;exact am
   ·rw[if_neg O];obtain⟨R,V,rfl⟩:=I.w.ne;unfold gD;dsimp only;refine zY ?_;refine l6 ?_;refine kW ?_;refine kC G ?_;refine kX ?_;refine aS (i:=0) (cs':=jU R) (Z_ _) (fun j a h=>by rw[Nat.zero_mul,J_];show(jU R++ce V)[j]? =some a;rw[List.getElem?_append_left (G_.1 h).1];exact h) (Z_ 2) rfl rfl rfl rfl rfl rfl rfl rfl ?_
    exact am
  ·rw[if_pos h0];unfold gD;dsimp only;refine zY ?_;refine ox ?_;refine kW ?_;refine kD H ?_;exact am
 |error z=>
  obtain⟨p,c⟩:=z;obtain⟨hc,y,W,cs,U⟩:=cs;obtain⟨t,r,rfl⟩:=U.ne;have cs:=cs.ren0 4002 rfl rfl rfl;have cn:=(cH t r p c).ren0 4002 rfl rfl rfl;have H:=(tz t r p c 2 hc).ren1 4002 rfl rfl rfl;obtain⟨F,m,A,u,B,v,E,d,D⟩:=aJ y;rw[show dR y= .agg (af F m A u B v E d) from congrArg DV.agg D]at cs;dsimp only;rw[zT];unfold gD;dsimp only;by_cases h0:t.1=0
  ·refine zY ?_;refine l6 ?_;refine Gq ?_;exact am
  ·refine zY ?_;refine ox ?_;refine kW ?_;refine kD H ?_;refine Gq ?_;exact am
def An(s:List UInt8)(T:List Tk)(a:Nat)(b:Int)(I:b=2∨b=3)(H:a<=s.length)(i:aa prog 77 [dL s] (ma (.error (a,b))))(m:aa prog 77 [dL (s.take a)] (ma (.ok T)))(J:wS T a):aa prog 35 [dL s] (gD (l0 T b a)):=by
 have L:b≠0:=O_;have i:aa prog 77 [dL s] (.tup [.leaf (.sl 0 []),dN .i64 a,dN .i64 b]):=i;have m:aa prog 77 [dL (s.take a)] (.tup [.leaf (.sl T.length (ce T)),dN .i64 0,dN .i64 0]):=m;obtain⟨x,U⟩:=fP T;have d:=(Bj 0 _).sum T x J.w U;have O:=eU (E:=a) _ _ _ _ J.w J.le U;unfold l0;rw[U];cases x with
 |ok z=>
  obtain⟨e,r⟩:=z;obtain⟨ad,hsz,hwr,Q⟩:=rC J U;obtain⟨t,r,rfl⟩:=hwr.ne;have hz:=J.z t (Q t S_);have d:=d.1.ren0 4002 rfl rfl rfl;have u:=(cH t r 0 0).ren0 4002 rfl rfl rfl;have R:=(i7 t r 0 2).ren1 4002 rfl rfl rfl;dsimp only;obtain⟨Y,A,F,B,G,D,X,v,V⟩:=aM e;rw[show dE e= .agg (af Y A F B G D X v) from congrArg DV.agg V]at d;by_cases h0:t.1=0
  ·rw[if_neg (fun h=>h h0),if_pos L];unfold gD;dsimp only;rcases I with rfl|rfl
   all_goals
    refine kU func35 ?_;refine kR ?_;refine kI ?_;refine kO ?_;refine kQ i ?_;refine mg ah (l:=s) (j:=a) H rfl rfl rfl rfl rfl rfl rfl rfl ?_;refine kQ m ?_;refine kZ d ?_;refine kD u ?_;refine kO ?_;refine kB false ?_ ?_
    ·exact(by simp;omega)
    exact kF
  ·rw[if_pos h0];have W:=hz.2 h0;unfold gD;dsimp only;rcases I with rfl|rfl
   all_goals
    refine kU func35 ?_;refine kR ?_;refine kI ?_;refine kO ?_;refine kQ i ?_;refine mg ah (l:=s) (j:=a) H rfl rfl rfl rfl rfl rfl rfl rfl ?_;refine kQ m ?_;refine kZ d ?_;refine kD u ?_;refine kO ?_;refine kB true ?_ ?_
    ·exact(by simp;omega)
    refine kW ?_;refine kD R ?_;refine kG ?_;iterate 14 refine kO ?_
    refine kT ?_;exact kF
 |error z=>
  obtain⟨p,c⟩:=z;obtain⟨N,y,ag,d,hw⟩:=d;obtain⟨Z,_⟩:=O;obtain⟨t,r,rfl⟩:=hw.ne;have d:=d.ren0 4002 rfl rfl rfl;have u:=(cH t r p c).ren0 4002 rfl rfl rfl;have R:=(tz t r p c 2 N).ren1 4002 rfl rfl rfl;obtain⟨Y,A,F,B,G,D,X,v,V⟩:=aJ y;rw[show dR y= .agg (af Y A F B G D X v) from congrArg DV.agg V]at d;dsimp only;by_cases W:p<a
  ·rw[show qd a b p c=c from if_neg (fun h=>by omega)];unfold gD;dsimp only;by_cases h0:t.1=0
   ·rcases I with rfl|rfl;all_goals
     refine kU func35 ?_;refine kR ?_;refine kI ?_;refine kO ?_;refine kQ i ?_;refine mg ah (l:=s) (j:=a) H rfl rfl rfl rfl rfl rfl rfl rfl ?_;refine kQ m ?_;refine kZ d ?_;refine kD u ?_;refine kO ?_;refine kB false ?_ ?_
     ·exact(by simp;omega)
     refine kG ?_;refine kO4 ?_;refine kB true ?_ ?_
     ·exact(by simp[N])
     iterate 9 refine kO ?_
     refine kT ?_;exact kF
   ·rcases I with rfl|rfl;all_goals
     refine kU func35 ?_;refine kR ?_;refine kI ?_;refine kO ?_;refine kQ i ?_;refine mg ah (l:=s) (j:=a) H rfl rfl rfl rfl rfl rfl rfl rfl ?_;refine kQ m ?_;refine kZ d ?_;refine kD u ?_;refine kO ?_;refine kB true ?_ ?_
     ·exact(by simp;omega)
     refine kW ?_;refine kD R ?_;refine kG ?_;refine kO4 ?_;refine kB true ?_ ?_
     ·exact(by simp[N])
     iterate 9 refine kO ?_
     refine kT ?_;exact kF
  ·obtain rfl:p=a:=O_;rw[show qd p b p c=b from if_pos ⟨rfl,L⟩];unfold gD;dsimp only;by_cases h0:t.1=0
   ·rcases I with rfl|rfl;all_goals
     refine kU func35 ?_;refine kR ?_;refine kI ?_;refine kO ?_;refine kQ i ?_;refine mg ah (l:=s) (j:=p) H rfl rfl rfl rfl rfl rfl rfl rfl ?_;refine kQ m ?_;refine kZ d ?_;refine kD u ?_;refine kO ?_;refine kB false ?_ ?_
     ·exact(by simp;omega)
     refine kG ?_;refine kO4 ?_;refine kB true ?_ ?_
     ·exact(by simp[N])
     iterate 9 refine kO ?_
     refine kE ?_;exact kF
   ·rcases I with rfl|rfl;all_goals
     refine kU func35 ?_;refine kR ?_;refine kI ?_;refine kO ?_;refine kQ i ?_;refine mg ah (l:=s) (j:=p) H rfl rfl rfl rfl rfl rfl rfl rfl ?_;refine kQ m ?_;refine kZ d ?_;refine kD u ?_;refine kO ?_;refine kB true ?_ ?_
     ·exact(by simp;omega)
     refine kW ?_;refine kD R ?_;refine kG ?_;refine kO4 ?_;refine kB true ?_ ?_
     ·exact(by simp[N])
     iterate 9 refine kO ?_
     refine kE ?_;exact kF
def uA(s:List UInt8)(T:List Tk)(c1:aa prog 114 [dL s] (ma (.ok T)))(A:wS T s.length):aa prog 73 [dL s] (gD (l0 T 0 s.length)):=by
 have c1:aa prog 114 [dL s] (.tup [.leaf (.sl T.length (ce T)),dN .i64 0,dN .i64 0]):=c1;obtain⟨x,F⟩:=fP T;have cs:=(Ci s.length 0 0 _).sum T x A.w A.z F;have R:=eU (E:=s.length) _ _ _ _ A.w A.le F;obtain⟨X,W,B⟩:=A.w.ne;have cf0:=(bu X W 0 0 0).ren0 2002 rfl rfl rfl;rw[<- B]at cf0;unfold l0;rw[F];cases x with
 |ok z=>
  obtain⟨e,r⟩:=z;obtain⟨J,hsz,hwr,U⟩:=rC A F;obtain⟨cs,_,L⟩:=cs;obtain⟨t,r,rfl⟩:=hwr.ne;have cs:=cs.ren1 2002 rfl rfl rfl;have cn:=(bu t r 0 0 0).ren0 2002 rfl rfl rfl;have N:=(oj t r 0 0 L).ren0 2002 rfl rfl rfl;have I:=ym (rx e) J hsz;dsimp only;obtain⟨H,i,u,j,v,m,G,d,D⟩:=aM e;have O:dE e= .agg (af H i u j v m G d):=congrArg DV.agg D;rw[O]at cs;rw[show dR (rx e)= .agg (af H i u j v m G d) from congrArg DV.agg D]at I;by_cases h0:t.1=0
  ·rw[if_neg (fun h=>h h0),if_neg (fun h=>h rfl)];by_cases Q:pZ (rx e)<=40
   ·rw[if_pos Q];unfold gD;dsimp only;rw[O];refine Dn ?_;refine Nc ?_;refine l6 ?_;refine kW ?_;refine kC I ?_;refine kE ?_;exact am
   ·rw[if_neg Q,B];unfold gD;dsimp only;refine Dn ?_;refine Nc ?_;refine l6 ?_;refine kW ?_;refine kC I ?_;refine kT ?_;exact am
  ·rw[if_pos h0];rw[zT]at N;unfold gD;dsimp only;refine Dn ?_;refine Nc ?_;refine ox ?_;refine kW ?_;refine kD N ?_;exact am
 |error z=>
  obtain⟨p,c⟩:=z;obtain⟨hc,y,Y,cs,V,_⟩:=cs;obtain⟨t,r,rfl⟩:=V.ne;have cs:=cs.ren1 2002 rfl rfl rfl;rw[zT]at cs;obtain⟨H,i,u,j,v,m,G,d,D⟩:=aJ y;rw[show dR y= .agg (af H i u j v m G d) from congrArg DV.agg D]at cs;dsimp only;rw[zT];unfold gD;dsimp only;refine Dn ?_;refine kW ?_;refine kD cs ?_;refine kG ?_;refine kO4 ?_;refine kB false ?_ ?_
  ·exact F_ hc
  refine Gq ?_;exact am
def uO(s:List UInt8)(T:List Tk)(a:Nat)(b:Int)(U:b=2∨b=3)(R:a<=s.length)(F:aa prog 114 [dL s] (ma (.error (a,b))))(G:aa prog 114 [dL (s.take a)] (ma (.ok T)))(H:wS T a):aa prog 73 [dL s] (gD (l0 T b a)):=by
 have I:b≠0:=O_;have F:aa prog 114 [dL s] (.tup [.leaf (.sl 0 []),dN .i64 a,dN .i64 b]):=F;have G:aa prog 114 [dL (s.take a)] (.tup [.leaf (.sl T.length (ce T)),dN .i64 0,dN .i64 0]):=G;obtain⟨x,V⟩:=fP T;have d:=(Ci a b 0 _).sum T x H.w H.z V;obtain⟨t0,r0,Q⟩:=H.w.ne;have i:=(bu t0 r0 b 0 0).ren0 2002 rfl rfl rfl;rw[<- Q]at i;unfold l0;rw[V];cases x with
 |ok z=>
  obtain⟨e,r⟩:=z;obtain⟨ad,hsz,hwr,L⟩:=rC H V;obtain⟨d,_,u⟩:=d;obtain⟨t,r,rfl⟩:=hwr.ne;have hz:=H.z t (L t S_);have d:=d.ren1 2002 rfl rfl rfl;have Y:=(bu t r b 0 0).ren0 2002 rfl rfl rfl;have N:=(oj t r b 0 u).ren0 2002 rfl rfl rfl;dsimp only;obtain⟨X,v,D,A,E,B,W,m,O⟩:=aM e;rw[show dE e= .agg (af X v D A E B W m) from congrArg DV.agg O]at d;by_cases h0:t.1=0
  ·rw[if_neg (fun h=>h h0),if_pos I];rw[DT u h0 I,hz.1 h0]at N;unfold gD;dsimp only;rcases U with rfl|rfl
   all_goals
    refine kU func73 ?_;refine kR ?_;refine kI ?_;refine kO ?_;refine kQ F ?_;refine mg ah (l:=s) (j:=a) R rfl rfl rfl rfl rfl rfl rfl rfl ?_;refine kQ G ?_;refine kZ i ?_;refine kZ d ?_;refine kD Y ?_;refine kO ?_;refine kB false ?_ ?_
    ·exact(by simp;omega)
    refine kW ?_;refine kD N ?_;exact kF
  ·rw[if_pos h0];rw[B6 u h0]at N;unfold gD;dsimp only;rcases U with rfl|rfl
   all_goals
    refine kU func73 ?_;refine kR ?_;refine kI ?_;refine kO ?_;refine kQ F ?_;refine mg ah (l:=s) (j:=a) R rfl rfl rfl rfl rfl rfl rfl rfl ?_;refine kQ G ?_;refine kZ i ?_;refine kZ d ?_;refine kD Y ?_;refine kO ?_;refine kB true ?_ ?_
    ·exact(by simp;omega)
    refine kW ?_;refine kD N ?_;exact kF
 |error z=>
  obtain⟨p,c⟩:=z;obtain⟨Z,y,ag,d,hw,_⟩:=d;obtain⟨t,r,rfl⟩:=hw.ne;have d:=d.ren1 2002 rfl rfl rfl;have J:qd a b p c≠0:=mM Z;dsimp only;generalize qd a b p c=c3 at *;obtain⟨X,v,D,A,E,B,W,m,O⟩:=aJ y;rw[show dR y= .agg (af X v D A E B W m) from congrArg DV.agg O]at d;unfold gD;dsimp only;rcases U with rfl|rfl;all_goals
   refine kU func73 ?_;refine kR ?_;refine kI ?_;refine kO ?_;refine kQ F ?_;refine mg ah (l:=s) (j:=a) R rfl rfl rfl rfl rfl rfl rfl rfl ?_;refine kQ G ?_;refine kZ i ?_;refine kD d ?_;refine kG ?_;refine kO4 ?_;refine kB false ?_ ?_
   ·exact F_ J
   refine kG ?_;refine kO4 ?_;refine kB true ?_ ?_
   ·exact(by simp[J])
   exact kF
def Dl{T:List Tk}{E m:Nat}(h:mR E T m)(c:m<=500)(e:T.length<=m+1):wS T E:=⟨h.w c,h.z,fun t d=>V_ (h.s t d) O_,by omega⟩
def jf:∀(f:Nat)(r:List UInt8)(e:Nat)(d L:List Tk),dw f r e d= .ok L->L.length<=d.length+r.length+1
 |0,_,_,_,_,h=>by cases h
 |f+1,[],e,d,L,h=>by rw[dw]at h;cases h;simp
 |f+1,c::r,e,d,L,h=>by
  rw[dw]at h;split at h
  ·have:=jf f _ _ _ _ h;simp only[List.length_cons];omega
  ·split at h
   ·cases h
   ·split at h
    ·cases h
    ·have:=jf f _ _ _ _ h;have i:=wM (c::r);simp only[L_,List.length_cons,List.length_nil,n_]at this i ⊢;omega
def RG(s:List UInt8)(x:s.length<=500):aa prog 35 [dL s] (gD (fY s))/\aa prog 73 [dL s] (gD (fY s)):=by
 have h:=gQ (s.length+1) s 0 [] (m_ _);have hlen:=jf (s.length+1) s 0 [];have i:=lp s O_;have j:=md s O_;unfold fY;cases hR:dw (s.length+1) s 0 []with
 |ok L=>
  rw[hR]at h i j hlen;obtain⟨T,h0,rfl,c⟩:=h;try simp only[List.nil_append]at *
  rw[J_]at c;have d:=Dl c x (by have:=hlen _ rfl;simp at this;omega);exact⟨qD s _ i d,uA s _ j d⟩
 |error z=>
  obtain⟨a,b⟩:=z;rw[hR]at h i j;obtain⟨v,_,m,T,h0,c,y⟩:=h;rw[J_]at m;rw[Nat.sub_zero]at c;have q:(s.take a).length=a:=by rw[U_];omega
  have e:=c (a+1) [] (m_ _);rw[List.nil_append]at e;have p:=jf _ _ _ _ _ e;simp only[List.length_nil]at p;have t:=lp (s.take a) O_;have u:=md (s.take a) O_;have d:=Dl y x O_;dsimp only;rw[q,e]at t u ⊢;exact⟨An s T a b v m i t d,uO s T a b v m j u d⟩
def bM:B4->Nat
 | .add=>1
 | .sub=>1
 | .mul=>2
 | .div=>2
def uD:Ex->Nat
 | .num _ _=>4
 | .nam _=>4
 | .neg _=>3
 | .bin k _ _=>bM k
def VH:Ex->Int
 | .num _ _=>1
 | .nam _=>2
 | .neg _=>3
 | .bin k _ _=>k.code
def gW:B4->List UInt8
 | .add=>[32,43,32]
 | .sub=>[32,45,32]
 | .mul=>[32,42,32]
 | .div=>[32,47,32]
noncomputable def Ae(v:Rat):List UInt8:=(fZ v).getD []
def fj(u:List UInt8):List UInt8:=if u=[]then []else 32::u
def gC(d c:Nat)(t:List UInt8):List UInt8:=if d<c then [40]++t++[41]else t
noncomputable def aF:Ex->Nat->List UInt8
 | .num v u,n=>gC 4 n (Ae v++fj u)
 | .nam s,n=>gC 4 n s
 | .neg a,n=>gC 3 n ([45]++aF a 3)
 | .bin k a b,n=>gC (bM k) n (aF a (bM k)++gW k++aF b (bM k+1))
def gR:Ex->Prop
 | .num v u=>(fZ v).isSome=true/\nz 510 v/\(u=[]∨mq u=true)
 | .nam s=>mq s=true
 | .neg a=>gR a
 | .bin _ a b=>gR a/\gR b
def iL(c n:Nat)(t:List UInt8):t.length<=(gC c n t).length/\(gC c n t).length<=t.length+2:=by
 unfold gC;split
 ·simp;omega
 ·omega
def n8(e:Ex)(n:Nat):aF e n=gC (uD e) n (aF e 0):=by have h0:∀(lv:Nat)(t:List UInt8),gC lv 0 t=t:=fun lv t=>if_neg (Nat.not_lt_zero _);cases e<;>simp only[aF,uD,h0]
def oG(e:Ex):aa prog 113 [dN .i64 (VH e)] (.one (dN .i64 (uD e))):=by
 cases e with
 |num v u=>refine kU func113 ?_;exact am
 |nam s=>refine kU func113 ?_;exact am
 |neg a=>refine kU func113 ?_;exact am
 |bin k a b=>
  cases k;all_goals
   refine kU func113 ?_;exact kF
def il{e:Ex}(n:Nat)(G:n<=9)(F:(aF e n).length<=1000000000)(m:aa prog 68 [dE e] (.one (dL (aF e 0)))):aa prog 112 [dE e,dN .i64 n] (.one (dL (aF e n))):=by
 have d:=n8 e n;have t:=iL (uD e) n (aF e 0);rw[<- d]at t;have i:=oG e;obtain⟨B,u,y,v,z,x,E,j,A⟩:=aM e;have D:B=(VH e):=by have h:=congrArg (fun l:List AV=>l[0]?) A;cases e<;>(injection h with h;injection h with h;injection h with _ h;exact h.symm)
 rw[<- D]at i;rw[show dE e= .agg (af B u y v z x E j) from congrArg DV.agg A]at m ⊢;by_cases c:uD e<n
 ·rw[gC,if_pos c]at d;rw[d];refine kU func112 ?_;refine FU ?_;refine kC i ?_;refine Aa ?_;refine kC m ?_;refine aj rfl rfl rfl rfl rfl rfl rfl (aA (a:=[40]) (b:=aF e 0) (by simp;omega)) ?_;refine aj rfl rfl rfl rfl rfl rfl rfl (aA (a:=[40]++aF e 0) (b:=[41]) (by simp;omega)) ?_;exact am
 ·rw[gC,if_neg c]at d;rw[d];refine kU func112 ?_;refine FU ?_;refine kC i ?_;refine tn ?_;refine kC m ?_;exact am
def iG:∀(e:Ex),gR e->(aF e 0).length<=1000000000->aa prog 68 [dE e] (.one (dL (aF e 0)))
 | .num v u,x,m=>by
  obtain⟨E,G,O⟩:=x;obtain⟨t,c,J⟩:=lj G D_;obtain⟨d,F⟩:=Option.isSome_iff_exists.1 E;rw[J d F,E]at c;have e0:aF (.num v u) 0=d++fj u:=by show Ae v++fj u=_;rw[Ae,F];rfl
  rw[e0]at m ⊢;refine KE ?_;by_cases hu:u=[]
  ·subst hu;rw[show fj []=[] from rfl,c_];refine kV func68 ?_;refine kC c ?_;refine kG ?_;refine kO2 ?_;refine JV ?_;exact am
  ·have D:fj u=32::u:=if_neg hu;rw[D]at m ⊢;simp only[L_,List.length_cons]at m;refine kV func68 ?_;refine kC c ?_;refine GE ?_;refine aj rfl rfl rfl rfl rfl rfl rfl (aA (a:=[32]) (b:=u) (by simp;omega)) ?_;refine aj rfl rfl rfl rfl rfl rfl rfl (aA (a:=d) (b:=[32]++u) (by simp;omega)) ?_;exact am
 | .nam s,x,m=>by show aa prog _ [.agg ([.val (.int .i64 2)]++pk++[.val (vL s), .sl 0 []])] (.one (dL s));refine kU func68 ?_;exact am
 | .neg a,x,m=>by have e0:aF (.neg a) 0=[45]++aF a 3:=rfl;rw[e0]at m ⊢;simp only[L_,List.length_cons,List.length_nil]at m;have y:=iL (uD a) 3 (aF a 0);rw[<- n8]at y;have c:=il (e:=a) 3 D_ O_ (iG a x O_);obtain⟨o1,na1,xs1,nb1,ys1,nm1,n1,cs1,z⟩:=aM a;rw[show dE (.neg a)= .agg ([.val (.int .i64 3)]++pk++[.val (vL []), .sl 1 (aE a)]) from congrArg DV.agg (pK a),z];rw[show dE a= .agg (af o1 na1 xs1 nb1 ys1 nm1 n1 cs1) from congrArg DV.agg z]at c;refine kU func68 ?_;refine Qw ?_;refine kO ?_;refine kC c ?_;refine aj rfl rfl rfl rfl rfl rfl rfl (aA (a:=[45]) (b:=aF a 3) (by simp;omega)) ?_;exact am
 | .bin k a b,x,m=>by
  have e0:aF (.bin k a b) 0=aF a (bM k)++gW k++aF b (bM k+1):=by show gC (bM k) 0 _=_;exact if_neg (Nat.not_lt_zero _)
  rw[e0]at m ⊢;simp only[L_]at m;have y:=iL (uD a) (bM k) (aF a 0);rw[<- n8]at y;have B:=iL (uD b) (bM k+1) (aF b 0);rw[<- n8]at B;have H:bM k<=2:=by cases k<;>decide
  have ca:=il (e:=a) (bM k) O_ O_ (iG a x.1 O_);have cb:=il (e:=b) (bM k+1) O_ O_ (iG b x.2 O_);have cl:=oG (.bin k a b);obtain⟨o1,na1,xs1,nb1,ys1,nm1,n1,cs1,z⟩:=aM a;obtain⟨o2,na2,xs2,nb2,ys2,nm2,n2,cs2,A⟩:=aM b;rw[show dE (.bin k a b)= .agg ([.val (.int .i64 k.code)]++pk++[.val (vL []), .sl 2 (aE a++aE b)]) from congrArg DV.agg (mS k a b),z,A];rw[show dE a= .agg (af o1 na1 xs1 nb1 ys1 nm1 n1 cs1) from congrArg DV.agg z]at ca;rw[show dE b= .agg (af o2 na2 xs2 nb2 ys2 nm2 n2 cs2) from congrArg DV.agg A]at cb;have I:(gW k).length=3:=by cases k<;>rfl
  generalize L:aF a (bM k)=ta at *;generalize N:aF b (bM k+1)=tb at *;cases k
  ·refine kV func68 ?_;refine aS (i:=0) (cs':=[.val (vL (gW .add))]) D_ (fun j a h=>by
    match j,h with
    |0,h=>exact h) D_ rfl rfl rfl rfl rfl rfl rfl rfl ?_
   refine LJ ?_;refine aj rfl rfl rfl rfl rfl rfl rfl (aA (a:=ta) (b:=gW .add) O_) ?_;refine Lp ?_;refine aj rfl rfl rfl rfl rfl rfl rfl (aA (a:=ta++gW .add) (b:=tb) (by rw[L_];omega)) ?_;exact am
  ·refine kV func68 ?_;refine aS (i:=1) (cs':=[.val (vL (gW .sub))]) D_ (fun j a h=>by
    match j,h with
    |0,h=>exact h) D_ rfl rfl rfl rfl rfl rfl rfl rfl ?_
   refine LJ ?_;refine aj rfl rfl rfl rfl rfl rfl rfl (aA (a:=ta) (b:=gW .sub) O_) ?_;refine Lp ?_;refine aj rfl rfl rfl rfl rfl rfl rfl (aA (a:=ta++gW .sub) (b:=tb) (by rw[L_];omega)) ?_;exact am
  ·refine kV func68 ?_;refine aS (i:=2) (cs':=[.val (vL (gW .mul))]) D_ (fun j a h=>by
    match j,h with
    |0,h=>exact h) D_ rfl rfl rfl rfl rfl rfl rfl rfl ?_
   refine LJ ?_;refine aj rfl rfl rfl rfl rfl rfl rfl (aA (a:=ta) (b:=gW .mul) O_) ?_;refine Lp ?_;refine aj rfl rfl rfl rfl rfl rfl rfl (aA (a:=ta++gW .mul) (b:=tb) (by rw[L_];omega)) ?_;exact am
  ·refine kV func68 ?_;refine aS (i:=3) (cs':=[.val (vL (gW .div))]) D_ (fun j a h=>by
    match j,h with
    |0,h=>exact h) D_ rfl rfl rfl rfl rfl rfl rfl rfl ?_
   refine LJ ?_;refine aj rfl rfl rfl rfl rfl rfl rfl (aA (a:=ta) (b:=gW .div) O_) ?_;refine Lp ?_;refine aj rfl rfl rfl rfl rfl rfl rfl (aA (a:=ta++gW .div) (b:=tb) (by rw[L_];omega)) ?_;exact am
def nO{P:Program}{w:World}(t u ty:TypeId)(e:TypeId)(i:TypeInfo)(ht:P.underlying t=some (.slice e))(d:P.underlying u=some .string)(hi:P.info? e=some i)(hz:i.zero=some (.int .u8 0))(I:i.size=1)(hby:i.bytes=1)(v:Value)(n:Nat)(xs:List Value)(G:w.ownsRow 0 e 1 v n xs)(s:ByteArray)(hm:0<s.size)(ad:n+s.size<=maxLen)(a0:n+s.size<=140737488355328):
 ∃g x V,(Builtin.append_ #[t,u] ty #[v, .string s]).run P w= .ok (.slice (some ⟨g,0,none⟩) (n+s.size) x) V /\
  V.ownsRow 0 e 1 (.slice (some ⟨g,0,none⟩) (n+s.size) x) (n+s.size) (xs++Lib.strCells s)/\w.grownBy V v.ownBlock/\(v.ownBlock=some g∨g=w.heap.size)/\g<V.heap.size /\
  (v.ownBlock≠some g-> ∀b,b<w.heap.size->V.heap[b]? =w.heap[b]?) /\
  (∀y,v.ownBlock=some g->w.heap[g]? =some (.cells y e (0,0))-> ∀c,V.heap[g]? =some (.cells c e (0,0))->c.size=y.size) /\
  (∀(p:Value->Prop),p (.int .u8 0)->(∀u∈Lib.strCells s,p u)->(∀b,v.ownBlock=some b-> ∀y,w.heap[b]? =some (.cells y e (0,0))-> ∀u∈y.toList,p u)-> ∀c,V.heap[g]? =some (.cells c e (0,0))-> ∀u∈c.toList,p u):=by
 have a1:n+s.size<=9223372036854775807:=by simp only[maxLen]at ad;omega
 have L:xs.length=n:=by simpa using G.1
 have hsl:(Lib.strCells s).length=s.size:=Lib.strCells_length s;have hlen:(xs++Lib.strCells s).length=(n+s.size)*1:=by rw[L_,L,hsl,o_]
 have pz:∀(p:Value->Prop)k,p (.int .u8 0)-> ∀u∈(Builtin.zeroCells (Value.int .u8 0).cells k).toList,p u:=by
  intro p k hp u d;obtain⟨q,hq⟩:=W_ d;obtain⟨a5,al⟩:=(G_.1 hq);simp only[Builtin.zeroCells]at al a5;rw[<- al];have A:(Value.int IntKind.u8 0).cells= #[.int .u8 0]:=rfl;simp only[Array.getElem_toList,Array.getElem_map,Array.getElem_range,A];have h1:(#[Value.int IntKind.u8 0]:Array Value).size=1:=rfl;have O:q%(#[Value.int IntKind.u8 0]:Array Value).size=0:=by rw[h1];omega
  rw[O];exact hp
 have E:∀(m:Nat),m<n+s.size-> ∀(ao:Option Nat),
  (w.drew.alloc (.cells (xs.toArray++(Lib.strCells s).toArray++Builtin.zeroCells (Value.int .u8 0).cells (grownCap w (n+s.size) m e-(n+s.size))) e)).ownsRow 0 e 1
   (.slice (some ⟨w.heap.size,0,none⟩) (n+s.size) (grownCap w (n+s.size) m e)) (n+s.size) (xs++Lib.strCells s) /\
  w.grownBy (w.drew.alloc (.cells (xs.toArray++(Lib.strCells s).toArray++Builtin.zeroCells (Value.int .u8 0).cells (grownCap w (n+s.size) m e-(n+s.size))) e)) ao:=by
  intro m ho ao;have a4:=grownCap_ge w (n+s.size) m e;have R:grownCap w (n+s.size) m e<=maxLen:=grownCap_le_maxLen w (n+s.size) m e ad;refine⟨⟨hlen, .inr ⟨w.heap.size,_,_,rfl,Nat.zero_le _,heap_alloc_new w.drew _,a4,R,?_,?_⟩⟩,⟨rfl,rfl,rfl,by simp,fun k hk _=>Below.heap_alloc w.drew _ k hk⟩⟩
  ·have bb:(Value.int IntKind.u8 0).cells.size=1:=rfl;simp only[Array.size_append,List.size_toArray,size_zeroCells,bb,L,hsl];omega
  ·simp only[Array.toList_append,e_];rw[<- e_,<- hlen];exact List.take_left
 have D:∀(m:Nat)(p:Value->Prop),p (.int .u8 0)->(∀u∈Lib.strCells s,p u)->(∀u∈xs,p u)-> ∀c,(w.drew.alloc (.cells (xs.toArray++(Lib.strCells s).toArray++Builtin.zeroCells (Value.int .u8 0).cells (grownCap w (n+s.size) m e-(n+s.size))) e)).heap[w.heap.size]? =some (.cells c e (0,0))-> ∀u∈c.toList,p u:=by
  intro m p O Q Z c A u d;have h5:=heap_alloc_new w.drew (.cells (xs.toArray++(Lib.strCells s).toArray++Builtin.zeroCells (Value.int .u8 0).cells (grownCap w (n+s.size) m e-(n+s.size))) e);have h6:(w.drew.alloc (.cells (xs.toArray++(Lib.strCells s).toArray++Builtin.zeroCells (Value.int .u8 0).cells (grownCap w (n+s.size) m e-(n+s.size))) e)).heap[w.heap.size]? =some (.cells (xs.toArray++(Lib.strCells s).toArray++Builtin.zeroCells (Value.int .u8 0).cells (grownCap w (n+s.size) m e-(n+s.size))) e (0,0)):=h5;rw[h6]at A;simp only[X_,Obj.cells.injEq]at A;rw[<- A.1]at d;simp only[Array.toList_append,List.mem_append]at d;rcases d with(d|d)|d
  ·exact Z u (by simpa using d)
  ·exact Q u (by simpa using d)
  ·exact pz p _ O u d
 rcases G.2 with⟨rfl,rfl⟩| ⟨g,x,c,rfl,a2,W,bk,R,a3,J⟩
 ·have hx:xs=[]:=E_ L;subst hx;have X:=run_append_nil_string (P:=P) w t u ty e i (.int .u8 0) ht d hi hz s hm O_ (by rw[hby];omega);have B:=E 0 O_ (Value.ownBlock (.slice none 0 0));have ag:=D 0;simp only[J_,List.nil_append,Array.empty_append]at B ag ⊢;have e1:(s.data.map fun b=>Value.int .u8 b.toNat)=(Lib.strCells s).toArray:=by apply Array.ext';simp[Lib.strCells]
  rw[e1]at X;refine⟨_,_,_,X,B.1,B.2,Or.inr rfl,?_,fun _ b hb=>Below.heap_alloc w.drew _ b hb,fun _ h=>by simp[Value.ownBlock]at h,fun p O Q _=>ag p O Q (fun u d=>by cases d)⟩;show w.heap.size<(w.heap.push _).size;simp
 ·by_cases H:n+s.size<=x
  ·have be:c.size=x:=by simpa using a3
   have X:=Lib.run_append_room_string (P:=P) w t u ty e i ht d hi I g n x c W s H O_;have z:=setRow_heap w g c (c.toList.take n++Lib.strCells s++c.toList.drop (n+s.size)).toArray e (0,0) W;refine⟨g,x,_,X,⟨hlen, .inr ⟨g,x,_,rfl,a2,z,H,R,?_,?_⟩⟩,⟨rfl,rfl,rfl,by simp,fun k _ hk=>setRow_other w g k _ (fun e=>hk (by simp[Value.ownBlock,e]))⟩,Or.inl rfl,?_,fun h=>absurd rfl h,?_,?_⟩
   ·exact OO
   ·have a9:c.toList.take n=xs:=by simpa using J
    rw[a9,<- hlen];exact List.take_left
   ·exact(A_.1 z).1
   ·intro y _ F Y A;rw[z]at A;rw[W]at F;simp only[X_,Obj.cells.injEq]at A F;rw[<- A.1,<- F.1];exact OO
   ·intro p _ Q Z Y A u d;rw[z]at A;simp only[X_,Obj.cells.injEq]at A;rw[<- A.1]at d;simp only[List.mem_append]at d;have N:=Z g rfl c W;rcases d with(d|d)|d
    ·exact N u (List.mem_of_mem_take d)
    ·exact Q u d
    ·exact N u (List.mem_of_mem_drop d)
  ·have U:∀j u,xs[j]? =some u->w.cell? ((⟨g,0,none⟩:Addr).add j)=some u:=G.cells (g:=g) rfl;have X:=Lib.run_append_grow_string (P:=P) w t u ty e i (.int .u8 0) ht d hi hz ⟨g,0,none⟩ n x xs (by rw[I];simpa using L) U s O_ O_ (by rw[hby];exact growslice_fits O_ O_);have B:=E x O_ (Value.ownBlock (.slice (some ⟨g,0,none⟩) n x));have bj:g<w.heap.size:=(A_.1 W).1;refine⟨_,_,_,X,B.1,B.2,Or.inr rfl,?_,fun _ b hb=>Below.heap_alloc w.drew _ b hb,fun y h=>?_,fun p O Q Z=>D x p O Q (fun u d=>Z g rfl c W u ?_)⟩
   ·show w.heap.size<(w.heap.push _).size;simp
   ·simp only[Value.ownBlock,X_]at h;omega
   ·rw[<- J]at d;exact List.mem_of_mem_take d
def ry(l:List UInt8):List AV:=l.map fun c=>AV.val (.int .u8 c.toNat)
def DZ(l:List UInt8):(ry l).length=l.length:=by simp[ry]
def Mm(l m:List UInt8):ry (l++m)=ry l++ry m:=by simp[ry]
def vg(l:List UInt8):Lib.strCells (Bs l)=l.map fun c=>Value.int .u8 c.toNat:=by simp[Lib.strCells,Bs]
def UG(S:Nat->Prop)(w:World)(l:List UInt8):CM S w (ry l) (Lib.strCells (Bs l)):=by rw[vg];refine⟨by simp[ry],fun i a v d e=>?_⟩;simp only[ry,List.getElem?_map,Option.map_eq_some_iff]at d e;obtain⟨c,j,rfl⟩:=d;obtain⟨m,h,rfl⟩:=e;rw[j]at h;cases h;exact .val rfl
section
variable {P:Program}{T:TypeId->Option Ty}{n:Nat}{ops:Array Oper}{id:Nat}{draw:Bool}{K:AS->Prop}{s:AS}{k:Nat}{o:Oper}{os:List Oper}{fps:List FP}
structure KF (P:Program) (t u e:TypeId):Prop where
 sl:P.underlying t=some (.slice e)
 str:P.underlying u=some .string
 inf:∃i,P.info? e=some i/\i.zero=some (.int .u8 0)/\i.size=1/\i.bytes=1
def Ix(j':Nat){d:Nat}{x y:Operand}{t u J m1 m:Nat}{dead:Option Nat}{cs cs':List AV}{l:List UInt8}(em:m1+l.length=m)(ec:cs.take (m1*1)++ry l=cs')(D:KF P t u J)(hm:l≠[])(hb:m1+l.length<=140737488355328)(h0:draw=false)(h1:gd ops s o=some true)(ho:o.op= .call ⟨.builtin .append,#[x,y],#[t,u]⟩)(hd:o.dst=some d)(h3:aO n o.dst=true)(e:gm s x m1 1 J dead cs)(hy:s.ev y= .d (.leaf (.val (vL l))))(hnew:jh s j'=true)(G:my dead=true)(h:aw P T n ops id draw K (k+1) os ⟨(d, .own j' m 1 J)::s.t,(j',some cs')::jl dead s.b⟩ (aH ops o ⟨.junk,none⟩ []::fps)):aw P T n ops id draw K k (o::os) s fps:=by
 subst em ec;refine .snd h0 h1 (fun S0 w0 g a w K' Q U hK=>?_) h;obtain⟨i,hi,hz,W,V⟩:=D.inf;obtain⟨v,X,I,z,p,q,E⟩:=s9 U e;have Y:=bn U hy;have hsz:(Bs l).size=l.length:=an l;have H:0<(Bs l).size:=by rw[hsz];exact List.length_pos_iff.2 hm
 obtain⟨B,ag,w',hr,h2,R,h4,_,h5,h6,h7⟩:=nO (P:=P) (w:=w) t u o.type J i D.sl D.str hi hz W V v m1 I z (Bs l) H (by unfold maxLen;omega) O_;rw[hsz]at hr h2;have:=sQ (d:=d) U (eI h3 d hd) e (xs:=ry l) (m2:=l.length) (by rw[DZ];omega) (dt hnew) (oH hnew) z p q E (UG _ _ l) h2 R h4 h5 h6 (fun al L hc u' F=>by
  refine h7 (fun u=>iV u=true) rfl (fun u F=>?_) (fun b hb ad A u F=>?_) L hc u' F
  ·rw[vg]at F;obtain⟨c,_,rfl⟩:=List.mem_map.1 F;rfl
  ·obtain⟨j,hj,rfl⟩:=p b hb;obtain⟨_,Z,N,O⟩:=q j hj;rw[N]at A;simp only[X_,Obj.cells.injEq]at A;obtain⟨rfl,_⟩:=A;rw[hj]at G;exact O (by simpa[my]using G) u F)
 unfold Oper.wp execOp;simp only[ho,resolve,invoke,builtin,Y_,a_,R_,List.map_toArray,List.map_cons,List.map_nil,X,Y,vL,hr];show K' (a.put o.dst _) w';rw[hd];exact hK _ _ _ this
def TK(t:(P.info? wm).bind (·.zero)=some (.agg #[.pointer none, .slice none 0 0])){d:Nat}(e:gd ops s o=some true)(q:o.op= .alloc wm)(m:o.dst=some d)(p:ak s.b 850=none)(i:aO n o.dst=true)(j:gO draw ops (aH ops o ⟨.box 850 0,some [(850,some [.val (.pointer none), .nl])]⟩ [850]) k fps=true)(h:aw P T n ops id draw K (k+1) os (s.eff o.dst ⟨.box 850 0,some [(850,some [.val (.pointer none), .nl])]⟩) (aH ops o ⟨.box 850 0,some [(850,some [.val (.pointer none), .nl])]⟩ [850]::fps)):aw P T n ops id draw K k (o::os) s fps:=
 .run e (.gen fun x _ c=>ph m ⟨(c 850 S_).trans p,rfl⟩ (fun n u y g a w v=>by refine⟨#[.pointer none, .slice none 0 0],wm,?_,CM.cons (.val rfl) (CM.cons .nl (CM.nil _ _)),fun _=>⟨rfl,rfl⟩⟩;unfold execOp;rw[q];simp only[Instr.alloc,Y_,jk t w,R_];rfl) rfl) i j h
end
def Kc:KF prog 137 9 5:=⟨underlying137,underlying9,by obtain⟨i,d,c⟩:=Option.map_eq_some_iff.1 rX;simp only[Prod.mk.injEq]at c;exact⟨i,d,c.1,c.2.1,c.2.2⟩⟩
def yj:((prog).info? wm).bind (·.zero)=some (.agg #[.pointer none, .slice none 0 0]):=by kernel_rfl
def PO:Ty:=⟨true,2,32,[.val (.pointer none), .nl],[(0,1,false),(1,1,false)],none,false,false,none⟩
def Qr:bl prog 139 PO where
 size:=by kernel_rfl
 bytes:=by kernel_rfl
 und:=by
  refine⟨_,underlying139,rfl,fun c k h=>(by cases h),fun d h=>?_,fun h=>(by cases h),fun h=>(by cases h),fun k h=>(by cases h),fun f o k b h=>?_⟩
  ·cases h;rfl
  ·match f,h with
   |0,h=>cases h;exact⟨_,_,_,rfl,rfl,rfl,by kernel_rfl,by decide,underlying136,rfl⟩
   |1,h=>cases h;exact⟨_,_,_,rfl,rfl,rfl,by kernel_rfl,by decide,underlying137,rfl⟩
   |n+2,h=>simp[PO]at h
 zero:=⟨_,yj,fun S w=>CM.cons (.val rfl) (CM.cons .nl (CM.nil _ _))⟩
 zlen:=rfl
section
variable {P:Program}{T:TypeId->Option Ty}{n:Nat}{ops:Array Oper}{id:Nat}{draw:Bool}{K:AS->Prop}{s:AS}{k:Nat}{o:Oper}{os:List Oper}{fps:List FP}
def TP{t:TypeId}{ty:Ty}{x:Operand}{f off E j i:Nat}{p:Bool}{cs:List AV}(y:bl P t ty)(z:ty.flds[f]? =some (off,E,p))(q:gd ops s o=some true)(m:o.op= .fieldAddr t x f)(D:s.ev x= .box j i)(A:s.bx j=some cs)(u:aO n o.dst=true)(v:gO draw ops (aH ops o ⟨.box j (i+off),none⟩ [j]) k fps=true)(h:aw P T n ops id draw K (k+1) os (s.eff o.dst ⟨.box j (i+off),none⟩) (aH ops o ⟨.box j (i+off),none⟩ [j]::fps)):aw P T n ops id draw K k (o::os) s fps:=
 .run q (.gen fun H B c=>by have d:=(aP B (x:=x) (by simp[m,Op.operands])).trans D;exact j3 y m z d rfl (fun F G e=>by cases e;exact⟨cs,(f6 (c j S_)).trans A⟩)) u v h
def Oh{v:Value}(m:v.oneCell'=true)(c:gd ops s o=some true)(j:o.op= .assign (.const v))(e:aO n o.dst=true)(i:gO draw ops (aH ops o ⟨.d (.leaf (.val v)),none⟩ []) k fps=true)(h:aw P T n ops id draw K (k+1) os (s.eff o.dst ⟨.d (.leaf (.val v)),none⟩) (aH ops o ⟨.d (.leaf (.val v)),none⟩ []::fps)):aw P T n ops id draw K k (o::os) s fps:=
 .run c (.gen fun t _ _=>ar (tv:= .d (.leaf (.val v))) fun n p u g a w q=>⟨v,w,(by unfold execOp;rw[j];rfl),Below.refl _ _,AV.M.val m⟩) e i h
end
section
open Go.Shelf Go.RowKit
abbrev AO:BL:=[(950,[.val (.pointer none), .nl])]
abbrev iT(r:Nat)(l:List UInt8):BL:=[(950,[.bp 950 0, .ow r l.length 1 5]),(r,ry l)]
def DJ{r:Nat}{l:List UInt8}:eL AO (iT r l):=fun j e c h d=>by obtain⟨rfl,rfl⟩:=ct.1 h;have d:some _=some c:=d;cases d;exact l_ 2
def rM{r m:Nat}{l l':List UInt8}(q:(r == m)=false)(u:(r == 950)=false)(i:(m == 950)=false):eL (iT r l) (iT m l'):=fun j t d h c=>by
 rw[beq_eq_false_iff_ne]at q u i;rw[dj]at h c;by_cases e:j=950
 ·subst e;have h:some (some _)=some (some t):=h;have c:some (some _)=some (some d):=c;cases h;cases c;exact l_ 2
 ·rw[aB,az _ _ (Ne.symm e),aB]at h c;by_cases p:r=j
  ·subst p;rw[az _ _ (Ne.symm q)]at c;cases c
  ·rw[az _ _ p]at h;cases h
def UH{S:Nat->Prop}{w:World}{v:Value}(h:AV.M S w .nl v):v= .slice none 0 0:=by cases h;rfl
def I4{S:Nat->Prop}{g:Nat->Nat}{b:BL}{r:RT}{w:World}{v:Value}(h:NV S g w b)(m:TV.M (Own S g (sB b)) g (sB b) w r.tv v):wE S g b r b w (.returned v) w:=
 ⟨v,g,rfl,fun j p c i d=>by rw[i]at d;cases d;exact⟨rfl,l_ _⟩,fun j c e=>⟨.inr ⟨j,c,e,rfl⟩,h.bm j c e⟩,h.inj,m,cu.refl _ _⟩
def TM{S:Nat->Prop}{g:Nat->Nat}{s:AS}{w:World}:TV.M S g s w (RT.v (.tup [])).tv (.tuple #[]):=⟨[],rfl,rfl,fun i x u c _=>by simp at c⟩
def xG{S:Nat->Prop}{g:Nat->Nat}{b:BL}{w:World}{j:Nat}{cs:List AV}{vs:List Value}(c:(sB b).bx j=some cs)(d:qK S g (sB b) w [.box j 0] vs):vs=[.pointer (some ⟨g j,0,none⟩)]:=by
 match vs,d with
 | [v],⟨h,_⟩=>rw[h.2 cs c]
def LV(r:Nat)(l:List UInt8):ay prog 145 [.box 950 0] (iT r l) (.v (.tup [])) (iT r l):=by
 refine⟨aD func145 rfl rfl,fun S g w u d p=>?_⟩;have h:(sB (iT r l)).bx 950=some [.bp 950 0, .ow r l.length 1 5]:=rfl;rw[xG h p];obtain⟨c,e,i,t,_,j,m⟩:=d.bm 950 _ h;have hlen:=(m rfl).2;have h0:w.cell? ⟨g 950,0,none⟩=some (.pointer (some ⟨g 950,0,none⟩)):=by
  rw[fy i];have q:c.toList[0]? =some c[0]:=by simp[hlen]
  have:=j rfl 0 (.bp 950 0) c[0] rfl q;rw[show c[0]? =some c[0] by simp[hlen],this.2 _ h]
 refine(ke (g 950) w h0).mono ?_;rintro e x ⟨rfl,rfl⟩;exact I4 d TM
def E3{w:World}{B:Nat}{arr:Array Value}{e:TypeId}{v:Value}(h:w.heap[B]? =some (.cells arr e (0,0))):(w.setCell ⟨B,0,none⟩ v).heap[B]? =some (.cells (arr.setIfInBounds 0 v) e (0,0)):=by simp[World.setCell,Array.getElem?_modify,h]
def B5{w:World}{B k:Nat}{v:Value}(h:k≠B):(w.setCell ⟨B,0,none⟩ v).heap[k]? =w.heap[k]?:=by simp[World.setCell,Array.getElem?_modify,Ne.symm h]
def Ic:ay prog 145 [.box 950 0] AO (.v (.tup [])) [(950,[.bp 950 0, .nl])]:=by
 refine⟨aD func145 rfl rfl,fun S g w V t p=>?_⟩;have x:(sB AO).bx 950=some [.val (.pointer none), .nl]:=rfl;rw[xG x p];obtain⟨m,e,q,F,H,R,I⟩:=t.bm 950 _ x;obtain⟨rfl,hlen⟩:=I rfl;have A:=F.2 0 (.val (.pointer none)) m[0] rfl (by simp[hlen]);have B:=F.2 1 .nl m[1] rfl (by simp[hlen]);have h0:w.cell? ⟨g 950,0,none⟩=some (.pointer none):=by rw[fy q,show m[0]? =some m[0] by simp[hlen],bc A]
 refine(j5 (g 950) w h0 (by simp[World.shape?,q,hlen];rfl) (by simp[World.frozen?,q])).mono ?_;rintro e W ⟨rfl,rfl⟩;have G:=E3 (v:= .pointer (some ⟨g 950,0,none⟩)) q;have U:∀c E,Own S g (sB [(950,c)])=Own S g (sB [(950,E)]):=fun c E=>by rw[lL,lL]
 refine⟨_,g,rfl,?_,?_,?_,TM,?_⟩
 ·intro j O z D u;obtain⟨rfl,rfl⟩:=ct.1 D;obtain⟨_,rfl⟩:=ct.1 u;exact⟨rfl,l_ _⟩
 ·intro j z u;obtain⟨rfl,rfl⟩:=ct.1 u;refine⟨.inr ⟨950,_,x,rfl⟩,_,_,G,⟨by simp[hlen],fun i a v d p=>?_⟩,fun _ v p=>?_,fun _ i a v d p=>?_,fun _=>⟨rfl,by simp[hlen]⟩⟩
  ·match i,d with
   |0,d=>
    cases d;have:v= .pointer (some ⟨g 950,0,none⟩):=by simpa[hlen]using p.symm
    subst this;exact .bp rfl
   |1,d=>
    cases d;have:v=m[1]:=by simpa[hlen]using p.symm
    subst this;rw[UH B];exact .nl
  ·simp only[Array.toList_setIfInBounds]at p;rcases List.mem_or_eq_of_mem_set p with h|h
   ·exact H rfl v h
   ·subst h;rfl
  ·match i,d with
   |0,d=>
    cases d;have:v= .pointer (some ⟨g 950,0,none⟩):=by simpa[hlen]using p.symm
    subst this;exact⟨⟨_,rfl⟩,fun _ _=>rfl⟩
   |1,d=>cases d;trivial
 ·intro i j L N D u _;rw[(ct.1 D).1,(ct.1 u).1]
 ·refine⟨rfl,rfl,rfl,by simp[World.setCell],fun k J y=>?_,fun k J y a e Q d=>?_⟩
  ·exact B5 (fun h=>y ⟨950,_,x,h.symm⟩)
  ·rw[Bz]at y;subst y;rw[q]at d;cases d;exact⟨_,_,G,by simp⟩
def FO(l:List UInt8)(i:l≠[])(hs:l.length<=100000000000000):g7 prog 103 [.box 950 0, .d (dL l)] AO (.v (.tup [dN .i64 l.length, .leaf (.val .nilIface)])) (iT 701 l):=by
 have c:=an l;refine tU ah dz func103 rfl rfl rfl rfl rfl DJ ?_;refine kW ?_;refine kD Ic ?_;refine yp ?_;refine kW ?_;refine Ix 701 (J_ _) rfl Kc i O_ rfl rfl rfl rfl rfl (.nil rfl rfl) rfl rfl rfl ?_;refine yp ?_;refine kG ?_;refine kO ?_;refine bW (v':= .int .i64 ((l.length:Nat))) rfl rfl rfl rfl ?_ ?_
 ·exact congrArg (Value.int .i64) (by rw[c])
 refine kO ?_;refine Oh rfl rfl rfl rfl rfl ?_;exact Ke
def EI(l m:List UInt8)(j:m≠[])(hs:l.length+m.length<=100000000000000):g7 prog 103 [.box 950 0, .d (dL m)] (iT 700 l) (.v (.tup [dN .i64 m.length, .leaf (.val .nilIface)])) (iT 701 (l++m)):=by
 have i:=an m;have c:ry (l++m)=(ry l).take (l.length*1)++ry m:=by rw[Mm,o_,K_ (by rw[DZ];exact l_ _)]
 refine tU ah dz func103 rfl rfl rfl rfl rfl (rM rfl rfl rfl) ?_;refine kW ?_;refine kD (LV 700 l) ?_;refine yp ?_;refine kW ?_;refine Ix 701 (L_).symm c.symm Kc j O_ rfl rfl rfl rfl rfl (.own rfl rfl) rfl rfl rfl ?_;refine yp ?_;refine kG ?_;refine kO ?_;refine bW (v':= .int .i64 ((m.length:Nat))) rfl rfl rfl rfl ?_ ?_
 ·exact congrArg (Value.int .i64) (by rw[i])
 refine kO ?_;refine Oh rfl rfl rfl rfl rfl ?_;exact Ke
end
section
open Go.Shelf Go.RowKit
def l9(a:Nat):Bool:=Nat.ble 700 a && Nat.ble a 740
def Cw{a:Nat}(h:l9 a=true):700<=a/\a<=740:=by simp only[l9,B_]at h;exact⟨N_ h.1,N_ h.2⟩
def Cm{a:Nat}(h:l9 a=true):cL a=false/\cX a=false/\im a=false:=by
 have:=Cw h;refine⟨?_,?_,?_⟩
 ·unfold cL;cases hb:Nat.ble 1000000 a
  ·rfl
  ·have:=N_ hb;omega
 ·have e:a/50=14:=O_;unfold cX;rw[e];rfl
 ·have c:Nat.beq (a/10) 85=false:=by
   cases hb:Nat.beq (a/10) 85
   ·rfl
   ·have:=Nat.eq_of_beq_eq_true hb;omega
  have d:Nat.beq (a/10) 95=false:=by
   cases hb:Nat.beq (a/10) 95
   ·rfl
   ·have:=Nat.eq_of_beq_eq_true hb;omega
  unfold im;rw[c,d];rfl
def Kl{a b:Nat}(h:l9 a=true)(i:l9 b=true):om a b=true:=by obtain⟨c,d,e⟩:=Cm h;obtain⟨j,m,p⟩:=Cm i;rw[om,c,d,e,j,m,p];rfl
def A6{x y:Nat}(c:l9 x=true)(d:l9 y=true):sw x y 950=950:=by have:=Cw c;have:=Cw d;unfold sw;rw[if_neg O_,if_neg O_]
def Vf{x y r:Nat}(d:l9 x=true)(e:l9 y=true)(c:l9 r=true):l9 (sw x y r)=true:=by
 unfold sw;split
 ·exact e
 ·split
  ·exact d
  ·exact c
def B0{x y r:Nat}(l:List UInt8)(h:l9 x=true)(i:l9 y=true)(e:l9 r=true):pa x y (iT r l)=iT (sw x y r) l:=by
 have c:vk x y 950 [.bp 950 0, .ow r l.length 1 5]=[.bp (sw x y 950) 0, .ow (sw x y r) l.length 1 5]:=rfl;have d:vk x y r (ry l)=ry l:=by unfold vk;rw[(Cm e).2.1]
 show [(sw x y 950,vk x y 950 _),(sw x y r,vk x y r (ry l))]=_;rw[c,d,A6 h i]
def QM{x y:Nat}(d:l9 x=true)(e:l9 y=true):pa x y AO=AO:=by have c:vk x y 950 [.val (.pointer none), .nl]=[.val (.pointer none), .nl]:=rfl;show [(sw x y 950,vk x y 950 _)]=_;rw[c,A6 d e]
def CW{x y:Nat}(c:l9 x=true)(e:l9 y=true)(ds:List DV):(TV.box 950 0::ds.map .d).map (RI x y)= .box 950 0::ds.map .d:=by rw[List.map_cons,List.map_map];show TV.box (sw x y 950) 0::_=_;rw[A6 c e];congr 1
section
variable {C:List TV->BL->RT->BL->Prop}(hs:∀{ts:List TV}{l:BL}{r:RT}{l':BL}(a b:Nat),om a b=true->C ts l r l'->C (ts.map (RI a b)) (pa a b l) (SZ a b r) (pa a b l'))
include hs
def Iy{ds:List DV}{r:RV}{l m:List UInt8}{p q:Nat}(x y:Nat)(c:l9 x=true)(e:l9 y=true)(i:l9 p=true)(j:l9 q=true)(h:C (.box 950 0::ds.map .d) (iT p l) (.v r) (iT q m)):C (.box 950 0::ds.map .d) (iT (sw x y p) l) (.v r) (iT (sw x y q) m):=by have:=hs x y (Kl c e) h;rw[CW c e,B0 l c e i,B0 m c e j]at this;exact this
def Ev{ds:List DV}{r:RV}{l m:List UInt8}(a b:Nat)(j:l9 a=true)(z:l9 b=true)(c:(a == b)=false)(h:C (.box 950 0::ds.map .d) (iT 700 l) (.v r) (iT 701 m)):C (.box 950 0::ds.map .d) (iT a l) (.v r) (iT b m):=by
 have q:=Iy hs 700 a rfl j rfl rfl h;have u:l9 (sw 700 a 701)=true:=Vf rfl j rfl;have p:sw 700 a 700=a:=if_pos rfl;have i:sw 700 a 701≠a:=fun e=>by have:=xC (e.trans p.symm);omega
 rw[p]at q;have t:=Iy hs (sw 700 a 701) b u z j u q;rw[beq_eq_false_iff_ne]at c;have x:sw (sw 700 a 701) b a=a:=by unfold sw at i ⊢;rw[if_neg (Ne.symm i),if_neg c]
 have y:sw (sw 700 a 701) b (sw 700 a 701)=b:=if_pos rfl;rw[x,y]at t;exact t
def DS{ds:List DV}{r:RV}{m:List UInt8}(b:Nat)(c:l9 b=true)(h:C (.box 950 0::ds.map .d) AO (.v r) (iT 701 m)):C (.box 950 0::ds.map .d) AO (.v r) (iT b m):=by have:=hs 701 b (Kl rfl c) h;rw[CW rfl c,QM rfl c,B0 m rfl c rfl]at this;rw[show sw 701 b 701=b from if_pos rfl]at this;exact this
end
def Fs(a b:Nat)(l m:List UInt8)(j:m≠[])(hs:l.length+m.length<=100000000000000)(e:l9 a=true)(i:l9 b=true)(c:(a == b)=false):g7 prog 103 [.box 950 0, .d (dL m)] (iT a l) (.v (.tup [dN .i64 m.length, .leaf (.val .nilIface)])) (iT b (l++m)):=
 Ev (C:=g7 prog 103) (ds:=[dL m]) (fun a b h=>g7.swap a b h) a b e i c (EI l m j hs)
def S4(b:Nat)(m:List UInt8)(e:m≠[])(hs:m.length<=100000000000000)(c:l9 b=true):g7 prog 103 [.box 950 0, .d (dL m)] AO (.v (.tup [dN .i64 m.length, .leaf (.val .nilIface)])) (iT b m):=
 DS (C:=g7 prog 103) (ds:=[dL m]) (fun a b h=>g7.swap a b h) b c (FO m e hs)
abbrev Mu(r:Nat)(l:List UInt8):BL:=[(850,[.bp 850 0, .ow r l.length 1 5]),(r,ry l)]
abbrev VQ:BL:=[(850,[.val (.pointer none), .nl])]
def Ra(l:List UInt8)(c:l.length<=100000000000000):ay prog 106 [.box 850 0] (Mu 701 l) (.v (.one (dN .i64 l.length))) (Mu 701 l):=by
 have h:ay prog 106 [.box 950 0] [(950,[.bp 950 0, .ow 901 l.length 1 5]),(901,ry l)] (.v (.one (dN .i64 l.length))) [(950,[.bp 950 0, .ow 901 l.length 1 5]),(901,ry l)]:=by refine aX ah dz func106 rfl rfl rfl rfl rfl ((eL.refl _)) ?_;refine yp ?_;exact Ke
 exact((h.swap 950 850 rfl).swap 901 701 rfl)
set_option maxRecDepth 100000 in
def Gc(l:List UInt8)(h0:l≠[]):ay prog 104 [.box 850 0] (Mu 701 l) (.v (.one (dL l))) []:=by
 refine⟨aD func104 rfl rfl,fun S g w vs m Y=>?_⟩;have E:(sB (Mu 701 l)).bx 850=some [.bp 850 0, .ow 701 l.length 1 5]:=rfl;have p:(sB (Mu 701 l)).bx 701=some (ry l):=rfl;rw[xG E Y];obtain⟨d,e,N,h2,_,O,Q⟩:=m.bm 850 _ E;obtain⟨rfl,hlen⟩:=Q rfl;have hx:d.toList[1]? =some d[1]:=by simp[hlen]
 have Z:TV.M (Own S g (sB (Mu 701 l))) g (sB (Mu 701 l)) w (.own 701 l.length 1 5) d[1]:=O rfl 1 (.ow 701 l.length 1 5) d[1] rfl hx;obtain⟨u,J,e2,e3,e4,c,B,e6⟩:=Z.2 _ p;obtain⟨H,e',I,q2,_⟩:=m.bm 701 _ p;rw[B]at I;cases I;have X:g 850≠g 701:=fun e=>by have:=m.inj 850 701 _ _ E p e;omega
 have F:l.length≠0:=by simpa using h0
 have c1:w.drew.cell? ⟨g 850,1,none⟩=some (.slice (some ⟨g 701,0,none⟩) l.length u):=by have:w.drew.heap[g 850]? =some (.cells d wm (0,0)):=N;rw[fy this,<- J];simp[hlen]
 have R:(Builtin.unsafeSliceData_ #[137] 183 #[.slice (some ⟨g 701,0,none⟩) l.length u]).run prog w.drew= .ok (.pointer (some ⟨g 701,0,none⟩)) w.drew:=
  Lib.run_unsafeSliceData_row _ _ _ _ _ _ O_
 have U:(Builtin.unsafeString_ #[183,3] 9 #[.pointer (some ⟨g 701,0,none⟩), .int .i64 l.length]).run prog w.drew= .ok (.string ⟨l.toArray⟩) (w.drew.freeze ⟨g 701,0,none⟩ l.length):=by
  refine Lib.run_unsafeString_row w.drew 183 3 9 5 underlying183 (by kernel_rfl) (g 701) c.size (by have t:w.drew.heap[g 701]? =some (.cells c 5 (0,0)):=B;simp[World.shape?,t]) l h0 O_ O_ ?_;intro j x hx;have V:=(G_.1 hx).1;have t:w.drew.heap[g 701]? =some (.cells c 5 (0,0)):=B;have q:(ry l)[j]? =some (.val (.int .u8 x.toNat)):=by simp[ry,hx]
  have y:j<c.size:=O_;have:=bc (q2.2 j (.val (.int .u8 x.toNat)) c[j] q (by simp[y]));rw[bt,fy t,J_,show c[j]? =some c[j] by simp[y],this]
 have D:cu (BX g (Mu 701 l)) w (w.drew.freeze ⟨g 701,0,none⟩ l.length):=by
  unfold World.freeze;rw[if_neg F];refine⟨rfl,rfl,rfl,by show w.heap.size<=(w.heap.modify _ _).size;rw[Array.size_modify];exact l_ _,fun k hk hx=>?_,fun k hk hx a e fz ha=>?_⟩
  ·have A:g 701≠k:=fun h=>hx ⟨701,_,p,h⟩;show(w.heap.modify (g 701) _)[k]? =_;rw[Array.getElem?_modify,if_neg A]
  ·show ∃G L,(w.heap.modify (g 701) _)[k]? =_/\_;rw[Array.getElem?_modify];by_cases z:g 701=k
   ·rw[if_pos z,ha];obtain⟨lo,hi⟩:=fz;exact⟨a,_,rfl,rfl⟩
   ·rw[if_neg z,ha];exact⟨a,fz,rfl,rfl⟩
 have W:=dz
 go_enter func104,ntmps104
 go_wp2
 go_region_o
 all_goals(go_wp2;go_ret;exact⟨_,g,rfl,fun j cs cs' _ h=>(by cases h),fun j cs h=>(by cases h),fun i j ci cj h=>(by cases h),AV.M.val rfl,D⟩)
end
section
variable {P:Program}{T:TypeId->Option Ty}{n:Nat}{ops:Array Oper}{id:Nat}{draw:Bool}{K:AS->Prop}{s:AS}{k:Nat}{o:Oper}{os:List Oper}{fps:List FP}
def gu{t e:TypeId}{x y:Operand}{m i:Nat}{ik:IntKind}{cs:List AV}(hu:P.underlying t=some (.array m e))(hs:(P.info? e).map (·.size)=some 1)(J:i<m)(u:gd ops s o=some true)(ho:o.op= .indexAddr t x y)(G:s.ev x= .rp cs)(H:s.ev y= .d (.leaf (.val (.int ik (i:Nat)))))(v:aO n o.dst=true)(z:gO draw ops (aH ops o ⟨.rp (cs.drop i),none⟩ []) k fps=true)(h:aw P T n ops id draw K (k+1) os (s.eff o.dst ⟨.rp (cs.drop i),none⟩) (aH ops o ⟨.rp (cs.drop i),none⟩ []::fps)):aw P T n ops id draw K k (o::os) s fps:=
 .run u (.gen fun L D _=>ar (tv:= .rp (cs.drop i)) fun n I N g a w hM=>by
  have B:=(aP D (x:=x) (by simp[ho,Op.operands])).trans G;have hy2:=(aP D (x:=y) (by simp[ho,Op.operands])).trans H;have h:=hM.ev x;rw[B]at h;obtain⟨b,j,f,e1,u,F,v,z⟩:=h;refine⟨.pointer (some ⟨b,j+i,none⟩),w,?_,Below.refl _ _,b,j+i,fun q=>f (i+q),rfl,u,F,fun q c A=>?_,fun q c A=>?_⟩
  ·refine Ov ?_;have E:(0:Int)<=i/\(i:Int)<m:=O_;simp only[E,and_self,if_true,Y_,b5 hs w,R_,a_,bt,Int.toNat_natCast,o_]
  ·rw[Nat.add_assoc];exact v (i+q) c (by simpa using A)
  ·exact z (i+q) c (by simpa using A)) v z h
end
def d9(e:Ex):aa prog 147 [dE e] (.one (dN .i64 (uD e))):=by
 cases e with
 |num v u=>refine KE ?_;refine kU func147 ?_;exact am
 |nam s=>show aa prog _ [.agg ([.val (.int .i64 2)]++pk++[.val (vL s), .sl 0 []])] _;refine kU func147 ?_;exact am
 |neg a=>rw[show dE (.neg a)= .agg ([.val (.int .i64 3)]++pk++[.val (vL []), .sl 1 (aE a)]) from congrArg DV.agg (pK a)];refine kU func147 ?_;exact am
 |bin k a b=>
  refine PS ?_;cases k;all_goals
   refine kU func147 ?_;exact kF
def uW(c:Nat)(t:List UInt8):gC c 0 t=t:=if_neg (Nat.not_lt_zero c)
def LM{k:Nat}{s:List UInt8}(h:s≠[]):jV k s≠[]:=by
 intro e;unfold jV at e;split at e
 ·simp at e
 ·unfold dx at e;exact h (List.append_eq_nil_iff.1 e).2
def yS{q:Rat}{d:List UInt8}:∀(n k:Nat),qo q n k=some d->d≠[]
 |0,_,h=>by cases h
 |n+1,k,h=>by
  rw[qo]at h;split at h
  ·split at h
   ·cases h;exact LM (List.length_pos_iff.1 (IT _))
   ·cases h
  ·exact yS n (k+1) h
def rz{q:Rat}{d:List UInt8}(h:fZ q=some d):d≠[]:=by
 unfold fZ at h;split at h
 ·cases h
 ·exact yS _ _ h
def sf{r:Nat}{l:List UInt8}:eL AO (iT r l):=DJ
structure Kx (e:Ex) (least:Nat):Prop where
 w0:(aF e least).length<=1000000000->ay prog 105 [.box 950 0, .d (dE e), .d (dN .i64 least)] AO (.v (.tup [])) (iT 701 (aF e least))
 w1:∀l:List UInt8,l.length+(aF e least).length<=1000000000->ay prog 105 [.box 950 0, .d (dE e), .d (dN .i64 least)] (iT 700 l) (.v (.tup [])) (iT 701 (l++aF e least))
def Kx.n0{e:Ex}{c:Nat}(h:Kx e c)(b:Nat)(j:(aF e c).length<=1000000000)(i:l9 b=true):ay prog 105 [.box 950 0, .d (dE e), .d (dN .i64 c)] AO (.v (.tup [])) (iT b (aF e c)):=
 DS (C:=ay prog 105) (ds:=[dE e,dN .i64 c]) (fun a b h=>ay.swap a b h) b i (h.w0 j)
def Kx.n1{e:Ex}{c:Nat}(h:Kx e c)(a b:Nat)(l:List UInt8)(p:l.length+(aF e c).length<=1000000000)(j:l9 a=true)(m:l9 b=true)(i:(a == b)=false):ay prog 105 [.box 950 0, .d (dE e), .d (dN .i64 c)] (iT a l) (.v (.tup [])) (iT b (l++aF e c)):=
 Ev (C:=ay prog 105) (ds:=[dE e,dN .i64 c]) (fun a b h=>ay.swap a b h) a b j m i (h.w1 l p)
def MJ{v:Rat}{u:List UInt8}{least:Nat}(F:least<=3)(B:gR (.num v u))(j:(aF (.num v u) least).length<=1000000000):ay prog 105 [.box 950 0, .d (dE (.num v u)), .d (dN .i64 least)] AO (.v (.tup [])) (iT 701 (aF (.num v u) least)):=by
 obtain⟨z,A,E⟩:=B;obtain⟨t,c,D⟩:=i6 A D_;obtain⟨d,m⟩:=Option.isSome_iff_exists.1 z;rw[D d m,z]at c;have i:d≠[]:=rz m;have cl:=d9 (.num v u);have e0:aF (.num v u) least=d++fj u:=by refine DF ?_;show gC 4 0 (Ae v++fj u)=_;rw[uW,Ae,m];rfl
 rw[e0]at j ⊢;have x:dE (.num v u)= .agg ([.val (.int .i64 1)]++aQ v++[.val (vL u), .sl 0 []]):=rfl;rw[x]at cl ⊢;by_cases hu:u=[]
 ·subst hu;rw[show fj []=[] from rfl,c_]at j ⊢;refine Dw ?_;refine CT ?_;refine bw ((S4 701 d i O_ rfl).toT) rfl rfl rfl rfl rfl ⟨rfl,trivial⟩ rfl rfl rfl rfl ?_;refine kG ?_;refine kO2 ?_;refine JV ?_;exact yF
 ·have y:fj u=[32]++u:=if_neg hu;rw[y]at j ⊢;simp only[L_,List.length_cons,List.length_nil]at j;rw[show(d++([32]++u))=(d)++([32]++u) by simp];refine Dw ?_;refine CT ?_;refine bw ((S4 702 d i O_ rfl).toT) rfl rfl rfl rfl rfl ⟨rfl,trivial⟩ rfl rfl rfl rfl ?_;refine GE ?_;refine aj rfl rfl rfl rfl rfl rfl rfl (aA (a:=[32]) (b:=u) (by simp <;>omega)) ?_;refine bw ((Fs 702 701 d ([32]++u) S_ (by simp <;>omega) rfl rfl rfl).toT) rfl rfl rfl rfl rfl ⟨rfl,rfl,trivial⟩ rfl rfl rfl rfl ?_;exact yF
def Nd{s:List UInt8}{least:Nat}(t:least<=3)(j:gR (.nam s))(m:(aF (.nam s) least).length<=1000000000):ay prog 105 [.box 950 0, .d (dE (.nam s)), .d (dN .i64 least)] AO (.v (.tup [])) (iT 701 (aF (.nam s) least)):=by
 have i:s≠[]:=fun e=>by subst e;cases j
 have cl:=d9 (.nam s);have e0:aF (.nam s) least=s:=by refine DF ?_;exact uW _ _
 rw[e0]at m ⊢;have c:dE (.nam s)= .agg ([.val (.int .i64 2)]++pk++[.val (vL s), .sl 0 []]):=rfl;rw[c]at cl ⊢;refine Dw ?_;refine iY ?_;refine R9 ?_;refine bw ((S4 701 s i O_ rfl).toT) rfl rfl rfl rfl rfl ⟨rfl,trivial⟩ rfl rfl rfl rfl ?_;exact yF
def Lc{a:Ex}{c:Nat}(y:c<=3)(x:Kx a 3)(u:(aF (.neg a) c).length<=1000000000):ay prog 105 [.box 950 0, .d (dE (.neg a)), .d (dN .i64 c)] AO (.v (.tup [])) (iT 701 (aF (.neg a) c)):=by
 have cl:=d9 (.neg a);have e0:aF (.neg a) c=[45]++aF a 3:=by rw[n8,gC,if_neg (by show ¬3<c;omega)];exact uW _ _
 rw[e0]at u ⊢;simp only[L_,List.length_cons,List.length_nil]at u;obtain⟨o1,na1,xs1,nb1,ys1,nm1,n1,cs1,t⟩:=aM a;have j:dE (.neg a)= .agg ([.val (.int .i64 3)]++pk++[.val (vL []), .sl 1 (af o1 na1 xs1 nb1 ys1 nm1 n1 cs1)]):=by rw[<- t];exact congrArg DV.agg (pK a)
 rw[j]at cl ⊢;have m:=x.n1 702 701 ([45]) (by simp <;>omega) rfl rfl rfl;rw[show dE a= .agg (af o1 na1 xs1 nb1 ys1 nm1 n1 cs1) from congrArg DV.agg t]at m;rw[show([45]++aF a 3)=([45])++aF a 3 by simp];refine Dw ?_;refine iY ?_;refine Ok ?_;refine bw ((S4 702 ([45]) S_ (by simp <;>omega) rfl).toT) rfl rfl rfl rfl rfl ⟨rfl,trivial⟩ rfl rfl rfl rfl ?_;refine Qw ?_;refine kW ?_;refine kC cl ?_;refine kD m ?_;exact yF
def LU{a b:Ex}(k:B4){c:Nat}(U:Kx a (bM k))(V:Kx b (bM k+1))(W:(aF (.bin k a b) c).length<=1000000000):ay prog 105 [.box 950 0, .d (dE (.bin k a b)), .d (dN .i64 c)] AO (.v (.tup [])) (iT 701 (aF (.bin k a b) c)):=by
 have cl:aa prog 147 [dE (.bin k a b)] (.one (dN .i64 ((bM k:Nat):Int))):=d9 (.bin k a b);obtain⟨Z,u,D,y,F,A,X,m,hA⟩:=aM a;obtain⟨o2,x,E,z,G,B,Y,t,J⟩:=aM b;have O:dE (.bin k a b)= .agg ([.val (.int .i64 k.code)]++pk++[.val (vL []), .sl 2 (af Z u D y F A X m++af o2 x E z G B Y t)]):=by rw[<- hA,<- J];exact congrArg DV.agg (mS k a b)
 have j:(gW k).length=3:=by cases k<;>rfl
 have L:dE a= .agg (af Z u D y F A X m):=congrArg DV.agg hA;have N:dE b= .agg (af o2 x E z G B Y t):=congrArg DV.agg J;by_cases R:bM k<c
 ·have e0:aF (.bin k a b) c=[40]++(aF a (bM k)++gW k++aF b (bM k+1))++[41]:=if_pos R;rw[e0]at W ⊢;simp only[L_,List.length_cons,List.length_nil,j]at W;have H:=U.n1 704 702 ([40]) (by simp <;>omega) rfl rfl rfl;have I:=V.n1 703 705 ([40]++aF a (bM k)++gW k) (by simp only[L_,List.length_cons,List.length_nil,j];omega) rfl rfl rfl;have Q:=Fs 705 701 ([40]++aF a (bM k)++gW k++aF b (bM k+1)) [41] S_ (by simp only[L_,List.length_cons,List.length_nil,j];omega) rfl rfl rfl;have cy:=(Fs 702 703 ([40]++aF a (bM k)) (gW k) (fun e=>by rw[e]at j;cases j) (by simp only[L_,List.length_cons,List.length_nil,j];omega) rfl rfl rfl).toT;rw[O]at cl ⊢;rw[L]at H;rw[N]at I;rw[show([40]++(aF a (bM k)++gW k++aF b (bM k+1))++[41])=[40]++aF a (bM k)++gW k++aF b (bM k+1)++[41] by simp];generalize aF a (bM k)=ta at *;generalize aF b (bM k+1)=tb at *;cases k;all_goals
   refine gT ah dz func105 rfl rfl rfl rfl rfl rfl sf ?_;refine kR ?_;refine kI ?_;refine kO ?_;refine kC cl ?_;refine kO ?_;refine kX ?_;refine bw ((S4 704 ([40]) S_ (by simp <;>omega) rfl).toT) rfl rfl rfl rfl rfl ⟨rfl,trivial⟩ rfl rfl rfl rfl ?_;refine kW ?_;refine DU rfl rfl rfl rfl rfl rfl rfl ?_;refine kW ?_;refine aS (i:=0) (cs':=af Z u D y F A X m) D_ (nF _ _) (Z_ 6) rfl rfl rfl rfl rfl rfl rfl rfl ?_;refine kW ?_;refine kC cl ?_;refine kZ H ?_;refine gu underlying184 (by kernel_rfl) D_ rfl rfl rfl rfl rfl rfl ?_;refine kW ?_;refine kZ cy ?_;refine aS (i:=1) (cs':=af o2 x E z G B Y t) D_ (oB _ rfl) (Z_ 6) rfl rfl rfl rfl rfl rfl rfl rfl ?_;refine kW ?_;refine kQ cl ?_;refine kZ I ?_;exact .inr ⟨_,_,_,_,_,{ dk:=rfl,one:=rfl,body:=Q,kn:=rfl,bx:=⟨rfl,rfl,trivial⟩,cl:=rfl,new:=rfl,fin:=⟨rfl,rfl,trivial⟩ }⟩
 ·have e0:aF (.bin k a b) c=aF a (bM k)++gW k++aF b (bM k+1):=if_neg R;rw[e0]at W ⊢;simp only[L_,j]at W;have H:=U.n0 702 O_ rfl;have I:=V.n1 703 701 (aF a (bM k)++gW k) (by simp only[L_,List.length_cons,List.length_nil,j];omega) rfl rfl rfl;have cy:=(Fs 702 703 (aF a (bM k)) (gW k) (fun e=>by rw[e]at j;cases j) (by simp only[L_,List.length_cons,List.length_nil,j];omega) rfl rfl rfl).toT;rw[O]at cl ⊢;rw[L]at H;rw[N]at I;rw[show(aF a (bM k)++gW k++aF b (bM k+1))=aF a (bM k)++gW k++aF b (bM k+1) by simp];generalize aF a (bM k)=ta at *;generalize aF b (bM k+1)=tb at *;cases k;all_goals
   refine gT ah dz func105 rfl rfl rfl rfl rfl rfl sf ?_;refine kR ?_;refine kI ?_;refine kO ?_;refine kC cl ?_;refine kO ?_;refine kY ?_;refine aS (i:=0) (cs':=af Z u D y F A X m) D_ (nF _ _) (Z_ 6) rfl rfl rfl rfl rfl rfl rfl rfl ?_;refine kW ?_;refine kC cl ?_;refine kZ H ?_;refine gu underlying184 (by kernel_rfl) D_ rfl rfl rfl rfl rfl rfl ?_;refine kW ?_;refine kZ cy ?_;refine aS (i:=1) (cs':=af o2 x E z G B Y t) D_ (oB _ rfl) (Z_ 6) rfl rfl rfl rfl rfl rfl rfl rfl ?_;refine kW ?_;refine kQ cl ?_;refine kZ I ?_;exact .inl ⟨⟨_,rfl,rfl⟩,⟨rfl,rfl,trivial⟩⟩
def Le(l:List UInt8){v:Rat}{u:List UInt8}{least:Nat}(F:least<=3)(B:gR (.num v u))(j:l.length+(aF (.num v u) least).length<=1000000000):ay prog 105 [.box 950 0, .d (dE (.num v u)), .d (dN .i64 least)] (iT 700 l) (.v (.tup [])) (iT 701 (l++aF (.num v u) least)):=by
 obtain⟨z,A,E⟩:=B;obtain⟨t,c,D⟩:=i6 A D_;obtain⟨d,m⟩:=Option.isSome_iff_exists.1 z;rw[D d m,z]at c;have i:d≠[]:=rz m;have cl:=d9 (.num v u);have e0:aF (.num v u) least=d++fj u:=by refine DF ?_;show gC 4 0 (Ae v++fj u)=_;rw[uW,Ae,m];rfl
 rw[e0]at j ⊢;have x:dE (.num v u)= .agg ([.val (.int .i64 1)]++aQ v++[.val (vL u), .sl 0 []]):=rfl;rw[x]at cl ⊢;by_cases hu:u=[]
 ·subst hu;rw[show fj []=[] from rfl,c_]at j ⊢;refine DY ?_;refine CT ?_;refine bw ((Fs 700 701 l d i O_ rfl rfl rfl).toT) rfl rfl rfl rfl rfl ⟨rfl,rfl,trivial⟩ rfl rfl rfl rfl ?_;refine kG ?_;refine kO2 ?_;refine JV ?_;exact yF
 ·have y:fj u=[32]++u:=if_neg hu;rw[y]at j ⊢;simp only[L_,List.length_cons,List.length_nil]at j;rw[show l++(d++([32]++u))=(l++d)++([32]++u) by simp];refine DY ?_;refine CT ?_;refine bw ((Fs 700 702 l d i O_ rfl rfl rfl).toT) rfl rfl rfl rfl rfl ⟨rfl,rfl,trivial⟩ rfl rfl rfl rfl ?_;refine GE ?_;refine aj rfl rfl rfl rfl rfl rfl rfl (aA (a:=[32]) (b:=u) (by simp <;>omega)) ?_;refine bw ((Fs 702 701 (l++d) ([32]++u) S_ (by simp <;>omega) rfl rfl rfl).toT) rfl rfl rfl rfl rfl ⟨rfl,rfl,trivial⟩ rfl rfl rfl rfl ?_;exact yF
def Np(l:List UInt8){s:List UInt8}{least:Nat}(t:least<=3)(j:gR (.nam s))(m:l.length+(aF (.nam s) least).length<=1000000000):ay prog 105 [.box 950 0, .d (dE (.nam s)), .d (dN .i64 least)] (iT 700 l) (.v (.tup [])) (iT 701 (l++aF (.nam s) least)):=by
 have i:s≠[]:=fun e=>by subst e;cases j
 have cl:=d9 (.nam s);have e0:aF (.nam s) least=s:=by refine DF ?_;exact uW _ _
 rw[e0]at m ⊢;have c:dE (.nam s)= .agg ([.val (.int .i64 2)]++pk++[.val (vL s), .sl 0 []]):=rfl;rw[c]at cl ⊢;refine DY ?_;refine iY ?_;refine R9 ?_;refine bw ((Fs 700 701 l s i O_ rfl rfl rfl).toT) rfl rfl rfl rfl rfl ⟨rfl,rfl,trivial⟩ rfl rfl rfl rfl ?_;exact yF
def Lz(l:List UInt8){a:Ex}{c:Nat}(y:c<=3)(x:Kx a 3)(u:l.length+(aF (.neg a) c).length<=1000000000):ay prog 105 [.box 950 0, .d (dE (.neg a)), .d (dN .i64 c)] (iT 700 l) (.v (.tup [])) (iT 701 (l++aF (.neg a) c)):=by
 have cl:=d9 (.neg a);have e0:aF (.neg a) c=[45]++aF a 3:=by rw[n8,gC,if_neg (by show ¬3<c;omega)];exact uW _ _
 rw[e0]at u ⊢;simp only[L_,List.length_cons,List.length_nil]at u;obtain⟨o1,na1,xs1,nb1,ys1,nm1,n1,cs1,t⟩:=aM a;have j:dE (.neg a)= .agg ([.val (.int .i64 3)]++pk++[.val (vL []), .sl 1 (af o1 na1 xs1 nb1 ys1 nm1 n1 cs1)]):=by rw[<- t];exact congrArg DV.agg (pK a)
 rw[j]at cl ⊢;have m:=x.n1 702 701 (l++[45]) (by simp <;>omega) rfl rfl rfl;rw[show dE a= .agg (af o1 na1 xs1 nb1 ys1 nm1 n1 cs1) from congrArg DV.agg t]at m;rw[show l++([45]++aF a 3)=(l++[45])++aF a 3 by simp];refine DY ?_;refine iY ?_;refine Ok ?_;refine bw ((Fs 700 702 l ([45]) S_ (by simp <;>omega) rfl rfl rfl).toT) rfl rfl rfl rfl rfl ⟨rfl,rfl,trivial⟩ rfl rfl rfl rfl ?_;refine Qw ?_;refine kW ?_;refine kC cl ?_;refine kD m ?_;exact yF
def LP(l:List UInt8){a b:Ex}(k:B4){c:Nat}(U:Kx a (bM k))(V:Kx b (bM k+1))(W:l.length+(aF (.bin k a b) c).length<=1000000000):ay prog 105 [.box 950 0, .d (dE (.bin k a b)), .d (dN .i64 c)] (iT 700 l) (.v (.tup [])) (iT 701 (l++aF (.bin k a b) c)):=by
 have cl:aa prog 147 [dE (.bin k a b)] (.one (dN .i64 ((bM k:Nat):Int))):=d9 (.bin k a b);obtain⟨Z,u,D,y,F,A,X,m,hA⟩:=aM a;obtain⟨o2,x,E,z,G,B,Y,t,J⟩:=aM b;have O:dE (.bin k a b)= .agg ([.val (.int .i64 k.code)]++pk++[.val (vL []), .sl 2 (af Z u D y F A X m++af o2 x E z G B Y t)]):=by rw[<- hA,<- J];exact congrArg DV.agg (mS k a b)
 have j:(gW k).length=3:=by cases k<;>rfl
 have L:dE a= .agg (af Z u D y F A X m):=congrArg DV.agg hA;have N:dE b= .agg (af o2 x E z G B Y t):=congrArg DV.agg J;by_cases R:bM k<c
 ·have e0:aF (.bin k a b) c=[40]++(aF a (bM k)++gW k++aF b (bM k+1))++[41]:=if_pos R;rw[e0]at W ⊢;simp only[L_,List.length_cons,List.length_nil,j]at W;have H:=U.n1 704 702 (l++[40]) (by simp <;>omega) rfl rfl rfl;have I:=V.n1 703 705 (l++[40]++aF a (bM k)++gW k) (by simp only[L_,List.length_cons,List.length_nil,j];omega) rfl rfl rfl;have Q:=Fs 705 701 (l++[40]++aF a (bM k)++gW k++aF b (bM k+1)) [41] S_ (by simp only[L_,List.length_cons,List.length_nil,j];omega) rfl rfl rfl;have cy:=(Fs 702 703 (l++[40]++aF a (bM k)) (gW k) (fun e=>by rw[e]at j;cases j) (by simp only[L_,List.length_cons,List.length_nil,j];omega) rfl rfl rfl).toT;rw[O]at cl ⊢;rw[L]at H;rw[N]at I;rw[show l++([40]++(aF a (bM k)++gW k++aF b (bM k+1))++[41])=l++[40]++aF a (bM k)++gW k++aF b (bM k+1)++[41] by simp];generalize aF a (bM k)=ta at *
  generalize aF b (bM k+1)=tb at *;cases k;all_goals
   refine gT ah dz func105 rfl rfl rfl rfl rfl rfl (rM rfl rfl rfl) ?_;refine kR ?_;refine kI ?_;refine kO ?_;refine kC cl ?_;refine kO ?_;refine kX ?_;refine bw ((Fs 700 704 l ([40]) S_ (by simp <;>omega) rfl rfl rfl).toT) rfl rfl rfl rfl rfl ⟨rfl,rfl,trivial⟩ rfl rfl rfl rfl ?_;refine kW ?_;refine DU rfl rfl rfl rfl rfl rfl rfl ?_;refine kW ?_;refine aS (i:=0) (cs':=af Z u D y F A X m) D_ (nF _ _) (Z_ 6) rfl rfl rfl rfl rfl rfl rfl rfl ?_;refine kW ?_;refine kC cl ?_;refine kZ H ?_;refine gu underlying184 (by kernel_rfl) D_ rfl rfl rfl rfl rfl rfl ?_;refine kW ?_;refine kZ cy ?_;refine aS (i:=1) (cs':=af o2 x E z G B Y t) D_ (oB _ rfl) (Z_ 6) rfl rfl rfl rfl rfl rfl rfl rfl ?_;refine kW ?_;refine kQ cl ?_;refine kZ I ?_;exact .inr ⟨_,_,_,_,_,{ dk:=rfl,one:=rfl,body:=Q,kn:=rfl,bx:=⟨rfl,rfl,trivial⟩,cl:=rfl,new:=rfl,fin:=⟨rfl,rfl,trivial⟩ }⟩
 ·have e0:aF (.bin k a b) c=aF a (bM k)++gW k++aF b (bM k+1):=if_neg R;rw[e0]at W ⊢;simp only[L_,j]at W;have H:=U.n1 700 702 l O_ rfl rfl rfl;have I:=V.n1 703 701 (l++aF a (bM k)++gW k) (by simp only[L_,List.length_cons,List.length_nil,j];omega) rfl rfl rfl;have cy:=(Fs 702 703 (l++aF a (bM k)) (gW k) (fun e=>by rw[e]at j;cases j) (by simp only[L_,List.length_cons,List.length_nil,j];omega) rfl rfl rfl).toT;rw[O]at cl ⊢;rw[L]at H;rw[N]at I;rw[show l++(aF a (bM k)++gW k++aF b (bM k+1))=l++aF a (bM k)++gW k++aF b (bM k+1) by simp];generalize aF a (bM k)=ta at *;generalize aF b (bM k+1)=tb at *;cases k;all_goals
   refine gT ah dz func105 rfl rfl rfl rfl rfl rfl (rM rfl rfl rfl) ?_;refine kR ?_;refine kI ?_;refine kO ?_;refine kC cl ?_;refine kO ?_;refine kY ?_;refine aS (i:=0) (cs':=af Z u D y F A X m) D_ (nF _ _) (Z_ 6) rfl rfl rfl rfl rfl rfl rfl rfl ?_;refine kW ?_;refine kC cl ?_;refine kZ H ?_;refine gu underlying184 (by kernel_rfl) D_ rfl rfl rfl rfl rfl rfl ?_;refine kW ?_;refine kZ cy ?_;refine aS (i:=1) (cs':=af o2 x E z G B Y t) D_ (oB _ rfl) (Z_ 6) rfl rfl rfl rfl rfl rfl rfl rfl ?_;refine kW ?_;refine kQ cl ?_;refine kZ I ?_;exact .inl ⟨⟨_,rfl,rfl⟩,⟨rfl,rfl,trivial⟩⟩
def m6:∀(e:Ex),gR e-> ∀h:Nat,h<=3->Kx e h
 | .num v u,d,n,i=>⟨fun c=>MJ i d c,fun l c=>Le l i d c⟩
 | .nam s,d,n,i=>⟨fun c=>Nd i d c,fun l c=>Np l i d c⟩
 | .neg a,d,n,i=>⟨fun c=>Lc i (m6 a d 3 D_) c,fun l c=>Lz l i (m6 a d 3 D_) c⟩
 | .bin k a b,d,n,i=>⟨fun c=>LU k (m6 a d.1 _ (by cases k<;>decide)) (m6 b d.2 _ (by cases k<;>decide)) c,fun l c=>LP l k (m6 a d.1 _ (by cases k<;>decide)) (m6 b d.2 _ (by cases k<;>decide)) c⟩
end Go.Proofs.YtnchbpoopnjghaaGreatDoor
