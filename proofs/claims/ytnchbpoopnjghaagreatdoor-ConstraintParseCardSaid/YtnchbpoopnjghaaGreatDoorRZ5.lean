/- Parts of a proof: contracts of the functions that the laws reach. -/
import Derived.Test.YtnchbpoopnjghaaGreatDoorRZ4
import Derived.Test.YtnchbpoopnjghaaGreatDoorTie
import Derived.Test.YtnchbpoopnjghaaGreatDoorCards
set_option maxHeartbeats 100000000
set_option linter.all false
open Go.Proofs.Tryz
namespace Go.Proofs.YtnchbpoopnjghaaGreatDoor
open Go.RowKit
section
open Go.ChangeShapes Go.WideShapes Go.ChangeAt Go.RowKit Go.Joins
def vV{H:Type}:Nat->DataW H->Option (List AV)
 |0,_=>none
 |n+1,d=>match d with
  | .lit (.bool b)=>some [.val (.bool b)]
  | .lit (.int k i)=>some [.val (.int k i)]
  | .lit (.string l)=>some [.val (.string ⟨l.toArray⟩)]
  | .nil=>some [.sl 0 []]
  | .slice c _=>match ja (vV n) c with
   |some a=>some [.sl a.length a.flatten]
   |none=>none
  | .agg c=>match ja (vV n) c with
   |some e=>some e.flatten
   |none=>none
  |_=>none
def z6{α β:Type}{f g:α->Option β}:∀{a:List α}{c d:List β},(∀x∈a,∀y z,f x=some y->g x=some z->y=z)->ja f a=some c->ja g a=some d->c=d
 | [],c,d,_,h,k=>by simp only[ja,X_]at h k;rw[<- h,<- k]
 |x::a,c,d,b,h,k=>by
  simp only[ja]at h k;cases h1:f x with
  |none=>rw[h1]at h;simp at h
  |some y=>
   cases h2:ja f a with
   |none=>rw[h1,h2]at h;simp at h
   |some i=>
    cases k1:g x with
    |none=>rw[k1]at k;simp at k
    |some z=>
     cases k2:ja g a with
     |none=>rw[k1,k2]at k;simp at k
     |some j=>rw[h1,h2]at h;rw[k1,k2]at k;simp only[X_]at h k;rw[<- h,<- k,b x S_ y z h1 k1,z6 (fun x e=>b x (by simp[e])) h2 k2]
def DQ{H:Type}:∀(n m:Nat)(d:DataW H)(b a:List AV),vV n d=some b->vV m d=some a->b=a
 |0,_,_,_,_,h,_=>by simp[vV]at h
 |_+1,0,_,_,_,_,h=>by simp[vV]at h
 |n+1,m+1,d,b,a,h,h'=>by
  have ih:=DQ (H:=H) n m;unfold vV at h h';split at h
  ·simp_all
  ·simp_all
  ·simp_all
  ·simp_all
  ·exact OJ
  ·exact OJ
  ·cases h
def rm{α β:Type}{f:α->Option β}:∀{xs:List α}{ys:List β},xs.length=ys.length->(∀(i:Nat)(x:α)(y:β),xs[i]? =some x->ys[i]? =some y->f x=some y)->ja f xs=some ys
 | [],[],_,_=>rfl
 | [],_::_,h,_=>by cases h
 |_::_,[],h,_=>by cases h
 |x::xs,y::ys,h,a=>by simp only[ja,a 0 x y rfl rfl,rm (xs:=xs) (ys:=ys) (by simpa using h) (fun i x y b c=>a (i+1) x y (by simpa using b) (by simpa using c))]
def py(P:Program)(L:List TypeId):Bool:=L.all fun t=>match P.underlying t with
 |some .bool=>true
 |some (.int _)=>true
 |some .string=>true
 |some (.slice e)=>L.elem e
 |some (.struct a)=>(a.toList.all fun f=>L.elem f.type) && Dp P 0 (P.cellsOf t) a.toList
 |some (.array n e)=>L.elem e && Nat.beq (n*P.cellsOf e) (P.cellsOf t)
 |_=>false
def DP{w:World}{sz:Nat}:∀(n:Nat)(a:List Value)(b:List (List AV)),a.length=n*sz->b.length=n->(∀i p,b[i]? =some p->CM (fun _=>False) w p ((a.drop (i*sz)).take sz))->CM (fun _=>False) w b.flatten a
 |0,a,b,h,c,_=>by have e:a=[]:=E_ (by simpa using h);have f:b=[]:=E_ c;subst e f;exact CM.nil _ _
 |n+1,a,[],_,c,_=>by cases c
 |n+1,a,p::b,h,c,d=>by
  have h0:=d 0 p rfl;rw[Nat.zero_mul,List.drop_zero]at h0;have j:=DP (w:=w) (sz:=sz) n (a.drop sz) b (by rw[n_,h,Nat.add_mul];omega) (by simpa using c) (fun i q g=>by have:=d (i+1) q (by simpa using g);rw[List.drop_drop,show sz+i*sz=(i+1)*sz by rw[Nat.add_mul];omega];exact this)
  rw[List.flatten_cons];have:=h0.append j;rwa[List.take_append_drop]at this
def vD{P:Program}{w:World}{vs:List Value}:∀(c:List Field)(a:Nat)(b:List (List AV)),Dp P a vs.length c=true->b.length=c.length ->
 (∀(i:Nat)(f:Field)(p:List AV),c[i]? =some f->b[i]? =some p->CM (fun _=>False) w p ((vs.drop f.offset).take (P.cellsOf f.type)))->CM (fun _=>False) w b.flatten (vs.drop a)
 | [],a,[],h,_,_=>by have:=Nat.eq_of_beq_eq_true h;subst this;rw[List.drop_length];exact CM.nil _ _
 | [],_,_::_,_,h,_=>by cases h
 |_::_,_,[],_,h,_=>by cases h
 |f::r,a,p::b,h,l,e=>by simp only[Dp,B_]at h;have m:=Nat.eq_of_beq_eq_true h.1;have d:=e 0 f p rfl rfl;have j:=vD r _ b h.2 (by simpa using l) (fun i g q hg hq=>e (i+1) g q (by simpa using hg) (by simpa using hq));rw[m]at d;rw[List.flatten_cons];have:=d.append j;rwa[<- List.drop_drop,List.take_append_drop]at this
section
variable {H:Type}{enc:TypeId × Value->H}{W:World}{P:Program}{held:Bool}
def Na{L:List TypeId}(hL:py P L=true):∀(n:Nat)(t:TypeId)(vs:List Value)(x:DataW H × List MemPlace),t∈L->DataW.trod enc P W 0 (fun _=>true) held n t vs=some x ->
 ∃cs,CM (fun _=>False) W cs vs/\vV n x.1=some cs:=by
 intro n;induction n with
 |zero=>intro t vs x _ h;simp[DataW.trod]at h
 |succ n ih=>
  intro t vs x ht h;have G:=I_.1 hL t ht;cases hu:P.underlying t with
  |none=>rw[hu]at G;simp at G
  |some d=>
   rw[hu]at G;cases d with
   |bool=>obtain⟨b,rfl,rfl⟩:=DataW.trod_bool hu h;exact⟨_,CM.cons (.val rfl) (CM.nil _ _),rfl⟩
   |int k=>obtain⟨i,rfl,rfl,v⟩:=DataW.trod_int hu h;exact⟨_,CM.cons (.val rfl) (CM.nil _ _),rfl⟩
   |string=>obtain⟨s,rfl,rfl,v⟩:=DataW.trod_string hu h;exact⟨_,CM.cons (.val rfl) (CM.nil _ _),by simp[vV]⟩
   |slice e=>
    have he:e∈L:=by simpa using G
    rcases DataW.trod_slice hu h with⟨rfl,rfl⟩| ⟨a,U,bb,c,a9,m,hm,rfl,rfl,_,a3,ao,a0,O,_,_⟩
    ·exact⟨_,CM.cons (.emp (l_ _) O_ (fun _=>rfl)) (CM.nil _ _),rfl⟩
    ·obtain rfl:m=n:=O_;have ag:∀i,i<U-> ∃(r:List AV)(N:List Value),W.cells? 0 (a.add (i*P.cellsOf e)) (P.cellsOf e)=some N/\CM (fun _=>False) W r N/\ ∀y,c[i]? =some y->vV m y.1=some r:=by intro i Q;have v:=O i Q;have D:c[i]? =some c[i]:=S_;rw[D]at v;obtain⟨N,B,E⟩:=Option.bind_eq_some_iff.1 v;obtain⟨r,S,h6⟩:=ih e N _ he E;exact⟨r,N,B,S,fun y g=>by rw[D]at g;cases g;exact h6⟩
     have Y:∀k,k<=U-> ∃rows:List (List AV),rows.length=k/\ ∀i r,rows[i]? =some r-> ∃N:List Value,W.cells? 0 (a.add (i*P.cellsOf e)) (P.cellsOf e)=some N/\CM (fun _=>False) W r N/\ ∀y,c[i]? =some y->vV m y.1=some r:=by
      intro k;induction k with
      |zero=>intro _;exact⟨[],rfl,fun i r h=>by simp at h⟩
      |succ k Z=>
       intro hk;obtain⟨rows,v,D⟩:=Z O_;obtain⟨r,N,B,E,S⟩:=ag k O_;refine⟨rows++[r],by simp[v],fun i q l=>?_⟩;by_cases Q:i<rows.length
       ·rw[List.getElem?_append_left Q]at l;exact D i q l
       ·have F:=(G_.1 l).1;simp at F;have:i=k:=O_;subst this;rw[g_ O_,v,Nat.sub_self]at l;simp at l;subst l;exact⟨N,B,E,S⟩
     obtain⟨rows,hl,hr⟩:=Y U (l_ _);have A:ja (vV m) (c.map (·.1))=some rows:=by
      refine rm (by simp[a0,hl]) (fun i y r g D=>?_);rw[List.getElem?_map]at g;cases J:c[i]? with
      |none=>rw[J]at g;cases g
      |some z=>rw[J]at g;simp only[Option.map_some,X_]at g;obtain⟨_,_,_,S⟩:=hr i r D;rw[<- g];exact S z J
     have hsz:∀r∈rows,r.length=P.cellsOf e:=by intro r hm;obtain⟨i,Q⟩:=W_ hm;obtain⟨N,B,E,_⟩:=hr i r Q;rw[E.1,(y3 B).1]
     refine⟨[.sl U rows.flatten],CM.cons ?_ (CM.nil _ _),by simp only[vV,A,hl]⟩;exact TY (rows:=rows) (by unfold maxLen at ao;omega) a3 hl hsz (fun i r Q=>by obtain⟨N,B,E,_⟩:=hr i r Q;exact⟨N,B,E⟩)
   |struct V=>
    simp only[B_]at G;obtain⟨C,m,hm,rfl,hlen,al,O⟩:=DataW.trod_struct hu h;obtain rfl:m=n:=O_;have R:=G.2;rw[<- hlen]at R;have I:∀k,k<=C.length-> ∃u:List (List AV),u.length=k/\ ∀(i:Nat)(p:List AV)(f:Field),u[i]? =some p->V[i]? =some f->CM (fun _=>False) W p ((vs.drop f.offset).take (P.cellsOf f.type))/\ ∀y:DataW H × List MemPlace,C[i]? =some y->vV m y.1=some p:=by
     intro k;induction k with
     |zero=>intro _;exact⟨[],rfl,fun i p f h=>by simp at h⟩
     |succ k Z=>
      intro hk;obtain⟨u,v,D⟩:=Z O_;have ad:V[k]? =some (V[k]'(by omega)):=S_;have B:=O k _ ad;have E:C[k]? =some C[k]:=S_;rw[E]at B;have a1:V[k].type∈L:=by have:=I_.1 G.1 V[k] S_;simpa using this
      obtain⟨p,S,h6⟩:=ih _ _ _ a1 B;refine⟨u++[p],by simp[v],fun i q f l hf=>?_⟩;by_cases Q:i<u.length
      ·rw[List.getElem?_append_left Q]at l;exact D i q f l hf
      ·have F:=(G_.1 l).1;simp at F;have:i=k:=O_;subst this;rw[g_ O_,v,Nat.sub_self]at l;simp at l;subst l;rw[ad]at hf;cases hf;exact⟨S,fun y g=>by rw[E]at g;cases g;exact h6⟩
    obtain⟨u,v,D⟩:=I C.length (l_ _);refine⟨u.flatten,?_,?_⟩
    ·have:=vD (w:=W) (vs:=vs) V.toList 0 u R (by rw[v,al];simp) (fun i f p hf G=>(D i p f G (by simpa using hf)).1);rwa[List.drop_zero]at this
    ·have A:ja (vV m) (C.map (·.1))=some u:=by
      refine rm (by simp[v]) (fun i y p g X=>?_);rw[List.getElem?_map]at g;cases J:C[i]? with
      |none=>rw[J]at g;cases g
      |some z=>
       rw[J]at g;simp only[Option.map_some,X_]at g;have F:i<V.size:=by rw[<- al];exact(G_.1 J).1
       rw[<- g];exact(D i p V[i] X (by simp[F])).2 z J
     simp only[vV,A]
   |array k e=>
    simp only[B_]at G;have he:e∈L:=by simpa using G.1
    have a2:=Nat.eq_of_beq_eq_true G.2;unfold DataW.trod at h;rw[hu]at h;simp only at h;have hr:∃C:List (DataW H × List MemPlace),x.1= .agg (C.map (·.1))/\vs.length=P.cellsOf t/\(List.range k).mapM (fun i=>DataW.trod enc P W 0 (fun _=>true) held n e ((vs.drop (i*P.cellsOf e)).take (P.cellsOf e)))=some C:=by
     split at h
     ·rename_i hl;obtain⟨C,v,D⟩:=Option.map_eq_some_iff.1 h;exact⟨C,by rw[<- D],hl,v⟩
     ·cases h
    obtain⟨C,hx,hlen,a4⟩:=hr;obtain⟨v,D⟩:=yt a4;rw[List.length_range]at v;have I:∀j,j<=k-> ∃u:List (List AV),u.length=j/\ ∀(i:Nat)(p:List AV),u[i]? =some p->CM (fun _=>False) W p ((vs.drop (i*P.cellsOf e)).take (P.cellsOf e))/\ ∀y:DataW H × List MemPlace,C[i]? =some y->vV n y.1=some p:=by
     intro j;induction j with
     |zero=>intro _;exact⟨[],rfl,fun i p h=>by simp at h⟩
     |succ j a5=>
      intro hj;obtain⟨u,B,E⟩:=a5 O_;obtain⟨y,S,h6⟩:=D j j (List.getElem?_range O_);obtain⟨p,h7,h8⟩:=ih _ _ _ he h6;refine⟨u++[p],by simp[B],fun i q l=>?_⟩;by_cases Q:i<u.length
      ·rw[List.getElem?_append_left Q]at l;exact E i q l
      ·have F:=(G_.1 l).1;simp at F;have:i=j:=O_;subst this;rw[g_ O_,B,Nat.sub_self]at l;simp at l;subst l;exact⟨h7,fun z J=>by rw[S]at J;cases J;exact h8⟩
    obtain⟨u,B,E⟩:=I k (l_ _);refine⟨u.flatten,DP k vs u (by rw[hlen,<- a2]) B (fun i p G=>(E i p G).1),?_⟩;have A:ja (vV n) (C.map (·.1))=some u:=by
     refine rm (by simp[B,<- v]) (fun i y p g X=>?_);rw[List.getElem?_map]at g;cases J:C[i]? with
     |none=>rw[J]at g;cases g
     |some z=>rw[J]at g;simp only[Option.map_some,X_]at g;rw[<- g];exact(E i p X).2 z J
    rw[hx];simp only[vV,A]
   |_=>simp at G
end
end
section
open Go.ChangeShapes Go.WideShapes Go.ChangeAt Go.RowKit Go.Joins
def gN{P:Program}{W:World}{b:String}{d:DataW Unit}:∀{c:List (String × DataW Unit)}{i:List MemPlace},DataW.LaidVars P W c i->(b,d)∈c ->
 ∃g t f a p,P.globalNamed b=some g/\(P.globals[g]?).map (·.type)=some t/\W.var? P b=some f/\DataW.trod (fun _=>()) P W 0 (fun _=>true) false a t f.toList=some (d,p)
 | [],_,_,h=>by cases h
 |(n,x)::j,i,h,w=>by
  obtain⟨g,t,f,a,p,q,l,m,r,u,v,_⟩:=h;rcases f_.1 w with e|e
  ·cases e;exact⟨g,t,f,a,p,l,m,r,u⟩
  ·exact gN v e
def E5:Tryz.prog.cellsOf 169=1:=by kernel_rfl
def Nf:Tryz.prog.globalNamed "internal/strconv.uint64pow10" =some 5:=by kernel_rfl
def L0:(Tryz.prog.globals[5]?).map (·.type)=some 247:=by kernel_rfl
def Lb:Tryz.prog.cellsOf 247=20:=by kernel_rfl
def rN{P:Program}{W:World}{b:List (String × DataW Unit)}{J:List MemPlace}(I:DataW.LaidVars P W b J){c:String}{d:DataW Unit}(F:(c,d)∈b){g t:Nat}(x:P.globalNamed c=some g)(G:(P.globals[g]?).map (·.type)=some t){L:List TypeId}(C:py P L=true)(v:t∈L){n:Nat}{cs:List AV}(q:vV n d=some cs){S:Nat->Prop}(D:S=fun _=>False):TV.M S (fun _=>0) ⟨[],[]⟩ W (.rp cs) (.pointer (some ⟨g,0,none⟩)):=by
 subst D;obtain⟨R,U,m,j,p,z,A,f,B⟩:=gN I F;obtain rfl:=Option.some.inj (x.symm.trans z);obtain rfl:=Option.some.inj (G.symm.trans A);obtain⟨y,r,E⟩:=Na C j _ _ _ v B;have e:=DQ _ _ _ _ _ E q;subst e;unfold World.var? at f;rw[x]at f;simp only[Option.bind_some]at f;split at f
 ·rename_i N O Q w;cases f;refine⟨g,0,fun i=>m.getD i undef,rfl,fun h=>h,(A_.1 w).1,fun i a l=>?_,fun i a l=>?_⟩
  ·have u:i<m.size:=by have:=(G_.1 l).1;rw[r.1]at this;simpa using this
   rw[J_];simp[World.cell?,w,u]
  ·have u:i<m.size:=by have:=(G_.1 l).1;rw[r.1]at this;simpa using this
   exact r.2 i a _ l (by simp[u])
 ·cases f
def oD{α:Type}{g:Nat}{c:α}{r:List (Nat × α)}{k:Nat}{x:α}(h:ak ((g,c)::r) k=some x):(g=k/\c=x)∨ak r k=some x:=by
 by_cases e:g=k
 ·subst e;rw[ap]at h;exact .inl ⟨rfl,Option.some.inj h⟩
 ·rw[az _ _ e]at h;exact .inr h
def MY:Tryz.prog.globalNamed "setsquare/unit.units" =some 4:=by kernel_rfl
def Nm:(Tryz.prog.globals[4]?).map (·.type)=some 243:=by kernel_rfl
def Mh:py prog [243,244,9,2]=true:=by kernel_rfl
def FG:Tryz.prog.globalNamed "setsquare/formula.symbols" =some 2:=by kernel_rfl
def EZ:(Tryz.prog.globals[2]?).map (·.type)=some 184:=by kernel_rfl
def F9:py prog [184,9]=true:=by kernel_rfl
def Bq:Tryz.prog.globalNamed "setsquare/formula.operands" =some 1:=by kernel_rfl
def BO:(Tryz.prog.globals[1]?).map (·.type)=some 171:=by kernel_rfl
def Bf:py prog [171,3]=true:=by kernel_rfl
def Lm:Tryz.prog.globalNamed "setsquare/constraint.table" =some 0:=by kernel_rfl
def MK:(Tryz.prog.globals[0]?).map (·.type)=some 73:=by kernel_rfl
def Ns:py prog [73,72,60,9,3,4]=true:=by kernel_rfl
def BS{w w':World}(h:o8 w)(l:Below w.heap.size w w'):o8 w':=by have a:∀(g:Nat)(v:Value),w.cell? ⟨g,0,none⟩=some v->w'.cell? ⟨g,0,none⟩=some v:=fun g v hv=>(l.cell (show(⟨g,0,none⟩:Addr).block<w.heap.size from Lib.lt_of_cell hv)).trans hv;obtain⟨⟨m,c⟩,⟨e,d,f⟩,b,i,j⟩:=h;exact⟨⟨m,a _ _ c⟩,⟨e,a _ _ d,f⟩,b,a _ _ i,j⟩
def Nt{a:List (String × DataW Unit)}(z:(a.all fun x=>x.2.handleName?.isNone)=true)(y:("internal/strconv.uint64pow10",Rows.laid_internal_strconv_uint64pow10)∈a)(c:("setsquare/unit.units",Rows.laid_setsquare_unit_units)∈a)(d:("setsquare/formula.symbols",Rows.laid_setsquare_formula_symbols)∈a)(e:("setsquare/formula.operands",Rows.laid_setsquare_formula_operands)∈a)(f:("setsquare/constraint.table",Rows.laid_setsquare_constraint_table)∈a){W:World}(i:o8 W)(h:laidMetH prog a W):db (fun _=>False) W:=by
 rw[MakeChecks.laidMetH_plain _ _ _ z]at h;obtain⟨C,b,_⟩:=h;obtain⟨g,t,q,j,p,r,u,v,l⟩:=gN b y;obtain rfl:=Option.some.inj (Nf.symm.trans r);obtain rfl:=Option.some.inj (L0.symm.trans u);have w:(Rows.laid_internal_strconv_uint64pow10:DataW Unit)=Lib.tabData .u64 Lib.pow10Tab:=rfl;rw[w]at l;have A:Lib.TabIs prog W "internal/strconv.uint64pow10" .u64 Lib.pow10Tab:=by unfold Lib.TabIs;rw[v,<- Lib.cells_of_tab underlying247 underlying169 E5 Lb l]
 refine⟨fun B m=>⟨Lib.tabBelow_of_tabIs A B m,BS i m⟩,fun _ h=>h.elim,fun k q h=>?_⟩;unfold GT at h;rcases oD h with⟨rfl,rfl⟩|h
 ·exact rN b c MY Nm Mh S_ (n:=4) rfl rfl
 rcases oD h with⟨rfl,rfl⟩|h
 ·exact rN b d FG EZ F9 S_ (n:=4) rfl rfl
 rcases oD h with⟨rfl,rfl⟩|h
 ·exact rN b f Lm MK Ns S_ (n:=5) rfl rfl
 rcases oD h with⟨rfl,rfl⟩|h
 ·exact rN b e Bq BO Bf S_ (n:=4) rfl rfl
 cases h
end
def pw:Rat->Nat->Rat
 |q,0=>q
 |q,k+1=>pw q k*((10:Int):Rat)
def wF{n:Int}(h:n.natAbs<4294967296):nz 1 (n:Rat):=⟨Sz.small h,Sz.small (z:=1) D_⟩
def IV{q:Rat}{n:Nat}(h:nz n q):∀k,nz (n+k) (pw q k)
 |0=>h
 |k+1=>by have:=nz.mul (IV h k) (wF (n:=10) D_);rwa[Nat.add_assoc]at this
def dx(k:Nat)(t:List UInt8):List UInt8:=List.replicate (k+1-t.length) 48++t
def jV(k:Nat)(t:List UInt8):List UInt8:=if 0<k then(dx k t).take ((dx k t).length-k)++[46]++(dx k t).drop ((dx k t).length-k)else dx k t
def qo(q:Rat):Nat->Nat->Option (List UInt8)
 |0,_=>none
 |n+1,k=>if((pw q k).den:Int)=1 then(if(jV k (fmt (pw q k).num)).length<=40 then some (jV k (fmt (pw q k).num))else none)else qo q n (k+1)
def fZ(q:Rat):Option (List UInt8):=if N1 q<0 then none else qo q 41 0
def mO(na:Bool)(xs:List Nat)(nb:Bool)(ys:List Nat):Option (List UInt8):=if fL na xs nb ys then fZ (Rat.divInt (bv na xs) (bv nb ys))else none
def qi(q:Rat):∀n k,∃K,k<=K/\K<=k+n/\(∀j,k<=j->j<K-> ¬((pw q j).den:Int)=1)/\((K=k+n/\qo q n k=none)∨(K<k+n/\((pw q K).den:Int)=1/\qo q n k=if(jV K (fmt (pw q K).num)).length<=40 then some (jV K (fmt (pw q K).num))else none))
 |0,k=>⟨k,l_ _,l_ _,fun j h1 h2=>by omega, .inl ⟨rfl,rfl⟩⟩
 |n+1,k=>by
  by_cases h:((pw q k).den:Int)=1
  ·exact⟨k,l_ _,by omega,fun j h1 h2=>by omega, .inr ⟨by omega,h,by rw[qo,if_pos h]⟩⟩
  ·obtain⟨K,h1,h2,b,h4⟩:=qi q n (k+1);refine⟨K,by omega,by omega,fun j c a=>?_,?_⟩
   ·by_cases e:j=k
    ·subst e;exact h
    ·exact b j O_ a
   ·rw[qo,if_neg h];exact Qk
def mQ{q:Rat}(h:¬N1 q<0):∃K,K<=41/\(∀j,j<K-> ¬((pw q j).den:Int)=1)/\((K=41/\fZ q=none)∨(K<=40/\((pw q K).den:Int)=1/\fZ q=if(jV K (fmt (pw q K).num)).length<=40 then some (jV K (fmt (pw q K).num))else none)):=by obtain⟨K,b,c,a,h4⟩:=qi q 41 0;refine⟨K,by omega,fun j hj=>a j (Nat.zero_le _) hj,?_⟩;rw[fZ,if_neg h];exact Qk
def Af(k:Nat)(t:List UInt8):(dx k t).length=max (k+1) t.length:=by unfold dx;simp;omega
def JP(k:Nat)(t:List UInt8)(h:0<k):(jV k t).length=max (k+1) t.length+1:=by have:=Af k t;unfold jV;rw[if_pos h];simp only[L_,U_,n_,List.length_cons,List.length_nil];omega
def lj{q:Rat}{n:Nat}(A:nz n q)(R:n<=900):∃t,aa prog 111 [dQ q] (.tup [dL t,dB (fZ q).isSome])/\ ∀u,fZ q=some u->t=u:=by
 have y:aa prog 155 [dQ q] (.one (dB true)):=xz q A O_;by_cases c:N1 q<0
 ·have h0:fZ q=none:=by rw[fZ,if_pos c]
  refine⟨[],?_,fun u h=>by rw[h0]at h;cases h⟩;rw[h0];refine kV func111 ?_;refine kQ y ?_;refine kC (sU q) ?_;refine kB true ?_ ?_
  ·exact T_ c
  exact am
 ·obtain⟨K,U,J,r⟩:=mQ c;have main:∀t b,(K=41->t=[]/\b=false)->(K<=40->t=jV K (fmt (pw q K).num)/\b=decide (t.length<=40))->aa prog 111 [dQ q] (.tup [dL t,dB b]):=by
   intro t b B C;refine kV func111 ?_;refine kQ y ?_;refine kC (sU q) ?_;refine kB false ?_ ?_
   ·exact F_ c
   refine kW ?_;refine ac (mh 10 D_ D_ (q:=((10:Int):Rat)) rfl) rfl rfl rfl rfl rfl rfl rfl ?_;refine KY ?_;refine kW ?_;refine av Nat (fun k=>k<=K) (fun k=>⟨[(1, .box 0 0),(2, .d (dL [])),(3, .d (dB false)),(4, .box 3001 0),(5, .box 4001 0),(6, .box 5001 0),(7, .d (dN .i64 k))],[(0,some (aQ q)),(3001,some (aQ ((10:Int):Rat))),(4001,some (aZ 1)),(5001,some (aQ (pw q k)))]⟩) (fun k=>41-k) 0 (Nat.zero_le _)
    kw ?_
   intro k Q;have x:=IV A k;refine kI ?_;refine kO ?_;by_cases D:k<=40
   ·refine kT ?_;refine kW ?_;have f:=KM (pw q k).den 1;by_cases g:((pw q k).den:Int)=1
    ·have v:k=K:=by
      rcases Nat.lt_or_ge k K with h|h
      ·exact absurd g (J k h)
      ·omega
     rw[T_ g]at f;obtain⟨rfl,rfl⟩:=C O_;subst v;refine kQ f ?_;have hlen:(fmt (pw q k).num).length<=10*(n+k)+2:=Ey x.1;refine ac (mt (bZ.of_lt x.1 O_)) rfl rfl rfl rfl rfl rfl rfl ?_;unfold jV dx;generalize fmt (pw q k).num=u at *;refine kW ?_;refine av Nat (fun j=>j<=k+1-u.length) (fun j=>⟨[(2, .d (dL [])),(3, .d (dB false)),(7, .d (dN .i64 k)),(8, .d (dL (List.replicate j 48++u)))],[]⟩) (fun j=>k+1-u.length-j) 0 (Nat.zero_le _)
      kw ?_
     intro j O;have N:(Bs (List.replicate j 48++u)).size=j+u.length:=by rw[an];simp
     refine kI ?_;refine kO3 ?_;by_cases E:j+u.length<=k
     ·refine kT ?_;refine kW ?_;refine aj rfl rfl rfl rfl rfl rfl rfl (aA (a:=[48]) (b:=List.replicate j 48++u) (by simp;omega)) ?_;refine kW ?_;exact⟨j+1,by omega,by omega,weak ⟨rfl,rfl,rfl,rfl,trivial⟩ trivial rfl⟩
     ·refine kE ?_;obtain rfl:j=k+1-u.length:=O_;have G:(List.replicate (k+1-u.length) 48++u).length=k+1-u.length+u.length:=S_;generalize F:List.replicate (k+1-u.length) 48++u=w at *;refine Re ?_;refine kO ?_;by_cases m:0<k
      ·rw[if_pos m];refine kT ?_;refine kN ?_;refine bH (T:=TT) ?_;refine eG (T:=TT) rfl ?_;refine Ib ?_;refine Uw ?_;generalize S:w.take (w.length-k)++[46]++w.drop (w.length-k)=z;have I:=an z;refine kN ?_;refine kI ?_;refine S5 ?_;exact am
      ·rw[if_neg m];refine kE ?_;refine kN ?_;refine bH (T:=TT) ?_;refine dX (T:=TT) rfl ?_;refine kI ?_;refine kO3 ?_;refine bW (v':= .bool (decide (w.length<=40))) rfl rfl rfl rfl ?_ ?_
       ·exact J7
       exact am
    ·rw[F_ g]at f;refine kQ f ?_;refine ac (Fj x (wF (n:=10) D_) O_ (q:=pw q (k+1)) rfl) rfl rfl rfl rfl rfl rfl rfl ?_;refine kW ?_;exact⟨k+1,by
      rcases Nat.lt_or_ge k K with h|h
      ·exact h
      ·obtain rfl:k=K:=O_;rcases r with⟨e,_⟩| ⟨_,r,_⟩
       ·omega
       ·exact absurd r g,by omega,weak ⟨rfl,rfl,rfl,rfl,rfl,rfl,aq O_ O_,trivial⟩ ⟨rfl,rfl,rfl,rfl,trivial⟩ rfl⟩
   ·refine kE ?_;obtain⟨rfl,rfl⟩:=B O_;exact am
  rcases r with⟨e,h0⟩| ⟨e,L,h2⟩
  ·exact J4
  ·exact SE
abbrev gG:=Except (Nat × Int) (Ex × List Tk)
inductive Md where
 |sum
 |prod
 |un
 |prim
 |more (two:Bool) (e:Ex)
def mF:Bool->List UInt8->Option B4
 |false,[c]=>if c=43 then some .add else if c=45 then some .sub else none
 |true,[c]=>if c=42 then some .mul else if c=47 then some .div else none
 |_,_=>none
def eN(a:Bool):List Tk->Option (B4 × List Tk)
 |t::r=>if t.1=4 then(match mF a t.2.1 with|some k=>some (k,r)|none=>none)else none
 | []=>none
def bh(c:UInt8):List Tk->Option (List Tk)
 |t::r=>if t.1=4/\t.2.1=[c]then some r else none
 | []=>none
def Jz:List Tk->Nat
 |t::_=>t.2.2
 | []=>0
noncomputable def fg(t:Tk)(r:List Tk):gG:=match b8 t.2.1 with
 |none=> .error (t.2.2,2)
 |some q=>match fZ q with
  |none=> .error (t.2.2,3)
  |some _=>match r with
   |u::a=>if u.1=1 then .ok (.num q u.2.1,a)else .ok (.num q [],r)
   | []=> .ok (.num q [],r)
def ey:Bool->Md
 |false=> .prod
 |true=> .un
noncomputable def pP:Nat->Md->List Tk->Option gG
 |0,_,_=>none
 |f+1, .sum,a=>match pP f .prod a with
  |some (.ok (e,r))=>pP f (.more false e) r
  |x=>x
 |f+1, .prod,a=>match pP f .un a with
  |some (.ok (e,r))=>pP f (.more true e) r
  |x=>x
 |f+1, .more b e,a=>match eN b a with
  |some (k,r)=>match pP f (ey b) r with
   |some (.ok (d,c))=>pP f (.more b (.bin k e d)) c
   |x=>x
  |none=>some (.ok (e,a))
 |f+1, .un,a=>match bh 45 a with
  |some r=>match pP f .un r with
   |some (.ok (e,c))=>some (.ok (.neg e,c))
   |x=>x
  |none=>pP f .prim a
 |f+1, .prim,a=>match bh 40 a with
  |some r=>match pP f .sum r with
   |some (.ok (e,c))=>match bh 41 c with
    |some g=>some (.ok (e,g))
    |none=>some (.error (Jz c,2))
   |x=>x
  |none=>match a with
   |t::r=>if t.1=2 then some (fg t r)else if t.1=1 then some (.ok (.nam t.2.1,r))else some (.error (t.2.2,2))
   | []=>some (.error (0,2))
def jE(f:Nat)(ts:List Tk):pP (f+1) .sum ts=match pP f .prod ts with
 |some (.ok (e,r))=>pP f (.more false e) r
 |x=>x:=rfl
def gK(f:Nat)(ts:List Tk):pP (f+1) .prod ts=match pP f .un ts with
 |some (.ok (e,r))=>pP f (.more true e) r
 |x=>x:=rfl
def dl(f:Nat)(a:Bool)(e:Ex)(ts:List Tk):pP (f+1) (.more a e) ts=match eN a ts with
 |some (k,r)=>match pP f (ey a) r with
  |some (.ok (b,c))=>pP f (.more a (.bin k e b)) c
  |x=>x
 |none=>some (.ok (e,ts)):=rfl
def i8(f:Nat)(ts:List Tk):pP (f+1) .un ts=match bh 45 ts with
 |some r=>match pP f .un r with
  |some (.ok (e,a))=>some (.ok (.neg e,a))
  |x=>x
 |none=>pP f .prim ts:=rfl
def eP(f:Nat)(ts:List Tk):pP (f+1) .prim ts=match bh 40 ts with
 |some r=>match pP f .sum r with
  |some (.ok (e,a))=>match bh 41 a with
   |some b=>some (.ok (e,b))
   |none=>some (.error (Jz a,2))
  |x=>x
 |none=>match ts with
  |t::r=>if t.1=2 then some (fg t r)else if t.1=1 then some (.ok (.nam t.2.1,r))else some (.error (t.2.2,2))
  | []=>some (.error (0,2)):=rfl
def sh{a:Bool}{ts r:List Tk}{k:B4}(h:eN a ts=some (k,r)):r.length<ts.length:=by
 cases ts with
 |nil=>cases h
 |cons t b=>
  simp only[eN]at h;split at h
  ·split at h
   ·cases h;simp
   ·cases h
  ·cases h
def eX{c:UInt8}{ts r:List Tk}(h:bh c ts=some r):r.length<ts.length:=by
 cases ts with
 |nil=>cases h
 |cons t a=>
  simp only[bh]at h;split at h
  ·cases h;simp
  ·cases h
def AI{t:Tk}{r a:List Tk}{e:Ex}(h:fg t r= .ok (e,a)):a.length<=r.length:=by
 unfold fg at h;split at h
 ·cases h
 ·split at h
  ·cases h
  ·split at h
   ·split at h
    ·cases h;simp
    ·cases h;exact l_ _
   ·cases h;exact l_ _
def lG:∀(f:Nat)(m:Md)(a:List Tk)(x:gG),pP f m a=some x->pP (f+1) m a=some x
 |0,_,_,_,h=>by cases h
 |f+1, .sum,a,x,h=>by
  rw[jE]at h ⊢;cases h1:pP f .prod a with
  |none=>rw[h1]at h;cases h
  |some y=>exact II
 |f+1, .prod,a,x,h=>by
  rw[gK]at h ⊢;cases h1:pP f .un a with
  |none=>rw[h1]at h;cases h
  |some y=>exact II
 |f+1, .more b e,a,x,h=>by
  rw[dl]at h ⊢;cases h0:eN b a with
  |none=>rw[h0]at h;exact h
  |some p=>
   obtain⟨k,r⟩:=p;rw[h0]at h;dsimp only at h ⊢;cases h1:pP f (ey b) r with
   |none=>rw[h1]at h;cases h
   |some y=>exact II
 |f+1, .un,a,x,h=>by
  rw[i8]at h ⊢;cases h0:bh 45 a with
  |none=>rw[h0]at h;exact lG f _ _ _ h
  |some r=>
   rw[h0]at h;dsimp only at h ⊢;cases h1:pP f .un r with
   |none=>rw[h1]at h;cases h
   |some y=>rw[h1]at h;rw[lG f _ _ _ h1];exact h
 |f+1, .prim,a,x,h=>by
  rw[eP]at h ⊢;cases h0:bh 40 a with
  |none=>rw[h0]at h;exact h
  |some r=>
   rw[h0]at h;dsimp only at h ⊢;cases h1:pP f .sum r with
   |none=>rw[h1]at h;cases h
   |some y=>rw[h1]at h;rw[lG f _ _ _ h1];exact h
def hZ{f a:Nat}(b:f<=a){m:Md}{ts:List Tk}{x:gG}(h:pP f m ts=some x):pP a m ts=some x:=by
 induction b with
 |refl=>exact h
 |step _ c=>exact lG _ _ _ _ c
def iq:∀(f:Nat)(m:Md)(c:List Tk)(e:Ex)(r:List Tk),pP f m c=some (.ok (e,r))->r.length<=c.length/\((∀d x,m≠ .more d x)->r.length<c.length)
 |0,_,_,_,_,h=>by cases h
 |f+1, .sum,c,e,r,h=>by
  rw[jE]at h;split at h
  ·rename_i i g h1;exact Ou
  ·exact jK
 |f+1, .prod,c,e,r,h=>by
  rw[gK]at h;split at h
  ·rename_i i g h1;exact Ou
  ·exact jK
 |f+1, .more d e0,c,e,r,h=>by
  rw[dl]at h;refine⟨?_,fun u=>absurd rfl (u d e0)⟩;split at h
  ·rename_i k g h0;have j:=sh h0;split at h
   ·rename_i i l h1;have a:=(iq f _ _ _ _ h1).1;have b:=(iq f _ _ _ _ h).1;omega
   ·exact jK
  ·cases h;exact l_ _
 |f+1, .un,c,e,r,h=>by
  rw[i8]at h;split at h
  ·rename_i g h0;have j:=eX h0;split at h
   ·rename_i i l h1;have a:=(iq f _ _ _ _ h1).1;cases h;exact⟨by omega,fun _=>by omega⟩
   ·exact jK
  ·exact⟨(iq f _ _ _ _ h).1,fun _=>(iq f _ _ _ _ h).2 (fun _ _ h=>by cases h)⟩
 |f+1, .prim,c,e,r,h=>by
  rw[eP]at h;split at h
  ·rename_i g h0;have j:=eX h0;split at h
   ·rename_i i l h1;have a:=(iq f _ _ _ _ h1).1;split at h
    ·rename_i v q;have b:=eX q;cases h;exact⟨by omega,fun _=>by omega⟩
    ·cases h
   ·exact jK
  ·split at h
   ·rename_i t g _;split at h
    ·injection h with h;have:=AI h;exact⟨by simp;omega,fun _=>by simp;omega⟩
    ·split at h
     ·cases h;exact⟨by simp,fun _=>by simp⟩
     ·cases h
   ·cases h
def rk:Md->Nat
 | .sum=>4
 | .prod=>3
 | .un=>2
 | .prim=>1
 | .more _ _=>0
def Rk:∀(n:Nat)(m:Md)(c:List Tk),5*c.length+rk m+1<=n-> ∃x,pP n m c=some x:=by
 intro n;induction n using Nat.strongRecOn with
 |_ n g=>
  intro m c d;cases n with
  |zero=>omega
  |succ f=>
   cases m with
   |sum=>
    obtain⟨y,a⟩:=g f O_ .prod c (by simp only[rk]at d ⊢;omega);rw[jE,a];cases y with
    |error e=>exact⟨_,rfl⟩
    |ok y=>obtain⟨e,r⟩:=y;have:=(iq f _ _ _ _ a).1;exact g f O_ (.more false e) r (by simp only[rk]at d ⊢;omega)
   |prod=>
    obtain⟨y,a⟩:=g f O_ .un c (by simp only[rk]at d ⊢;omega);rw[gK,a];cases y with
    |error e=>exact⟨_,rfl⟩
    |ok y=>obtain⟨e,r⟩:=y;have:=(iq f _ _ _ _ a).1;exact g f O_ (.more true e) r (by simp only[rk]at d ⊢;omega)
   |un=>
    rw[i8];cases h0:bh 45 c with
    |none=>exact g f O_ .prim c (by simp only[rk]at d ⊢;omega)
    |some r=>
     have j:=eX h0;obtain⟨y,a⟩:=g f O_ .un r (by simp only[rk]at d ⊢;omega);dsimp only;rw[a];cases y with
     |error e=>exact⟨_,rfl⟩
     |ok y=>exact⟨_,rfl⟩
   |prim=>
    rw[eP];cases h0:bh 40 c with
    |none=>
     cases c with
     |nil=>exact⟨_,rfl⟩
     |cons t r=>
      dsimp only;split
      ·exact⟨_,rfl⟩
      ·split
       ·exact⟨_,rfl⟩
       ·exact⟨_,rfl⟩
    |some r=>
     have j:=eX h0;obtain⟨y,a⟩:=g f O_ .sum r (by simp only[rk]at d ⊢;omega);dsimp only;rw[a];cases y with
     |error e=>exact⟨_,rfl⟩
     |ok y=>
      obtain⟨e,i⟩:=y;dsimp only;split
      ·exact⟨_,rfl⟩
      ·exact⟨_,rfl⟩
   |more b e0=>
    rw[dl];cases h0:eN b c with
    |none=>exact⟨_,rfl⟩
    |some p=>
     obtain⟨k,r⟩:=p;have j:=sh h0;dsimp only;obtain⟨y,a⟩:=g f O_ (ey b) r (by cases b<;>(simp only[ey,rk]at d ⊢;omega));rw[a];cases y with
     |error e=>exact⟨_,rfl⟩
     |ok y=>obtain⟨e,i⟩:=y;have l:i.length<r.length:=(iq f _ _ _ _ a).2 (by cases b<;>(intro _ _ h;cases h));exact g f O_ (.more b (.bin k e0 e)) i (by simp only[rk]at d ⊢;omega)
section
variable {P:Program}{T:TypeId->Option Ty}{n:Nat}{ops:Array Oper}{id:Nat}{draw:Bool}{K:AS->Prop}{s:AS}{k:Nat}{o:Oper}{os:List Oper}{fps:List FP}
def Aq(hT:∀t d,T t=some d->bl P t d){t:TypeId}{ty:Ty}{x y:Operand}{Q q m i:Nat}{ik:IntKind}{cs:List AV}(E:cs.length<=m*q)(hi:i<=m)(h1:gd ops s o=some true)(D:o.op= .slice t x (some y) none none)(h5:T t=some ty)(h6:ty.elem=some (Q,q))(h7:s.ev x= .d (.leaf (.sl m cs)))(h8:s.ev y= .d (.leaf (.val (.int ik (i:Nat)))))(h3:aO n o.dst=true)(h4:gO draw ops (aH ops o ⟨.d (.leaf (.sl (m-i) (cs.drop (i*q)))),none⟩ []) k fps=true)(h:aw P T n ops id draw K (k+1) os (s.eff o.dst ⟨.d (.leaf (.sl (m-i) (cs.drop (i*q)))),none⟩) (aH ops o ⟨.d (.leaf (.sl (m-i) (cs.drop (i*q)))),none⟩ []::fps)):aw P T n ops id draw K k (o::os) s fps:=by
 refine .run h1 (.gen fun U S _=>?_) h3 h4 h;have hx:=(aP S (x:=x) (by simp[D,Op.operands])).trans h7;have hy:=(aP S (x:=y) (by simp[D,Op.operands])).trans h8;obtain⟨u,hu,_,F,_⟩:=(hT _ _ h5).und;obtain⟨rfl,J⟩:=F Q q h6;refine ar fun n O w0 g a w R=>?_;have z:=R.ev x;rw[hx]at z;have z:AV.M (Own O g U) w (.sl m cs) (a.eval x):=z;have I:=bn R hy;have L:∃v,(Instr.sliceAt t (a.eval x) (some (.int ik (i:Nat))) none none).run P w= .ok v w/\AV.M (Own O g U) w (.sl (m-i) (cs.drop (i*q))) v:=by
  generalize a.eval x=v at z;have G:(0:Int)<=(i:Int)/\(i:Int)<=(m:Nat):=⟨by omega,by omega⟩;have B:∀(A:Option Addr)(c:Nat),(Instr.sliceAt t (.slice A m c) (some (.int ik (i:Nat))) none none).run P w= .ok (.slice (if c=i then A else A.map (·.add (i*q))) (m-i) (c-i)) w:=fun A c=>by refine H6 ?_;unfold Instr.slice;simp only[Y_,run_underlying hu w,R_,Instr.sliceBounds,Instr.sliceBound,a_,asIntOf];rw[if_pos G];simp only[a_,R_,Int.toNat_natCast];rw[b5 J w];rfl
  cases z with
  |emp V X C=>
   rename_i A c;refine⟨_,B A c,?_⟩;rw[List.drop_nil];refine .emp O_ O_ (fun hA=>?_);split at hA
   ·rename_i l;omega
   ·have:A=none:=by cases A<;>simp_all
    have:=C this;omega
  |sl f V X C Y Z e6=>
   rename_i b N c;refine⟨_,B _ c,?_⟩;by_cases l:c=i
   ·rw[if_pos l];have hd:cs.drop (i*q)=[]:=List.drop_eq_nil_of_le (by rw[show i=m by omega];exact E);rw[hd];exact .emp O_ O_ (fun h=>by cases h)
   ·rw[if_neg l];show AV.M _ _ _ (.slice (some ((⟨b,N,none⟩:Addr).add (i*q))) (m-i) (c-i));rw[bt];refine .sl (fun j=>f (i*q+j)) O_ O_ C Y (fun j x r=>?_) (fun j x r=>?_)
    ·rw[List.getElem?_drop]at r;rw[Nat.add_assoc];exact Z _ _ r
    ·rw[List.getElem?_drop]at r;exact e6 _ _ r
 obtain⟨v,hr,hv⟩:=L;refine⟨v,w,?_,Below.refl _ _,hv⟩;unfold execOp;rw[D];simp only[I,Option.map_some,Option.map_none,Y_,hr,R_];rfl
def qp{w:World}{t c f:TypeId}{r:Nat}{b:Array MapEntry}{a:Nat}{key:ByteArray}{v:Value}(i:P.underlying t=some (.map c f))(e:P.underlying c=some .string)(d:w.heap[r]? =some (.map b a))(h:Instr.findNow .string (.string key) b.toList 0=some none):
 (Instr.mapUpdate t (.map (some r)) (.string key) v).run P w= .ok () { w with heap:=w.heap.setIfInBounds r (.map (b.push { key:= .string key,val:=v,born:=a }) (a+1)) }:=by
 have g:(Instr.checkKey false 10000 c (.string key)).run P w= .ok () w:=MapKept.run_checkKey e (by simp[MapKept.IsKey]) false 9999;simp[Instr.mapUpdate,run_underlying i,MapKept.run_getObj_map d,g,MapKept.run_findKey e h,MapKept.run_setObj_map _ d,Result.andThen]
def Qy{m j l:Oper}{d:Nat}{t kt et:TypeId}{c f:ByteArray}{p q:Value}(hm:P.underlying t=some (.map kt et))(Z:P.underlying kt=some .string)(h0:draw=false)(h1:m.op= .makeMap t none)(h2:j.op= .insert t (.tmp d) (.const (.string c)) (.const p))(h3:l.op= .insert t (.tmp d) (.const (.string f)) (.const q))(Y:m.dst=some d)(hg:m.guard=none/\j.guard=none/\l.guard=none)(G:j.dst=none)(I:l.dst=none)(J:aO n m.dst=true)(O:(f == c)=false)(h:aw P T n ops id draw K (k+3) os ⟨(d, .mp [(.string c,p),(.string f,q)])::s.t,s.b⟩ fps):aw P T n ops id draw K k (m::j::l::os) s fps:=by
 refine .snd3 h0 hg (fun S0 w0 g a w K' Q F hK=>?_) h;have x:d<n:=eI J d Y;generalize D:w.heap.size=r;have hev:((a.put (some d) (.map (some r))).eval (.tmp d))= .map (some r):=by
  have:d<a.tmps.size:=by rw[F.sz];exact x
  simp[Act.eval,Act.put,this]
 have V:(w.alloc (.map #[] 0)).heap[r]? =some (.map #[] 0):=by rw[<- D];exact heap_alloc_new w _
 have U:=qp (P:=P) (w:=w.alloc (.map #[] 0)) (key:=c) (v:=p) hm Z V rfl;generalize y:({ key:= .string c,val:=p,born:=0 }:MapEntry)=e1 at U;have B:e1.key= .string c:=by rw[<- y]
 have R:e1.val=p:=by rw[<- y]
 generalize C:({ (w.alloc (.map #[] 0))with heap:=(w.alloc (.map #[] 0)).heap.setIfInBounds r (.map (#[].push e1) (0+1)) }:World)=w2 at U;have b2:w2.heap[r]? =some (.map #[e1] 1):=by rw[<- C];have:r<(w.alloc (.map #[] 0)).heap.size:=(A_.1 V).1;show(Array.setIfInBounds _ r _)[r]? =_;rw[Array.getElem?_setIfInBounds,if_pos rfl,if_pos this];rfl
 have r2:=qp (P:=P) (w:=w2) (key:=f) (v:=q) hm Z b2 (by simp[Instr.findNow,Instr.sameNow,B,O]);generalize z:({ key:= .string f,val:=q,born:=1 }:MapEntry)=e2 at r2;have N:e2.key= .string f:=by rw[<- z]
 have S:e2.val=q:=by rw[<- z]
 have A:({ w2 with heap:=w2.heap.setIfInBounds r (.map (#[e1].push e2) (1+1)) }:World)=w.alloc (.map #[e1,e2] 2):=by
  have X:∀o:Obj,w.alloc o={ w with heap:=w.heap.push o }:=fun _=>rfl;rw[<- C,<- D,X,X];show({ w with heap:=Array.setIfInBounds (Array.setIfInBounds (w.heap.push _) w.heap.size _) w.heap.size _ }:World)={ w with heap:=w.heap.push _ };congr 1;apply Array.ext_getElem?;intro i;simp only[Array.getElem?_setIfInBounds,Array.getElem?_push,Array.size_setIfInBounds,Array.size_push];by_cases L:i=w.heap.size
  ·subst L;simp
  ·have:¬w.heap.size=i:=fun e=>L e.symm;simp[this,L]
 have q1:(execOp a.eval m).run P w= .ok (.value (.map (some r))) (w.alloc (.map #[] 0)):=by unfold execOp;rw[h1,<- D];rfl
 generalize u:a.put (some d) (.map (some r))=a1 at hev;have hev:a1.tmps.getD d Go.undef= .map (some r):=hev;have q2:(execOp a1.eval j).run P (w.alloc (.map #[] 0))= .ok .skip w2:=by unfold execOp;rw[h2];simp only[Act.eval,hev,Y_,U,R_,a_]
 have q3:(execOp a1.eval l).run P w2= .ok .skip (w.alloc (.map #[e1,e2] 2)):=by unfold execOp;rw[h3];simp only[Act.eval,hev,Y_,r2,A,R_,a_]
 have E:MG n S0 w0 g ⟨(d, .mp [(.string c,p),(.string f,q)])::s.t,s.b⟩ a1 (w.alloc (.map #[e1,e2] 2)):=by rw[<- u];refine F.put x ((Below.refl _ _).alloc (l_ _) _) ⟨r,#[e1,e2],2,rfl,by rw[<- D];exact heap_alloc_new w _,fun hS=>?_,by simp[B,R,N,S]⟩;have:=F.own_lt hS;omega
 unfold Oper.wp;rw[q1,Oper.upon_value,Y,u];show j.upon P a1 _ Q ((execOp a1.eval j).run P (w.alloc (.map #[] 0)));rw[q2,Oper.upon_skip,G];show l.upon P a1 _ Q ((execOp a1.eval l).run P w2);rw[q3,Oper.upon_skip,I];exact hK g _ _ E
def Tx(k:ByteArray):List (Value × Value)->Option Value
 | []=>none
 |(.string a,v)::r=>match k == a with
  |true=>some v
  |false=>Tx k r
 |_::_=>none
def qE{k:ByteArray}{v:Value}:∀(l:List MapEntry)(i:Nat),Tx k (l.map fun e=>(e.key,e.val))=some v-> ∃j,Instr.findNow .string (.string k) l i=some (some (j,v))
 | [],_,h=>by cases h
 |e::r,i,h=>by
  simp only[List.map_cons]at h;cases hk:e.key<;>rw[hk]at h<;>try(cases h)
  rename_i a;simp only[Tx]at h;simp only[Instr.findNow,hk,Instr.sameNow];cases hb:k == a
  ·rw[hb]at h;exact qE r (i+1) h
  ·rw[hb]at h;cases h;exact⟨i,rfl⟩
def G6{t f B:TypeId}{x y:Operand}{i:List (Value × Value)}{key:ByteArray}{v:Value}(N:P.underlying t=some (.map f B))(m:P.underlying f=some .string)(L:Tx key i=some v)(O:v.oneCell'=true)(C:gd ops s o=some true)(e:o.op= .lookup t x y false)(F:s.ev x= .mp i)(G:s.ev y= .d (.leaf (.val (.string key))))(D:aO n o.dst=true)(E:gO draw ops (aH ops o ⟨.d (.leaf (.val v)),none⟩ []) k fps=true)(h:aw P T n ops id draw K (k+1) os (s.eff o.dst ⟨.d (.leaf (.val v)),none⟩) (aH ops o ⟨.d (.leaf (.val v)),none⟩ []::fps)):aw P T n ops id draw K k (o::os) s fps:=by refine .run C (.gen fun U p _=>?_) D E h;have Q:=(aP p (x:=x) (by simp[e,Op.operands])).trans F;have R:=(aP p (x:=y) (by simp[e,Op.operands])).trans G;refine ar fun n S V g a w l=>⟨v,w,?_,Below.refl _ _,AV.M.val O⟩;have c:=l.ev x;rw[Q]at c;obtain⟨r,b,q,u,z,_,A⟩:=c;obtain⟨j,J⟩:=qE b.toList 0 (by rw[A];exact L);have I:(Instr.checkKey b.isEmpty 10000 f (.string key)).run P w= .ok () w:=MapKept.run_checkKey m (by simp[MapKept.IsKey]) _ 9999;unfold execOp;rw[e];simp[u,bn l R,Instr.lookup,run_underlying N,MapKept.run_getObj_map z,I,MapKept.run_findKey m J,Result.andThen]
def Vj(s:AS):Bool:=zx (s.tv DK)
def DU{f:Operand}{fid:FuncId}{args:Array Operand}{ts:Array TypeId}{cs:List CV}(h0:draw=false)(q:gd ops s o=some true)(B:o.op= .defer ⟨.value f,args,ts⟩)(j:o.dst=none)(z:s.ev f= .d (.leaf (.val (.func (.func fid) #[] #[]))))(v:nD s args.toList=some cs)(y:Vj s=true)(h:aw P T n ops id draw K (k+1) os ⟨(DK, .dfr fid cs)::s.t,s.b⟩ (aH ops o ⟨.junk,none⟩ []::fps)):aw P T n ops id draw K k (o::os) s fps:=by
 refine .snd h0 q (fun F G g a w E Q c u=>?_) h;have D:=bn c z;have x:=ns c v;have e:(List.map a.eval args.toList).toArray=args.map a.eval:=Array.ext' S_;have C:(execOp a.eval o).run P w= .ok (.defer ⟨.fn (.func fid) #[],(args.toList.map a.eval).toArray⟩) w:=by unfold execOp;rw[B];simp only[resolve,D,Deferred.ofValue,Y_,a_,R_,e,Array.empty_append]
 unfold Oper.wp;rw[C,Oper.upon_defer,j];refine u g _ w ⟨fun i=>?_,fun i p l=>?_,c.inj,c.grow,?_,c.sz,c.cl,c.tg,fun k cs A=>(c.gl k cs A).sameB rfl,c.gp,c.nk⟩
 ·by_cases l:DK=i
  ·subst l;have e0:(AS.mk ((DK, .dfr fid cs)::s.t) s.b).tv DK= .dfr fid cs:=by simp[AS.tv,ap]
   rw[e0];trivial
  ·have e0:(AS.mk ((DK, .dfr fid cs)::s.t) s.b).tv i=s.tv i:=by simp[AS.tv,az _ _ l]
   rw[e0];exact(c.tm i).sameB rfl
 ·obtain⟨m,r⟩:=c.bm i p l;exact⟨m,r.sameB rfl⟩
 ·have e0:(AS.mk ((DK, .dfr fid cs)::s.t) s.b).tv DK= .dfr fid cs:=by simp[AS.tv,ap]
  rw[e0];refine⟨args.toList.map a.eval,?_,rd.sameB (s:=s) (s':=⟨(DK, .dfr fid cs)::s.t,s.b⟩) rfl x⟩;have m:=(AP.no y).1 c.df;show _::a.defers=_;rw[m]
end
section
variable {P:Program}{T:TypeId->Option Ty}
structure Vk (P:Program) (s:AS) (b':BL) (fid:FuncId) (cs:List CV) (b1:BL) (r1:RT) (b2:BL):Prop where
 dk:s.tv DK= .dfr fid cs
 one:rW cs=true
 body:g7 P fid (cs.map TC) b1 r1 b2
 kn:(Gm (aB b1) ((cs.map TC).flatMap eu) && vB (aB b1) (aB b1))=true
 bx:ug s (aB b1)
 cl:dV (b1.map (·.1)) s.b=true
 new:pq s b1 b2=true
 fin:ug ⟨s.t,aB b2++dY b2 b1++s.b⟩ (aB b')
def T3(P:Program)(T:TypeId->Option Ty)(s:AS)(f:List ResultVar)(b':BL):Prop:=Nk T s f (.v (.tup [])) b'∨ ∃a d b e c,Vk P s b' a d b e c
def CallsD.mono{f:FuncId}{args:Array Value}{u:FrameMode}{w:World}{R d:Ending->FrameMode->World->Prop}(h:CallsD P f args u w R)(m:∀e a b,R e a b->d e a b):CallsD P f args u w d:=fun c g p=>by obtain⟨e,a,b,i,j,l⟩:=h c g p;exact⟨e,a,b,i,m _ _ _ j,l⟩
def gT(hT:∀t d,T t=some d->bl P t d)(G:P.follows .mixedOrders=true){f:FuncId}{fn:Func}{c:Code}{ts:List TV}{b b':BL}(hf:P.funcs[f]? =some fn)(hb:fn.body=some c)(hn:(fn.name == "runtime.NumGoroutine")=false)(hsz:(Nat.ble ts.length fn.ntmps && Nat.ble fn.ntmps DK)=true)(Y:fn.results= #[])(J:tV b' b=true)(y:yk (.v (.tup [])) b'=true)(hlen:eL b b')(h:fT P T fn.ntmps c (fun e s=>match e with| .exit _=>False|_=>T3 P T s fn.results.toList b') ⟨uj 0 ts,aB b⟩):ay P f ts b (.v (.tup [])) b':=by
 unfold yk at y;rw[B_]at y hsz;obtain⟨r,_⟩:=y;obtain⟨hsz,A⟩:=hsz;have hsz:=N_ hsz;have A:=N_ A;have q:∀(t:Array Value)(w:World),(results fn t).run P w= .ok (.tuple #[]) w:=fun t w=>by unfold results;rw[Y];simp
 refine⟨fun al w=>?_,fun S g w vs hS hv=>?_⟩
 ·exact OU
 ·refine calls_of_wp_defers hf hb (wp_mono (oX (S0:=S) (w0:=qO g w b) hT G c _ _ _ w h (y8 hS hv hsz A)) fun e a w1 hq=>?_);have L:∀E O,TV.M (Own S E (sB b')) E (sB b') O (RT.v (.tup [])).tv (.tuple #[]):=fun E O=>⟨[],rfl,rfl,fun i x u h1 _=>by simp at h1⟩;have fin:∀s,T3 P T s fn.results.toList b'->M fn.ntmps S (qO g w b) s a w1->Leaves P fn a.tmps (wE S g b (.v (.tup [])) b' w) a.defers .returning w1:=by
   rintro s (⟨⟨l,h1,_⟩,ad⟩| ⟨D,C,b1,r1,b2,m⟩) ⟨E,N⟩
   ·rw[(AP.no (je h1)).1 N.df];exact⟨_,q _ _,Cr J r hlen ad N (L _ _)⟩
   ·have F:=N.df;rw[m.dk]at F;obtain⟨us,e1,R⟩:=F;rw[e1];have z:=m.kn;rw[B_]at z;obtain⟨S1,I,hO,B⟩:=N.callT (b:=b1) (b':=b2) m.bx z.2 (B7 m.cl) (fun j C V hn=>xJ m.new (dj.1 V) hn);have ag:∀j C,(sB b1).bx j=some C->s.bx j=some C:=fun j C V=>m.bx.at (dj.1 V);obtain⟨ao,c1,U,Q,Z⟩:=m.body.body;refine⟨S_, .func D,#[],D,us.toArray,rfl,?_,?_⟩
    ·have:=m.body.enter us.toArray w1;simp only[invoke];simpa using this
    ·refine CallsD.mono (callsD_of_wp U Q (Z S1 E w1 us I (by rw[hO];exact wj ag (Gy z.1) (tE m.one R)))) fun e u' O hq=>?_;obtain⟨rfl,v,g2,rfl,k2,k3,k4,k5,k6⟩:=hq;obtain⟨g3,X⟩:=B r1 v g2 O k2 k3 k4 k5 k6 none (fun d h=>by cases h);exact⟨_,q _ _,Cr J r hlen m.fin X (L _ _)⟩
  exact OP
end
def q6(s:List UInt8)(c:UInt8):aa prog 228 [dL s,dL [c]] (.one (dB (decide (0<=Lib.indexByte s c)))):=
 ⟨aD func228 rfl rfl,fun S w f g d=>by
  match f,d with
  | [v,u],⟨a,b,_⟩=>obtain rfl:=bc a;obtain rfl:=bc b;refine(Tryz.strings_Contains_one (Bs s) c w).mono ?_;rintro e h ⟨rfl,rfl⟩;exact⟨_,rfl,AV.M.val rfl,Below.refl _ _⟩⟩
def fV(ts:List Tk)(a e:Int):List AV:=[.sl ts.length (ce ts), .val (.int .i64 a), .val (.int .i64 e)]
def ic{ts b:List Tk}{a e c d:Int}:eL [(900,fV ts a e)] [(900,fV b c d)]:=eL.one (l_ 3)
def cH(t:Tk)(r:List Tk)(a e:Int):ay prog 79 [.box 900 0] [(900,fV (t::r) a e)] (.v (.one (.agg (jU t)))) [(900,fV (t::r) a e)]:=by refine aX ah dz func79 rfl rfl rfl rfl rfl ic ?_;exact P5
def jY(t:Tk)(r:List Tk)(a e:Int):ay prog 170 [.box 900 0] [(900,fV (t::r) a e)] (.v (.one (.agg (jU t)))) [(900,fV r a e)]:=by refine aX ah dz func170 rfl rfl rfl rfl rfl ic ?_;refine iY ?_;refine kD (cH t r a e) ?_;refine kG ?_;refine kO5 ?_;refine OE ?_;exact fE
def AR(ie:List UInt8)(t:Tk):Bool:=match t.2.1 with
 | [c]=>decide (0<=Lib.indexByte ie c)
 |_=>false
def r8(ie:List UInt8)(t:Tk)(r:List Tk)(a e:Int)(g:t.1=4-> ∃c,t.2.1=[c]):ay prog 169 [.box 900 0, .d (dL ie)] [(900,fV (t::r) a e)] (.v (.one (dB (decide (e=0) && (decide (t.1=4) && AR ie t))))) [(900,fV (t::r) a e)]:=by
 obtain⟨k,x,p⟩:=t;dsimp only at g ⊢;by_cases he:e=0
 ·by_cases f:k=4
  ·obtain⟨c,rfl⟩:=g f;have i:=q6 ie c;rw[T_ he,T_ f,Bool.true_and,Bool.true_and,show AR ie (k,[c],p)=decide (0<=Lib.indexByte ie c) from rfl];generalize decide (0<=Lib.indexByte ie c)=b at *;refine Gw ?_;refine iY ?_;refine kD (cH (k,[c],p) r a e) ?_;refine kG ?_;refine kO4 ?_;refine kT ?_;refine kO3 ?_;refine kT ?_;refine kO5 ?_;refine kC i ?_;exact fE
  ·rw[T_ he,F_ f,Bool.true_and,Bool.false_and];refine Gw ?_;refine iY ?_;refine kD (cH (k,x,p) r a e) ?_;refine kG ?_;refine kO4 ?_;refine kT ?_;refine kO3 ?_;refine kE ?_;exact fE
 ·rw[F_ he,Bool.false_and];refine Gw ?_;refine iY ?_;refine kD (cH (k,x,p) r a e) ?_;refine kG ?_;exact IH
def i7(t:Tk)(r:List Tk)(a c:Int):ay prog 80 [.box 900 0, .d (dN .i64 c)] [(900,fV (t::r) a 0)] (.v (.tup [])) [(900,fV (t::r) t.2.2 c)]:=by refine aX ah dz func80 rfl rfl rfl rfl rfl ic ?_;refine kW ?_;refine kD (cH t r a 0) ?_;exact fE
def tz(t:Tk)(r:List Tk)(a e c:Int)(he:e≠0):ay prog 80 [.box 900 0, .d (dN .i64 c)] [(900,fV (t::r) a e)] (.v (.tup [])) [(900,fV (t::r) a e)]:=by refine aX ah dz func80 rfl rfl rfl rfl rfl ic ?_;refine kI ?_;exact IH
def bX:List Tk->Prop
 | []=>False
 | [t]=>t.1=0
 |t::u::r=>(t.1≠0/\(t.1=4-> ∃c,t.2.1=[c])/\(t.1=2->t.2.1.length<=500))/\bX (u::r)
def bX.head{t:Tk}{r:List Tk}(h:bX (t::r)):(t.1=4-> ∃c,t.2.1=[c])/\(t.1=2->t.2.1.length<=500):=by
 cases r with
 |nil=>have h:t.1=0:=h;exact⟨fun e=>by omega,fun e=>by omega⟩
 |cons u r=>exact h.1.2
def bX.tail{t:Tk}{r:List Tk}(h:bX (t::r))(h0:t.1≠0):bX r:=by
 cases r with
 |nil=>exact absurd h h0
 |cons u r=>exact h.2
def bX.ne{ts:List Tk}(h:bX ts):∃t r,ts=t::r:=by
 cases ts with
 |nil=>exact h.elim
 |cons t r=>exact⟨t,r,rfl⟩
def Rd(fid:FuncId)(ts:List Tk)(a:Int):gG->Prop
 | .ok (e,r)=>ay prog fid [.box 900 0] [(900,fV ts a 0)] (.v (.one (dE e))) [(900,fV r a 0)]/\bX r
 | .error (p,c)=>c≠0/\ ∃y b,ay prog fid [.box 900 0] [(900,fV ts a 0)] (.v (.one (dR y))) [(900,fV b p c)]/\bX b
def R4(n:Nat):Lib.repeatL [48] n=List.replicate n 48:=by
 induction n with
 |zero=>rfl
 |succ n a=>simp[Lib.repeatL,List.replicate_succ]at a ⊢;exact a
def IT(z:Int):0<(fmt z).length:=by
 rw[Fx];have:0<(jQ z.natAbs).length:=by
  unfold jQ;split
  ·simp
  ·rename_i h;obtain⟨c,r,e,_⟩:=nC h;rw[e];simp
 simp;omega
def Bp(n:Nat)(h:n<=1000000):aa prog 178 [dL [48],dN .i64 n] (.one (dL (List.replicate n 48))):=
 ⟨aD func178 rfl rfl,fun S w f g d=>by
  match f,d with
  | [v,u],⟨a,b,_⟩=>obtain rfl:=bc a;obtain rfl:=bc b;refine(Tryz.strings_Repeat (Bs [48]) n w O_ (by rw[an];simp;omega)).mono ?_;rintro e i ⟨rfl,c⟩;exact⟨_,rfl,by rw[show(Bs [48]).data.toList=[48] from rfl,R4];exact AV.M.val rfl,c⟩⟩
def i6{q:Rat}{n:Nat}(G:nz n q)(S:n<=900):∃t,aa prog 125 [dQ q] (.tup [dL t,dB (fZ q).isSome])/\ ∀u,fZ q=some u->t=u:=by
 have E:aa prog 173 [dQ q] (.one (dB true)):=ye q G O_;by_cases c:N1 q<0
 ·have h0:fZ q=none:=by rw[fZ,if_pos c]
  refine⟨[],?_,fun u h=>by rw[h0]at h;cases h⟩;rw[h0];refine kV func125 ?_;refine kQ E ?_;refine kC (vF q) ?_;refine kB true ?_ ?_
  ·exact T_ c
  exact am
 ·obtain⟨K,V,N,m⟩:=mQ c;have main:∀t b,(40<=K->t=[]/\b=false)->(K<40->t=jV K (fmt (pw q K).num)/\b=decide (t.length<=40))->aa prog 125 [dQ q] (.tup [dL t,dB b]):=by
   intro t b I J;refine kV func125 ?_;refine kQ E ?_;refine kC (vF q) ?_;refine kB false ?_ ?_
   ·exact F_ c
   refine kW ?_;refine ac (xu 10 D_ D_ (q:=((10:Int):Rat)) rfl) rfl rfl rfl rfl rfl rfl rfl ?_;refine kW ?_;refine ac (fx 1 D_ D_) rfl rfl rfl rfl rfl rfl rfl ?_;refine kW ?_;refine av Nat (fun k=>k<=K) (fun k=>⟨[(1, .box 0 0),(2, .d (dL [])),(3, .d (dB false)),(4, .box 3001 0),(5, .box 4001 0),(6, .d (dN .i64 k))],[(0,some (aQ (pw q k))),(3001,some (aQ ((10:Int):Rat))),(4001,some (aZ 1))]⟩) (fun k=>41-k) 0 (Nat.zero_le _)
    kw ?_
   intro k R;have C:=IV G k;refine kI ?_;refine kO ?_;by_cases r:k<40
   ·refine kT ?_;refine kG ?_;refine kO3 ?_;have g:=FB ((pw q k).den:Int) 1;by_cases f:((pw q k).den:Int)=1
    ·have v:k=K:=by
      rcases Nat.lt_or_ge k K with h|h
      ·exact absurd f (N k h)
      ·omega
     rw[show bG ((pw q k).den:Int) 1=0 by rw[f];exact Eh 1]at g;obtain⟨rfl,rfl⟩:=J O_;subst v;refine kQ g ?_;have hlen:(fmt (pw q k).num).length<=10*(n+k)+2:=Ey C.1;refine ac (xg (V_ C.1.digs O_)) rfl rfl rfl rfl rfl rfl rfl ?_;refine kG ?_;refine kO ?_;unfold jV dx;have F:0<(fmt (pw q k).num).length:=IT _;generalize fmt (pw q k).num=u at *;have Q:=an u;by_cases j:0<k
     ·rw[if_pos j];refine kT ?_;refine kG ?_;refine kO4 ?_;refine bW (v':= .int .i64 ((k:Int)+1-u.length)) rfl rfl rfl rfl ?_ ?_
      ·exact congrArg (Value.int .i64) (by rw[IntWalk.i64_in ((k:Int)+1) O_,IntWalk.i64_in _ O_];omega)
      refine kG ?_;refine kO ?_;by_cases U:u.length<k+1
      ·refine kT ?_;refine kG ?_;refine kO ?_;have D:=Bp (k+1-u.length) O_;rw[show(((k+1-u.length:Nat)):Int)=(k:Int)+1-u.length by omega]at D;refine kC D ?_;refine kO ?_;refine aj rfl rfl rfl rfl rfl rfl rfl (aA (a:=List.replicate (k+1-u.length) 48) (b:=u) (by simp;omega)) ?_;have B:(List.replicate (k+1-u.length) 48++u).length=k+1-u.length+u.length:=S_;generalize A:List.replicate (k+1-u.length) 48++u=w at *;have L:=an w;exact Ps
      ·refine kE ?_;rw[show k+1-u.length=0 by omega,List.replicate_zero,List.nil_append];have B:u.length=u.length:=rfl;generalize A:u=w at *;exact Ps
     ·obtain rfl:k=0:=O_;rw[if_neg j];have y:0+1-u.length=0:=O_;rw[y,List.replicate_zero,List.nil_append];refine kE ?_;refine kG ?_;refine kO3 ?_;refine bW (v':= .bool (decide (u.length<=40))) rfl rfl rfl rfl ?_ ?_
      ·exact J7
      exact am
    ·have x:bG ((pw q k).den:Int) 1≠0:=by
      rcases Int.lt_trichotomy ((pw q k).den:Int) 1 with h|h|h
      ·rw[fU h];decide
      ·exact absurd h f
      ·rw[j0 h];decide
     refine kC g ?_;refine kB true ?_ ?_
     ·exact(by simpa using x)
     refine kW ?_;refine ac (IB C (wF (n:=10) D_) O_ (q:=pw q (k+1)) rfl) rfl rfl rfl rfl rfl rfl rfl ?_;refine kW ?_;exact⟨k+1,by
      rcases Nat.lt_or_ge k K with h|h
      ·exact h
      ·obtain rfl:k=K:=O_;rcases m with⟨e,_⟩| ⟨_,m,_⟩
       ·omega
       ·exact absurd m f,by omega,weak ⟨rfl,rfl,rfl,rfl,rfl,aq O_ O_,trivial⟩ ⟨rfl,rfl,rfl,trivial⟩ rfl⟩
   ·refine kE ?_;obtain⟨rfl,rfl⟩:=I O_;exact am
  rcases m with⟨e,h0⟩| ⟨e,O,h2⟩
  ·exact J4
  ·by_cases r:K=40
   ·have h0:fZ q=none:=by rw[h2,if_neg];have:=JP K (fmt (pw q K).num) O_;omega
    exact J4
   ·exact SE
def If{l:List UInt8}{i:Nat}(h:i<l.length):num (l.take (i+1))=10*num (l.take i)+dv l[i]:=by rw[List.take_succ_eq_append_getElem h,f9]
def oq(s:List UInt8):aa prog 328 [dL s] (.tup [dZ (pz s).1,dN .i64 (pz s).2]):=by
 have E:dZ 0= .agg [.val (.bool false), .sl 0 []]:=by unfold dZ;rw[e0]
 have hsz:=an s;by_cases L:s.length<=65536
 ·have Q:=lI s;refine kU func328 ?_;refine M7 ?_;refine bB ?_;refine kR ?_;refine ks ⟨[(0, .d (dL s)),(2, .box 0 0),(3, .d (dN .i64 0)),(4, .d (dL (dA s)))],[(0,some [.val (.bool false), .sl 0 []])]⟩ (fun X hw=>?_) (fun R w u=>?_)
  ·refine qH ?_;refine kW ?_;refine av Nat (fun i=>i<=(dA s).length/\ ∀c∈(dA s).take i,cM c) (fun i=>⟨[(0, .d (dL s)),(2, .box 0 0),(3, .d (dN .i64 0)),(4, .d (dL (dA s))),(5, .box 6001 0),(6, .d (dN .i64 i))],[(0,some [.val (.bool false), .sl 0 []]),(6001,some (aZ (num ((dA s).take i):Nat)))]⟩) (fun i=>(dA s).length-i) 0 ⟨by omega,by simp⟩ (weak ⟨rfl,rfl,rfl,rfl,rfl,rfl,trivial⟩ ⟨rfl,congrArg some e0.symm,trivial⟩ rfl) ?_;rintro i ⟨g,y⟩;have V:=an (dA s);refine kR ?_;refine fH rfl (fun h=>?_) (fun h=>?_)
   ·have h:=h_ h;have g:i<(dA s).length:=O_;refine bB ?_;refine kR ?_;refine bU ah (i:=i) (c:=(dA s)[i]) (Q_ g) rfl rfl rfl rfl rfl rfl rfl rfl ?_;by_cases N:(dA s)[i].toNat<48
    ·have f:¬pok s:=fun t=>by have:=(t.2.2.1 _ (List.getElem_mem g)).1;omega
     rw[jB f,E];refine kT ?_;exact am
    ·refine kE ?_;refine kO3 ?_;refine bU ah (i:=i) (c:=(dA s)[i]) (Q_ g) rfl rfl rfl rfl rfl rfl rfl rfl ?_;by_cases O:(dA s)[i].toNat > 57
     ·have f:¬pok s:=fun t=>by have:=(t.2.2.1 _ (List.getElem_mem g)).2;omega
      rw[jB f,E];refine kT ?_;exact am
     ·refine kE ?_;have J:cM (dA s)[i]:=⟨by omega,by omega⟩;have B:((dA s).take i).length<=65536:=by rw[U_];omega
      have C:=DW y;have S:=DL J;have U:=If g;have G:(Value.int .i64 (IntKind.i64.wrap (IntKind.u8.wrap (((dA s)[i].toNat:Int)-48))):Value)= .int .i64 (dv (dA s)[i]:Nat):=by rw[IntWalk.u8_in _ O_,IntWalk.i64_in _ O_];unfold dv;congr 1;omega
      have A:bZ ((num ((dA s).take i):Nat)*10:Int):=by have:=BU (V_ C B) (m:=10*num ((dA s).take i)) O_;unfold bZ;rw[show((num ((dA s).take i):Nat)*10:Int).natAbs=10*num ((dA s).take i) by omega];omega
      refine kW ?_;refine ac (c8 10 D_ D_) rfl rfl rfl rfl rfl rfl rfl ?_;refine kW ?_;refine ac (eT (a:=(num ((dA s).take i):Nat)) (b:=10) (V_ C (V_ B D_)) (.small D_)) rfl rfl rfl rfl rfl rfl rfl ?_;refine kO2 ?_;refine bU ah (i:=i) (c:=(dA s)[i]) (Q_ g) rfl rfl rfl rfl rfl rfl rfl rfl ?_;refine kO ?_;refine bW rfl rfl rfl rfl G ?_;refine ac (c8 (dv (dA s)[i]:Nat) O_ O_) rfl rfl rfl rfl rfl rfl rfl ?_;refine ac (mx (a:=(num ((dA s).take i):Nat)*10) (b:=(dv (dA s)[i]:Nat)) A (.small O_)) rfl rfl rfl rfl rfl rfl rfl ?_;refine kW ?_;have D:((num ((dA s).take i):Nat)*10+(dv (dA s)[i]:Nat):Int)=(num ((dA s).take (i+1)):Nat):=by rw[U];omega
      refine⟨i+1,⟨g,fun c v=>?_⟩,by omega,weak ⟨rfl,rfl,rfl,rfl,rfl,aq rfl O_,trivial⟩ ⟨rfl,congrArg (fun z=>some (aZ z)) D,trivial⟩ rfl⟩;rw[List.take_succ_eq_append_getElem g,List.mem_append]at v;rcases v with v|v
      ·exact y c v
      ·rw[d_]at v;rw[v];exact J
   ·have h:=of_decide_eq_false h;have g:i=(dA s).length:=O_;subst g;rw[List.take_length]at y ⊢;refine iy ?_;have I:bZ (kd (bL s) (num (dA s))):=by have:=DW y;unfold bZ;rw[show(kd (bL s) (num (dA s))).natAbs=num (dA s) by unfold kd;split <;>omega];omega
    refine ks ⟨[(0, .d (dL s)),(2, .box 0 0),(3, .d (dN .i64 0)),(5, .box 6001 0)],[(0,some [.val (.bool false), .sl 0 []]),(6001,some (aZ (kd (bL s) (num (dA s)))))]⟩ (fun X hw=>?_) (fun R w u=>?_)
    ·refine bH ?_;refine qH ?_;refine kO ?_;refine kC (mt I) ?_;refine kO ?_;refine aj rfl rfl rfl rfl rfl rfl rfl og ?_;refine .done ?_;by_cases l:iz (bL s) (dA s)
     ·have:=RP l;rw[M5]at this;refine eR (T:=TT) rfl ?_ ?_
      ·exact(by rw[this];simp)
      rw[J9 ⟨L,l⟩];refine bB ?_;exact am
     ·have:fmt (kd (bL s) (num (dA s)))≠s:=fun e=>l (F0 y (by rw[M5];exact e));refine fX (T:=TT) rfl ?_ ?_
      ·exact(by simp[this])
      rw[jB (fun h=>l h.2),E];exact am
    ·have j:=R8 s;refine kR ?_;cases t:bL s
     ·rw[t]at j;refine eR (T:=TT) rfl ?_ ?_
      ·exact(by rw[<- j];congr 1;simp;omega)
      refine bB ?_;exact w _ (weak ⟨rfl,rfl,rfl,rfl,trivial⟩ ⟨rfl,congrArg (fun z=>some (aZ z)) (show((num (dA s):Nat):Int)=kd (bL s) (num (dA s)) by rw[t];rfl),trivial⟩ rfl)
     ·rw[t]at j;refine fX (T:=TT) rfl ?_ ?_
      ·exact(by rw[<- j];congr 1;simp;omega)
      refine kW ?_;refine kQ (mC (num (dA s):Nat)) ?_;exact w _ (weak ⟨rfl,rfl,rfl,rfl,trivial⟩ ⟨rfl,congrArg (fun z=>some (aZ z)) (show -((num (dA s):Nat):Int)=kd (bL s) (num (dA s)) by rw[t];rfl),trivial⟩ rfl)
  ·clear u
   match s with
   | []=>
    refine nB ?_;refine kB false ?_ ?_
    ·exact rfl
    refine kW ?_;refine bB ?_;exact w _ kw
   |c::r=>
    refine nB ?_;refine kB true ?_ ?_
    ·exact T_ (by rw[hsz];simp)
    refine kO2 ?_;refine Lr ?_;by_cases h:c=45
    ·subst h;refine kW ?_;refine qW ah (i:=1) S_ rfl rfl rfl rfl rfl rfl rfl rfl ?_;refine kW ?_;exact w _ kw
    ·have F:(c == 45)=false:=beq_eq_false_iff_ne.2 h;have Y:c.toNat≠45:=fun e=>h (UInt8.toNat_inj.1 e);refine kB false ?_ ?_
     ·exact beq_eq_false_iff_ne.2 O_
     refine kW ?_;refine bB ?_;exact w _ (weak ⟨rfl,rfl,rfl,congrArg (fun x=>TV.d (dL x)) (show c::r=dA (c::r) by simp[dA,F]),trivial⟩ ⟨rfl,trivial⟩ rfl)
 ·rw[jB (fun h=>L h.1),E];refine kU func328 ?_;refine Dz ?_;exact am
def ul{t:List UInt8}{j:Nat}{c:UInt8}(h:∀i x,i<j->t[i]? =some x->cM x)(d:t[j]? =some c)(g:¬cM c):(eB t).length=j:=by
 obtain⟨m,f⟩:=G_.1 d;have e:t=t.take j++c::t.drop (j+1):=by rw[<- f,List.getElem_cons_drop,List.take_append_drop]
 have b:∀x∈t.take j,cM x:=fun x l=>by
  obtain⟨i,a⟩:=W_ l;rw[List.getElem?_take]at a;split at a
  ·exact h i x O_ a
  ·cases a
 rw[e,(gZ b).1,(gU g).1,c_,U_];omega
def BD{t:List UInt8}(h:∀i x,i<t.length->t[i]? =some x->cM x):eB t=t:=(pm fun x b=>by obtain⟨i,a⟩:=W_ b;exact h i x (G_.1 a).1 a).1
def oi{t:List UInt8}(A:t.length<=1000000000):aa prog 327 [dL t] (.one (dN .i64 (eB t).length)):=by
 have hsz:=an t;refine kV func327 ?_;refine av Nat (fun j=>j<=t.length/\ ∀i c,i<j->t[i]? =some c->cM c) (fun j=>⟨[(0, .d (dL t)),(3, .d (dN .i64 j))],[]⟩) (fun j=>t.length-j) 0 ⟨Nat.zero_le _,fun i c h=>absurd h (Nat.not_lt_zero _)⟩ kw ?_;rintro j ⟨z,hall⟩;refine kI ?_;refine kO3 ?_;by_cases a:j<t.length
 ·obtain⟨c,w⟩:∃c,t[j]=c:=⟨_,rfl⟩;have hcj:t[j]? =some c:=by rw[Q_ a,w]
  refine kT ?_;refine kO3 ?_;refine bU ah (l:=t) (i:=j) hcj rfl rfl rfl rfl rfl rfl rfl rfl ?_;by_cases r:48<=c.toNat
  ·refine kT ?_;refine kO4 ?_;refine bU ah (l:=t) (i:=j) hcj rfl rfl rfl rfl rfl rfl rfl rfl ?_;by_cases u:c.toNat<=57
   ·refine kT ?_;refine kW ?_;refine⟨j+1,⟨a,fun i m g f=>?_⟩,by omega,weak ⟨rfl,?_,trivial⟩ trivial rfl⟩
    ·rcases Nat.lt_succ_iff_lt_or_eq.1 g with v|rfl
     ·exact hall i m v f
     ·rw[hcj]at f;cases f;exact⟨r,u⟩
    ·exact aq O_ O_
   ·exact P6
  ·exact P6
 ·have b:j=t.length:=O_;refine kY ?_;rw[BD (fun i x g y=>hall i x O_ y),<- b];exact co (T:=TT) rfl rfl
def wk{p:List UInt8}(h:∀c∈p,cM c):iz false p↔p≠[]/\(1<p.length->p.head? ≠some 48):=by
 constructor
 ·rintro⟨a,_,b⟩;refine⟨a,fun d e=>?_⟩;rcases b with b| ⟨b,_⟩
  ·cases p with
   |nil=>cases e
   |cons c r=>simp at e;exact b c r rfl e
  ·omega
 ·rintro⟨a,f⟩;refine⟨a,h,?_⟩;by_cases d:1<p.length
  ·exact .inl fun c r e=>by have:=f d;rw[e]at this;simpa using this
  ·have:=List.length_pos_iff.2 a;exact .inr ⟨by omega,rfl⟩
section
variable {P:Program}{T:TypeId->Option Ty}{n:Nat}{ops:Array Oper}{id:Nat}{draw:Bool}{K:AS->Prop}{s:AS}{k:Nat}{o:Oper}{os:List Oper}{fps:List FP}
def RF(p:∀t d,T t=some d->bl P t d){t:TypeId}{ty:Ty}{x y:Operand}{l l':List UInt8}{i:Nat}{ik:IntKind}(q:l.take i=l')(r:i<=l.length)(a:gd ops s o=some true)(b:o.op= .slice t x none (some y) none)(f:T t=some ty)(g:ty.isStr=true)(j:s.ev x= .d (.leaf (.val (vL l))))(m:s.ev y= .d (.leaf (.val (.int ik (i:Nat)))))(c:aO n o.dst=true)(e:gO draw ops (aH ops o ⟨.d (dL l'),none⟩ []) k fps=true)(h:aw P T n ops id draw K (k+1) os (s.eff o.dst ⟨.d (dL l'),none⟩) (aH ops o ⟨.d (dL l'),none⟩ []::fps)):aw P T n ops id draw K k (o::os) s fps:=by subst q;exact IK p r a b f g j m c e h
def xn(p:∀t d,T t=some d->bl P t d){t:TypeId}{ty:Ty}{x y:Operand}{l l':List UInt8}{i:Nat}{ik:IntKind}(q:l.drop i=l')(r:i<=l.length)(a:gd ops s o=some true)(b:o.op= .slice t x (some y) none none)(f:T t=some ty)(g:ty.isStr=true)(j:s.ev x= .d (.leaf (.val (vL l))))(m:s.ev y= .d (.leaf (.val (.int ik (i:Nat)))))(c:aO n o.dst=true)(e:gO draw ops (aH ops o ⟨.d (dL l'),none⟩ []) k fps=true)(h:aw P T n ops id draw K (k+1) os (s.eff o.dst ⟨.d (dL l'),none⟩) (aH ops o ⟨.d (dL l'),none⟩ []::fps)):aw P T n ops id draw K k (o::os) s fps:=by subst q;exact qW p r a b f g j m c e h
end
open Classical in
noncomputable def EG(n:Nat):List UInt8->Option Rat
 | []=>some ((n:Int):Rat)
 |c::b=>if c=46 then(if b≠[]/\(∀x∈b,cM x)then some (Rat.divInt ((n*10^b.length+num b:Nat):Int) ((10^b.length:Nat):Int))else none)else if c=47 then(if iz false b/\num b≠0/\num b≠1/\Nat.gcd n (num b)=1 then some (Rat.divInt (n:Int) (num b:Int))else none)else none
def DN{t:List UInt8}(h:iz false (eB t)):fJ t=EG (num (eB t)) (jt t):=by unfold fJ EG;rw[if_pos h];cases jt t<;>rfl
def KT{n:Nat}{c:UInt8}{b:List UInt8}(a:c=46)(h:¬(b≠[]/\(∀x∈b,cM x))):EG n (c::b)=none:=by subst a;unfold EG;dsimp only;rw[if_pos rfl,if_neg h]
def GH{n:Nat}{c:UInt8}{b:List UInt8}(a:c=46)(h:b≠[]/\(∀x∈b,cM x)):EG n (c::b)=some (Rat.divInt ((n*10^b.length+num b:Nat):Int) ((10^b.length:Nat):Int)):=by subst a;unfold EG;dsimp only;rw[if_pos rfl,if_pos h]
def u4{n:Nat}{c:UInt8}{b:List UInt8}(a:c=47)(h:¬(iz false b/\num b≠0/\num b≠1/\Nat.gcd n (num b)=1)):EG n (c::b)=none:=by subst a;unfold EG;dsimp only;rw[if_neg D_,if_pos rfl,if_neg h]
def Iq{n:Nat}{c:UInt8}{b:List UInt8}(a:c=47)(h:iz false b/\num b≠0/\num b≠1/\Nat.gcd n (num b)=1):EG n (c::b)=some (Rat.divInt (n:Int) (num b:Int)):=by subst a;unfold EG;dsimp only;rw[if_neg D_,if_pos rfl,if_pos h]
def Ph{n:Nat}{c:UInt8}{b:List UInt8}(h:c≠46)(a:c≠47):EG n (c::b)=none:=by unfold EG;dsimp only;rw[if_neg h,if_neg a]
def iI{b:List UInt8}:(eB b).length=b.length↔ ∀x∈b,cM x:=by
 constructor
 ·intro h;have e:eB b=b:=by have:=ip b;have a:=congrArg List.length this;rw[L_]at a;rw[E_ (show(jt b).length=0 by omega),c_]at this;exact this
  rw[<- e];exact kh b
 ·intro h;rw[(pm h).1]
def yQ{c d:UInt8}(h:c≠d):¬(c.toNat:Int)=d.toNat:=fun e=>h (UInt8.toNat_inj.1 O_)
def Ft(t:List UInt8):t.take (eB t).length=eB t:=by
 have:=ip t;conv=>lhs;rw[<- this]
 rw[List.take_left' (by rw[this])]
def E1(t:List UInt8):t.drop (eB t).length=jt t:=by
 have:=ip t;conv=>lhs;rw[<- this]
 rw[List.drop_left' (by rw[this])]
def zR(t:List UInt8):(eB t).length<=t.length:=by have:=congrArg List.length (ip t);rw[L_]at this;omega
noncomputable def Si(s:List UInt8):RV:=match b8 s with
 |some q=> .tup [dQ q,dN .i64 0]
 |none=> .tup [HI,dN .i64 2]
def zj{s:List UInt8}{q:Rat}(h:b8 s=some q):Si s= .tup [dQ q,dN .i64 0]:=by unfold Si;rw[h]
def dK{s:List UInt8}(h:b8 s=none):Si s= .tup [HI,dN .i64 2]:=by unfold Si;rw[h]
def dO{s:List UInt8}(h:fJ (dA s)=none):b8 s=none:=by unfold b8;split <;>simp[h]
def Fa{s:List UInt8}{n d:Int}(a:s.length<=65536)(h:fJ (dA s)=some (Rat.divInt n d))(b:bL s=false):b8 s=some (Rat.divInt n d):=by unfold b8;rw[if_pos a,h];simp[b]
def lh{n d:Int}(a:d≠0):Rat.divInt n d=0↔n=0:=by
 have h0:(0:Rat)=Rat.divInt 0 1:=by rfl
 rw[h0,Rat.divInt_eq_divInt_iff a D_];simp
def Ca{s:List UInt8}{n d:Int}(b:s.length<=65536)(h:fJ (dA s)=some (Rat.divInt n d))(c:bL s=true)(h0:n=0)(a:d≠0):b8 s=none:=by unfold b8;rw[if_pos b,h];simp[c,(lh a).2 h0]
def Ga{s:List UInt8}{n d:Int}(b:s.length<=65536)(h:fJ (dA s)=some (Rat.divInt n d))(c:bL s=true)(h0:¬n=0)(a:d≠0):b8 s=some (Rat.divInt (-n) d):=by have:¬Rat.divInt n d=0:=fun e=>h0 ((lh a).1 e);unfold b8;rw[if_pos b,h];simp[c,this,Rat.neg_divInt]
def EP{b:List UInt8}(h:b≠[]):∃d a,b=d::a:=by
 cases b with
 |nil=>exact absurd rfl h
 |cons d a=>exact⟨d,a,rfl⟩
def gr{a:List ResultVar}{s:AS}{v:RV}(h:v= .tup [HI,dN .i64 2])(b:jW TT s a=some [HI,dN .i64 2]):∃l,jW TT s a=some l/\x3 l=v:=⟨_,b,h.symm⟩
def H2{k j:Nat}(h:k<j):Sz j ((10^k:Nat):Int):=by unfold Sz;rw[b_];exact Nat.lt_of_le_of_lt (Nat.pow_le_pow_left D_ k) (Nat.pow_lt_pow_right D_ h)
def AC(s:List UInt8):aa prog 312 [dL s] (Si s):=by
 have hsz:=an s;by_cases hl:s.length<=65536
 ·obtain⟨t,ht⟩:∃t,dA s=t:=⟨_,rfl⟩;have b0:t.length<=s.length:=by rw[<- ht];exact lI s
  obtain⟨p,I⟩:∃p,eB t=p:=⟨_,rfl⟩;obtain⟨r,hr⟩:∃r,jt t=r:=⟨_,rfl⟩;have A:∀c∈p,cM c:=by rw[<- I];exact kh t
  have bx:p.length<=t.length:=by rw[<- I];exact zR t
  have al:p++r=t:=by rw[<- I,<- hr];exact ip t
  have a9:p.length+r.length=t.length:=by rw[<- al,L_]
  have bj:t.take p.length=p:=by rw[<- I];exact Ft t
  have a3:t.drop p.length=r:=by rw[<- I,<- hr];exact E1 t
  have J:¬iz false p->fJ (dA s)=none:=fun h=>by rw[ht];unfold fJ;rw[I,if_neg h]
  refine kU func312 ?_;refine M7 ?_;refine bB ?_;refine ks ⟨[(0, .d (dL s)),(2, .box 0 0),(3, .d (dN .i64 0)),(4, .d (dB (bL s)))],[(0,some pk)]⟩ (fun s1 bk=>?_) (fun R j _=>?_)
  ·refine ks ⟨[(0, .d (dL t)),(2, .box 0 0),(3, .d (dN .i64 0)),(4, .d (dB (bL s)))],[(0,some pk)]⟩ (fun s2 bm=>?_) (fun R j _=>?_)
   ·refine bH ?_;refine iU bm rfl ?_;refine kO ?_;refine ac (oi (t:=t) O_) rfl rfl rfl rfl rfl rfl rfl ?_;rw[I];refine kN ?_;refine H4 ⟨[(0, .d (dL t)),(2, .box 0 0),(3, .d (dN .i64 0)),(4, .d (dB (bL s))),(5, .d (dN .i64 p.length))],[(0,some pk)]⟩ (iz false p) (fun ag s3 bo=>?_) (fun R j hret=>?_)
    ·have bb:=el A;have c1:=oq p;rw[sI A O_,if_pos ag]at c1;have sp:Sz 131080 (num p:Int):=bb.mono O_;refine bH ?_;refine iU bo rfl ?_;refine kO2 ?_;refine RF ah (l:=t) (l':=p) (i:=p.length) bj O_ rfl rfl rfl rfl rfl rfl rfl rfl ?_;refine kC c1 ?_;refine KY ?_;refine kN ?_;refine kI ?_;refine kO2 ?_;refine xn ah (l:=t) (l':=r) (i:=p.length) a3 O_ rfl rfl rfl rfl rfl rfl rfl rfl ?_;refine kN ?_;have B:fJ (dA s)=EG (num p) r:=by rw[ht,DN (by rw[I];exact ag),I,hr]
     refine GU (α:=Int × Int) (fun x=>⟨[(2, .box 0 0),(3, .d (dN .i64 0)),(4, .d (dB (bL s))),(6, .box 9007 0),(8, .box 10001 0)],[(0,some pk),(9007,some (aZ x.1)),(10001,some (aZ x.2))]⟩)
      (fun x=>fJ (dA s)=some (Rat.divInt x.1 x.2)/\Sz 131080 x.1/\Sz 131080 x.2/\0<x.2) (fun x S s4 ao=>?_) (fun R j hret=>?_)
     ·refine Exists.elim (Exists.intro x.1 rfl:∃N,x.1=N) fun N V=>Exists.elim (Exists.intro x.2 rfl:∃D,x.2=D) fun D L=>?_;rw[V,L]at S ao;have hP:=S.1;have X:=S.2.1;have sD:=S.2.2.1;have F:D≠0:=by have:=S.2.2.2;omega
      refine bH ?_;refine iU ao rfl ?_;cases hng:bL s
      ·refine kW ?_;refine ac (tX X sD O_ F rfl) rfl rfl rfl rfl rfl rfl rfl ?_;refine kW ?_;exact co (T:=TT) rfl (zj (Fa hl hP hng)).symm
      ·by_cases G:N=0
       ·refine kW ?_;refine fX (T:=TT) rfl ?_ ?_
        ·exact G5 G
        refine kW ?_;exact gr (dK (Ca hl hP hng G F)) (by kernel_rfl)
       ·refine kW ?_;refine eR (T:=TT) rfl ?_ ?_
        ·exact C4 G
        refine kW ?_;refine kQ (mC _) ?_;refine ac (tX (Sz.neg X) sD O_ F rfl) rfl rfl rfl rfl rfl rfl rfl ?_;refine kW ?_;exact co (T:=TT) rfl (zj (Ga hl hP hng G F)).symm
     ·cases r with
      |nil=>refine Ib ?_;refine kO ?_;refine JE ?_;refine kW ?_;refine j ((num p:Int),1) ⟨?_,sp,(Sz.small (z:=1) D_).mono D_,Int.one_pos⟩ _ kw;rw[B];show some ((num p:Int):Rat)=_;exact congrArg some (kS ((num p:Int):Rat)).symm
      |cons c b=>
       have hsb:=an (c::b);have bq:b.length+1<=65536:=by simp at a9;omega
       refine Ib ?_;refine kO ?_;refine aj rfl rfl rfl rfl rfl rfl rfl (bA (a:=c::b) (b:=[]) S_) ?_;refine CL ?_;by_cases m:c=46
       ·refine kB true ?_ ?_
        ·exact T_ (by rw[m];rfl)
        refine kO3 ?_;by_cases C:b=[]
        ·refine kB false ?_ ?_
         ·exact F_ (by rw[hsb,C];simp)
         refine CL ?_;refine kB false ?_ ?_
         ·exact F_ (by rw[m];decide)
         refine sY ?_;exact gr (dK (dO (B.trans (KT m (fun h=>h.1 C))))) (by kernel_rfl)
        ·have a1:0<b.length:=List.length_pos_iff.2 C;refine Uk ?_;by_cases u:∀x∈b,cM x
         ·refine kB true ?_ ?_
          ·exact T_ (by rw[iI.2 u])
          refine kW ?_;refine ac (c8 10 D_ D_) rfl rfl rfl rfl rfl rfl rfl ?_;refine kW ?_;refine av (Nat × Int × Int) (fun x=>x.1<=b.length/\x.2.1=((num (p++b.take x.1):Nat):Int)/\x.2.2=((10^x.1:Nat):Int)) (fun x=>⟨[(2, .box 0 0),(3, .d (dN .i64 0)),(4, .d (dB (bL s))),(6, .box 9007 0),(8, .box 10001 0),(9, .d (dL (c::b))),(10, .box 15001 0),(11, .d (dN .i64 ((x.1+1:Nat):Int)))],
           [(0,some pk),(9007,some (aZ x.2.1)),(10001,some (aZ x.2.2)),(15001,some (aZ 10))]⟩) (fun x=>b.length-x.1) (0,(num p:Int),1) ⟨Nat.zero_le _,by rw[List.take_zero,c_],rfl⟩
           kw ?_
          rintro⟨k,N,D⟩ ⟨hk,V,L⟩;dsimp only at hk V L ⊢;have a5:∀x∈p++b.take k,cM x:=fun x S=>by
           rcases List.mem_append.1 S with h|h
           ·exact A x h
           ·exact u x (List.mem_of_mem_take h)
          have X:Sz 131079 N:=by rw[V];exact(el a5).mono (by rw[L_,U_];omega)
          have sD:Sz 65538 D:=by rw[L];exact H2 (show k<65538 by omega)
          refine kI ?_;refine kO3 ?_;by_cases Q:k<b.length
          ·refine kB true ?_ ?_
           ·exact T_ (by rw[hsb,List.length_cons];omega)
           refine Exists.elim (Exists.intro b[k] rfl:∃y,b[k]=y) fun y hy=>?_;have a0:b[k]? =some y:=by rw[Q_ Q,hy]
           have bp:cM y:=u y (M_ a0);have b1:48<=y.toNat/\y.toNat<=57:=bp;have br:dv y=y.toNat-48:=rfl;have U:Sz 1 (10:Int):=Sz.small D_;have sM:Sz 131080 (N*10):=(Sz.mul X U).mono O_;have Z:((num (p++b.take (k+1)):Nat):Int)=N*10+(dv y:Nat):=by rw[List.take_succ_eq_append_getElem Q,<- e_,f9,hy,V];omega
           refine kW ?_;refine ac (eT (X.fit D_) (U.fit D_)) rfl rfl rfl rfl rfl rfl rfl ?_;refine kO2 ?_;refine bU ah (l:=c::b) (c:=y) (i:=k+1) (by rw[List.getElem?_cons_succ];exact a0) rfl rfl rfl rfl rfl rfl rfl rfl ?_;refine bW (v':= .int .u8 ((dv y:Nat))) rfl rfl rfl rfl ?_ ?_
           ·exact congrArg (Value.int .u8) (by show IntKind.u8.wrap ((y.toNat:Int)-48)=_;rw[IntWalk.u8_in _ O_];omega)
           refine bW (v':= .int .i64 ((dv y:Nat))) rfl rfl rfl rfl ?_ ?_
           ·exact congrArg (Value.int .i64) (by show IntKind.i64.wrap ((dv y:Nat):Int)=_;rw[IntWalk.i64_in _ O_])
           refine ac (c8 (dv y:Nat) O_ O_) rfl rfl rfl rfl rfl rfl rfl ?_;refine ac (mx (sM.fit D_) ((Sz.small (z:=((dv y:Nat):Int)) O_).fit D_)) rfl rfl rfl rfl rfl rfl rfl ?_;refine kW ?_;refine ac (eT (sD.fit D_) (U.fit D_)) rfl rfl rfl rfl rfl rfl rfl ?_;refine kW ?_;refine⟨(k+1,N*10+(dv y:Nat),D*10),⟨Q,Z.symm,?_⟩,by dsimp only;omega,weak ⟨rfl,rfl,rfl,rfl,rfl,rfl,rfl,?_,trivial⟩ ⟨rfl,rfl,rfl,rfl,trivial⟩ rfl⟩
           ·show D*10=((10^(k+1):Nat):Int);rw[L,Nat.pow_succ];omega
           ·exact aq O_ O_
          ·refine kB false ?_ ?_
           ·exact F_ (by rw[hsb,List.length_cons];omega)
           refine kW ?_;have a4:k=b.length:=O_;refine j (N,D) ⟨?_,X.mono D_,sD.mono D_,?_⟩ _ kw
           ·rw[V,L,a4,List.take_length,m8];exact B.trans (GH m ⟨C,u⟩)
           ·show 0<D;rw[L];have:0<10^k:=Nat.pow_pos D_;omega
         ·refine kB false ?_ ?_
          ·exact F_ (fun e=>u (iI.1 O_))
          refine CL ?_;refine kB false ?_ ?_
          ·exact F_ (by rw[m];decide)
          refine sY ?_;exact gr (dK (dO (B.trans (KT m (fun h=>u h.2))))) (by kernel_rfl)
       ·refine kB false ?_ ?_
        ·exact F_ (yQ (d:=46) m)
        refine CL ?_;by_cases g:c=47
        ·refine kB true ?_ ?_
         ·exact T_ (by rw[g];rfl)
         refine kO3 ?_;by_cases C:b=[]
         ·refine kB false ?_ ?_
          ·exact F_ (by rw[hsb,C];simp)
          refine sY ?_;exact gr (dK (dO (B.trans (u4 g (fun h=>h.1.1 C))))) (by kernel_rfl)
         ·have a1:0<b.length:=List.length_pos_iff.2 C;refine Uk ?_;by_cases u:∀x∈b,cM x
          ·refine kB true ?_ ?_
           ·exact T_ (by rw[iI.2 u])
           refine kO3 ?_;refine Exists.elim (EP C) fun d a2=>Exists.elim a2 fun b' v=>?_;refine bU ah (l:=c::b) (c:=d) (i:=1) (by rw[v];rfl) rfl rfl rfl rfl rfl rfl rfl rfl ?_;by_cases f:d=48
           ·refine kB false ?_ ?_
            ·exact(by rw[f];rfl)
            refine sY ?_;exact gr (dK (dO (B.trans (u4 g (fun h=>by
             have h1:=h.1;rcases h1.2.2 with h2|h2
             ·exact h2 d b' v f
             ·have:b'=[]:=by rw[v]at h2;simpa using h2.1
              exact h.2.1 (by rw[v,this,f];rfl)))))) (by kernel_rfl)
           ·refine kB true ?_ ?_
            ·exact(by simpa using yQ (d:=48) f)
            have ad:iz false b:=⟨C,u, .inl fun x y e=>by rw[v]at e;cases e;exact f⟩;have bs:0<num b:=wW u v f;have c2:=oq b;rw[sI u O_,if_pos ad]at c2;have sb:Sz 131080 (num b:Int):=(el u).mono O_;refine kW ?_;refine xn ah (l:=c::b) (l':=b) (i:=1) rfl S_ rfl rfl rfl rfl rfl rfl rfl rfl ?_;refine kQ c2 ?_;by_cases Y:num b=1
            ·refine ac (dh (T_ (show(num b:Int)=1 by omega))) rfl rfl rfl rfl rfl rfl rfl ?_;refine sY ?_;exact gr (dK (dO (B.trans (u4 g (fun h=>h.2.2.1 Y))))) (by kernel_rfl)
            ·refine ac (dh (F_ (show ¬(num b:Int)=1 by omega))) rfl rfl rfl rfl rfl rfl rfl ?_;refine kW ?_;refine ac (jz (sp.fit D_) (sb.fit D_) (by rw[b_,b_])) rfl rfl rfl rfl rfl rfl rfl ?_;refine kW ?_;by_cases hg:Nat.gcd (num p) (num b)=1
             ·refine ac (dh (T_ (show((Nat.gcd (num p) (num b):Nat):Int)=1 by omega))) rfl rfl rfl rfl rfl rfl rfl ?_;refine kW ?_;exact j ((num p:Int),(num b:Int)) ⟨B.trans (Iq g ⟨ad,by omega,Y,hg⟩),sp,sb,by dsimp only;omega⟩ _ kw
             ·refine ac (dh (F_ (show ¬((Nat.gcd (num p) (num b):Nat):Int)=1 by omega))) rfl rfl rfl rfl rfl rfl rfl ?_;refine sY ?_;exact gr (dK (dO (B.trans (u4 g (fun h=>hg h.2.2.2))))) (by kernel_rfl)
          ·refine kB false ?_ ?_
           ·exact F_ (fun e=>u (iI.1 O_))
           refine sY ?_;exact gr (dK (dO (B.trans (u4 g (fun h=>u h.1.2.1))))) (by kernel_rfl)
        ·refine kB false ?_ ?_
         ·exact F_ (yQ (d:=47) g)
         refine sY ?_;exact gr (dK (dO (B.trans (Ph m g)))) (by kernel_rfl)
    ·refine kI ?_;refine kO ?_;by_cases w:p=[]
     ·refine kB true ?_ ?_
      ·exact T_ (by rw[w];rfl)
      refine sY ?_;exact gr (dK (dO (J (fun h=>h.1 w)))) (by kernel_rfl)
     ·have bN:0<p.length:=List.length_pos_iff.2 w;refine kE ?_;refine kO2 ?_;by_cases h1:1<p.length
      ·refine kT ?_;refine kO2 ?_;obtain⟨c,p',O⟩:∃c p',p=c::p':=by
        cases p with
        |nil=>exact absurd rfl w
        |cons c p'=>exact⟨c,p',rfl⟩
       have be:t[0]? =some c:=by rw[<- al,O];rfl
       refine bU ah (l:=t) (i:=0) be rfl rfl rfl rfl rfl rfl rfl rfl ?_;by_cases f:c=48
       ·refine kB true ?_ ?_
        ·exact T_ (by rw[f];rfl)
        refine sY ?_;exact gr (dK (dO (J (fun h=>by have:=((wk A).1 h).2 h1;rw[O,f]at this;exact this rfl)))) (by kernel_rfl)
       ·refine kB false ?_ ?_
        ·exact F_ (fun e=>f (UInt8.toNat_inj.1 (by have:(48:UInt8).toNat=48:=rfl;omega)))
        refine kW ?_;exact j ((wk A).2 ⟨w,fun _ e=>by rw[O]at e;simp at e;exact f e⟩) _ kw
      ·refine kE ?_;refine kW ?_;exact j ((wk A).2 ⟨w,fun h=>absurd h h1⟩) _ kw
   ·refine bH ?_;refine iU bk rfl ?_;refine kN ?_;cases hn:bL s
    ·refine eR (T:=TT) rfl ?_ ?_
     ·exact rfl
     refine bB ?_;have e:t=s:=by rw[<- ht];have:=M5 s;rw[hn]at this;exact this
     rw[e,hn]at j;exact j _ kw
    ·refine fX (T:=TT) rfl ?_ ?_
     ·exact rfl
     have e:s=45::t:=by have:=M5 s;rw[hn,ht]at this;exact this.symm
     refine kI ?_;refine kO ?_;refine xn ah (l:=s) (l':=t) (i:=1) (by rw[e];rfl) (by rw[e];simp) rfl rfl rfl rfl rfl rfl rfl rfl ?_;refine kN ?_;rw[hn]at j;exact j _ kw
  ·refine kI ?_;refine kO ?_;by_cases h0:s=[]
   ·refine aj rfl rfl rfl rfl rfl rfl rfl (ee (a:=s) (b:=[]) h0) ?_;refine kW ?_;have:bL s=false:=by rw[h0];rfl
    rw[this]at j;exact j _ kw
   ·obtain⟨c,s',O⟩:∃c s',s=c::s':=by
     cases s with
     |nil=>exact absurd rfl h0
     |cons c s'=>exact⟨c,s',rfl⟩
    refine aj rfl rfl rfl rfl rfl rfl rfl (eM (a:=s) (b:=[]) h0) ?_;refine kO2 ?_;refine bU ah (l:=s) (i:=0) (by rw[O];rfl) rfl rfl rfl rfl rfl rfl rfl rfl ?_;by_cases E:c=45
    ·refine kB true ?_ ?_
     ·exact T_ (by rw[E];rfl)
     refine kW ?_;have:bL s=true:=by rw[O,E];rfl
     rw[this]at j;exact j _ kw
    ·refine kB false ?_ ?_
     ·exact F_ (fun e=>E (UInt8.toNat_inj.1 (by have:(45:UInt8).toNat=45:=rfl;omega)))
     refine kW ?_;have:bL s=false:=by rw[O];exact beq_eq_false_iff_ne.2 E
     rw[this]at j;exact j _ kw
 ·refine kU func312 ?_;refine Dz ?_;refine kW ?_;exact gr (dK (by unfold b8;rw[if_neg hl])) (by kernel_rfl)
def Ji{t:List UInt8}{q:Rat}(y:t.length<=500)(h:fJ t=some q):nz 510 q:=by
 by_cases f:iz false (eB t)
 ·rw[DN f]at h;have u:=zR t;have g:(eB t).length+(jt t).length=t.length:=by have:=congrArg List.length (ip t);rw[L_]at this;omega
  have i:Sz (eB t).length (num (eB t):Int):=el (kh t);generalize jt t=r at h g;generalize num (eB t)=n at h i;cases r with
  |nil=>
   have:q=((n:Int):Rat):=by have h:some ((n:Int):Rat)=some q:=h;exact(Option.some.inj h).symm
   subst this;exact⟨i.mono O_,(Sz.small (z:=1) D_).mono D_⟩
  |cons c b=>
   have p:(eB t).length+b.length<=499:=by simp at g;omega
   by_cases d:c=46
   ·by_cases a:b≠[]/\ ∀x∈b,cM x
    ·rw[GH d a]at h;cases h;have w:Sz 510 ((n*10^b.length+num b:Nat):Int):=by have j:Sz 501 ((n:Int)*10^b.length):=Sz.of_pow i O_;have l:=Sz.add j ((el a.2).mono O_);have m:Sz 510 ((n:Int)*10^b.length+(num b:Int)):=Sz.mono l D_;rw[Int.natCast_add,Int.natCast_mul,Int.natCast_pow];exact m
     have v:Sz 510 ((10^b.length:Nat):Int):=H2 O_;have:0<10^b.length:=Nat.pow_pos D_;exact .divInt w v O_
    ·rw[KT d a]at h;cases h
   ·by_cases e:c=47
    ·by_cases a:iz false b/\num b≠0/\num b≠1/\Nat.gcd n (num b)=1
     ·rw[Iq e a]at h;cases h;exact .divInt (i.mono O_) ((el a.1.2.1).mono O_) (by have:=a.2.1;omega)
     ·rw[u4 e a]at h;cases h
    ·rw[Ph d e]at h;cases h
 ·unfold fJ at h;rw[if_neg f]at h;cases h
def ib{s:List UInt8}{q:Rat}(b:s.length<=500)(h:b8 s=some q):nz 510 q:=by
 unfold b8 at h;split at h
 ·rename_i d;have c:=lI s;cases hp:fJ (dA s)with
  |none=>rw[hp]at h;simp at h
  |some r=>
   have a:=Ji O_ hp;rw[hp]at h;simp only at h;split at h
   ·split at h
    ·cases h
    ·cases h;exact a.neg
   ·cases h;exact a
 ·cases h
def E6(t u:Tk)(r:List Tk)(a:Int)(j:t.1=2)(c:bX (t::u::r)):Rd 281 (t::u::r) a (fg t (u::r)):=by
 have d:=c.head.2 j;have g:bX (u::r):=c.tail O_;cases hq:b8 t.2.1 with
 |none=>
  have b:fg t (u::r)= .error (t.2.2,2):=by unfold fg;rw[hq]
  have cp:=Aj hq;rw[b];refine⟨by decide, .mk 0 false [] false [] [] [],t::u::r,?_,c⟩;refine Ko ?_;refine iY ?_;refine Hi ?_;refine kD (i7 t (u::r) a 2) ?_;exact fE
 |some q=>
  have cp:=CD hq;obtain⟨i,cd,_⟩:=i6 (ib d hq) D_;cases hd:fZ q with
  |none=>
   have b:fg t (u::r)= .error (t.2.2,3):=by unfold fg;rw[hq];dsimp only;rw[hd]
   rw[hd]at cd;have cd:aa prog 125 [dQ q] (.tup [dL i,dB false]):=cd;rw[b];refine⟨by decide, .mk 0 false [] false [] [] [],t::u::r,?_,c⟩;refine Ko ?_;refine iY ?_;refine Hi ?_;refine kQ cd ?_;refine kD (i7 t (u::r) a 3) ?_;exact fE
  |some z=>
   rw[hd]at cd;have cd:aa prog 125 [dQ q] (.tup [dL i,dB true]):=cd;by_cases f:u.1=1
   ·have b:fg t (u::r)= .ok (.num q u.2.1,r):=by unfold fg;rw[hq];dsimp only;rw[hd];dsimp only;rw[if_pos f]
    rw[b];refine⟨?_,g.tail O_⟩;refine PR ?_;refine Aa ?_;refine kD (jY u r a 0) ?_;exact fE
   ·have b:fg t (u::r)= .ok (.num q [],u::r):=by unfold fg;rw[hq];dsimp only;rw[hd];dsimp only;rw[if_neg f]
    rw[b];refine⟨?_,g⟩;refine PR ?_;refine kO ?_;refine kE ?_;exact fE
end Go.Proofs.YtnchbpoopnjghaaGreatDoor
