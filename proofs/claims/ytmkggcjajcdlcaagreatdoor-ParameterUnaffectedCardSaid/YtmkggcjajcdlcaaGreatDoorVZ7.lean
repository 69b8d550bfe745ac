/- Parts of a proof: contracts of the functions that the laws reach. -/
import Derived.Test.YtmkggcjajcdlcaaGreatDoorVZ6
import Derived.Test.YtmkggcjajcdlcaaGreatDoorTie
import Derived.Test.YtmkggcjajcdlcaaGreatDoorCards
set_option maxHeartbeats 100000000
set_option linter.all false
open Go.Proofs.Tryz
namespace Go.Proofs.YtmkggcjajcdlcaaGreatDoor
open Go.RowKit
abbrev L8:=List UInt8
theorem rS (x y:L8):decide (x<=y)=!Op.bytesLess y x:=by
 rw[bytesLess_eq];show decide (¬y<x)=_;rw[decide_not]
def rI (l:List L8):Prop:=l.Pairwise fun a b=>Op.bytesLess a b=true
theorem nh:∀{a b:List L8},rI a->rI b->(∀x,x∈a↔x∈b)->a=b
 | [],[],_,_,_=>rfl
 | [],y::b,_,_,h=>absurd ((h y).2 (by simp)) (by simp)
 |x::a,[],_,_,h=>absurd ((h x).1 (by simp)) (by simp)
 |x::a,y::b,ha,hb,h=>by
  have ha:=List.pairwise_cons.1 ha;have hb:=List.pairwise_cons.1 hb
  have e:x=y:=by
   rcases List.mem_cons.1 ((h x).1 (by simp))with e|hx
   ·exact e
   ·rcases List.mem_cons.1 ((h y).2 (by simp))with e|hy
    ·exact e.symm
    ·have:=eE (ha.1 y hy) (hb.1 x hx)
     rw[gQ]at this;cases this
  subst e
  congr 1
  refine nh ha.2 hb.2 fun z=>⟨fun hz=>?_,fun hz=>?_⟩
  ·rcases List.mem_cons.1 ((h z).1 (List.mem_cons_of_mem _ hz))with rfl|hz'
   ·have:=ha.1 z hz;rw[gQ]at this;cases this
   ·exact hz'
  ·rcases List.mem_cons.1 ((h z).2 (List.mem_cons_of_mem _ hz))with rfl|hz'
   ·have:=hb.1 z hz;rw[gQ]at this;cases this
   ·exact hz'
def fY:List L8->L8->List L8
 | [],x=>[x]
 |y::r,x=>if Op.bytesLess y x=true then y::fY r x else if y=x then y::r else x::y::r
theorem mA:∀{l:List L8} {x z:L8},z∈fY l x↔z=x∨z∈l
 | [],x,z=>by simp[fY]
 |y::r,x,z=>by
  have ih:=mA (l:=r) (x:=x) (z:=z);unfold fY
  split
  ·simp only[List.mem_cons,ih]
   constructor
   ·rintro(h|h|h)
    ·exact .inr (.inl h)
    ·exact .inl h
    ·exact .inr (.inr h)
   ·rintro(h|h|h)
    ·exact .inr (.inl h)
    ·exact .inl h
    ·exact .inr (.inr h)
  ·split
   ·rename_i e
    subst e
    simp only[List.mem_cons]
    constructor
    ·exact fun h=> .inr h
    ·rintro(h|h)
     ·exact .inl h
     ·exact h
   ·simp only[List.mem_cons]
theorem yW:∀{l:List L8} {x:L8},rI l->rI (fY l x)
 | [],x,_=>List.pairwise_singleton _ _
 |y::r,x,h=>by
  have h':=List.pairwise_cons.1 h;unfold fY
  split
  ·rename_i hy
   refine List.pairwise_cons.2 ⟨fun z hz=>?_,yW h'.2⟩;rcases mA.1 hz with rfl|hz
   ·exact hy
   ·exact h'.1 z hz
  ·split
   ·exact h
   ·rename_i h1 h2
    have hxy:Op.bytesLess x y=true:=by
     cases hb:Op.bytesLess x y
     ·exact absurd (j3 (by simpa using h1) hb) h2
     ·rfl
    refine List.pairwise_cons.2 ⟨fun z hz=>?_,h⟩;rcases List.mem_cons.1 hz with rfl|hz
    ·exact hxy
    ·exact eE hxy (h'.1 z hz)
def gh (l:List L8):List L8:=l.foldl fY []
theorem oy:∀(l acc:List L8),rI acc->rI (l.foldl fY acc)/\ ∀z,z∈l.foldl fY acc↔z∈acc∨z∈l
 | [],acc,h=>⟨h,fun z=>by simp⟩
 |x::l,acc,h=>by
  obtain⟨h1,h2⟩:=oy l (fY acc x) (yW h);refine⟨h1,fun z=>?_⟩;rw[List.foldl_cons,h2,mA,List.mem_cons]
  constructor
  ·rintro((h|h)|h)
   ·exact .inr (.inl h)
   ·exact .inl h
   ·exact .inr (.inr h)
  ·rintro(h|h|h)
   ·exact .inl (.inr h)
   ·exact .inl (.inl h)
   ·exact .inr h
theorem lK (l:List L8):rI (gh l):=(oy l [] List.Pairwise.nil).1
theorem eY (l:List L8) (z:L8):z∈gh l↔z∈l:=by
 rw[gh,(oy l [] List.Pairwise.nil).2]
 simp
theorem CB:∀{l:List L8} {x:L8} {k:Nat},k<=l.length->(∀(q:Nat) y,q<k->l[q]? =some y->Op.bytesLess y x=true)->(∀y,l[k]? =some y->Op.bytesLess y x=false)->fY l x=if l[k]? =some x then l else l.take k++x::l.drop k
 | [],x,k,hk,_,_=>by
  obtain rfl:k=0:=by simpa using hk
  rfl
 |y::r,x,0,_,_,h=>by
  have hy:=h y rfl;unfold fY;rw[if_neg (by rw[hy];decide)]
  by_cases e:y=x
  ·subst e;simp
  ·simp[e]
 |y::r,x,k+1,hk,hq,h=>by
  have ih:=CB (l:=r) (x:=x) (k:=k) (by simpa using hk) (fun q z h1 h2=>hq (q+1) z (by omega) (by simpa using h2)) (fun z hz=>h z (by simpa using hz));unfold fY;rw[if_pos (hq 0 y (by omega) rfl),ih]
  simp only[List.getElem?_cons_succ,List.take_succ_cons,List.drop_succ_cons]
  split <;>rfl
theorem uI (l:List L8) (x:L8):Lib.compact (l++[x])=Lib.compact l++if l.getLast? =some x then []else [x]:=by
 unfold Lib.compact;have hlen:(l++[x]).length=l.length+1:=by simp
 rw[hlen,Lib.compactUpTo_succ]
 have hg:∀j,j<l.length->(l++[x]).toArray[j]! =l.toArray[j]!:=fun j hj=>by
  rw[getElem!_pos _ j (by simp;omega),getElem!_pos _ j (by simpa using hj)]
  simp[List.getElem_append_left hj]
 congr 1
 ·unfold Lib.compactUpTo
  have hk:∀j∈List.range l.length,Lib.keeps (l++[x]).toArray j=Lib.keeps l.toArray j:=fun j hj=>by
   have hj:=List.mem_range.1 hj;unfold Lib.keeps;rw[hg j hj];cases j with
   |zero=>simp
   |succ j=>rw[show j+1-1=j from rfl,hg j (by omega)]
  rw[List.filter_congr hk];refine List.map_congr_left fun j hj=>?_
  exact hg j (List.mem_range.1 (List.mem_filter.1 hj).1)
 ·have hx:(l++[x]).toArray[l.length]! =x:=by
   rw[getElem!_pos _ _ (by simp)]
   simp
  rw[hx]
  by_cases h0:l=[]
  ·subst h0
   rfl
  ·have hp:0<l.length:=List.length_pos_iff.2 h0
   have hlast:l.getLast? =some ((l++[x]).toArray[l.length-1]!):=by
    rw[hg _ (by omega),getElem!_pos _ _ (by simpa using by omega),List.getLast?_eq_getElem?]
    simp[hp]
   rw[hlast];unfold Lib.keeps;rw[hx]
   by_cases e:(l++[x]).toArray[l.length-1]! =x
   ·rw[if_neg,if_pos (by rw[e])]
    rw[decide_eq_true_eq];rintro(h|h)
    ·omega
    ·exact h e.symm
   ·rw[if_pos,if_neg (fun h=>e (Option.some.inj h))]
    rw[decide_eq_true_eq];exact .inr fun h=>e h.symm
theorem Ac:∀(n:Nat) (l:List L8),l.length=n->l.Pairwise (fun a b=>Op.bytesLess b a=false)->rI (Lib.compact l)/\ ∀z,z∈Lib.compact l↔z∈l:=by
 intro n
 induction n with
 |zero=>
  intro l hl _;obtain rfl:=List.eq_nil_of_length_eq_zero hl;exact⟨List.Pairwise.nil,fun z=>Iff.rfl⟩
 |succ n ih=>
  intro l hl hp;obtain⟨l,x,rfl⟩:∃l' x,l=l'++[x]:=⟨l.dropLast,l.getLast (by intro e;rw[e]at hl;cases hl),(List.dropLast_concat_getLast _).symm⟩;have hl':l.length=n:=by simpa using hl
  obtain⟨hp1,_,hp2⟩:=List.pairwise_append.1 hp;obtain⟨h1,h2⟩:=ih l hl' hp1;rw[uI]
  by_cases e:l.getLast? =some x
  ·rw[if_pos e,List.append_nil]
   refine⟨h1,fun z=>?_⟩;rw[h2,List.mem_append,List.mem_singleton]
   constructor
   ·exact .inl
   ·rintro(h|rfl)
    ·exact h
    ·exact List.mem_of_getLast? e
  ·rw[if_neg e]
   refine⟨List.pairwise_append.2 ⟨h1,List.pairwise_singleton _ _,fun a ha b hb=>?_⟩,fun z=>?_⟩
   ·rw[List.mem_singleton.1 hb]
    have ha:=(h2 a).1 ha
    obtain⟨y,hy⟩:∃y,l.getLast? =some y:=by
     cases hl:l.getLast? with
     |none=>rw[List.getLast?_eq_none_iff.1 hl]at ha;cases ha
     |some y=>exact⟨y,rfl⟩
    have hyl:=List.mem_of_getLast? hy
    have hyx:Op.bytesLess y x=true:=by
     cases hb2:Op.bytesLess y x
     ·exact absurd (by rw[hy,j3 hb2 (hp2 y hyl x (by simp))]) e
     ·rfl
    by_cases ey:a=y
    ·rw[ey];exact hyx
    ·have hay:Op.bytesLess y a=false:=by
      obtain⟨l2,rfl⟩:∃l2,l=l2++[y]:=by
       refine⟨l.dropLast,?_⟩;have:=List.getLast?_eq_some_iff.1 hy;obtain⟨ys,rfl⟩:=this
       simp
      rcases List.mem_append.1 ha with ha|ha
      ·exact(List.pairwise_append.1 hp1).2.2 a ha y (by simp)
      ·exact absurd (List.mem_singleton.1 ha) ey
     have hya:Op.bytesLess a y=true:=by
      cases hb3:Op.bytesLess a y
      ·exact absurd (j3 hb3 hay) ey
      ·rfl
     exact eE hya hyx
   ·rw[List.mem_append,h2,List.mem_append]
theorem mi (l:List L8):Lib.compact (l.mergeSort fun x y=>decide (x<=y))=gh l:=by
 have hs:(l.mergeSort fun x y=>decide (x<=y)).Pairwise (fun a b=>Op.bytesLess b a=false):=by
  have:=List.pairwise_mergeSort (le:=fun x y:L8=>decide (x<=y)) (fun a b c h1 h2=>?_) (fun a b=>?_) l
  ·refine this.imp fun {a b} h=>?_
   rw[rS]at h
   simpa using h
  ·rw[rS]at h1 h2 ⊢
   simp only[Bool.not_eq_true']at h1 h2 ⊢
   cases hb:Op.bytesLess c a
   ·rfl
   ·cases h3:Op.bytesLess a b
    ·rw[j3 h3 h1,h2]at hb;cases hb
    ·rw[eE hb h3]at h2;cases h2
  ·rw[rS,rS]
   cases h1:Op.bytesLess b a
   ·rfl
   ·cases h2:Op.bytesLess a b
    ·rfl
    ·have:=eE h1 h2;rw[gQ]at this;cases this
 obtain⟨h1,h2⟩:=Ac _ _ rfl hs;refine nh h1 (lK l) fun z=>?_
 rw[h2,eY,(List.mergeSort_perm l _).mem_iff]
mutual
def eu:Rx->List L8
 | .mk op _ _ _ _ nm args=>gh ((if op=2 then [nm]else [])++fG args)
def fG:List Rx->List L8
 | []=>[]
 |y::r=>eu y++fG r
end
def Fh:B4->Rat->Int->Rat->Int->QR
 | .add,a,p,b,p'=>q6 a p b p'
 | .sub,a,p,b,p'=>q6 a p (-b) p'
 | .mul,a,p,b,p'=>vd a p b p'
 | .div,a,p,b,p'=>yG a p b p'
def b7 (env:List UInt8->Option (Rat × Int)):Ex->QR
 | .num v u=>if u=[]then .ok (v,0)else match PE u with
  |some q=> .ok (v*q,1)
  |none=> .error 8
 | .nam s=>match env s with
  |some x=> .ok x
  |none=> .error 4
 | .neg a=>match b7 env a with
  | .ok x=> .ok (-x.1,x.2)
  | .error e=> .error e
 | .bin k a b=>match b7 env a with
  | .error e=> .error e
  | .ok x=>match b7 env b with
   | .error e=> .error e
   | .ok y=>Fh k x.1 x.2 y.1 y.2
def mN:Ex->Nat
 | .num _ _=>9
 | .nam _=>400
 | .neg a=>mN a
 | .bin _ a b=>mN a+mN b+1
def xd:Ex->Prop
 | .num v _=>dy 8 v
 | .nam _=>True
 | .neg a=>xd a
 | .bin _ a b=>xd a/\xd b
theorem Le {k:B4} {a b:Rat} {p p' z:Int} (h:Fh k a p b p'= .error z):z=6∨z=8:=by
 cases k<;>simp only[Fh,q6,vd,yG]at h
 ·exact M3
 ·exact M3
 ·exact M3
 ·split at h
  ·cases h;exact .inl rfl
  ·exact M3
theorem fa {env:List UInt8->Option (Rat × Int)}:∀{e:Ex} {z:Int},b7 env e= .error z->z≠0
 | .num v u,z,h=>by
  simp only[b7]at h
  split at h
  ·cases h
  ·split at h<;>cases h
   decide
 | .nam s,z,h=>by
  simp only[b7]at h
  split at h<;>cases h
  decide
 | .neg a,z,h=>by
  simp only[b7]at h
  split at h
  ·cases h
  ·rename_i e he;cases h;exact fa he
 | .bin k a b,z,h=>by
  simp only[b7]at h
  split at h
  ·rename_i e he;cases h;exact fa he
  ·split at h
   ·rename_i e he;cases h;exact fa he
   ·rcases Le h with rfl|rfl <;>decide
def qm (env:List UInt8->Option (Rat × Int)):Prop:=∀s x,env s=some x->dy 400 x.1/\nT x.2=true
theorem Om {k:B4} {i j:Nat} {a b:Rat} {p p':Int} {x:Rat × Int} (h1:dy i a) (h2:dy j b) (hp:nT p=true) (h:Fh k a p b p'= .ok x):dy (i+j+1) x.1/\nT x.2=true:=by
 cases k<;>simp only[Fh,q6,vd,yG]at h
 ·split at h<;>cases h;exact⟨h1.add h2,hp⟩
 ·split at h<;>cases h;exact⟨h1.add h2.neg,hp⟩
 ·split at h<;>cases h;exact⟨(h1.mul h2).mono (by omega),by assumption⟩
 ·split at h
  ·cases h
  ·split at h<;>cases h
   exact⟨(h1.div h2 (by assumption)).mono (by omega),by assumption⟩
theorem iR {env:List UInt8->Option (Rat × Int)} (henv:qm env):∀{e:Ex} {x:Rat × Int},xd e->b7 env e= .ok x->dy (mN e) x.1/\nT x.2=true
 | .num v u,x,ho,h=>by
  simp only[b7]at h
  have ho:dy 8 v:=ho
  split at h
  ·cases h;exact⟨ho.mono (show 8<=9 by decide),rfl⟩
  ·split at h
   ·rename_i q hq
    cases h;exact⟨ho.mul (A6 hq).1,rfl⟩
   ·cases h
 | .nam s,x,_,h=>by
  simp only[b7]at h
  split at h
  ·rename_i y hy;cases h;exact henv s _ hy
  ·cases h
 | .neg a,x,ho,h=>by
  simp only[b7]at h
  split at h
  ·rename_i y hy
   cases h;have:=iR henv (e:=a) ho hy;exact⟨this.1.neg,this.2⟩
  ·cases h
 | .bin k a b,x,ho,h=>by
  simp only[b7]at h
  split at h
  ·cases h
  ·rename_i y hy
   split at h
   ·cases h
   ·rename_i z hz
    have h1:=iR henv ho.1 hy;have h2:=iR henv ho.2 hz;exact Om h1.1 h2.1 h1.2 h
theorem sd {l:EL} (hv:∀x∈l,dy 400 x.2.1/\nT x.2.2=true):qm (bu l):=by
 intro s x h
 induction l with
 |nil=>cases h
 |cons y l ih=>
  simp only[bu]at h
  split at h
  ·cases h;exact hv y (by simp)
  ·exact ih (fun x hx=>hv x (by simp[hx])) h
theorem CS (a:Rat):a+((0:Int):Rat)=a:=Rat.add_zero a
theorem I5:dy 1 ((0:Int):Rat):=⟨.small (by decide), .small (by decide)⟩
section
variable {l:EL}
theorem th {v:Rat} {u:List UInt8} (h:dy 8 v):aa Tryz.prog 69 [dE (.num v u),gt l,ip l] (fM (b7 (bu l) (.num v u))):=by
 by_cases hu:u=[]
 ·rw[show b7 (bu l) (.num v u)= .ok (v,0) from if_pos hu]
  refine xN ?_;refine aO rfl rfl rfl rfl rfl rfl rfl (bO (a:=u) (b:=[]) hu) ?_;refine kW ?_;refine ax (gw 0 (by decide) (by decide) rfl) rfl rfl rfl rfl rfl rfl rfl ?_;refine ax (qK h I5 (by decide) (CS v)) rfl rfl rfl rfl rfl rfl rfl ?_;exact aD
 ·have c1:=xj u
  unfold wO at c1;cases hf:PE u with
  |none=>
   rw[hf]at c1;rw[show b7 (bu l) (.num v u)= .error 8 by simp only[b7,if_neg hu,hf]];refine xN ?_;refine aO rfl rfl rfl rfl rfl rfl rfl (b6 (a:=u) (b:=[]) hu) ?_;exact MO
  |some q=>
   rw[hf]at c1;rw[show b7 (bu l) (.num v u)= .ok (v*q,1) by simp only[b7,if_neg hu,hf]];refine xN ?_;refine aO rfl rfl rfl rfl rfl rfl rfl (b6 (a:=u) (b:=[]) hu) ?_;refine mb ?_;refine ax (rK h (A6 hf).1 (by decide) rfl) rfl rfl rfl rfl rfl rfl rfl ?_;exact aD
theorem tb {s:List UInt8} (hs:fb l) (hl:l.length<=1000000) (hv:∀x∈l,dy 400 x.2.1/\nT x.2.2=true):aa Tryz.prog 69 [dE (.nam s),gt l,ip l] (fM (b7 (bu l) (.nam s))):=by
 obtain⟨i,b,c1,h1,h2⟩:=Ld l hs hl s;cases b with
 |false=>
  rw[show b7 (bu l) (.nam s)= .error 4 by simp only[b7,EK (h2 rfl)]];refine kU func69 ?_;exact MO
 |true=>
  obtain⟨x,hx,e⟩:=h1 rfl;have hi:i<l.length:=(List.getElem?_eq_some_iff.1 hx).1
  have hsz:=(hv x (List.mem_of_getElem? hx)).1;rw[show b7 (bu l) (.nam s)= .ok x.2 by simp only[b7,<- e,CK hs hx]];refine kU func69 ?_;refine mb ?_;refine bP (i:=i) (cs':=j7 x.2.1 x.2.2) hi (IH hx) (Nat.zero_lt_succ 4) rfl rfl rfl rfl rfl rfl rfl rfl ?_
  refine kO2 ?_
  refine ax (gw 0 (by decide) (by decide) rfl) rfl rfl rfl rfl rfl rfl rfl ?_;refine ax (qK hsz I5 (by decide) (CS x.2.1)) rfl rfl rfl rfl rfl rfl rfl ?_
  refine kO2 ?_
  refine bP (i:=i) (cs':=j7 x.2.1 x.2.2) hi (IH hx) (Nat.zero_lt_succ 4) rfl rfl rfl rfl rfl rfl rfl rfl ?_;exact aD
def ab (o:Int) (na:Bool) (xs:List Nat) (nb:Bool) (ys:List Nat) (nm:List UInt8) (n:Nat) (cs:List AV):List AV:=[.val (.int .i64 o), .val (.bool na),aW xs, .val (.bool nb),aW ys, .val (vL nm), .sl n cs]
theorem dC (a:Ex):∃o na xs nb ys nm n cs,aE a=ab o na xs nb ys nm n cs:=by
 unfold aE;generalize rx a=x;exact nC
theorem Ll (a:List AV):∀(j:Nat) (x:AV),a[j]? =some x->a[0*7+j]? =some x:=fun j x h=>by rw[Nat.zero_mul,Nat.zero_add];exact h
theorem Kg (a b:List AV):∀(j:Nat) (x:AV),a[j]? =some x->(a++b)[0*7+j]? =some x:=fun j x h=>by
 rw[Nat.zero_mul,Nat.zero_add,List.getElem?_append_left (List.getElem?_eq_some_iff.1 h).1];exact h
theorem KW {a:List AV} (b:List AV) (ha:a.length=7):∀(j:Nat) (x:AV),b[j]? =some x->(a++b)[1*7+j]? =some x:=fun j x h=>by
 rw[List.getElem?_append_right (by rw[ha];omega),ha,show 1*7+j-7=j by omega];exact h
theorem sR {a:Ex} (henv:qm (bu l)) (ho:xd a) (hw:mN a<=1000000) (ih:aa Tryz.prog 69 [dE a,gt l,ip l] (fM (b7 (bu l) a))):aa Tryz.prog 69 [dE (.neg a),gt l,ip l] (fM (b7 (bu l) (.neg a))):=by
 obtain⟨o1,na1,xs1,nb1,ys1,nm1,n1,cs1,hA⟩:=dC a;rw[show dE (.neg a)= .agg ([.val (.int .i64 3)]++ra++[.val (vL []), .sl 1 (aE a)]) from congrArg DV.agg (OO a),hA];rw[show dE a= .agg (ab o1 na1 xs1 nb1 ys1 nm1 n1 cs1) from congrArg DV.agg hA]at ih;cases ha:b7 (bu l) a with
 |error z=>
  have hz:=fa ha;rw[ha]at ih;rw[show b7 (bu l) (.neg a)= .error z by simp only[b7,ha]];refine vJ ?_;exact H8
 |ok x=>
  obtain⟨hx,hp⟩:=iR henv ho ha;rw[ha]at ih;rw[show b7 (bu l) (.neg a)= .ok (-x.1,x.2) by simp only[b7,ha]];refine vJ ?_;refine kW ?_;refine Sa ?_;refine aL ⟨[(1, .d (gt l)),(2, .d (ip l)),(3, .box 0 0),(6, .box 1 0),(7, .d (dN .i64 0)),(12, .own 5001 1 5 50),(72, .d (.leaf (.sl 1 (ab o1 na1 xs1 nb1 ys1 nm1 n1 cs1)))),(73, .d (dN .i64 1)),(74, .d (dN .i64 1))],[(0,some ([.val (.int .i64 3)]++ra++[.val (vL []), .sl 1 (ab o1 na1 xs1 nb1 ys1 nm1 n1 cs1)])),(1,some iw),(5001,some (j7 x.1 x.2))]⟩ kw ?_;refine kW ?_;refine gn (i:=0) (by decide) rfl rfl rfl rfl rfl rfl rfl rfl rfl ?_;refine kW ?_;refine ax (ly hx (by omega)) rfl rfl rfl rfl rfl rfl rfl ?_;exact aD
theorem sD {a b:Ex} (henv:qm (bu l)) (ho:xd a) (ho':xd b) (hw:mN a+mN b<=1000000) (ih:aa Tryz.prog 69 [dE a,gt l,ip l] (fM (b7 (bu l) a))) (ih':aa Tryz.prog 69 [dE b,gt l,ip l] (fM (b7 (bu l) b))):aa Tryz.prog 69 [dE (.bin .add a b),gt l,ip l] (fM (b7 (bu l) (.bin .add a b))):=by
 obtain⟨o1,na1,xs1,nb1,ys1,nm1,n1,cs1,hA⟩:=dC a;obtain⟨o2,na2,xs2,nb2,ys2,nm2,n2,cs2,hB⟩:=dC b;rw[show dE (.bin .add a b)= .agg ([.val (.int .i64 (B4.add).code)]++ra++[.val (vL []), .sl 2 (aE a++aE b)]) from congrArg DV.agg (rg .add a b),hA,hB];rw[show dE a= .agg (ab o1 na1 xs1 nb1 ys1 nm1 n1 cs1) from congrArg DV.agg hA]at ih;rw[show dE b= .agg (ab o2 na2 xs2 nb2 ys2 nm2 n2 cs2) from congrArg DV.agg hB]at ih';cases ha:b7 (bu l) a with
 |error z=>
  have hz:=fa ha;rw[ha]at ih;rw[show b7 (bu l) (.bin .add a b)= .error z by simp only[b7,ha]];refine Kt ?_;refine R2 ?_;exact H8
 |ok x=>
  obtain⟨hx,hpx⟩:=iR henv ho ha;rw[ha]at ih;cases hb:b7 (bu l) b with
  |error z=>
   have hz:=fa hb;rw[hb]at ih';rw[show b7 (bu l) (.bin .add a b)= .error z by simp only[b7,ha,hb]];refine Kt ?_;refine IT ?_;refine Q0 ?_;refine i6 ?_;exact H8
  |ok y=>
   obtain⟨hy,hpy⟩:=iR henv ho' hb;rw[hb]at ih';have hR:b7 (bu l) (.bin .add a b)=Fh .add x.1 x.2 y.1 y.2:=by simp only[b7,ha,hb]
   rw[hR];show aa Tryz.prog _ _ (fM (q6 x.1 x.2 y.1 y.2));have c:=xY hx hy (by omega) hpx (p':=y.2);cases hr:q6 x.1 x.2 y.1 y.2 with
   |error z=>
    rw[hr]at c;refine Kt ?_;refine IT ?_;refine Q0 ?_;refine S5 ?_;refine P5 ?_;exact Mr
   |ok z=>
    rw[hr]at c;refine Kt ?_;refine IT ?_;refine Q0 ?_;refine S5 ?_;refine P5 ?_;exact Mr
theorem sG {a b:Ex} (henv:qm (bu l)) (ho:xd a) (ho':xd b) (hw:mN a+mN b<=1000000) (ih:aa Tryz.prog 69 [dE a,gt l,ip l] (fM (b7 (bu l) a))) (ih':aa Tryz.prog 69 [dE b,gt l,ip l] (fM (b7 (bu l) b))):aa Tryz.prog 69 [dE (.bin .sub a b),gt l,ip l] (fM (b7 (bu l) (.bin .sub a b))):=by
 obtain⟨o1,na1,xs1,nb1,ys1,nm1,n1,cs1,hA⟩:=dC a;obtain⟨o2,na2,xs2,nb2,ys2,nm2,n2,cs2,hB⟩:=dC b;rw[show dE (.bin .sub a b)= .agg ([.val (.int .i64 (B4.sub).code)]++ra++[.val (vL []), .sl 2 (aE a++aE b)]) from congrArg DV.agg (rg .sub a b),hA,hB];rw[show dE a= .agg (ab o1 na1 xs1 nb1 ys1 nm1 n1 cs1) from congrArg DV.agg hA]at ih;rw[show dE b= .agg (ab o2 na2 xs2 nb2 ys2 nm2 n2 cs2) from congrArg DV.agg hB]at ih';cases ha:b7 (bu l) a with
 |error z=>
  have hz:=fa ha;rw[ha]at ih;rw[show b7 (bu l) (.bin .sub a b)= .error z by simp only[b7,ha]];refine QL ?_;refine R2 ?_;exact H8
 |ok x=>
  obtain⟨hx,hpx⟩:=iR henv ho ha;rw[ha]at ih;cases hb:b7 (bu l) b with
  |error z=>
   have hz:=fa hb;rw[hb]at ih';rw[show b7 (bu l) (.bin .sub a b)= .error z by simp only[b7,ha,hb]];refine QL ?_;refine IT ?_;refine FE ?_;refine i6 ?_;exact H8
  |ok y=>
   obtain⟨hy,hpy⟩:=iR henv ho' hb;rw[hb]at ih';have hR:b7 (bu l) (.bin .sub a b)=Fh .sub x.1 x.2 y.1 y.2:=by simp only[b7,ha,hb]
   rw[hR];show aa Tryz.prog _ _ (fM (q6 x.1 x.2 (-y.1) y.2));have c:=xY hx hy.neg (by omega) hpx (p':=y.2);cases hr:q6 x.1 x.2 (-y.1) y.2 with
   |error z=>
    exact NB
   |ok z=>
    exact NB
theorem tf {a b:Ex} (henv:qm (bu l)) (ho:xd a) (ho':xd b) (hw:mN a+mN b<=1000000) (ih:aa Tryz.prog 69 [dE a,gt l,ip l] (fM (b7 (bu l) a))) (ih':aa Tryz.prog 69 [dE b,gt l,ip l] (fM (b7 (bu l) b))):aa Tryz.prog 69 [dE (.bin .mul a b),gt l,ip l] (fM (b7 (bu l) (.bin .mul a b))):=by
 obtain⟨o1,na1,xs1,nb1,ys1,nm1,n1,cs1,hA⟩:=dC a;obtain⟨o2,na2,xs2,nb2,ys2,nm2,n2,cs2,hB⟩:=dC b;rw[show dE (.bin .mul a b)= .agg ([.val (.int .i64 (B4.mul).code)]++ra++[.val (vL []), .sl 2 (aE a++aE b)]) from congrArg DV.agg (rg .mul a b),hA,hB];rw[show dE a= .agg (ab o1 na1 xs1 nb1 ys1 nm1 n1 cs1) from congrArg DV.agg hA]at ih;rw[show dE b= .agg (ab o2 na2 xs2 nb2 ys2 nm2 n2 cs2) from congrArg DV.agg hB]at ih';cases ha:b7 (bu l) a with
 |error z=>
  have hz:=fa ha;rw[ha]at ih;rw[show b7 (bu l) (.bin .mul a b)= .error z by simp only[b7,ha]];refine Oh ?_;refine R2 ?_;exact H8
 |ok x=>
  obtain⟨hx,hpx⟩:=iR henv ho ha;rw[ha]at ih;cases hb:b7 (bu l) b with
  |error z=>
   have hz:=fa hb;rw[hb]at ih';rw[show b7 (bu l) (.bin .mul a b)= .error z by simp only[b7,ha,hb]];refine Oh ?_;refine IT ?_;refine mH ?_;refine i6 ?_;exact H8
  |ok y=>
   obtain⟨hy,hpy⟩:=iR henv ho' hb;rw[hb]at ih';have hR:b7 (bu l) (.bin .mul a b)=Fh .mul x.1 x.2 y.1 y.2:=by simp only[b7,ha,hb]
   rw[hR];show aa Tryz.prog _ _ (fM (vd x.1 x.2 y.1 y.2));have c:=Im hx hy (by omega) hpx hpy;cases hr:vd x.1 x.2 y.1 y.2 with
   |error z=>
    rw[hr]at c;refine Oh ?_;refine IT ?_;refine mH ?_;refine S5 ?_;refine H2 ?_;exact Mr
   |ok z=>
    rw[hr]at c;refine Oh ?_;refine IT ?_;refine mH ?_;refine S5 ?_;refine H2 ?_;exact Mr
theorem sC {a b:Ex} (henv:qm (bu l)) (ho:xd a) (ho':xd b) (hw:mN a+mN b<=1000000) (ih:aa Tryz.prog 69 [dE a,gt l,ip l] (fM (b7 (bu l) a))) (ih':aa Tryz.prog 69 [dE b,gt l,ip l] (fM (b7 (bu l) b))):aa Tryz.prog 69 [dE (.bin .div a b),gt l,ip l] (fM (b7 (bu l) (.bin .div a b))):=by
 obtain⟨o1,na1,xs1,nb1,ys1,nm1,n1,cs1,hA⟩:=dC a;obtain⟨o2,na2,xs2,nb2,ys2,nm2,n2,cs2,hB⟩:=dC b;rw[show dE (.bin .div a b)= .agg ([.val (.int .i64 (B4.div).code)]++ra++[.val (vL []), .sl 2 (aE a++aE b)]) from congrArg DV.agg (rg .div a b),hA,hB];rw[show dE a= .agg (ab o1 na1 xs1 nb1 ys1 nm1 n1 cs1) from congrArg DV.agg hA]at ih;rw[show dE b= .agg (ab o2 na2 xs2 nb2 ys2 nm2 n2 cs2) from congrArg DV.agg hB]at ih';cases ha:b7 (bu l) a with
 |error z=>
  have hz:=fa ha;rw[ha]at ih;rw[show b7 (bu l) (.bin .div a b)= .error z by simp only[b7,ha]];refine KL ?_;refine R2 ?_;exact H8
 |ok x=>
  obtain⟨hx,hpx⟩:=iR henv ho ha;rw[ha]at ih;cases hb:b7 (bu l) b with
  |error z=>
   have hz:=fa hb;rw[hb]at ih';rw[show b7 (bu l) (.bin .div a b)= .error z by simp only[b7,ha,hb]];refine KL ?_;refine IT ?_;refine lO ?_;refine i6 ?_;exact H8
  |ok y=>
   obtain⟨hy,hpy⟩:=iR henv ho' hb;rw[hb]at ih';have hR:b7 (bu l) (.bin .div a b)=Fh .div x.1 x.2 y.1 y.2:=by simp only[b7,ha,hb]
   rw[hR];show aa Tryz.prog _ _ (fM (yG x.1 x.2 y.1 y.2));have c:=Jk hx hy (by omega) hpx hpy;cases hr:yG x.1 x.2 y.1 y.2 with
   |error z=>
    rw[hr]at c;refine KL ?_;refine IT ?_;refine lO ?_;refine S5 ?_;refine Bw ?_;exact Mr
   |ok z=>
    rw[hr]at c;refine KL ?_;refine IT ?_;refine lO ?_;refine S5 ?_;refine Bw ?_;exact Mr
end
theorem dD {l:EL} (hs:fb l) (hl:l.length<=1000000) (hv:∀x∈l,dy 400 x.2.1/\nT x.2.2=true):∀e,xd e->mN e<=1000000->aa Tryz.prog 69 [dE e,gt l,ip l] (fM (b7 (bu l) e))
 | .num _ _,ho,_=>th ho
 | .nam _,_,_=>tb hs hl hv
 | .neg a,ho,hw=>sR (sd hv) ho hw (dD hs hl hv a ho hw)
 | .bin .add a b,ho,hw=>by
  have hw':mN a+mN b+1<=1000000:=hw;exact sD (sd hv) ho.1 ho.2 (by omega) (dD hs hl hv a ho.1 (by omega)) (dD hs hl hv b ho.2 (by omega))
 | .bin .sub a b,ho,hw=>by
  have hw':mN a+mN b+1<=1000000:=hw;exact sG (sd hv) ho.1 ho.2 (by omega) (dD hs hl hv a ho.1 (by omega)) (dD hs hl hv b ho.2 (by omega))
 | .bin .mul a b,ho,hw=>by
  have hw':mN a+mN b+1<=1000000:=hw;exact tf (sd hv) ho.1 ho.2 (by omega) (dD hs hl hv a ho.1 (by omega)) (dD hs hl hv b ho.2 (by omega))
 | .bin .div a b,ho,hw=>by
  have hw':mN a+mN b+1<=1000000:=hw;exact sC (sd hv) ho.1 ho.2 (by omega) (dD hs hl hv a ho.1 (by omega)) (dD hs hl hv b ho.2 (by omega))
section
variable {l:EL}
end
section
variable {P:Program} {T:TypeId->Option Ty} {n:Nat} {ops:Array Oper} {id:Nat} {draw:Bool} {K:AS->Prop} {s:AS} {k:Nat} {o:Oper} {os:List Oper} {fps:List FP}
theorem LM {x y:Operand} {ts:Array TypeId} {a b m:Int} (hm:max a b=m) (h1:gd ops s o=some true) (h2:o.op= .call ⟨.builtin .max,#[x,y],ts⟩) (h7:s.ev x= .d (dN .i64 a)) (h8:s.ev y= .d (dN .i64 b))
 (h3:aF n o.dst=true) (h4:eT draw ops (ar ops o ⟨.d (dN .i64 m),none⟩ []) k fps=true) (h:am P T n ops id draw K (k+1) os (s.eff o.dst ⟨.d (dN .i64 m),none⟩) (ar ops o ⟨.d (dN .i64 m),none⟩ []::fps)):am P T n ops id draw K k (o::os) s fps:=by
 subst hm;refine .run h1 (.gen fun s2 ht _=>?_) h3 h4 h;have hx:=(an ht (x:=x) (by simp[h2,Op.operands,Call.operands])).trans h7;have hy:=(an ht (x:=y) (by simp[h2,Op.operands,Call.operands])).trans h8;refine af fun n S0 w0 g a' w hM=>⟨.int .i64 (max a b),w,?_,Below.refl _ _,AV.M.val rfl⟩
 have hm:(Builtin.max2 (.int .i64 a) (.int .i64 b)).run P w= .ok (.int .i64 (max a b)) w:=by
  have e:max a b=if b > a then b else a:=by split <;>omega
  rw[e];rfl
 simp[execOp,h2,resolve,invoke,builtin,Builtin.max_,aY hM hx,aY hM hy,Sem.run_bind,hm]
end
theorem du {p:Rx->Prop} (h:∀op na xs nb ys nm args,(∀y∈args,p y)->p (.mk op na xs nb ys nm args)):∀x,p x
 | .mk op na xs nb ys nm args=>h op na xs nb ys nm args (fun y hy=>du h y)
decreasing_by
 have:=List.sizeOf_lt_of_mem hy
 simp
 omega
theorem bv (x:Rx):∃o na xs nb ys nm n cs,aR x=ab o na xs nb ys nm n cs:=by
 exact nC
mutual
def gr:Rx->Nat
 | .mk _ _ _ _ _ _ args=>ej args+1
def ej:List Rx->Nat
 | []=>0
 |x::r=>gr x+ej r
end
mutual
def py:Rx->Nat->Nat
 | .mk _ _ _ _ _ _ args,m=>zx args 1 m
def zx:List Rx->Nat->Nat->Nat
 | [],n,_=>n
 |y::r,n,m=>if n<=m then zx r (n+py y (m-n)) m else n
end
theorem yN:∀{l:List Rx} {n m:Nat},m<n->zx l n m=n
 | [],n,m,_=>rfl
 |y::r,n,m,h=>by rw[zx,if_neg (by omega)]
theorem Iv {l:List Rx} {i:Nat} (h:i<l.length) {n m:Nat} (hn:n<=m):zx (l.drop i) n m=zx (l.drop (i+1)) (n+py l[i] (m-n)) m:=by
 rw[List.drop_eq_getElem_cons h,zx,if_pos hn]
theorem sc:∀(x:Rx) (m:Nat),1<=py x m/\py x m<=m+1/\(py x m<=m->py x m=gr x):=by
 refine du fun op na xs nb ys nm args ih m=>?_
 have key:∀(l:List Rx),(∀y∈l,∀m,1<=py y m/\py y m<=m+1/\(py y m<=m->py y m=gr y))-> ∀n,1<=n->n<=m+1->1<=zx l n m/\zx l n m<=m+1/\(zx l n m<=m->zx l n m=n+ej l):=by
  intro l
  induction l with
  |nil=>intro _ n h1 h2;exact⟨h1,h2,fun _=>rfl⟩
  |cons y r ihr=>
   intro h n h1 h2
   by_cases hn:n<=m
   ·rw[zx,if_pos hn]
    obtain⟨a1,a2,a3⟩:=h y (by simp) (m-n);obtain⟨b1,b2,b3⟩:=ihr (fun z hz=>h z (by simp[hz])) (n+py y (m-n)) (by omega) (by omega);refine⟨b1,b2,fun hle=>?_⟩;rw[b3 hle,ej]
    by_cases hm:n+py y (m-n)<=m
    ·rw[a3 (by omega)];omega
    ·rw[yN (by omega)]at hle;omega
   ·rw[zx,if_neg hn]
    exact⟨h1,h2,fun h=>absurd h hn⟩
 rw[py,gr];obtain⟨c1,c2,c3⟩:=key args ih 1 (Nat.le_refl _) (by omega);exact⟨c1,c2,fun h=>by rw[c3 h];omega⟩
theorem Gx:∀(x:Rx),jN x-> ∀m:Nat,m<=1000000->aa Tryz.prog 72 [dR x,dN .i64 m] (.one (dN .i64 (py x m))):=by
 refine du fun op na xs nb ys nm args ih hx m hm=>?_
 obtain⟨_,_,_,_,_,hlen,hargs⟩:=hx;show aa Tryz.prog _ [.agg (ab op na xs nb ys nm args.length (da args)),_] _;have ht0:=(sc (.mk op na xs nb ys nm args) m).2.1;rw[py]at ht0 ⊢;generalize ht:zx args 1 m=t at ht0;refine kV func72 ?_
 refine ay (Nat × Nat) (fun s=>s.1<=args.length/\1<=s.2/\s.2<=m+1/\zx (args.drop s.1) s.2 m=t) (fun s=>⟨[(1, .d (dN .i64 m)),(2, .box 0 0),(4, .d (dN .i64 0)),(5, .d (dN .i64 s.2)),(6, .d (dN .i64 s.1))],[(0,some (ab op na xs nb ys nm args.length (da args)))]⟩) (fun s=>args.length-s.1) (0,1) ⟨Nat.zero_le _,Nat.le_refl _,by dsimp only;omega,ht⟩
  kw ?_
 rintro⟨i,n⟩ ⟨hi,h1,h2,hd⟩;dsimp only at hi h1 h2 hd ⊢;refine kI ?_
 refine kO4 ?_
 by_cases hlt:i<args.length
 ·refine kT ?_
  refine kO3 ?_
  by_cases hn:n<=m
  ·refine kT ?_
   obtain⟨o1,na1,xs1,nb1,ys1,nm1,n1,cs1,hA⟩:=bv args[i];have hat:∀(j:Nat) (a:AV),(ab o1 na1 xs1 nb1 ys1 nm1 n1 cs1)[j]? =some a->(da args)[i*7+j]? =some a:=fun j a h=>fw args i args[i] (by simp[hlt]) j a (by rw[hA];exact h)
   have c:=ih args[i] (List.getElem_mem hlt) (hargs _ (List.getElem_mem hlt)) (m-n) (by omega);rw[show dR args[i]= .agg (ab o1 na1 xs1 nb1 ys1 nm1 n1 cs1) from congrArg DV.agg hA]at c;obtain⟨k1,k2,_⟩:=sc args[i] (m-n);have hstep:=Iv hlt hn;generalize py args[i] (m-n)=k at *;refine Te ?_
   refine kO3 ?_
   refine kJ ((m-n:Nat)) ?_;refine kQ (c) ?_;exact⟨(i+1,n+k),⟨hlt,by dsimp only;omega,by dsimp only;omega,by dsimp only;rw[<- hstep];exact hd⟩,by dsimp only;omega,weak ⟨rfl,rfl,rfl,ak (by omega) (by omega),ak (by omega) (by omega),trivial⟩ ⟨rfl,trivial⟩ rfl⟩
  ·refine kE ?_
   refine kW ?_;rw[<- hd,yN (by omega)];exact de (T:=TT) rfl rfl
 ·refine kE ?_
  refine kW ?_;rw[<- hd,List.drop_eq_nil_of_le (by omega),zx];exact de (T:=TT) rfl rfl
mutual
def mD:Rx->Bool
 | .mk _ _ xs _ ys nm args=>mf args && (decide (xs.length<=8) && decide (ys.length<=8) && decide (nm.length<=60))
def mf:List Rx->Bool
 | []=>true
 |y::r=>mD y && mf r
end
theorem qD:∀{l:List Rx},mf l=true-> ∀y∈l,mD y=true
 |a::l,h,y,hy=>by
  simp only[mf,Bool.and_eq_true]at h
  rcases List.mem_cons.1 hy with rfl|hy
  ·exact h.1
  ·exact qD h.2 y hy
theorem y8:∀{l:List Rx},(∀(q:Nat) (y:Rx),l[q]? =some y->mD y=true)->mf l=true
 | [],_=>rfl
 |a::l,h=>by
  simp only[mf,Bool.and_eq_true]
  exact⟨h 0 a rfl,y8 fun q y hq=>h (q+1) y (by simpa using hq)⟩
theorem FQ:∀(x:Rx),jN x->aa Tryz.prog 73 [dR x] (.one (dB (mD x))):=by
 refine du fun op na xs nb ys nm args ih hx=>?_
 obtain⟨_,_,_,_,_,hlen,hargs⟩:=hx;have hB:=aT nm;refine OU ?_;refine kV func73 ?_
 refine ay Nat (fun i=>i<=args.length/\ ∀(q:Nat) y,q<i->args[q]? =some y->mD y=true) (fun i=>⟨[(1, .box 0 0),(2, .d (dB false)),(3, .d (dN .i64 i))],[(0,some (ab op na xs nb ys nm args.length (da args)))]⟩) (fun i=>args.length-i) 0 ⟨Nat.zero_le _,fun q y h=>absurd h (Nat.not_lt_zero _)⟩
  kw ?_
 rintro i ⟨hi,hq⟩;refine kI ?_
 refine kO4 ?_
 by_cases hlt:i<args.length
 ·refine kT ?_
  obtain⟨o1,na1,xs1,nb1,ys1,nm1,n1,cs1,hA⟩:=bv args[i];have hx:args[i]? =some args[i]:=by simp[hlt]
  have hat:∀(j:Nat) (a:AV),(ab o1 na1 xs1 nb1 ys1 nm1 n1 cs1)[j]? =some a->(da args)[i*7+j]? =some a:=fun j a h=>fw args i args[i] hx j a (by rw[hA];exact h)
  have c:=ih args[i] (List.getElem_mem hlt) (hargs _ (List.getElem_mem hlt));rw[show dR args[i]= .agg (ab o1 na1 xs1 nb1 ys1 nm1 n1 cs1) from congrArg DV.agg hA]at c;refine Te ?_;refine kO ?_;cases hb:mD args[i]
  ·rw[hb]at c
   refine kQ (c) ?_
   rw[show mD (.mk op na xs nb ys nm args)=false by
    rw[mD,Bool.and_eq_false_iff];refine .inl ?_;cases h:mf args
    ·rfl
    ·rw[qD h _ (List.getElem_mem hlt)]at hb;cases hb]
   exact de (T:=TT) rfl rfl
  ·exact CL
 ·refine kE ?_
  have hall:mf args=true:=y8 fun q y h=>hq q y (by have:=(List.getElem?_eq_some_iff.1 h).1;omega) h
  rw[mD,hall,Bool.true_and];refine jw ?_;refine kI ?_
  refine kO5 ?_
  by_cases l1:xs.length<=8
  ·refine kT ?_
   iterate 6 refine kO ?_
   by_cases l2:ys.length<=8
   ·refine kT ?_
    refine kO5 ?_
    by_cases l3:nm.length<=60
    ·refine kT ?_
     refine kW ?_;rw[decide_eq_true l1,decide_eq_true l2,decide_eq_true l3];exact de (T:=TT) rfl rfl
    ·refine kE ?_
     refine kW ?_;rw[decide_eq_true l1,decide_eq_true l2,decide_eq_false l3];exact de (T:=TT) rfl rfl
   ·refine kE ?_
    refine kW ?_;rw[decide_eq_true l1,decide_eq_false l2];exact de (T:=TT) rfl rfl
  ·refine kE ?_
   refine kW ?_;rw[decide_eq_false l1];exact de (T:=TT) rfl rfl
mutual
def yS:Rx->Nat
 | .mk _ _ _ _ _ _ args=>ll args+1
def ll:List Rx->Nat
 | []=>0
 |y::r=>max (yS y) (ll r)
end
theorem IB:∀x,yS x<=gr x:=by
 refine du fun op na xs nb ys nm args ih=>?_
 have key:∀l:List Rx,(∀y∈l,yS y<=gr y)->ll l<=ej l:=by
  intro l
  induction l with
  |nil=>intro _;exact Nat.le_refl _
  |cons y r ihr=>
   intro h;have h1:=h y (by simp);have h2:=ihr fun z hz=>h z (by simp[hz])
   rw[ll,ej];omega
 rw[yS,gr];have:=key args ih;omega
theorem jg:∀{l:List Rx} {y:Rx},y∈l->gr y<=ej l
 |a::l,y,h=>by
  rw[ej];rcases List.mem_cons.1 h with rfl|h
  ·omega
  ·have:=jg h;omega
theorem wz:∀{l:List Rx} {y:Rx},y∈l->yS y<=ll l
 |a::l,y,h=>by
  rw[ll];rcases List.mem_cons.1 h with rfl|h
  ·omega
  ·have:=wz h;omega
theorem yh:∀(x:Rx),jN x->gr x<=1000000->aa Tryz.prog 118 [dR x] (.one (dN .i64 (yS x))):=by
 refine du fun op na xs nb ys nm args ih hx hs=>?_
 have hd0:=IB (.mk op na xs nb ys nm args);obtain⟨_,_,_,_,_,hlen,hargs⟩:=hx;rw[gr]at hs;rw[yS,gr]at hd0;refine OU ?_;refine kV func118 ?_
 refine ay (Nat × Nat) (fun s=>s.1<=args.length/\s.2<=ll args/\max s.2 (ll (args.drop s.1))=ll args) (fun s=>⟨[(1, .box 0 0),(2, .d (dN .i64 0)),(3, .d (dN .i64 s.2)),(4, .d (dN .i64 s.1))],[(0,some (ab op na xs nb ys nm args.length (da args)))]⟩) (fun s=>args.length-s.1) (0,0) ⟨Nat.zero_le _,Nat.zero_le _,Nat.zero_max _⟩
  kw ?_
 rintro⟨i,d⟩ ⟨hi,h1,h2⟩;dsimp only at hi h1 h2 ⊢;refine kI ?_
 refine kO4 ?_
 by_cases hlt:i<args.length
 ·refine kT ?_
  obtain⟨o1,na1,xs1,nb1,ys1,nm1,n1,cs1,hA⟩:=bv args[i];have hx:args[i]? =some args[i]:=by simp[hlt]
  have hat:∀(j:Nat) (a:AV),(ab o1 na1 xs1 nb1 ys1 nm1 n1 cs1)[j]? =some a->(da args)[i*7+j]? =some a:=fun j a h=>fw args i args[i] hx j a (by rw[hA];exact h)
  have hm:=List.getElem_mem hlt;have hsz:=jg hm;have hdp:=wz hm;have c:=ih args[i] hm (hargs _ hm) (by omega);rw[show dR args[i]= .agg (ab o1 na1 xs1 nb1 ys1 nm1 n1 cs1) from congrArg DV.agg hA]at c;rw[List.drop_eq_getElem_cons hlt,ll]at h2;generalize yS args[i]=k at *;refine Te ?_;refine kO ?_;refine kC (c) ?_;refine LM (a:=d) (b:=k) (m:=(max d k:Nat)) (by omega) rfl rfl rfl rfl rfl rfl ?_;refine kW ?_;exact⟨(i+1,max d k),⟨hlt,by dsimp only;omega,by dsimp only;omega⟩,by dsimp only;omega,weak ⟨rfl,rfl,rfl,ak (by omega) (by omega),trivial⟩ ⟨rfl,trivial⟩ rfl⟩
 ·exact Ii
section
open Go.ChangeShapes Go.WideShapes Go.ChangeAt Go.RowKit Go.Joins
def um {H:Type}:Nat->DataW H->Option (List AV)
 |0,_=>none
 |n+1,d=>match d with
  | .lit (.bool b)=>some [.val (.bool b)]
  | .lit (.int k i)=>some [.val (.int k i)]
  | .lit (.string l)=>some [.val (.string ⟨l.toArray⟩)]
  | .nil=>some [.sl 0 []]
  | .slice es _=>match iV (um n) es with
   |some rows=>some [.sl rows.length rows.flatten]
   |none=>none
  | .agg es=>match iV (um n) es with
   |some ps=>some ps.flatten
   |none=>none
  |_=>none
theorem yU {α β:Type} {f g:α->Option β}:∀{xs:List α} {ys zs:List β},(∀x∈xs,∀y z,f x=some y->g x=some z->y=z)->iV f xs=some ys->iV g xs=some zs->ys=zs
 | [],ys,zs,_,h,k=>by simp only[iV,Option.some.injEq]at h k;rw[<- h,<- k]
 |x::xs,ys,zs,hfg,h,k=>by
  simp only[iV]at h k
  cases h1:f x with
  |none=>rw[h1]at h;simp at h
  |some y=>
   cases h2:iV f xs with
   |none=>rw[h1,h2]at h;simp at h
   |some ys'=>
    cases k1:g x with
    |none=>rw[k1]at k;simp at k
    |some z=>
     cases k2:iV g xs with
     |none=>rw[k1,k2]at k;simp at k
     |some zs'=>
      rw[h1,h2]at h;rw[k1,k2]at k
      simp only[Option.some.injEq]at h k
      rw[<- h,<- k,hfg x (by simp) y z h1 k1,yU (fun x hx=>hfg x (by simp[hx])) h2 k2]
theorem Do {H:Type}:∀(n m:Nat) (d:DataW H) (cs cs':List AV),um n d=some cs->um m d=some cs'->cs=cs'
 |0,_,_,_,_,h,_=>by simp[um]at h
 |_+1,0,_,_,_,_,h=>by simp[um]at h
 |n+1,m+1,d,cs,cs',h,h'=>by
  have ih:=Do (H:=H) n m;unfold um at h h'
  split at h
  ·simp_all
  ·simp_all
  ·simp_all
  ·simp_all
  ·exact L6
  ·exact L6
  ·cases h
theorem p9 {α β:Type} {f:α->Option β}:∀{xs:List α} {ys:List β},xs.length=ys.length->(∀(i:Nat) (x:α) (y:β),xs[i]? =some x->ys[i]? =some y->f x=some y)->iV f xs=some ys
 | [],[],_,_=>rfl
 | [],_::_,h,_=>by cases h
 |_::_,[],h,_=>by cases h
 |x::xs,y::ys,h,hf=>by
  simp only[iV,hf 0 x y rfl rfl,p9 (xs:=xs) (ys:=ys) (by simpa using h) (fun i x y h1 h2=>hf (i+1) x y (by simpa using h1) (by simpa using h2))]
def u9 (P:Program) (L:List TypeId):Bool:=L.all fun t=>match P.underlying t with
 |some .bool=>true
 |some (.int _)=>true
 |some .string=>true
 |some (.slice e)=>L.elem e
 |some (.struct fs)=>(fs.toList.all fun f=>L.elem f.type) && mM P 0 (P.cellsOf t) fs.toList
 |some (.array n e)=>L.elem e && Nat.beq (n*P.cellsOf e) (P.cellsOf t)
 |_=>false
theorem Ch {w:World} {sz:Nat}:∀(n:Nat) (vs:List Value) (ps:List (List AV)),vs.length=n*sz->ps.length=n->(∀i p,ps[i]? =some p->CM (fun _=>False) w p ((vs.drop (i*sz)).take sz))->CM (fun _=>False) w ps.flatten vs
 |0,vs,ps,h,hp,_=>by
  have h1:vs=[]:=List.eq_nil_of_length_eq_zero (by simpa using h);have h2:ps=[]:=List.eq_nil_of_length_eq_zero hp;subst h1 h2;exact CM.nil _ _
 |n+1,vs,[],_,hp,_=>by cases hp
 |n+1,vs,p::ps,h,hp,hc=>by
  have h0:=hc 0 p rfl;rw[Nat.zero_mul,List.drop_zero]at h0
  have hr:=Ch (w:=w) (sz:=sz) n (vs.drop sz) ps (by rw[List.length_drop,h,Nat.add_mul];omega) (by simpa using hp) (fun i q hq=>by
   have:=hc (i+1) q (by simpa using hq);rw[List.drop_drop,show sz+i*sz=(i+1)*sz by rw[Nat.add_mul];omega];exact this)
  rw[List.flatten_cons];have:=h0.append hr
  rwa[List.take_append_drop]at this
theorem tG {P:Program} {w:World} {vs:List Value}:∀(fs:List Field) (off:Nat) (ps:List (List AV)),mM P off vs.length fs=true->ps.length=fs.length ->
 (∀(i:Nat) (f:Field) (p:List AV),fs[i]? =some f->ps[i]? =some p->CM (fun _=>False) w p ((vs.drop f.offset).take (P.cellsOf f.type)))->CM (fun _=>False) w ps.flatten (vs.drop off)
 | [],off,[],h,_,_=>by
  have:=Nat.eq_of_beq_eq_true h;subst this;rw[List.drop_length];exact CM.nil _ _
 | [],_,_::_,_,h,_=>by cases h
 |_::_,_,[],_,h,_=>by cases h
 |f::r,off,p::ps,h,hl,hf=>by
  simp only[mM,Bool.and_eq_true]at h
  have ho:=Nat.eq_of_beq_eq_true h.1;have h1:=hf 0 f p rfl rfl;have h3:=tG r _ ps h.2 (by simpa using hl) (fun i g q hg hq=>hf (i+1) g q (by simpa using hg) (by simpa using hq));rw[ho]at h1;rw[List.flatten_cons];have:=h1.append h3
  rwa[<- List.drop_drop,List.take_append_drop]at this
section
variable {H:Type} {enc:TypeId × Value->H} {W:World} {P:Program} {held:Bool}
theorem JQ {L:List TypeId} (hL:u9 P L=true):∀(n:Nat) (t:TypeId) (vs:List Value) (x:DataW H × List MemPlace),t∈L->DataW.trod enc P W 0 (fun _=>true) held n t vs=some x ->
 ∃cs,CM (fun _=>False) W cs vs/\um n x.1=some cs:=by
 intro n
 induction n with
 |zero=>intro t vs x _ h;simp[DataW.trod]at h
 |succ n ih=>
  intro t vs x ht h;have hp:=List.all_eq_true.1 hL t ht;cases hu:P.underlying t with
  |none=>rw[hu]at hp;simp at hp
  |some d=>
   rw[hu]at hp;cases d with
   |bool=>
    obtain⟨b,rfl,rfl⟩:=DataW.trod_bool hu h;exact⟨_,CM.cons (.val rfl) (CM.nil _ _),rfl⟩
   |int k=>
    obtain⟨i,rfl,rfl,h1⟩:=DataW.trod_int hu h;exact⟨_,CM.cons (.val rfl) (CM.nil _ _),rfl⟩
   |string=>
    obtain⟨s,rfl,rfl,h1⟩:=DataW.trod_string hu h;exact⟨_,CM.cons (.val rfl) (CM.nil _ _),by simp[um]⟩
   |slice e=>
    have he:e∈L:=by simpa using hp
    rcases DataW.trod_slice hu h with⟨rfl,rfl⟩| ⟨a,len,cap,elems,rest,m,hm,rfl,rfl,_,hlc,hcm,hel,hget,_,_⟩
    ·exact⟨_,CM.cons (.emp (Nat.le_refl _) (by omega) (fun _=>rfl)) (CM.nil _ _),rfl⟩
    ·obtain rfl:m=n:=by omega
     have hrow:∀i,i<len-> ∃(r:List AV) (us:List Value),W.cells? 0 (a.add (i*P.cellsOf e)) (P.cellsOf e)=some us/\CM (fun _=>False) W r us/\ ∀y,elems[i]? =some y->um m y.1=some r:=by
      intro i hi;have h1:=hget i hi;have h2:elems[i]? =some elems[i]:=by simp
      rw[h2]at h1;obtain⟨us,h3,h4⟩:=Option.bind_eq_some_iff.1 h1;obtain⟨r,h5,h6⟩:=ih e us _ he h4;exact⟨r,us,h3,h5,fun y hy=>by rw[h2]at hy;cases hy;exact h6⟩
     have hrows:∀k,k<=len-> ∃rows:List (List AV),rows.length=k/\ ∀i r,rows[i]? =some r-> ∃us:List Value,W.cells? 0 (a.add (i*P.cellsOf e)) (P.cellsOf e)=some us/\CM (fun _=>False) W r us/\ ∀y,elems[i]? =some y->um m y.1=some r:=by
      exact NV
     obtain⟨rows,hl,hr⟩:=hrows len (Nat.le_refl _)
     have hmap:iV (um m) (elems.map (·.1))=some rows:=by
      refine p9 (by simp[hel,hl]) (fun i y r hy h2=>?_);rw[List.getElem?_map]at hy;cases hz:elems[i]? with
      |none=>rw[hz]at hy;cases hy
      |some z=>
       rw[hz]at hy
       simp only[Option.map_some,Option.some.injEq]at hy
       obtain⟨_,_,_,h5⟩:=hr i r h2;rw[<- hy];exact h5 z hz
     have hsz:∀r∈rows,r.length=P.cellsOf e:=by
      exact MF
     refine⟨[.sl len rows.flatten],CM.cons ?_ (CM.nil _ _),by simp only[um,hmap,hl]⟩;exact M8
   |struct fs=>
    simp only[Bool.and_eq_true]at hp
    obtain⟨xs,m,hm,rfl,hlen,hxl,hget⟩:=DataW.trod_struct hu h;obtain rfl:m=n:=by omega
    have htile:=hp.2;rw[<- hlen]at htile
    have hpart:∀k,k<=xs.length-> ∃ps:List (List AV),ps.length=k/\ ∀(i:Nat) (p:List AV) (f:Field),ps[i]? =some p->fs[i]? =some f->CM (fun _=>False) W p ((vs.drop f.offset).take (P.cellsOf f.type))/\ ∀y:DataW H × List MemPlace,xs[i]? =some y->um m y.1=some p:=by
     intro k
     induction k with
     |zero=>intro _;exact⟨[],rfl,fun i p f h=>by simp at h⟩
     |succ k ihk=>
      intro hk;obtain⟨ps,h1,h2⟩:=ihk (by omega);have hkf:fs[k]? =some (fs[k]'(by omega)):=by simp
      have h3:=hget k _ hkf;have h4:xs[k]? =some xs[k]:=by simp
      rw[h4]at h3;have hfL:fs[k].type∈L:=by have:=List.all_eq_true.1 hp.1 fs[k] (by simp);simpa using this
      obtain⟨p,h5,h6⟩:=ih _ _ _ hfL h3;refine⟨ps++[p],by simp[h1],fun i q f hq hf=>?_⟩
      by_cases hi:i<ps.length
      ·rw[List.getElem?_append_left hi]at hq;exact h2 i q f hq hf
      ·have hil:=(List.getElem?_eq_some_iff.1 hq).1
       simp at hil
       have:i=k:=by omega
       subst this;rw[List.getElem?_append_right (by omega),h1,Nat.sub_self]at hq
       simp at hq
       subst hq;rw[hkf]at hf;cases hf;exact⟨h5,fun y hy=>by rw[h4]at hy;cases hy;exact h6⟩
    obtain⟨ps,h1,h2⟩:=hpart xs.length (Nat.le_refl _);refine⟨ps.flatten,?_,?_⟩
    ·have:=tG (w:=W) (vs:=vs) fs.toList 0 ps htile (by rw[h1,hxl];simp) (fun i f p hf hp=>(h2 i p f hp (by simpa using hf)).1)
     rwa[List.drop_zero]at this
    ·have hmap:iV (um m) (xs.map (·.1))=some ps:=by
      refine p9 (by simp[h1]) (fun i y p hy hpi=>?_);rw[List.getElem?_map]at hy;cases hz:xs[i]? with
      |none=>rw[hz]at hy;cases hy
      |some z=>
       rw[hz]at hy
       simp only[Option.map_some,Option.some.injEq]at hy
       have hil:i<fs.size:=by rw[<- hxl];exact(List.getElem?_eq_some_iff.1 hz).1
       rw[<- hy];exact(h2 i p fs[i] hpi (by simp[hil])).2 z hz
     simp only[um,hmap]
   |array k e=>
    simp only[Bool.and_eq_true]at hp
    have he:e∈L:=by simpa using hp.1
    have hke:=Nat.eq_of_beq_eq_true hp.2;unfold DataW.trod at h;rw[hu]at h
    simp only at h
    have hr:∃xs:List (DataW H × List MemPlace),x.1= .agg (xs.map (·.1))/\vs.length=P.cellsOf t/\(List.range k).mapM (fun i=>DataW.trod enc P W 0 (fun _=>true) held n e ((vs.drop (i*P.cellsOf e)).take (P.cellsOf e)))=some xs:=by
     split at h
     ·rename_i hl
      obtain⟨xs,h1,h2⟩:=Option.map_eq_some_iff.1 h;exact⟨xs,by rw[<- h2],hl,h1⟩
     ·cases h
    obtain⟨xs,hx,hlen,hmm⟩:=hr;obtain⟨h1,h2⟩:=yK hmm;rw[List.length_range]at h1
    have hpart:∀j,j<=k-> ∃ps:List (List AV),ps.length=j/\ ∀(i:Nat) (p:List AV),ps[i]? =some p->CM (fun _=>False) W p ((vs.drop (i*P.cellsOf e)).take (P.cellsOf e))/\ ∀y:DataW H × List MemPlace,xs[i]? =some y->um n y.1=some p:=by
     intro j
     induction j with
     |zero=>intro _;exact⟨[],rfl,fun i p h=>by simp at h⟩
     |succ j ihj=>
      intro hj;obtain⟨ps,h3,h4⟩:=ihj (by omega);obtain⟨y,h5,h6⟩:=h2 j j (List.getElem?_range (by omega));obtain⟨p,h7,h8⟩:=ih _ _ _ he h6;refine⟨ps++[p],by simp[h3],fun i q hq=>?_⟩
      by_cases hi:i<ps.length
      ·rw[List.getElem?_append_left hi]at hq;exact h4 i q hq
      ·have hil:=(List.getElem?_eq_some_iff.1 hq).1
       simp at hil
       have:i=j:=by omega
       subst this;rw[List.getElem?_append_right (by omega),h3,Nat.sub_self]at hq
       simp at hq
       subst hq;exact⟨h7,fun z hz=>by rw[h5]at hz;cases hz;exact h8⟩
    obtain⟨ps,h3,h4⟩:=hpart k (Nat.le_refl _);refine⟨ps.flatten,Ch k vs ps (by rw[hlen,<- hke]) h3 (fun i p hp=>(h4 i p hp).1),?_⟩
    have hmap:iV (um n) (xs.map (·.1))=some ps:=by
     refine p9 (by simp[h3,<- h1]) (fun i y p hy hpi=>?_);rw[List.getElem?_map]at hy;cases hz:xs[i]? with
     |none=>rw[hz]at hy;cases hy
     |some z=>
      rw[hz]at hy
      simp only[Option.map_some,Option.some.injEq]at hy
      rw[<- hy];exact(h4 i p hpi).2 z hz
    rw[hx]
    simp only[um,hmap]
   |_=>simp at hp
end
end
section
open Go.ChangeShapes Go.WideShapes Go.ChangeAt Go.RowKit Go.Joins
theorem jq {P:Program} {W:World} {name:String} {d:DataW Unit}:∀{laid:List (String × DataW Unit)} {ps:List MemPlace},DataW.LaidVars P W laid ps->(name,d)∈laid ->
 ∃g t cs fuel p,P.globalNamed name=some g/\(P.globals[g]?).map (·.type)=some t/\W.var? P name=some cs/\DataW.trod (fun _=>()) P W 0 (fun _=>true) false fuel t cs.toList=some (d,p)
 | [],_,_,h=>by cases h
 |(n,d')::rest,ps,h,hm=>by
  obtain⟨g,t,cs,fuel,p,q,h1,h2,h3,h4,h5,_⟩:=h;rcases List.mem_cons.1 hm with e|e
  ·cases e
   exact⟨g,t,cs,fuel,p,h1,h2,h3,h4⟩
  ·exact jq h5 e
theorem E0:Tryz.prog.cellsOf 148=1:=by kernel_rfl
theorem J7:Tryz.prog.globalNamed "internal/strconv.uint64pow10" =some 3:=by kernel_rfl
theorem Km:(Tryz.prog.globals[3]?).map (·.type)=some 270:=by kernel_rfl
theorem Lc:Tryz.prog.cellsOf 270=20:=by kernel_rfl
theorem Dd {P:Program} {W:World} {laid:List (String × DataW Unit)} {ps:List MemPlace} (hv:DataW.LaidVars P W laid ps) {name:String} {d:DataW Unit} (hm:(name,d)∈laid) {g t:Nat} (hg:P.globalNamed name=some g) (ht:(P.globals[g]?).map (·.type)=some t)
 {L:List TypeId} (hL:u9 P L=true) (htL:t∈L) {n:Nat} {cs:List AV} (hav:um n d=some cs) {S:Nat->Prop} (hS:S=fun _=>False):TV.M S (fun _=>0) ⟨[],[]⟩ W (.rp cs) (.pointer (some ⟨g,0,none⟩)):=by
 subst hS;obtain⟨g',t',c0,fuel,p,h1,h2,h3,h4⟩:=jq hv hm;obtain rfl:=Option.some.inj (hg.symm.trans h1);obtain rfl:=Option.some.inj (ht.symm.trans h2);obtain⟨cs',hc,ha⟩:=JQ hL fuel _ _ _ htL h4;have e:=Do _ _ _ _ _ ha hav;subst e;unfold World.var? at h3;rw[hg]at h3
 simp only[Option.bind_some]at h3
 split at h3
 ·rename_i c1 e1 f1 hb
  cases h3;refine⟨g,0,fun i=>c0.getD i undef,rfl,fun h=>h,(Array.getElem?_eq_some_iff.1 hb).1,fun i a hi=>?_,fun i a hi=>?_⟩
  ·have hl:i<c0.size:=by have:=(List.getElem?_eq_some_iff.1 hi).1;rw[hc.1]at this;simpa using this
   rw[Nat.zero_add]
   simp[World.cell?,hb,hl]
  ·have hl:i<c0.size:=by have:=(List.getElem?_eq_some_iff.1 hi).1;rw[hc.1]at this;simpa using this
   exact hc.2 i a _ hi (by simp[hl])
 ·cases h3
theorem yC {α:Type} {g:Nat} {c:α} {r:List (Nat × α)} {k:Nat} {x:α} (h:ai ((g,c)::r) k=some x):(g=k/\c=x)∨ai r k=some x:=by
 by_cases e:g=k
 ·subst e;rw[ah]at h;exact .inl ⟨rfl,Option.some.inj h⟩
 ·rw[aq _ _ e]at h;exact .inr h
theorem KC:Tryz.prog.globalNamed "setsquare/unit.units" =some 1:=by kernel_rfl
theorem K9:(Tryz.prog.globals[1]?).map (·.type)=some 175:=by kernel_rfl
theorem KY:u9 Tryz.prog [175,176,9,2]=true:=by kernel_rfl
theorem Ba:Tryz.prog.globalNamed "setsquare/formula.operands" =some 0:=by kernel_rfl
theorem zU:(Tryz.prog.globals[0]?).map (·.type)=some 172:=by kernel_rfl
theorem Ad:u9 Tryz.prog [172,3]=true:=by kernel_rfl
theorem Ke {laid:List (String × DataW Unit)} (hp:(laid.all fun x=>x.2.handleName?.isNone)=true) (hm:("internal/strconv.uint64pow10",Rows.laid_internal_strconv_uint64pow10)∈laid)
 (hm1:("setsquare/unit.units",Rows.laid_setsquare_unit_units)∈laid)
 (hm3:("setsquare/formula.operands",Rows.laid_setsquare_formula_operands)∈laid)
 {W:World} (h:laidMetH Tryz.prog laid W):eD (fun _=>False) W:=by
 rw[MakeChecks.laidMetH_plain _ _ _ hp]at h;obtain⟨ps,hv,_⟩:=h;obtain⟨g,t,cs,fuel,p,h1,h2,h3,h4⟩:=jq hv hm;obtain rfl:=Option.some.inj (J7.symm.trans h1);obtain rfl:=Option.some.inj (Km.symm.trans h2);have hd:(Rows.laid_internal_strconv_uint64pow10:DataW Unit)=Lib.tabData .u64 Lib.pow10Tab:=rfl;rw[hd]at h4
 have ht:Lib.TabIs Tryz.prog W "internal/strconv.uint64pow10" .u64 Lib.pow10Tab:=by
  unfold Lib.TabIs;rw[h3,<- Lib.cells_of_tab underlying270 underlying148 E0 Lc h4]
 refine⟨Lib.tabBelow_of_tabIs ht,fun _ h=>h.elim,fun k cs h=>?_⟩;unfold GT at h;rcases yC h with⟨rfl,rfl⟩|h
 ·exact Dd hv hm1 KC K9 KY (by simp) (n:=4) rfl rfl
 rcases yC h with⟨rfl,rfl⟩|h
 ·exact Dd hv hm3 Ba zU Ad (by simp) (n:=4) rfl rfl
 cases h
end
def pw:Rat->Nat->Rat
 |q,0=>q
 |q,k+1=>pw q k*((10:Int):Rat)
theorem vI {n:Int} (h:n.natAbs<4294967296):dy 1 (n:Rat):=⟨Sz.small h,Sz.small (z:=1) (by decide)⟩
theorem Gr {q:Rat} {n:Nat} (h:dy n q):∀k,dy (n+k) (pw q k)
 |0=>h
 |k+1=>by
  have:=dy.mul (Gr h k) (vI (n:=10) (by decide))
  rwa[Nat.add_assoc]at this
def d4 (k:Nat) (t:List UInt8):List UInt8:=List.replicate (k+1-t.length) 48++t
def jZ (k:Nat) (t:List UInt8):List UInt8:=if 0<k then(d4 k t).take ((d4 k t).length-k)++[46]++(d4 k t).drop ((d4 k t).length-k)else d4 k t
def pe (q:Rat):Nat->Nat->Option (List UInt8)
 |0,_=>none
 |n+1,k=>if((pw q k).den:Int)=1 then(if(jZ k (fmt (pw q k).num)).length<=40 then some (jZ k (fmt (pw q k).num))else none)else pe q n (k+1)
def gm (q:Rat):Option (List UInt8):=if LR q<0 then none else pe q 41 0
def lJ (na:Bool) (xs:List Nat) (nb:Bool) (ys:List Nat):Option (List UInt8):=if fJ na xs nb ys then gm (Rat.divInt (ap na xs) (ap nb ys))else none
theorem oQ (q:Rat):∀n k,∃K,k<=K/\K<=k+n/\(∀j,k<=j->j<K-> ¬((pw q j).den:Int)=1)/\((K=k+n/\pe q n k=none)∨(K<k+n/\((pw q K).den:Int)=1/\pe q n k=if(jZ K (fmt (pw q K).num)).length<=40 then some (jZ K (fmt (pw q K).num))else none))
 |0,k=>⟨k,Nat.le_refl _,Nat.le_refl _,fun j h1 h2=>by omega, .inl ⟨rfl,rfl⟩⟩
 |n+1,k=>by
  by_cases h:((pw q k).den:Int)=1
  ·exact⟨k,Nat.le_refl _,by omega,fun j h1 h2=>by omega, .inr ⟨by omega,h,by rw[pe,if_pos h]⟩⟩
  ·obtain⟨K,h1,h2,h3,h4⟩:=oQ q n (k+1)
   refine⟨K,by omega,by omega,fun j hj hj2=>?_,?_⟩
   ·by_cases e:j=k
    ·subst e;exact h
    ·exact h3 j (by omega) hj2
   ·rw[pe,if_neg h]
    exact GX
theorem lH {q:Rat} (h:¬LR q<0):∃K,K<=41/\(∀j,j<K-> ¬((pw q j).den:Int)=1)/\((K=41/\gm q=none)∨(K<=40/\((pw q K).den:Int)=1/\gm q=if(jZ K (fmt (pw q K).num)).length<=40 then some (jZ K (fmt (pw q K).num))else none)):=by
 obtain⟨K,h1,h2,h3,h4⟩:=oQ q 41 0;refine⟨K,by omega,fun j hj=>h3 j (Nat.zero_le _) hj,?_⟩;rw[gm,if_neg h];exact GX
theorem zq (k:Nat) (t:List UInt8):(d4 k t).length=max (k+1) t.length:=by
 unfold d4
 simp
 omega
theorem Ic (k:Nat) (t:List UInt8) (h:0<k):(jZ k t).length=max (k+1) t.length+1:=by
 have:=zq k t;unfold jZ;rw[if_pos h]
 simp only[List.length_append,List.length_take,List.length_drop,List.length_cons,List.length_nil]
 omega
theorem pk {q:Rat} {n:Nat} (sq:dy n q) (hn:n<=900):∃t,aa Tryz.prog 244 [dQ q] (.tup [dL t,dB (gm q).isSome])/\ ∀u,gm q=some u->t=u:=by
 have cv:aa Tryz.prog 155 [dQ q] (.one (dB true)):=vu q sq (by omega)
 by_cases hneg:LR q<0
 ·have h0:gm q=none:=by rw[gm,if_pos hneg]
  refine⟨[],?_,fun u h=>by rw[h0]at h;cases h⟩;rw[h0];refine kU func244 ?_;refine NG ?_;refine kC (qB q) ?_;refine kB true ?_ ?_
  ·exact decide_eq_true hneg
  exact aD
 ·obtain⟨K,k1,k2,k3⟩:=lH hneg
  have main:∀t b,(K=41->t=[]/\b=false)->(K<=40->t=jZ K (fmt (pw q K).num)/\b=decide (t.length<=40))->aa Tryz.prog 244 [dQ q] (.tup [dL t,dB b]):=by
   intro t b g1 g2;refine kU func244 ?_;refine NG ?_;refine kC (qB q) ?_;refine kB false ?_ ?_
   ·exact decide_eq_false hneg
   refine kW ?_;refine ax (iz 10 (by decide) (by decide) (q:=((10:Int):Rat)) rfl) rfl rfl rfl rfl rfl rfl rfl ?_;refine Lv ?_
   refine ay Nat (fun k=>k<=K) (fun k=>⟨[(1, .box 0 0),(2, .d (dL [])),(3, .d (dB false)),(4, .box 3001 0),(5, .box 4001 0),(6, .box 5001 0),(7, .d (dN .i64 k))],[(0,some (aQ q)),(3001,some (aQ ((10:Int):Rat))),(4001,some (aZ 1)),(5001,some (aQ (pw q k)))]⟩) (fun k=>41-k) 0 (Nat.zero_le _)
    kw ?_
   intro k hk;have sk:=Gr sq k;refine kI ?_;refine kO ?_
   by_cases h40:k<=40
   ·refine kT ?_
    refine kW ?_;have hcs:=I4 (pw q k).den 1
    by_cases hd1:((pw q k).den:Int)=1
    ·have hkK:k=K:=by
      rcases Nat.lt_or_ge k K with h|h
      ·exact absurd hd1 (k2 k h)
      ·omega
     rw[decide_eq_true hd1]at hcs;obtain⟨rfl,rfl⟩:=g2 (by omega);subst hkK;refine kQ (hcs) ?_;have hlen:(fmt (pw q k).num).length<=10*(n+k)+2:=Cd sk.1;refine ax (lD (ew.of_lt sk.1 (by omega))) rfl rfl rfl rfl rfl rfl rfl ?_;unfold jZ d4;generalize fmt (pw q k).num=u at *;refine kW ?_
     refine ay Nat (fun j=>j<=k+1-u.length) (fun j=>⟨[(2, .d (dL [])),(3, .d (dB false)),(7, .d (dN .i64 k)),(8, .d (dL (List.replicate j 48++u)))],[]⟩) (fun j=>k+1-u.length-j) 0 (Nat.zero_le _)
      kw ?_
     intro j hj;have hB:(Bs (List.replicate j 48++u)).size=j+u.length:=by rw[aT];simp
     refine kI ?_
     refine kO3 ?_
     by_cases hjk:j+u.length<=k
     ·refine kT ?_
      refine kW ?_;refine aO rfl rfl rfl rfl rfl rfl rfl (iP (a:=[48]) (b:=List.replicate j 48++u) (by simp;omega)) ?_;refine kW ?_;exact⟨j+1,by omega,by omega,weak ⟨rfl,rfl,rfl,rfl,trivial⟩ trivial rfl⟩
     ·refine kE ?_
      obtain rfl:j=k+1-u.length:=by omega
      have hwl:(List.replicate (k+1-u.length) 48++u).length=k+1-u.length+u.length:=by simp
      generalize hwd:List.replicate (k+1-u.length) 48++u=w at *;refine jw ?_;refine kI ?_;refine kO ?_
      by_cases hk0:0<k
      ·rw[if_pos hk0]
       refine kT ?_;refine kN ?_;refine bG (T:=TT) ?_;refine eZ (T:=TT) rfl ?_;refine KO ?_;refine oB ?_;generalize hz:w.take (w.length-k)++[46]++w.drop (w.length-k)=z;have hzB:=aT z;refine RF ?_;refine nu (v':= .bool (decide (z.length<=40))) rfl rfl rfl rfl ?_ ?_
       ·exact FY
       exact aD
      ·rw[if_neg hk0]
       refine kE ?_;refine kN ?_;refine bG (T:=TT) ?_;refine eX (T:=TT) rfl ?_;refine kI ?_
       refine kO3 ?_
       refine nu (v':= .bool (decide (w.length<=40))) rfl rfl rfl rfl ?_ ?_
       ·exact FY
       exact aD
    ·rw[decide_eq_false hd1]at hcs
     refine kQ (hcs) ?_;refine ax (Ej sk (vI (n:=10) (by decide)) (by omega) (q:=pw q (k+1)) rfl) rfl rfl rfl rfl rfl rfl rfl ?_;refine kW ?_
     exact⟨k+1,by
      rcases Nat.lt_or_ge k K with h|h
      ·exact h
      ·obtain rfl:k=K:=by omega
       rcases k3 with⟨e,_⟩| ⟨_,k3,_⟩
       ·omega
       ·exact absurd k3 hd1,by omega,weak ⟨rfl,rfl,rfl,rfl,rfl,rfl,ak (by omega) (by omega),trivial⟩ ⟨rfl,rfl,rfl,rfl,trivial⟩ rfl⟩
   ·refine kE ?_
    obtain⟨rfl,rfl⟩:=g1 (by omega);exact aD
  rcases k3 with⟨e,h0⟩| ⟨e,h1,h2⟩
  ·exact Nl
  ·exact xF
abbrev Gf:=Except (Nat × Int) (Ex × List Tk)
inductive Md where
 |sum
 |prod
 |un
 |prim
 |more (two:Bool) (e:Ex)
def Su:Bool->List UInt8->Option B4
 |false,[c]=>if c=43 then some .add else if c=45 then some .sub else none
 |true,[c]=>if c=42 then some .mul else if c=47 then some .div else none
 |_,_=>none
def G3 (two:Bool):List Tk->Option (B4 × List Tk)
 |t::r=>if t.1=4 then(match Su two t.2.1 with|some k=>some (k,r)|none=>none)else none
 | []=>none
def el (c:UInt8):List Tk->Option (List Tk)
 |t::r=>if t.1=4/\t.2.1=[c]then some r else none
 | []=>none
def M2:List Tk->Nat
 |t::_=>t.2.2
 | []=>0
noncomputable def NN (t:Tk) (r:List Tk):Gf:=match vH t.2.1 with
 |none=> .error (t.2.2,2)
 |some q=>match gm q with
  |none=> .error (t.2.2,3)
  |some _=>match r with
   |u::r'=>if u.1=1 then .ok (.num q u.2.1,r')else .ok (.num q [],r)
   | []=> .ok (.num q [],r)
def NM:Bool->Md
 |false=> .prod
 |true=> .un
noncomputable def pP:Nat->Md->List Tk->Option Gf
 |0,_,_=>none
 |f+1, .sum,ts=>match pP f .prod ts with
  |some (.ok (e,r))=>pP f (.more false e) r
  |x=>x
 |f+1, .prod,ts=>match pP f .un ts with
  |some (.ok (e,r))=>pP f (.more true e) r
  |x=>x
 |f+1, .more two e,ts=>match G3 two ts with
  |some (k,r)=>match pP f (NM two) r with
   |some (.ok (e2,r2))=>pP f (.more two (.bin k e e2)) r2
   |x=>x
  |none=>some (.ok (e,ts))
 |f+1, .un,ts=>match el 45 ts with
  |some r=>match pP f .un r with
   |some (.ok (e,r2))=>some (.ok (.neg e,r2))
   |x=>x
  |none=>pP f .prim ts
 |f+1, .prim,ts=>match el 40 ts with
  |some r=>match pP f .sum r with
   |some (.ok (e,r2))=>match el 41 r2 with
    |some r3=>some (.ok (e,r3))
    |none=>some (.error (M2 r2,2))
   |x=>x
  |none=>match ts with
   |t::r=>if t.1=2 then some (NN t r)else if t.1=1 then some (.ok (.nam t.2.1,r))else some (.error (t.2.2,2))
   | []=>some (.error (0,2))
theorem FX (f:Nat) (ts:List Tk):pP (f+1) .sum ts=match pP f .prod ts with
 |some (.ok (e,r))=>pP f (.more false e) r
 |x=>x:=rfl
theorem GZ (f:Nat) (ts:List Tk):pP (f+1) .prod ts=match pP f .un ts with
 |some (.ok (e,r))=>pP f (.more true e) r
 |x=>x:=rfl
theorem Cg (f:Nat) (two:Bool) (e:Ex) (ts:List Tk):pP (f+1) (.more two e) ts=match G3 two ts with
 |some (k,r)=>match pP f (NM two) r with
  |some (.ok (e2,r2))=>pP f (.more two (.bin k e e2)) r2
  |x=>x
 |none=>some (.ok (e,ts)):=rfl
theorem CW (f:Nat) (ts:List Tk):pP (f+1) .un ts=match el 45 ts with
 |some r=>match pP f .un r with
  |some (.ok (e,r2))=>some (.ok (.neg e,r2))
  |x=>x
 |none=>pP f .prim ts:=rfl
theorem wD (f:Nat) (ts:List Tk):pP (f+1) .prim ts=match el 40 ts with
 |some r=>match pP f .sum r with
  |some (.ok (e,r2))=>match el 41 r2 with
   |some r3=>some (.ok (e,r3))
   |none=>some (.error (M2 r2,2))
  |x=>x
 |none=>match ts with
  |t::r=>if t.1=2 then some (NN t r)else if t.1=1 then some (.ok (.nam t.2.1,r))else some (.error (t.2.2,2))
  | []=>some (.error (0,2)):=rfl
theorem kr:∀(f:Nat) (m:Md) (ts:List Tk) (x:Gf),pP f m ts=some x->pP (f+1) m ts=some x
 |0,_,_,_,h=>by cases h
 |f+1, .sum,ts,x,h=>by
  rw[FX]at h ⊢;cases h1:pP f .prod ts with
  |none=>rw[h1]at h;cases h
  |some y=>
   exact FA
 |f+1, .prod,ts,x,h=>by
  rw[GZ]at h ⊢;cases h1:pP f .un ts with
  |none=>rw[h1]at h;cases h
  |some y=>
   exact FA
 |f+1, .more two e,ts,x,h=>by
  rw[Cg]at h ⊢;cases h0:G3 two ts with
  |none=>rw[h0]at h;exact h
  |some p=>
   obtain⟨k,r⟩:=p;rw[h0]at h;dsimp only at h ⊢;cases h1:pP f (NM two) r with
   |none=>rw[h1]at h;cases h
   |some y=>
    exact FA
 |f+1, .un,ts,x,h=>by
  rw[CW]at h ⊢;cases h0:el 45 ts with
  |none=>rw[h0]at h;exact kr f _ _ _ h
  |some r=>
   rw[h0]at h;dsimp only at h ⊢;cases h1:pP f .un r with
   |none=>rw[h1]at h;cases h
   |some y=>
    rw[h1]at h;rw[kr f _ _ _ h1];exact h
 |f+1, .prim,ts,x,h=>by
  rw[wD]at h ⊢;cases h0:el 40 ts with
  |none=>rw[h0]at h;exact h
  |some r=>
   rw[h0]at h;dsimp only at h ⊢;cases h1:pP f .sum r with
   |none=>rw[h1]at h;cases h
   |some y=>
    rw[h1]at h;rw[kr f _ _ _ h1];exact h
theorem Nq {f f':Nat} (hf:f<=f') {m:Md} {ts:List Tk} {x:Gf} (h:pP f m ts=some x):pP f' m ts=some x:=by
 induction hf with
 |refl=>exact h
 |step _ ih=>exact kr _ _ _ _ ih
def TM (ts:List Tk) (a e:Int):List AV:=[.sl ts.length (iB ts), .val (.int .i64 a), .val (.int .i64 e)]
def Sc:List Tk->Prop
 | []=>False
 | [t]=>t.1=0
 |t::u::r=>(t.1≠0/\(t.1=4-> ∃c,t.2.1=[c])/\(t.1=2->t.2.1.length<=500))/\Sc (u::r)
theorem Sc.ne {ts:List Tk} (h:Sc ts):∃t r,ts=t::r:=by
 cases ts with
 |nil=>exact h.elim
 |cons t r=>exact⟨t,r,rfl⟩
end Go.Proofs.YtmkggcjajcdlcaaGreatDoor
