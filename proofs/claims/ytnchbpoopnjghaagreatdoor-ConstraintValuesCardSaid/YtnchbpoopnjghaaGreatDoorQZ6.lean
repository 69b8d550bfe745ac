/- Parts of a proof: contracts of the functions that the laws reach. -/
import Derived.Test.YtnchbpoopnjghaaGreatDoorQZ5
set_option maxHeartbeats 100000000
set_option linter.all false
open Go.Proofs.Tryz
namespace Go.Proofs.YtnchbpoopnjghaaGreatDoor
open Go.RowKit
theorem ml {q:Rat} {p:Int} (h:jH p=true):aa Tryz.prog 255 [dQ q,dN .i64 p] (.tup [mD q p,dN .i64 0]):=by
 simp only[jH,B_,decide_eq_true_eq]at h
 refine kU func255 ?_;refine gy ?_;refine kE ?_;exact Dj
theorem tW {q:Rat} {p:Int} (h:jH p=false):aa Tryz.prog 255 [dQ q,dN .i64 p] (.tup [yi,dN .i64 8]):=by
 simp only[jH,Bool.and_eq_false_iff,decide_eq_false_iff_not]at h
 by_cases h1:p< -4
 ·refine kU func255 ?_
  refine gy ?_;refine kB true ?_ ?_
  ·exact T_ h1
  exact aj
 ·refine kU func255 ?_
  refine gy ?_;refine kB false ?_ ?_
  ·exact F_ h1
  exact C5
theorem oh {q:Rat} {p:Int} (h:jH p=true):aa Tryz.prog 196 [dQ q,dN .i64 p] (.tup [mD q p,dN .i64 0]):=by
 simp only[jH,B_,decide_eq_true_eq]at h
 refine kU func196 ?_;refine gy ?_;refine kE ?_;exact Dj
theorem nR {q:Rat} {p:Int} (h:jH p=false):aa Tryz.prog 196 [dQ q,dN .i64 p] (.tup [yi,dN .i64 8]):=by
 simp only[jH,Bool.and_eq_false_iff,decide_eq_false_iff_not]at h
 by_cases h1:p< -4
 ·refine kU func196 ?_
  refine gy ?_;refine kB true ?_ ?_
  ·exact T_ h1
  exact aj
 ·refine kU func196 ?_
  refine gy ?_;refine kB false ?_ ?_
  ·exact F_ h1
  exact C5
abbrev QR:=Except Int (Rat × Int)
def bM:QR->RV
 | .ok x=> .tup [mD x.1 x.2,dN .i64 0]
 | .error e=> .tup [yi,dN .i64 e]
def jV (a:Rat) (p:Int) (b:Rat) (p':Int):QR:=if p=p' then .ok (a+b,p)else .error 8
def oS (a:Rat) (p:Int) (b:Rat) (p':Int):QR:=if jH (p+p')then .ok (a*b,p+p')else .error 8
def qu (a:Rat) (p:Int) (b:Rat) (p':Int):QR:=if b=0 then .error 6 else if jH (p-p')then .ok (a/b,p-p')else .error 8
theorem ye {j k:Nat} {a b:Rat} {p p':Int} (h:b8 j a) (h':b8 k b) (hk:j+k+1<=2147483648) (hp:jH p=true):aa Tryz.prog 186 [mD a p,mD b p'] (bM (jV a p b p')):=by
 unfold jV
 by_cases e:p=p'
 ·rw[if_pos e]
  refine kU func186 ?_;refine zp ?_;refine kB false ?_ ?_
  ·exact(by rw[e];simp)
  refine kW ?_;refine kQ (nV h h' hk rfl) ?_;refine kC (ml hp) ?_;exact aj
 ·rw[if_neg e]
  refine kU func186 ?_;refine zp ?_;refine kB true ?_ ?_
  ·exact(by simpa using e)
  exact aj
theorem sS {j k:Nat} {a b:Rat} {p p':Int} (h:b8 j a) (h':b8 k b) (hk:j+k+1<=2147483648):aa Tryz.prog 141 [mD a p,mD b p'] (bM (jV a p b p')):=by
 unfold jV
 by_cases e:p=p'
 ·rw[if_pos e]
  refine kU func141 ?_;refine zp ?_;refine kB false ?_ ?_
  ·exact(by rw[e];simp)
  refine kW ?_;refine kC (FW h h' hk rfl) ?_;exact aj
 ·rw[if_neg e]
  refine kU func141 ?_;refine zp ?_;refine kB true ?_ ?_
  ·exact(by simpa using e)
  exact aj
theorem q6 {p p':Int} (h:jH p=true) (h':jH p'=true): -8<=p+p'/\p+p'<=8/\ -8<=p-p'/\p-p'<=8:=by
 simp only[jH,B_,decide_eq_true_eq]at h h'
 omega
theorem Ja {j k:Nat} {a b:Rat} {p p':Int} (h:b8 j a) (h':b8 k b) (hk:j+k<=2147483648) (hp:jH p=true) (hp':jH p'=true):aa Tryz.prog 187 [mD a p,mD b p'] (bM (oS a p b p')):=by
 have hr:=q6 hp hp';unfold oS;cases e:jH (p+p')
 ·rw[if_neg S_]
  refine kV func187 ?_;refine kC (mT h h' hk rfl) ?_;refine Mb ?_;refine kC (tW e) ?_;exact aj
 ·rw[if_pos rfl]
  refine kV func187 ?_;refine kC (mT h h' hk rfl) ?_;refine Mb ?_;refine kC (ml e) ?_;exact aj
theorem tc {j k:Nat} {a b:Rat} {p p':Int} (h:b8 j a) (h':b8 k b) (hk:j+k<=2147483648) (hp:jH p=true) (hp':jH p'=true):aa Tryz.prog 139 [mD a p,mD b p'] (bM (oS a p b p')):=by
 have hr:=q6 hp hp';unfold oS;cases e:jH (p+p')
 ·rw[if_neg S_]
  refine kV func139 ?_;refine kC (lj h h' hk rfl) ?_;refine Mb ?_;refine kC (nR e) ?_;exact aj
 ·rw[if_pos rfl]
  refine kV func139 ?_;refine kC (lj h h' hk rfl) ?_;refine Mb ?_;refine kC (oh e) ?_;exact aj
theorem KU {j k:Nat} {a b:Rat} {p p':Int} (h:b8 j a) (h':b8 k b) (hk:j+k<=2147483648) (hp:jH p=true) (hp':jH p'=true):aa Tryz.prog 188 [mD a p,mD b p'] (bM (qu a p b p')):=by
 have hr:=q6 hp hp';have hw:IntKind.i64.wrap (p-p')=p-p':=IntWalk.i64_in _ O_;unfold qu
 by_cases hb:b=0
 ·rw[if_pos hb]
  refine kV func188 ?_;refine kC (Ft hb) ?_;exact aj
 ·rw[if_neg hb]
  cases e:jH (p-p')
  ·rw[if_neg S_]
   rw[<- hw]at e;refine kV func188 ?_;refine kQ (AB h h' hk hb rfl) ?_;refine kC (tW e) ?_;exact aj
  ·rw[if_pos rfl]
   rw[<- hw]at e;refine kV func188 ?_;refine kQ (AB h h' hk hb rfl) ?_;refine kC (ml e) ?_;refine eH ?_;rw[hw];rfl
theorem B8 {j k:Nat} {a b:Rat} {p p':Int} (h:b8 j a) (h':b8 k b) (hk:j+k<=2147483648) (hp:jH p=true) (hp':jH p'=true):aa Tryz.prog 142 [mD a p,mD b p'] (bM (qu a p b p')):=by
 have hr:=q6 hp hp';have hw:IntKind.i64.wrap (p-p')=p-p':=IntWalk.i64_in _ O_;unfold qu
 by_cases hb:b=0
 ·rw[if_pos hb]
  refine kV func142 ?_;refine kC (Ck hb) ?_;exact aj
 ·rw[if_neg hb]
  cases e:jH (p-p')
  ·rw[if_neg S_]
   rw[<- hw]at e;refine kV func142 ?_;refine kQ (vU h h' hk hb rfl) ?_;refine kC (nR e) ?_;exact aj
  ·rw[if_pos rfl]
   rw[<- hw]at e;refine kV func142 ?_;refine kQ (vU h h' hk hb rfl) ?_;refine kC (oh e) ?_;refine eH ?_;rw[hw];rfl
theorem lY {k:Nat} {a:Rat} {p:Int} (h:b8 k a) (hk:k<=2147483648):aa Tryz.prog 185 [mD a p] (.one (mD (-a) p)):=by
 refine kV func185 ?_;refine kC (Ad h hk rfl) ?_;exact aj
theorem l0 {a:Rat} {p:Int}:aa Tryz.prog 140 [mD a p] (.one (mD (-a) p)):=by
 refine kV func140 ?_;refine kC (FE (a:=a) rfl) ?_;exact aj
theorem zC {n d:Int} (hd:d≠0):Rat.divInt n d=0↔n=0:=by
 have h0:(0:Rat)=Rat.divInt 0 1:=by rfl
 rw[h0,Rat.divInt_eq_divInt_iff hd D_]
 simp
theorem lP {k:Nat} {a:Rat} {p:Int} (h:b8 k a) (hk:k<=2147483640) (hp:p=0∨p=1):aa Tryz.prog 96 [mD a p] (.tup [dQ a,dN .i64 0]):=by
 have e0:a+((0:Int):Rat)=a:=Rat.add_zero a;have s0:b8 1 ((0:Int):Rat):=⟨.small D_, .small D_⟩;rcases hp with rfl|rfl
 ·exact Pi
 ·exact Pi
theorem mJ {a:Rat} {p:Int} (hp:¬(p=0∨p=1)):aa Tryz.prog 96 [mD a p] (.tup [GP,dN .i64 8]):=by
 have h0:p≠0:=fun e=>hp (.inl e)
 have h1:p≠1:=fun e=>hp (.inr e)
 refine kU func96 ?_;refine pr ?_;refine kB true ?_ ?_
 ·exact(by simpa using h0)
 refine kO3 ?_
 refine kB true ?_ ?_
 ·exact(by simpa using h1)
 exact aj
theorem wL {s:List UInt8} {q:Rat} (h:Sk s=some q):b8 1 q/\q≠0:=by
 have key:∀(l:List (List UInt8 × Rat)),(∀x∈l,b8 1 x.2/\x.2≠0)-> ∀q,H7 s l=some q->b8 1 q/\q≠0:=by
  intro l
  induction l with
  |nil=>intro _ q h;cases h
  |cons x l ih=>
   intro hl q h;obtain⟨n,r⟩:=x
   simp only[H7]at h
   split at h
   ·cases h;exact hl (n,q) S_
   ·exact ih (fun x hx=>hl x (by simp[hx])) q h
 refine key NC (fun x hx=>?_) q h;have i1:∀n:Int,n.natAbs<4294967296->n≠0->b8 1 (n:Rat)/\(n:Rat)≠0:=fun n h0 h1=>⟨⟨.small h0, .small (z:=1) D_⟩,fun e=>h1 (by exact_mod_cast e)⟩
 have i2:∀n d:Int,n.natAbs<4294967296->d.natAbs<4294967296->n≠0->d≠0->b8 1 (Rat.divInt n d)/\Rat.divInt n d≠0:=fun n d h0 h1 h2 h3=>⟨.divInt (.small h0) (.small h1) h3,fun e=>h2 ((zC h3).1 e)⟩
 simp only[NC,f_,List.not_mem_nil,or_false]at hx
 rcases hx with rfl|rfl|rfl|rfl|rfl
 ·exact i1 10 D_ D_
 ·exact i2 1524 5 D_ D_ D_ D_
 ·exact i2 127 5 D_ D_ D_ D_
 ·exact i1 1000 D_ D_
 ·exact i1 1 D_ D_
section
open Go.ChangeShapes Go.WideShapes Go.ChangeAt Go.RowKit Go.Joins
def Sh (P:Program):Nat->TypeId->List AV->Prop
 |0,_,_=>False
 |n+1,t,cs=>match P.underlying t with
  |some .bool=>∃b,cs=[.val (.bool b)]
  |some (.int k)=>∃i,cs=[.val (.int k i)]/\(Lit.int k i).wf=true
  |some .string=>∃s:ByteArray,cs=[.val (.string s)]/\s.size<=maxLen
  |some (.slice e)=>∃rows:List (List AV),cs=[.sl rows.length rows.flatten]/\rows.length<=maxLen/\ ∀r∈rows,Sh P n e r/\r.length=P.cellsOf e
  |some (.struct fs)=>cs.length=P.cellsOf t/\ ∀f∈fs.toList,Sh P n f.type ((cs.drop f.offset).take (P.cellsOf f.type))
  |_=>False
def mV (P:Program):Nat->Nat->List Field->Bool
 |off,sz,[]=>Nat.beq off sz
 |off,sz,f::r=>Nat.beq f.offset off && mV P (off+P.cellsOf f.type) sz r
def tZ (P:Program) (L:List TypeId):Bool:=L.all fun t=>match P.underlying t with
 |some .bool=>true
 |some (.int _)=>true
 |some .string=>true
 |some (.slice e)=>L.elem e
 |some (.struct fs)=>(fs.toList.all fun f=>L.elem f.type) && mV P 0 (P.cellsOf t) fs.toList
 |_=>false
theorem x6 {w:World} {a:Addr} {k:Nat} {l:List Value} (h:w.cells? 0 a k=some l):l.length=k/\ ∀(i:Nat) (v:Value),l[i]? =some v->w.cell? (a.add i)=some v:=by
 unfold World.cells? at h;rw[if_pos (Nat.zero_le _)]at h
 have:∀(xs:List Nat) (l:List Value),xs.mapM (fun i=>w.cell? (a.add i))=some l->l.length=xs.length/\ ∀(i:Nat) (v:Value),l[i]? =some v-> ∃x,xs[i]? =some x/\w.cell? (a.add x)=some v:=by
  intro xs
  induction xs with
  |nil=>intro l h;simp at h;subst h;exact⟨rfl,fun i v h=>by simp at h⟩
  |cons x xs ih=>
   intro l h
   simp only[List.mapM_cons,Option.bind_eq_bind]at h
   cases h1:w.cell? (a.add x)with
   |none=>rw[h1]at h;simp at h
   |some v=>
    cases h2:xs.mapM (fun i=>w.cell? (a.add i))with
    |none=>rw[h1,h2]at h;simp at h
    |some l'=>
     rw[h1,h2]at h
     simp at h
     subst h;obtain⟨h3,h4⟩:=ih l' h2;refine⟨by simp[h3],fun i u hu=>?_⟩;cases i with
     |zero=>simp at hu;subst hu;exact⟨x,rfl,h1⟩
     |succ i=>simpa using h4 i u (by simpa using hu)
 obtain⟨h1,h2⟩:=this _ _ h;refine⟨by simpa using h1,fun i v hv=>?_⟩;obtain⟨x,hx,hc⟩:=h2 i v hv
 have:x=i:=by
  have:=(G_.1 hx).2
  simpa using this.symm
 rw[<- this];exact hc
theorem yQ {α β:Type} {f:α->Option β}:∀{xs:List α} {ys:List β},xs.mapM f=some ys->xs.length=ys.length/\ ∀(i:Nat) (x:α),xs[i]? =some x-> ∃y,ys[i]? =some y/\f x=some y
 | [],ys,h=>by simp at h;subst h;exact⟨rfl,fun i x h=>by simp at h⟩
 |x::xs,ys,h=>by
  simp only[List.mapM_cons,Option.bind_eq_bind]at h
  cases h1:f x with
  |none=>rw[h1]at h;simp at h
  |some y=>
   cases h2:xs.mapM f with
   |none=>rw[h1,h2]at h;simp at h
   |some l=>
    rw[h1,h2]at h
    simp at h
    subst h;obtain⟨h3,h4⟩:=yQ h2;refine⟨by simp[h3],fun i z hz=>?_⟩;cases i with
    |zero=>simp at hz;subst hz;exact⟨y,rfl,h1⟩
    |succ i=>simpa using h4 i z (by simpa using hz)
theorem Ab {rows:List (List AV)} {k:Nat} (h:∀r∈rows,r.length=k):∀(i:Nat) (r:List AV),rows[i]? =some r-> ∀j,j<k->rows.flatten[i*k+j]? =r[j]?:=by
 induction rows with
 |nil=>intro i r hr;simp at hr
 |cons x rows ih=>
  intro i r hr j hj;have hx:=h x S_
  simp only[List.flatten_cons]
  cases i with
  |zero=>simp at hr;subst hr;rw[Nat.zero_mul,J_,List.getElem?_append_left O_]
  |succ i=>
   rw[g_ (by rw[Nat.add_mul];omega)];have:=ih (fun r hr=>h r (by simp[hr])) i r (by simpa using hr) j hj;rw[<- this]
   congr 1
   rw[Nat.add_mul];omega
theorem kq {rows:List (List AV)} {k:Nat} (h:∀r∈rows,r.length=k):rows.flatten.length=rows.length*k:=by
 induction rows with
 |nil=>simp
 |cons x rows ih=>rw[List.flatten_cons,L_,ih (fun r hr=>h r (by simp[hr])),h x S_,List.length_cons,Nat.add_mul];omega
theorem Eu {P:Program} {sz:Nat}:∀{fs:List Field} {off:Nat},mV P off sz fs=true->off<=sz
 | [],off,h=>by have:=Nat.eq_of_beq_eq_true h;omega
 |f::r,off,h=>by
  simp only[mV,B_]at h
  have:=Eu h.2;omega
theorem Em {P:Program} {w:World} {vs:List Value} {Q:TypeId->List AV->Prop}:∀(fs:List Field) (off:Nat),mV P off vs.length fs=true ->
 (∀f∈fs,∃cf,CM (fun _=>False) w cf ((vs.drop f.offset).take (P.cellsOf f.type))/\Q f.type cf) ->
 ∃cs,CM (fun _=>False) w cs (vs.drop off)/\ ∀f∈fs,off<=f.offset/\Q f.type ((cs.drop (f.offset-off)).take (P.cellsOf f.type))
 | [],off,h,_=>by
  have:=Nat.eq_of_beq_eq_true h;subst this;rw[List.drop_length];exact⟨[],CM.nil _ _,fun f hf=>by cases hf⟩
 |f::r,off,h,hf=>by
  simp only[mV,B_]at h
  have ho:=Nat.eq_of_beq_eq_true h.1;obtain⟨cf,h1,h2⟩:=hf f S_;obtain⟨cs,h3,h4⟩:=Em r _ h.2 (fun g hg=>hf g (by simp[hg]));have hle:=Eu h.2;rw[ho]at h1;have hl:cf.length=P.cellsOf f.type:=by rw[h1.1];simp;omega
  refine⟨cf++cs,?_,fun g hg=>?_⟩
  ·have:=h1.append h3
   rwa[<- List.drop_drop,List.take_append_drop]at this
  ·rcases f_.1 hg with rfl|hg
   ·refine⟨by omega,?_⟩
    rw[ho,Nat.sub_self,List.drop_zero,List.take_left' hl];exact h2
   ·obtain⟨h5,h6⟩:=h4 g hg
    refine⟨by omega,?_⟩;rw[show g.offset-off=cf.length+(g.offset-(off+P.cellsOf f.type)) by omega,<- List.drop_drop,List.drop_left' rfl];exact h6
theorem U2 {P:Program} {W:World} {e:TypeId} {a:Addr} {len cap:Nat} {rows:List (List AV)} (hcap:cap<=9223372036854775807) (hlc:len<=cap) (hl:rows.length=len) (hsz:∀r∈rows,r.length=P.cellsOf e)
 (hr:∀i r,rows[i]? =some r-> ∃us:List Value,W.cells? 0 (a.add (i*P.cellsOf e)) (P.cellsOf e)=some us/\CM (fun _=>False) W r us):AV.M (fun _=>False) W (.sl len rows.flatten) (.slice (some a) len cap):=by
 by_cases h0:len*P.cellsOf e=0
 ·have:rows.flatten=[]:=E_ (by rw[kq hsz,hl];exact h0)
  rw[this];exact .emp hlc hcap (fun h=>by cases h)
 ·have hlen:0<len:=by
   rcases Nat.eq_zero_or_pos len with h|h
   ·rw[h,Nat.zero_mul]at h0;exact absurd rfl h0
   ·exact h
  have hcz:0<P.cellsOf e:=by
   rcases Nat.eq_zero_or_pos (P.cellsOf e)with h|h
   ·rw[h,Nat.mul_zero]at h0;exact absurd rfl h0
   ·exact h
  have hcell:∀q c,rows.flatten[q]? =some c-> ∃v,W.cell? (a.add q)=some v/\AV.M (fun _=>False) W c v:=by
   intro q c hq;have hql:q<len*P.cellsOf e:=by have:=(G_.1 hq).1;rwa[kq hsz,hl]at this
   have hi:q/P.cellsOf e<len:=Nat.div_lt_of_lt_mul (by rw[Nat.mul_comm];exact hql)
   have hj:q%P.cellsOf e<P.cellsOf e:=Nat.mod_lt _ hcz
   have e1:q=q/P.cellsOf e*P.cellsOf e+q%P.cellsOf e:=by have:=Nat.div_add_mod q (P.cellsOf e);rw[Nat.mul_comm]at this;omega
   have hrow':rows[q/P.cellsOf e]? =some (rows[q/P.cellsOf e]'(by omega)):=S_
   have h1:=Ab hsz _ _ hrow' (q%P.cellsOf e) hj;rw[<- e1,hq]at h1;obtain⟨us,h3,h4⟩:=hr _ _ hrow';have h5:=(x6 h3);have h6:us[q%P.cellsOf e]? =some (us[q%P.cellsOf e]'(by omega)):=S_
   refine⟨_,?_,h4.2 _ c _ h1.symm h6⟩;have h7:=h5.2 _ _ h6
   have e2:(a.add (q/P.cellsOf e*P.cellsOf e)).add (q%P.cellsOf e)=a.add q:=by
    unfold Addr.add
    by_cases c1:q/P.cellsOf e*P.cellsOf e=0
    ·by_cases c2:q%P.cellsOf e=0
     ·rw[if_pos c1,if_pos c2,if_pos O_]
     ·rw[if_pos c1,if_neg c2,if_neg O_]
      simp <;>omega
    ·by_cases c2:q%P.cellsOf e=0
     ·rw[if_neg c1,if_pos c2,if_neg O_]
      simp <;>omega
     ·rw[if_neg c1,if_neg c2,if_neg O_]
      simp <;>omega
   rwa[e2]at h7
  have hfl:0<rows.flatten.length:=by rw[kq hsz,hl];exact Nat.mul_pos hlen hcz
  obtain⟨v0,h1,_⟩:=hcell 0 rows.flatten[0] S_;have e0:a.add 0=a:=rfl;rw[e0]at h1;obtain⟨b,off,spot⟩:=a
  have hsp:spot=none:=by
   cases spot with
   |none=>rfl
   |some q=>
    unfold World.cell? at h1
    split at h1
    ·simp at h1
    ·cases h1
  subst hsp;refine AV.M.sl (fun q=>(W.cell? ⟨b,off+q,none⟩).getD undef) hlc hcap (fun h=>h) (World.block_lt_of_cell? W _ h1) (fun q c hq=>?_) (fun q c hq=>?_)
  ·obtain⟨v,h3,_⟩:=hcell q c hq
   rw[b7]at h3;rw[h3];rfl
  ·obtain⟨v,h3,h4⟩:=hcell q c hq
   rw[b7]at h3;rw[h3];exact h4
section
variable {H:Type} {enc:TypeId × Value->H} {W:World} {P:Program}
theorem F0 {L:List TypeId} (hL:tZ P L=true):∀(n:Nat) (t:TypeId) (vs:List Value) (x:DataW H × List MemPlace),t∈L->DataW.trod enc P W 0 (fun _=>true) true n t vs=some x ->
 ∃cs,CM (fun _=>False) W cs vs/\Sh P n t cs:=by
 intro n
 induction n with
 |zero=>intro t vs x _ h;simp[DataW.trod]at h
 |succ n ih=>
  intro t vs x ht h;have hp:=I_.1 hL t ht
  simp only[Sh]
  cases hu:P.underlying t with
  |none=>rw[hu]at hp;simp at hp
  |some d=>
   rw[hu]at hp;cases d with
   |bool=>
    obtain⟨b,rfl,_⟩:=DataW.trod_bool hu h;exact⟨_,CM.cons (.val rfl) (CM.nil _ _),b,rfl⟩
   |int k=>
    obtain⟨i,rfl,_,h1⟩:=DataW.trod_int hu h;exact⟨_,CM.cons (.val rfl) (CM.nil _ _),i,rfl,h1⟩
   |string=>
    obtain⟨s,rfl,_,h1⟩:=DataW.trod_string hu h;exact⟨_,CM.cons (.val rfl) (CM.nil _ _),s,rfl,h1⟩
   |slice e=>
    have he:e∈L:=by simpa using hp
    rcases DataW.trod_slice hu h with⟨rfl,_⟩| ⟨a,len,cap,elems,rest,m,hm,rfl,_,_,hlc,hcm,hel,hget,_,_⟩
    ·exact⟨_,CM.cons (.emp (l_ _) O_ (fun _=>rfl)) (CM.nil _ _),[],rfl,by simp,fun r hr=>by cases hr⟩
    ·obtain rfl:m=n:=O_
     have hrow:∀i,i<len-> ∃(r:List AV) (us:List Value),W.cells? 0 (a.add (i*P.cellsOf e)) (P.cellsOf e)=some us/\CM (fun _=>False) W r us/\Sh P m e r:=by
      intro i hi;have h1:=hget i hi;have h2:elems[i]? =some elems[i]:=S_
      rw[h2]at h1;obtain⟨us,h3,h4⟩:=Option.bind_eq_some_iff.1 h1;obtain⟨r,h5,h6⟩:=ih e us _ he h4;exact⟨r,us,h3,h5,h6⟩
     have hrows:∀k,k<=len-> ∃rows:List (List AV),rows.length=k/\ ∀i r,rows[i]? =some r-> ∃us:List Value,W.cells? 0 (a.add (i*P.cellsOf e)) (P.cellsOf e)=some us/\CM (fun _=>False) W r us/\Sh P m e r:=by
      exact Tr
     obtain⟨rows,hl,hr⟩:=hrows len (l_ _)
     have hsz:∀r∈rows,r.length=P.cellsOf e:=by
      exact PK
     have hsh:∀r∈rows,Sh P m e r:=by
      intro r hm;obtain⟨i,hi⟩:=W_ hm;obtain⟨us,_,_,h5⟩:=hr i r hi;exact h5
     refine⟨[.sl len rows.flatten],CM.cons ?_ (CM.nil _ _),rows,by rw[hl],by omega,fun r hm=>⟨hsh r hm,hsz r hm⟩⟩;exact Pl
   |struct fs=>
    simp only[B_]at hp
    obtain⟨xs,m,hm,_,hlen,hxl,hget⟩:=DataW.trod_struct hu h;obtain rfl:m=n:=O_
    have htile:=hp.2;rw[<- hlen]at htile
    obtain⟨cs,h1,h2⟩:=Em (P:=P) (w:=W) (vs:=vs) (Q:=Sh P m) fs.toList 0 htile (fun f hf=>by
     obtain⟨i,hi⟩:=W_ hf;have hi':fs[i]? =some f:=by simpa using hi
     have h3:=hget i f hi';have hil:i<xs.length:=by rw[hxl];exact(A_.1 hi').1
     have h4:xs[i]? =some xs[i]:=by simp[hil]
     rw[h4]at h3;have hfL:f.type∈L:=by have:=I_.1 hp.1 f hf;simpa using this
     exact ih f.type _ _ hfL h3)
    rw[List.drop_zero]at h1;refine⟨cs,h1,by rw[h1.1,hlen],fun f hf=>?_⟩;have:=(h2 f hf).2
    rwa[Nat.sub_zero]at this
   |_=>simp at hp
theorem Ep {L:List TypeId} (hL:tZ P L=true) {t:TypeId} (ht:t∈L) {v:Value} {d:DataW H} {p:List MemPlace} (h:DataW.Trod enc P W 0 (fun _=>true) true t v d p):
 ∃n cs,CM (fun _=>False) W cs v.cells.toList/\Sh P n t cs:=by
 obtain⟨n,hn⟩:=h;obtain⟨cs,h1,h2⟩:=F0 hL n t _ _ ht hn;exact⟨n,cs,h1,h2⟩
theorem R6 {cs:List AV} {vs:Array Value} (h:CM (fun _=>False) W cs vs.toList):DV.M (fun _=>False) W (.agg cs) (.agg vs):=⟨vs.toList,by simp,h⟩
end
end
section
open Go.RowKit Go.Joins
theorem H4 {n:Nat} {cs:List AV} (h:Sh Tryz.prog n 34 cs):∃xs:List Nat,cs=[aW xs]/\Wd xs:=by
 cases n with
 |zero=>exact h.elim
 |succ n=>
  simp only[Sh,underlying34]at h
  obtain⟨rows,rfl,_,hr⟩:=h
  have key:∀rows:List (List AV),(∀r∈rows,Sh Tryz.prog n 135 r/\r.length=Tryz.prog.cellsOf 135)-> ∃xs:List Nat,rows.length=xs.length/\rows.flatten=(xs.map fun x:Nat=>AV.val (bZ x))/\Wd xs:=by
   intro rows
   induction rows with
   |nil=>intro _;exact⟨[],rfl,rfl,fun x hx=>by cases hx⟩
   |cons r rows ih=>
    intro hr;obtain⟨xs,h1,h2,h3⟩:=ih (fun r hm=>hr r (by simp[hm]));have h4:=(hr r S_).1;cases n with
    |zero=>exact h4.elim
    |succ n=>
     simp only[Sh,underlying135]at h4
     obtain⟨i,rfl,hw⟩:=h4;have hb:=bounds_u32 hw;refine⟨i.toNat::xs,by simp[h1],?_,fun x hx=>?_⟩
     ·rw[List.flatten_cons,h2,List.map_cons]
      have:AV.val (.int .u32 i)=AV.val (bZ i.toNat):=by unfold bZ;congr 2;omega
      rw[this];rfl
     ·rcases f_.1 hx with rfl|hx
      ·omega
      ·exact h3 x hx
  obtain⟨xs,h1,h2,h3⟩:=key rows hr;exact⟨xs,by unfold aW;rw[h1,h2],h3⟩
set_option maxRecDepth 100000 in
theorem Jf {n:Nat} {cs:List AV} (h:Sh Tryz.prog n 36 cs):∃na xs,cs=aI na xs/\Wd xs:=by
 cases n with
 |zero=>exact h.elim
 |succ n=>
  simp only[Sh,underlying36,List.forall_mem_cons,List.not_mem_nil,false_imp_iff,implies_true,and_true]at h
  obtain⟨hl,h0,h1⟩:=h;rw[show Tryz.prog.cellsOf 36=2 by kernel_rfl]at hl;rw[show Tryz.prog.cellsOf 4=1 by kernel_rfl]at h0;rw[show Tryz.prog.cellsOf 34=1 by kernel_rfl]at h1
  match cs,hl with
  | [c0,c1],_=>
   obtain⟨xs,e1,hw⟩:=H4 h1;cases n with
   |zero=>exact h0.elim
   |succ n=>
    simp only[Sh,underlying4]at h0
    obtain⟨b,e0⟩:=h0
    simp at e0 e1
    subst e0 e1;exact⟨b,xs,rfl,hw⟩
set_option maxRecDepth 100000 in
theorem Q5 {n:Nat} {cs:List AV} (h:Sh Tryz.prog n 38 cs):∃na xs nb ys,cs=ED na xs nb ys/\Wd xs/\Wd ys:=by
 cases n with
 |zero=>exact h.elim
 |succ n=>
  simp only[Sh,underlying38,List.forall_mem_cons,List.not_mem_nil,false_imp_iff,implies_true,and_true]at h
  obtain⟨hl,h0,h1⟩:=h;rw[show Tryz.prog.cellsOf 38=4 by kernel_rfl]at hl;rw[show Tryz.prog.cellsOf 36=2 by kernel_rfl]at h0 h1
  match cs,hl with
  | [c0,c1,c2,c3],_=>
   obtain⟨na,xs,e0,w0⟩:=Jf h0;obtain⟨nb,ys,e1,w1⟩:=Jf h1;refine⟨na,xs,nb,ys,?_,w0,w1⟩;show [c0,c1,c2,c3]=aI na xs++aI nb ys;rw[<- e0,<- e1];rfl
theorem ve {n:Nat} {cs:List AV} (h:Sh Tryz.prog n 9 cs):∃l:List UInt8,cs=[.val (vL l)]/\l.length<=9223372036854775807:=by
 cases n with
 |zero=>exact h.elim
 |succ n=>
  simp only[Sh,underlying9]at h
  obtain⟨s,rfl,hs⟩:=h;obtain⟨l,rfl⟩:∃l,Bs l=s:=⟨_,O6 s⟩;refine⟨l,rfl,?_⟩;rw[aJ]at hs;unfold maxLen at hs;exact hs
theorem xc {n:Nat} {cs:List AV} (h:Sh Tryz.prog n 3 cs):∃i:Int,cs=[.val (.int .i64 i)]/\ -9223372036854775808<=i/\i<=9223372036854775807:=by
 cases n with
 |zero=>exact h.elim
 |succ n=>
  simp only[Sh,underlying3]at h
  obtain⟨i,rfl,hw⟩:=h;exact⟨i,rfl,bounds_i64 hw⟩
end
inductive Rx where
 |mk (op:Int) (na:Bool) (xs:List Nat) (nb:Bool) (ys:List Nat) (nm:List UInt8) (args:List Rx)
mutual
def aR:Rx->List AV
 | .mk op na xs nb ys nm args=>[.val (.int .i64 op)]++ED na xs nb ys++[.val (vL nm), .sl args.length (fG args)]
def fG:List Rx->List AV
 | []=>[]
 |x::r=>aR x++fG r
end
def dR (x:Rx):DV:= .agg (aR x)
theorem AP (x:Rx):(aR x).length=7:=by
 obtain⟨op,na,xs,nb,ys,nm,args⟩:=x;rfl
theorem eX:∀(l:List Rx) (i:Nat) (x:Rx),l[i]? =some x-> ∀(j:Nat) (a:AV),(aR x)[j]? =some a->(fG l)[i*7+j]? =some a
 | [],i,x,h,_,_,_=>by simp at h
 |y::l,0,x,h,j,a,ha=>by
  simp at h
  subst h
  simp only[fG,Nat.zero_mul,J_]
  exact D3
 |y::l,i+1,x,h,j,a,ha=>by
  simp only[fG]
  rw[g_ (by rw[AP,Nat.add_mul];omega),AP,show(i+1)*7+j-7=i*7+j by rw[Nat.add_mul];omega];exact eX l i x (by simpa using h) j a ha
inductive j3:Rx->Prop
 |mk {op:Int} {na:Bool} {xs:List Nat} {nb:Bool} {ys:List Nat} {nm:List UInt8} {args:List Rx}: -9223372036854775808<=op->op<=9223372036854775807->Wd xs->Wd ys->nm.length<=9223372036854775807->args.length<=9223372036854775807->(∀x∈args,j3 x)->j3 (.mk op na xs nb ys nm args)
set_option maxRecDepth 100000 in
theorem Er:∀(n:Nat) (cs:List AV),Sh Tryz.prog n 40 cs-> ∃x,cs=aR x/\j3 x:=by
 intro n
 induction n using Nat.strongRecOn with
 |_ n ih=>
  intro cs h;cases n with
  |zero=>exact h.elim
  |succ n=>
   simp only[Sh,underlying40,List.forall_mem_cons,List.not_mem_nil,false_imp_iff,implies_true,and_true]at h
   obtain⟨hl,h0,h1,h2,h3⟩:=h;rw[show Tryz.prog.cellsOf 40=7 by kernel_rfl]at hl;rw[show Tryz.prog.cellsOf 3=1 by kernel_rfl]at h0;rw[show Tryz.prog.cellsOf 38=4 by kernel_rfl]at h1;rw[show Tryz.prog.cellsOf 9=1 by kernel_rfl]at h2;rw[show Tryz.prog.cellsOf 28=1 by kernel_rfl]at h3
   match cs,hl with
   | [c0,c1,c2,c3,c4,c5,c6],_=>
    obtain⟨op,e0,b0,b1⟩:=xc h0;obtain⟨na,xs,nb,ys,e1,w0,w1⟩:=Q5 h1;obtain⟨nm,e2,hn⟩:=ve h2;have e0:[c0]=[.val (.int .i64 op)]:=e0;have e1:[c1,c2,c3,c4]=ED na xs nb ys:=e1;have e2:[c5]=[.val (vL nm)]:=e2;have h3:Sh Tryz.prog n 28 [c6]:=h3;cases n with
    |zero=>exact h3.elim
    |succ n=>
     simp only[Sh,underlying28]at h3
     obtain⟨rows,e3,hm,hr⟩:=h3
     have key:∀rows:List (List AV),(∀r∈rows,Sh Tryz.prog n 40 r/\r.length=Tryz.prog.cellsOf 40)-> ∃l:List Rx,rows.length=l.length/\rows.flatten=fG l/\ ∀x∈l,j3 x:=by
      intro rows
      induction rows with
      |nil=>intro _;exact⟨[],rfl,rfl,fun x hx=>by cases hx⟩
      |cons r rows ihr=>
       intro hr;obtain⟨l,k1,k2,k3⟩:=ihr (fun r hm=>hr r (by simp[hm]));obtain⟨x,k4,k5⟩:=ih n O_ r (hr r S_).1;refine⟨x::l,by simp[k1],by rw[List.flatten_cons,k2,k4];rfl,fun y hy=>?_⟩;rcases f_.1 hy with rfl|hy
       ·exact k5
       ·exact k3 y hy
     obtain⟨l,k1,k2,k3⟩:=key rows hr;refine⟨.mk op na xs nb ys nm l,?_, .mk b0 b1 w0 w1 hn (by unfold maxLen at hm;omega) k3⟩;show [c0,c1,c2,c3,c4,c5,c6]=[.val (.int .i64 op)]++ED na xs nb ys++[.val (vL nm), .sl l.length (fG l)]
     simp at e0 e2 e3
     rw[<- e1,e0,e2,e3,k1,k2];rfl
theorem below_grow (w:World) (k:Nat) (os:Array Obj):Below w.heap.size w (Go.Sort.grow (w.drewN k) os):=by
 refine⟨rfl,rfl,rfl,?_,fun b hb=>?_⟩
 ·show w.heap.size<=(w.heap++os).size
  simp
 ·show(w.heap++os)[b]? =w.heap[b]?
  rw[Array.getElem?_append_left hb]
theorem Ku (p:Int):Lib.itoa p=fmt p:=by
 have hdd:∀n:Nat,n≠0->Lib.decDigits n=mE n:=by
  intro n
  induction n using Nat.strongRecOn with
  |_ n ih=>
   intro h0;rw[fA,eG h0]
   by_cases h:n<10
   ·rw[jS h,Nat.div_eq_of_lt h,ez,Nat.mod_eq_of_lt h];rfl
   ·rw[BZ O_,<- fA,ih (n/10) O_ O_]
 unfold Lib.itoa fmt
 by_cases h:p<0
 ·rw[if_pos h,if_neg O_,if_pos h,hdd _ O_]
  rfl
 ·rw[if_neg h]
  by_cases h0:p=0
  ·subst h0
   rw[if_pos rfl,show(0:Int).toNat=0 from rfl,fA,jS D_];rfl
  ·rw[if_neg h0,if_neg h,show p.toNat=p.natAbs by omega,hdd _ O_]
   rfl
theorem Cz {p:Int} (h0: -9223372036854775808<=p) (h1:p<=9223372036854775807):aa Tryz.prog 101 [dN .i64 p] (.one (dL (fmt p))):=by
 refine⟨aG func101 rfl rfl,fun S w vs hS hv=>?_⟩
 match vs,hv with
 | [v],⟨h,_⟩=>
  obtain rfl:=bc h;refine(Tryz.internal_strconv_Itoa p h0 h1 w hS.1.here).mono ?_;rintro e w' ⟨rfl,k,os,rfl⟩;refine⟨_,rfl,?_,below_grow _ _ _⟩;rw[Ku];exact AV.M.val rfl
theorem DW {p:Int} (h0: -9223372036854775808<=p) (h1:p<=9223372036854775807):aa Tryz.prog 60 [dN .i64 p] (.one (dL (fmt p))):=by
 refine kV func60 ?_;refine kC (Cz h0 h1) ?_;exact aj
inductive B4 where
 |add
 |sub
 |mul
 |div
def B4.code:B4->Int
 | .add=>4
 | .sub=>5
 | .mul=>6
 | .div=>7
inductive Ex where
 |num (v:Rat) (u:List UInt8)
 |nam (s:List UInt8)
 |neg (a:Ex)
 |bin (k:B4) (a b:Ex)
def rx:Ex->Rx
 | .num v u=> .mk 1 (decide (v.num<0)) (digs v.num.natAbs) (decide ((v.den:Int)<0)) (digs (v.den:Int).natAbs) u []
 | .nam s=> .mk 2 false [] false [] s []
 | .neg a=> .mk 3 false [] false [] [] [rx a]
 | .bin k a b=> .mk k.code false [] false [] [] [rx a,rx b]
def aE (e:Ex):List AV:=aR (rx e)
def dE (e:Ex):DV:= .agg (aE e)
theorem oI (a:Ex):aE (.neg a)=[.val (.int .i64 3)]++jq++[.val (vL []), .sl 1 (aE a)]:=by
 show [.val (.int .i64 3)]++ED false [] false []++[.val (vL []), .sl 1 (aR (rx a)++[])]=_;rw[c_];rfl
theorem j0 (k:B4) (a b:Ex):aE (.bin k a b)=[.val (.int .i64 k.code)]++jq++[.val (vL []), .sl 2 (aE a++aE b)]:=by
 show [.val (.int .i64 k.code)]++ED false [] false []++[.val (vL []), .sl 2 (aR (rx a)++(aR (rx b)++[]))]=_;rw[c_];rfl
abbrev EL:=List (List UInt8 × (Rat × Int))
def jW:EL->List AV
 | []=>[]
 |x::r=>j5 x.2.1 x.2.2++jW r
def eU (l:EL):DV:= .leaf (.sl l.length (l.map fun x=>AV.val (vL x.1)))
def fF (l:EL):DV:= .leaf (.sl l.length (jW l))
def aB (l:EL) (s:List UInt8):Option (Rat × Int):=match l with
 | []=>none
 |x::r=>if x.1=s then some x.2 else aB r s
theorem Ll {l:EL} {i:Nat} {x:List UInt8 × (Rat × Int)} (h:l[i]? =some x):∀(j:Nat) (a:AV),[AV.val (vL x.1)][j]? =some a->(l.map fun x=>AV.val (vL x.1))[i*1+j]? =some a:=by
 exact Pg
theorem Dv:∀{l:EL} {i:Nat} {x:List UInt8 × (Rat × Int)},l[i]? =some x-> ∀(j:Nat) (a:AV),(j5 x.2.1 x.2.2)[j]? =some a->(jW l)[i*5+j]? =some a
 | [],i,x,h,_,_,_=>by simp at h
 |y::l,0,x,h,j,a,ha=>by
  simp at h
  subst h
  simp only[jW,Nat.zero_mul,J_]
  exact D3
 |y::l,i+1,x,h,j,a,ha=>by
  simp only[jW]
  have h5:(j5 y.2.1 y.2.2).length=5:=rfl;rw[g_ (by rw[h5,Nat.add_mul];omega),h5,show(i+1)*5+j-5=i*5+j by rw[Nat.add_mul];omega];exact Dv (l:=l) (by simpa using h) j a ha
def eW (l:EL):Prop:=∀(i j:Nat) (a b:List UInt8 × (Rat × Int)),i<j->l[i]? =some a->l[j]? =some b->Op.bytesLess a.1 b.1=true
theorem jE:∀a:List UInt8,Op.bytesLess a a=false
 | []=>rfl
 |x::a=>by simp[Op.bytesLess,jE a]
theorem fk:∀{a b c:List UInt8},Op.bytesLess a b=true->Op.bytesLess b c=true->Op.bytesLess a c=true
 |_,_,[],_,h=>by simp[Op.bytesLess]at h
 | [],_,_::_,_,_=>rfl
 |_::_,[],_::_,h,_=>by simp[Op.bytesLess]at h
 |x::a,y::b,z::c,h,k=>by
  simp only[Op.bytesLess,Bool.or_eq_true,B_,decide_eq_true_eq,beq_iff_eq]at h k ⊢
  rcases h with h| ⟨rfl,h⟩
  ·rcases k with k| ⟨rfl,k⟩
   ·exact .inl (UInt8.lt_trans h k)
   ·exact .inl h
  ·rcases k with k| ⟨rfl,k⟩
   ·exact .inl k
   ·exact .inr ⟨rfl,fk h k⟩
theorem oD:∀{a b:List UInt8},Op.bytesLess a b=false->Op.bytesLess b a=false->a=b
 | [],[],_,_=>rfl
 | [],_::_,h,_=>by simp[Op.bytesLess]at h
 |_::_,[],_,h=>by simp[Op.bytesLess]at h
 |x::a,y::b,h,k=>by
  simp only[Op.bytesLess,Bool.or_eq_false_iff,Bool.and_eq_false_iff,decide_eq_false_iff_not,beq_eq_false_iff_ne]at h k
  have h1:x=y:=by
   rcases Nat.lt_trichotomy x.toNat y.toNat with h2|h2|h2
   ·exact absurd (UInt8.lt_iff_toNat_lt.2 h2) h.1
   ·exact UInt8.toNat_inj.1 h2
   ·exact absurd (UInt8.lt_iff_toNat_lt.2 h2) k.1
  subst h1;rw[oD (h.2.resolve_left (fun e=>e rfl)) (k.2.resolve_left (fun e=>e rfl))]
theorem vd {t:TypeId} {x y:Operand} {a b:List UInt8}:j7 .lss t x y (vL a) (vL b)=some (.bool (Op.bytesLess a b)):=by
 show some (Value.bool (Op.bytesLess (Bs a).toList (Bs b).toList))=_;rw[fM,fM]
theorem xB (a:List UInt8):aa Tryz.prog 294 [dL a] (.one (dB false)):=by
 refine kU func294 ?_;exact OJ
theorem zo (a:List UInt8):aa Tryz.prog 248 [dL a] (.one (dB false)):=by
 refine kU func248 ?_;exact OJ
theorem Mp (a b:List UInt8):aa Tryz.prog 247 [dL a,dL b] (.one (dB (Op.bytesLess a b))):=by
 refine kU func247 ?_;refine gy ?_;refine kC (xB a) ?_
 iterate 8 refine kO ?_
 refine ax rfl rfl rfl rfl rfl rfl rfl (vd (a:=a) (b:=b)) ?_;exact aj
theorem Mv (l:EL) (hs:eW l) (hl:l.length<=1000000) (s:List UInt8):∃(i:Nat) (b:Bool),aa Tryz.prog 181 [eU l,dL s] (.tup [dN .i64 i,dB b]) /\
 (b=true-> ∃x,l[i]? =some x/\x.1=s)/\(b=false-> ∀x∈l,x.1≠s):=by
 obtain⟨p,hp1,hp2,hp3⟩:∃p,p<=l.length/\(∀(q:Nat) x,q<p->l[q]? =some x->Op.bytesLess x.1 s=true)/\(∀(q:Nat) x,p<=q->l[q]? =some x->Op.bytesLess x.1 s=false):=by
  have:∀k,k<=l.length-> ∃p,p<=k/\(∀(q:Nat) x,q<p->l[q]? =some x->Op.bytesLess x.1 s=true)/\(∀(q:Nat) x,p<=q->q<k->l[q]? =some x->Op.bytesLess x.1 s=false):=by
   intro k
   induction k with
   |zero=>intro _;exact⟨0,l_ _,fun q x h=>absurd h (Nat.not_lt_zero _),fun q x _ h=>absurd h (Nat.not_lt_zero _)⟩
   |succ k ih=>
    intro hk;obtain⟨p,h1,h2,h3⟩:=ih O_;have hx:l[k]? =some (l[k]'(by omega)):=S_
    by_cases hpk:p=k
    ·cases hb:Op.bytesLess (l[k]'(by omega)).1 s
     ·exact⟨k,by omega,fun q x hq=>h2 q x O_,fun q x h4 h5 h6=>by
       obtain rfl:q=k:=O_
       rw[hx]at h6;cases h6;exact hb⟩
     ·exact⟨k+1,by omega,fun q x hq h6=>by
       by_cases e:q=k
       ·subst e;rw[hx]at h6;cases h6;exact hb
       ·exact h2 q x O_ h6,fun q x h4 h5=>by omega⟩
    ·refine⟨p,by omega,h2,fun q x h4 h5 h6=>?_⟩
     by_cases e:q=k
     ·subst e
      have hpx:l[p]? =some (l[p]'(by omega)):=S_
      have h7:=h3 p _ (l_ _) O_ hpx;cases hb:Op.bytesLess x.1 s
      ·rfl
      ·have h8:=hs p q _ _ O_ hpx h6
       rw[fk h8 hb]at h7;cases h7
     ·exact h3 q x h4 O_ h6
  obtain⟨p,h1,h2,h3⟩:=this l.length (l_ _);exact⟨p,h1,h2,fun q x h4 h5=>h3 q x h4 (G_.1 h5).1 h5⟩
 have done:∀b,(∀x,l[p]? =some x->decide (x.1=s)=b)->(l[p]? =none->b=false)->aa Tryz.prog 181 [eU l,dL s] (.tup [dN .i64 p,dB b]):=by
  intro b hb hb';refine kV func181 ?_
  refine aq (Nat × Nat) (fun x=>x.1<=p/\p<=x.2/\x.2<=l.length) (fun x=>⟨[(0, .d (eU l)),(1, .d (dL s)),(4, .d (dN .i64 0)),(5, .d (dB false)),(6, .d (dN .i64 l.length)),(7, .d (dN .i64 x.1)),(8, .d (dN .i64 x.2))],[]⟩) (fun x=>x.2-x.1) (0,l.length) ⟨Nat.zero_le _,hp1,l_ _⟩
   kw ?_
  rintro⟨i,j⟩ ⟨h1,h2,h3⟩;dsimp only at h1 h2 h3 ⊢;refine kI ?_
  refine kO2 ?_
  by_cases hij:i<j
  ·refine IP ?_
   refine dp ?_;refine nt ?_;exact S2
  ·have e1:i=p:=O_
   have e2:j=p:=O_
   subst e2;subst e1;refine kE ?_;refine jP ?_;refine kI ?_
   refine kO3 ?_
   by_cases hil:i<l.length
   ·have hx:l[i]? =some l[i]:=by simp[hil]
    refine kT ?_;refine HL ?_
    refine kO2 ?_
    have hb0:=hb _ hx
    by_cases e:l[i].1=s
    ·rw[T_ e]at hb0
     subst hb0;refine ax rfl rfl rfl rfl rfl rfl rfl (aU (a:=l[i].1) (b:=s) e) ?_;exact aj
    ·rw[F_ e]at hb0
     subst hb0;exact OB
   ·have hn:=hb' (List.getElem?_eq_none O_)
    subst hn;refine kE ?_;exact aj
 cases hx:l[p]? with
 |none=>
  refine⟨p,false,done false (fun x h=>by rw[hx]at h;cases h) (fun _=>rfl),fun h=>(by cases h),fun _ x hm e=>?_⟩;obtain⟨q,hq⟩:=W_ hm;have h1:=List.getElem?_eq_none_iff.1 hx;have h2:=(G_.1 hq).1;have:=hp2 q x O_ hq;rw[e,jE]at this;cases this
 |some y=>
  by_cases e:y.1=s
  ·exact⟨p,true,done true (fun x h=>by rw[hx]at h;cases h;exact T_ e) (fun h=>by simp[hx]at h),fun _=>⟨y,hx,e⟩,fun h=>by cases h⟩
  ·refine⟨p,false,done false (fun x h=>by rw[hx]at h;cases h;exact F_ e) (fun h=>by simp[hx]at h),fun h=>(by cases h),fun _ x hm ex=>?_⟩
   obtain⟨q,hq⟩:=W_ hm;rcases Nat.lt_trichotomy q p with h|h|h
   ·have:=hp2 q x h hq
    rw[ex,jE]at this;cases this
   ·subst h;rw[hx]at hq;cases hq;exact e ex
   ·have h1:=hs p q _ _ h hx hq
    have h2:=hp3 p y (l_ _) hx;rw[ex,h2]at h1;cases h1
theorem D9 {l:EL} (hs:eW l):∀{i:Nat} {x:List UInt8 × (Rat × Int)},l[i]? =some x->aB l x.1=some x.2:=by
 induction l with
 |nil=>intro i x h;simp at h
 |cons y l ih=>
  intro i x h
  simp only[aB]
  cases i with
  |zero=>simp at h;subst h;rw[if_pos rfl]
  |succ i=>
   have h':l[i]? =some x:=by simpa using h
   have h1:=hs 0 (i+1) y x O_ rfl h;rw[if_neg (fun e=>by rw[e,jE]at h1;cases h1)];exact ih (fun a b u v hab hu hv=>hs (a+1) (b+1) u v O_ (by simpa using hu) (by simpa using hv)) h'
theorem vr {l:EL} {s:List UInt8} (h:∀x∈l,x.1≠s):aB l s=none:=by
 induction l with
 |nil=>rfl
 |cons y l ih=>simp only[aB];rw[if_neg (h y S_),ih (fun x hx=>h x (by simp[hx]))]
def B5:B4->Rat->Int->Rat->Int->QR
 | .add,a,p,b,p'=>jV a p b p'
 | .sub,a,p,b,p'=>jV a p (-b) p'
 | .mul,a,p,b,p'=>oS a p b p'
 | .div,a,p,b,p'=>qu a p b p'
def ba (env:List UInt8->Option (Rat × Int)):Ex->QR
 | .num v u=>if u=[]then .ok (v,0)else match Sk u with
  |some q=> .ok (v*q,1)
  |none=> .error 8
 | .nam s=>match env s with
  |some x=> .ok x
  |none=> .error 4
 | .neg a=>match ba env a with
  | .ok x=> .ok (-x.1,x.2)
  | .error e=> .error e
 | .bin k a b=>match ba env a with
  | .error e=> .error e
  | .ok x=>match ba env b with
   | .error e=> .error e
   | .ok y=>B5 k x.1 x.2 y.1 y.2
def gO:Ex->Nat
 | .num _ _=>9
 | .nam _=>400
 | .neg a=>gO a
 | .bin _ a b=>gO a+gO b+1
def pH:Ex->Prop
 | .num v _=>b8 8 v
 | .nam _=>True
 | .neg a=>pH a
 | .bin _ a b=>pH a/\pH b
theorem Ni {k:B4} {a b:Rat} {p p' z:Int} (h:B5 k a p b p'= .error z):z=6∨z=8:=by
 cases k<;>simp only[B5,jV,oS,qu]at h
 ·exact EU
 ·exact EU
 ·exact EU
 ·split at h
  ·cases h;exact .inl rfl
  ·exact EU
theorem b6 {env:List UInt8->Option (Rat × Int)}:∀{e:Ex} {z:Int},ba env e= .error z->z≠0
 | .num v u,z,h=>by
  simp only[ba]at h
  split at h
  ·cases h
  ·split at h<;>cases h
   decide
 | .nam s,z,h=>by
  simp only[ba]at h
  split at h<;>cases h
  decide
 | .neg a,z,h=>by
  simp only[ba]at h
  split at h
  ·cases h
  ·rename_i e he;cases h;exact b6 he
 | .bin k a b,z,h=>by
  simp only[ba]at h
  split at h
  ·rename_i e he;cases h;exact b6 he
  ·split at h
   ·rename_i e he;cases h;exact b6 he
   ·rcases Ni h with rfl|rfl <;>decide
def jK (env:List UInt8->Option (Rat × Int)):Prop:=∀s x,env s=some x->b8 400 x.1/\jH x.2=true
theorem R5 {k:B4} {i j:Nat} {a b:Rat} {p p':Int} {x:Rat × Int} (h1:b8 i a) (h2:b8 j b) (hp:jH p=true) (h:B5 k a p b p'= .ok x):b8 (i+j+1) x.1/\jH x.2=true:=by
 cases k<;>simp only[B5,jV,oS,qu]at h
 ·split at h<;>cases h;exact⟨h1.add h2,hp⟩
 ·split at h<;>cases h;exact⟨h1.add h2.neg,hp⟩
 ·split at h<;>cases h;exact⟨(h1.mul h2).mono O_,by assumption⟩
 ·split at h
  ·cases h
  ·split at h<;>cases h
   exact⟨(h1.div h2 (by assumption)).mono O_,by assumption⟩
theorem eI {env:List UInt8->Option (Rat × Int)} (henv:jK env):∀{e:Ex} {x:Rat × Int},pH e->ba env e= .ok x->b8 (gO e) x.1/\jH x.2=true
 | .num v u,x,ho,h=>by
  simp only[ba]at h
  have ho:b8 8 v:=ho
  split at h
  ·cases h;exact⟨ho.mono (show 8<=9 by decide),rfl⟩
  ·split at h
   ·rename_i q hq
    cases h;exact⟨ho.mul (wL hq).1,rfl⟩
   ·cases h
 | .nam s,x,_,h=>by
  simp only[ba]at h
  split at h
  ·rename_i y hy;cases h;exact henv s _ hy
  ·cases h
 | .neg a,x,ho,h=>by
  simp only[ba]at h
  split at h
  ·rename_i y hy
   cases h;have:=eI henv (e:=a) ho hy;exact⟨this.1.neg,this.2⟩
  ·cases h
 | .bin k a b,x,ho,h=>by
  simp only[ba]at h
  split at h
  ·cases h
  ·rename_i y hy
   split at h
   ·cases h
   ·rename_i z hz
    have h1:=eI henv ho.1 hy;have h2:=eI henv ho.2 hz;exact R5 h1.1 h2.1 h1.2 h
theorem jt {l:EL} (hv:∀x∈l,b8 400 x.2.1/\jH x.2.2=true):jK (aB l):=by
 intro s x h
 induction l with
 |nil=>cases h
 |cons y l ih=>
  simp only[aB]at h
  split at h
  ·cases h;exact hv y S_
  ·exact ih (fun x hx=>hv x (by simp[hx])) h
theorem DD (a:Rat):a+((0:Int):Rat)=a:=Rat.add_zero a
theorem Ie:b8 1 ((0:Int):Rat):=⟨.small D_, .small D_⟩
section
variable {l:EL}
theorem uB {v:Rat} {u:List UInt8} (h:b8 8 v):aa Tryz.prog 133 [dE (.num v u),eU l,fF l] (bM (ba (aB l) (.num v u))):=by
 by_cases hu:u=[]
 ·rw[show ba (aB l) (.num v u)= .ok (v,0) from if_pos hu]
  refine HO ?_;refine ax rfl rfl rfl rfl rfl rfl rfl (aU (a:=u) (b:=[]) hu) ?_;refine kW ?_;refine JM ?_;refine ac (nV h Ie D_ (DD v)) rfl rfl rfl rfl rfl rfl rfl ?_;exact aj
 ·have c1:=zN u
  unfold t7 at c1;cases hf:Sk u with
  |none=>
   rw[hf]at c1;rw[show ba (aB l) (.num v u)= .error 8 by simp only[ba,if_neg hu,hf]];refine HO ?_;refine yV ?_;exact kx
  |some q=>
   rw[hf]at c1;rw[show ba (aB l) (.num v u)= .ok (v*q,1) by simp only[ba,if_neg hu,hf]];refine HO ?_;refine yV ?_;refine iQ ?_;refine ac (mT h (wL hf).1 D_ rfl) rfl rfl rfl rfl rfl rfl rfl ?_;exact aj
theorem uy {s:List UInt8} (hs:eW l) (hl:l.length<=1000000) (hv:∀x∈l,b8 400 x.2.1/\jH x.2.2=true):aa Tryz.prog 133 [dE (.nam s),eU l,fF l] (bM (ba (aB l) (.nam s))):=by
 obtain⟨i,b,c1,h1,h2⟩:=Mv l hs hl s;cases b with
 |false=>
  rw[show ba (aB l) (.nam s)= .error 4 by simp only[ba,vr (h2 rfl)]];refine kU func133 ?_;exact kx
 |true=>
  obtain⟨x,hx,e⟩:=h1 rfl;have hi:i<l.length:=(G_.1 hx).1
  have hsz:=(hv x (M_ hx)).1;rw[show ba (aB l) (.nam s)= .ok x.2 by simp only[ba,<- e,D9 hs hx]];refine kU func133 ?_;refine iQ ?_;refine aH (i:=i) (cs':=j5 x.2.1 x.2.2) hi (Dv hx) (Z_ 4) rfl rfl rfl rfl rfl rfl rfl rfl ?_
  refine kO2 ?_
  refine JM ?_;refine ac (nV hsz Ie D_ (DD x.2.1)) rfl rfl rfl rfl rfl rfl rfl ?_
  refine kO2 ?_
  refine aH (i:=i) (cs':=j5 x.2.1 x.2.2) hi (Dv hx) (Z_ 4) rfl rfl rfl rfl rfl rfl rfl rfl ?_;exact aj
def ab (o:Int) (na:Bool) (xs:List Nat) (nb:Bool) (ys:List Nat) (nm:List UInt8) (n:Nat) (cs:List AV):List AV:=[.val (.int .i64 o), .val (.bool na),aW xs, .val (.bool nb),aW ys, .val (vL nm), .sl n cs]
theorem aN (a:Ex):∃o na xs nb ys nm n cs,aE a=ab o na xs nb ys nm n cs:=by
 unfold aE;generalize rx a=x;exact QI
theorem LE (a:List AV):∀(j:Nat) (x:AV),a[j]? =some x->a[0*7+j]? =some x:=fun j x h=>by rw[Nat.zero_mul,J_];exact h
theorem mH (a b:List AV):∀(j:Nat) (x:AV),a[j]? =some x->(a++b)[0*7+j]? =some x:=fun j x h=>by
 rw[Nat.zero_mul,J_,List.getElem?_append_left (G_.1 h).1];exact h
theorem nj {a:List AV} (b:List AV) (ha:a.length=7):∀(j:Nat) (x:AV),b[j]? =some x->(a++b)[1*7+j]? =some x:=fun j x h=>by
 rw[g_ (by rw[ha];omega),ha,show 1*7+j-7=j by omega];exact h
theorem uA {a:Ex} (henv:jK (aB l)) (ho:pH a) (hw:gO a<=1000000) (ih:aa Tryz.prog 133 [dE a,eU l,fF l] (bM (ba (aB l) a))):aa Tryz.prog 133 [dE (.neg a),eU l,fF l] (bM (ba (aB l) (.neg a))):=by
 obtain⟨o1,na1,xs1,nb1,ys1,nm1,n1,cs1,hA⟩:=aN a;refine PG ?_;rw[show dE a= .agg (ab o1 na1 xs1 nb1 ys1 nm1 n1 cs1) from congrArg DV.agg hA]at ih;cases ha:ba (aB l) a with
 |error z=>
  have hz:=b6 ha;rw[ha]at ih;rw[show ba (aB l) (.neg a)= .error z by simp only[ba,ha]];refine TP ?_;refine GJ ?_;exact zX
 |ok x=>
  obtain⟨hx,hp⟩:=eI henv ho ha;rw[ha]at ih;rw[show ba (aB l) (.neg a)= .ok (-x.1,x.2) by simp only[ba,ha]];refine TP ?_;refine GJ ?_;refine xx ?_;refine ct ⟨[(1, .d (eU l)),(2, .d (fF l)),(3, .box 0 0),(6, .box 1 0),(7, .d (dN .i64 0)),(12, .own 5001 1 5 92),(72, .d (.leaf (.sl 1 (ab o1 na1 xs1 nb1 ys1 nm1 n1 cs1)))),(73, .d (dN .i64 1)),(74, .d (dN .i64 1))],[(0,some ([.val (.int .i64 3)]++jq++[.val (vL []), .sl 1 (ab o1 na1 xs1 nb1 ys1 nm1 n1 cs1)])),(1,some ia),(5001,some (j5 x.1 x.2))]⟩ kw ?_;refine kW ?_;refine mC (i:=0) D_ rfl rfl rfl rfl rfl rfl rfl rfl rfl ?_;refine kW ?_;refine ac (lY hx O_) rfl rfl rfl rfl rfl rfl rfl ?_;exact aj
theorem uJ {a b:Ex} (henv:jK (aB l)) (ho:pH a) (ho':pH b) (hw:gO a+gO b<=1000000) (ih:aa Tryz.prog 133 [dE a,eU l,fF l] (bM (ba (aB l) a))) (ih':aa Tryz.prog 133 [dE b,eU l,fF l] (bM (ba (aB l) b))):aa Tryz.prog 133 [dE (.bin .add a b),eU l,fF l] (bM (ba (aB l) (.bin .add a b))):=by
 obtain⟨o1,na1,xs1,nb1,ys1,nm1,n1,cs1,hA⟩:=aN a;obtain⟨o2,na2,xs2,nb2,ys2,nm2,n2,cs2,hB⟩:=aN b;refine P6 ?_;rw[show dE a= .agg (ab o1 na1 xs1 nb1 ys1 nm1 n1 cs1) from congrArg DV.agg hA]at ih;rw[show dE b= .agg (ab o2 na2 xs2 nb2 ys2 nm2 n2 cs2) from congrArg DV.agg hB]at ih';cases ha:ba (aB l) a with
 |error z=>
  have hz:=b6 ha;rw[ha]at ih;rw[show ba (aB l) (.bin .add a b)= .error z by simp only[ba,ha]];refine RE ?_;refine Ee ?_;exact zX
 |ok x=>
  obtain⟨hx,hpx⟩:=eI henv ho ha;rw[ha]at ih;cases hb:ba (aB l) b with
  |error z=>
   have hz:=b6 hb;rw[hb]at ih';rw[show ba (aB l) (.bin .add a b)= .error z by simp only[ba,ha,hb]];refine RE ?_;refine Ee ?_;refine xx ?_;refine Ut ?_;exact EO
  |ok y=>
   obtain⟨hy,hpy⟩:=eI henv ho' hb;rw[hb]at ih';have hR:ba (aB l) (.bin .add a b)=B5 .add x.1 x.2 y.1 y.2:=by simp only[ba,ha,hb]
   rw[hR];show aa Tryz.prog _ _ (bM (jV x.1 x.2 y.1 y.2));have c:=ye hx hy O_ hpx (p':=y.2);cases hr:jV x.1 x.2 y.1 y.2 with
   |error z=>
    exact Qh
   |ok z=>
    exact Qh
theorem u5 {a b:Ex} (henv:jK (aB l)) (ho:pH a) (ho':pH b) (hw:gO a+gO b<=1000000) (ih:aa Tryz.prog 133 [dE a,eU l,fF l] (bM (ba (aB l) a))) (ih':aa Tryz.prog 133 [dE b,eU l,fF l] (bM (ba (aB l) b))):aa Tryz.prog 133 [dE (.bin .sub a b),eU l,fF l] (bM (ba (aB l) (.bin .sub a b))):=by
 obtain⟨o1,na1,xs1,nb1,ys1,nm1,n1,cs1,hA⟩:=aN a;obtain⟨o2,na2,xs2,nb2,ys2,nm2,n2,cs2,hB⟩:=aN b;refine PP ?_;rw[show dE a= .agg (ab o1 na1 xs1 nb1 ys1 nm1 n1 cs1) from congrArg DV.agg hA]at ih;rw[show dE b= .agg (ab o2 na2 xs2 nb2 ys2 nm2 n2 cs2) from congrArg DV.agg hB]at ih';cases ha:ba (aB l) a with
 |error z=>
  have hz:=b6 ha;rw[ha]at ih;rw[show ba (aB l) (.bin .sub a b)= .error z by simp only[ba,ha]];refine Q2 ?_;refine Ee ?_;exact zX
 |ok x=>
  obtain⟨hx,hpx⟩:=eI henv ho ha;rw[ha]at ih;cases hb:ba (aB l) b with
  |error z=>
   have hz:=b6 hb;rw[hb]at ih';rw[show ba (aB l) (.bin .sub a b)= .error z by simp only[ba,ha,hb]];refine Q2 ?_;refine Ee ?_;refine xx ?_;refine T6 ?_;exact EO
  |ok y=>
   obtain⟨hy,hpy⟩:=eI henv ho' hb;rw[hb]at ih';have hR:ba (aB l) (.bin .sub a b)=B5 .sub x.1 x.2 y.1 y.2:=by simp only[ba,ha,hb]
   rw[hR];show aa Tryz.prog _ _ (bM (jV x.1 x.2 (-y.1) y.2));have c:=ye hx hy.neg O_ hpx (p':=y.2);cases hr:jV x.1 x.2 (-y.1) y.2 with
   |error z=>
    exact O9
   |ok z=>
    exact O9
theorem uT {a b:Ex} (henv:jK (aB l)) (ho:pH a) (ho':pH b) (hw:gO a+gO b<=1000000) (ih:aa Tryz.prog 133 [dE a,eU l,fF l] (bM (ba (aB l) a))) (ih':aa Tryz.prog 133 [dE b,eU l,fF l] (bM (ba (aB l) b))):aa Tryz.prog 133 [dE (.bin .mul a b),eU l,fF l] (bM (ba (aB l) (.bin .mul a b))):=by
 obtain⟨o1,na1,xs1,nb1,ys1,nm1,n1,cs1,hA⟩:=aN a;obtain⟨o2,na2,xs2,nb2,ys2,nm2,n2,cs2,hB⟩:=aN b;refine PQ ?_;rw[show dE a= .agg (ab o1 na1 xs1 nb1 ys1 nm1 n1 cs1) from congrArg DV.agg hA]at ih;rw[show dE b= .agg (ab o2 na2 xs2 nb2 ys2 nm2 n2 cs2) from congrArg DV.agg hB]at ih';cases ha:ba (aB l) a with
 |error z=>
  have hz:=b6 ha;rw[ha]at ih;rw[show ba (aB l) (.bin .mul a b)= .error z by simp only[ba,ha]];refine Rt ?_;refine Ee ?_;exact zX
 |ok x=>
  obtain⟨hx,hpx⟩:=eI henv ho ha;rw[ha]at ih;cases hb:ba (aB l) b with
  |error z=>
   have hz:=b6 hb;rw[hb]at ih';rw[show ba (aB l) (.bin .mul a b)= .error z by simp only[ba,ha,hb]];refine Rt ?_;refine Ee ?_;refine xx ?_;refine Ud ?_;exact EO
  |ok y=>
   obtain⟨hy,hpy⟩:=eI henv ho' hb;rw[hb]at ih';have hR:ba (aB l) (.bin .mul a b)=B5 .mul x.1 x.2 y.1 y.2:=by simp only[ba,ha,hb]
   rw[hR];show aa Tryz.prog _ _ (bM (oS x.1 x.2 y.1 y.2));have c:=Ja hx hy O_ hpx hpy;cases hr:oS x.1 x.2 y.1 y.2 with
   |error z=>
    exact N8
   |ok z=>
    exact N8
theorem uW {a b:Ex} (henv:jK (aB l)) (ho:pH a) (ho':pH b) (hw:gO a+gO b<=1000000) (ih:aa Tryz.prog 133 [dE a,eU l,fF l] (bM (ba (aB l) a))) (ih':aa Tryz.prog 133 [dE b,eU l,fF l] (bM (ba (aB l) b))):aa Tryz.prog 133 [dE (.bin .div a b),eU l,fF l] (bM (ba (aB l) (.bin .div a b))):=by
 obtain⟨o1,na1,xs1,nb1,ys1,nm1,n1,cs1,hA⟩:=aN a;obtain⟨o2,na2,xs2,nb2,ys2,nm2,n2,cs2,hB⟩:=aN b;refine Qf ?_;rw[show dE a= .agg (ab o1 na1 xs1 nb1 ys1 nm1 n1 cs1) from congrArg DV.agg hA]at ih;rw[show dE b= .agg (ab o2 na2 xs2 nb2 ys2 nm2 n2 cs2) from congrArg DV.agg hB]at ih';cases ha:ba (aB l) a with
 |error z=>
  have hz:=b6 ha;rw[ha]at ih;rw[show ba (aB l) (.bin .div a b)= .error z by simp only[ba,ha]];refine RG ?_;refine Ee ?_;exact zX
 |ok x=>
  obtain⟨hx,hpx⟩:=eI henv ho ha;rw[ha]at ih;cases hb:ba (aB l) b with
  |error z=>
   have hz:=b6 hb;rw[hb]at ih';rw[show ba (aB l) (.bin .div a b)= .error z by simp only[ba,ha,hb]];refine RG ?_;refine Ee ?_;refine xx ?_;refine Ts ?_;exact EO
  |ok y=>
   obtain⟨hy,hpy⟩:=eI henv ho' hb;rw[hb]at ih';have hR:ba (aB l) (.bin .div a b)=B5 .div x.1 x.2 y.1 y.2:=by simp only[ba,ha,hb]
   rw[hR];show aa Tryz.prog _ _ (bM (qu x.1 x.2 y.1 y.2));have c:=KU hx hy O_ hpx hpy;cases hr:qu x.1 x.2 y.1 y.2 with
   |error z=>
    exact Qq
   |ok z=>
    exact Qq
end
theorem dO {l:EL} (hs:eW l) (hl:l.length<=1000000) (hv:∀x∈l,b8 400 x.2.1/\jH x.2.2=true):∀e,pH e->gO e<=1000000->aa Tryz.prog 133 [dE e,eU l,fF l] (bM (ba (aB l) e))
 | .num _ _,ho,_=>uB ho
 | .nam _,_,_=>uy hs hl hv
 | .neg a,ho,hw=>uA (jt hv) ho hw (dO hs hl hv a ho hw)
 | .bin .add a b,ho,hw=>by
  have hw':gO a+gO b+1<=1000000:=hw;exact uJ (jt hv) ho.1 ho.2 O_ (dO hs hl hv a ho.1 O_) (dO hs hl hv b ho.2 O_)
 | .bin .sub a b,ho,hw=>by
  have hw':gO a+gO b+1<=1000000:=hw;exact u5 (jt hv) ho.1 ho.2 O_ (dO hs hl hv a ho.1 O_) (dO hs hl hv b ho.2 O_)
 | .bin .mul a b,ho,hw=>by
  have hw':gO a+gO b+1<=1000000:=hw;exact uT (jt hv) ho.1 ho.2 O_ (dO hs hl hv a ho.1 O_) (dO hs hl hv b ho.2 O_)
 | .bin .div a b,ho,hw=>by
  have hw':gO a+gO b+1<=1000000:=hw;exact uW (jt hv) ho.1 ho.2 O_ (dO hs hl hv a ho.1 O_) (dO hs hl hv b ho.2 O_)
section
variable {l:EL}
theorem qy {v:Rat} {u:List UInt8} (h:b8 8 v):aa Tryz.prog 99 [dE (.num v u),eU l,fF l] (bM (ba (aB l) (.num v u))):=by
 by_cases hu:u=[]
 ·rw[show ba (aB l) (.num v u)= .ok (v,0) from if_pos hu]
  refine kU func99 ?_;refine EM ?_;refine pr ?_;refine ax rfl rfl rfl rfl rfl rfl rfl (aU (a:=u) (b:=[]) hu) ?_;exact aj
 ·have c1:=uI u
  unfold t7 at c1;cases hf:Sk u with
  |none=>
   rw[hf]at c1;rw[show ba (aB l) (.num v u)= .error 8 by simp only[ba,if_neg hu,hf]];refine kU func99 ?_;refine EM ?_;refine pr ?_;refine yV ?_;exact kx
  |some q=>
   rw[hf]at c1;rw[show ba (aB l) (.num v u)= .ok (v*q,1) by simp only[ba,if_neg hu,hf]];have c2:=tc (a:=v) (b:=q) (p:=0) (p':=1) h (wL hf).1 D_ rfl rfl;rw[show oS v 0 q 1= .ok (v*q,1) from if_pos D_]at c2;refine kU func99 ?_;refine EM ?_;refine pr ?_;refine yV ?_;refine iQ ?_;refine kC (c2) ?_;exact aj
theorem BJ {l:EL} {s:List UInt8} {i:Nat} {x:List UInt8 × (Rat × Int)} (hx:l[i]? =some x) (e:x.1=s) (h:∀(q:Nat) y,q<i->l[q]? =some y->y.1≠s):aB l s=some x.2:=by
 induction l generalizing i with
 |nil=>simp at hx
 |cons y l ih=>
  simp only[aB]
  cases i with
  |zero=>simp at hx;subst hx;rw[if_pos e]
  |succ i=>
   rw[if_neg (h 0 y O_ rfl)];exact ih (i:=i) (by simpa using hx) (fun q z hq hz=>h (q+1) z O_ (by simpa using hz))
theorem qn {s:List UInt8} (hl:l.length<=1000000):aa Tryz.prog 99 [dE (.nam s),eU l,fF l] (bM (ba (aB l) (.nam s))):=by
 refine kV func99 ?_
 refine aq Nat (fun j=>j<=l.length/\ ∀(q:Nat) y,q<j->l[q]? =some y->y.1≠s) (fun j=>⟨[(1, .d (eU l)),(2, .d (fF l)),(3, .box 0 0),(6, .box 1 0),(7, .d (dN .i64 0)),(11, .d (dN .i64 j))],[(0,some (aE (.nam s))),(1,some ia)]⟩) (fun j=>l.length-j) 0 ⟨Nat.zero_le _,fun q y h=>absurd h (Nat.not_lt_zero _)⟩
  kw ?_
 rintro j ⟨hj,hall⟩;refine kI ?_
 refine kO3 ?_
 by_cases hlt:j<l.length
 ·have hx:l[j]? =some l[j]:=by simp[hlt]
  refine kX ?_;refine aH (i:=j) (cs':=[.val (vL l[j].1)]) hlt (Ll hx) S_ rfl rfl rfl rfl rfl rfl rfl rfl ?_
  refine kO3 ?_
  by_cases e:l[j].1=s
  ·refine ax rfl rfl rfl rfl rfl rfl rfl (aU (a:=l[j].1) (b:=s) e) ?_
   refine kW ?_;refine aH (i:=j) (cs':=j5 l[j].2.1 l[j].2.2) hlt (Dv hx) (Z_ 4) rfl rfl rfl rfl rfl rfl rfl rfl ?_;refine kW ?_;rw[show ba (aB l) (.nam s)= .ok l[j].2 by simp only[ba,BJ hx e hall]];exact bK (T:=TT) rfl rfl
  ·refine ax rfl rfl rfl rfl rfl rfl rfl (bC (a:=l[j].1) (b:=s) e) ?_
   refine kW ?_
   exact⟨j+1,⟨hlt,fun q y hq hy=>by
    by_cases eq:q=j
    ·subst eq;rw[hx]at hy;cases hy;exact e
    ·exact hall q y O_ hy⟩,by omega,weak ⟨rfl,rfl,rfl,rfl,rfl,ai O_ O_,trivial⟩ ⟨rfl,rfl,trivial⟩ rfl⟩
 ·refine kE ?_
  refine kW ?_
  rw[show ba (aB l) (.nam s)= .error 4 by
   have:aB l s=none:=vr (fun x hx=>by
    obtain⟨q,hq⟩:=W_ hx;exact hall q x (by have:=(G_.1 hq).1;omega) hq)
   simp only[ba,this]]
  exact bK (T:=TT) rfl rfl
theorem qC {a:Ex} (ih:aa Tryz.prog 99 [dE a,eU l,fF l] (bM (ba (aB l) a))):aa Tryz.prog 99 [dE (.neg a),eU l,fF l] (bM (ba (aB l) (.neg a))):=by
 obtain⟨o1,na1,xs1,nb1,ys1,nm1,n1,cs1,hA⟩:=aN a;refine PG ?_;rw[show dE a= .agg (ab o1 na1 xs1 nb1 ys1 nm1 n1 cs1) from congrArg DV.agg hA]at ih;cases ha:ba (aB l) a with
 |error z=>
  have hz:=b6 ha;rw[ha]at ih;rw[show ba (aB l) (.neg a)= .error z by simp only[ba,ha]];refine kU func99 ?_;refine GJ ?_;refine LK ?_;refine yg ?_;exact aj
 |ok x=>
  rw[ha]at ih;rw[show ba (aB l) (.neg a)= .ok (-x.1,x.2) by simp only[ba,ha]];refine kU func99 ?_;refine GJ ?_;refine LK ?_;refine kW ?_;refine kC (l0) ?_;exact aj
theorem qG {a b:Ex} (henv:jK (aB l)) (ho:pH a) (ho':pH b) (hw:gO a+gO b<=1000000) (ih:aa Tryz.prog 99 [dE a,eU l,fF l] (bM (ba (aB l) a))) (ih':aa Tryz.prog 99 [dE b,eU l,fF l] (bM (ba (aB l) b))):aa Tryz.prog 99 [dE (.bin .add a b),eU l,fF l] (bM (ba (aB l) (.bin .add a b))):=by
 obtain⟨o1,na1,xs1,nb1,ys1,nm1,n1,cs1,hA⟩:=aN a;obtain⟨o2,na2,xs2,nb2,ys2,nm2,n2,cs2,hB⟩:=aN b;refine P6 ?_;rw[show dE a= .agg (ab o1 na1 xs1 nb1 ys1 nm1 n1 cs1) from congrArg DV.agg hA]at ih;rw[show dE b= .agg (ab o2 na2 xs2 nb2 ys2 nm2 n2 cs2) from congrArg DV.agg hB]at ih';cases ha:ba (aB l) a with
 |error z=>
  have hz:=b6 ha;rw[ha]at ih;rw[show ba (aB l) (.bin .add a b)= .error z by simp only[ba,ha]];exact Ey
 |ok x=>
  obtain⟨hx,hpx⟩:=eI henv ho ha;rw[ha]at ih;cases hb:ba (aB l) b with
  |error z=>
   have hz:=b6 hb;rw[hb]at ih';rw[show ba (aB l) (.bin .add a b)= .error z by simp only[ba,ha,hb]];refine r9 ?_;refine yg ?_;exact aj
  |ok y=>
   obtain⟨hy,hpy⟩:=eI henv ho' hb;rw[hb]at ih';have hR:ba (aB l) (.bin .add a b)=B5 .add x.1 x.2 y.1 y.2:=by simp only[ba,ha,hb]
   rw[hR];show aa Tryz.prog _ _ (bM (jV x.1 x.2 y.1 y.2));have c:=sS (p:=x.2) (p':=y.2) hx hy O_;cases hr:jV x.1 x.2 y.1 y.2 with
   |error z=>
    exact vR
   |ok z=>
    exact vR
theorem qD {a b:Ex} (henv:jK (aB l)) (ho:pH a) (ho':pH b) (hw:gO a+gO b<=1000000) (ih:aa Tryz.prog 99 [dE a,eU l,fF l] (bM (ba (aB l) a))) (ih':aa Tryz.prog 99 [dE b,eU l,fF l] (bM (ba (aB l) b))):aa Tryz.prog 99 [dE (.bin .sub a b),eU l,fF l] (bM (ba (aB l) (.bin .sub a b))):=by
 obtain⟨o1,na1,xs1,nb1,ys1,nm1,n1,cs1,hA⟩:=aN a;obtain⟨o2,na2,xs2,nb2,ys2,nm2,n2,cs2,hB⟩:=aN b;refine PP ?_;rw[show dE a= .agg (ab o1 na1 xs1 nb1 ys1 nm1 n1 cs1) from congrArg DV.agg hA]at ih;rw[show dE b= .agg (ab o2 na2 xs2 nb2 ys2 nm2 n2 cs2) from congrArg DV.agg hB]at ih';cases ha:ba (aB l) a with
 |error z=>
  have hz:=b6 ha;rw[ha]at ih;rw[show ba (aB l) (.bin .sub a b)= .error z by simp only[ba,ha]];exact Ey
 |ok x=>
  obtain⟨hx,hpx⟩:=eI henv ho ha;rw[ha]at ih;cases hb:ba (aB l) b with
  |error z=>
   have hz:=b6 hb;rw[hb]at ih';rw[show ba (aB l) (.bin .sub a b)= .error z by simp only[ba,ha,hb]];refine r9 ?_;refine yg ?_;exact aj
  |ok y=>
   obtain⟨hy,hpy⟩:=eI henv ho' hb;rw[hb]at ih';have hR:ba (aB l) (.bin .sub a b)=B5 .sub x.1 x.2 y.1 y.2:=by simp only[ba,ha,hb]
   rw[hR];show aa Tryz.prog _ _ (bM (jV x.1 x.2 (-y.1) y.2));have c:=sS (p:=x.2) (p':=y.2) hx hy.neg O_;cases hr:jV x.1 x.2 (-y.1) y.2 with
   |error z=>
    rw[hr]at c;refine r9 ?_;refine kW ?_;refine kC (l0) ?_;refine kC (c) ?_;exact aj
   |ok z=>
    rw[hr]at c;refine r9 ?_;refine kW ?_;refine kC (l0) ?_;refine kC (c) ?_;exact aj
theorem qA {a b:Ex} (henv:jK (aB l)) (ho:pH a) (ho':pH b) (hw:gO a+gO b<=1000000) (ih:aa Tryz.prog 99 [dE a,eU l,fF l] (bM (ba (aB l) a))) (ih':aa Tryz.prog 99 [dE b,eU l,fF l] (bM (ba (aB l) b))):aa Tryz.prog 99 [dE (.bin .mul a b),eU l,fF l] (bM (ba (aB l) (.bin .mul a b))):=by
 obtain⟨o1,na1,xs1,nb1,ys1,nm1,n1,cs1,hA⟩:=aN a;obtain⟨o2,na2,xs2,nb2,ys2,nm2,n2,cs2,hB⟩:=aN b;refine PQ ?_;rw[show dE a= .agg (ab o1 na1 xs1 nb1 ys1 nm1 n1 cs1) from congrArg DV.agg hA]at ih;rw[show dE b= .agg (ab o2 na2 xs2 nb2 ys2 nm2 n2 cs2) from congrArg DV.agg hB]at ih';cases ha:ba (aB l) a with
 |error z=>
  have hz:=b6 ha;rw[ha]at ih;rw[show ba (aB l) (.bin .mul a b)= .error z by simp only[ba,ha]];exact Ey
 |ok x=>
  obtain⟨hx,hpx⟩:=eI henv ho ha;rw[ha]at ih;cases hb:ba (aB l) b with
  |error z=>
   have hz:=b6 hb;rw[hb]at ih';rw[show ba (aB l) (.bin .mul a b)= .error z by simp only[ba,ha,hb]];refine r9 ?_;refine yg ?_;exact aj
  |ok y=>
   obtain⟨hy,hpy⟩:=eI henv ho' hb;rw[hb]at ih';have hR:ba (aB l) (.bin .mul a b)=B5 .mul x.1 x.2 y.1 y.2:=by simp only[ba,ha,hb]
   rw[hR];show aa Tryz.prog _ _ (bM (oS x.1 x.2 y.1 y.2));have c:=tc hx hy O_ hpx hpy;cases hr:oS x.1 x.2 y.1 y.2 with
   |error z=>
    exact vR
   |ok z=>
    exact vR
theorem qq {a b:Ex} (henv:jK (aB l)) (ho:pH a) (ho':pH b) (hw:gO a+gO b<=1000000) (ih:aa Tryz.prog 99 [dE a,eU l,fF l] (bM (ba (aB l) a))) (ih':aa Tryz.prog 99 [dE b,eU l,fF l] (bM (ba (aB l) b))):aa Tryz.prog 99 [dE (.bin .div a b),eU l,fF l] (bM (ba (aB l) (.bin .div a b))):=by
 obtain⟨o1,na1,xs1,nb1,ys1,nm1,n1,cs1,hA⟩:=aN a;obtain⟨o2,na2,xs2,nb2,ys2,nm2,n2,cs2,hB⟩:=aN b;refine Qf ?_;rw[show dE a= .agg (ab o1 na1 xs1 nb1 ys1 nm1 n1 cs1) from congrArg DV.agg hA]at ih;rw[show dE b= .agg (ab o2 na2 xs2 nb2 ys2 nm2 n2 cs2) from congrArg DV.agg hB]at ih';cases ha:ba (aB l) a with
 |error z=>
  have hz:=b6 ha;rw[ha]at ih;rw[show ba (aB l) (.bin .div a b)= .error z by simp only[ba,ha]];exact Ey
 |ok x=>
  obtain⟨hx,hpx⟩:=eI henv ho ha;rw[ha]at ih;cases hb:ba (aB l) b with
  |error z=>
   have hz:=b6 hb;rw[hb]at ih';rw[show ba (aB l) (.bin .div a b)= .error z by simp only[ba,ha,hb]];refine r9 ?_;refine yg ?_;exact aj
  |ok y=>
   obtain⟨hy,hpy⟩:=eI henv ho' hb;rw[hb]at ih';have hR:ba (aB l) (.bin .div a b)=B5 .div x.1 x.2 y.1 y.2:=by simp only[ba,ha,hb]
   rw[hR];show aa Tryz.prog _ _ (bM (qu x.1 x.2 y.1 y.2));have c:=B8 hx hy O_ hpx hpy;cases hr:qu x.1 x.2 y.1 y.2 with
   |error z=>
    exact vR
   |ok z=>
    exact vR
end
theorem b5 {l:EL} (hl:l.length<=1000000) (hv:∀x∈l,b8 400 x.2.1/\jH x.2.2=true):∀e,pH e->gO e<=1000000->aa Tryz.prog 99 [dE e,eU l,fF l] (bM (ba (aB l) e))
 | .num _ _,ho,_=>qy ho
 | .nam _,_,_=>qn hl
 | .neg a,ho,hw=>qC (b5 hl hv a ho hw)
 | .bin .add a b,ho,hw=>by
  have hw':gO a+gO b+1<=1000000:=hw;exact qG (jt hv) ho.1 ho.2 O_ (b5 hl hv a ho.1 O_) (b5 hl hv b ho.2 O_)
 | .bin .sub a b,ho,hw=>by
  have hw':gO a+gO b+1<=1000000:=hw;exact qD (jt hv) ho.1 ho.2 O_ (b5 hl hv a ho.1 O_) (b5 hl hv b ho.2 O_)
 | .bin .mul a b,ho,hw=>by
  have hw':gO a+gO b+1<=1000000:=hw;exact qA (jt hv) ho.1 ho.2 O_ (b5 hl hv a ho.1 O_) (b5 hl hv b ho.2 O_)
 | .bin .div a b,ho,hw=>by
  have hw':gO a+gO b+1<=1000000:=hw;exact qq (jt hv) ho.1 ho.2 O_ (b5 hl hv a ho.1 O_) (b5 hl hv b ho.2 O_)
section
variable {P:Program} {T:TypeId->Option Ty} {n:Nat} {ops:Array Oper} {id:Nat} {draw:Bool} {K:AS->Prop} {s:AS} {k:Nat} {o:Oper} {os:List Oper} {fps:List FP}
theorem Ot {x y:Operand} {ts:Array TypeId} {a b m:Int} (hm:max a b=m) (h1:gd ops s o=some true) (h2:o.op= .call ⟨.builtin .max,#[x,y],ts⟩) (h7:s.ev x= .d (dN .i64 a)) (h8:s.ev y= .d (dN .i64 b))
 (h3:aL n o.dst=true) (h4:fg draw ops (aA ops o ⟨.d (dN .i64 m),none⟩ []) k fps=true) (h:ar P T n ops id draw K (k+1) os (s.eff o.dst ⟨.d (dN .i64 m),none⟩) (aA ops o ⟨.d (dN .i64 m),none⟩ []::fps)):ar P T n ops id draw K k (o::os) s fps:=by
 subst hm;refine .run h1 (.gen fun s2 ht _=>?_) h3 h4 h;have hx:=(aw ht (x:=x) (by simp[h2,Op.operands,Call.operands])).trans h7;have hy:=(aw ht (x:=y) (by simp[h2,Op.operands,Call.operands])).trans h8;refine ak fun n S0 w0 g a' w hM=>⟨.int .i64 (max a b),w,?_,Below.refl _ _,AV.M.val rfl⟩
 have hm:(Builtin.max2 (.int .i64 a) (.int .i64 b)).run P w= .ok (.int .i64 (max a b)) w:=by
  have e:max a b=if b > a then b else a:=by split <;>omega
  rw[e];rfl
 simp[execOp,h2,resolve,invoke,builtin,Builtin.max_,a7 hM hx,a7 hM hy,Y_,hm]
end
end Go.Proofs.YtnchbpoopnjghaaGreatDoor
