/- Parts of a proof: contracts of the functions that the laws reach. -/
import Derived.Test.YtikbnnljjeefgaaGreatDoorWAm
import Derived.Test.YtikbnnljjeefgaaGreatDoorWLaw
import Derived.Test.YtikbnnljjeefgaaGreatDoorWAmI
import Derived.Test.YtikbnnljjeefgaaGreatDoorWZ3
import Derived.Test.YtikbnnljjeefgaaGreatDoorWZ5
import Derived.Test.YtikbnnljjeefgaaGreatDoorWZ1
import Derived.Test.YtikbnnljjeefgaaGreatDoorTie
import Derived.Test.YtikbnnljjeefgaaGreatDoorCards
import Derived.LaidMore
import Derived.Lay
import Derived.Stop.Joined
import Derived.SevenTiedAt
set_option maxHeartbeats 100000000
set_option linter.all false
open Go.Proofs.Tryz
namespace Go.Proofs.YtikbnnljjeefgaaGreatDoor
open Go.RowKit
section
open Go.ChangeShapes Go.WideShapes Go.ChangeAt Go.RowKit Go.Joins
def Sh (P:Program):Nat→TypeId→List AV→Prop
 |0,_,_=>False
 |n+1,t,cs=>match P.underlying t with
  |some .bool=>∃b,cs=[.val (.bool b)]
  |some (.int k)=>∃i,cs=[.val (.int k i)]∧(Lit.int k i).wf=true
  |some .string=>∃s:ByteArray,cs=[.val (.string s)]∧s.size≤maxLen
  |some (.slice e)=>∃rows:List (List AV),cs=[.sl rows.length rows.flatten]∧rows.length≤maxLen∧ ∀r∈rows,Sh P n e r∧r.length=P.cellsOf e
  |some (.struct fs)=>cs.length=P.cellsOf t∧ ∀f∈fs.toList,Sh P n f.type ((cs.drop f.offset).take (P.cellsOf f.type))
  |_=>False
def mJ (P:Program):Nat→Nat→List Field→Bool
 |off,sz,[]=>Nat.beq off sz
 |off,sz,f::r=>Nat.beq f.offset off && mJ P (off+P.cellsOf f.type) sz r
def u6 (P:Program) (L:List TypeId):Bool:=L.all fun t=>match P.underlying t with
 |some .bool=>true
 |some (.int _)=>true
 |some .string=>true
 |some (.slice e)=>L.elem e
 |some (.struct fs)=>(fs.toList.all fun f=>L.elem f.type) && mJ P 0 (P.cellsOf t) fs.toList
 |_=>false
theorem qA {w:World} {a:Addr} {k:Nat} {l:List Value} (h:w.cells? 0 a k=some l):l.length=k∧ ∀(i:Nat) (v:Value),l[i]? =some v→w.cell? (a.add i)=some v:=by
 unfold World.cells? at h;rw[if_pos (Nat.zero_le _)]at h
 have:∀(xs:List Nat) (l:List Value),xs.mapM (fun i=>w.cell? (a.add i))=some l→l.length=xs.length∧ ∀(i:Nat) (v:Value),l[i]? =some v→ ∃x,xs[i]? =some x∧w.cell? (a.add x)=some v:=by
  intro xs
  induction xs with
  |nil=>intro l h;simp at h;subst h;exact⟨rfl,fun i v h=>by simp at h⟩
  |cons x xs ih=>
   intro l h
   simp only[List.mapM_cons,Option.bind_eq_bind]at h
   cases h1:w.cell? (a.add x)with
   |none=>rw[h1]at h;simp at h
   |some v=>
    cases h2:xs.mapM (fun i=>w.cell? (a.add i))with
    |none=>rw[h1,h2]at h;simp at h
    |some l'=>
     rw[h1,h2]at h
     simp at h
     subst h;obtain⟨h3,h4⟩:=ih l' h2;refine⟨by simp[h3],fun i u hu=>?_⟩;cases i with
     |zero=>simp at hu;subst hu;exact⟨x,rfl,h1⟩
     |succ i=>simpa using h4 i u (by simpa using hu)
 obtain⟨h1,h2⟩:=this _ _ h;refine⟨by simpa using h1,fun i v hv=>?_⟩;obtain⟨x,hx,hc⟩:=h2 i v hv
 have:x=i:=by
  have:=(List.getElem?_eq_some_iff.1 hx).2
  simpa using this.symm
 rw[← this];exact hc
theorem xj {α β:Type} {f:α→Option β}:∀{xs:List α} {ys:List β},xs.mapM f=some ys→xs.length=ys.length∧ ∀(i:Nat) (x:α),xs[i]? =some x→ ∃y,ys[i]? =some y∧f x=some y
 | [],ys,h=>by simp at h;subst h;exact⟨rfl,fun i x h=>by simp at h⟩
 |x::xs,ys,h=>by
  simp only[List.mapM_cons,Option.bind_eq_bind]at h
  cases h1:f x with
  |none=>rw[h1]at h;simp at h
  |some y=>
   cases h2:xs.mapM f with
   |none=>rw[h1,h2]at h;simp at h
   |some l=>
    rw[h1,h2]at h
    simp at h
    subst h;obtain⟨h3,h4⟩:=xj h2;refine⟨by simp[h3],fun i z hz=>?_⟩;cases i with
    |zero=>simp at hz;subst hz;exact⟨y,rfl,h1⟩
    |succ i=>simpa using h4 i z (by simpa using hz)
theorem xm {rows:List (List AV)} {k:Nat} (h:∀r∈rows,r.length=k):∀(i:Nat) (r:List AV),rows[i]? =some r→ ∀j,j<k→rows.flatten[i*k+j]? =r[j]?:=by
 induction rows with
 |nil=>intro i r hr;simp at hr
 |cons x rows ih=>
  intro i r hr j hj;have hx:=h x (by simp)
  simp only[List.flatten_cons]
  cases i with
  |zero=>simp at hr;subst hr;rw[Nat.zero_mul,Nat.zero_add,List.getElem?_append_left (by omega)]
  |succ i=>
   rw[List.getElem?_append_right (by rw[Nat.add_mul];omega)];have:=ih (fun r hr=>h r (by simp[hr])) i r (by simpa using hr) j hj;rw[← this]
   congr 1
   rw[Nat.add_mul];omega
theorem ky {rows:List (List AV)} {k:Nat} (h:∀r∈rows,r.length=k):rows.flatten.length=rows.length*k:=by
 induction rows with
 |nil=>simp
 |cons x rows ih=>rw[List.flatten_cons,List.length_append,ih (fun r hr=>h r (by simp[hr])),h x (by simp),List.length_cons,Nat.add_mul];omega
theorem AI {P:Program} {sz:Nat}:∀{fs:List Field} {off:Nat},mJ P off sz fs=true→off≤sz
 | [],off,h=>by have:=Nat.eq_of_beq_eq_true h;omega
 |f::r,off,h=>by
  simp only[mJ,Bool.and_eq_true]at h
  have:=AI h.2;omega
theorem zu {P:Program} {w:World} {vs:List Value} {Q:TypeId→List AV→Prop}:∀(fs:List Field) (off:Nat),mJ P off vs.length fs=true →
 (∀f∈fs,∃cf,CM (fun _=>False) w cf ((vs.drop f.offset).take (P.cellsOf f.type))∧Q f.type cf) →
 ∃cs,CM (fun _=>False) w cs (vs.drop off)∧ ∀f∈fs,off≤f.offset∧Q f.type ((cs.drop (f.offset-off)).take (P.cellsOf f.type))
 | [],off,h,_=>by
  have:=Nat.eq_of_beq_eq_true h;subst this;rw[List.drop_length];exact⟨[],CM.nil _ _,fun f hf=>by cases hf⟩
 |f::r,off,h,hf=>by
  simp only[mJ,Bool.and_eq_true]at h
  have ho:=Nat.eq_of_beq_eq_true h.1;obtain⟨cf,h1,h2⟩:=hf f (by simp);obtain⟨cs,h3,h4⟩:=zu r _ h.2 (fun g hg=>hf g (by simp[hg]));have hle:=AI h.2;rw[ho]at h1;have hl:cf.length=P.cellsOf f.type:=by rw[h1.1];simp;omega
  refine⟨cf++cs,?_,fun g hg=>?_⟩
  ·have:=h1.append h3
   rwa[← List.drop_drop,List.take_append_drop]at this
  ·rcases List.mem_cons.1 hg with rfl|hg
   ·refine⟨by omega,?_⟩
    rw[ho,Nat.sub_self,List.drop_zero,List.take_left' hl];exact h2
   ·obtain⟨h5,h6⟩:=h4 g hg
    refine⟨by omega,?_⟩;rw[show g.offset-off=cf.length+(g.offset-(off+P.cellsOf f.type)) by omega,← List.drop_drop,List.drop_left' rfl];exact h6
theorem GS {P:Program} {W:World} {e:TypeId} {a:Addr} {len cap:Nat} {rows:List (List AV)} (hcap:cap≤9223372036854775807) (hlc:len≤cap) (hl:rows.length=len) (hsz:∀r∈rows,r.length=P.cellsOf e)
 (hr:∀i r,rows[i]? =some r→ ∃us:List Value,W.cells? 0 (a.add (i*P.cellsOf e)) (P.cellsOf e)=some us∧CM (fun _=>False) W r us):AV.M (fun _=>False) W (.sl len rows.flatten) (.slice (some a) len cap):=by
 by_cases h0:len*P.cellsOf e=0
 ·have:rows.flatten=[]:=List.eq_nil_of_length_eq_zero (by rw[ky hsz,hl];exact h0)
  rw[this];exact .emp hlc hcap (fun h=>by cases h)
 ·have hlen:0<len:=by
   rcases Nat.eq_zero_or_pos len with h|h
   ·rw[h,Nat.zero_mul]at h0;exact absurd rfl h0
   ·exact h
  have hcz:0<P.cellsOf e:=by
   rcases Nat.eq_zero_or_pos (P.cellsOf e)with h|h
   ·rw[h,Nat.mul_zero]at h0;exact absurd rfl h0
   ·exact h
  have hcell:∀q c,rows.flatten[q]? =some c→ ∃v,W.cell? (a.add q)=some v∧AV.M (fun _=>False) W c v:=by
   intro q c hq;have hql:q<len*P.cellsOf e:=by have:=(List.getElem?_eq_some_iff.1 hq).1;rwa[ky hsz,hl]at this
   have hi:q/P.cellsOf e<len:=Nat.div_lt_of_lt_mul (by rw[Nat.mul_comm];exact hql)
   have hj:q%P.cellsOf e<P.cellsOf e:=Nat.mod_lt _ hcz
   have e1:q=q/P.cellsOf e*P.cellsOf e+q%P.cellsOf e:=by have:=Nat.div_add_mod q (P.cellsOf e);rw[Nat.mul_comm]at this;omega
   have hrow':rows[q/P.cellsOf e]? =some (rows[q/P.cellsOf e]'(by omega)):=by simp
   have h1:=xm hsz _ _ hrow' (q%P.cellsOf e) hj;rw[← e1,hq]at h1;obtain⟨us,h3,h4⟩:=hr _ _ hrow';have h5:=(qA h3);have h6:us[q%P.cellsOf e]? =some (us[q%P.cellsOf e]'(by omega)):=by simp
   refine⟨_,?_,h4.2 _ c _ h1.symm h6⟩;have h7:=h5.2 _ _ h6
   have e2:(a.add (q/P.cellsOf e*P.cellsOf e)).add (q%P.cellsOf e)=a.add q:=by
    unfold Addr.add
    by_cases c1:q/P.cellsOf e*P.cellsOf e=0
    ·by_cases c2:q%P.cellsOf e=0
     ·rw[if_pos c1,if_pos c2,if_pos (by omega)]
     ·rw[if_pos c1,if_neg c2,if_neg (by omega)]
      simp <;>omega
    ·by_cases c2:q%P.cellsOf e=0
     ·rw[if_neg c1,if_pos c2,if_neg (by omega)]
      simp <;>omega
     ·rw[if_neg c1,if_neg c2,if_neg (by omega)]
      simp <;>omega
   rwa[e2]at h7
  have hfl:0<rows.flatten.length:=by rw[ky hsz,hl];exact Nat.mul_pos hlen hcz
  obtain⟨v0,h1,_⟩:=hcell 0 rows.flatten[0] (by simp);have e0:a.add 0=a:=rfl;rw[e0]at h1;obtain⟨b,off,spot⟩:=a
  have hsp:spot=none:=by
   cases spot with
   |none=>rfl
   |some q=>
    unfold World.cell? at h1
    split at h1
    ·simp at h1
    ·cases h1
  subst hsp;refine AV.M.sl (fun q=>(W.cell? ⟨b,off+q,none⟩).getD undef) hlc hcap (fun h=>h) (World.block_lt_of_cell? W _ h1) (fun q c hq=>?_) (fun q c hq=>?_)
  ·obtain⟨v,h3,_⟩:=hcell q c hq
   rw[dP]at h3;rw[h3];rfl
  ·obtain⟨v,h3,h4⟩:=hcell q c hq
   rw[dP]at h3;rw[h3];exact h4
section
variable {H:Type} {enc:TypeId × Value→H} {W:World} {P:Program}
theorem BE {L:List TypeId} (hL:u6 P L=true):∀(n:Nat) (t:TypeId) (vs:List Value) (x:DataW H × List MemPlace),t∈L→DataW.trod enc P W 0 (fun _=>true) true n t vs=some x →
 ∃cs,CM (fun _=>False) W cs vs∧Sh P n t cs:=by
 intro n
 induction n with
 |zero=>intro t vs x _ h;simp[DataW.trod]at h
 |succ n ih=>
  intro t vs x ht h;have hp:=List.all_eq_true.1 hL t ht
  simp only[Sh]
  cases hu:P.underlying t with
  |none=>rw[hu]at hp;simp at hp
  |some d=>
   rw[hu]at hp;cases d with
   |bool=>
    obtain⟨b,rfl,_⟩:=DataW.trod_bool hu h;exact⟨_,CM.cons (.val rfl) (CM.nil _ _),b,rfl⟩
   |int k=>
    obtain⟨i,rfl,_,h1⟩:=DataW.trod_int hu h;exact⟨_,CM.cons (.val rfl) (CM.nil _ _),i,rfl,h1⟩
   |string=>
    obtain⟨s,rfl,_,h1⟩:=DataW.trod_string hu h;exact⟨_,CM.cons (.val rfl) (CM.nil _ _),s,rfl,h1⟩
   |slice e=>
    have he:e∈L:=by simpa using hp
    rcases DataW.trod_slice hu h with⟨rfl,_⟩| ⟨a,len,cap,elems,rest,m,hm,rfl,_,_,hlc,hcm,hel,hget,_,_⟩
    ·exact⟨_,CM.cons (.emp (Nat.le_refl _) (by omega) (fun _=>rfl)) (CM.nil _ _),[],rfl,by simp,fun r hr=>by cases hr⟩
    ·obtain rfl:m=n:=by omega
     have hrow:∀i,i<len→ ∃(r:List AV) (us:List Value),W.cells? 0 (a.add (i*P.cellsOf e)) (P.cellsOf e)=some us∧CM (fun _=>False) W r us∧Sh P m e r:=by
      intro i hi;have h1:=hget i hi;have h2:elems[i]? =some elems[i]:=by simp
      rw[h2]at h1;obtain⟨us,h3,h4⟩:=Option.bind_eq_some_iff.1 h1;obtain⟨r,h5,h6⟩:=ih e us _ he h4;exact⟨r,us,h3,h5,h6⟩
     have hrows:∀k,k≤len→ ∃rows:List (List AV),rows.length=k∧ ∀i r,rows[i]? =some r→ ∃us:List Value,W.cells? 0 (a.add (i*P.cellsOf e)) (P.cellsOf e)=some us∧CM (fun _=>False) W r us∧Sh P m e r:=by
      intro k
      induction k with
      |zero=>intro _;exact⟨[],rfl,fun i r h=>by simp at h⟩
      |succ k ihk=>
       intro hk;obtain⟨rows,h1,h2⟩:=ihk (by omega);obtain⟨r,us,h3,h4,h5⟩:=hrow k (by omega);refine⟨rows++[r],by simp[h1],fun i q hq=>?_⟩
       by_cases hi:i<rows.length
       ·rw[List.getElem?_append_left hi]at hq;exact h2 i q hq
       ·have hil:=(List.getElem?_eq_some_iff.1 hq).1
        simp at hil
        have:i=k:=by omega
        subst this;rw[List.getElem?_append_right (by omega),h1,Nat.sub_self]at hq
        simp at hq
        subst hq;exact⟨us,h3,h4,h5⟩
     obtain⟨rows,hl,hr⟩:=hrows len (Nat.le_refl _)
     have hsz:∀r∈rows,r.length=P.cellsOf e:=by
      intro r hm;obtain⟨i,hi⟩:=List.getElem?_of_mem hm;obtain⟨us,h3,h4,_⟩:=hr i r hi;rw[h4.1,(qA h3).1]
     have hsh:∀r∈rows,Sh P m e r:=by
      intro r hm;obtain⟨i,hi⟩:=List.getElem?_of_mem hm;obtain⟨us,_,_,h5⟩:=hr i r hi;exact h5
     refine⟨[.sl len rows.flatten],CM.cons ?_ (CM.nil _ _),rows,by rw[hl],by omega,fun r hm=>⟨hsh r hm,hsz r hm⟩⟩;exact GS (rows:=rows) (by unfold maxLen at hcm;omega) hlc hl hsz (fun i r hi=>by obtain⟨us,h3,h4,_⟩:=hr i r hi;exact⟨us,h3,h4⟩)
   |struct fs=>
    simp only[Bool.and_eq_true]at hp
    obtain⟨xs,m,hm,_,hlen,hxl,hget⟩:=DataW.trod_struct hu h;obtain rfl:m=n:=by omega
    have htile:=hp.2;rw[← hlen]at htile
    obtain⟨cs,h1,h2⟩:=zu (P:=P) (w:=W) (vs:=vs) (Q:=Sh P m) fs.toList 0 htile (fun f hf=>by
     obtain⟨i,hi⟩:=List.getElem?_of_mem hf;have hi':fs[i]? =some f:=by simpa using hi
     have h3:=hget i f hi';have hil:i<xs.length:=by rw[hxl];exact(Array.getElem?_eq_some_iff.1 hi').1
     have h4:xs[i]? =some xs[i]:=by simp[hil]
     rw[h4]at h3;have hfL:f.type∈L:=by have:=List.all_eq_true.1 hp.1 f hf;simpa using this
     exact ih f.type _ _ hfL h3)
    rw[List.drop_zero]at h1;refine⟨cs,h1,by rw[h1.1,hlen],fun f hf=>?_⟩;have:=(h2 f hf).2
    rwa[Nat.sub_zero]at this
   |_=>simp at hp
theorem FO {L:List TypeId} (hL:u6 P L=true) {t:TypeId} (ht:t∈L) {v:Value} {d:DataW H} {p:List MemPlace} (h:DataW.Trod enc P W 0 (fun _=>true) true t v d p):
 ∃n cs,CM (fun _=>False) W cs v.cells.toList∧Sh P n t cs:=by
 obtain⟨n,hn⟩:=h;obtain⟨cs,h1,h2⟩:=BE hL n t _ _ ht hn;exact⟨n,cs,h1,h2⟩
theorem Iq {cs:List AV} {vs:Array Value} (h:CM (fun _=>False) W cs vs.toList):DV.M (fun _=>False) W (.agg cs) (.agg vs):=⟨vs.toList,by simp,h⟩
end
end
section
open Go.RowKit Go.Joins
theorem D9 {n:Nat} {cs:List AV} (h:Sh Tryz.prog n 22 cs):∃xs:List Nat,cs=[aW xs]∧Wd xs:=by
 cases n with
 |zero=>exact h.elim
 |succ n=>
  simp only[Sh,underlying22]at h
  obtain⟨rows,rfl,_,hr⟩:=h
  have key:∀rows:List (List AV),(∀r∈rows,Sh Tryz.prog n 82 r∧r.length=Tryz.prog.cellsOf 82)→ ∃xs:List Nat,rows.length=xs.length∧rows.flatten=(xs.map fun x:Nat=>AV.val (bB x))∧Wd xs:=by
   intro rows
   induction rows with
   |nil=>intro _;exact⟨[],rfl,rfl,fun x hx=>by cases hx⟩
   |cons r rows ih=>
    intro hr;obtain⟨xs,h1,h2,h3⟩:=ih (fun r hm=>hr r (by simp[hm]));have h4:=(hr r (by simp)).1;cases n with
    |zero=>exact h4.elim
    |succ n=>
     simp only[Sh,underlying82]at h4
     obtain⟨i,rfl,hw⟩:=h4;have hb:=bounds_u32 hw;refine⟨i.toNat::xs,by simp[h1],?_,fun x hx=>?_⟩
     ·rw[List.flatten_cons,h2,List.map_cons]
      have:AV.val (.int .u32 i)=AV.val (bB i.toNat):=by unfold bB;congr 2;omega
      rw[this];rfl
     ·rcases List.mem_cons.1 hx with rfl|hx
      ·omega
      ·exact h3 x hx
  obtain⟨xs,h1,h2,h3⟩:=key rows hr;exact⟨xs,by unfold aW;rw[h1,h2],h3⟩
set_option maxRecDepth 100000 in
theorem DU {n:Nat} {cs:List AV} (h:Sh Tryz.prog n 24 cs):∃na xs,cs=aI na xs∧Wd xs:=by
 cases n with
 |zero=>exact h.elim
 |succ n=>
  simp only[Sh,underlying24,List.forall_mem_cons,List.not_mem_nil,false_imp_iff,implies_true,and_true]at h
  obtain⟨hl,h0,h1⟩:=h;rw[show Tryz.prog.cellsOf 24=2 by kernel_rfl]at hl;rw[show Tryz.prog.cellsOf 4=1 by kernel_rfl]at h0;rw[show Tryz.prog.cellsOf 22=1 by kernel_rfl]at h1
  match cs,hl with
  | [c0,c1],_=>
   obtain⟨xs,e1,hw⟩:=D9 h1;cases n with
   |zero=>exact h0.elim
   |succ n=>
    simp only[Sh,underlying4]at h0
    obtain⟨b,e0⟩:=h0
    simp at e0 e1
    subst e0 e1;exact⟨b,xs,rfl,hw⟩
set_option maxRecDepth 100000 in
theorem HL {n:Nat} {cs:List AV} (h:Sh Tryz.prog n 26 cs):∃na xs nb ys,cs=Dm na xs nb ys∧Wd xs∧Wd ys:=by
 cases n with
 |zero=>exact h.elim
 |succ n=>
  simp only[Sh,underlying26,List.forall_mem_cons,List.not_mem_nil,false_imp_iff,implies_true,and_true]at h
  obtain⟨hl,h0,h1⟩:=h;rw[show Tryz.prog.cellsOf 26=4 by kernel_rfl]at hl;rw[show Tryz.prog.cellsOf 24=2 by kernel_rfl]at h0 h1
  match cs,hl with
  | [c0,c1,c2,c3],_=>
   obtain⟨na,xs,e0,w0⟩:=DU h0;obtain⟨nb,ys,e1,w1⟩:=DU h1;refine⟨na,xs,nb,ys,?_,w0,w1⟩;show [c0,c1,c2,c3]=aI na xs++aI nb ys;rw[← e0,← e1];rfl
theorem BK {n:Nat} {cs:List AV} (h:Sh Tryz.prog n 9 cs):∃l:List UInt8,cs=[.val (vL l)]∧l.length≤9223372036854775807:=by
 cases n with
 |zero=>exact h.elim
 |succ n=>
  simp only[Sh,underlying9]at h
  obtain⟨s,rfl,hs⟩:=h;obtain⟨l,rfl⟩:∃l,Bs l=s:=⟨_,Er s⟩;refine⟨l,rfl,?_⟩;rw[aB]at hs;unfold maxLen at hs;exact hs
theorem Iy {n:Nat} {cs:List AV} (h:Sh Tryz.prog n 3 cs):∃i:Int,cs=[.val (.int .i64 i)]∧ -9223372036854775808≤i∧i≤9223372036854775807:=by
 cases n with
 |zero=>exact h.elim
 |succ n=>
  simp only[Sh,underlying3]at h
  obtain⟨i,rfl,hw⟩:=h;exact⟨i,rfl,bounds_i64 hw⟩
end
inductive Rx where
 |mk (op:Int) (na:Bool) (xs:List Nat) (nb:Bool) (ys:List Nat) (nm:List UInt8) (args:List Rx)
mutual
def aR:Rx→List AV
 | .mk op na xs nb ys nm args=>[.val (.int .i64 op)]++Dm na xs nb ys++[.val (vL nm), .sl args.length (cZ args)]
def cZ:List Rx→List AV
 | []=>[]
 |x::r=>aR x++cZ r
end
def dR (x:Rx):DV:= .agg (aR x)
theorem CR (x:Rx):(aR x).length=7:=by
 obtain⟨op,na,xs,nb,ys,nm,args⟩:=x;rfl
theorem fR:∀(l:List Rx) (i:Nat) (x:Rx),l[i]? =some x→ ∀(j:Nat) (a:AV),(aR x)[j]? =some a→(cZ l)[i*7+j]? =some a
 | [],i,x,h,_,_,_=>by simp at h
 |y::l,0,x,h,j,a,ha=>by
  simp at h
  subst h
  simp only[cZ,Nat.zero_mul,Nat.zero_add]
  rw[List.getElem?_append_left (List.getElem?_eq_some_iff.1 ha).1];exact ha
 |y::l,i+1,x,h,j,a,ha=>by
  simp only[cZ]
  rw[List.getElem?_append_right (by rw[CR,Nat.add_mul];omega),CR,show(i+1)*7+j-7=i*7+j by rw[Nat.add_mul];omega];exact fR l i x (by simpa using h) j a ha
inductive nu:Rx→Prop
 |mk {op:Int} {na:Bool} {xs:List Nat} {nb:Bool} {ys:List Nat} {nm:List UInt8} {args:List Rx}: -9223372036854775808≤op→op≤9223372036854775807→Wd xs→Wd ys→nm.length≤9223372036854775807→args.length≤9223372036854775807→(∀x∈args,nu x)→nu (.mk op na xs nb ys nm args)
set_option maxRecDepth 100000 in
theorem Gb:∀(n:Nat) (cs:List AV),Sh Tryz.prog n 29 cs→ ∃x,cs=aR x∧nu x:=by
 intro n
 induction n using Nat.strongRecOn with
 |_ n ih=>
  intro cs h;cases n with
  |zero=>exact h.elim
  |succ n=>
   simp only[Sh,underlying29,List.forall_mem_cons,List.not_mem_nil,false_imp_iff,implies_true,and_true]at h
   obtain⟨hl,h0,h1,h2,h3⟩:=h;rw[show Tryz.prog.cellsOf 29=7 by kernel_rfl]at hl;rw[show Tryz.prog.cellsOf 3=1 by kernel_rfl]at h0;rw[show Tryz.prog.cellsOf 26=4 by kernel_rfl]at h1;rw[show Tryz.prog.cellsOf 9=1 by kernel_rfl]at h2;rw[show Tryz.prog.cellsOf 27=1 by kernel_rfl]at h3
   match cs,hl with
   | [c0,c1,c2,c3,c4,c5,c6],_=>
    obtain⟨op,e0,b0,b1⟩:=Iy h0;obtain⟨na,xs,nb,ys,e1,w0,w1⟩:=HL h1;obtain⟨nm,e2,hn⟩:=BK h2;have e0:[c0]=[.val (.int .i64 op)]:=e0;have e1:[c1,c2,c3,c4]=Dm na xs nb ys:=e1;have e2:[c5]=[.val (vL nm)]:=e2;have h3:Sh Tryz.prog n 27 [c6]:=h3;cases n with
    |zero=>exact h3.elim
    |succ n=>
     simp only[Sh,underlying27]at h3
     obtain⟨rows,e3,hm,hr⟩:=h3
     have key:∀rows:List (List AV),(∀r∈rows,Sh Tryz.prog n 29 r∧r.length=Tryz.prog.cellsOf 29)→ ∃l:List Rx,rows.length=l.length∧rows.flatten=cZ l∧ ∀x∈l,nu x:=by
      intro rows
      induction rows with
      |nil=>intro _;exact⟨[],rfl,rfl,fun x hx=>by cases hx⟩
      |cons r rows ihr=>
       intro hr;obtain⟨l,k1,k2,k3⟩:=ihr (fun r hm=>hr r (by simp[hm]));obtain⟨x,k4,k5⟩:=ih n (by omega) r (hr r (by simp)).1;refine⟨x::l,by simp[k1],by rw[List.flatten_cons,k2,k4];rfl,fun y hy=>?_⟩;rcases List.mem_cons.1 hy with rfl|hy
       ·exact k5
       ·exact k3 y hy
     obtain⟨l,k1,k2,k3⟩:=key rows hr;refine⟨.mk op na xs nb ys nm l,?_, .mk b0 b1 w0 w1 hn (by unfold maxLen at hm;omega) k3⟩;show [c0,c1,c2,c3,c4,c5,c6]=[.val (.int .i64 op)]++Dm na xs nb ys++[.val (vL nm), .sl l.length (cZ l)]
     simp at e0 e2 e3
     rw[← e1,e0,e2,e3,k1,k2];rfl
theorem below_grow (w:World) (k:Nat) (os:Array Obj):Below w.heap.size w (Go.Sort.grow (w.drewN k) os):=by
 refine⟨rfl,rfl,rfl,?_,fun b hb=>?_⟩
 ·show w.heap.size≤(w.heap++os).size
  simp
 ·show(w.heap++os)[b]? =w.heap[b]?
  rw[Array.getElem?_append_left hb]
inductive B4 where
 |add
 |sub
 |mul
 |div
def B4.code:B4→Int
 | .add=>4
 | .sub=>5
 | .mul=>6
 | .div=>7
inductive Ex where
 |num (v:Rat) (u:List UInt8)
 |nam (s:List UInt8)
 |neg (a:Ex)
 |bin (k:B4) (a b:Ex)
def rx:Ex→Rx
 | .num v u=> .mk 1 (decide (v.num<0)) (digs v.num.natAbs) (decide ((v.den:Int)<0)) (digs (v.den:Int).natAbs) u []
 | .nam s=> .mk 2 false [] false [] s []
 | .neg a=> .mk 3 false [] false [] [] [rx a]
 | .bin k a b=> .mk k.code false [] false [] [] [rx a,rx b]
def aE (e:Ex):List AV:=aR (rx e)
def dE (e:Ex):DV:= .agg (aE e)
theorem nZ (a:Ex):aE (.neg a)=[.val (.int .i64 3)]++nz++[.val (vL []), .sl 1 (aE a)]:=by
 show [.val (.int .i64 3)]++Dm false [] false []++[.val (vL []), .sl 1 (aR (rx a)++[])]=_;rw[List.append_nil];rfl
theorem j8 (k:B4) (a b:Ex):aE (.bin k a b)=[.val (.int .i64 k.code)]++nz++[.val (vL []), .sl 2 (aE a++aE b)]:=by
 show [.val (.int .i64 k.code)]++Dm false [] false []++[.val (vL []), .sl 2 (aR (rx a)++(aR (rx b)++[]))]=_;rw[List.append_nil];rfl
abbrev EL:=List (List UInt8 × (Rat × Int))
theorem qn:∀a:List UInt8,Op.bytesLess a a=false
 | []=>rfl
 |x::a=>by simp[Op.bytesLess,qn a]
theorem i6:∀{a b c:List UInt8},Op.bytesLess a b=true→Op.bytesLess b c=true→Op.bytesLess a c=true
 |_,_,[],_,h=>by simp[Op.bytesLess]at h
 | [],_,_::_,_,_=>rfl
 |_::_,[],_::_,h,_=>by simp[Op.bytesLess]at h
 |x::a,y::b,z::c,h,k=>by
  simp only[Op.bytesLess,Bool.or_eq_true,Bool.and_eq_true,decide_eq_true_eq,beq_iff_eq]at h k ⊢
  rcases h with h| ⟨rfl,h⟩
  ·rcases k with k| ⟨rfl,k⟩
   ·exact .inl (UInt8.lt_trans h k)
   ·exact .inl h
  ·rcases k with k| ⟨rfl,k⟩
   ·exact .inl k
   ·exact .inr ⟨rfl,i6 h k⟩
theorem qu:∀{a b:List UInt8},Op.bytesLess a b=false→Op.bytesLess b a=false→a=b
 | [],[],_,_=>rfl
 | [],_::_,h,_=>by simp[Op.bytesLess]at h
 |_::_,[],_,h=>by simp[Op.bytesLess]at h
 |x::a,y::b,h,k=>by
  simp only[Op.bytesLess,Bool.or_eq_false_iff,Bool.and_eq_false_iff,decide_eq_false_iff_not,beq_eq_false_iff_ne]at h k
  have h1:x=y:=by
   rcases Nat.lt_trichotomy x.toNat y.toNat with h2|h2|h2
   ·exact absurd (UInt8.lt_iff_toNat_lt.2 h2) h.1
   ·exact UInt8.toNat_inj.1 h2
   ·exact absurd (UInt8.lt_iff_toNat_lt.2 h2) k.1
  subst h1;rw[qu (h.2.resolve_left (fun e=>e rfl)) (k.2.resolve_left (fun e=>e rfl))]
theorem Ba {t:TypeId} {x y:Operand} {a b:List UInt8}:me .lss t x y (vL a) (vL b)=some (.bool (Op.bytesLess a b)):=by
 show some (Value.bool (Op.bytesLess (Bs a).toList (Bs b).toList))=_;rw[gX,gX]
section
variable {l:EL}
def ac (o:Int) (na:Bool) (xs:List Nat) (nb:Bool) (ys:List Nat) (nm:List UInt8) (n:Nat) (cs:List AV):List AV:=[.val (.int .i64 o), .val (.bool na),aW xs, .val (.bool nb),aW ys, .val (vL nm), .sl n cs]
theorem aX (a:Ex):∃o na xs nb ys nm n cs,aE a=ac o na xs nb ys nm n cs:=by
 unfold aE;generalize rx a=x;obtain⟨op,na,xs,nb,ys,nm,args⟩:=x;exact⟨op,na,xs,nb,ys,nm,args.length,cZ args,rfl⟩
theorem zN (a:List AV):∀(j:Nat) (x:AV),a[j]? =some x→a[0*7+j]? =some x:=fun j x h=>by rw[Nat.zero_mul,Nat.zero_add];exact h
theorem pt (a b:List AV):∀(j:Nat) (x:AV),a[j]? =some x→(a++b)[0*7+j]? =some x:=fun j x h=>by
 rw[Nat.zero_mul,Nat.zero_add,List.getElem?_append_left (List.getElem?_eq_some_iff.1 h).1];exact h
theorem mQ {a:List AV} (b:List AV) (ha:a.length=7):∀(j:Nat) (x:AV),b[j]? =some x→(a++b)[1*7+j]? =some x:=fun j x h=>by
 rw[List.getElem?_append_right (by rw[ha];omega),ha,show 1*7+j-7=j by omega];exact h
end
section
variable {l:EL}
end
section
variable {P:Program} {T:TypeId→Option Ty} {n:Nat} {ops:Array Oper} {id:Nat} {draw:Bool} {K:AS→Prop} {s:AS} {k:Nat} {o:Oper} {os:List Oper} {fps:List FP}
theorem G4 {x y:Operand} {ts:Array TypeId} {a b m:Int} (hm:max a b=m) (h1:gd ops s o=some true) (h2:o.op= .call ⟨.builtin .max,#[x,y],ts⟩) (h7:s.ev x= .d (dN .i64 a)) (h8:s.ev y= .d (dN .i64 b))
 (h3:bd n o.dst=true) (h4:gN draw ops (aM ops o ⟨.d (dN .i64 m),none⟩ []) k fps=true) (h:aw P T n ops id draw K (k+1) os (s.eff o.dst ⟨.d (dN .i64 m),none⟩) (aM ops o ⟨.d (dN .i64 m),none⟩ []::fps)):aw P T n ops id draw K k (o::os) s fps:=by
 subst hm;refine .run h1 (.gen fun s2 ht _=>?_) h3 h4 h;have hx:=(aL ht (x:=x) (by simp[h2,Op.operands,Call.operands])).trans h7;have hy:=(aL ht (x:=y) (by simp[h2,Op.operands,Call.operands])).trans h8;refine aj fun n S0 w0 g a' w hM=>⟨.int .i64 (max a b),w,?_,Below.refl _ _,AV.M.val rfl⟩
 have hm:(Builtin.max2 (.int .i64 a) (.int .i64 b)).run P w= .ok (.int .i64 (max a b)) w:=by
  have e:max a b=if b > a then b else a:=by split <;>omega
  rw[e];rfl
 simp[execOp,h2,resolve,invoke,builtin,Builtin.max_,bw hM hx,bw hM hy,Sem.run_bind,hm]
end
theorem dx {p:Rx→Prop} (h:∀op na xs nb ys nm args,(∀y∈args,p y)→p (.mk op na xs nb ys nm args)):∀x,p x
 | .mk op na xs nb ys nm args=>h op na xs nb ys nm args (fun y hy=>dx h y)
decreasing_by
 have:=List.sizeOf_lt_of_mem hy
 simp
 omega
theorem au (x:Rx):∃o na xs nb ys nm n cs,aR x=ac o na xs nb ys nm n cs:=by
 obtain⟨op,na,xs,nb,ys,nm,args⟩:=x;exact⟨op,na,xs,nb,ys,nm,args.length,cZ args,rfl⟩
mutual
def jm:Rx→Nat
 | .mk _ _ _ _ _ _ args=>iw args+1
def iw:List Rx→Nat
 | []=>0
 |x::r=>jm x+iw r
end
mutual
def sd:Rx→Nat→Nat
 | .mk _ _ _ _ _ _ args,m=>xX args 1 m
def xX:List Rx→Nat→Nat→Nat
 | [],n,_=>n
 |y::r,n,m=>if n≤m then xX r (n+sd y (m-n)) m else n
end
theorem xJ:∀{l:List Rx} {n m:Nat},m<n→xX l n m=n
 | [],n,m,_=>rfl
 |y::r,n,m,h=>by rw[xX,if_neg (by omega)]
theorem Db {l:List Rx} {i:Nat} (h:i<l.length) {n m:Nat} (hn:n≤m):xX (l.drop i) n m=xX (l.drop (i+1)) (n+sd l[i] (m-n)) m:=by
 rw[List.drop_eq_getElem_cons h,xX,if_pos hn]
theorem og:∀(x:Rx) (m:Nat),1≤sd x m∧sd x m≤m+1∧(sd x m≤m→sd x m=jm x):=by
 refine dx fun op na xs nb ys nm args ih m=>?_
 have key:∀(l:List Rx),(∀y∈l,∀m,1≤sd y m∧sd y m≤m+1∧(sd y m≤m→sd y m=jm y))→ ∀n,1≤n→n≤m+1→1≤xX l n m∧xX l n m≤m+1∧(xX l n m≤m→xX l n m=n+iw l):=by
  intro l
  induction l with
  |nil=>intro _ n h1 h2;exact⟨h1,h2,fun _=>rfl⟩
  |cons y r ihr=>
   intro h n h1 h2
   by_cases hn:n≤m
   ·rw[xX,if_pos hn]
    obtain⟨a1,a2,a3⟩:=h y (by simp) (m-n);obtain⟨b1,b2,b3⟩:=ihr (fun z hz=>h z (by simp[hz])) (n+sd y (m-n)) (by omega) (by omega);refine⟨b1,b2,fun hle=>?_⟩;rw[b3 hle,iw]
    by_cases hm:n+sd y (m-n)≤m
    ·rw[a3 (by omega)];omega
    ·rw[xJ (by omega)]at hle;omega
   ·rw[xX,if_neg hn]
    exact⟨h1,h2,fun h=>absurd h hn⟩
 rw[sd,jm];obtain⟨c1,c2,c3⟩:=key args ih 1 (Nat.le_refl _) (by omega);exact⟨c1,c2,fun h=>by rw[c3 h];omega⟩
theorem En:∀(x:Rx),nu x→ ∀m:Nat,m≤1000000→aa Tryz.prog 28 [dR x,dN .i64 m] (.one (dN .i64 (sd x m))):=by
 refine dx fun op na xs nb ys nm args ih hx m hm=>?_
 obtain⟨_,_,_,_,_,hlen,hargs⟩:=hx;show aa Tryz.prog _ [.agg (ac op na xs nb ys nm args.length (cZ args)),_] _;have ht0:=(og (.mk op na xs nb ys nm args) m).2.1;rw[sd]at ht0 ⊢;generalize ht:xX args 1 m=t at ht0;refine kV func28 ?_
 refine aS (Nat × Nat) (fun s=>s.1≤args.length∧1≤s.2∧s.2≤m+1∧xX (args.drop s.1) s.2 m=t) (fun s=>⟨[(1, .d (dN .i64 m)),(2, .box 0 0),(4, .d (dN .i64 0)),(5, .d (dN .i64 s.2)),(6, .d (dN .i64 s.1))],[(0,some (ac op na xs nb ys nm args.length (cZ args)))]⟩) (fun s=>args.length-s.1) (0,1) ⟨Nat.zero_le _,Nat.le_refl _,by dsimp only;omega,ht⟩
  (weak ⟨rfl,rfl,rfl,rfl,rfl,trivial⟩ ⟨rfl,trivial⟩ rfl) ?_
 rintro⟨i,n⟩ ⟨hi,h1,h2,hd⟩;dsimp only at hi h1 h2 hd ⊢;refine kI ?_
 refine kO4 ?_
 by_cases hlt:i<args.length
 ·refine kT ?_
  refine kO3 ?_
  by_cases hn:n≤m
  ·refine kT ?_
   obtain⟨o1,na1,xs1,nb1,ys1,nm1,n1,cs1,hA⟩:=au args[i];have hat:∀(j:Nat) (a:AV),(ac o1 na1 xs1 nb1 ys1 nm1 n1 cs1)[j]? =some a→(cZ args)[i*7+j]? =some a:=fun j a h=>fR args i args[i] (by simp[hlt]) j a (by rw[hA];exact h)
   have c:=ih args[i] (List.getElem_mem hlt) (hargs _ (List.getElem_mem hlt)) (m-n) (by omega);rw[show dR args[i]= .agg (ac o1 na1 xs1 nb1 ys1 nm1 n1 cs1) from congrArg DV.agg hA]at c;obtain⟨k1,k2,_⟩:=og args[i] (m-n);have hstep:=Db hlt hn;generalize sd args[i] (m-n)=k at *;refine kW ?_;refine bl (i:=i) (cs':=ac o1 na1 xs1 nb1 ys1 nm1 n1 cs1) hlt hat (Nat.zero_lt_succ 6) rfl rfl rfl rfl rfl rfl rfl rfl ?_
   refine kO3 ?_
   refine kJ ((m-n:Nat)) ?_;refine kQ (c) ?_;exact⟨(i+1,n+k),⟨hlt,by dsimp only;omega,by dsimp only;omega,by dsimp only;rw[← hstep];exact hd⟩,by dsimp only;omega,weak ⟨rfl,rfl,rfl,aG (by omega) (by omega),aG (by omega) (by omega),trivial⟩ ⟨rfl,trivial⟩ rfl⟩
  ·refine kE ?_
   refine kW ?_;rw[← hd,xJ (by omega)];exact bu (T:=TT) rfl rfl
 ·refine kE ?_
  refine kW ?_;rw[← hd,List.drop_eq_nil_of_le (by omega),xX];exact bu (T:=TT) rfl rfl
mutual
def vH:Rx→Bool
 | .mk _ _ xs _ ys nm args=>xu args && (decide (xs.length≤8) && decide (ys.length≤8) && decide (nm.length≤60))
def xu:List Rx→Bool
 | []=>true
 |y::r=>vH y && xu r
end
theorem m4:∀{l:List Rx},xu l=true→ ∀y∈l,vH y=true
 |a::l,h,y,hy=>by
  simp only[xu,Bool.and_eq_true]at h
  rcases List.mem_cons.1 hy with rfl|hy
  ·exact h.1
  ·exact m4 h.2 y hy
theorem wM:∀{l:List Rx},(∀(q:Nat) (y:Rx),l[q]? =some y→vH y=true)→xu l=true
 | [],_=>rfl
 |a::l,h=>by
  simp only[xu,Bool.and_eq_true]
  exact⟨h 0 a rfl,wM fun q y hq=>h (q+1) y (by simpa using hq)⟩
theorem EG:∀(x:Rx),nu x→aa Tryz.prog 29 [dR x] (.one (dB (vH x))):=by
 refine dx fun op na xs nb ys nm args ih hx=>?_
 obtain⟨_,_,_,_,_,hlen,hargs⟩:=hx;have hB:=aB nm;show aa Tryz.prog _ [.agg (ac op na xs nb ys nm args.length (cZ args))] _;refine kV func29 ?_
 refine aS Nat (fun i=>i≤args.length∧ ∀(q:Nat) y,q<i→args[q]? =some y→vH y=true) (fun i=>⟨[(1, .box 0 0),(2, .d (dB false)),(3, .d (dN .i64 i))],[(0,some (ac op na xs nb ys nm args.length (cZ args)))]⟩) (fun i=>args.length-i) 0 ⟨Nat.zero_le _,fun q y h=>absurd h (Nat.not_lt_zero _)⟩
  (weak ⟨rfl,rfl,rfl,trivial⟩ ⟨rfl,trivial⟩ rfl) ?_
 rintro i ⟨hi,hq⟩;refine kI ?_
 refine kO4 ?_
 by_cases hlt:i<args.length
 ·refine kT ?_
  obtain⟨o1,na1,xs1,nb1,ys1,nm1,n1,cs1,hA⟩:=au args[i];have hx:args[i]? =some args[i]:=by simp[hlt]
  have hat:∀(j:Nat) (a:AV),(ac o1 na1 xs1 nb1 ys1 nm1 n1 cs1)[j]? =some a→(cZ args)[i*7+j]? =some a:=fun j a h=>fR args i args[i] hx j a (by rw[hA];exact h)
  have c:=ih args[i] (List.getElem_mem hlt) (hargs _ (List.getElem_mem hlt));rw[show dR args[i]= .agg (ac o1 na1 xs1 nb1 ys1 nm1 n1 cs1) from congrArg DV.agg hA]at c;refine kW ?_;refine bl (i:=i) (cs':=ac o1 na1 xs1 nb1 ys1 nm1 n1 cs1) hlt hat (Nat.zero_lt_succ 6) rfl rfl rfl rfl rfl rfl rfl rfl ?_;refine kO ?_;cases hb:vH args[i]
  ·rw[hb]at c
   refine kQ (c) ?_
   rw[show vH (.mk op na xs nb ys nm args)=false by
    rw[vH,Bool.and_eq_false_iff];refine .inl ?_;cases h:xu args
    ·rfl
    ·rw[m4 h _ (List.getElem_mem hlt)]at hb;cases hb]
   exact bu (T:=TT) rfl rfl
  ·rw[hb]at c
   refine kQ (c) ?_
   exact⟨i+1,⟨hlt,fun q y h1 h2=>by
    by_cases e:q=i
    ·subst e;rw[hx]at h2;cases h2;exact hb
    ·exact hq q y (by omega) h2⟩,by omega,weak ⟨rfl,rfl,aG (by omega) (by omega),trivial⟩ ⟨rfl,trivial⟩ rfl⟩
 ·refine kE ?_
  have hall:xu args=true:=wM fun q y h=>hq q y (by have:=(List.getElem?_eq_some_iff.1 h).1;omega) h
  rw[vH,hall,Bool.true_and];refine kN ?_;refine av (T:=TT) ?_;refine bK (T:=TT) rfl ?_;refine cV ?_;refine kI ?_
  refine kO5 ?_
  by_cases l1:xs.length≤8
  ·refine kT ?_
   iterate 6 refine kO ?_
   by_cases l2:ys.length≤8
   ·refine kT ?_
    refine kO5 ?_
    by_cases l3:nm.length≤60
    ·refine kT ?_
     refine kW ?_;rw[decide_eq_true l1,decide_eq_true l2,decide_eq_true l3];exact bu (T:=TT) rfl rfl
    ·refine kE ?_
     refine kW ?_;rw[decide_eq_true l1,decide_eq_true l2,decide_eq_false l3];exact bu (T:=TT) rfl rfl
   ·refine kE ?_
    refine kW ?_;rw[decide_eq_true l1,decide_eq_false l2];exact bu (T:=TT) rfl rfl
  ·refine kE ?_
   refine kW ?_;rw[decide_eq_false l1];exact bu (T:=TT) rfl rfl
mutual
def rz:Rx→Nat
 | .mk _ _ _ _ _ _ args=>jV args+1
def jV:List Rx→Nat
 | []=>0
 |y::r=>max (rz y) (jV r)
end
theorem Et:∀x,rz x≤jm x:=by
 refine dx fun op na xs nb ys nm args ih=>?_
 have key:∀l:List Rx,(∀y∈l,rz y≤jm y)→jV l≤iw l:=by
  intro l
  induction l with
  |nil=>intro _;exact Nat.le_refl _
  |cons y r ihr=>
   intro h;have h1:=h y (by simp);have h2:=ihr fun z hz=>h z (by simp[hz])
   rw[jV,iw];omega
 rw[rz,jm];have:=key args ih;omega
theorem lz:∀{l:List Rx} {y:Rx},y∈l→jm y≤iw l
 |a::l,y,h=>by
  rw[iw];rcases List.mem_cons.1 h with rfl|h
  ·omega
  ·have:=lz h;omega
theorem uF:∀{l:List Rx} {y:Rx},y∈l→rz y≤jV l
 |a::l,y,h=>by
  rw[jV];rcases List.mem_cons.1 h with rfl|h
  ·omega
  ·have:=uF h;omega
theorem ww:∀(x:Rx),nu x→jm x≤1000000→aa Tryz.prog 19 [dR x] (.one (dN .i64 (rz x))):=by
 refine dx fun op na xs nb ys nm args ih hx hs=>?_
 have hd0:=Et (.mk op na xs nb ys nm args);obtain⟨_,_,_,_,_,hlen,hargs⟩:=hx;rw[jm]at hs;rw[rz,jm]at hd0;show aa Tryz.prog _ [.agg (ac op na xs nb ys nm args.length (cZ args))] _;refine kV func19 ?_
 refine aS (Nat × Nat) (fun s=>s.1≤args.length∧s.2≤jV args∧max s.2 (jV (args.drop s.1))=jV args) (fun s=>⟨[(1, .box 0 0),(2, .d (dN .i64 0)),(3, .d (dN .i64 s.2)),(4, .d (dN .i64 s.1))],[(0,some (ac op na xs nb ys nm args.length (cZ args)))]⟩) (fun s=>args.length-s.1) (0,0) ⟨Nat.zero_le _,Nat.zero_le _,Nat.zero_max _⟩
  (weak ⟨rfl,rfl,rfl,rfl,trivial⟩ ⟨rfl,trivial⟩ rfl) ?_
 rintro⟨i,d⟩ ⟨hi,h1,h2⟩;dsimp only at hi h1 h2 ⊢;refine kI ?_
 refine kO4 ?_
 by_cases hlt:i<args.length
 ·refine kT ?_
  obtain⟨o1,na1,xs1,nb1,ys1,nm1,n1,cs1,hA⟩:=au args[i];have hx:args[i]? =some args[i]:=by simp[hlt]
  have hat:∀(j:Nat) (a:AV),(ac o1 na1 xs1 nb1 ys1 nm1 n1 cs1)[j]? =some a→(cZ args)[i*7+j]? =some a:=fun j a h=>fR args i args[i] hx j a (by rw[hA];exact h)
  have hm:=List.getElem_mem hlt;have hsz:=lz hm;have hdp:=uF hm;have c:=ih args[i] hm (hargs _ hm) (by omega);rw[show dR args[i]= .agg (ac o1 na1 xs1 nb1 ys1 nm1 n1 cs1) from congrArg DV.agg hA]at c;rw[List.drop_eq_getElem_cons hlt,jV]at h2;generalize rz args[i]=k at *;refine kW ?_;refine bl (i:=i) (cs':=ac o1 na1 xs1 nb1 ys1 nm1 n1 cs1) hlt hat (Nat.zero_lt_succ 6) rfl rfl rfl rfl rfl rfl rfl rfl ?_;refine kO ?_;refine kC (c) ?_;refine G4 (a:=d) (b:=k) (m:=(max d k:Nat)) (by omega) rfl rfl rfl rfl rfl rfl ?_;refine kW ?_;exact⟨(i+1,max d k),⟨hlt,by dsimp only;omega,by dsimp only;omega⟩,by dsimp only;omega,weak ⟨rfl,rfl,rfl,aG (by omega) (by omega),trivial⟩ ⟨rfl,trivial⟩ rfl⟩
 ·refine kE ?_
  rw[List.drop_eq_nil_of_le (by omega),jV]at h2;have hdd:d=jV args:=by omega
  rw[rz,← hdd];refine kN ?_;refine av (T:=TT) ?_;refine bK (T:=TT) rfl ?_;refine cV ?_;refine kI ?_;refine kO ?_;refine kJ ((d+1:Nat)) ?_;exact kF
section
open Go.ChangeShapes Go.WideShapes Go.ChangeAt Go.RowKit Go.Joins
def tf {H:Type}:Nat→DataW H→Option (List AV)
 |0,_=>none
 |n+1,d=>match d with
  | .lit (.bool b)=>some [.val (.bool b)]
  | .lit (.int k i)=>some [.val (.int k i)]
  | .lit (.string l)=>some [.val (.string ⟨l.toArray⟩)]
  | .nil=>some [.sl 0 []]
  | .slice es _=>match i8 (tf n) es with
   |some rows=>some [.sl rows.length rows.flatten]
   |none=>none
  | .agg es=>match i8 (tf n) es with
   |some ps=>some ps.flatten
   |none=>none
  |_=>none
theorem ru {α β:Type} {f g:α→Option β}:∀{xs:List α} {ys zs:List β},(∀x∈xs,∀y z,f x=some y→g x=some z→y=z)→i8 f xs=some ys→i8 g xs=some zs→ys=zs
 | [],ys,zs,_,h,k=>by simp only[i8,Option.some.injEq]at h k;rw[← h,← k]
 |x::xs,ys,zs,hfg,h,k=>by
  simp only[i8]at h k
  cases h1:f x with
  |none=>rw[h1]at h;simp at h
  |some y=>
   cases h2:i8 f xs with
   |none=>rw[h1,h2]at h;simp at h
   |some ys'=>
    cases k1:g x with
    |none=>rw[k1]at k;simp at k
    |some z=>
     cases k2:i8 g xs with
     |none=>rw[k1,k2]at k;simp at k
     |some zs'=>
      rw[h1,h2]at h;rw[k1,k2]at k
      simp only[Option.some.injEq]at h k
      rw[← h,← k,hfg x (by simp) y z h1 k1,ru (fun x hx=>hfg x (by simp[hx])) h2 k2]
theorem Aj {H:Type}:∀(n m:Nat) (d:DataW H) (cs cs':List AV),tf n d=some cs→tf m d=some cs'→cs=cs'
 |0,_,_,_,_,h,_=>by simp[tf]at h
 |_+1,0,_,_,_,_,h=>by simp[tf]at h
 |n+1,m+1,d,cs,cs',h,h'=>by
  have ih:=Aj (H:=H) n m;unfold tf at h h'
  split at h
  ·simp_all
  ·simp_all
  ·simp_all
  ·simp_all
  ·simp only at h'
   split at h
   ·split at h'
    ·rename_i r1 h1 _ r2 h2
     have:=ru (fun x _ y z=>ih x y z) h1 h2;subst this;rw[← Option.some.inj h,← Option.some.inj h']
    ·cases h'
   ·cases h
  ·simp only at h'
   split at h
   ·split at h'
    ·rename_i r1 h1 _ r2 h2
     have:=ru (fun x _ y z=>ih x y z) h1 h2;subst this;rw[← Option.some.inj h,← Option.some.inj h']
    ·cases h'
   ·cases h
  ·cases h
theorem pg {α β:Type} {f:α→Option β}:∀{xs:List α} {ys:List β},xs.length=ys.length→(∀(i:Nat) (x:α) (y:β),xs[i]? =some x→ys[i]? =some y→f x=some y)→i8 f xs=some ys
 | [],[],_,_=>rfl
 | [],_::_,h,_=>by cases h
 |_::_,[],h,_=>by cases h
 |x::xs,y::ys,h,hf=>by
  simp only[i8,hf 0 x y rfl rfl,pg (xs:=xs) (ys:=ys) (by simpa using h) (fun i x y h1 h2=>hf (i+1) x y (by simpa using h1) (by simpa using h2))]
def uS (P:Program) (L:List TypeId):Bool:=L.all fun t=>match P.underlying t with
 |some .bool=>true
 |some (.int _)=>true
 |some .string=>true
 |some (.slice e)=>L.elem e
 |some (.struct fs)=>(fs.toList.all fun f=>L.elem f.type) && mJ P 0 (P.cellsOf t) fs.toList
 |some (.array n e)=>L.elem e && Nat.beq (n*P.cellsOf e) (P.cellsOf t)
 |_=>false
theorem zR {w:World} {sz:Nat}:∀(n:Nat) (vs:List Value) (ps:List (List AV)),vs.length=n*sz→ps.length=n→(∀i p,ps[i]? =some p→CM (fun _=>False) w p ((vs.drop (i*sz)).take sz))→CM (fun _=>False) w ps.flatten vs
 |0,vs,ps,h,hp,_=>by
  have h1:vs=[]:=List.eq_nil_of_length_eq_zero (by simpa using h);have h2:ps=[]:=List.eq_nil_of_length_eq_zero hp;subst h1 h2;exact CM.nil _ _
 |n+1,vs,[],_,hp,_=>by cases hp
 |n+1,vs,p::ps,h,hp,hc=>by
  have h0:=hc 0 p rfl;rw[Nat.zero_mul,List.drop_zero]at h0
  have hr:=zR (w:=w) (sz:=sz) n (vs.drop sz) ps (by rw[List.length_drop,h,Nat.add_mul];omega) (by simpa using hp) (fun i q hq=>by
   have:=hc (i+1) q (by simpa using hq);rw[List.drop_drop,show sz+i*sz=(i+1)*sz by rw[Nat.add_mul];omega];exact this)
  rw[List.flatten_cons];have:=h0.append hr
  rwa[List.take_append_drop]at this
theorem sS {P:Program} {w:World} {vs:List Value}:∀(fs:List Field) (off:Nat) (ps:List (List AV)),mJ P off vs.length fs=true→ps.length=fs.length →
 (∀(i:Nat) (f:Field) (p:List AV),fs[i]? =some f→ps[i]? =some p→CM (fun _=>False) w p ((vs.drop f.offset).take (P.cellsOf f.type)))→CM (fun _=>False) w ps.flatten (vs.drop off)
 | [],off,[],h,_,_=>by
  have:=Nat.eq_of_beq_eq_true h;subst this;rw[List.drop_length];exact CM.nil _ _
 | [],_,_::_,_,h,_=>by cases h
 |_::_,_,[],_,h,_=>by cases h
 |f::r,off,p::ps,h,hl,hf=>by
  simp only[mJ,Bool.and_eq_true]at h
  have ho:=Nat.eq_of_beq_eq_true h.1;have h1:=hf 0 f p rfl rfl;have h3:=sS r _ ps h.2 (by simpa using hl) (fun i g q hg hq=>hf (i+1) g q (by simpa using hg) (by simpa using hq));rw[ho]at h1;rw[List.flatten_cons];have:=h1.append h3
  rwa[← List.drop_drop,List.take_append_drop]at this
section
variable {H:Type} {enc:TypeId × Value→H} {W:World} {P:Program} {held:Bool}
theorem Fh {L:List TypeId} (hL:uS P L=true):∀(n:Nat) (t:TypeId) (vs:List Value) (x:DataW H × List MemPlace),t∈L→DataW.trod enc P W 0 (fun _=>true) held n t vs=some x →
 ∃cs,CM (fun _=>False) W cs vs∧tf n x.1=some cs:=by
 intro n
 induction n with
 |zero=>intro t vs x _ h;simp[DataW.trod]at h
 |succ n ih=>
  intro t vs x ht h;have hp:=List.all_eq_true.1 hL t ht;cases hu:P.underlying t with
  |none=>rw[hu]at hp;simp at hp
  |some d=>
   rw[hu]at hp;cases d with
   |bool=>
    obtain⟨b,rfl,rfl⟩:=DataW.trod_bool hu h;exact⟨_,CM.cons (.val rfl) (CM.nil _ _),rfl⟩
   |int k=>
    obtain⟨i,rfl,rfl,h1⟩:=DataW.trod_int hu h;exact⟨_,CM.cons (.val rfl) (CM.nil _ _),rfl⟩
   |string=>
    obtain⟨s,rfl,rfl,h1⟩:=DataW.trod_string hu h;exact⟨_,CM.cons (.val rfl) (CM.nil _ _),by simp[tf]⟩
   |slice e=>
    have he:e∈L:=by simpa using hp
    rcases DataW.trod_slice hu h with⟨rfl,rfl⟩| ⟨a,len,cap,elems,rest,m,hm,rfl,rfl,_,hlc,hcm,hel,hget,_,_⟩
    ·exact⟨_,CM.cons (.emp (Nat.le_refl _) (by omega) (fun _=>rfl)) (CM.nil _ _),rfl⟩
    ·obtain rfl:m=n:=by omega
     have hrow:∀i,i<len→ ∃(r:List AV) (us:List Value),W.cells? 0 (a.add (i*P.cellsOf e)) (P.cellsOf e)=some us∧CM (fun _=>False) W r us∧ ∀y,elems[i]? =some y→tf m y.1=some r:=by
      intro i hi;have h1:=hget i hi;have h2:elems[i]? =some elems[i]:=by simp
      rw[h2]at h1;obtain⟨us,h3,h4⟩:=Option.bind_eq_some_iff.1 h1;obtain⟨r,h5,h6⟩:=ih e us _ he h4;exact⟨r,us,h3,h5,fun y hy=>by rw[h2]at hy;cases hy;exact h6⟩
     have hrows:∀k,k≤len→ ∃rows:List (List AV),rows.length=k∧ ∀i r,rows[i]? =some r→ ∃us:List Value,W.cells? 0 (a.add (i*P.cellsOf e)) (P.cellsOf e)=some us∧CM (fun _=>False) W r us∧ ∀y,elems[i]? =some y→tf m y.1=some r:=by
      intro k
      induction k with
      |zero=>intro _;exact⟨[],rfl,fun i r h=>by simp at h⟩
      |succ k ihk=>
       intro hk;obtain⟨rows,h1,h2⟩:=ihk (by omega);obtain⟨r,us,h3,h4,h5⟩:=hrow k (by omega);refine⟨rows++[r],by simp[h1],fun i q hq=>?_⟩
       by_cases hi:i<rows.length
       ·rw[List.getElem?_append_left hi]at hq;exact h2 i q hq
       ·have hil:=(List.getElem?_eq_some_iff.1 hq).1
        simp at hil
        have:i=k:=by omega
        subst this;rw[List.getElem?_append_right (by omega),h1,Nat.sub_self]at hq
        simp at hq
        subst hq;exact⟨us,h3,h4,h5⟩
     obtain⟨rows,hl,hr⟩:=hrows len (Nat.le_refl _)
     have hmap:i8 (tf m) (elems.map (·.1))=some rows:=by
      refine pg (by simp[hel,hl]) (fun i y r hy h2=>?_);rw[List.getElem?_map]at hy;cases hz:elems[i]? with
      |none=>rw[hz]at hy;cases hy
      |some z=>
       rw[hz]at hy
       simp only[Option.map_some,Option.some.injEq]at hy
       obtain⟨_,_,_,h5⟩:=hr i r h2;rw[← hy];exact h5 z hz
     have hsz:∀r∈rows,r.length=P.cellsOf e:=by
      intro r hm;obtain⟨i,hi⟩:=List.getElem?_of_mem hm;obtain⟨us,h3,h4,_⟩:=hr i r hi;rw[h4.1,(qA h3).1]
     refine⟨[.sl len rows.flatten],CM.cons ?_ (CM.nil _ _),by simp only[tf,hmap,hl]⟩;exact GS (rows:=rows) (by unfold maxLen at hcm;omega) hlc hl hsz (fun i r hi=>by obtain⟨us,h3,h4,_⟩:=hr i r hi;exact⟨us,h3,h4⟩)
   |struct fs=>
    simp only[Bool.and_eq_true]at hp
    obtain⟨xs,m,hm,rfl,hlen,hxl,hget⟩:=DataW.trod_struct hu h;obtain rfl:m=n:=by omega
    have htile:=hp.2;rw[← hlen]at htile
    have hpart:∀k,k≤xs.length→ ∃ps:List (List AV),ps.length=k∧ ∀(i:Nat) (p:List AV) (f:Field),ps[i]? =some p→fs[i]? =some f→CM (fun _=>False) W p ((vs.drop f.offset).take (P.cellsOf f.type))∧ ∀y:DataW H × List MemPlace,xs[i]? =some y→tf m y.1=some p:=by
     intro k
     induction k with
     |zero=>intro _;exact⟨[],rfl,fun i p f h=>by simp at h⟩
     |succ k ihk=>
      intro hk;obtain⟨ps,h1,h2⟩:=ihk (by omega);have hkf:fs[k]? =some (fs[k]'(by omega)):=by simp
      have h3:=hget k _ hkf;have h4:xs[k]? =some xs[k]:=by simp
      rw[h4]at h3;have hfL:fs[k].type∈L:=by have:=List.all_eq_true.1 hp.1 fs[k] (by simp);simpa using this
      obtain⟨p,h5,h6⟩:=ih _ _ _ hfL h3;refine⟨ps++[p],by simp[h1],fun i q f hq hf=>?_⟩
      by_cases hi:i<ps.length
      ·rw[List.getElem?_append_left hi]at hq;exact h2 i q f hq hf
      ·have hil:=(List.getElem?_eq_some_iff.1 hq).1
       simp at hil
       have:i=k:=by omega
       subst this;rw[List.getElem?_append_right (by omega),h1,Nat.sub_self]at hq
       simp at hq
       subst hq;rw[hkf]at hf;cases hf;exact⟨h5,fun y hy=>by rw[h4]at hy;cases hy;exact h6⟩
    obtain⟨ps,h1,h2⟩:=hpart xs.length (Nat.le_refl _);refine⟨ps.flatten,?_,?_⟩
    ·have:=sS (w:=W) (vs:=vs) fs.toList 0 ps htile (by rw[h1,hxl];simp) (fun i f p hf hp=>(h2 i p f hp (by simpa using hf)).1)
     rwa[List.drop_zero]at this
    ·have hmap:i8 (tf m) (xs.map (·.1))=some ps:=by
      refine pg (by simp[h1]) (fun i y p hy hpi=>?_);rw[List.getElem?_map]at hy;cases hz:xs[i]? with
      |none=>rw[hz]at hy;cases hy
      |some z=>
       rw[hz]at hy
       simp only[Option.map_some,Option.some.injEq]at hy
       have hil:i<fs.size:=by rw[← hxl];exact(List.getElem?_eq_some_iff.1 hz).1
       rw[← hy];exact(h2 i p fs[i] hpi (by simp[hil])).2 z hz
     simp only[tf,hmap]
   |array k e=>
    simp only[Bool.and_eq_true]at hp
    have he:e∈L:=by simpa using hp.1
    have hke:=Nat.eq_of_beq_eq_true hp.2;unfold DataW.trod at h;rw[hu]at h
    simp only at h
    have hr:∃xs:List (DataW H × List MemPlace),x.1= .agg (xs.map (·.1))∧vs.length=P.cellsOf t∧(List.range k).mapM (fun i=>DataW.trod enc P W 0 (fun _=>true) held n e ((vs.drop (i*P.cellsOf e)).take (P.cellsOf e)))=some xs:=by
     split at h
     ·rename_i hl
      obtain⟨xs,h1,h2⟩:=Option.map_eq_some_iff.1 h;exact⟨xs,by rw[← h2],hl,h1⟩
     ·cases h
    obtain⟨xs,hx,hlen,hmm⟩:=hr;obtain⟨h1,h2⟩:=xj hmm;rw[List.length_range]at h1
    have hpart:∀j,j≤k→ ∃ps:List (List AV),ps.length=j∧ ∀(i:Nat) (p:List AV),ps[i]? =some p→CM (fun _=>False) W p ((vs.drop (i*P.cellsOf e)).take (P.cellsOf e))∧ ∀y:DataW H × List MemPlace,xs[i]? =some y→tf n y.1=some p:=by
     intro j
     induction j with
     |zero=>intro _;exact⟨[],rfl,fun i p h=>by simp at h⟩
     |succ j ihj=>
      intro hj;obtain⟨ps,h3,h4⟩:=ihj (by omega);obtain⟨y,h5,h6⟩:=h2 j j (List.getElem?_range (by omega));obtain⟨p,h7,h8⟩:=ih _ _ _ he h6;refine⟨ps++[p],by simp[h3],fun i q hq=>?_⟩
      by_cases hi:i<ps.length
      ·rw[List.getElem?_append_left hi]at hq;exact h4 i q hq
      ·have hil:=(List.getElem?_eq_some_iff.1 hq).1
       simp at hil
       have:i=j:=by omega
       subst this;rw[List.getElem?_append_right (by omega),h3,Nat.sub_self]at hq
       simp at hq
       subst hq;exact⟨h7,fun z hz=>by rw[h5]at hz;cases hz;exact h8⟩
    obtain⟨ps,h3,h4⟩:=hpart k (Nat.le_refl _);refine⟨ps.flatten,zR k vs ps (by rw[hlen,← hke]) h3 (fun i p hp=>(h4 i p hp).1),?_⟩
    have hmap:i8 (tf n) (xs.map (·.1))=some ps:=by
     refine pg (by simp[h3,← h1]) (fun i y p hy hpi=>?_);rw[List.getElem?_map]at hy;cases hz:xs[i]? with
     |none=>rw[hz]at hy;cases hy
     |some z=>
      rw[hz]at hy
      simp only[Option.map_some,Option.some.injEq]at hy
      rw[← hy];exact(h4 i p hpi).2 z hz
    rw[hx]
    simp only[tf,hmap]
   |_=>simp at hp
end
end
section
open Go.ChangeShapes Go.WideShapes Go.ChangeAt Go.RowKit Go.Joins
theorem jA {P:Program} {W:World} {name:String} {d:DataW Unit}:∀{laid:List (String × DataW Unit)} {ps:List MemPlace},DataW.LaidVars P W laid ps→(name,d)∈laid →
 ∃g t cs fuel p,P.globalNamed name=some g∧(P.globals[g]?).map (·.type)=some t∧W.var? P name=some cs∧DataW.trod (fun _=>()) P W 0 (fun _=>true) false fuel t cs.toList=some (d,p)
 | [],_,_,h=>by cases h
 |(n,d')::rest,ps,h,hm=>by
  obtain⟨g,t,cs,fuel,p,q,h1,h2,h3,h4,h5,_⟩:=h;rcases List.mem_cons.1 hm with e|e
  ·cases e
   exact⟨g,t,cs,fuel,p,h1,h2,h3,h4⟩
  ·exact jA h5 e
theorem B7:Tryz.prog.cellsOf 123=1:=by kernel_rfl
theorem FG:Tryz.prog.globalNamed "internal/strconv.uint64pow10" =some 3:=by kernel_rfl
theorem Gr:(Tryz.prog.globals[3]?).map (·.type)=some 196:=by kernel_rfl
theorem Ge:Tryz.prog.cellsOf 196=20:=by kernel_rfl
theorem zD {P:Program} {W:World} {laid:List (String × DataW Unit)} {ps:List MemPlace} (hv:DataW.LaidVars P W laid ps) {name:String} {d:DataW Unit} (hm:(name,d)∈laid) {g t:Nat} (hg:P.globalNamed name=some g) (ht:(P.globals[g]?).map (·.type)=some t)
 {L:List TypeId} (hL:uS P L=true) (htL:t∈L) {n:Nat} {cs:List AV} (hav:tf n d=some cs) {S:Nat→Prop} (hS:S=fun _=>False):TV.M S (fun _=>0) ⟨[],[]⟩ W (.rp cs) (.pointer (some ⟨g,0,none⟩)):=by
 subst hS;obtain⟨g',t',c0,fuel,p,h1,h2,h3,h4⟩:=jA hv hm;obtain rfl:=Option.some.inj (hg.symm.trans h1);obtain rfl:=Option.some.inj (ht.symm.trans h2);obtain⟨cs',hc,ha⟩:=Fh hL fuel _ _ _ htL h4;have e:=Aj _ _ _ _ _ ha hav;subst e;unfold World.var? at h3;rw[hg]at h3
 simp only[Option.bind_some]at h3
 split at h3
 ·rename_i c1 e1 f1 hb
  cases h3;refine⟨g,0,fun i=>c0.getD i undef,rfl,fun h=>h,(Array.getElem?_eq_some_iff.1 hb).1,fun i a hi=>?_,fun i a hi=>?_⟩
  ·have hl:i<c0.size:=by have:=(List.getElem?_eq_some_iff.1 hi).1;rw[hc.1]at this;simpa using this
   rw[Nat.zero_add]
   simp[World.cell?,hb,hl]
  ·have hl:i<c0.size:=by have:=(List.getElem?_eq_some_iff.1 hi).1;rw[hc.1]at this;simpa using this
   exact hc.2 i a _ hi (by simp[hl])
 ·cases h3
theorem wQ {α:Type} {g:Nat} {c:α} {r:List (Nat × α)} {k:Nat} {x:α} (h:ak ((g,c)::r) k=some x):(g=k∧c=x)∨ak r k=some x:=by
 by_cases e:g=k
 ·subst e;rw[am]at h;exact .inl ⟨rfl,Option.some.inj h⟩
 ·rw[aD _ _ e]at h;exact .inr h
theorem Bk:Tryz.prog.globalNamed "setsquare/formula.symbols" =some 0:=by kernel_rfl
theorem Bq:(Tryz.prog.globals[0]?).map (·.type)=some 93:=by kernel_rfl
theorem B9:uS Tryz.prog [93,9]=true:=by kernel_rfl
theorem zf:Tryz.prog.globalNamed "setsquare/formula.operands" =some 1:=by kernel_rfl
theorem x6:(Tryz.prog.globals[1]?).map (·.type)=some 95:=by kernel_rfl
theorem zc:uS Tryz.prog [95,3]=true:=by kernel_rfl
theorem z6 {laid:List (String × DataW Unit)} (hp:(laid.all fun x=>x.2.handleName?.isNone)=true) (hm:("internal/strconv.uint64pow10",Rows.laid_internal_strconv_uint64pow10)∈laid)
 (hm2:("setsquare/formula.symbols",Rows.laid_setsquare_formula_symbols)∈laid)
 (hm3:("setsquare/formula.operands",Rows.laid_setsquare_formula_operands)∈laid)
 {W:World} (h:laidMetH Tryz.prog laid W):dO (fun _=>False) W:=by
 rw[MakeChecks.laidMetH_plain _ _ _ hp]at h;obtain⟨ps,hv,_⟩:=h;obtain⟨g,t,cs,fuel,p,h1,h2,h3,h4⟩:=jA hv hm;obtain rfl:=Option.some.inj (FG.symm.trans h1);obtain rfl:=Option.some.inj (Gr.symm.trans h2);have hd:(Rows.laid_internal_strconv_uint64pow10:DataW Unit)=Lib.tabData .u64 Lib.pow10Tab:=rfl;rw[hd]at h4
 have ht:Lib.TabIs Tryz.prog W "internal/strconv.uint64pow10" .u64 Lib.pow10Tab:=by
  unfold Lib.TabIs;rw[h3,← Lib.cells_of_tab underlying196 underlying123 B7 Ge h4]
 refine⟨Lib.tabBelow_of_tabIs ht,fun _ h=>h.elim,fun k cs h=>?_⟩;unfold GT at h;rcases wQ h with⟨rfl,rfl⟩|h
 ·exact zD hv hm2 Bk Bq B9 (by simp) (n:=4) rfl rfl
 rcases wQ h with⟨rfl,rfl⟩|h
 ·exact zD hv hm3 zf x6 zc (by simp) (n:=4) rfl rfl
 cases h
end
def pw:Rat→Nat→Rat
 |q,0=>q
 |q,k+1=>pw q k*((10:Int):Rat)
theorem vl {n:Int} (h:n.natAbs<4294967296):jb 1 (n:Rat):=⟨Sz.small h,Sz.small (z:=1) (by decide)⟩
theorem Dh {q:Rat} {n:Nat} (h:jb n q):∀k,jb (n+k) (pw q k)
 |0=>h
 |k+1=>by
  have:=jb.mul (Dh h k) (vl (n:=10) (by decide))
  rwa[Nat.add_assoc]at this
def dY (k:Nat) (t:List UInt8):List UInt8:=List.replicate (k+1-t.length) 48++t
def iZ (k:Nat) (t:List UInt8):List UInt8:=if 0<k then(dY k t).take ((dY k t).length-k)++[46]++(dY k t).drop ((dY k t).length-k)else dY k t
def jR (q:Rat):Nat→Nat→Option (List UInt8)
 |0,_=>none
 |n+1,k=>if((pw q k).den:Int)=1 then(if(iZ k (fmt (pw q k).num)).length≤40 then some (iZ k (fmt (pw q k).num))else none)else jR q n (k+1)
def fx (q:Rat):Option (List UInt8):=if Cw q<0 then none else jR q 41 0
theorem oP (q:Rat):∀n k,∃K,k≤K∧K≤k+n∧(∀j,k≤j→j<K→ ¬((pw q j).den:Int)=1)∧((K=k+n∧jR q n k=none)∨(K<k+n∧((pw q K).den:Int)=1∧jR q n k=if(iZ K (fmt (pw q K).num)).length≤40 then some (iZ K (fmt (pw q K).num))else none))
 |0,k=>⟨k,Nat.le_refl _,Nat.le_refl _,fun j h1 h2=>by omega, .inl ⟨rfl,rfl⟩⟩
 |n+1,k=>by
  by_cases h:((pw q k).den:Int)=1
  ·exact⟨k,Nat.le_refl _,by omega,fun j h1 h2=>by omega, .inr ⟨by omega,h,by rw[jR,if_pos h]⟩⟩
  ·obtain⟨K,h1,h2,h3,h4⟩:=oP q n (k+1)
   refine⟨K,by omega,by omega,fun j hj hj2=>?_,?_⟩
   ·by_cases e:j=k
    ·subst e;exact h
    ·exact h3 j (by omega) hj2
   ·rw[jR,if_neg h]
    rcases h4 with⟨h5,h6⟩| ⟨h5,h6,h7⟩
    ·exact .inl ⟨by omega,h6⟩
    ·exact .inr ⟨by omega,h6,h7⟩
theorem l9 {q:Rat} (h:¬Cw q<0):∃K,K≤41∧(∀j,j<K→ ¬((pw q j).den:Int)=1)∧((K=41∧fx q=none)∨(K≤40∧((pw q K).den:Int)=1∧fx q=if(iZ K (fmt (pw q K).num)).length≤40 then some (iZ K (fmt (pw q K).num))else none)):=by
 obtain⟨K,h1,h2,h3,h4⟩:=oP q 41 0;refine⟨K,by omega,fun j hj=>h3 j (Nat.zero_le _) hj,?_⟩;rw[fx,if_neg h];rcases h4 with⟨h5,h6⟩| ⟨h5,h6,h7⟩
 ·exact .inl ⟨by omega,h6⟩
 ·exact .inr ⟨by omega,h6,h7⟩
theorem wg (k:Nat) (t:List UInt8):(dY k t).length=max (k+1) t.length:=by
 unfold dY
 simp
 omega
theorem DM (k:Nat) (t:List UInt8) (h:0<k):(iZ k t).length=max (k+1) t.length+1:=by
 have:=wg k t;unfold iZ;rw[if_pos h]
 simp only[List.length_append,List.length_take,List.length_drop,List.length_cons,List.length_nil]
 omega
theorem wj {q:Rat} {n:Nat} (sq:jb n q) (hn:n≤900):∃t,aa Tryz.prog 35 [dQ q] (.tup [dL t,dB (fx q).isSome])∧ ∀u,fx q=some u→t=u:=by
 have cv:aa Tryz.prog 62 [dQ q] (.one (dB true)):=uq q sq (by omega)
 by_cases hneg:Cw q<0
 ·have h0:fx q=none:=by rw[fx,if_pos hneg]
  refine⟨[],?_,fun u h=>by rw[h0]at h;cases h⟩;rw[h0];refine kV func35 ?_;refine kQ (cv) ?_;refine kC (qF q) ?_;refine kB true ?_ ?_
  ·exact decide_eq_true hneg
  exact kF
 ·obtain⟨K,k1,k2,k3⟩:=l9 hneg
  have main:∀t b,(K=41→t=[]∧b=false)→(K≤40→t=iZ K (fmt (pw q K).num)∧b=decide (t.length≤40))→aa Tryz.prog 35 [dQ q] (.tup [dL t,dB b]):=by
   intro t b g1 g2;refine kV func35 ?_;refine kQ (cv) ?_;refine kC (qF q) ?_;refine kB false ?_ ?_
   ·exact decide_eq_false hneg
   refine kW ?_;refine ae (iY 10 (by decide) (by decide) (q:=((10:Int):Rat)) rfl) rfl rfl rfl rfl rfl rfl rfl ?_;refine kW ?_;refine ae (cX 1 (by decide) (by decide)) rfl rfl rfl rfl rfl rfl rfl ?_;refine kW ?_
   refine aS Nat (fun k=>k≤K) (fun k=>⟨[(1, .box 0 0),(2, .d (dL [])),(3, .d (dB false)),(4, .box 3001 0),(5, .box 4001 0),(6, .box 5001 0),(7, .d (dN .i64 k))],[(0,some (aQ q)),(3001,some (aQ ((10:Int):Rat))),(4001,some (aZ 1)),(5001,some (aQ (pw q k)))]⟩) (fun k=>41-k) 0 (Nat.zero_le _)
    (weak ⟨rfl,rfl,rfl,rfl,rfl,rfl,rfl,trivial⟩ ⟨rfl,rfl,rfl,rfl,trivial⟩ rfl) ?_
   intro k hk;have sk:=Dh sq k;refine kI ?_;refine kO ?_
   by_cases h40:k≤40
   ·refine kT ?_
    refine kW ?_;have hcs:=Eo (pw q k).den 1
    by_cases hd1:((pw q k).den:Int)=1
    ·have hkK:k=K:=by
      rcases Nat.lt_or_ge k K with h|h
      ·exact absurd hd1 (k2 k h)
      ·omega
     rw[decide_eq_true hd1]at hcs;obtain⟨rfl,rfl⟩:=g2 (by omega);subst hkK;refine kQ (hcs) ?_;have hlen:(fmt (pw q k).num).length≤10*(n+k)+2:=zU sk.1;refine ae (lM (eD.of_lt sk.1 (by omega))) rfl rfl rfl rfl rfl rfl rfl ?_;unfold iZ dY;generalize fmt (pw q k).num=u at *;refine kW ?_
     refine aS Nat (fun j=>j≤k+1-u.length) (fun j=>⟨[(2, .d (dL [])),(3, .d (dB false)),(7, .d (dN .i64 k)),(8, .d (dL (List.replicate j 48++u)))],[]⟩) (fun j=>k+1-u.length-j) 0 (Nat.zero_le _)
      (weak ⟨rfl,rfl,rfl,rfl,trivial⟩ trivial rfl) ?_
     intro j hj;have hB:(Bs (List.replicate j 48++u)).size=j+u.length:=by rw[aB];simp
     refine kI ?_
     refine kO3 ?_
     by_cases hjk:j+u.length≤k
     ·refine kT ?_
      refine kW ?_;refine aP rfl rfl rfl rfl rfl rfl rfl (ej (a:=[48]) (b:=List.replicate j 48++u) (by simp;omega)) ?_;refine kW ?_;exact⟨j+1,by omega,by omega,weak ⟨rfl,rfl,rfl,rfl,trivial⟩ trivial rfl⟩
     ·refine kE ?_
      obtain rfl:j=k+1-u.length:=by omega
      have hwl:(List.replicate (k+1-u.length) 48++u).length=k+1-u.length+u.length:=by simp
      generalize hwd:List.replicate (k+1-u.length) 48++u=w at *;refine kN ?_;refine av (T:=TT) ?_;refine bK (T:=TT) rfl ?_;refine cV ?_;refine kI ?_;refine kO ?_
      by_cases hk0:0<k
      ·rw[if_pos hk0]
       refine kT ?_;refine kN ?_;refine av (T:=TT) ?_;refine ff (T:=TT) rfl ?_
       repeat(first|refine av (T:=TT) ?_|refine b8 (T:=TT) ?_)
       refine an (T:=TT) rfl ?_
       refine kO4 ?_
       refine kJ ((w.length-k:Nat)) ?_;refine wW ab (l:=w) (i:=w.length-k) (by omega) rfl rfl rfl rfl rfl rfl rfl rfl ?_;refine aP rfl rfl rfl rfl rfl rfl rfl (ej (a:=w.take (w.length-k)) (b:=[46]) (by simp;omega)) ?_
       refine kO4 ?_
       refine kJ ((w.length-k:Nat)) ?_;refine iN ab (l:=w) (i:=w.length-k) (by omega) rfl rfl rfl rfl rfl rfl rfl rfl ?_;refine aP rfl rfl rfl rfl rfl rfl rfl (ej (a:=w.take (w.length-k)++[46]) (b:=w.drop (w.length-k)) (by simp;omega)) ?_;generalize hz:w.take (w.length-k)++[46]++w.drop (w.length-k)=z;have hzB:=aB z;refine kN ?_;refine kI ?_
       refine kO3 ?_
       refine fo (v':= .bool (decide (z.length≤40))) rfl rfl rfl rfl ?_ ?_
       ·exact congrArg Value.bool (decide_eq_decide.2 (by omega))
       exact kF
      ·rw[if_neg hk0]
       refine kE ?_;refine kN ?_;refine av (T:=TT) ?_;refine bK (T:=TT) rfl ?_;refine kI ?_
       refine kO3 ?_
       refine fo (v':= .bool (decide (w.length≤40))) rfl rfl rfl rfl ?_ ?_
       ·exact congrArg Value.bool (decide_eq_decide.2 (by omega))
       exact kF
    ·rw[decide_eq_false hd1]at hcs
     refine kQ (hcs) ?_;refine ae (Cb sk (vl (n:=10) (by decide)) (by omega) (q:=pw q (k+1)) rfl) rfl rfl rfl rfl rfl rfl rfl ?_;refine kW ?_
     exact⟨k+1,by
      rcases Nat.lt_or_ge k K with h|h
      ·exact h
      ·obtain rfl:k=K:=by omega
       rcases k3 with⟨e,_⟩| ⟨_,k3,_⟩
       ·omega
       ·exact absurd k3 hd1,by omega,weak ⟨rfl,rfl,rfl,rfl,rfl,rfl,aG (by omega) (by omega),trivial⟩ ⟨rfl,rfl,rfl,rfl,trivial⟩ rfl⟩
   ·refine kE ?_
    obtain⟨rfl,rfl⟩:=g1 (by omega);exact kF
  rcases k3 with⟨e,h0⟩| ⟨e,h1,h2⟩
  ·refine⟨[],?_,fun u h=>by rw[h0]at h;cases h⟩
   rw[h0];exact main _ _ (fun _=>⟨rfl,rfl⟩) (fun h=>by omega)
  ·refine⟨iZ K (fmt (pw q K).num),?_,fun u h=>?_⟩
   ·have:(fx q).isSome=decide ((iZ K (fmt (pw q K).num)).length≤40):=by
     rw[h2]
     split
     ·rename_i h;simp[h]
     ·rename_i h;simp[h]
    rw[this];exact main _ _ (fun h=>by omega) (fun _=>⟨rfl,rfl⟩)
   ·rw[h2]at h
    split at h
    ·cases h;rfl
    ·cases h
end Go.Proofs.YtikbnnljjeefgaaGreatDoor
